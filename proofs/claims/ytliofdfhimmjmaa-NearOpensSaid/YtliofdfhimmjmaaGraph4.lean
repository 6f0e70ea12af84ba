import Derived.Test.YtliofdfhimmjmaaGraph3
--LOADS loadG1 loadG2 loadAt loadCn loadMo loadE0 loadE1
--AGGLOADS loadArc
namespace Go.Proofs.Ytliofdfhimmjmaa
open Go.Rr Go Gr
set_option linter.unusedVariables false
theorem turn1_ct {w : World} {g c1 : Nat} {n most id : Int} {b : Bool} {s : St} {L : List HProp} (hpl : pl id) (htk : (s id.toNat).tk = true) (H : Holds w (pt c1 (.cells #[.bool b] 4 (0, 0)) :: Gh g n most s :: L)) :
    CT Try.prog 76 [.pointer (some ⟨g, 0 + id.toNat * 5, none⟩), .pointer (some ⟨c1, 0, none⟩)] w fun u w' => u = .int .i64 (turnC s id b) ∧ Holds w' (Gh g n most (turnS s id b) :: L) := by
  have p0 := hpl.1
  have p1 := hpl.2
  obtain ⟨ab, cap, es, H⟩ := gh_open.1 (Holds.to (M := Gh g n most s :: pt c1 (.cells #[.bool b] 4 (0, 0)) :: L) H)
  have H := ghO_open.1 H
  have hc := thC_zero.2 ⟨hpl, htk⟩
  refine CT.enter (N := 16) Try.func76 rfl rfl rfl rfl ?_
  refine W.seq (fun K0 hK0 => ?_)
  refine W.region ?_
  refine O.ex (Ex.assign rfl) rfl ?_
  refine O.nil ?_
  refine hK0 _ _ _ ?_
  refine W.seq (fun K1 hK1 => ?_)
  refine W.seq (fun K2 hK2 => ?_)
  refine W.drawTo _ (.take 0 (.take 1 (.take 2 (.take 3 (.take 4 (.take 5 (.take 6 .nil))))))) (mixed) (fun _ _ _ _ h => h) (by assumption) (PP.refl _) (by decide +kernel) (fun w H => ?_)
  refine OQ.ex rfl (fun w H => (Ex.move rfl)) rfl ?_
  refine OQ.ex rfl (fun w H => (by first | exact Ex.nilPtr rfl | exact Ex.nilFunc rfl | exact Ex.nilYield rfl)) rfl ?_
  refine OQ.ex rfl (fun w H => (by first | exact Ex.field0 fld90_0 rfl | exact Ex.field fld90_0 rfl | exact Ex.fieldS fld90_0 rfl)) rfl ?_
  refine OQ.ex rfl (fun w H => (by first | exact Ex.field0 fld42_3 rfl | exact Ex.field fld42_3 rfl | exact Ex.fieldS fld42_3 rfl)) rfl ?_
  refine OQ.ex rfl (fun w H => (by first | exact Ex.loadG1 Try.isAgg4 rfl | exact Ex.loadG2 Try.isAgg4 rfl | exact Ex.loadAt Try.isAgg4 rfl | exact Ex.loadCn Try.isAgg4 rfl | exact Ex.loadMo Try.isAgg4 rfl | exact Ex.loadE0 Try.isAgg4 rfl | exact Ex.loadE1 Try.isAgg4 rfl | exact Ex.loadP Try.isAgg4 rfl | exact Ex.loadR Try.isAgg4 rfl | exact Ex.loadIn1 Try.isAgg4 rfl (Holds.to (by assumption)))) rfl ?_
  refine OQ.ex rfl (fun w H => (by first | exact Ex.loadG1 Try.isAgg4 rfl | exact Ex.loadG2 Try.isAgg4 rfl | exact Ex.loadAt Try.isAgg4 rfl | exact Ex.loadCn Try.isAgg4 rfl | exact Ex.loadMo Try.isAgg4 rfl | exact Ex.loadE0 Try.isAgg4 rfl | exact Ex.loadE1 Try.isAgg4 rfl | exact Ex.loadP Try.isAgg4 rfl | exact Ex.loadR Try.isAgg4 rfl | exact Ex.loadIn1 Try.isAgg4 rfl (Holds.to (by assumption)))) rfl ?_
  refine OQ.ex rfl (fun w H => (Ex.eqlB Try.runUnderlying4 rfl rfl)) rfl ?_
  refine OQ.done ?_
  refine hK2 _ _ _ ?_
  first | refine W.cond_p rfl (fun heq => ?_) (fun hne => ?_) | refine W.cond_b rfl (fun heq => ?_) (fun hne => ?_)
  · refine W.seq (fun K3 hK3 => ?_)
    refine W.region ?_
    refine O.ex (Ex.assign rfl) rfl ?_
    refine O.nil ?_
    refine hK3 _ _ _ ?_
    refine W.ret ?_
    try dsimp only [thenQ, blockQ, retQ]
    first | refine ⟨_, ⟨_, _, rfl, rfl, rfl⟩, ?_⟩ | (refine retD_mark ?_; intro w H; refine ⟨_, ⟨_, _, rfl, rfl, rfl⟩, ?_⟩) | (refine retD_mark2 ?_; intro w H; refine ⟨_, ⟨_, _, rfl, rfl, rfl⟩, ?_⟩)
    first
    | (have e : turnC s id b = 5 := by unfold turnC; rw [if_pos hc, if_pos heq]
       rw [e, show turnS s id b = s from if_neg (by rw [e]; decide)]
       exact ⟨rfl, gh_open.2 ⟨ab, cap, es, ghO_open.2 (Holds.to (by assumption))⟩⟩)
    | (have e : turnC s id b = 0 := by unfold turnC; rw [if_pos hc, if_neg hne]
       rw [e, show turnS s id b = upS s id.toNat (shut (s id.toNat) b) from if_pos e]
       exact ⟨rfl, gh_same (lists_same rfl rfl rfl) (Holds.to (by assumption))⟩)
  · refine W.skip ?_
    refine hK1 _ _ _ ?_
    refine W.seq (fun K4 hK4 => ?_)
    refine W.region ?_
    refine O.ex (Ex.move rfl) rfl ?_
    refine O.ex (by first | exact Ex.loadG1 Try.isAgg4 rfl | exact Ex.loadG2 Try.isAgg4 rfl | exact Ex.loadAt Try.isAgg4 rfl | exact Ex.loadCn Try.isAgg4 rfl | exact Ex.loadMo Try.isAgg4 rfl | exact Ex.loadE0 Try.isAgg4 rfl | exact Ex.loadE1 Try.isAgg4 rfl | exact Ex.loadP Try.isAgg4 rfl | exact Ex.loadR Try.isAgg4 rfl | exact Ex.loadIn1 Try.isAgg4 rfl (Holds.to (by assumption))) rfl ?_
    refine O.ex (by first | exact Ex.nilPtr rfl | exact Ex.nilFunc rfl | exact Ex.nilYield rfl) rfl ?_
    refine O.ex (by first | exact Ex.field0 fld90_0 rfl | exact Ex.field fld90_0 rfl | exact Ex.fieldS fld90_0 rfl) rfl ?_
    refine O.ex (by first | exact Ex.field0 fld42_3 rfl | exact Ex.field fld42_3 rfl | exact Ex.fieldS fld42_3 rfl) rfl ?_
    refine O.storeSl1 (i := id.toNat) (k := 3) (z := shut (s id.toNat) b) Try.sizeOf4 rfl rfl (by omega) (by omega) (by omega) rfl (fun j h1 h2 => by
      have : j = 0 ∨ j = 1 ∨ j = 2 ∨ j = 4 := by omega
      rcases this with rfl | rfl | rfl | rfl <;> rfl) (fun w H => ?_)
    refine O.nil ?_
    refine hK4 _ _ _ ?_
    refine W.seq (fun K5 hK5 => ?_)
    refine W.region ?_
    refine O.ex (Ex.assign rfl) rfl ?_
    refine O.nil ?_
    refine hK5 _ _ _ ?_
    refine W.ret ?_
    try dsimp only [thenQ, blockQ, retQ]
    first | refine ⟨_, ⟨_, _, rfl, rfl, rfl⟩, ?_⟩ | (refine retD_mark ?_; intro w H; refine ⟨_, ⟨_, _, rfl, rfl, rfl⟩, ?_⟩) | (refine retD_mark2 ?_; intro w H; refine ⟨_, ⟨_, _, rfl, rfl, rfl⟩, ?_⟩)
    first
    | (have e : turnC s id b = 5 := by unfold turnC; rw [if_pos hc, if_pos heq]
       rw [e, show turnS s id b = s from if_neg (by rw [e]; decide)]
       exact ⟨rfl, gh_open.2 ⟨ab, cap, es, ghO_open.2 (Holds.to (by assumption))⟩⟩)
    | (have e : turnC s id b = 0 := by unfold turnC; rw [if_pos hc, if_neg hne]
       rw [e, show turnS s id b = upS s id.toNat (shut (s id.toNat) b) from if_pos e]
       exact ⟨rfl, gh_same (lists_same rfl rfl rfl) (Holds.to (by assumption))⟩)
theorem gturn_ct {w : World} {g : Nat} {n most id : Int} {b : Bool} {s : St} {L : List HProp} (H : Holds w (Gh g n most s :: L)) :
    CT Try.prog 47 [.pointer (some ⟨g, 0, none⟩), .int .i64 id, .bool b] w fun u w' => u = .int .i64 (turnC s id b) ∧ Holds w' (Gh g n most (turnS s id b) :: L) := by
  obtain ⟨ab, cap, es, H⟩ := gh_open.1 H
  have H := ghO_open.1 H
  refine CT.enter (N := 11) Try.func47 rfl rfl rfl rfl ?_
  refine W.seq (fun K0 hK0 => ?_)
  refine W.region ?_
  refine O.boxP rfl (fun b5 w H => ?_)
  refine O.ex (Ex.assign rfl) rfl ?_
  refine O.nil ?_
  refine hK0 _ _ _ ?_
  refine W.seq (fun K1 hK1 => ?_)
  refine W.region ?_
  refine O.ex (Ex.move rfl) rfl ?_
  refine O.ex (Ex.move rfl) rfl ?_
  refine O.ex (Ex.makeFunc rfl rfl) rfl ?_
  refine O.callF Try.call75 rfl rfl (CT.mono (gof_ct (g := g) (s := s) (av := avV ab cap n) (k := cnt s) (most := most) (L := pt b5 (.cells #[.bool b] 4 (0, 0)) :: atc ab n.toNat es :: big (endF es s s) (List.range n.toNat) :: L) (R := fun u w' => u = .int .i64 (turnC s id b) ∧ Holds w' (Gh g n most (turnS s id b) :: L)) (Holds.to (by assumption)) (fun hpl htk w' H => VT.fn Try.call76 (turn1_ct (g := g) (n := n) (most := most) (L := L) hpl htk (by
    have H := gh_open.2 ⟨ab, cap, es, ghO_open.2 (Holds.to (M := gcel g s (avV ab cap n) (cnt s) most :: atc ab n.toNat es :: big (endF es s s) (List.range n.toNat) :: pt b5 (.cells #[.bool b] 4 (0, 0)) :: L) H)⟩
    exact Holds.to H))) (fun w' hc H => by
      have e : turnC s id b = thC s id := if_neg hc
      rw [e, show turnS s id b = s from if_neg (by rw [e]; exact hc)]
      exact ⟨rfl, gh_open.2 ⟨ab, cap, es, ghO_open.2 (Holds.to H)⟩⟩)) ?_)
  rintro _ w ⟨rfl, H⟩
  refine O.ex (Ex.assign rfl) rfl ?_
  refine O.nil ?_
  refine hK1 _ _ _ ?_
  refine W.ret ?_
  try dsimp only [thenQ, blockQ, retQ]
  first | refine ⟨_, ⟨_, _, rfl, rfl, rfl⟩, ?_⟩ | (refine retD_mark ?_; intro w H; refine ⟨_, ⟨_, _, rfl, rfl, rfl⟩, ?_⟩) | (refine retD_mark2 ?_; intro w H; refine ⟨_, ⟨_, _, rfl, rfl, rfl⟩, ?_⟩)
  exact ⟨rfl, by first | assumption | exact Holds.to (by assumption)⟩
theorem gClose_ct {w : World} {g : Nat} {n most id : Int} {s : St} {L : List HProp} (H : Holds w (Gh g n most s :: L)) :
    CT Try.prog 23 [.pointer (some ⟨g, 0, none⟩), .int .i64 id] w fun u w' => u = .int .i64 (turnC s id true) ∧ Holds w' (Gh g n most (turnS s id true) :: L) := by
  refine CT.enter (N := 8) Try.func23 rfl rfl rfl rfl ?_
  refine W.seq (fun K0 hK0 => ?_)
  refine W.region ?_
  refine O.ex (Ex.assign rfl) rfl ?_
  refine O.nil ?_
  refine hK0 _ _ _ ?_
  refine W.seq (fun K1 hK1 => ?_)
  refine W.region ?_
  refine O.ex (Ex.move rfl) rfl ?_
  refine O.ex (Ex.move rfl) rfl ?_
  refine O.callF Try.call47 rfl rfl (CT.mono (gturn_ct (Holds.to (by assumption))) ?_)
  rintro _ w ⟨rfl, H⟩
  refine O.ex (Ex.assign rfl) rfl ?_
  refine O.nil ?_
  refine hK1 _ _ _ ?_
  refine W.ret ?_
  try dsimp only [thenQ, blockQ, retQ]
  first | refine ⟨_, ⟨_, _, rfl, rfl, rfl⟩, ?_⟩ | (refine retD_mark ?_; intro w H; refine ⟨_, ⟨_, _, rfl, rfl, rfl⟩, ?_⟩) | (refine retD_mark2 ?_; intro w H; refine ⟨_, ⟨_, _, rfl, rfl, rfl⟩, ?_⟩)
  exact ⟨rfl, by first | assumption | exact Holds.to (by assumption)⟩
theorem gReopen_ct {w : World} {g : Nat} {n most id : Int} {s : St} {L : List HProp} (H : Holds w (Gh g n most s :: L)) :
    CT Try.prog 24 [.pointer (some ⟨g, 0, none⟩), .int .i64 id] w fun u w' => u = .int .i64 (turnC s id false) ∧ Holds w' (Gh g n most (turnS s id false) :: L) := by
  refine CT.enter (N := 8) Try.func24 rfl rfl rfl rfl ?_
  refine W.seq (fun K0 hK0 => ?_)
  refine W.region ?_
  refine O.ex (Ex.assign rfl) rfl ?_
  refine O.nil ?_
  refine hK0 _ _ _ ?_
  refine W.seq (fun K1 hK1 => ?_)
  refine W.region ?_
  refine O.ex (Ex.move rfl) rfl ?_
  refine O.ex (Ex.move rfl) rfl ?_
  refine O.callF Try.call47 rfl rfl (CT.mono (gturn_ct (Holds.to (by assumption))) ?_)
  rintro _ w ⟨rfl, H⟩
  refine O.ex (Ex.assign rfl) rfl ?_
  refine O.nil ?_
  refine hK1 _ _ _ ?_
  refine W.ret ?_
  try dsimp only [thenQ, blockQ, retQ]
  first | refine ⟨_, ⟨_, _, rfl, rfl, rfl⟩, ?_⟩ | (refine retD_mark ?_; intro w H; refine ⟨_, ⟨_, _, rfl, rfl, rfl⟩, ?_⟩) | (refine retD_mark2 ?_; intro w H; refine ⟨_, ⟨_, _, rfl, rfl, rfl⟩, ?_⟩)
  exact ⟨rfl, by first | assumption | exact Holds.to (by assumption)⟩
theorem weigh1_ct {w : World} {g c1 : Nat} {n most id v : Int} {s : St} {L : List HProp} (hpl : pl id) (htk : (s id.toNat).tk = true) (H : Holds w (pt c1 (.cells #[.int .i64 v] 3 (0, 0)) :: Gh g n most s :: L)) :
    CT Try.prog 89 [.pointer (some ⟨g, 0 + id.toNat * 5, none⟩), .pointer (some ⟨c1, 0, none⟩)] w fun u w' => u = .int .i64 0 ∧ Holds w' (Gh g n most (upS s id.toNat (wgt (s id.toNat) v)) :: L) := by
  have p0 := hpl.1
  have p1 := hpl.2
  obtain ⟨ab, cap, es, H⟩ := gh_open.1 (Holds.to (M := Gh g n most s :: pt c1 (.cells #[.int .i64 v] 3 (0, 0)) :: L) H)
  have H := ghO_open.1 H
  refine CT.enter (N := 9) Try.func89 rfl rfl rfl rfl ?_
  refine W.seq (fun K0 hK0 => ?_)
  refine W.region ?_
  refine O.ex (Ex.assign rfl) rfl ?_
  refine O.nil ?_
  refine hK0 _ _ _ ?_
  refine W.seq (fun K1 hK1 => ?_)
  refine W.region ?_
  refine O.ex (Ex.move rfl) rfl ?_
  refine O.ex (by first | exact Ex.loadG1 Try.isAgg3 rfl | exact Ex.loadG2 Try.isAgg3 rfl | exact Ex.loadAt Try.isAgg3 rfl | exact Ex.loadCn Try.isAgg3 rfl | exact Ex.loadMo Try.isAgg3 rfl | exact Ex.loadE0 Try.isAgg3 rfl | exact Ex.loadE1 Try.isAgg3 rfl | exact Ex.loadP Try.isAgg3 rfl | exact Ex.loadR Try.isAgg3 rfl | exact Ex.loadIn1 Try.isAgg3 rfl (Holds.to (by assumption))) rfl ?_
  refine O.ex (by first | exact Ex.nilPtr rfl | exact Ex.nilFunc rfl | exact Ex.nilYield rfl) rfl ?_
  refine O.ex (by first | exact Ex.field0 fld90_0 rfl | exact Ex.field fld90_0 rfl | exact Ex.fieldS fld90_0 rfl) rfl ?_
  refine O.ex (by first | exact Ex.field0 fld42_2 rfl | exact Ex.field fld42_2 rfl | exact Ex.fieldS fld42_2 rfl) rfl ?_
  refine O.storeSl1 (i := id.toNat) (k := 2) (z := wgt (s id.toNat) v) Try.sizeOf3 rfl rfl (by omega) (by omega) (by omega) rfl (fun j h1 h2 => by
    have : j = 0 ∨ j = 1 ∨ j = 3 ∨ j = 4 := by omega
    rcases this with rfl | rfl | rfl | rfl <;> rfl) (fun w H => ?_)
  refine O.nil ?_
  refine hK1 _ _ _ ?_
  refine W.seq (fun K2 hK2 => ?_)
  refine W.region ?_
  refine O.ex (Ex.assign rfl) rfl ?_
  refine O.nil ?_
  refine hK2 _ _ _ ?_
  refine W.ret ?_
  try dsimp only [thenQ, blockQ, retQ]
  first | refine ⟨_, ⟨_, _, rfl, rfl, rfl⟩, ?_⟩ | (refine retD_mark ?_; intro w H; refine ⟨_, ⟨_, _, rfl, rfl, rfl⟩, ?_⟩) | (refine retD_mark2 ?_; intro w H; refine ⟨_, ⟨_, _, rfl, rfl, rfl⟩, ?_⟩)
  exact ⟨rfl, gh_same (lists_same rfl rfl rfl) (Holds.to (by assumption))⟩
theorem gweigh_ct {w : World} {g : Nat} {n most id v : Int} {s : St} {L : List HProp} (H : Holds w (Gh g n most s :: L)) :
    CT Try.prog 61 [.pointer (some ⟨g, 0, none⟩), .int .i64 id, .int .i64 v] w fun u w' => u = .int .i64 (weighC s id v) ∧ Holds w' (Gh g n most (weighS s id v) :: L) := by
  obtain ⟨ab, cap, es, H⟩ := gh_open.1 H
  have H := ghO_open.1 H
  refine CT.enter (N := 14) Try.func61 rfl rfl rfl rfl ?_
  refine W.seq (fun K0 hK0 => ?_)
  refine W.region ?_
  refine O.boxP rfl (fun b5 w H => ?_)
  refine O.ex (Ex.assign rfl) rfl ?_
  refine O.nil ?_
  refine hK0 _ _ _ ?_
  refine W.seq (fun K1 hK1 => ?_)
  refine W.seq (fun K2 hK2 => ?_)
  refine W.region ?_
  refine O.ex (by first | exact Ex.loadG1 Try.isAgg3 rfl | exact Ex.loadG2 Try.isAgg3 rfl | exact Ex.loadAt Try.isAgg3 rfl | exact Ex.loadCn Try.isAgg3 rfl | exact Ex.loadMo Try.isAgg3 rfl | exact Ex.loadE0 Try.isAgg3 rfl | exact Ex.loadE1 Try.isAgg3 rfl | exact Ex.loadP Try.isAgg3 rfl | exact Ex.loadR Try.isAgg3 rfl | exact Ex.loadIn1 Try.isAgg3 rfl (Holds.to (by assumption))) rfl ?_
  refine O.callF Try.call58 rfl rfl (CT.mono (weight_ct (Holds.to (by assumption))) ?_)
  rintro _ w ⟨rfl, H⟩
  refine O.ex (by first | exact Ex.notD rfl | exact Ex.not rfl) rfl ?_
  refine O.nil ?_
  refine hK2 _ _ _ ?_
  first | refine W.cond_p rfl (fun hbad => ?_) (fun hok => ?_) | refine W.cond_b rfl (fun hbad => ?_) (fun hok => ?_)
  · refine W.seq (fun K3 hK3 => ?_)
    refine W.region ?_
    refine O.ex (Ex.assign rfl) rfl ?_
    refine O.nil ?_
    refine hK3 _ _ _ ?_
    refine W.ret ?_
    try dsimp only [thenQ, blockQ, retQ]
    first | refine ⟨_, ⟨_, _, rfl, rfl, rfl⟩, ?_⟩ | (refine retD_mark ?_; intro w H; refine ⟨_, ⟨_, _, rfl, rfl, rfl⟩, ?_⟩) | (refine retD_mark2 ?_; intro w H; refine ⟨_, ⟨_, _, rfl, rfl, rfl⟩, ?_⟩)
    first
    | exact ⟨rfl, Holds.to (by assumption)⟩
    | (have e : weighC s id v = 1 := if_pos hbad
       rw [e, show weighS s id v = s from if_neg (by rw [e]; decide)]
       exact ⟨rfl, gh_open.2 ⟨ab, cap, es, ghO_open.2 (Holds.to (by assumption))⟩⟩)
  · refine W.skip ?_
    refine hK1 _ _ _ ?_
    refine W.seq (fun K4 hK4 => ?_)
    refine W.region ?_
    have hw : wOk v := Decidable.not_not.1 hok
    have hwc : weighC s id v = thC s id := if_neg (fun hh => hh hw)
    refine O.ex (Ex.move rfl) rfl ?_
    refine O.ex (Ex.move rfl) rfl ?_
    refine O.ex (Ex.makeFunc rfl rfl) rfl ?_
    refine O.callF Try.call75 rfl rfl (CT.mono (gof_ct (g := g) (s := s) (av := avV ab cap n) (k := cnt s) (most := most) (L := pt b5 (.cells #[.int .i64 v] 3 (0, 0)) :: atc ab n.toNat es :: big (endF es s s) (List.range n.toNat) :: L) (R := fun u w' => u = .int .i64 (weighC s id v) ∧ Holds w' (Gh g n most (weighS s id v) :: L)) (Holds.to (by assumption)) (fun hpl htk w' H => VT.fn Try.call89 ((weigh1_ct (g := g) (n := n) (most := most) (L := L) hpl htk (by
      have H := gh_open.2 ⟨ab, cap, es, ghO_open.2 (Holds.to (M := gcel g s (avV ab cap n) (cnt s) most :: atc ab n.toNat es :: big (endF es s s) (List.range n.toNat) :: pt b5 (.cells #[.int .i64 v] 3 (0, 0)) :: L) H)⟩
      exact Holds.to H)).mono fun u w' h => by
        have hc := thC_zero.2 ⟨hpl, htk⟩
        rw [hwc, hc, show weighS s id v = upS s id.toNat (wgt (s id.toNat) v) from if_pos (by rw [hwc]; exact hc)]; exact h)) (fun w' hc H => by
        rw [hwc, show weighS s id v = s from if_neg (by rw [hwc]; exact hc)]
        exact ⟨rfl, gh_open.2 ⟨ab, cap, es, ghO_open.2 (Holds.to H)⟩⟩)) ?_)
    rintro _ w ⟨rfl, H⟩
    refine O.ex (Ex.assign rfl) rfl ?_
    refine O.nil ?_
    refine hK4 _ _ _ ?_
    refine W.ret ?_
    try dsimp only [thenQ, blockQ, retQ]
    first | refine ⟨_, ⟨_, _, rfl, rfl, rfl⟩, ?_⟩ | (refine retD_mark ?_; intro w H; refine ⟨_, ⟨_, _, rfl, rfl, rfl⟩, ?_⟩) | (refine retD_mark2 ?_; intro w H; refine ⟨_, ⟨_, _, rfl, rfl, rfl⟩, ?_⟩)
    first
    | exact ⟨rfl, Holds.to (by assumption)⟩
    | (have e : weighC s id v = 1 := if_pos hbad
       rw [e, show weighS s id v = s from if_neg (by rw [e]; decide)]
       exact ⟨rfl, gh_open.2 ⟨ab, cap, es, ghO_open.2 (Holds.to (by assumption))⟩⟩)
def arcQ (s : St) (id : Int) : Arc := if pl id then (s id.toNat).a else Arc.zero
def thB (s : St) (id : Int) : Bool := decide (pl id) && (s id.toNat).tk
theorem garcO_ct {w : World} {g : Nat} {av : Value} {k most id : Int} {s : St} {L : List HProp} (H : Holds w (gcel g s av k most :: L)) :
    CT Try.prog 40 [.pointer (some ⟨g, 0, none⟩), .int .i64 id] w fun u w' => u = .tuple #[(arcQ s id).val, .bool (thB s id)] ∧ Holds w' (gcel g s av k most :: L) := by
  refine CT.enter (N := 24) Try.func40 rfl rfl rfl rfl ?_
  refine W.seq (fun K0 hK0 => ?_)
  refine W.region ?_
  refine O.allocP Try.zeroValue42 (fun b4 w H => ?_)
  refine O.ex (Ex.assign rfl) rfl ?_
  refine O.nil ?_
  refine hK0 _ _ _ ?_
  refine W.seq (fun K1 hK1 => ?_)
  refine W.seq (fun K2 hK2 => ?_)
  refine W.region ?_
  refine O.ex (Ex.move rfl) rfl ?_
  refine O.callF Try.call56 rfl rfl (CT.mono (place_ct (Holds.to (by assumption))) ?_)
  rintro _ w ⟨rfl, H⟩
  refine O.ex (by first | exact Ex.notD rfl | exact Ex.not rfl) rfl ?_
  refine O.nil ?_
  refine hK2 _ _ _ ?_
  first | refine W.cond_p rfl (fun hA => ?_) (fun hB => ?_) | refine W.cond_b rfl (fun hA => ?_) (fun hB => ?_)
  · refine W.seq (fun K3 hK3 => ?_)
    refine W.region ?_
    refine O.ex (Ex.build rfl (bld42_  )) rfl ?_
    first | refine O.storeAggP Try.sizeOf42 rfl rfl rfl rfl (fun w H => ?_) | refine O.storeAggN Try.sizeOf42 rfl rfl rfl (fun w H => ?_) rfl
    refine O.ex (Ex.assign rfl) rfl ?_
    refine O.nil ?_
    refine hK3 _ _ _ ?_
    refine W.ret ?_
    try dsimp only [thenQ, blockQ, retQ]
    first | refine ⟨_, ⟨_, _, _, rfl, rfl, loadVar_agg Try.isAgg42 Try.sizeOf42, _, _, rfl, rfl, rfl⟩, ?_⟩ | (refine retD_mark ?_; intro w H; refine ⟨_, ⟨_, _, _, rfl, rfl, loadVar_agg Try.isAgg42 Try.sizeOf42, _, _, rfl, rfl, rfl⟩, ?_⟩) | (refine retD_mark2 ?_; intro w H; refine ⟨_, ⟨_, _, _, rfl, rfl, loadVar_agg Try.isAgg42 Try.sizeOf42, _, _, rfl, rfl, rfl⟩, ?_⟩)
    first
    | (unfold thB
       rw [decide_eq_false hA, show arcQ s id = Arc.zero from if_neg hA]
       exact ⟨rfl, Holds.to (by assumption)⟩)
    | (unfold thB
       rw [decide_eq_true hpl, eq]
       exact ⟨rfl, Holds.to (by assumption)⟩)
  · refine W.skip ?_
    refine hK1 _ _ _ ?_
    refine W.seq (fun K4 hK4 => ?_)
    have hpl : pl id := Decidable.not_not.1 hB
    have p0 := hpl.1
    have p1 := hpl.2
    have eq : arcQ s id = (s id.toNat).a := if_pos hpl
    refine W.drawTo (gcel g s av k most :: []) (.take 0 (.take 1 (.take 2 (.take 3 (.take 4 (.take 5 (.take 6 (.take 7 (.take 8 (.take 9 (.take 10 (.take 11 (.take 12 (.take 13 (.one 14 (.take 15 .nil)))))))))))))))) (mixed) (fun _ _ _ _ h => h) (by assumption) PP.auto (by decide +kernel) (fun w H => ?_)
    refine OQ.ex rfl (fun w H => (Ex.move rfl)) rfl ?_
    refine OQ.ex rfl (fun w H => (Ex.move rfl)) rfl ?_
    refine OQ.ex rfl (fun w H => (by first | exact Ex.nilPtr rfl | exact Ex.nilFunc rfl | exact Ex.nilYield rfl)) rfl ?_
    refine OQ.ex rfl (fun w H => (by first | exact Ex.field0 fld93_0 rfl | exact Ex.field fld93_0 rfl | exact Ex.fieldS fld93_0 rfl)) rfl ?_
    refine OQ.ex rfl (fun w H => (Ex.idxArr Try.runUnderlying91 Try.sizeOf90 rfl rfl)) rfl ?_
    refine OQ.ex rfl (fun w H => (by first | exact Ex.field0 fld90_0 rfl | exact Ex.field fld90_0 rfl | exact Ex.fieldS fld90_0 rfl)) rfl ?_
    refine OQ.ex rfl (fun w H => (by first | exact Ex.loadArc Try.isAgg42 Try.sizeOf42 rfl | exact Ex.loadAggP Try.isAgg42 Try.sizeOf42 rfl | exact Ex.loadAggN Try.isAgg42 Try.sizeOf42 rfl | exact Ex.loadIn Try.isAgg42 Try.sizeOf42 rfl (Holds.to (by assumption)))) rfl ?_
    refine OQ.ex rfl (fun w H => (Ex.move rfl)) rfl ?_
    refine OQ.ex rfl (fun w H => (Ex.move rfl)) rfl ?_
    refine OQ.ex rfl (fun w H => (by first | exact Ex.nilPtr rfl | exact Ex.nilFunc rfl | exact Ex.nilYield rfl)) rfl ?_
    refine OQ.ex rfl (fun w H => (by first | exact Ex.field0 fld93_0 rfl | exact Ex.field fld93_0 rfl | exact Ex.fieldS fld93_0 rfl)) rfl ?_
    refine OQ.ex rfl (fun w H => (Ex.idxArr Try.runUnderlying91 Try.sizeOf90 rfl rfl)) rfl ?_
    refine OQ.ex rfl (fun w H => (by first | exact Ex.field0 fld90_1 rfl | exact Ex.field fld90_1 rfl | exact Ex.fieldS fld90_1 rfl)) rfl ?_
    refine OQ.ex rfl (fun w H => (by first | exact Ex.loadG1 Try.isAgg4 rfl | exact Ex.loadG2 Try.isAgg4 rfl | exact Ex.loadAt Try.isAgg4 rfl | exact Ex.loadCn Try.isAgg4 rfl | exact Ex.loadMo Try.isAgg4 rfl | exact Ex.loadE0 Try.isAgg4 rfl | exact Ex.loadE1 Try.isAgg4 rfl | exact Ex.loadP Try.isAgg4 rfl | exact Ex.loadR Try.isAgg4 rfl | exact Ex.loadIn1 Try.isAgg4 rfl (Holds.to (by assumption)))) rfl ?_
    refine OQ.step rfl ?_
    first | refine O.storeAggP Try.sizeOf42 rfl rfl rfl rfl (fun w H => ?_) | refine O.storeAggN Try.sizeOf42 rfl rfl rfl (fun w H => ?_) rfl
    refine O.thenNil ⟨(by first | exact Holds.to (by assumption) | assumption), ?_⟩
    refine OQ.ex rfl (fun w H => (Ex.assign rfl)) rfl ?_
    refine OQ.done ?_
    refine hK4 _ _ _ ?_
    refine W.ret ?_
    try dsimp only [thenQ, blockQ, retQ]
    first | refine ⟨_, ⟨_, _, _, rfl, rfl, loadVar_agg Try.isAgg42 Try.sizeOf42, _, _, rfl, rfl, rfl⟩, ?_⟩ | (refine retD_mark ?_; intro w H; refine ⟨_, ⟨_, _, _, rfl, rfl, loadVar_agg Try.isAgg42 Try.sizeOf42, _, _, rfl, rfl, rfl⟩, ?_⟩) | (refine retD_mark2 ?_; intro w H; refine ⟨_, ⟨_, _, _, rfl, rfl, loadVar_agg Try.isAgg42 Try.sizeOf42, _, _, rfl, rfl, rfl⟩, ?_⟩)
    first
    | (unfold thB
       rw [decide_eq_false hA, show arcQ s id = Arc.zero from if_neg hA]
       exact ⟨rfl, Holds.to (by assumption)⟩)
    | (unfold thB
       rw [decide_eq_true hpl, eq]
       exact ⟨rfl, Holds.to (by assumption)⟩)
theorem garc_ct {w : World} {g : Nat} {n most id : Int} {s : St} {L : List HProp} (H : Holds w (Gh g n most s :: L)) :
    CT Try.prog 40 [.pointer (some ⟨g, 0, none⟩), .int .i64 id] w fun u w' => u = .tuple #[(arcQ s id).val, .bool (thB s id)] ∧ Holds w' (Gh g n most s :: L) := by
  obtain ⟨ab, cap, es, H⟩ := gh_open.1 H
  exact (garcO_ct (ghO_open.1 H)).mono fun u w' h => ⟨h.1, gh_open.2 ⟨ab, cap, es, ghO_open.2 h.2⟩⟩
theorem gvertices_ct {w : World} {g : Nat} {n most : Int} {s : St} {L : List HProp} (hn : 0 ≤ n) (H : Holds w (Gh g n most s :: L)) :
    CT Try.prog 66 [.pointer (some ⟨g, 0, none⟩)] w fun u w' => u = .int .i64 n ∧ Holds w' (Gh g n most s :: L) := by
  obtain ⟨ab, cap, es, H⟩ := gh_open.1 H
  have H := ghO_open.1 H
  refine CT.enter (N := 8) Try.func66 rfl rfl rfl rfl ?_
  refine W.seq (fun K0 hK0 => ?_)
  refine W.region ?_
  refine O.ex (Ex.assign rfl) rfl ?_
  refine O.nil ?_
  refine hK0 _ _ _ ?_
  refine W.seq (fun K1 hK1 => ?_)
  refine W.region ?_
  refine O.ex (Ex.move rfl) rfl ?_
  refine O.ex (by first | exact Ex.nilPtr rfl | exact Ex.nilFunc rfl | exact Ex.nilYield rfl) rfl ?_
  refine O.ex (by first | exact Ex.field0 fld93_1 rfl | exact Ex.field fld93_1 rfl | exact Ex.fieldS fld93_1 rfl) rfl ?_
  refine O.ex (by first | exact Ex.loadG1 Try.isAgg88 rfl | exact Ex.loadG2 Try.isAgg88 rfl | exact Ex.loadAt Try.isAgg88 rfl | exact Ex.loadCn Try.isAgg88 rfl | exact Ex.loadMo Try.isAgg88 rfl | exact Ex.loadE0 Try.isAgg88 rfl | exact Ex.loadE1 Try.isAgg88 rfl | exact Ex.loadP Try.isAgg88 rfl | exact Ex.loadR Try.isAgg88 rfl | exact Ex.loadIn1 Try.isAgg88 rfl (Holds.to (by assumption))) rfl ?_
  refine O.ex (by first | exact Ex.lenN Try.runUnderlying88 rfl | exact Ex.lenIn Try.runUnderlying88 rfl | exact Ex.lenL Try.runUnderlying88 rfl | exact Ex.len rfl Try.runUnderlying88 rfl) rfl ?_
  refine O.ex (Ex.assign rfl) rfl ?_
  refine O.nil ?_
  refine hK1 _ _ _ ?_
  refine W.ret ?_
  try dsimp only [thenQ, blockQ, retQ]
  first | refine ⟨_, ⟨_, _, rfl, rfl, rfl⟩, ?_⟩ | (refine retD_mark ?_; intro w H; refine ⟨_, ⟨_, _, rfl, rfl, rfl⟩, ?_⟩) | (refine retD_mark2 ?_; intro w H; refine ⟨_, ⟨_, _, rfl, rfl, rfl⟩, ?_⟩)
  exact ⟨congrArg (Value.int .i64) (Int.toNat_of_nonneg hn), gh_open.2 ⟨ab, cap, es, ghO_open.2 (Holds.to (by assumption))⟩⟩
end Go.Proofs.Ytliofdfhimmjmaa
