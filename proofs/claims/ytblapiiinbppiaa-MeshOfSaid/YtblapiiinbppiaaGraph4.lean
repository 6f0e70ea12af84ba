import Derived.Test.YtblapiiinbppiaaGraph3
--LOADS loadG1 loadG2 loadAt loadCn loadMo loadE0 loadE1
--AGGLOADS loadArc
namespace Go.Proofs.Ytblapiiinbppiaa
open Go.Rr Go Gr
set_option linter.unusedVariables false
theorem turn1_ct {w : World} {g c1 : Nat} {n most id : Int} {b : Bool} {s : St} {L : List HProp} (hpl : pl id) (htk : (s id.toNat).tk = true) (H : Holds w (pt c1 (.cells #[.bool b] 4 (0, 0)) :: Gh g n most s :: L)) :
    CT Try.prog 124 [.pointer (some ⟨g, 0 + id.toNat * 5, none⟩), .pointer (some ⟨c1, 0, none⟩)] w fun u w' => u = .int .i64 (turnC s id b) ∧ Holds w' (Gh g n most (turnS s id b) :: L) := by
  have p0 := hpl.1
  have p1 := hpl.2
  obtain ⟨ab, cap, es, H⟩ := gh_open.1 (Holds.to (M := Gh g n most s :: pt c1 (.cells #[.bool b] 4 (0, 0)) :: L) H)
  have H := ghO_open.1 H
  have hc := thC_zero.2 ⟨hpl, htk⟩
  refine CT.enter (N := 16) Try.func124 rfl rfl rfl rfl ?_
  refine W.seq (fun K0 hK0 => ?_)
  refine W.region ?_
  refine O.ex (Ex.assign rfl) rfl ?_
  refine O.nil ?_
  refine hK0 _ _ _ ?_
  refine W.seq (fun K1 hK1 => ?_)
  refine W.seq (fun K2 hK2 => ?_)
  refine W.drawTo _ (.take 0 (.take 1 (.take 2 (.take 3 (.take 4 (.take 5 (.take 6 .nil))))))) (mixed) (fun _ _ _ _ h => h) (by assumption) (PP.refl _) (by decide +kernel) (fun w H => ?_)
  refine OQ.ex rfl (fun w H => (Ex.move rfl)) rfl ?_
  refine OQ.ex rfl (fun w H => (by first | exact Ex.nilPtr rfl | exact Ex.nilFunc rfl | exact Ex.nilYield rfl)) rfl ?_
  refine OQ.ex rfl (fun w H => (by first | exact Ex.field0 fld145_0 rfl | exact Ex.field fld145_0 rfl | exact Ex.fieldS fld145_0 rfl)) rfl ?_
  refine OQ.ex rfl (fun w H => (by first | exact Ex.field0 fld119_3 rfl | exact Ex.field fld119_3 rfl | exact Ex.fieldS fld119_3 rfl)) rfl ?_
  refine OQ.ex rfl (fun w H => (by first | exact Ex.loadG1 Try.isAgg4 rfl | exact Ex.loadG2 Try.isAgg4 rfl | exact Ex.loadAt Try.isAgg4 rfl | exact Ex.loadCn Try.isAgg4 rfl | exact Ex.loadMo Try.isAgg4 rfl | exact Ex.loadE0 Try.isAgg4 rfl | exact Ex.loadE1 Try.isAgg4 rfl | exact Ex.loadP Try.isAgg4 rfl | exact Ex.loadR Try.isAgg4 rfl | exact Ex.loadIn1 Try.isAgg4 rfl (Holds.to (by assumption)))) rfl ?_
  refine OQ.ex rfl (fun w H => (by first | exact Ex.loadG1 Try.isAgg4 rfl | exact Ex.loadG2 Try.isAgg4 rfl | exact Ex.loadAt Try.isAgg4 rfl | exact Ex.loadCn Try.isAgg4 rfl | exact Ex.loadMo Try.isAgg4 rfl | exact Ex.loadE0 Try.isAgg4 rfl | exact Ex.loadE1 Try.isAgg4 rfl | exact Ex.loadP Try.isAgg4 rfl | exact Ex.loadR Try.isAgg4 rfl | exact Ex.loadIn1 Try.isAgg4 rfl (Holds.to (by assumption)))) rfl ?_
  refine OQ.ex rfl (fun w H => (Ex.eqlB Try.runUnderlying4 rfl rfl)) rfl ?_
  refine OQ.done ?_
  refine hK2 _ _ _ ?_
  first | refine W.cond_p rfl (fun heq => ?_) (fun hne => ?_) | refine W.cond_b rfl (fun heq => ?_) (fun hne => ?_)
  · refine W.seq (fun K3 hK3 => ?_)
    refine W.region ?_
    refine O.ex (Ex.assign rfl) rfl ?_
    refine O.nil ?_
    refine hK3 _ _ _ ?_
    refine W.ret ?_
    try dsimp only [thenQ, blockQ, retQ]
    first | refine ⟨_, ⟨_, _, rfl, rfl, rfl⟩, ?_⟩ | (refine retD_mark ?_; intro w H; refine ⟨_, ⟨_, _, rfl, rfl, rfl⟩, ?_⟩) | (refine retD_mark2 ?_; intro w H; refine ⟨_, ⟨_, _, rfl, rfl, rfl⟩, ?_⟩)
    first
    | (have e : turnC s id b = 5 := by unfold turnC; rw [if_pos hc, if_pos heq]
       rw [e, show turnS s id b = s from if_neg (by rw [e]; decide)]
       exact ⟨rfl, gh_open.2 ⟨ab, cap, es, ghO_open.2 (Holds.to (by assumption))⟩⟩)
    | (have e : turnC s id b = 0 := by unfold turnC; rw [if_pos hc, if_neg hne]
       rw [e, show turnS s id b = upS s id.toNat (shut (s id.toNat) b) from if_pos e]
       exact ⟨rfl, gh_same (lists_same rfl rfl rfl) (Holds.to (by assumption))⟩)
  · refine W.skip ?_
    refine hK1 _ _ _ ?_
    refine W.seq (fun K4 hK4 => ?_)
    refine W.region ?_
    refine O.ex (Ex.move rfl) rfl ?_
    refine O.ex (by first | exact Ex.loadG1 Try.isAgg4 rfl | exact Ex.loadG2 Try.isAgg4 rfl | exact Ex.loadAt Try.isAgg4 rfl | exact Ex.loadCn Try.isAgg4 rfl | exact Ex.loadMo Try.isAgg4 rfl | exact Ex.loadE0 Try.isAgg4 rfl | exact Ex.loadE1 Try.isAgg4 rfl | exact Ex.loadP Try.isAgg4 rfl | exact Ex.loadR Try.isAgg4 rfl | exact Ex.loadIn1 Try.isAgg4 rfl (Holds.to (by assumption))) rfl ?_
    refine O.ex (by first | exact Ex.nilPtr rfl | exact Ex.nilFunc rfl | exact Ex.nilYield rfl) rfl ?_
    refine O.ex (by first | exact Ex.field0 fld145_0 rfl | exact Ex.field fld145_0 rfl | exact Ex.fieldS fld145_0 rfl) rfl ?_
    refine O.ex (by first | exact Ex.field0 fld119_3 rfl | exact Ex.field fld119_3 rfl | exact Ex.fieldS fld119_3 rfl) rfl ?_
    refine O.storeSl1 (i := id.toNat) (k := 3) (z := shut (s id.toNat) b) Try.sizeOf4 rfl rfl (by omega) (by omega) (by omega) rfl (fun j h1 h2 => by
      have : j = 0 ∨ j = 1 ∨ j = 2 ∨ j = 4 := by omega
      rcases this with rfl | rfl | rfl | rfl <;> rfl) (fun w H => ?_)
    refine O.nil ?_
    refine hK4 _ _ _ ?_
    refine W.seq (fun K5 hK5 => ?_)
    refine W.region ?_
    refine O.ex (Ex.assign rfl) rfl ?_
    refine O.nil ?_
    refine hK5 _ _ _ ?_
    refine W.ret ?_
    try dsimp only [thenQ, blockQ, retQ]
    first | refine ⟨_, ⟨_, _, rfl, rfl, rfl⟩, ?_⟩ | (refine retD_mark ?_; intro w H; refine ⟨_, ⟨_, _, rfl, rfl, rfl⟩, ?_⟩) | (refine retD_mark2 ?_; intro w H; refine ⟨_, ⟨_, _, rfl, rfl, rfl⟩, ?_⟩)
    first
    | (have e : turnC s id b = 5 := by unfold turnC; rw [if_pos hc, if_pos heq]
       rw [e, show turnS s id b = s from if_neg (by rw [e]; decide)]
       exact ⟨rfl, gh_open.2 ⟨ab, cap, es, ghO_open.2 (Holds.to (by assumption))⟩⟩)
    | (have e : turnC s id b = 0 := by unfold turnC; rw [if_pos hc, if_neg hne]
       rw [e, show turnS s id b = upS s id.toNat (shut (s id.toNat) b) from if_pos e]
       exact ⟨rfl, gh_same (lists_same rfl rfl rfl) (Holds.to (by assumption))⟩)
theorem gturn_ct {w : World} {g : Nat} {n most id : Int} {b : Bool} {s : St} {L : List HProp} (H : Holds w (Gh g n most s :: L)) :
    CT Try.prog 112 [.pointer (some ⟨g, 0, none⟩), .int .i64 id, .bool b] w fun u w' => u = .int .i64 (turnC s id b) ∧ Holds w' (Gh g n most (turnS s id b) :: L) := by
  obtain ⟨ab, cap, es, H⟩ := gh_open.1 H
  have H := ghO_open.1 H
  refine CT.enter (N := 11) Try.func112 rfl rfl rfl rfl ?_
  refine W.seq (fun K0 hK0 => ?_)
  refine W.region ?_
  refine O.boxP rfl (fun b5 w H => ?_)
  refine O.ex (Ex.assign rfl) rfl ?_
  refine O.nil ?_
  refine hK0 _ _ _ ?_
  refine W.seq (fun K1 hK1 => ?_)
  refine W.region ?_
  refine O.ex (Ex.move rfl) rfl ?_
  refine O.ex (Ex.move rfl) rfl ?_
  refine O.ex (Ex.makeFunc rfl rfl) rfl ?_
  refine O.callF Try.call109 rfl rfl (CT.mono (gof_ct (g := g) (s := s) (av := avV ab cap n) (k := cnt s) (most := most) (L := pt b5 (.cells #[.bool b] 4 (0, 0)) :: atc ab n.toNat es :: big (endF es s s) (List.range n.toNat) :: L) (R := fun u w' => u = .int .i64 (turnC s id b) ∧ Holds w' (Gh g n most (turnS s id b) :: L)) (Holds.to (by assumption)) (fun hpl htk w' H => VT.fn Try.call124 (turn1_ct (g := g) (n := n) (most := most) (L := L) hpl htk (by
    have H := gh_open.2 ⟨ab, cap, es, ghO_open.2 (Holds.to (M := gcel g s (avV ab cap n) (cnt s) most :: atc ab n.toNat es :: big (endF es s s) (List.range n.toNat) :: pt b5 (.cells #[.bool b] 4 (0, 0)) :: L) H)⟩
    exact Holds.to H))) (fun w' hc H => by
      have e : turnC s id b = thC s id := if_neg hc
      rw [e, show turnS s id b = s from if_neg (by rw [e]; exact hc)]
      exact ⟨rfl, gh_open.2 ⟨ab, cap, es, ghO_open.2 (Holds.to H)⟩⟩)) ?_)
  rintro _ w ⟨rfl, H⟩
  refine O.ex (Ex.assign rfl) rfl ?_
  refine O.nil ?_
  refine hK1 _ _ _ ?_
  refine W.ret ?_
  try dsimp only [thenQ, blockQ, retQ]
  first | refine ⟨_, ⟨_, _, rfl, rfl, rfl⟩, ?_⟩ | (refine retD_mark ?_; intro w H; refine ⟨_, ⟨_, _, rfl, rfl, rfl⟩, ?_⟩) | (refine retD_mark2 ?_; intro w H; refine ⟨_, ⟨_, _, rfl, rfl, rfl⟩, ?_⟩)
  exact ⟨rfl, by first | assumption | exact Holds.to (by assumption)⟩
theorem gClose_ct {w : World} {g : Nat} {n most id : Int} {s : St} {L : List HProp} (H : Holds w (Gh g n most s :: L)) :
    CT Try.prog 89 [.pointer (some ⟨g, 0, none⟩), .int .i64 id] w fun u w' => u = .int .i64 (turnC s id true) ∧ Holds w' (Gh g n most (turnS s id true) :: L) := by
  refine CT.enter (N := 8) Try.func89 rfl rfl rfl rfl ?_
  refine W.seq (fun K0 hK0 => ?_)
  refine W.region ?_
  refine O.ex (Ex.assign rfl) rfl ?_
  refine O.nil ?_
  refine hK0 _ _ _ ?_
  refine W.seq (fun K1 hK1 => ?_)
  refine W.region ?_
  refine O.ex (Ex.move rfl) rfl ?_
  refine O.ex (Ex.move rfl) rfl ?_
  refine O.callF Try.call112 rfl rfl (CT.mono (gturn_ct (Holds.to (by assumption))) ?_)
  rintro _ w ⟨rfl, H⟩
  refine O.ex (Ex.assign rfl) rfl ?_
  refine O.nil ?_
  refine hK1 _ _ _ ?_
  refine W.ret ?_
  try dsimp only [thenQ, blockQ, retQ]
  first | refine ⟨_, ⟨_, _, rfl, rfl, rfl⟩, ?_⟩ | (refine retD_mark ?_; intro w H; refine ⟨_, ⟨_, _, rfl, rfl, rfl⟩, ?_⟩) | (refine retD_mark2 ?_; intro w H; refine ⟨_, ⟨_, _, rfl, rfl, rfl⟩, ?_⟩)
  exact ⟨rfl, by first | assumption | exact Holds.to (by assumption)⟩
theorem gReopen_ct {w : World} {g : Nat} {n most id : Int} {s : St} {L : List HProp} (H : Holds w (Gh g n most s :: L)) :
    CT Try.prog 90 [.pointer (some ⟨g, 0, none⟩), .int .i64 id] w fun u w' => u = .int .i64 (turnC s id false) ∧ Holds w' (Gh g n most (turnS s id false) :: L) := by
  refine CT.enter (N := 8) Try.func90 rfl rfl rfl rfl ?_
  refine W.seq (fun K0 hK0 => ?_)
  refine W.region ?_
  refine O.ex (Ex.assign rfl) rfl ?_
  refine O.nil ?_
  refine hK0 _ _ _ ?_
  refine W.seq (fun K1 hK1 => ?_)
  refine W.region ?_
  refine O.ex (Ex.move rfl) rfl ?_
  refine O.ex (Ex.move rfl) rfl ?_
  refine O.callF Try.call112 rfl rfl (CT.mono (gturn_ct (Holds.to (by assumption))) ?_)
  rintro _ w ⟨rfl, H⟩
  refine O.ex (Ex.assign rfl) rfl ?_
  refine O.nil ?_
  refine hK1 _ _ _ ?_
  refine W.ret ?_
  try dsimp only [thenQ, blockQ, retQ]
  first | refine ⟨_, ⟨_, _, rfl, rfl, rfl⟩, ?_⟩ | (refine retD_mark ?_; intro w H; refine ⟨_, ⟨_, _, rfl, rfl, rfl⟩, ?_⟩) | (refine retD_mark2 ?_; intro w H; refine ⟨_, ⟨_, _, rfl, rfl, rfl⟩, ?_⟩)
  exact ⟨rfl, by first | assumption | exact Holds.to (by assumption)⟩
theorem weigh1_ct {w : World} {g c1 : Nat} {n most id v : Int} {s : St} {L : List HProp} (hpl : pl id) (htk : (s id.toNat).tk = true) (H : Holds w (pt c1 (.cells #[.int .i64 v] 3 (0, 0)) :: Gh g n most s :: L)) :
    CT Try.prog 113 [.pointer (some ⟨g, 0 + id.toNat * 5, none⟩), .pointer (some ⟨c1, 0, none⟩)] w fun u w' => u = .int .i64 0 ∧ Holds w' (Gh g n most (upS s id.toNat (wgt (s id.toNat) v)) :: L) := by
  have p0 := hpl.1
  have p1 := hpl.2
  obtain ⟨ab, cap, es, H⟩ := gh_open.1 (Holds.to (M := Gh g n most s :: pt c1 (.cells #[.int .i64 v] 3 (0, 0)) :: L) H)
  have H := ghO_open.1 H
  refine CT.enter (N := 9) Try.func113 rfl rfl rfl rfl ?_
  refine W.seq (fun K0 hK0 => ?_)
  refine W.region ?_
  refine O.ex (Ex.assign rfl) rfl ?_
  refine O.nil ?_
  refine hK0 _ _ _ ?_
  refine W.seq (fun K1 hK1 => ?_)
  refine W.region ?_
  refine O.ex (Ex.move rfl) rfl ?_
  refine O.ex (by first | exact Ex.loadG1 Try.isAgg3 rfl | exact Ex.loadG2 Try.isAgg3 rfl | exact Ex.loadAt Try.isAgg3 rfl | exact Ex.loadCn Try.isAgg3 rfl | exact Ex.loadMo Try.isAgg3 rfl | exact Ex.loadE0 Try.isAgg3 rfl | exact Ex.loadE1 Try.isAgg3 rfl | exact Ex.loadP Try.isAgg3 rfl | exact Ex.loadR Try.isAgg3 rfl | exact Ex.loadIn1 Try.isAgg3 rfl (Holds.to (by assumption))) rfl ?_
  refine O.ex (by first | exact Ex.nilPtr rfl | exact Ex.nilFunc rfl | exact Ex.nilYield rfl) rfl ?_
  refine O.ex (by first | exact Ex.field0 fld145_0 rfl | exact Ex.field fld145_0 rfl | exact Ex.fieldS fld145_0 rfl) rfl ?_
  refine O.ex (by first | exact Ex.field0 fld119_2 rfl | exact Ex.field fld119_2 rfl | exact Ex.fieldS fld119_2 rfl) rfl ?_
  refine O.storeSl1 (i := id.toNat) (k := 2) (z := wgt (s id.toNat) v) Try.sizeOf3 rfl rfl (by omega) (by omega) (by omega) rfl (fun j h1 h2 => by
    have : j = 0 ∨ j = 1 ∨ j = 3 ∨ j = 4 := by omega
    rcases this with rfl | rfl | rfl | rfl <;> rfl) (fun w H => ?_)
  refine O.nil ?_
  refine hK1 _ _ _ ?_
  refine W.seq (fun K2 hK2 => ?_)
  refine W.region ?_
  refine O.ex (Ex.assign rfl) rfl ?_
  refine O.nil ?_
  refine hK2 _ _ _ ?_
  refine W.ret ?_
  try dsimp only [thenQ, blockQ, retQ]
  first | refine ⟨_, ⟨_, _, rfl, rfl, rfl⟩, ?_⟩ | (refine retD_mark ?_; intro w H; refine ⟨_, ⟨_, _, rfl, rfl, rfl⟩, ?_⟩) | (refine retD_mark2 ?_; intro w H; refine ⟨_, ⟨_, _, rfl, rfl, rfl⟩, ?_⟩)
  exact ⟨rfl, gh_same (lists_same rfl rfl rfl) (Holds.to (by assumption))⟩
theorem gweigh_ct {w : World} {g : Nat} {n most id v : Int} {s : St} {L : List HProp} (H : Holds w (Gh g n most s :: L)) :
    CT Try.prog 91 [.pointer (some ⟨g, 0, none⟩), .int .i64 id, .int .i64 v] w fun u w' => u = .int .i64 (weighC s id v) ∧ Holds w' (Gh g n most (weighS s id v) :: L) := by
  obtain ⟨ab, cap, es, H⟩ := gh_open.1 H
  have H := ghO_open.1 H
  refine CT.enter (N := 14) Try.func91 rfl rfl rfl rfl ?_
  refine W.seq (fun K0 hK0 => ?_)
  refine W.region ?_
  refine O.boxP rfl (fun b5 w H => ?_)
  refine O.ex (Ex.assign rfl) rfl ?_
  refine O.nil ?_
  refine hK0 _ _ _ ?_
  refine W.seq (fun K1 hK1 => ?_)
  refine W.seq (fun K2 hK2 => ?_)
  refine W.region ?_
  refine O.ex (by first | exact Ex.loadG1 Try.isAgg3 rfl | exact Ex.loadG2 Try.isAgg3 rfl | exact Ex.loadAt Try.isAgg3 rfl | exact Ex.loadCn Try.isAgg3 rfl | exact Ex.loadMo Try.isAgg3 rfl | exact Ex.loadE0 Try.isAgg3 rfl | exact Ex.loadE1 Try.isAgg3 rfl | exact Ex.loadP Try.isAgg3 rfl | exact Ex.loadR Try.isAgg3 rfl | exact Ex.loadIn1 Try.isAgg3 rfl (Holds.to (by assumption))) rfl ?_
  refine O.callF Try.call107 rfl rfl (CT.mono (weight_ct (Holds.to (by assumption))) ?_)
  rintro _ w ⟨rfl, H⟩
  refine O.ex (by first | exact Ex.notD rfl | exact Ex.not rfl) rfl ?_
  refine O.nil ?_
  refine hK2 _ _ _ ?_
  first | refine W.cond_p rfl (fun hbad => ?_) (fun hok => ?_) | refine W.cond_b rfl (fun hbad => ?_) (fun hok => ?_)
  · refine W.seq (fun K3 hK3 => ?_)
    refine W.region ?_
    refine O.ex (Ex.assign rfl) rfl ?_
    refine O.nil ?_
    refine hK3 _ _ _ ?_
    refine W.ret ?_
    try dsimp only [thenQ, blockQ, retQ]
    first | refine ⟨_, ⟨_, _, rfl, rfl, rfl⟩, ?_⟩ | (refine retD_mark ?_; intro w H; refine ⟨_, ⟨_, _, rfl, rfl, rfl⟩, ?_⟩) | (refine retD_mark2 ?_; intro w H; refine ⟨_, ⟨_, _, rfl, rfl, rfl⟩, ?_⟩)
    first
    | exact ⟨rfl, Holds.to (by assumption)⟩
    | (have e : weighC s id v = 1 := if_pos hbad
       rw [e, show weighS s id v = s from if_neg (by rw [e]; decide)]
       exact ⟨rfl, gh_open.2 ⟨ab, cap, es, ghO_open.2 (Holds.to (by assumption))⟩⟩)
  · refine W.skip ?_
    refine hK1 _ _ _ ?_
    refine W.seq (fun K4 hK4 => ?_)
    refine W.region ?_
    have hw : wOk v := Decidable.not_not.1 hok
    have hwc : weighC s id v = thC s id := if_neg (fun hh => hh hw)
    refine O.ex (Ex.move rfl) rfl ?_
    refine O.ex (Ex.move rfl) rfl ?_
    refine O.ex (Ex.makeFunc rfl rfl) rfl ?_
    refine O.callF Try.call109 rfl rfl (CT.mono (gof_ct (g := g) (s := s) (av := avV ab cap n) (k := cnt s) (most := most) (L := pt b5 (.cells #[.int .i64 v] 3 (0, 0)) :: atc ab n.toNat es :: big (endF es s s) (List.range n.toNat) :: L) (R := fun u w' => u = .int .i64 (weighC s id v) ∧ Holds w' (Gh g n most (weighS s id v) :: L)) (Holds.to (by assumption)) (fun hpl htk w' H => VT.fn Try.call113 ((weigh1_ct (g := g) (n := n) (most := most) (L := L) hpl htk (by
      have H := gh_open.2 ⟨ab, cap, es, ghO_open.2 (Holds.to (M := gcel g s (avV ab cap n) (cnt s) most :: atc ab n.toNat es :: big (endF es s s) (List.range n.toNat) :: pt b5 (.cells #[.int .i64 v] 3 (0, 0)) :: L) H)⟩
      exact Holds.to H)).mono fun u w' h => by
        have hc := thC_zero.2 ⟨hpl, htk⟩
        rw [hwc, hc, show weighS s id v = upS s id.toNat (wgt (s id.toNat) v) from if_pos (by rw [hwc]; exact hc)]; exact h)) (fun w' hc H => by
        rw [hwc, show weighS s id v = s from if_neg (by rw [hwc]; exact hc)]
        exact ⟨rfl, gh_open.2 ⟨ab, cap, es, ghO_open.2 (Holds.to H)⟩⟩)) ?_)
    rintro _ w ⟨rfl, H⟩
    refine O.ex (Ex.assign rfl) rfl ?_
    refine O.nil ?_
    refine hK4 _ _ _ ?_
    refine W.ret ?_
    try dsimp only [thenQ, blockQ, retQ]
    first | refine ⟨_, ⟨_, _, rfl, rfl, rfl⟩, ?_⟩ | (refine retD_mark ?_; intro w H; refine ⟨_, ⟨_, _, rfl, rfl, rfl⟩, ?_⟩) | (refine retD_mark2 ?_; intro w H; refine ⟨_, ⟨_, _, rfl, rfl, rfl⟩, ?_⟩)
    first
    | exact ⟨rfl, Holds.to (by assumption)⟩
    | (have e : weighC s id v = 1 := if_pos hbad
       rw [e, show weighS s id v = s from if_neg (by rw [e]; decide)]
       exact ⟨rfl, gh_open.2 ⟨ab, cap, es, ghO_open.2 (Holds.to (by assumption))⟩⟩)
def arcQ (s : St) (id : Int) : Arc := if pl id then (s id.toNat).a else Arc.zero
def thB (s : St) (id : Int) : Bool := decide (pl id) && (s id.toNat).tk
theorem gvertices_ct {w : World} {g : Nat} {n most : Int} {s : St} {L : List HProp} (hn : 0 ≤ n) (H : Holds w (Gh g n most s :: L)) :
    CT Try.prog 71 [.pointer (some ⟨g, 0, none⟩)] w fun u w' => u = .int .i64 n ∧ Holds w' (Gh g n most s :: L) := by
  obtain ⟨ab, cap, es, H⟩ := gh_open.1 H
  have H := ghO_open.1 H
  refine CT.enter (N := 8) Try.func71 rfl rfl rfl rfl ?_
  refine W.seq (fun K0 hK0 => ?_)
  refine W.region ?_
  refine O.ex (Ex.assign rfl) rfl ?_
  refine O.nil ?_
  refine hK0 _ _ _ ?_
  refine W.seq (fun K1 hK1 => ?_)
  refine W.region ?_
  refine O.ex (Ex.move rfl) rfl ?_
  refine O.ex (by first | exact Ex.nilPtr rfl | exact Ex.nilFunc rfl | exact Ex.nilYield rfl) rfl ?_
  refine O.ex (by first | exact Ex.field0 fld148_1 rfl | exact Ex.field fld148_1 rfl | exact Ex.fieldS fld148_1 rfl) rfl ?_
  refine O.ex (by first | exact Ex.loadG1 Try.isAgg143 rfl | exact Ex.loadG2 Try.isAgg143 rfl | exact Ex.loadAt Try.isAgg143 rfl | exact Ex.loadCn Try.isAgg143 rfl | exact Ex.loadMo Try.isAgg143 rfl | exact Ex.loadE0 Try.isAgg143 rfl | exact Ex.loadE1 Try.isAgg143 rfl | exact Ex.loadP Try.isAgg143 rfl | exact Ex.loadR Try.isAgg143 rfl | exact Ex.loadIn1 Try.isAgg143 rfl (Holds.to (by assumption))) rfl ?_
  refine O.ex (by first | exact Ex.lenN Try.runUnderlying143 rfl | exact Ex.lenIn Try.runUnderlying143 rfl | exact Ex.lenL Try.runUnderlying143 rfl | exact Ex.len rfl Try.runUnderlying143 rfl) rfl ?_
  refine O.ex (Ex.assign rfl) rfl ?_
  refine O.nil ?_
  refine hK1 _ _ _ ?_
  refine W.ret ?_
  try dsimp only [thenQ, blockQ, retQ]
  first | refine ⟨_, ⟨_, _, rfl, rfl, rfl⟩, ?_⟩ | (refine retD_mark ?_; intro w H; refine ⟨_, ⟨_, _, rfl, rfl, rfl⟩, ?_⟩) | (refine retD_mark2 ?_; intro w H; refine ⟨_, ⟨_, _, rfl, rfl, rfl⟩, ?_⟩)
  exact ⟨congrArg (Value.int .i64) (Int.toNat_of_nonneg hn), gh_open.2 ⟨ab, cap, es, ghO_open.2 (Holds.to (by assumption))⟩⟩
end Go.Proofs.Ytblapiiinbppiaa
