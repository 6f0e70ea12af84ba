import Derived.Test.YtliofdfhimmjmaaGraph2
--LOADS loadG1 loadG2 loadAt loadCn loadMo loadE0 loadE1
--AGGLOADS loadArc
namespace Go.Proofs.Ytliofdfhimmjmaa
open Go.Rr Go Gr
set_option linter.unusedVariables false
theorem gof_ct {w : World} {g : Nat} {av : Value} {most k id : Int} {s : St} {fv : Value} {R : Value → World → Prop} {L : List HProp} (H : Holds w (gcel g s av k most :: L))
    (hin : pl id → (s id.toNat).tk = true → ∀ w', Holds w' (gcel g s av k most :: L) → VT Try.prog fv [.pointer (some ⟨g, 0 + id.toNat * 5, none⟩)] w' R) (hno : ∀ w', thC s id ≠ 0 → Holds w' (gcel g s av k most :: L) → R (.int .i64 (thC s id)) w') :
    CT Try.prog 75 [.pointer (some ⟨g, 0, none⟩), .int .i64 id, fv] w R := by
  refine CT.enter (N := 27) Try.func75 rfl rfl rfl rfl ?_
  refine W.seq (fun K0 hK0 => ?_)
  refine W.region ?_
  refine O.ex (Ex.assign rfl) rfl ?_
  refine O.nil ?_
  refine hK0 _ _ _ ?_
  refine W.seq (fun K1 hK1 => ?_)
  refine W.block ?_
  refine W.seq (fun K2 hK2 => ?_)
  refine W.region ?_
  refine O.ex (Ex.move rfl) rfl ?_
  refine O.callF Try.call56 rfl rfl (CT.mono (place_ct (Holds.to (by assumption))) ?_)
  rintro _ w ⟨rfl, H⟩
  refine O.ex (by first | exact Ex.notD rfl | exact Ex.not rfl) rfl ?_
  refine O.ex (Ex.assign rfl) rfl ?_
  refine O.nil ?_
  refine hK2 _ _ _ ?_
  first | refine W.cond_p rfl (fun hA => ?_) (fun hB => ?_) | refine W.cond_b rfl (fun hA => ?_) (fun hB => ?_)
  · refine W.seq (fun K3 hK3 => ?_)
    refine W.region ?_
    refine O.ex (Ex.assign rfl) rfl ?_
    refine O.nil ?_
    refine hK3 _ _ _ ?_
    refine W.ret ?_
    try dsimp only [thenQ, blockQ, retQ]
    first | refine ⟨_, ⟨_, _, rfl, rfl, rfl⟩, ?_⟩ | (refine retD_mark ?_; intro w H; refine ⟨_, ⟨_, _, rfl, rfl, rfl⟩, ?_⟩) | (refine retD_mark2 ?_; intro w H; refine ⟨_, ⟨_, _, rfl, rfl, rfl⟩, ?_⟩)
    first
    | exact hR
    | (have hc : thC s id = 1 := if_pos hA
       have := hno w (by rw [hc]; decide) (Holds.to (by assumption))
       rw [hc] at this; exact this)
    | (have hc : thC s id = 3 := by unfold thC; rw [if_neg (fun hh => hh hpl), if_neg (by simpa using hC)]
       have := hno w (by rw [hc]; decide) (Holds.to (by assumption))
       rw [hc] at this; exact this)
  · refine W.seq (fun K4 hK4 => ?_)
    refine W.region ?_
    have hpl : pl id := Decidable.not_not.1 hB
    have p0 := hpl.1
    have p1 := hpl.2
    refine O.ex (Ex.move rfl) rfl ?_
    refine O.ex (Ex.move rfl) rfl ?_
    refine O.ex (by first | exact Ex.nilPtr rfl | exact Ex.nilFunc rfl | exact Ex.nilYield rfl) rfl ?_
    refine O.ex (by first | exact Ex.field0 fld93_0 rfl | exact Ex.field fld93_0 rfl | exact Ex.fieldS fld93_0 rfl) rfl ?_
    refine O.ex (Ex.idxArr Try.runUnderlying91 Try.sizeOf90 rfl rfl) rfl ?_
    refine O.ex (by first | exact Ex.field0 fld90_1 rfl | exact Ex.field fld90_1 rfl | exact Ex.fieldS fld90_1 rfl) rfl ?_
    refine O.ex (by first | exact Ex.loadG1 Try.isAgg4 rfl | exact Ex.loadG2 Try.isAgg4 rfl | exact Ex.loadAt Try.isAgg4 rfl | exact Ex.loadCn Try.isAgg4 rfl | exact Ex.loadMo Try.isAgg4 rfl | exact Ex.loadE0 Try.isAgg4 rfl | exact Ex.loadE1 Try.isAgg4 rfl | exact Ex.loadP Try.isAgg4 rfl | exact Ex.loadR Try.isAgg4 rfl | exact Ex.loadIn1 Try.isAgg4 rfl (Holds.to (by assumption))) rfl ?_
    refine O.ex (by first | exact Ex.notD rfl | exact Ex.not rfl) rfl ?_
    refine O.ex (Ex.assign rfl) rfl ?_
    refine O.nil ?_
    refine hK4 _ _ _ ?_
    first | refine W.cond_p rfl (fun hC => ?_) (fun hD => ?_) | refine W.cond_b rfl (fun hC => ?_) (fun hD => ?_)
    · refine W.seq (fun K5 hK5 => ?_)
      refine W.region ?_
      refine O.ex (Ex.assign rfl) rfl ?_
      refine O.nil ?_
      refine hK5 _ _ _ ?_
      refine W.ret ?_
      try dsimp only [thenQ, blockQ, retQ]
      first | refine ⟨_, ⟨_, _, rfl, rfl, rfl⟩, ?_⟩ | (refine retD_mark ?_; intro w H; refine ⟨_, ⟨_, _, rfl, rfl, rfl⟩, ?_⟩) | (refine retD_mark2 ?_; intro w H; refine ⟨_, ⟨_, _, rfl, rfl, rfl⟩, ?_⟩)
      first
      | exact hR
      | (have hc : thC s id = 1 := if_pos hA
         have := hno w (by rw [hc]; decide) (Holds.to (by assumption))
         rw [hc] at this; exact this)
      | (have hc : thC s id = 3 := by unfold thC; rw [if_neg (fun hh => hh hpl), if_neg (by simpa using hC)]
         have := hno w (by rw [hc]; decide) (Holds.to (by assumption))
         rw [hc] at this; exact this)
    · refine W.skip ?_
      refine hK1 _ _ _ ?_
      refine W.seq (fun K6 hK6 => ?_)
      refine W.region ?_
      refine O.ex (Ex.move rfl) rfl ?_
      refine O.ex (Ex.move rfl) rfl ?_
      refine O.ex (Ex.move rfl) rfl ?_
      refine O.ex (by first | exact Ex.nilPtr rfl | exact Ex.nilFunc rfl | exact Ex.nilYield rfl) rfl ?_
      refine O.ex (by first | exact Ex.field0 fld93_0 rfl | exact Ex.field fld93_0 rfl | exact Ex.fieldS fld93_0 rfl) rfl ?_
      refine O.ex (Ex.idxArr Try.runUnderlying91 Try.sizeOf90 rfl rfl) rfl ?_
      refine O.callVT rfl rfl rfl (VT.mono (hin hpl (by simpa using hD) w (Holds.to (by assumption))) ?_)
      rintro _ w hR
      refine O.ex (Ex.assign rfl) rfl ?_
      refine O.nil ?_
      refine hK6 _ _ _ ?_
      refine W.ret ?_
      try dsimp only [thenQ, blockQ, retQ]
      first | refine ⟨_, ⟨_, _, rfl, rfl, rfl⟩, ?_⟩ | (refine retD_mark ?_; intro w H; refine ⟨_, ⟨_, _, rfl, rfl, rfl⟩, ?_⟩) | (refine retD_mark2 ?_; intro w H; refine ⟨_, ⟨_, _, rfl, rfl, rfl⟩, ?_⟩)
      first
      | exact hR
      | (have hc : thC s id = 1 := if_pos hA
         have := hno w (by rw [hc]; decide) (Holds.to (by assumption))
         rw [hc] at this; exact this)
      | (have hc : thC s id = 3 := by unfold thC; rw [if_neg (fun hh => hh hpl), if_neg (by simpa using hC)]
         have := hno w (by rw [hc]; decide) (Holds.to (by assumption))
         rw [hc] at this; exact this)
theorem gh_same {w : World} {g ab cap : Nat} {es : Nat → Value × Value} {n most : Int} {s s' : St} {L : List HProp} (h : (∀ v, outI s' v = outI s v) ∧ (∀ v, inI s' v = inI s v) ∧ cnt s' = cnt s) (H : Holds w (gcel g s' (avV ab cap n) (cnt s) most :: atc ab n.toNat es :: big (endF es s s) (List.range n.toNat) :: L)) : Holds w (Gh g n most s' :: L) := by
  refine gh_open.2 ⟨ab, cap, es, ghO_open.2 ?_⟩
  rw [h.2.2, big_congr (g := endF es s s) (fun k _ => by unfold endF; rw [h.1, h.2.1])]
  exact H
theorem lists_del {s : St} {i : Nat} (hf : (s i).tk = true) : (∀ v, v ≠ (s i).a.t → outI (upS s i Sl.zero) v = outI s v) ∧ (∀ v, v ≠ (s i).a.h → inI (upS s i Sl.zero) v = inI s v) :=
  ⟨fun v hv => outI_other (fun _ e => hv e.symm) (fun h => by cases h), fun v hv => inI_other (fun _ e => hv e.symm) (fun h => by cases h)⟩
set_option maxHeartbeats 4000000 in
theorem del1_ct {w : World} {g c1 c2 : Nat} {n most id : Int} {s : St} {L : List HProp} (hg : GOk n most s) (hpl : pl id) (htk : (s id.toNat).tk = true) (H : Holds w (pt c1 (.cells #[.pointer (some ⟨g, 0, none⟩)] 24 (0, 0)) :: pt c2 (.cells #[.int .i64 id] 3 (0, 0)) :: Gh g n most s :: L)) :
    CT Try.prog 87 [.pointer (some ⟨g, 0 + id.toNat * 5, none⟩), .pointer (some ⟨c1, 0, none⟩), .pointer (some ⟨c2, 0, none⟩)] w fun u w' => u = .int .i64 0 ∧ Holds w' (Gh g n most (upS s id.toNat Sl.zero) :: L) := by
  have n1 := hg.n1
  have n2 := hg.n2
  have p0 := hpl.1
  have p1 := hpl.2
  obtain ⟨ab, cap, es, H⟩ := gh_open.1 (Holds.to (M := Gh g n most s :: pt c1 (.cells #[.pointer (some ⟨g, 0, none⟩)] 24 (0, 0)) :: pt c2 (.cells #[.int .i64 id] 3 (0, 0)) :: L) H)
  have H := ghO_open.1 H
  obtain ⟨q0, q1⟩ := cnt_rng s
  have hok := hg.arc _ htk
  obtain ⟨lo1, lo2⟩ := lists_del htk
  have t0 := hok.1.1.1
  have t1 := hok.1.1.2
  have t2 : (s id.toNat).a.t.toNat < n.toNat := by omega
  have k0 := hok.1.2.1
  have k1 := hok.1.2.2
  have k2 : (s id.toNat).a.h.toNat < n.toNat := by omega
  obtain ⟨s', hs'⟩ : ∃ s', s' = upS s id.toNat Sl.zero := ⟨_, rfl⟩
  have htk' : (s' id.toNat).tk = false := by rw [hs', upS_same]; rfl
  have hot : ∀ i, i ≠ id.toNat → s i = s' i := fun i hi => by rw [hs', upS_other hi]
  rw [← hs'] at lo1 lo2
  refine CT.enter (N := 65) Try.func87 rfl rfl rfl rfl ?_
  refine W.seq (fun K0 hK0 => ?_)
  refine W.region ?_
  refine O.ex (Ex.assign rfl) rfl ?_
  refine O.nil ?_
  refine hK0 _ _ _ ?_
  refine W.seq (fun K1 hK1 => ?_)
  have H := big_takeE t0 t2 (Holds.to (M := big (endF es s s) (List.range n.toNat) :: gcel g s (avV ab cap n) (cnt s) most :: atc ab n.toNat es :: pt c1 (.cells #[.pointer (some ⟨g, 0, none⟩)] 24 (0, 0)) :: pt c2 (.cells #[.int .i64 id] 3 (0, 0)) :: L) H)
  refine W.drawTo (gcel g s (avV ab cap n) (cnt s) most :: atc ab n.toNat es :: pt c1 (.cells #[.pointer (some ⟨g, 0, none⟩)] 24 (0, 0)) :: pt c2 (.cells #[.int .i64 id] 3 (0, 0)) :: []) (.take 0 (.take 1 (.take 2 (.take 3 (.take 4 (.take 5 (.take 6 (.take 7 (.take 8 (.take 9 (.take 10 (.take 11 (.take 12 (.take 13 (.take 14 (.take 15 (.take 16 (.take 17 (.take 18 (.take 19 (.take 20 (.take 21 (.one 22 (.take 23 (.take 24 (.one 25 .nil)))))))))))))))))))))))))) (mixed) (fun _ _ _ _ h => h) (by assumption) PP.auto (by decide +kernel) (fun w H => ?_)
  refine OQ.ex rfl (fun w H => (by first | exact Ex.loadG1 Try.isAgg24 rfl | exact Ex.loadG2 Try.isAgg24 rfl | exact Ex.loadAt Try.isAgg24 rfl | exact Ex.loadCn Try.isAgg24 rfl | exact Ex.loadMo Try.isAgg24 rfl | exact Ex.loadE0 Try.isAgg24 rfl | exact Ex.loadE1 Try.isAgg24 rfl | exact Ex.loadP Try.isAgg24 rfl | exact Ex.loadR Try.isAgg24 rfl | exact Ex.loadIn1 Try.isAgg24 rfl (Holds.to (by assumption)))) rfl ?_
  refine OQ.ex rfl (fun w H => (by first | exact Ex.nilPtr rfl | exact Ex.nilFunc rfl | exact Ex.nilYield rfl)) rfl ?_
  refine OQ.ex rfl (fun w H => (by first | exact Ex.field0 fld93_1 rfl | exact Ex.field fld93_1 rfl | exact Ex.fieldS fld93_1 rfl)) rfl ?_
  refine OQ.ex rfl (fun w H => (by first | exact Ex.loadG1 Try.isAgg88 rfl | exact Ex.loadG2 Try.isAgg88 rfl | exact Ex.loadAt Try.isAgg88 rfl | exact Ex.loadCn Try.isAgg88 rfl | exact Ex.loadMo Try.isAgg88 rfl | exact Ex.loadE0 Try.isAgg88 rfl | exact Ex.loadE1 Try.isAgg88 rfl | exact Ex.loadP Try.isAgg88 rfl | exact Ex.loadR Try.isAgg88 rfl | exact Ex.loadIn1 Try.isAgg88 rfl (Holds.to (by assumption)))) rfl ?_
  refine OQ.ex rfl (fun w H => (Ex.move rfl)) rfl ?_
  refine OQ.ex rfl (fun w H => (by first | exact Ex.nilPtr rfl | exact Ex.nilFunc rfl | exact Ex.nilYield rfl)) rfl ?_
  refine OQ.ex rfl (fun w H => (by first | exact Ex.field0 fld90_0 rfl | exact Ex.field fld90_0 rfl | exact Ex.fieldS fld90_0 rfl)) rfl ?_
  refine OQ.ex rfl (fun w H => (by first | exact Ex.field0 fld42_0 rfl | exact Ex.field fld42_0 rfl | exact Ex.fieldS fld42_0 rfl)) rfl ?_
  refine OQ.ex rfl (fun w H => (by first | exact Ex.loadG1 Try.isAgg3 rfl | exact Ex.loadG2 Try.isAgg3 rfl | exact Ex.loadAt Try.isAgg3 rfl | exact Ex.loadCn Try.isAgg3 rfl | exact Ex.loadMo Try.isAgg3 rfl | exact Ex.loadE0 Try.isAgg3 rfl | exact Ex.loadE1 Try.isAgg3 rfl | exact Ex.loadP Try.isAgg3 rfl | exact Ex.loadR Try.isAgg3 rfl | exact Ex.loadIn1 Try.isAgg3 rfl (Holds.to (by assumption)))) rfl ?_
  refine OQ.ex rfl (fun w H => (by first | exact Ex.loadG1 Try.isAgg24 rfl | exact Ex.loadG2 Try.isAgg24 rfl | exact Ex.loadAt Try.isAgg24 rfl | exact Ex.loadCn Try.isAgg24 rfl | exact Ex.loadMo Try.isAgg24 rfl | exact Ex.loadE0 Try.isAgg24 rfl | exact Ex.loadE1 Try.isAgg24 rfl | exact Ex.loadP Try.isAgg24 rfl | exact Ex.loadR Try.isAgg24 rfl | exact Ex.loadIn1 Try.isAgg24 rfl (Holds.to (by assumption)))) rfl ?_
  refine OQ.ex rfl (fun w H => (by first | exact Ex.nilPtr rfl | exact Ex.nilFunc rfl | exact Ex.nilYield rfl)) rfl ?_
  refine OQ.ex rfl (fun w H => (by first | exact Ex.field0 fld93_1 rfl | exact Ex.field fld93_1 rfl | exact Ex.fieldS fld93_1 rfl)) rfl ?_
  refine OQ.ex rfl (fun w H => (by first | exact Ex.loadG1 Try.isAgg88 rfl | exact Ex.loadG2 Try.isAgg88 rfl | exact Ex.loadAt Try.isAgg88 rfl | exact Ex.loadCn Try.isAgg88 rfl | exact Ex.loadMo Try.isAgg88 rfl | exact Ex.loadE0 Try.isAgg88 rfl | exact Ex.loadE1 Try.isAgg88 rfl | exact Ex.loadP Try.isAgg88 rfl | exact Ex.loadR Try.isAgg88 rfl | exact Ex.loadIn1 Try.isAgg88 rfl (Holds.to (by assumption)))) rfl ?_
  refine OQ.ex rfl (fun w H => (Ex.move rfl)) rfl ?_
  refine OQ.ex rfl (fun w H => (by first | exact Ex.nilPtr rfl | exact Ex.nilFunc rfl | exact Ex.nilYield rfl)) rfl ?_
  refine OQ.ex rfl (fun w H => (by first | exact Ex.field0 fld90_0 rfl | exact Ex.field fld90_0 rfl | exact Ex.fieldS fld90_0 rfl)) rfl ?_
  refine OQ.ex rfl (fun w H => (by first | exact Ex.field0 fld42_0 rfl | exact Ex.field fld42_0 rfl | exact Ex.fieldS fld42_0 rfl)) rfl ?_
  refine OQ.ex rfl (fun w H => (by first | exact Ex.loadG1 Try.isAgg3 rfl | exact Ex.loadG2 Try.isAgg3 rfl | exact Ex.loadAt Try.isAgg3 rfl | exact Ex.loadCn Try.isAgg3 rfl | exact Ex.loadMo Try.isAgg3 rfl | exact Ex.loadE0 Try.isAgg3 rfl | exact Ex.loadE1 Try.isAgg3 rfl | exact Ex.loadP Try.isAgg3 rfl | exact Ex.loadR Try.isAgg3 rfl | exact Ex.loadIn1 Try.isAgg3 rfl (Holds.to (by assumption)))) rfl ?_
  refine OQ.ex rfl (fun w H => (by first | exact Ex.idxN Try.runUnderlying88 Try.sizeOf96 rfl rfl | exact Ex.idxSN Try.runUnderlying88 Try.sizeOf96 rfl rfl | exact Ex.idxIn Try.runUnderlying88 Try.sizeOf96 rfl rfl | exact Ex.idx Try.runUnderlying88 Try.sizeOf96 rfl rfl (by omega) (by omega))) rfl ?_
  refine OQ.ex rfl (fun w H => (by first | exact Ex.field0 fld96_0 rfl | exact Ex.field fld96_0 rfl | exact Ex.fieldS fld96_0 rfl)) rfl ?_
  refine OQ.ex rfl (fun w H => (by first | exact Ex.loadG1 Try.isAgg28 rfl | exact Ex.loadG2 Try.isAgg28 rfl | exact Ex.loadAt Try.isAgg28 rfl | exact Ex.loadCn Try.isAgg28 rfl | exact Ex.loadMo Try.isAgg28 rfl | exact Ex.loadE0 Try.isAgg28 rfl | exact Ex.loadE1 Try.isAgg28 rfl | exact Ex.loadP Try.isAgg28 rfl | exact Ex.loadR Try.isAgg28 rfl | exact Ex.loadIn1 Try.isAgg28 rfl (Holds.to (by assumption)))) rfl ?_
  refine OQ.ex rfl (fun w H => (by first | exact Ex.loadG1 Try.isAgg3 rfl | exact Ex.loadG2 Try.isAgg3 rfl | exact Ex.loadAt Try.isAgg3 rfl | exact Ex.loadCn Try.isAgg3 rfl | exact Ex.loadMo Try.isAgg3 rfl | exact Ex.loadE0 Try.isAgg3 rfl | exact Ex.loadE1 Try.isAgg3 rfl | exact Ex.loadP Try.isAgg3 rfl | exact Ex.loadR Try.isAgg3 rfl | exact Ex.loadIn1 Try.isAgg3 rfl (Holds.to (by assumption)))) rfl ?_
  refine OQ.step rfl ?_
  refine O.callF Try.call88 rfl rfl (CT.mono (withoutI_ct (p := outP s (s id.toNat).a.t) (q := outP s' (s id.toNat).a.t) p0 p1 (by unfold outP; rw [htk]; exact decide_eq_true rfl) (by unfold outP; rw [htk']; rfl) (fun i hi => by unfold outP; rw [hot i hi]) (Holds.to (by assumption))) ?_)
  rintro _ w ⟨hu1, H⟩
  rename_i u1
  refine O.thenNil ⟨(by first | exact Holds.to (by assumption) | assumption), ?_⟩
  refine OQ.ex rfl (fun w H => (by first | exact Ex.idxN Try.runUnderlying88 Try.sizeOf96 rfl rfl | exact Ex.idxSN Try.runUnderlying88 Try.sizeOf96 rfl rfl | exact Ex.idxIn Try.runUnderlying88 Try.sizeOf96 rfl rfl | exact Ex.idx Try.runUnderlying88 Try.sizeOf96 rfl rfl (by omega) (by omega))) rfl ?_
  refine OQ.ex rfl (fun w H => (by first | exact Ex.field0 fld96_0 rfl | exact Ex.field fld96_0 rfl | exact Ex.fieldS fld96_0 rfl)) rfl ?_
  refine OQ.last rfl (by decide +kernel) ?_
  refine O.storeE0 (i := (s id.toNat).a.t) (n := n.toNat) (es := es) Try.sizeOf28 rfl rfl hu1 (fun w H => ?_)
  refine O.nil ?_
  refine hK1 _ _ _ ?_
  refine W.seq (fun K2 hK2 => ?_)
  have H := big_out (so' := s') (so := s) (si := s) (es := es) (u := u1) t0 t2 lo1 (Holds.to (M := arr 3 (Value.int .i64) u1 (lstP (outP s' (s id.toNat).a.t)) :: arr 3 (Value.int .i64) (es (s id.toNat).a.t.toNat).2 (lstP (inP s (s id.toNat).a.t)) :: bigBut (endF es s s) (List.range n.toNat) (s id.toNat).a.t.toNat :: gcel g s (avV ab cap n) (cnt s) most :: atc ab n.toNat (upE es (s id.toNat).a.t.toNat (u1, (es (s id.toNat).a.t.toNat).2)) :: pt c1 (.cells #[.pointer (some ⟨g, 0, none⟩)] 24 (0, 0)) :: pt c2 (.cells #[.int .i64 id] 3 (0, 0)) :: L) H)
  obtain ⟨es1, hes1⟩ : ∃ es1, es1 = upE es (s id.toNat).a.t.toNat (u1, (es (s id.toNat).a.t.toNat).2) := ⟨_, rfl⟩
  rw [← hes1] at H
  have H := big_takeE k0 k2 H
  refine W.drawTo (gcel g s (avV ab cap n) (cnt s) most :: atc ab n.toNat es1 :: pt c1 (.cells #[.pointer (some ⟨g, 0, none⟩)] 24 (0, 0)) :: pt c2 (.cells #[.int .i64 id] 3 (0, 0)) :: []) (.take 0 (.take 1 (.take 2 (.take 3 (.take 4 (.take 5 (.take 6 (.take 7 (.take 8 (.take 9 (.take 10 (.take 11 (.take 12 (.take 13 (.take 14 (.take 15 (.take 16 (.take 17 (.take 18 (.take 19 (.take 20 (.take 21 (.one 22 (.take 23 (.take 24 (.one 25 .nil)))))))))))))))))))))))))) (mixed) (fun _ _ _ _ h => h) (by assumption) PP.auto (by decide +kernel) (fun w H => ?_)
  refine OQ.ex rfl (fun w H => (by first | exact Ex.loadG1 Try.isAgg24 rfl | exact Ex.loadG2 Try.isAgg24 rfl | exact Ex.loadAt Try.isAgg24 rfl | exact Ex.loadCn Try.isAgg24 rfl | exact Ex.loadMo Try.isAgg24 rfl | exact Ex.loadE0 Try.isAgg24 rfl | exact Ex.loadE1 Try.isAgg24 rfl | exact Ex.loadP Try.isAgg24 rfl | exact Ex.loadR Try.isAgg24 rfl | exact Ex.loadIn1 Try.isAgg24 rfl (Holds.to (by assumption)))) rfl ?_
  refine OQ.ex rfl (fun w H => (by first | exact Ex.nilPtr rfl | exact Ex.nilFunc rfl | exact Ex.nilYield rfl)) rfl ?_
  refine OQ.ex rfl (fun w H => (by first | exact Ex.field0 fld93_1 rfl | exact Ex.field fld93_1 rfl | exact Ex.fieldS fld93_1 rfl)) rfl ?_
  refine OQ.ex rfl (fun w H => (by first | exact Ex.loadG1 Try.isAgg88 rfl | exact Ex.loadG2 Try.isAgg88 rfl | exact Ex.loadAt Try.isAgg88 rfl | exact Ex.loadCn Try.isAgg88 rfl | exact Ex.loadMo Try.isAgg88 rfl | exact Ex.loadE0 Try.isAgg88 rfl | exact Ex.loadE1 Try.isAgg88 rfl | exact Ex.loadP Try.isAgg88 rfl | exact Ex.loadR Try.isAgg88 rfl | exact Ex.loadIn1 Try.isAgg88 rfl (Holds.to (by assumption)))) rfl ?_
  refine OQ.ex rfl (fun w H => (Ex.move rfl)) rfl ?_
  refine OQ.ex rfl (fun w H => (by first | exact Ex.nilPtr rfl | exact Ex.nilFunc rfl | exact Ex.nilYield rfl)) rfl ?_
  refine OQ.ex rfl (fun w H => (by first | exact Ex.field0 fld90_0 rfl | exact Ex.field fld90_0 rfl | exact Ex.fieldS fld90_0 rfl)) rfl ?_
  refine OQ.ex rfl (fun w H => (by first | exact Ex.field0 fld42_1 rfl | exact Ex.field fld42_1 rfl | exact Ex.fieldS fld42_1 rfl)) rfl ?_
  refine OQ.ex rfl (fun w H => (by first | exact Ex.loadG1 Try.isAgg3 rfl | exact Ex.loadG2 Try.isAgg3 rfl | exact Ex.loadAt Try.isAgg3 rfl | exact Ex.loadCn Try.isAgg3 rfl | exact Ex.loadMo Try.isAgg3 rfl | exact Ex.loadE0 Try.isAgg3 rfl | exact Ex.loadE1 Try.isAgg3 rfl | exact Ex.loadP Try.isAgg3 rfl | exact Ex.loadR Try.isAgg3 rfl | exact Ex.loadIn1 Try.isAgg3 rfl (Holds.to (by assumption)))) rfl ?_
  refine OQ.ex rfl (fun w H => (by first | exact Ex.loadG1 Try.isAgg24 rfl | exact Ex.loadG2 Try.isAgg24 rfl | exact Ex.loadAt Try.isAgg24 rfl | exact Ex.loadCn Try.isAgg24 rfl | exact Ex.loadMo Try.isAgg24 rfl | exact Ex.loadE0 Try.isAgg24 rfl | exact Ex.loadE1 Try.isAgg24 rfl | exact Ex.loadP Try.isAgg24 rfl | exact Ex.loadR Try.isAgg24 rfl | exact Ex.loadIn1 Try.isAgg24 rfl (Holds.to (by assumption)))) rfl ?_
  refine OQ.ex rfl (fun w H => (by first | exact Ex.nilPtr rfl | exact Ex.nilFunc rfl | exact Ex.nilYield rfl)) rfl ?_
  refine OQ.ex rfl (fun w H => (by first | exact Ex.field0 fld93_1 rfl | exact Ex.field fld93_1 rfl | exact Ex.fieldS fld93_1 rfl)) rfl ?_
  refine OQ.ex rfl (fun w H => (by first | exact Ex.loadG1 Try.isAgg88 rfl | exact Ex.loadG2 Try.isAgg88 rfl | exact Ex.loadAt Try.isAgg88 rfl | exact Ex.loadCn Try.isAgg88 rfl | exact Ex.loadMo Try.isAgg88 rfl | exact Ex.loadE0 Try.isAgg88 rfl | exact Ex.loadE1 Try.isAgg88 rfl | exact Ex.loadP Try.isAgg88 rfl | exact Ex.loadR Try.isAgg88 rfl | exact Ex.loadIn1 Try.isAgg88 rfl (Holds.to (by assumption)))) rfl ?_
  refine OQ.ex rfl (fun w H => (Ex.move rfl)) rfl ?_
  refine OQ.ex rfl (fun w H => (by first | exact Ex.nilPtr rfl | exact Ex.nilFunc rfl | exact Ex.nilYield rfl)) rfl ?_
  refine OQ.ex rfl (fun w H => (by first | exact Ex.field0 fld90_0 rfl | exact Ex.field fld90_0 rfl | exact Ex.fieldS fld90_0 rfl)) rfl ?_
  refine OQ.ex rfl (fun w H => (by first | exact Ex.field0 fld42_1 rfl | exact Ex.field fld42_1 rfl | exact Ex.fieldS fld42_1 rfl)) rfl ?_
  refine OQ.ex rfl (fun w H => (by first | exact Ex.loadG1 Try.isAgg3 rfl | exact Ex.loadG2 Try.isAgg3 rfl | exact Ex.loadAt Try.isAgg3 rfl | exact Ex.loadCn Try.isAgg3 rfl | exact Ex.loadMo Try.isAgg3 rfl | exact Ex.loadE0 Try.isAgg3 rfl | exact Ex.loadE1 Try.isAgg3 rfl | exact Ex.loadP Try.isAgg3 rfl | exact Ex.loadR Try.isAgg3 rfl | exact Ex.loadIn1 Try.isAgg3 rfl (Holds.to (by assumption)))) rfl ?_
  refine OQ.ex rfl (fun w H => (by first | exact Ex.idxN Try.runUnderlying88 Try.sizeOf96 rfl rfl | exact Ex.idxSN Try.runUnderlying88 Try.sizeOf96 rfl rfl | exact Ex.idxIn Try.runUnderlying88 Try.sizeOf96 rfl rfl | exact Ex.idx Try.runUnderlying88 Try.sizeOf96 rfl rfl (by omega) (by omega))) rfl ?_
  refine OQ.ex rfl (fun w H => (by first | exact Ex.field0 fld96_1 rfl | exact Ex.field fld96_1 rfl | exact Ex.fieldS fld96_1 rfl)) rfl ?_
  refine OQ.ex rfl (fun w H => (by first | exact Ex.loadG1 Try.isAgg28 rfl | exact Ex.loadG2 Try.isAgg28 rfl | exact Ex.loadAt Try.isAgg28 rfl | exact Ex.loadCn Try.isAgg28 rfl | exact Ex.loadMo Try.isAgg28 rfl | exact Ex.loadE0 Try.isAgg28 rfl | exact Ex.loadE1 Try.isAgg28 rfl | exact Ex.loadP Try.isAgg28 rfl | exact Ex.loadR Try.isAgg28 rfl | exact Ex.loadIn1 Try.isAgg28 rfl (Holds.to (by assumption)))) rfl ?_
  refine OQ.ex rfl (fun w H => (by first | exact Ex.loadG1 Try.isAgg3 rfl | exact Ex.loadG2 Try.isAgg3 rfl | exact Ex.loadAt Try.isAgg3 rfl | exact Ex.loadCn Try.isAgg3 rfl | exact Ex.loadMo Try.isAgg3 rfl | exact Ex.loadE0 Try.isAgg3 rfl | exact Ex.loadE1 Try.isAgg3 rfl | exact Ex.loadP Try.isAgg3 rfl | exact Ex.loadR Try.isAgg3 rfl | exact Ex.loadIn1 Try.isAgg3 rfl (Holds.to (by assumption)))) rfl ?_
  refine OQ.step rfl ?_
  refine O.callF Try.call88 rfl rfl (CT.mono (withoutI_ct (p := inP s (s id.toNat).a.h) (q := inP s' (s id.toNat).a.h) p0 p1 (by unfold inP; rw [htk]; exact decide_eq_true rfl) (by unfold inP; rw [htk']; rfl) (fun i hi => by unfold inP; rw [hot i hi]) (Holds.to (by assumption))) ?_)
  rintro _ w ⟨hu2, H⟩
  rename_i u2
  refine O.thenNil ⟨(by first | exact Holds.to (by assumption) | assumption), ?_⟩
  refine OQ.ex rfl (fun w H => (by first | exact Ex.idxN Try.runUnderlying88 Try.sizeOf96 rfl rfl | exact Ex.idxSN Try.runUnderlying88 Try.sizeOf96 rfl rfl | exact Ex.idxIn Try.runUnderlying88 Try.sizeOf96 rfl rfl | exact Ex.idx Try.runUnderlying88 Try.sizeOf96 rfl rfl (by omega) (by omega))) rfl ?_
  refine OQ.ex rfl (fun w H => (by first | exact Ex.field0 fld96_1 rfl | exact Ex.field fld96_1 rfl | exact Ex.fieldS fld96_1 rfl)) rfl ?_
  refine OQ.last rfl (by decide +kernel) ?_
  refine O.storeE1 (i := (s id.toNat).a.h) (n := n.toNat) (es := es1) Try.sizeOf28 rfl rfl hu2 (fun w H => ?_)
  refine O.nil ?_
  refine hK2 _ _ _ ?_
  refine W.seq (fun K3 hK3 => ?_)
  refine W.region ?_
  have H := big_in (so := s') (si := s) (si' := s') (es := es1) (u := u2) k0 k2 lo2 (Holds.to (M := arr 3 (Value.int .i64) (es1 (s id.toNat).a.h.toNat).1 (lstP (outP s' (s id.toNat).a.h)) :: arr 3 (Value.int .i64) u2 (lstP (inP s' (s id.toNat).a.h)) :: bigBut (endF es1 s' s) (List.range n.toNat) (s id.toNat).a.h.toNat :: gcel g s (avV ab cap n) (cnt s) most :: atc ab n.toNat (upE es1 (s id.toNat).a.h.toNat ((es1 (s id.toNat).a.h.toNat).1, u2)) :: pt c1 (.cells #[.pointer (some ⟨g, 0, none⟩)] 24 (0, 0)) :: pt c2 (.cells #[.int .i64 id] 3 (0, 0)) :: L) H)
  refine O.ex (Ex.move rfl) rfl ?_
  refine O.ex (Ex.build rfl (bld90_  )) rfl ?_
  refine O.ex (by first | exact Ex.nilPtr rfl | exact Ex.nilFunc rfl | exact Ex.nilYield rfl) rfl ?_
  refine O.storeSl (i := id.toNat) (z := Sl.zero) Try.sizeOf90 rfl rfl rfl (by omega) (by omega) (fun w H => ?_)
  refine O.nil ?_
  refine hK3 _ _ _ ?_
  refine W.seq (fun K4 hK4 => ?_)
  refine W.region ?_
  refine O.ex (by first | exact Ex.loadG1 Try.isAgg24 rfl | exact Ex.loadG2 Try.isAgg24 rfl | exact Ex.loadAt Try.isAgg24 rfl | exact Ex.loadCn Try.isAgg24 rfl | exact Ex.loadMo Try.isAgg24 rfl | exact Ex.loadE0 Try.isAgg24 rfl | exact Ex.loadE1 Try.isAgg24 rfl | exact Ex.loadP Try.isAgg24 rfl | exact Ex.loadR Try.isAgg24 rfl | exact Ex.loadIn1 Try.isAgg24 rfl (Holds.to (by assumption))) rfl ?_
  refine O.ex (by first | exact Ex.nilPtr rfl | exact Ex.nilFunc rfl | exact Ex.nilYield rfl) rfl ?_
  refine O.ex (by first | exact Ex.field0 fld93_2 rfl | exact Ex.field fld93_2 rfl | exact Ex.fieldS fld93_2 rfl) rfl ?_
  refine O.ex (by first | exact Ex.loadG1 Try.isAgg3 rfl | exact Ex.loadG2 Try.isAgg3 rfl | exact Ex.loadAt Try.isAgg3 rfl | exact Ex.loadCn Try.isAgg3 rfl | exact Ex.loadMo Try.isAgg3 rfl | exact Ex.loadE0 Try.isAgg3 rfl | exact Ex.loadE1 Try.isAgg3 rfl | exact Ex.loadP Try.isAgg3 rfl | exact Ex.loadR Try.isAgg3 rfl | exact Ex.loadIn1 Try.isAgg3 rfl (Holds.to (by assumption))) rfl ?_
  refine O.ex (by first | exact Ex.subI rfl rfl | exact Ex.sub rfl rfl rfl) rfl ?_
  refine O.ex (by first | exact Ex.nilPtr rfl | exact Ex.nilFunc rfl | exact Ex.nilYield rfl) rfl ?_
  refine O.ex (by first | exact Ex.field0 fld93_2 rfl | exact Ex.field fld93_2 rfl | exact Ex.fieldS fld93_2 rfl) rfl ?_
  refine O.storeCn Try.sizeOf3 rfl rfl (fun w H => ?_)
  refine O.nil ?_
  refine hK4 _ _ _ ?_
  refine W.seq (fun K5 hK5 => ?_)
  refine W.region ?_
  refine O.ex (Ex.assign rfl) rfl ?_
  refine O.nil ?_
  refine hK5 _ _ _ ?_
  refine W.ret ?_
  try dsimp only [thenQ, blockQ, retQ]
  first | refine ⟨_, ⟨_, _, rfl, rfl, rfl⟩, ?_⟩ | (refine retD_mark ?_; intro w H; refine ⟨_, ⟨_, _, rfl, rfl, rfl⟩, ?_⟩) | (refine retD_mark2 ?_; intro w H; refine ⟨_, ⟨_, _, rfl, rfl, rfl⟩, ?_⟩)
  refine ⟨rfl, gh_open.2 ⟨ab, cap, upE es1 (s id.toNat).a.h.toNat ((es1 (s id.toNat).a.h.toNat).1, u2), ghO_open.2 ?_⟩⟩
  rw [cnt_del (by omega) htk rfl, ← hs']
  rw [← hs'] at H
  exact Holds.to (by assumption)
theorem gdelete_ct {w : World} {g : Nat} {n most id : Int} {s : St} {L : List HProp} (hg : GOk n most s) (H : Holds w (Gh g n most s :: L)) :
    CT Try.prog 60 [.pointer (some ⟨g, 0, none⟩), .int .i64 id] w fun u w' => u = .int .i64 (thC s id) ∧ Holds w' (Gh g n most (delS s id) :: L) := by
  obtain ⟨ab, cap, es, H⟩ := gh_open.1 H
  have H := ghO_open.1 H
  refine CT.enter (N := 9) Try.func60 rfl rfl rfl rfl ?_
  refine W.seq (fun K0 hK0 => ?_)
  refine W.region ?_
  refine O.boxP rfl (fun b2 w H => ?_)
  refine O.boxP rfl (fun b3 w H => ?_)
  refine O.ex (Ex.assign rfl) rfl ?_
  refine O.nil ?_
  refine hK0 _ _ _ ?_
  refine W.seq (fun K1 hK1 => ?_)
  refine W.region ?_
  refine O.ex (by first | exact Ex.loadG1 Try.isAgg24 rfl | exact Ex.loadG2 Try.isAgg24 rfl | exact Ex.loadAt Try.isAgg24 rfl | exact Ex.loadCn Try.isAgg24 rfl | exact Ex.loadMo Try.isAgg24 rfl | exact Ex.loadE0 Try.isAgg24 rfl | exact Ex.loadE1 Try.isAgg24 rfl | exact Ex.loadP Try.isAgg24 rfl | exact Ex.loadR Try.isAgg24 rfl | exact Ex.loadIn1 Try.isAgg24 rfl (Holds.to (by assumption))) rfl ?_
  refine O.ex (by first | exact Ex.loadG1 Try.isAgg3 rfl | exact Ex.loadG2 Try.isAgg3 rfl | exact Ex.loadAt Try.isAgg3 rfl | exact Ex.loadCn Try.isAgg3 rfl | exact Ex.loadMo Try.isAgg3 rfl | exact Ex.loadE0 Try.isAgg3 rfl | exact Ex.loadE1 Try.isAgg3 rfl | exact Ex.loadP Try.isAgg3 rfl | exact Ex.loadR Try.isAgg3 rfl | exact Ex.loadIn1 Try.isAgg3 rfl (Holds.to (by assumption))) rfl ?_
  refine O.ex (Ex.makeFunc rfl rfl) rfl ?_
  refine O.callF Try.call75 rfl rfl (CT.mono (gof_ct (g := g) (s := s) (av := avV ab cap n) (k := cnt s) (most := most) (L := pt b2 (.cells #[.pointer (some ⟨g, 0, none⟩)] 24 (0, 0)) :: pt b3 (.cells #[.int .i64 id] 3 (0, 0)) :: atc ab n.toNat es :: big (endF es s s) (List.range n.toNat) :: L) (R := fun u w' => u = .int .i64 (thC s id) ∧ Holds w' (Gh g n most (delS s id) :: L)) (Holds.to (by assumption)) (fun hpl htk w' H => VT.fn Try.call87 ((del1_ct (g := g) (n := n) (most := most) (L := L) hg hpl htk (by
    have H := gh_open.2 ⟨ab, cap, es, ghO_open.2 (Holds.to (M := gcel g s (avV ab cap n) (cnt s) most :: atc ab n.toNat es :: big (endF es s s) (List.range n.toNat) :: pt b2 (.cells #[.pointer (some ⟨g, 0, none⟩)] 24 (0, 0)) :: pt b3 (.cells #[.int .i64 id] 3 (0, 0)) :: L) H)⟩
    exact Holds.to H)).mono fun u w' h => by
      have hc := thC_zero.2 ⟨hpl, htk⟩
      rw [hc, show delS s id = upS s id.toNat Sl.zero from if_pos hc]; exact h)) (fun w' hc H => by
      rw [show delS s id = s from if_neg hc]
      exact ⟨rfl, gh_open.2 ⟨ab, cap, es, ghO_open.2 (Holds.to H)⟩⟩)) ?_)
  rintro _ w ⟨rfl, H⟩
  refine O.ex (Ex.assign rfl) rfl ?_
  refine O.nil ?_
  refine hK1 _ _ _ ?_
  refine W.ret ?_
  try dsimp only [thenQ, blockQ, retQ]
  first | refine ⟨_, ⟨_, _, rfl, rfl, rfl⟩, ?_⟩ | (refine retD_mark ?_; intro w H; refine ⟨_, ⟨_, _, rfl, rfl, rfl⟩, ?_⟩) | (refine retD_mark2 ?_; intro w H; refine ⟨_, ⟨_, _, rfl, rfl, rfl⟩, ?_⟩)
  exact ⟨rfl, by first | assumption | exact Holds.to (by assumption)⟩
end Go.Proofs.Ytliofdfhimmjmaa
