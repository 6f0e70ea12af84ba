import Derived.Test.YtikdblejkmaloaaDoorBitsTells
namespace Go.Proofs.YtikdblejkmaloaaDoor
open Go.Rr Go
set_option linter.unusedVariables false
theorem back_law (s : Nat) (hs : s < 18446744073709551616) : orL (lstI s) = s :=
  set_eq _ _ (orL_lt _) hs fun i hi => by
    rw [orL_bit _ i hi, Bool.eq_iff_iff, decide_eq_true_eq, mem_lstI s i hi]
theorem in_without (s : Nat) (x y : Int) : inS (s &&& (18446744073709551615 - bitN x)) y = (inS s y && !decide (y = x)) := by
  unfold inS
  by_cases h : 0 ≤ y ∧ y < 64
  · rw [decide_eq_true h, Bool.true_and, Bool.true_and, without_bit s x _ (by omega)]
    congr 2
    exact decide_eq_decide.2 (by omega)
  · rw [decide_eq_false h]; rfl
theorem in_with (s : Nat) (x y : Int) : inS (s ||| bitN x) y = (inS s y || decide (y = x ∧ 0 ≤ y ∧ y < 64)) := by
  unfold inS
  by_cases h : 0 ≤ y ∧ y < 64
  · rw [decide_eq_true h, Bool.true_and, Bool.true_and, with_bit s x _ (by omega)]
    congr 1
    exact decide_eq_decide.2 (by omega)
  · rw [decide_eq_false h, decide_eq_false (by omega)]; rfl
set_option maxHeartbeats 1000000 in
theorem bitsBack_ct {w0 : World} {m x : Int} (hT : TabAt w0) (hm : (Lit.int .u64 m).wf = true) (hx : (Lit.int .i64 x).wf = true) :
    CT Tryd.prog 7 [.int .u64 m, .int .i64 x] w0 fun u w' => u = .bool true ∧ RowKit.Below w0.heap.size w0 w' := by
  have H := Holds.base_refl w0
  obtain ⟨s, rfl, hs⟩ := u64_nat hm
  have hle := lstI_le s
  have hbl := back_law s hs
  have hol := orL_lt (lstI s)
  have ho := or_lt s (bitN x) hs (bitN_lt x)
  have ha := and_lt s (18446744073709551615 - bitN x) hs
  have hi1 : inS (s &&& (18446744073709551615 - bitN x)) x = false := by rw [in_without]; simp
  have hi2 : inS (s ||| bitN x) x = decide (0 ≤ x ∧ x < 64) := by
    rw [in_with]
    by_cases h : 0 ≤ x ∧ x < 64
    · simp [h]
    · rw [show inS s x = false from by unfold inS; rw [decide_eq_false h, Bool.false_and]]; simp [h]
  refine CT.enter (N := 70) Tryd.func7 rfl rfl rfl rfl ?_
  refine W.seq (fun K0 hK0 => ?_)
  refine W.region ?_
  refine O.ex (Ex.assign rfl) rfl ?_
  refine O.nil ?_
  refine hK0 _ _ _ ?_
  refine W.seq (fun K1 hK1 => ?_)
  refine W.seq (fun K2 hK2 => ?_)
  refine W.region ?_
  refine O.callF Tryd.call8 rfl rfl (CT.mono (awake03_ct hT (Holds.to (by assumption))) ?_)
  rintro _ w ⟨rfl, H⟩
  refine O.ex (by first | exact Ex.notD rfl | exact Ex.not rfl) rfl ?_
  refine O.nil ?_
  refine hK2 _ _ _ ?_
  refine W.known_f rfl (by first | rfl | decide | exact hi1 | exact decide_eq_false (fun hh => hh hbl) | (rw [hi2]; first | rw [decide_eq_true hx0] | rw [decide_eq_false hx0]; simp; done) | (rw [hi2]; simp; omega) | (rw [in_with, decide_eq_false (show ¬ ((i : Int) = x ∧ 0 ≤ (i : Int) ∧ (i : Int) < 64) from fun hh => hne hh.1)]; simp; done) | (rw [in_without, decide_eq_false (show ¬ ((i : Int) = x) from hne)]; simp; done)) ?_
  refine W.skip ?_
  refine hK1 _ _ _ ?_
  refine W.seq (fun K3 hK3 => ?_)
  refine W.region ?_
  refine O.ex (Ex.move rfl) rfl ?_
  refine O.ex (Ex.assign rfl) rfl ?_
  refine O.nil ?_
  refine hK3 _ _ _ ?_
  refine W.seq (fun K4 hK4 => ?_)
  refine W.seq (fun K5 hK5 => ?_)
  refine W.region ?_
  refine O.ex (Ex.move rfl) rfl ?_
  refine O.callF Tryd.call17 rfl rfl (CT.mono (list_ct hT (Holds.to (by assumption)) hs) ?_)
  rintro _ w ⟨hvb, H⟩
  rename_i v11
  refine O.callF Tryd.call21 rfl rfl (CT.mono (ofA_ct (Holds.to (by assumption)) (by omega)) ?_)
  rintro _ w ⟨rfl, H⟩
  refine O.ex (Ex.move rfl) rfl ?_
  refine O.ex (Ex.neq64 _ _ rfl rfl) rfl ?_
  refine O.ex (Ex.move rfl) rfl ?_
  refine O.known (t := 15) (c := false) rfl (by first | rfl | decide | exact hi1 | exact decide_eq_false (fun hh => hh hbl) | (rw [hi2]; first | rw [decide_eq_true hx0] | rw [decide_eq_false hx0]; simp; done) | (rw [hi2]; simp; omega) | (rw [in_with, decide_eq_false (show ¬ ((i : Int) = x ∧ 0 ≤ (i : Int) ∧ (i : Int) < 64) from fun hh => hne hh.1)]; simp; done) | (rw [in_without, decide_eq_false (show ¬ ((i : Int) = x) from hne)]; simp; done)) ?_
  refine O.guard_t rfl rfl ?_
  refine O.ex (Ex.move rfl) rfl ?_
  refine O.guard_t rfl rfl ?_
  refine O.ex (Ex.move rfl) rfl ?_
  refine O.guard_t rfl rfl ?_
  refine O.callF Tryd.call20 rfl rfl (CT.mono (without_ct (Holds.to (by assumption)) hs) ?_)
  rintro _ w ⟨rfl, H⟩
  refine O.guard_t rfl rfl ?_
  refine O.ex (Ex.move rfl) rfl ?_
  refine O.guard_t rfl rfl ?_
  refine O.callF Tryd.call14 rfl rfl (CT.mono (has_ct (Holds.to (by assumption)) (by assumption)) ?_)
  rintro _ w ⟨rfl, H⟩
  refine O.ex (Ex.pick_f rfl rfl) rfl ?_
  refine O.ex (Ex.move rfl) rfl ?_
  refine O.known (t := 22) (c := false) rfl (by first | rfl | decide | exact hi1 | exact decide_eq_false (fun hh => hh hbl) | (rw [hi2]; first | rw [decide_eq_true hx0] | rw [decide_eq_false hx0]; simp; done) | (rw [hi2]; simp; omega) | (rw [in_with, decide_eq_false (show ¬ ((i : Int) = x ∧ 0 ≤ (i : Int) ∧ (i : Int) < 64) from fun hh => hne hh.1)]; simp; done) | (rw [in_without, decide_eq_false (show ¬ ((i : Int) = x) from hne)]; simp; done)) ?_
  refine O.guard_t rfl rfl ?_
  refine O.ex (Ex.move rfl) rfl ?_
  refine O.guard_t rfl rfl ?_
  refine O.ex (Ex.move rfl) rfl ?_
  refine O.guard_t rfl rfl ?_
  refine O.callF Tryd.call19 rfl rfl (CT.mono (with_ct (Holds.to (by assumption)) hs) ?_)
  rintro _ w ⟨rfl, H⟩
  refine O.guard_t rfl rfl ?_
  refine O.ex (Ex.move rfl) rfl ?_
  refine O.guard_t rfl rfl ?_
  refine O.callF Tryd.call14 rfl rfl (CT.mono (has_ct (Holds.to (by assumption)) (by assumption)) ?_)
  rintro _ w ⟨rfl, H⟩
  refine O.guard_t rfl rfl ?_
  refine O.ex (Ex.move rfl) rfl ?_
  refine O.guard_t rfl rfl ?_
  refine O.ex (Ex.geq rfl rfl) rfl ?_
  refine O.guard_t rfl rfl ?_
  refine O.ex (Ex.move rfl) rfl ?_
  first | refine O.split_p (t := 30) rfl (fun hx0 => ?_) (fun hx0 => ?_) | refine O.split (t := 30) rfl (fun hx0 => ?_) (fun hx0 => ?_)
  · refine O.guard_t rfl rfl ?_
    refine O.ex (Ex.move rfl) rfl ?_
    refine O.guard_t rfl rfl ?_
    refine O.ex (Ex.lss rfl rfl) rfl ?_
    refine O.guard_t rfl rfl ?_
    refine O.ex (Ex.pick_t rfl rfl) rfl ?_
    refine O.guard_t rfl rfl ?_
    refine O.ex (Ex.neqB Tryd.runUnderlying4 rfl rfl) rfl ?_
    refine O.ex (Ex.pick_f rfl rfl) rfl ?_
    refine O.nil ?_
    refine hK5 _ _ _ ?_
    refine W.known_f rfl (by first | rfl | decide | exact hi1 | exact decide_eq_false (fun hh => hh hbl) | (rw [hi2]; first | rw [decide_eq_true hx0] | rw [decide_eq_false hx0]; simp; done) | (rw [hi2]; simp; omega) | (rw [in_with, decide_eq_false (show ¬ ((i : Int) = x ∧ 0 ≤ (i : Int) ∧ (i : Int) < 64) from fun hh => hne hh.1)]; simp; done) | (rw [in_without, decide_eq_false (show ¬ ((i : Int) = x) from hne)]; simp; done)) ?_
    refine W.skip ?_
    refine hK4 _ _ _ ?_
    refine W.seq (fun K6 hK6 => ?_)
    refine W.seq (fun K7 hK7 => ?_)
    refine W.region ?_
    refine O.ex (Ex.assign rfl) rfl ?_
    refine O.nil ?_
    refine hK7 _ _ _ ?_
    refine W.block ?_
    refine W.loop (σ := Nat) (fun i => [(0, .int .u64 (s : Int)), (1, .int .i64 x), (5, .int .u64 (s : Int)), (6, .int .i64 (i : Int))]) (fun i ds w => ds = [] ∧ i ≤ 64 ∧ Holds w [base w0]) (fun i => 64 - i) 0 ⟨rfl, rfl, rfl, rfl, trivial⟩ ⟨rfl, by omega, Holds.to (by assumption)⟩ ?_
    clear H
    rintro i _ w ⟨rfl, hi, H⟩
    refine W.seq (fun K8 hK8 => ?_)
    refine W.seq (fun K9 hK9 => ?_)
    refine W.region ?_
    refine O.ex (Ex.move rfl) rfl ?_
    refine O.ex (Ex.lss rfl rfl) rfl ?_
    refine O.nil ?_
    refine hK9 _ _ _ ?_
    first | refine W.cond_p rfl (fun hlt => ?_) (fun hge => ?_) | refine W.cond_b rfl (fun hlt => ?_) (fun hge => ?_)
    · refine W.skip ?_
      refine hK8 _ _ _ ?_
      refine W.seq (fun K10 hK10 => ?_)
      refine W.block ?_
      refine W.seq (fun K11 hK11 => ?_)
      refine W.region ?_
      refine O.ex (Ex.move rfl) rfl ?_
      refine O.ex (Ex.move rfl) rfl ?_
      refine O.ex (Ex.neqI rfl rfl) rfl ?_
      refine O.ex (Ex.move rfl) rfl ?_
      first | refine O.split_p (t := 43) rfl (fun hne => ?_) (fun heq => ?_) | refine O.split (t := 43) rfl (fun hne => ?_) (fun heq => ?_)
      · refine O.guard_t rfl rfl ?_
        refine O.ex (Ex.move rfl) rfl ?_
        refine O.guard_t rfl rfl ?_
        refine O.ex (Ex.move rfl) rfl ?_
        refine O.guard_t rfl rfl ?_
        refine O.callF Tryd.call19 rfl rfl (CT.mono (with_ct (Holds.to (by assumption)) hs) ?_)
        rintro _ w ⟨rfl, H⟩
        refine O.guard_t rfl rfl ?_
        refine O.ex (Ex.move rfl) rfl ?_
        refine O.guard_t rfl rfl ?_
        refine O.callF Tryd.call14 rfl rfl (CT.mono (has_ct (Holds.to (by assumption)) (by assumption)) ?_)
        rintro _ w ⟨rfl, H⟩
        refine O.guard_t rfl rfl ?_
        refine O.ex (Ex.move rfl) rfl ?_
        refine O.guard_t rfl rfl ?_
        refine O.ex (Ex.move rfl) rfl ?_
        refine O.guard_t rfl rfl ?_
        refine O.callF Tryd.call14 rfl rfl (CT.mono (has_ct (Holds.to (by assumption)) (by assumption)) ?_)
        rintro _ w ⟨rfl, H⟩
        refine O.guard_t rfl rfl ?_
        refine O.ex (Ex.neqB Tryd.runUnderlying4 rfl rfl) rfl ?_
        refine O.guard_t rfl rfl ?_
        refine O.ex (Ex.move rfl) rfl ?_
        refine O.known (t := 53) (c := false) rfl (by first | rfl | decide | exact hi1 | exact decide_eq_false (fun hh => hh hbl) | (rw [hi2]; first | rw [decide_eq_true hx0] | rw [decide_eq_false hx0]; simp; done) | (rw [hi2]; simp; omega) | (rw [in_with, decide_eq_false (show ¬ ((i : Int) = x ∧ 0 ≤ (i : Int) ∧ (i : Int) < 64) from fun hh => hne hh.1)]; simp; done) | (rw [in_without, decide_eq_false (show ¬ ((i : Int) = x) from hne)]; simp; done)) ?_
        refine O.guard_t rfl rfl ?_
        refine O.ex (Ex.move rfl) rfl ?_
        refine O.guard_t rfl rfl ?_
        refine O.ex (Ex.move rfl) rfl ?_
        refine O.guard_t rfl rfl ?_
        refine O.callF Tryd.call20 rfl rfl (CT.mono (without_ct (Holds.to (by assumption)) hs) ?_)
        rintro _ w ⟨rfl, H⟩
        refine O.guard_t rfl rfl ?_
        refine O.ex (Ex.move rfl) rfl ?_
        refine O.guard_t rfl rfl ?_
        refine O.callF Tryd.call14 rfl rfl (CT.mono (has_ct (Holds.to (by assumption)) (by assumption)) ?_)
        rintro _ w ⟨rfl, H⟩
        refine O.guard_t rfl rfl ?_
        refine O.ex (Ex.move rfl) rfl ?_
        refine O.guard_t rfl rfl ?_
        refine O.ex (Ex.move rfl) rfl ?_
        refine O.guard_t rfl rfl ?_
        refine O.callF Tryd.call14 rfl rfl (CT.mono (has_ct (Holds.to (by assumption)) (by assumption)) ?_)
        rintro _ w ⟨rfl, H⟩
        refine O.guard_t rfl rfl ?_
        refine O.ex (Ex.neqB Tryd.runUnderlying4 rfl rfl) rfl ?_
        refine O.guard_t rfl rfl ?_
        refine O.ex (Ex.pick_f rfl rfl) rfl ?_
        refine O.ex (Ex.pick_t rfl rfl) rfl ?_
        refine O.nil ?_
        refine hK11 _ _ _ ?_
        refine W.known_f rfl (by first | rfl | decide | exact hi1 | exact decide_eq_false (fun hh => hh hbl) | (rw [hi2]; first | rw [decide_eq_true hx0] | rw [decide_eq_false hx0]; simp; done) | (rw [hi2]; simp; omega) | (rw [in_with, decide_eq_false (show ¬ ((i : Int) = x ∧ 0 ≤ (i : Int) ∧ (i : Int) < 64) from fun hh => hne hh.1)]; simp; done) | (rw [in_without, decide_eq_false (show ¬ ((i : Int) = x) from hne)]; simp; done)) ?_
        refine W.skip ?_
        refine hK10 _ _ _ ?_
        refine W.region ?_
        refine O.ex (Ex.move rfl) rfl ?_
        refine O.ex (by first | exact Ex.addI rfl rfl | exact Ex.add rfl rfl rfl) rfl ?_
        refine O.ex (Ex.assign rfl) rfl ?_
        refine O.nil ?_
        exact ⟨i + 1, ⟨rfl, rfl, rfl, rfl, trivial⟩, ⟨rfl, by omega, Holds.to (by assumption)⟩, by omega⟩
      · refine O.guard_f rfl rfl rfl rfl ?_
        refine O.guard_f rfl rfl rfl rfl ?_
        refine O.guard_f rfl rfl rfl rfl ?_
        refine O.guard_f rfl rfl rfl rfl ?_
        refine O.guard_f rfl rfl rfl rfl ?_
        refine O.guard_f rfl rfl rfl rfl ?_
        refine O.guard_f rfl rfl rfl rfl ?_
        refine O.guard_f rfl rfl rfl rfl ?_
        refine O.guard_f rfl rfl rfl rfl ?_
        refine O.guard_f rfl rfl rfl rfl ?_
        refine O.guard_u rfl rfl rfl ?_
        refine O.guard_u rfl rfl rfl ?_
        refine O.guard_u rfl rfl rfl ?_
        refine O.guard_u rfl rfl rfl ?_
        refine O.guard_u rfl rfl rfl ?_
        refine O.guard_u rfl rfl rfl ?_
        refine O.guard_u rfl rfl rfl ?_
        refine O.guard_u rfl rfl rfl ?_
        refine O.guard_u rfl rfl rfl ?_
        refine O.guard_f rfl rfl rfl rfl ?_
        refine O.ex (Ex.pick_f rfl rfl) rfl ?_
        refine O.nil ?_
        refine hK11 _ _ _ ?_
        refine W.cond_f rfl ?_
        refine W.skip ?_
        refine hK10 _ _ _ ?_
        refine W.region ?_
        refine O.ex (Ex.move rfl) rfl ?_
        refine O.ex (by first | exact Ex.addI rfl rfl | exact Ex.add rfl rfl rfl) rfl ?_
        refine O.ex (Ex.assign rfl) rfl ?_
        refine O.nil ?_
        exact ⟨i + 1, ⟨rfl, rfl, rfl, rfl, trivial⟩, ⟨rfl, by omega, Holds.to (by assumption)⟩, by omega⟩
    · refine W.exit ?_
      refine hK6 _ _ _ ?_
      refine W.seq (fun K12 hK12 => ?_)
      refine W.region ?_
      refine O.ex (Ex.move rfl) rfl ?_
      refine O.callF Tryd.call17 rfl rfl (CT.mono (list_ct hT (Holds.to (by assumption)) hs) ?_)
      rintro _ w ⟨hvb, H⟩
      rename_i v11
      refine O.ex (Ex.move rfl) rfl ?_
      refine O.callF Tryd.call12 rfl rfl (CT.mono (refList_ct (Holds.to (by assumption)) hs) ?_)
      rintro _ w ⟨hvc, H⟩
      rename_i v68
      refine O.callF Tryd.call16 rfl rfl (CT.mono (ints_ct (xs := lstI s) (Holds.to (by assumption)) (by omega)) ?_)
      rintro _ w ⟨rfl, H⟩
      refine O.ex (Ex.assign rfl) rfl ?_
      refine O.nil ?_
      refine hK12 _ _ _ ?_
      refine W.ret ?_
      try dsimp only [thenQ, blockQ, retQ]
      first | refine ⟨_, ⟨_, _, rfl, rfl, rfl⟩, ?_⟩ | (refine retD_mark ?_; intro w H; refine ⟨_, ⟨_, _, rfl, rfl, rfl⟩, ?_⟩) | (refine retD_mark2 ?_; intro w H; refine ⟨_, ⟨_, _, rfl, rfl, rfl⟩, ?_⟩)
      exact ⟨rfl, Holds.base_below (L := []) (Holds.to (by assumption))⟩
  · refine O.guard_f rfl rfl rfl rfl ?_
    refine O.guard_f rfl rfl rfl rfl ?_
    refine O.guard_t rfl rfl ?_
    refine O.ex (Ex.pick_f rfl rfl) rfl ?_
    refine O.guard_t rfl rfl ?_
    refine O.ex (Ex.neqB Tryd.runUnderlying4 rfl rfl) rfl ?_
    refine O.ex (Ex.pick_f rfl rfl) rfl ?_
    refine O.nil ?_
    refine hK5 _ _ _ ?_
    refine W.known_f rfl (by first | rfl | decide | exact hi1 | exact decide_eq_false (fun hh => hh hbl) | (rw [hi2]; first | rw [decide_eq_true hx0] | rw [decide_eq_false hx0]; simp; done) | (rw [hi2]; simp; omega) | (rw [in_with, decide_eq_false (show ¬ ((i : Int) = x ∧ 0 ≤ (i : Int) ∧ (i : Int) < 64) from fun hh => hne hh.1)]; simp; done) | (rw [in_without, decide_eq_false (show ¬ ((i : Int) = x) from hne)]; simp; done)) ?_
    refine W.skip ?_
    refine hK4 _ _ _ ?_
    refine W.seq (fun K13 hK13 => ?_)
    refine W.seq (fun K14 hK14 => ?_)
    refine W.region ?_
    refine O.ex (Ex.assign rfl) rfl ?_
    refine O.nil ?_
    refine hK14 _ _ _ ?_
    refine W.block ?_
    refine W.loop (σ := Nat) (fun i => [(0, .int .u64 (s : Int)), (1, .int .i64 x), (5, .int .u64 (s : Int)), (6, .int .i64 (i : Int))]) (fun i ds w => ds = [] ∧ i ≤ 64 ∧ Holds w [base w0]) (fun i => 64 - i) 0 ⟨rfl, rfl, rfl, rfl, trivial⟩ ⟨rfl, by omega, Holds.to (by assumption)⟩ ?_
    clear H
    rintro i _ w ⟨rfl, hi, H⟩
    refine W.seq (fun K15 hK15 => ?_)
    refine W.seq (fun K16 hK16 => ?_)
    refine W.region ?_
    refine O.ex (Ex.move rfl) rfl ?_
    refine O.ex (Ex.lss rfl rfl) rfl ?_
    refine O.nil ?_
    refine hK16 _ _ _ ?_
    first | refine W.cond_p rfl (fun hlt => ?_) (fun hge => ?_) | refine W.cond_b rfl (fun hlt => ?_) (fun hge => ?_)
    · refine W.skip ?_
      refine hK15 _ _ _ ?_
      refine W.seq (fun K17 hK17 => ?_)
      refine W.block ?_
      refine W.seq (fun K18 hK18 => ?_)
      refine W.region ?_
      refine O.ex (Ex.move rfl) rfl ?_
      refine O.ex (Ex.move rfl) rfl ?_
      refine O.ex (Ex.neqI rfl rfl) rfl ?_
      refine O.ex (Ex.move rfl) rfl ?_
      first | refine O.split_p (t := 43) rfl (fun hne => ?_) (fun heq => ?_) | refine O.split (t := 43) rfl (fun hne => ?_) (fun heq => ?_)
      · refine O.guard_t rfl rfl ?_
        refine O.ex (Ex.move rfl) rfl ?_
        refine O.guard_t rfl rfl ?_
        refine O.ex (Ex.move rfl) rfl ?_
        refine O.guard_t rfl rfl ?_
        refine O.callF Tryd.call19 rfl rfl (CT.mono (with_ct (Holds.to (by assumption)) hs) ?_)
        rintro _ w ⟨rfl, H⟩
        refine O.guard_t rfl rfl ?_
        refine O.ex (Ex.move rfl) rfl ?_
        refine O.guard_t rfl rfl ?_
        refine O.callF Tryd.call14 rfl rfl (CT.mono (has_ct (Holds.to (by assumption)) (by assumption)) ?_)
        rintro _ w ⟨rfl, H⟩
        refine O.guard_t rfl rfl ?_
        refine O.ex (Ex.move rfl) rfl ?_
        refine O.guard_t rfl rfl ?_
        refine O.ex (Ex.move rfl) rfl ?_
        refine O.guard_t rfl rfl ?_
        refine O.callF Tryd.call14 rfl rfl (CT.mono (has_ct (Holds.to (by assumption)) (by assumption)) ?_)
        rintro _ w ⟨rfl, H⟩
        refine O.guard_t rfl rfl ?_
        refine O.ex (Ex.neqB Tryd.runUnderlying4 rfl rfl) rfl ?_
        refine O.guard_t rfl rfl ?_
        refine O.ex (Ex.move rfl) rfl ?_
        refine O.known (t := 53) (c := false) rfl (by first | rfl | decide | exact hi1 | exact decide_eq_false (fun hh => hh hbl) | (rw [hi2]; first | rw [decide_eq_true hx0] | rw [decide_eq_false hx0]; simp; done) | (rw [hi2]; simp; omega) | (rw [in_with, decide_eq_false (show ¬ ((i : Int) = x ∧ 0 ≤ (i : Int) ∧ (i : Int) < 64) from fun hh => hne hh.1)]; simp; done) | (rw [in_without, decide_eq_false (show ¬ ((i : Int) = x) from hne)]; simp; done)) ?_
        refine O.guard_t rfl rfl ?_
        refine O.ex (Ex.move rfl) rfl ?_
        refine O.guard_t rfl rfl ?_
        refine O.ex (Ex.move rfl) rfl ?_
        refine O.guard_t rfl rfl ?_
        refine O.callF Tryd.call20 rfl rfl (CT.mono (without_ct (Holds.to (by assumption)) hs) ?_)
        rintro _ w ⟨rfl, H⟩
        refine O.guard_t rfl rfl ?_
        refine O.ex (Ex.move rfl) rfl ?_
        refine O.guard_t rfl rfl ?_
        refine O.callF Tryd.call14 rfl rfl (CT.mono (has_ct (Holds.to (by assumption)) (by assumption)) ?_)
        rintro _ w ⟨rfl, H⟩
        refine O.guard_t rfl rfl ?_
        refine O.ex (Ex.move rfl) rfl ?_
        refine O.guard_t rfl rfl ?_
        refine O.ex (Ex.move rfl) rfl ?_
        refine O.guard_t rfl rfl ?_
        refine O.callF Tryd.call14 rfl rfl (CT.mono (has_ct (Holds.to (by assumption)) (by assumption)) ?_)
        rintro _ w ⟨rfl, H⟩
        refine O.guard_t rfl rfl ?_
        refine O.ex (Ex.neqB Tryd.runUnderlying4 rfl rfl) rfl ?_
        refine O.guard_t rfl rfl ?_
        refine O.ex (Ex.pick_f rfl rfl) rfl ?_
        refine O.ex (Ex.pick_t rfl rfl) rfl ?_
        refine O.nil ?_
        refine hK18 _ _ _ ?_
        refine W.known_f rfl (by first | rfl | decide | exact hi1 | exact decide_eq_false (fun hh => hh hbl) | (rw [hi2]; first | rw [decide_eq_true hx0] | rw [decide_eq_false hx0]; simp; done) | (rw [hi2]; simp; omega) | (rw [in_with, decide_eq_false (show ¬ ((i : Int) = x ∧ 0 ≤ (i : Int) ∧ (i : Int) < 64) from fun hh => hne hh.1)]; simp; done) | (rw [in_without, decide_eq_false (show ¬ ((i : Int) = x) from hne)]; simp; done)) ?_
        refine W.skip ?_
        refine hK17 _ _ _ ?_
        refine W.region ?_
        refine O.ex (Ex.move rfl) rfl ?_
        refine O.ex (by first | exact Ex.addI rfl rfl | exact Ex.add rfl rfl rfl) rfl ?_
        refine O.ex (Ex.assign rfl) rfl ?_
        refine O.nil ?_
        exact ⟨i + 1, ⟨rfl, rfl, rfl, rfl, trivial⟩, ⟨rfl, by omega, Holds.to (by assumption)⟩, by omega⟩
      · refine O.guard_f rfl rfl rfl rfl ?_
        refine O.guard_f rfl rfl rfl rfl ?_
        refine O.guard_f rfl rfl rfl rfl ?_
        refine O.guard_f rfl rfl rfl rfl ?_
        refine O.guard_f rfl rfl rfl rfl ?_
        refine O.guard_f rfl rfl rfl rfl ?_
        refine O.guard_f rfl rfl rfl rfl ?_
        refine O.guard_f rfl rfl rfl rfl ?_
        refine O.guard_f rfl rfl rfl rfl ?_
        refine O.guard_f rfl rfl rfl rfl ?_
        refine O.guard_u rfl rfl rfl ?_
        refine O.guard_u rfl rfl rfl ?_
        refine O.guard_u rfl rfl rfl ?_
        refine O.guard_u rfl rfl rfl ?_
        refine O.guard_u rfl rfl rfl ?_
        refine O.guard_u rfl rfl rfl ?_
        refine O.guard_u rfl rfl rfl ?_
        refine O.guard_u rfl rfl rfl ?_
        refine O.guard_u rfl rfl rfl ?_
        refine O.guard_f rfl rfl rfl rfl ?_
        refine O.ex (Ex.pick_f rfl rfl) rfl ?_
        refine O.nil ?_
        refine hK18 _ _ _ ?_
        refine W.cond_f rfl ?_
        refine W.skip ?_
        refine hK17 _ _ _ ?_
        refine W.region ?_
        refine O.ex (Ex.move rfl) rfl ?_
        refine O.ex (by first | exact Ex.addI rfl rfl | exact Ex.add rfl rfl rfl) rfl ?_
        refine O.ex (Ex.assign rfl) rfl ?_
        refine O.nil ?_
        exact ⟨i + 1, ⟨rfl, rfl, rfl, rfl, trivial⟩, ⟨rfl, by omega, Holds.to (by assumption)⟩, by omega⟩
    · refine W.exit ?_
      refine hK13 _ _ _ ?_
      refine W.seq (fun K19 hK19 => ?_)
      refine W.region ?_
      refine O.ex (Ex.move rfl) rfl ?_
      refine O.callF Tryd.call17 rfl rfl (CT.mono (list_ct hT (Holds.to (by assumption)) hs) ?_)
      rintro _ w ⟨hvb, H⟩
      rename_i v11
      refine O.ex (Ex.move rfl) rfl ?_
      refine O.callF Tryd.call12 rfl rfl (CT.mono (refList_ct (Holds.to (by assumption)) hs) ?_)
      rintro _ w ⟨hvc, H⟩
      rename_i v68
      refine O.callF Tryd.call16 rfl rfl (CT.mono (ints_ct (xs := lstI s) (Holds.to (by assumption)) (by omega)) ?_)
      rintro _ w ⟨rfl, H⟩
      refine O.ex (Ex.assign rfl) rfl ?_
      refine O.nil ?_
      refine hK19 _ _ _ ?_
      refine W.ret ?_
      try dsimp only [thenQ, blockQ, retQ]
      first | refine ⟨_, ⟨_, _, rfl, rfl, rfl⟩, ?_⟩ | (refine retD_mark ?_; intro w H; refine ⟨_, ⟨_, _, rfl, rfl, rfl⟩, ?_⟩) | (refine retD_mark2 ?_; intro w H; refine ⟨_, ⟨_, _, rfl, rfl, rfl⟩, ?_⟩)
      exact ⟨rfl, Holds.base_below (L := []) (Holds.to (by assumption))⟩
end Go.Proofs.YtikdblejkmaloaaDoor
