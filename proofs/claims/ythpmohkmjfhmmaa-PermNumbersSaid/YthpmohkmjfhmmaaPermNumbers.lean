import Derived.Test.YthpmohkmjfhmmaaPermOf
--ARR
namespace Go.Proofs.Ythpmohkmjfhmmaa
open Go.Rr Go
set_option linter.unusedVariables false
theorem not_right (k : Nat) (l : List Int) (h : l.length = k) : ¬ RightP (l ++ [(k : Int) + 1]) := fun hh => by
  have := hh.2.1 ((k : Int) + 1) (by simp)
  rw [List.length_append, h, List.length_singleton] at this
  omega
set_option maxHeartbeats 1000000 in
theorem permNumbers_ct {w0 : World} {n ma mb : Int} (hma : (Lit.int .u64 ma).wf = true) (hmb : (Lit.int .u64 mb).wf = true) :
    CT Try.prog 4 [.int .i64 n, .int .u64 ma, .int .u64 mb] w0 fun u w' => u = .bool true ∧ RowKit.Below w0.heap.size w0 w' := by
  have H := Holds.base_refl w0
  obtain ⟨a, rfl, ha⟩ := u64_nat hma
  obtain ⟨b, rfl, hb⟩ := u64_nat hmb
  obtain ⟨h0, h1⟩ := hl_rng n
  obtain ⟨k, hk⟩ : ∃ k, k = (hl n).toNat := ⟨_, rfl⟩
  have hkk : hl n = (k : Int) := by omega
  have hhl : (hl (k : Int)).toNat = k := by unfold hl; omega
  have k24 : k ≤ 24 := by omega
  have hol := ofN_len k a
  have hor := ofN_right k a k24
  have hnum := num_of k a k24
  have hfp := fac_pos k
  have hmp : a % fac k < fac k := Nat.mod_lt _ hfp
  have hml : a % fac k ≤ a := Nat.mod_le _ _
  have olx := ofN_len k (a % fac k)
  have olb := ofN_len k b
  have hnr := not_right k (ofN k a) hol
  refine CT.enter (N := 92) Try.func4 rfl rfl rfl rfl ?_
  refine W.seq (fun K0 hK0 => ?_)
  refine W.region ?_
  refine O.ex (Ex.assign rfl) rfl ?_
  refine O.nil ?_
  refine hK0 _ _ _ ?_
  refine W.seq (fun K1 hK1 => ?_)
  refine W.seq (fun K2 hK2 => ?_)
  refine W.region ?_
  refine O.callF Try.call13 rfl rfl (CT.mono (awake07_ct (Holds.to (by assumption))) ?_)
  rintro _ w ⟨rfl, H⟩
  refine O.ex (by first | exact Ex.notD rfl | exact Ex.not rfl) rfl ?_
  refine O.nil ?_
  refine hK2 _ _ _ ?_
  refine W.known_f rfl (by first | rfl | decide | (refine decide_eq_true ?_; omega) | (refine decide_eq_false ?_; omega) | exact decide_eq_true hnum | exact decide_eq_true (ofN_mod k a).symm | exact decide_eq_true (decide_eq_decide.2 (ofN_iff k a b k24))) ?_
  refine W.skip ?_
  refine hK1 _ _ _ ?_
  refine W.seq (fun K3 hK3 => ?_)
  refine W.region ?_
  refine O.ex (Ex.move rfl) rfl ?_
  refine O.callF Try.call19 rfl rfl (CT.mono (refHeld_ct (Holds.to (by assumption))) ?_)
  rintro _ w ⟨rfl, H⟩
  rw [hkk]
  refine O.ex (Ex.assign rfl) rfl ?_
  refine O.nil ?_
  refine hK3 _ _ _ ?_
  refine W.seq (fun K4 hK4 => ?_)
  refine W.region ?_
  refine O.ex (Ex.move rfl) rfl ?_
  refine O.ex (Ex.move rfl) rfl ?_
  refine O.callF Try.call20 rfl rfl (CT.mono (of_ct (n := (k : Int)) (a := a) ha (Holds.to (by assumption))) ?_)
  rintro _ w ⟨ho1, H⟩
  rename_i va
  rw [hhl] at H
  refine O.ex (Ex.assign rfl) rfl ?_
  refine O.nil ?_
  refine hK4 _ _ _ ?_
  refine W.seq (fun K5 hK5 => ?_)
  refine W.region ?_
  refine O.ex (Ex.move rfl) rfl ?_
  refine O.callF Try.call21 rfl rfl (CT.mono (number_ct (v := va) (l := ofN k a) (by omega) (Holds.to (by assumption))) ?_)
  rintro _ w hh
  rcases hh with (⟨hn, -⟩ | ⟨-, hbig, rfl, H⟩ | ⟨-, hsm, rfl, H⟩)
  · exact absurd hor hn
  · refine O.ex (Ex.move rfl) rfl ?_
    refine O.ex (Ex.extract rfl rfl) rfl ?_
    refine O.ex (Ex.extract rfl rfl) rfl ?_
    refine O.ex (Ex.assign rfl) rfl ?_
    refine O.ex (Ex.assign rfl) rfl ?_
    refine O.nil ?_
    refine hK5 _ _ _ ?_
    refine W.seq (fun K6 hK6 => ?_)
    refine W.seq (fun K7 hK7 => ?_)
    refine W.region ?_
    refine O.ex (Ex.move rfl) rfl ?_
    refine O.ex (Ex.gtr rfl rfl) rfl ?_
    refine O.nil ?_
    refine hK7 _ _ _ ?_
    refine W.known_t rfl (by first | rfl | decide | (refine decide_eq_true ?_; omega) | (refine decide_eq_false ?_; omega) | exact decide_eq_true hnum | exact decide_eq_true (ofN_mod k a).symm | exact decide_eq_true (decide_eq_decide.2 (ofN_iff k a b k24))) ?_
    refine W.seq (fun K8 hK8 => ?_)
    refine W.region ?_
    refine O.ex (Ex.move rfl) rfl ?_
    refine O.ex (Ex.eql64 _ 0 rfl rfl) rfl ?_
    refine O.ex (Ex.move rfl) rfl ?_
    refine O.known (t := 32) (c := true) rfl (by first | rfl | decide | (refine decide_eq_true ?_; omega) | (refine decide_eq_false ?_; omega) | exact decide_eq_true hnum | exact decide_eq_true (ofN_mod k a).symm | exact decide_eq_true (decide_eq_decide.2 (ofN_iff k a b k24))) ?_
    refine O.guard_t rfl rfl ?_
    refine O.ex (Ex.move rfl) rfl ?_
    refine O.guard_t rfl rfl ?_
    refine O.ex (Ex.eqlI rfl rfl) rfl ?_
    refine O.ex (Ex.pick_t rfl rfl) rfl ?_
    refine O.ex (Ex.assign rfl) rfl ?_
    refine O.nil ?_
    refine hK8 _ _ _ ?_
    refine W.ret ?_
    try dsimp only [thenQ, blockQ, retQ]
    first | refine ⟨_, ⟨_, _, rfl, rfl, rfl⟩, ?_⟩ | (refine retD_mark ?_; intro w H; refine ⟨_, ⟨_, _, rfl, rfl, rfl⟩, ?_⟩) | (refine retD_mark2 ?_; intro w H; refine ⟨_, ⟨_, _, rfl, rfl, rfl⟩, ?_⟩)
    refine ⟨?_, Holds.base_below (L := []) (Holds.to (by assumption))⟩
    first
    | rfl
    | exact congrArg Value.bool (decide_eq_true rfl)
  · refine O.ex (Ex.move rfl) rfl ?_
    refine O.ex (Ex.extract rfl rfl) rfl ?_
    refine O.ex (Ex.extract rfl rfl) rfl ?_
    refine O.ex (Ex.assign rfl) rfl ?_
    refine O.ex (Ex.assign rfl) rfl ?_
    refine O.nil ?_
    refine hK5 _ _ _ ?_
    refine W.seq (fun K9 hK9 => ?_)
    refine W.seq (fun K10 hK10 => ?_)
    refine W.region ?_
    refine O.ex (Ex.move rfl) rfl ?_
    refine O.ex (Ex.gtr rfl rfl) rfl ?_
    refine O.nil ?_
    refine hK10 _ _ _ ?_
    refine W.known_f rfl (by first | rfl | decide | (refine decide_eq_true ?_; omega) | (refine decide_eq_false ?_; omega) | exact decide_eq_true hnum | exact decide_eq_true (ofN_mod k a).symm | exact decide_eq_true (decide_eq_decide.2 (ofN_iff k a b k24))) ?_
    refine W.skip ?_
    refine hK9 _ _ _ ?_
    refine W.seq (fun K11 hK11 => ?_)
    refine W.region ?_
    refine O.ex (Ex.assign rfl) rfl ?_
    refine O.nil ?_
    refine hK11 _ _ _ ?_
    refine W.seq (fun K12 hK12 => ?_)
    refine W.seq (fun K13 hK13 => ?_)
    refine W.region ?_
    refine O.ex (Ex.assign rfl) rfl ?_
    refine O.nil ?_
    refine hK13 _ _ _ ?_
    refine W.block ?_
    have hf20 : fac k ≤ 2432902008176640000 := Nat.le_trans (fac_mono (show k ≤ 20 by omega)) (by decide)
    refine W.loop (σ := Nat) (fun i => [(1, .int .u64 (a : Int)), (2, .int .u64 (b : Int)), (7, .int .i64 (k : Int)), (8, va), (9, .int .u64 ((numN (invL (ofN k a)) : Nat) : Int)), (10, .int .i64 0), (11, .int .u64 ((fac (min (i + 1) (max k 1)) : Nat) : Int)), (12, .int .i64 ((i + 2 : Nat) : Int))]) (fun i ds w => ds = [] ∧ (i + 1 ≤ k ∨ i = 0) ∧ Holds w (arr 3 (Value.int .i64) va (ofN k a) :: base w0 :: [])) (fun i => k - i) 0 ⟨rfl, rfl, rfl, rfl, rfl, rfl, by rw [show min (0 + 1) (max k 1) = 1 from by omega]; rfl, rfl, trivial⟩ ⟨rfl, by omega, Holds.to (by assumption)⟩ ?_
    clear H
    rintro i _ w ⟨rfl, hi, H⟩
    refine W.seq (fun K14 hK14 => ?_)
    refine W.seq (fun K15 hK15 => ?_)
    refine W.region ?_
    refine O.ex (Ex.move rfl) rfl ?_
    refine O.ex (Ex.move rfl) rfl ?_
    refine O.ex (Ex.leq rfl rfl) rfl ?_
    refine O.nil ?_
    refine hK15 _ _ _ ?_
    first | refine W.cond_p rfl (fun hlt => ?_) (fun hge => ?_) | refine W.cond_b rfl (fun hlt => ?_) (fun hge => ?_)
    · refine W.skip ?_
      refine hK14 _ _ _ ?_
      refine W.seq (fun K16 hK16 => ?_)
      refine W.block ?_
      refine W.region ?_
      have e1 : min (i + 1) (max k 1) = i + 1 := by omega
      have e2 : min (i + 1 + 1) (max k 1) = i + 2 := by omega
      have hfm : fac (i + 2) ≤ fac k := fac_mono (by omega)
      have hfe : fac (i + 2) = (i + 2) * fac (i + 1) := rfl
      rw [e1]
      refine O.ex (Ex.move rfl) rfl ?_
      refine O.ex (Ex.move rfl) rfl ?_
      refine O.ex (Ex.convI (r := ((i + 2 : Nat) : Int)) Try.runUnderlying3 Try.runUnderlying30 rfl (by rw [wrap64]; omega)) rfl ?_
      refine O.ex (Ex.mul (r := ((fac (i + 2) : Nat) : Int)) rfl rfl (by rw [wrap64, ← Int.natCast_mul, Nat.mul_comm, ← hfe]; omega)) rfl ?_
      refine O.ex (Ex.assign rfl) rfl ?_
      refine O.nil ?_
      refine hK16 _ _ _ ?_
      refine W.region ?_
      refine O.ex (Ex.move rfl) rfl ?_
      refine O.ex (by first | exact Ex.addI rfl rfl | exact Ex.add rfl rfl rfl) rfl ?_
      refine O.ex (Ex.assign rfl) rfl ?_
      refine O.nil ?_
      exact ⟨i + 1, ⟨rfl, rfl, rfl, rfl, rfl, rfl, by rw [e2]; rfl, rfl, trivial⟩, ⟨rfl, by omega, Holds.to (by assumption)⟩, by omega⟩
    · refine W.exit ?_
      refine hK12 _ _ _ ?_
      refine W.seq (fun K17 hK17 => ?_)
      refine W.region ?_
      have efac : fac (min (i + 1) (max k 1)) = fac k := by
        rcases Nat.eq_zero_or_pos k with e | e
        · subst e; rw [show min (i + 1) (max 0 1) = 1 from by omega]; rfl
        · congr 1; omega
      rw [efac]
      refine O.ex (Ex.move rfl) rfl ?_
      refine O.ex (Ex.move rfl) rfl ?_
      refine O.callF Try.call20 rfl rfl (CT.mono (of_ct (n := (k : Int)) (a := b) hb (Holds.to (by assumption))) ?_)
      rintro _ w ⟨ho2, H⟩
      rename_i vb
      rw [hhl] at H
      refine O.ex (Ex.assign rfl) rfl ?_
      refine O.nil ?_
      refine hK17 _ _ _ ?_
      refine W.seq (fun K18 hK18 => ?_)
      refine W.region ?_
      refine O.build0 (e := Value.int .i64) Try.runUnderlying22 Try.sizeOf3 (fun v49 w hv49 H => ?_)
      refine O.ex (Ex.move rfl) rfl ?_
      refine O.appendK Try.runUnderlying22 Try.typeInfo3 (bt := 8) rfl Try.sizeOf3 Try.zeroValue3 rfl rfl (fun v51 w hv51 H => ?_)
      rw [List.nil_append] at H
      refine O.ex (Ex.move rfl) rfl ?_
      refine O.ex (by first | exact Ex.addI rfl rfl | exact Ex.add rfl rfl rfl) rfl ?_
      refine O.build1 (e := Value.int .i64) Try.runUnderlying22 Try.sizeOf3 Try.zeroValue3 rfl (fun v54 w hv54 H => ?_)
      refine O.appendR Try.runUnderlying22 Try.typeInfo3 (bt := 8) rfl Try.sizeOf3 Try.zeroValue3 rfl rfl (fun v55 w hv55 H => ?_)
      refine O.callF Try.call21 rfl rfl (CT.mono (number_ct (l := ofN k a ++ [(k : Int) + 1]) (by rw [List.length_append, List.length_singleton]; omega) (Holds.to (by assumption))) ?_)
      rintro _ w (⟨-, rfl, H⟩ | ⟨hn, -⟩ | ⟨hn, -⟩)
      rotate_left
      · exact absurd hn hnr
      · exact absurd hn hnr
      refine O.ex (Ex.move rfl) rfl ?_
      refine O.ex (Ex.extract rfl rfl) rfl ?_
      refine O.ex (Ex.extract rfl rfl) rfl ?_
      refine O.ex (Ex.assign rfl) rfl ?_
      refine O.ex (Ex.assign rfl) rfl ?_
      refine O.nil ?_
      refine hK18 _ _ _ ?_
      refine W.seq (fun K19 hK19 => ?_)
      refine W.drawTo ([]) (.take 0 (.take 1 (.take 2 (.take 3 (.take 4 (.take 5 (.take 6 (.take 7 (.take 8 (.take 9 (.take 10 (.take 11 (.take 13 (.one 12 (.one 14 (.take 15 (.take 16 (.take 17 (.take 18 (.take 20 (.take 21 (.take 22 (.take 23 (.take 24 (.take 25 (.take 26 (.one 19 (.take 27 (.take 28 (.take 29 (.take 30 (.take 31 (.take 32 (.take 33 .nil)))))))))))))))))))))))))))))))))) (mixed) (fun _ _ _ _ h => h) (by assumption) PP.auto (by decide +kernel) (fun w H => ?_)
      refine OQ.ex rfl (fun w H => (Ex.move rfl)) rfl ?_
      refine OQ.ex rfl (fun w H => (Ex.eqlI rfl rfl)) rfl ?_
      refine OQ.ex rfl (fun w H => (Ex.move rfl)) rfl ?_
      refine OQ.known (t := 61) (c := true) rfl (by first | rfl | decide | (refine decide_eq_true ?_; omega) | (refine decide_eq_false ?_; omega) | exact decide_eq_true hnum | exact decide_eq_true (ofN_mod k a).symm | exact decide_eq_true (decide_eq_decide.2 (ofN_iff k a b k24))) ?_
      refine OQ.exT rfl rfl rfl (fun w H => (Ex.move rfl)) rfl ?_
      refine OQ.exT rfl rfl rfl (fun w H => (Ex.move rfl)) rfl ?_
      refine OQ.exT rfl rfl rfl (fun w H => (Ex.move rfl)) rfl ?_
      refine OQ.exT rfl rfl rfl (fun w H => (Ex.rem (r := ((a % fac k : Nat) : Int)) rfl rfl (by omega) (show ((a : Nat) : Int).tmod ((fac k : Nat) : Int) = ((a % fac k : Nat) : Int) from rfl))) rfl ?_
      refine OQ.exT rfl rfl rfl (fun w H => (Ex.eql64 (numN (invL (ofN k a))) (a % fac k) rfl rfl)) rfl ?_
      refine OQ.ex rfl (fun w H => (Ex.pick_t rfl rfl)) rfl ?_
      refine OQ.ex rfl (fun w H => (Ex.move rfl)) rfl ?_
      refine OQ.known (t := 68) (c := true) rfl (by first | rfl | decide | (refine decide_eq_true ?_; omega) | (refine decide_eq_false ?_; omega) | exact decide_eq_true hnum | exact decide_eq_true (ofN_mod k a).symm | exact decide_eq_true (decide_eq_decide.2 (ofN_iff k a b k24))) ?_
      refine OQ.exT rfl rfl rfl (fun w H => (Ex.move rfl)) rfl ?_
      refine OQ.exT rfl rfl rfl (fun w H => (Ex.move rfl)) rfl ?_
      refine OQ.exT rfl rfl rfl (fun w H => (Ex.move rfl)) rfl ?_
      refine OQ.step rfl ?_
      refine O.guard_t rfl rfl ?_
      refine O.callF Try.call20 rfl rfl (CT.mono (of_ct (n := (k : Int)) (a := numN (invL (ofN k a))) (by rw [hnum]; omega) (Holds.to (by assumption))) ?_)
      rintro _ w ⟨ho3, H⟩
      rename_i vx
      rw [hhl, hnum] at H
      refine O.thenNil ⟨(by first | exact Holds.to (by assumption) | assumption), ?_⟩
      refine OQ.step rfl ?_
      refine O.guard_t rfl rfl ?_
      refine O.callF Try.call17 rfl rfl (CT.mono (intsA_ct (va := vx) (v := va) (xs := ofN k (a % fac k)) (l := ofN k a) (Holds.to (by assumption)) (by omega) (by omega)) ?_)
      rintro _ w ⟨rfl, H⟩
      refine O.thenNil ⟨(by first | exact Holds.to (by assumption) | assumption), ?_⟩
      refine OQ.ex rfl (fun w H => (Ex.pick_t rfl rfl)) rfl ?_
      refine OQ.ex rfl (fun w H => (Ex.move rfl)) rfl ?_
      refine OQ.known (t := 75) (c := true) rfl (by first | rfl | decide | (refine decide_eq_true ?_; omega) | (refine decide_eq_false ?_; omega) | exact decide_eq_true hnum | exact decide_eq_true (ofN_mod k a).symm | exact decide_eq_true (decide_eq_decide.2 (ofN_iff k a b k24))) ?_
      refine OQ.exT rfl rfl rfl (fun w H => (Ex.move rfl)) rfl ?_
      refine OQ.exT rfl rfl rfl (fun w H => (Ex.move rfl)) rfl ?_
      refine OQ.exT rfl rfl rfl (fun w H => (Ex.move rfl)) rfl ?_
      refine OQ.exT rfl rfl rfl (fun w H => (Ex.move rfl)) rfl ?_
      refine OQ.exT rfl rfl rfl (fun w H => (Ex.rem (r := ((a % fac k : Nat) : Int)) rfl rfl (by omega) (show ((a : Nat) : Int).tmod ((fac k : Nat) : Int) = ((a % fac k : Nat) : Int) from rfl))) rfl ?_
      refine OQ.exT rfl rfl rfl (fun w H => (Ex.move rfl)) rfl ?_
      refine OQ.exT rfl rfl rfl (fun w H => (Ex.move rfl)) rfl ?_
      refine OQ.exT rfl rfl rfl (fun w H => (Ex.rem (r := ((b % fac k : Nat) : Int)) rfl rfl (by omega) (show ((b : Nat) : Int).tmod ((fac k : Nat) : Int) = ((b % fac k : Nat) : Int) from rfl))) rfl ?_
      refine OQ.exT rfl rfl rfl (fun w H => (Ex.eql64 (a % fac k) (b % fac k) rfl rfl)) rfl ?_
      refine OQ.step rfl ?_
      refine O.guard_t rfl rfl ?_
      refine O.callF Try.call17 rfl rfl (CT.mono (intsA_ct (va := va) (v := vb) (xs := ofN k a) (l := ofN k b) (Holds.to (by assumption)) (by omega) (by omega)) ?_)
      rintro _ w ⟨rfl, H⟩
      refine O.thenNil ⟨(by first | exact Holds.to (by assumption) | assumption), ?_⟩
      refine OQ.exT rfl rfl rfl (fun w H => (Ex.eqlB Try.runUnderlying4 rfl rfl)) rfl ?_
      refine OQ.ex rfl (fun w H => (Ex.pick_t rfl rfl)) rfl ?_
      refine OQ.ex rfl (fun w H => (Ex.move rfl)) rfl ?_
      refine OQ.known (t := 88) (c := true) rfl (by first | rfl | decide | (refine decide_eq_true ?_; omega) | (refine decide_eq_false ?_; omega) | exact decide_eq_true hnum | exact decide_eq_true (ofN_mod k a).symm | exact decide_eq_true (decide_eq_decide.2 (ofN_iff k a b k24))) ?_
      refine OQ.exT rfl rfl rfl (fun w H => (Ex.move rfl)) rfl ?_
      refine OQ.exT rfl rfl rfl (fun w H => (Ex.eqlI rfl rfl)) rfl ?_
      refine OQ.ex rfl (fun w H => (Ex.pick_t rfl rfl)) rfl ?_
      refine OQ.ex rfl (fun w H => (Ex.assign rfl)) rfl ?_
      refine OQ.done ?_
      refine hK19 _ _ _ ?_
      refine W.ret ?_
      try dsimp only [thenQ, blockQ, retQ]
      first | refine ⟨_, ⟨_, _, rfl, rfl, rfl⟩, ?_⟩ | (refine retD_mark ?_; intro w H; refine ⟨_, ⟨_, _, rfl, rfl, rfl⟩, ?_⟩) | (refine retD_mark2 ?_; intro w H; refine ⟨_, ⟨_, _, rfl, rfl, rfl⟩, ?_⟩)
      refine ⟨?_, Holds.base_below (L := []) (Holds.to (by assumption))⟩
      first
      | rfl
      | exact congrArg Value.bool (decide_eq_true rfl)
theorem permNumbers_row {w0 : World} {n ma mb : Int} (hn : (Lit.int .i64 n).wf = true) (hma : (Lit.int .u64 ma).wf = true) (hmb : (Lit.int .u64 mb).wf = true) :
    CT Try.prog 4 [.int .i64 n, .int .u64 ma, .int .u64 mb] w0 fun u w' => u = .bool true ∧ RowKit.Below w0.heap.size w0 w' := permNumbers_ct hma hmb
end Go.Proofs.Ythpmohkmjfhmmaa
