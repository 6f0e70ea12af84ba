import Derived.Test.YtikdblejkmaloaaDoorBits
import Derived.Test.YtikdblejkmaloaaDoorRrRow
namespace Go.Proofs.YtikdblejkmaloaaDoor
open Go.Rr Go
set_option linter.unusedVariables false
theorem u64_nat {m : Int} (h : (Lit.int .u64 m).wf = true) : ∃ s : Nat, m = s ∧ s < 18446744073709551616 := by
  simp [Lit.wf, IntKind.min, IntKind.max, IntKind.signed, IntKind.bits] at h
  exact ⟨m.toNat, by omega, by omega⟩
theorem pop_le (s : Nat) : pop s ≤ 64 := by rw [pop_len]; exact lst_le s
theorem split_cases (s lo hi : Nat) (n : Int) (hs : s < 18446744073709551616) (hlo : lo = s &&& belN n) (hhi : hi = s &&& (18446744073709551615 - belN n)) :
    (lo ≠ 0 ∧ s ≠ 0 ∧ fstS s = fstS lo ∧ fstS lo < n) ∨ (lo = 0 ∧ hi ≠ 0 ∧ s ≠ 0 ∧ fstS s = fstS hi ∧ n ≤ fstS hi) ∨ (lo = 0 ∧ hi = 0 ∧ s = 0) := by
  have ll : lo < 18446744073709551616 := hlo ▸ and_lt _ _ hs
  have lh : hi < 18446744073709551616 := hhi ▸ and_lt _ _ hs
  have bl : ∀ i, i < 64 → lo.testBit i = (s.testBit i && decide ((i : Int) < n)) := fun i hi => by rw [hlo, Nat.testBit_and, belN_bit n i hi]
  have bh : ∀ i, i < 64 → hi.testBit i = (s.testBit i && !decide ((i : Int) < n)) := fun i h => by rw [hhi, andNot_bit s _ i (belN_lt n) h, belN_bit n i h]
  by_cases h0 : lo = 0
  · by_cases h1 : hi = 0
    · refine .inr (.inr ⟨h0, h1, set_eq _ _ hs (by decide) fun i h => ?_⟩)
      have b1 := bl i h
      have b2 := bh i h
      rw [h0, Nat.zero_testBit] at b1
      rw [h1, Nat.zero_testBit] at b2
      rw [Nat.zero_testBit]
      cases hb : s.testBit i
      · rfl
      · rw [hb] at b1 b2
        cases hd : decide ((i : Int) < n) <;> rw [hd] at b1 b2 <;> cases b1
        cases b2
    · obtain ⟨k1, k2, k3, _⟩ := ctz_spec hi h1 lh
      have b := bh _ k1
      rw [k2] at b
      have hb := (Bool.and_eq_true_iff).1 b.symm
      obtain ⟨hs0, hk⟩ := ctz_least s (Lib.ctz 64 hi) hs hb.1 fun i hi' => by
        have b1 := bl i (by omega)
        have b2 := bh i (by omega)
        rw [h0, Nat.zero_testBit] at b1
        rw [k3 i hi'] at b2
        cases hb : s.testBit i
        · rfl
        · rw [hb] at b1 b2
          cases hd : decide ((i : Int) < n) <;> rw [hd] at b1 b2 <;> cases b1
          cases b2
      refine .inr (.inl ⟨h0, h1, hs0, ?_, ?_⟩)
      · unfold fstS; rw [if_neg hs0, if_neg h1, hk]
      · unfold fstS; rw [if_neg h1]
        have := hb.2
        simp at this
        omega
  · obtain ⟨k1, k2, k3, _⟩ := ctz_spec lo h0 ll
    have b := bl _ k1
    rw [k2] at b
    have hb := (Bool.and_eq_true_iff).1 b.symm
    have hn := of_decide_eq_true hb.2
    obtain ⟨hs0, hk⟩ := ctz_least s (Lib.ctz 64 lo) hs hb.1 fun i hi' => by
      have b1 := bl i (by omega)
      rw [k3 i hi', decide_eq_true (by omega), Bool.and_true] at b1
      exact b1.symm
    refine .inl ⟨h0, hs0, ?_, ?_⟩
    · unfold fstS; rw [if_neg hs0, if_neg h0, hk]
    · unfold fstS; rw [if_neg h0]; exact hn
theorem bitsSplit_ct {w0 : World} {m n : Int} (hT : TabAt w0) (hm : (Lit.int .u64 m).wf = true) (hn : (Lit.int .i64 n).wf = true) :
    CT Tryd.prog 3 [.int .u64 m, .int .i64 n] w0 fun u w' => u = .bool true ∧ RowKit.Below w0.heap.size w0 w' := by
  have H := Holds.base_refl w0
  obtain ⟨s, rfl, hs⟩ := u64_nat hm
  have hb := belN_lt n
  obtain ⟨lo, hlo⟩ : ∃ lo, lo = s &&& belN n := ⟨_, rfl⟩
  obtain ⟨hi, hhi⟩ : ∃ hi, hi = s &&& (18446744073709551615 - belN n) := ⟨_, rfl⟩
  have ll : lo < 18446744073709551616 := hlo ▸ and_lt _ _ hs
  have lh : hi < 18446744073709551616 := hhi ▸ and_lt _ _ hs
  have hc := split_cases s lo hi n hs hlo hhi
  have hp := pop_split s (belN n) hb
  rw [← hlo, ← hhi] at hp
  have p1 := pop_le lo
  have p2 := pop_le hi
  refine CT.enter (N := 77) Tryd.func3 rfl rfl rfl rfl ?_
  refine W.seq (fun K0 hK0 => ?_)
  refine W.region ?_
  refine O.ex (Ex.assign rfl) rfl ?_
  refine O.nil ?_
  refine hK0 _ _ _ ?_
  refine W.seq (fun K1 hK1 => ?_)
  refine W.seq (fun K2 hK2 => ?_)
  refine W.region ?_
  refine O.callF Tryd.call8 rfl rfl (CT.mono (awake03_ct hT (Holds.to (by assumption))) ?_)
  rintro _ w ⟨rfl, H⟩
  refine O.ex (by first | exact Ex.notD rfl | exact Ex.not rfl) rfl ?_
  refine O.nil ?_
  refine hK2 _ _ _ ?_
  refine W.known_f rfl (by first | rfl | decide | (refine decide_eq_false (fun hh => hh ?_); omega) | exact decide_eq_true e1) ?_
  refine W.skip ?_
  refine hK1 _ _ _ ?_
  refine W.seq (fun K3 hK3 => ?_)
  refine W.region ?_
  refine O.ex (Ex.move rfl) rfl ?_
  refine O.ex (Ex.assign rfl) rfl ?_
  refine O.nil ?_
  refine hK3 _ _ _ ?_
  refine W.seq (fun K4 hK4 => ?_)
  refine W.region ?_
  refine O.ex (Ex.move rfl) rfl ?_
  refine O.ex (Ex.move rfl) rfl ?_
  refine O.callF Tryd.call9 rfl rfl (CT.mono (below_ct (Holds.to (by assumption))) ?_)
  rintro _ w ⟨rfl, H⟩
  refine O.ex (Ex.and64 _ _ rfl rfl) rfl ?_
  rw [← hlo]
  refine O.ex (Ex.move rfl) rfl ?_
  refine O.ex (Ex.move rfl) rfl ?_
  refine O.callF Tryd.call9 rfl rfl (CT.mono (below_ct (Holds.to (by assumption))) ?_)
  rintro _ w ⟨rfl, H⟩
  refine O.ex (Ex.andNot64 _ _ rfl rfl) rfl ?_
  rw [← hhi]
  refine O.ex (Ex.assign rfl) rfl ?_
  refine O.ex (Ex.assign rfl) rfl ?_
  refine O.nil ?_
  refine hK4 _ _ _ ?_
  refine W.seq (fun K5 hK5 => ?_)
  refine W.region ?_
  refine O.ex (Ex.move rfl) rfl ?_
  refine O.callF Tryd.call10 rfl rfl (CT.mono (first_ct hT (Holds.to (by assumption)) (by assumption)) ?_)
  rintro _ w ⟨rfl, H⟩
  refine O.ex (Ex.move rfl) rfl ?_
  refine O.ex (Ex.extract rfl rfl) rfl ?_
  refine O.ex (Ex.extract rfl rfl) rfl ?_
  refine O.ex (Ex.assign rfl) rfl ?_
  refine O.ex (Ex.assign rfl) rfl ?_
  refine O.nil ?_
  refine hK5 _ _ _ ?_
  refine W.seq (fun K6 hK6 => ?_)
  refine W.region ?_
  refine O.ex (Ex.move rfl) rfl ?_
  refine O.callF Tryd.call10 rfl rfl (CT.mono (first_ct hT (Holds.to (by assumption)) (by assumption)) ?_)
  rintro _ w ⟨rfl, H⟩
  refine O.ex (Ex.move rfl) rfl ?_
  refine O.ex (Ex.extract rfl rfl) rfl ?_
  refine O.ex (Ex.extract rfl rfl) rfl ?_
  refine O.ex (Ex.assign rfl) rfl ?_
  refine O.ex (Ex.assign rfl) rfl ?_
  refine O.nil ?_
  refine hK6 _ _ _ ?_
  refine W.seq (fun K7 hK7 => ?_)
  refine W.region ?_
  refine O.ex (Ex.move rfl) rfl ?_
  refine O.callF Tryd.call10 rfl rfl (CT.mono (first_ct hT (Holds.to (by assumption)) (by assumption)) ?_)
  rintro _ w ⟨rfl, H⟩
  refine O.ex (Ex.move rfl) rfl ?_
  refine O.ex (Ex.extract rfl rfl) rfl ?_
  refine O.ex (Ex.extract rfl rfl) rfl ?_
  refine O.ex (Ex.assign rfl) rfl ?_
  refine O.ex (Ex.assign rfl) rfl ?_
  refine O.nil ?_
  refine hK7 _ _ _ ?_
  refine W.seq (fun K8 hK8 => ?_)
  refine W.seq (fun K9 hK9 => ?_)
  refine W.region ?_
  rcases hc with ⟨h1, h2, e1, e2⟩ | ⟨h1, h2, h3, e1, e2⟩ | ⟨h1, h2, h3⟩
  · rw [show decide (s ≠ 0) = true from decide_eq_true h2, show decide (lo ≠ 0) = true from decide_eq_true h1]
    refine O.ex (Ex.move rfl) rfl ?_
    refine O.callF Tryd.call11 rfl rfl (CT.mono (len_ct (Holds.to (by assumption)) (by assumption)) ?_)
    rintro _ w ⟨rfl, H⟩
    refine O.ex (Ex.move rfl) rfl ?_
    refine O.callF Tryd.call11 rfl rfl (CT.mono (len_ct (Holds.to (by assumption)) (by assumption)) ?_)
    rintro _ w ⟨rfl, H⟩
    refine O.ex (by first | exact Ex.addI rfl rfl | exact Ex.add rfl rfl rfl) rfl ?_
    refine O.ex (Ex.move rfl) rfl ?_
    refine O.callF Tryd.call11 rfl rfl (CT.mono (len_ct (Holds.to (by assumption)) (by assumption)) ?_)
    rintro _ w ⟨rfl, H⟩
    refine O.ex (Ex.neqI rfl rfl) rfl ?_
    refine O.ex (Ex.move rfl) rfl ?_
    refine O.known (t := 48) (c := false) rfl (by first | rfl | decide | (refine decide_eq_false (fun hh => hh ?_); omega) | exact decide_eq_true e1) ?_
    refine O.guard_t rfl rfl ?_
    refine O.ex (Ex.move rfl) rfl ?_
    refine O.guard_t rfl rfl ?_
    refine O.ex (Ex.move rfl) rfl ?_
    refine O.guard_t rfl rfl ?_
    refine O.ex (Ex.move rfl) rfl ?_
    refine O.known (t := 51) (c := true) rfl (by first | rfl | decide | (refine decide_eq_false (fun hh => hh ?_); omega) | exact decide_eq_true e1) ?_
    refine O.guard_f rfl rfl rfl rfl ?_
    refine O.guard_t rfl rfl ?_
    refine O.ex (Ex.pick_t rfl rfl) rfl ?_
    refine O.guard_t rfl rfl ?_
    refine O.ex (Ex.neqB Tryd.runUnderlying4 rfl rfl) rfl ?_
    refine O.ex (Ex.pick_f rfl rfl) rfl ?_
    refine O.nil ?_
    refine hK9 _ _ _ ?_
    refine W.known_f rfl (by first | rfl | decide | (refine decide_eq_false (fun hh => hh ?_); omega) | exact decide_eq_true e1) ?_
    refine W.skip ?_
    refine hK8 _ _ _ ?_
    refine W.seq (fun K10 hK10 => ?_)
    refine W.seq (fun K11 hK11 => ?_)
    refine W.region ?_
    refine O.ex (Ex.move rfl) rfl ?_
    refine O.nil ?_
    refine hK11 _ _ _ ?_
    refine W.known_t rfl (by first | rfl | decide | (refine decide_eq_false (fun hh => hh ?_); omega) | exact decide_eq_true e1) ?_
    refine W.seq (fun K12 hK12 => ?_)
    refine W.region ?_
    refine O.ex (Ex.move rfl) rfl ?_
    refine O.ex (Ex.move rfl) rfl ?_
    refine O.ex (Ex.eqlI rfl rfl) rfl ?_
    refine O.ex (Ex.move rfl) rfl ?_
    refine O.known (t := 60) (c := true) rfl (by first | rfl | decide | (refine decide_eq_false (fun hh => hh ?_); omega) | exact decide_eq_true e1) ?_
    refine O.guard_t rfl rfl ?_
    refine O.ex (Ex.move rfl) rfl ?_
    refine O.guard_t rfl rfl ?_
    refine O.ex (Ex.move rfl) rfl ?_
    refine O.guard_t rfl rfl ?_
    refine O.ex (Ex.lss rfl rfl) rfl ?_
    refine O.ex (Ex.pick_t rfl rfl) rfl ?_
    refine O.ex (Ex.assign rfl) rfl ?_
    refine O.nil ?_
    refine hK12 _ _ _ ?_
    refine W.ret ?_
    try dsimp only [thenQ, blockQ, retQ]
    first | refine ⟨_, ⟨_, _, rfl, rfl, rfl⟩, ?_⟩ | (refine retD_mark ?_; intro w H; refine ⟨_, ⟨_, _, rfl, rfl, rfl⟩, ?_⟩) | (refine retD_mark2 ?_; intro w H; refine ⟨_, ⟨_, _, rfl, rfl, rfl⟩, ?_⟩)
    refine ⟨?_, Holds.base_below (L := []) (Holds.to (by assumption))⟩
    first
    | rfl
    | exact congrArg Value.bool (decide_eq_true (by omega))
  · rw [show decide (s ≠ 0) = true from decide_eq_true h3, show decide (lo ≠ 0) = false from decide_eq_false (fun h => h h1), show decide (hi ≠ 0) = true from decide_eq_true h2]
    refine O.ex (Ex.move rfl) rfl ?_
    refine O.callF Tryd.call11 rfl rfl (CT.mono (len_ct (Holds.to (by assumption)) (by assumption)) ?_)
    rintro _ w ⟨rfl, H⟩
    refine O.ex (Ex.move rfl) rfl ?_
    refine O.callF Tryd.call11 rfl rfl (CT.mono (len_ct (Holds.to (by assumption)) (by assumption)) ?_)
    rintro _ w ⟨rfl, H⟩
    refine O.ex (by first | exact Ex.addI rfl rfl | exact Ex.add rfl rfl rfl) rfl ?_
    refine O.ex (Ex.move rfl) rfl ?_
    refine O.callF Tryd.call11 rfl rfl (CT.mono (len_ct (Holds.to (by assumption)) (by assumption)) ?_)
    rintro _ w ⟨rfl, H⟩
    refine O.ex (Ex.neqI rfl rfl) rfl ?_
    refine O.ex (Ex.move rfl) rfl ?_
    refine O.known (t := 48) (c := false) rfl (by first | rfl | decide | (refine decide_eq_false (fun hh => hh ?_); omega) | exact decide_eq_true e1) ?_
    refine O.guard_t rfl rfl ?_
    refine O.ex (Ex.move rfl) rfl ?_
    refine O.guard_t rfl rfl ?_
    refine O.ex (Ex.move rfl) rfl ?_
    refine O.guard_t rfl rfl ?_
    refine O.ex (Ex.move rfl) rfl ?_
    refine O.known (t := 51) (c := false) rfl (by first | rfl | decide | (refine decide_eq_false (fun hh => hh ?_); omega) | exact decide_eq_true e1) ?_
    refine O.guard_t rfl rfl ?_
    refine O.ex (Ex.move rfl) rfl ?_
    refine O.guard_t rfl rfl ?_
    refine O.ex (Ex.pick_f rfl rfl) rfl ?_
    refine O.guard_t rfl rfl ?_
    refine O.ex (Ex.neqB Tryd.runUnderlying4 rfl rfl) rfl ?_
    refine O.ex (Ex.pick_f rfl rfl) rfl ?_
    refine O.nil ?_
    refine hK9 _ _ _ ?_
    refine W.known_f rfl (by first | rfl | decide | (refine decide_eq_false (fun hh => hh ?_); omega) | exact decide_eq_true e1) ?_
    refine W.skip ?_
    refine hK8 _ _ _ ?_
    refine W.seq (fun K13 hK13 => ?_)
    refine W.seq (fun K14 hK14 => ?_)
    refine W.region ?_
    refine O.ex (Ex.move rfl) rfl ?_
    refine O.nil ?_
    refine hK14 _ _ _ ?_
    refine W.known_f rfl (by first | rfl | decide | (refine decide_eq_false (fun hh => hh ?_); omega) | exact decide_eq_true e1) ?_
    refine W.skip ?_
    refine hK13 _ _ _ ?_
    refine W.seq (fun K15 hK15 => ?_)
    refine W.region ?_
    refine O.ex (Ex.move rfl) rfl ?_
    refine O.ex (by first | exact Ex.notD rfl | exact Ex.not rfl) rfl ?_
    refine O.ex (Ex.move rfl) rfl ?_
    refine O.known (t := 67) (c := false) rfl (by first | rfl | decide | (refine decide_eq_false (fun hh => hh ?_); omega) | exact decide_eq_true e1) ?_
    refine O.guard_t rfl rfl ?_
    refine O.ex (Ex.move rfl) rfl ?_
    refine O.guard_t rfl rfl ?_
    refine O.ex (Ex.move rfl) rfl ?_
    refine O.guard_t rfl rfl ?_
    refine O.ex (Ex.eqlI rfl rfl) rfl ?_
    refine O.guard_t rfl rfl ?_
    refine O.ex (Ex.move rfl) rfl ?_
    refine O.known (t := 71) (c := true) rfl (by first | rfl | decide | (refine decide_eq_false (fun hh => hh ?_); omega) | exact decide_eq_true e1) ?_
    refine O.guard_t rfl rfl ?_
    refine O.ex (Ex.move rfl) rfl ?_
    refine O.guard_t rfl rfl ?_
    refine O.ex (Ex.move rfl) rfl ?_
    refine O.guard_t rfl rfl ?_
    refine O.ex (Ex.geq rfl rfl) rfl ?_
    refine O.guard_t rfl rfl ?_
    refine O.ex (Ex.pick_t rfl rfl) rfl ?_
    refine O.ex (Ex.pick_f rfl rfl) rfl ?_
    refine O.ex (Ex.assign rfl) rfl ?_
    refine O.nil ?_
    refine hK15 _ _ _ ?_
    refine W.ret ?_
    try dsimp only [thenQ, blockQ, retQ]
    first | refine ⟨_, ⟨_, _, rfl, rfl, rfl⟩, ?_⟩ | (refine retD_mark ?_; intro w H; refine ⟨_, ⟨_, _, rfl, rfl, rfl⟩, ?_⟩) | (refine retD_mark2 ?_; intro w H; refine ⟨_, ⟨_, _, rfl, rfl, rfl⟩, ?_⟩)
    refine ⟨?_, Holds.base_below (L := []) (Holds.to (by assumption))⟩
    first
    | rfl
    | exact congrArg Value.bool (decide_eq_true (by omega))
  · rw [show decide (s ≠ 0) = false from decide_eq_false (fun h => h h3), show decide (lo ≠ 0) = false from decide_eq_false (fun h => h h1), show decide (hi ≠ 0) = false from decide_eq_false (fun h => h h2)]
    refine O.ex (Ex.move rfl) rfl ?_
    refine O.callF Tryd.call11 rfl rfl (CT.mono (len_ct (Holds.to (by assumption)) (by assumption)) ?_)
    rintro _ w ⟨rfl, H⟩
    refine O.ex (Ex.move rfl) rfl ?_
    refine O.callF Tryd.call11 rfl rfl (CT.mono (len_ct (Holds.to (by assumption)) (by assumption)) ?_)
    rintro _ w ⟨rfl, H⟩
    refine O.ex (by first | exact Ex.addI rfl rfl | exact Ex.add rfl rfl rfl) rfl ?_
    refine O.ex (Ex.move rfl) rfl ?_
    refine O.callF Tryd.call11 rfl rfl (CT.mono (len_ct (Holds.to (by assumption)) (by assumption)) ?_)
    rintro _ w ⟨rfl, H⟩
    refine O.ex (Ex.neqI rfl rfl) rfl ?_
    refine O.ex (Ex.move rfl) rfl ?_
    refine O.known (t := 48) (c := false) rfl (by first | rfl | decide | (refine decide_eq_false (fun hh => hh ?_); omega) | exact decide_eq_true e1) ?_
    refine O.guard_t rfl rfl ?_
    refine O.ex (Ex.move rfl) rfl ?_
    refine O.guard_t rfl rfl ?_
    refine O.ex (Ex.move rfl) rfl ?_
    refine O.guard_t rfl rfl ?_
    refine O.ex (Ex.move rfl) rfl ?_
    refine O.known (t := 51) (c := false) rfl (by first | rfl | decide | (refine decide_eq_false (fun hh => hh ?_); omega) | exact decide_eq_true e1) ?_
    refine O.guard_t rfl rfl ?_
    refine O.ex (Ex.move rfl) rfl ?_
    refine O.guard_t rfl rfl ?_
    refine O.ex (Ex.pick_f rfl rfl) rfl ?_
    refine O.guard_t rfl rfl ?_
    refine O.ex (Ex.neqB Tryd.runUnderlying4 rfl rfl) rfl ?_
    refine O.ex (Ex.pick_f rfl rfl) rfl ?_
    refine O.nil ?_
    refine hK9 _ _ _ ?_
    refine W.known_f rfl (by first | rfl | decide | (refine decide_eq_false (fun hh => hh ?_); omega) | exact decide_eq_true e1) ?_
    refine W.skip ?_
    refine hK8 _ _ _ ?_
    refine W.seq (fun K16 hK16 => ?_)
    refine W.seq (fun K17 hK17 => ?_)
    refine W.region ?_
    refine O.ex (Ex.move rfl) rfl ?_
    refine O.nil ?_
    refine hK17 _ _ _ ?_
    refine W.known_f rfl (by first | rfl | decide | (refine decide_eq_false (fun hh => hh ?_); omega) | exact decide_eq_true e1) ?_
    refine W.skip ?_
    refine hK16 _ _ _ ?_
    refine W.seq (fun K18 hK18 => ?_)
    refine W.region ?_
    refine O.ex (Ex.move rfl) rfl ?_
    refine O.ex (by first | exact Ex.notD rfl | exact Ex.not rfl) rfl ?_
    refine O.ex (Ex.move rfl) rfl ?_
    refine O.known (t := 67) (c := true) rfl (by first | rfl | decide | (refine decide_eq_false (fun hh => hh ?_); omega) | exact decide_eq_true e1) ?_
    refine O.guard_f rfl rfl rfl rfl ?_
    refine O.guard_f rfl rfl rfl rfl ?_
    refine O.guard_f rfl rfl rfl rfl ?_
    refine O.guard_f rfl rfl rfl rfl ?_
    refine O.guard_u rfl rfl rfl ?_
    refine O.guard_u rfl rfl rfl ?_
    refine O.guard_u rfl rfl rfl ?_
    refine O.guard_f rfl rfl rfl rfl ?_
    refine O.ex (Ex.pick_t rfl rfl) rfl ?_
    refine O.ex (Ex.assign rfl) rfl ?_
    refine O.nil ?_
    refine hK18 _ _ _ ?_
    refine W.ret ?_
    try dsimp only [thenQ, blockQ, retQ]
    first | refine ⟨_, ⟨_, _, rfl, rfl, rfl⟩, ?_⟩ | (refine retD_mark ?_; intro w H; refine ⟨_, ⟨_, _, rfl, rfl, rfl⟩, ?_⟩) | (refine retD_mark2 ?_; intro w H; refine ⟨_, ⟨_, _, rfl, rfl, rfl⟩, ?_⟩)
    refine ⟨?_, Holds.base_below (L := []) (Holds.to (by assumption))⟩
    first
    | rfl
    | exact congrArg Value.bool (decide_eq_true (by omega))
end Go.Proofs.YtikdblejkmaloaaDoor
