import Derived.Test.YtikdblejkmaloaaDoorBitsSplit
namespace Go.Proofs.YtikdblejkmaloaaDoor
open Go.Rr Go
set_option linter.unusedVariables false
/-- The numbers from 0 on. -/
def blw (i : Nat) : List Int := (List.range i).map Int.ofNat
theorem blw_succ (i : Nat) : blw (i + 1) = blw i ++ [(i : Int)] := by unfold blw; rw [List.range_succ, List.map_append]; rfl
theorem blw_len (i : Nat) : (blw i).length = i := by unfold blw; simp
theorem filter_lt (k : Nat) : ∀ n, k ≤ n → (List.range n).filter (fun i => decide (i < k)) = List.range k
  | 0, h => by obtain rfl : k = 0 := by omega
               rfl
  | n + 1, h => by
    rw [List.range_succ, List.filter_append]
    rcases Nat.lt_or_ge n k with h1 | h1
    · obtain rfl : k = n + 1 := by omega
      rw [List.range_succ]
      simp
      intro a ha; omega
    · rw [filter_lt k n h1]; simp; omega
theorem below_law (n : Int) (i : Nat) (h1 : i ≤ 64) (h2 : (i : Int) ≤ max n 0) (h3 : i = 64 ∨ n ≤ (i : Int)) : lstI (belN n) = blw i := by
  unfold lstI blw
  congr 1
  unfold lst
  rw [← filter_lt i 64 h1]
  apply List.filter_congr
  intro x hx
  rw [List.mem_range] at hx
  rw [belN_bit n x hx]
  exact decide_eq_decide.2 (by omega)
theorem bitsOf_ct {w0 : World} {v : Value} {xs : List Int} {n : Int} (hT : TabAt w0) (hx : SlIn w0 1 (fun s : Int => [.int .i64 s]) v xs) (hl : xs.length ≤ 9223372036854775807) (hn : (Lit.int .i64 n).wf = true) :
    CT Tryd.prog 6 [v, .int .i64 n] w0 fun u w' => u = .bool true ∧ RowKit.Below w0.heap.size w0 w' := by
  have H := Holds.base_refl w0
  refine CT.enter (N := 37) Tryd.func6 rfl rfl rfl rfl ?_
  refine W.seq (fun K0 hK0 => ?_)
  refine W.region ?_
  refine O.ex (Ex.assign rfl) rfl ?_
  refine O.nil ?_
  refine hK0 _ _ _ ?_
  refine W.seq (fun K1 hK1 => ?_)
  refine W.seq (fun K2 hK2 => ?_)
  refine W.region ?_
  refine O.callF Tryd.call8 rfl rfl (CT.mono (awake03_ct hT (Holds.to (by assumption))) ?_)
  rintro _ w ⟨rfl, H⟩
  refine O.ex (by first | exact Ex.notD rfl | exact Ex.not rfl) rfl ?_
  refine O.nil ?_
  refine hK2 _ _ _ ?_
  refine W.known_f rfl (by first | rfl | decide | exact decide_eq_true (orL_ofL xs)) ?_
  refine W.skip ?_
  refine hK1 _ _ _ ?_
  refine W.seq (fun K3 hK3 => ?_)
  refine W.seq (fun K4 hK4 => ?_)
  refine W.region ?_
  refine O.ex (Ex.move rfl) rfl ?_
  refine O.ex (by first | exact Ex.lenR Tryd.runUnderlying30 rfl | exact Ex.lenIn Tryd.runUnderlying30 rfl | exact Ex.lenL Tryd.runUnderlying30 rfl | exact Ex.len rfl Tryd.runUnderlying30 rfl) rfl ?_
  refine O.ex (Ex.gtr rfl rfl) rfl ?_
  refine O.nil ?_
  refine hK4 _ _ _ ?_
  first | refine W.cond_p rfl (fun hbig => ?_) (fun hle => ?_) | refine W.cond_b rfl (fun hbig => ?_) (fun hle => ?_)
  · refine W.seq (fun K5 hK5 => ?_)
    refine W.region ?_
    refine O.ex (Ex.assign rfl) rfl ?_
    refine O.nil ?_
    refine hK5 _ _ _ ?_
    refine W.ret ?_
    try dsimp only [thenQ, blockQ, retQ]
    first | refine ⟨_, ⟨_, _, rfl, rfl, rfl⟩, ?_⟩ | (refine retD_mark ?_; intro w H; refine ⟨_, ⟨_, _, rfl, rfl, rfl⟩, ?_⟩) | (refine retD_mark2 ?_; intro w H; refine ⟨_, ⟨_, _, rfl, rfl, rfl⟩, ?_⟩)
    exact ⟨rfl, Holds.base_below (L := []) (Holds.to (by assumption))⟩
  · refine W.skip ?_
    refine hK3 _ _ _ ?_
    refine W.seq (fun K6 hK6 => ?_)
    refine W.region ?_
    refine O.ex (Ex.assign rfl) rfl ?_
    refine O.nil ?_
    refine hK6 _ _ _ ?_
    refine W.seq (fun K7 hK7 => ?_)
    refine W.seq (fun K8 hK8 => ?_)
    refine W.region ?_
    refine O.ex (Ex.assign rfl) rfl ?_
    refine O.nil ?_
    refine hK8 _ _ _ ?_
    refine W.block ?_
    have H := arr_nil (T := 3) (e := Value.int .i64) H
    refine W.loop (σ := Nat × Value) (fun i => [(0, v), (1, .int .i64 n), (5, i.2), (6, .int .i64 (i.1 : Int))]) (fun i ds w => ds = [] ∧ i.1 ≤ 64 ∧ (i.1 : Int) ≤ max n 0 ∧ i.2.oneCell' = true ∧ Holds w [arr 3 (Value.int .i64) i.2 (blw i.1), base w0]) (fun i => 64 - i.1) (0, .slice none 0 0) ⟨rfl, rfl, rfl, rfl, trivial⟩ ⟨rfl, by simp, by dsimp only; omega, rfl, Holds.to (by assumption)⟩ ?_
    clear H
    rintro ⟨i, va⟩ _ w ⟨rfl, hi, hin, hva, H⟩
    dsimp only at hi hin hva H
    dsimp only
    have hbl := blw_len i
    refine W.seq (fun K9 hK9 => ?_)
    refine W.seq (fun K10 hK10 => ?_)
    refine W.region ?_
    refine O.ex (Ex.move rfl) rfl ?_
    refine O.ex (Ex.lss rfl rfl) rfl ?_
    refine O.ex (Ex.move rfl) rfl ?_
    first | refine O.split_p (t := 14) rfl (fun h64 => ?_) (fun h64 => ?_) | refine O.split (t := 14) rfl (fun h64 => ?_) (fun h64 => ?_)
    · refine O.guard_t rfl rfl ?_
      refine O.ex (Ex.move rfl) rfl ?_
      refine O.guard_t rfl rfl ?_
      refine O.ex (Ex.move rfl) rfl ?_
      refine O.guard_t rfl rfl ?_
      refine O.ex (Ex.lss rfl rfl) rfl ?_
      refine O.ex (Ex.pick_t rfl rfl) rfl ?_
      refine O.nil ?_
      refine hK10 _ _ _ ?_
      first | refine W.cond_p rfl (fun hlt => ?_) (fun hge => ?_) | refine W.cond_b rfl (fun hlt => ?_) (fun hge => ?_)
      · refine W.skip ?_
        refine hK9 _ _ _ ?_
        refine W.seq (fun K11 hK11 => ?_)
        refine W.block ?_
        refine W.region ?_
        refine O.ex (Ex.move rfl) rfl ?_
        refine O.ex (Ex.move rfl) rfl ?_
        refine O.build1 (e := Value.int .i64) Tryd.runUnderlying30 Tryd.sizeOf3 Tryd.zeroValue3 rfl (fun v23 w hv23 H => ?_)
        refine O.appendR Tryd.runUnderlying30 Tryd.typeInfo3 (bt := 8) rfl Tryd.sizeOf3 Tryd.zeroValue3 rfl rfl (fun v24 w hv24 H => ?_)
        refine O.ex (Ex.assign rfl) rfl ?_
        refine O.nil ?_
        refine hK11 _ _ _ ?_
        refine W.region ?_
        refine O.ex (Ex.move rfl) rfl ?_
        refine O.ex (by first | exact Ex.addI rfl rfl | exact Ex.add rfl rfl rfl) rfl ?_
        refine O.ex (Ex.assign rfl) rfl ?_
        refine O.nil ?_
        exact ⟨(i + 1, _), ⟨rfl, rfl, rfl, rfl, trivial⟩, ⟨rfl, by dsimp only; omega, by dsimp only; omega, by assumption, by rw [blw_succ]; exact Holds.to (by assumption)⟩, by dsimp only; omega⟩
      · refine W.exit ?_
        refine hK7 _ _ _ ?_
        refine W.seq (fun K12 hK12 => ?_)
        refine W.region ?_
        have hbe := below_law n i hi hin (by omega)
        refine O.ex (Ex.move rfl) rfl ?_
        refine O.callF Tryd.call21 rfl rfl (CT.mono (ofI_ct hx (Holds.to (by assumption)) hl) ?_)
        rintro _ w ⟨rfl, H⟩
        refine O.ex (Ex.move rfl) rfl ?_
        refine O.callF Tryd.call18 rfl rfl (CT.mono (refOfI_ct hx (Holds.to (by assumption)) hl) ?_)
        rintro _ w ⟨rfl, H⟩
        refine O.ex (Ex.eql64 _ _ rfl rfl) rfl ?_
        refine O.ex (Ex.move rfl) rfl ?_
        refine O.known (t := 30) (c := true) rfl (by first | rfl | decide | exact decide_eq_true (orL_ofL xs)) ?_
        refine O.guard_t rfl rfl ?_
        refine O.ex (Ex.move rfl) rfl ?_
        refine O.guard_t rfl rfl ?_
        refine O.callF Tryd.call9 rfl rfl (CT.mono (below_ct (Holds.to (by assumption))) ?_)
        rintro _ w ⟨rfl, H⟩
        refine O.guard_t rfl rfl ?_
        refine O.callF Tryd.call17 rfl rfl (CT.mono (list_ct hT (Holds.to (by assumption)) (belN_lt n)) ?_)
        rintro _ w ⟨hvb, H⟩
        rename_i vb
        rw [hbe] at H
        refine O.guard_t rfl rfl ?_
        refine O.ex (Ex.move rfl) rfl ?_
        refine O.guard_t rfl rfl ?_
        refine O.callF Tryd.call16 rfl rfl (CT.mono (ints_ct (Holds.to (by assumption)) (by omega)) ?_)
        rintro _ w ⟨rfl, H⟩
        refine O.ex (Ex.pick_t rfl rfl) rfl ?_
        refine O.ex (Ex.assign rfl) rfl ?_
        refine O.nil ?_
        refine hK12 _ _ _ ?_
        refine W.ret ?_
        try dsimp only [thenQ, blockQ, retQ]
        first | refine ⟨_, ⟨_, _, rfl, rfl, rfl⟩, ?_⟩ | (refine retD_mark ?_; intro w H; refine ⟨_, ⟨_, _, rfl, rfl, rfl⟩, ?_⟩) | (refine retD_mark2 ?_; intro w H; refine ⟨_, ⟨_, _, rfl, rfl, rfl⟩, ?_⟩)
        exact ⟨rfl, Holds.base_below (L := []) (Holds.to (by assumption))⟩
    · refine O.guard_f rfl rfl rfl rfl ?_
      refine O.guard_f rfl rfl rfl rfl ?_
      refine O.guard_f rfl rfl rfl rfl ?_
      refine O.ex (Ex.pick_f rfl rfl) rfl ?_
      refine O.nil ?_
      refine hK10 _ _ _ ?_
      refine W.cond_f rfl ?_
      refine W.exit ?_
      refine hK7 _ _ _ ?_
      refine W.seq (fun K13 hK13 => ?_)
      refine W.region ?_
      have hbe := below_law n i hi hin (by omega)
      refine O.ex (Ex.move rfl) rfl ?_
      refine O.callF Tryd.call21 rfl rfl (CT.mono (ofI_ct hx (Holds.to (by assumption)) hl) ?_)
      rintro _ w ⟨rfl, H⟩
      refine O.ex (Ex.move rfl) rfl ?_
      refine O.callF Tryd.call18 rfl rfl (CT.mono (refOfI_ct hx (Holds.to (by assumption)) hl) ?_)
      rintro _ w ⟨rfl, H⟩
      refine O.ex (Ex.eql64 _ _ rfl rfl) rfl ?_
      refine O.ex (Ex.move rfl) rfl ?_
      refine O.known (t := 30) (c := true) rfl (by first | rfl | decide | exact decide_eq_true (orL_ofL xs)) ?_
      refine O.guard_t rfl rfl ?_
      refine O.ex (Ex.move rfl) rfl ?_
      refine O.guard_t rfl rfl ?_
      refine O.callF Tryd.call9 rfl rfl (CT.mono (below_ct (Holds.to (by assumption))) ?_)
      rintro _ w ⟨rfl, H⟩
      refine O.guard_t rfl rfl ?_
      refine O.callF Tryd.call17 rfl rfl (CT.mono (list_ct hT (Holds.to (by assumption)) (belN_lt n)) ?_)
      rintro _ w ⟨hvb, H⟩
      rename_i vb
      rw [hbe] at H
      refine O.guard_t rfl rfl ?_
      refine O.ex (Ex.move rfl) rfl ?_
      refine O.guard_t rfl rfl ?_
      refine O.callF Tryd.call16 rfl rfl (CT.mono (ints_ct (Holds.to (by assumption)) (by omega)) ?_)
      rintro _ w ⟨rfl, H⟩
      refine O.ex (Ex.pick_t rfl rfl) rfl ?_
      refine O.ex (Ex.assign rfl) rfl ?_
      refine O.nil ?_
      refine hK13 _ _ _ ?_
      refine W.ret ?_
      try dsimp only [thenQ, blockQ, retQ]
      first | refine ⟨_, ⟨_, _, rfl, rfl, rfl⟩, ?_⟩ | (refine retD_mark ?_; intro w H; refine ⟨_, ⟨_, _, rfl, rfl, rfl⟩, ?_⟩) | (refine retD_mark2 ?_; intro w H; refine ⟨_, ⟨_, _, rfl, rfl, rfl⟩, ?_⟩)
      exact ⟨rfl, Holds.base_below (L := []) (Holds.to (by assumption))⟩
theorem bitsOf_row {w0 : World} {v : Value} {xs : List Int} {n : Int} (hT : TabAt w0) (hx : SlIn w0 1 (fun s : Int => [.int .i64 s]) v xs) (hg : ∀ x ∈ xs, (Lit.int .i64 x).wf = true) (hl : xs.length ≤ maxLen) (hn : (Lit.int .i64 n).wf = true) :
    CT Tryd.prog 6 [v, .int .i64 n] w0 fun u w' => u = .bool true ∧ RowKit.Below w0.heap.size w0 w' :=
  bitsOf_ct hT hx (by unfold maxLen at hl; omega) hn
end Go.Proofs.YtikdblejkmaloaaDoor
