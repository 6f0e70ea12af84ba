import Derived.Test.YtikdblejkmaloaaDoorFacts
import Derived.Test.YtikdblejkmaloaaDoorRrBits
import Derived.Test.YtikdblejkmaloaaDoorRrSets
namespace Go.Proofs.YtikdblejkmaloaaDoor
open Go.Rr
set_option linter.unusedVariables false
theorem bit_ct {w : World} {i : Int} {L : List HProp} (H : Holds w L) :
    CT Tryd.prog 22 [.int .i64 i] w fun u w' => u = .int .u64 (bitN i : Int) ∧ Holds w' L := by
  refine CT.enter (N := 11) Tryd.func22 rfl rfl rfl rfl ?_
  refine W.seq (fun K0 hK0 => ?_)
  refine W.region ?_
  refine O.ex (Ex.assign rfl) rfl ?_
  refine O.nil ?_
  refine hK0 _ _ _ ?_
  refine W.seq (fun K1 hK1 => ?_)
  refine W.seq (fun K2 hK2 => ?_)
  refine W.region ?_
  refine O.ex (Ex.move rfl) rfl ?_
  refine O.ex (Ex.lss rfl rfl) rfl ?_
  refine O.ex (Ex.move rfl) rfl ?_
  first | refine O.split_p (t := 5) rfl (fun h5 => ?_) (fun h5 => ?_) | refine O.split (t := 5) rfl (fun h5 => ?_) (fun h5 => ?_)
  · refine O.guard_f rfl rfl rfl rfl ?_
    refine O.guard_f rfl rfl rfl rfl ?_
    refine O.ex (Ex.pick_t rfl rfl) rfl ?_
    refine O.nil ?_
    refine hK2 _ _ _ ?_
    refine W.cond_t rfl ?_
    refine W.seq (fun K3 hK3 => ?_)
    refine W.region ?_
    refine O.ex (Ex.assign rfl) rfl ?_
    refine O.nil ?_
    refine hK3 _ _ _ ?_
    refine W.ret ?_
    try dsimp only [thenQ, blockQ, retQ]
    first | refine ⟨_, ⟨_, _, rfl, rfl, rfl⟩, ?_⟩ | (refine retD_mark ?_; intro w H; refine ⟨_, ⟨_, _, rfl, rfl, rfl⟩, ?_⟩) | (refine retD_mark2 ?_; intro w H; refine ⟨_, ⟨_, _, rfl, rfl, rfl⟩, ?_⟩)
    first
    | (refine ⟨?_, H⟩
       have e : bitN i = 0 := if_neg (by omega)
       rw [e]; rfl)
    | (refine ⟨?_, H⟩
       have e : bitN i = 2 ^ i.toNat := if_pos (by omega)
       have hl := bitN_lt i
       rw [e] at hl ⊢
       show Value.int .u64 _ = _
       rw [Nat.one_mul, Nat.mod_eq_of_lt hl])
  · refine O.guard_t rfl rfl ?_
    refine O.ex (Ex.move rfl) rfl ?_
    refine O.guard_t rfl rfl ?_
    refine O.ex (Ex.geq rfl rfl) rfl ?_
    refine O.ex (Ex.pick_f rfl rfl) rfl ?_
    refine O.nil ?_
    refine hK2 _ _ _ ?_
    first | refine W.cond_p rfl (fun h8 => ?_) (fun h8 => ?_) | refine W.cond_b rfl (fun h8 => ?_) (fun h8 => ?_)
    · refine W.seq (fun K4 hK4 => ?_)
      refine W.region ?_
      refine O.ex (Ex.assign rfl) rfl ?_
      refine O.nil ?_
      refine hK4 _ _ _ ?_
      refine W.ret ?_
      try dsimp only [thenQ, blockQ, retQ]
      first | refine ⟨_, ⟨_, _, rfl, rfl, rfl⟩, ?_⟩ | (refine retD_mark ?_; intro w H; refine ⟨_, ⟨_, _, rfl, rfl, rfl⟩, ?_⟩) | (refine retD_mark2 ?_; intro w H; refine ⟨_, ⟨_, _, rfl, rfl, rfl⟩, ?_⟩)
      first
      | (refine ⟨?_, H⟩
         have e : bitN i = 0 := if_neg (by omega)
         rw [e]; rfl)
      | (refine ⟨?_, H⟩
         have e : bitN i = 2 ^ i.toNat := if_pos (by omega)
         have hl := bitN_lt i
         rw [e] at hl ⊢
         show Value.int .u64 _ = _
         rw [Nat.one_mul, Nat.mod_eq_of_lt hl])
    · refine W.skip ?_
      refine hK1 _ _ _ ?_
      refine W.seq (fun K5 hK5 => ?_)
      refine W.region ?_
      refine O.ex (Ex.move rfl) rfl ?_
      refine O.ex (Ex.shl64 1 i.toNat rfl (by show some (Value.int .i64 i) = some (Value.int .i64 ((i.toNat : Nat) : Int)); rw [show ((i.toNat : Nat) : Int) = i from by omega])) rfl ?_
      refine O.ex (Ex.assign rfl) rfl ?_
      refine O.nil ?_
      refine hK5 _ _ _ ?_
      refine W.ret ?_
      try dsimp only [thenQ, blockQ, retQ]
      first | refine ⟨_, ⟨_, _, rfl, rfl, rfl⟩, ?_⟩ | (refine retD_mark ?_; intro w H; refine ⟨_, ⟨_, _, rfl, rfl, rfl⟩, ?_⟩) | (refine retD_mark2 ?_; intro w H; refine ⟨_, ⟨_, _, rfl, rfl, rfl⟩, ?_⟩)
      first
      | (refine ⟨?_, H⟩
         have e : bitN i = 0 := if_neg (by omega)
         rw [e]; rfl)
      | (refine ⟨?_, H⟩
         have e : bitN i = 2 ^ i.toNat := if_pos (by omega)
         have hl := bitN_lt i
         rw [e] at hl ⊢
         show Value.int .u64 _ = _
         rw [Nat.one_mul, Nat.mod_eq_of_lt hl])
theorem ones_ct {w : World} {x : Nat} {L : List HProp} (H : Holds w L) (hx : x < 18446744073709551616) :
    CT Tryd.prog 24 [.int .u64 (x : Int)] w fun u w' => u = .int .i64 (pop x : Int) ∧ Holds w' L := by
  obtain ⟨s1, h1⟩ : ∃ s, s = p1 8 x := ⟨_, rfl⟩
  obtain ⟨s2, h2⟩ : ∃ s, s = p2 8 s1 := ⟨_, rfl⟩
  obtain ⟨y, hy⟩ : ∃ s, s = p3 8 s2 := ⟨_, rfl⟩
  obtain ⟨y4, h4⟩ : ∃ s, s = (y + y / 256) % 18446744073709551616 := ⟨_, rfl⟩
  obtain ⟨y5, h5⟩ : ∃ s, s = (y4 + y4 / 65536) % 18446744073709551616 := ⟨_, rfl⟩
  have l1 : s1 ≤ 2 * 6148914691236517205 := h1 ▸ p1_lt x
  have l2 : s2 ≤ 2 * 3689348814741910323 := h2 ▸ p2_lt s1
  have l3 : y ≤ 1085102592571150095 := by rw [hy]; unfold p3; rw [rep15]; exact Nat.and_le_right
  have l4 : y4 < 18446744073709551616 := h4 ▸ Nat.mod_lt _ (by decide)
  have l5 : y5 < 18446744073709551616 := h5 ▸ Nat.mod_lt _ (by decide)
  have fin := ones_law x y y4 y5 hx (by rw [hy, h2, h1]) h4 h5
  have e1 : ((x / 2 ^ 1 &&& 6148914691236517205) + (x &&& 6148914691236517205)) % 18446744073709551616 = s1 := by
    have h : p1 8 x = (x / 2 ^ 1 &&& 6148914691236517205) + (x &&& 6148914691236517205) := by unfold p1; rw [rep85]
    rw [← h, ← h1]; exact Nat.mod_eq_of_lt (by omega)
  have e2 : ((s1 / 2 ^ 2 &&& 3689348814741910323) + (s1 &&& 3689348814741910323)) % 18446744073709551616 = s2 := by
    have h : p2 8 s1 = (s1 / 2 ^ 2 &&& 3689348814741910323) + (s1 &&& 3689348814741910323) := by unfold p2; rw [rep51]
    rw [← h, ← h2]; exact Nat.mod_eq_of_lt (by omega)
  have e3 : (s2 / 2 ^ 4 + s2) % 18446744073709551616 &&& 1085102592571150095 = y := by
    rw [hy, Nat.mod_eq_of_lt (by omega)]; unfold p3; rw [rep15]
  have e4 : (y + y / 2 ^ 8) % 18446744073709551616 = y4 := h4.symm
  have e5 : (y4 + y4 / 2 ^ 16) % 18446744073709551616 = y5 := h5.symm
  clear h1 h2 hy h4 h5 l3
  refine CT.enter (N := 35) Tryd.func24 rfl rfl rfl rfl ?_
  refine W.seq (fun K0 hK0 => ?_)
  refine W.region ?_
  refine O.ex (Ex.assign rfl) rfl ?_
  refine O.nil ?_
  refine hK0 _ _ _ ?_
  refine W.seq (fun K1 hK1 => ?_)
  refine W.region ?_
  refine O.ex (Ex.move rfl) rfl ?_
  refine O.ex (Ex.shr64 x 1 rfl rfl) rfl ?_
  refine O.ex (Ex.and64 (x / 2 ^ 1) 6148914691236517205 rfl rfl) rfl ?_
  refine O.ex (Ex.move rfl) rfl ?_
  refine O.ex (Ex.and64 x 6148914691236517205 rfl rfl) rfl ?_
  refine O.ex (Ex.add64 (x / 2 ^ 1 &&& 6148914691236517205) (x &&& 6148914691236517205) rfl rfl) rfl ?_
  rw [e1]
  refine O.ex (Ex.assign rfl) rfl ?_
  refine O.nil ?_
  refine hK1 _ _ _ ?_
  refine W.seq (fun K2 hK2 => ?_)
  refine W.region ?_
  refine O.ex (Ex.move rfl) rfl ?_
  refine O.ex (Ex.shr64 s1 2 rfl rfl) rfl ?_
  refine O.ex (Ex.and64 (s1 / 2 ^ 2) 3689348814741910323 rfl rfl) rfl ?_
  refine O.ex (Ex.move rfl) rfl ?_
  refine O.ex (Ex.and64 s1 3689348814741910323 rfl rfl) rfl ?_
  refine O.ex (Ex.add64 (s1 / 2 ^ 2 &&& 3689348814741910323) (s1 &&& 3689348814741910323) rfl rfl) rfl ?_
  rw [e2]
  refine O.ex (Ex.assign rfl) rfl ?_
  refine O.nil ?_
  refine hK2 _ _ _ ?_
  refine W.seq (fun K3 hK3 => ?_)
  refine W.region ?_
  refine O.ex (Ex.move rfl) rfl ?_
  refine O.ex (Ex.shr64 s2 4 rfl rfl) rfl ?_
  refine O.ex (Ex.move rfl) rfl ?_
  refine O.ex (Ex.add64 (s2 / 2 ^ 4) s2 rfl rfl) rfl ?_
  refine O.ex (Ex.and64 ((s2 / 2 ^ 4 + s2) % 18446744073709551616) 1085102592571150095 rfl rfl) rfl ?_
  rw [e3]
  refine O.ex (Ex.assign rfl) rfl ?_
  refine O.nil ?_
  refine hK3 _ _ _ ?_
  refine W.seq (fun K4 hK4 => ?_)
  refine W.region ?_
  refine O.ex (Ex.move rfl) rfl ?_
  refine O.ex (Ex.move rfl) rfl ?_
  refine O.ex (Ex.shr64 y 8 rfl rfl) rfl ?_
  refine O.ex (Ex.add64 y (y / 2 ^ 8) rfl rfl) rfl ?_
  rw [e4]
  refine O.ex (Ex.assign rfl) rfl ?_
  refine O.nil ?_
  refine hK4 _ _ _ ?_
  refine W.seq (fun K5 hK5 => ?_)
  refine W.region ?_
  refine O.ex (Ex.move rfl) rfl ?_
  refine O.ex (Ex.move rfl) rfl ?_
  refine O.ex (Ex.shr64 y4 16 rfl rfl) rfl ?_
  refine O.ex (Ex.add64 y4 (y4 / 2 ^ 16) rfl rfl) rfl ?_
  rw [e5]
  refine O.ex (Ex.assign rfl) rfl ?_
  refine O.nil ?_
  refine hK5 _ _ _ ?_
  refine W.seq (fun K6 hK6 => ?_)
  refine W.region ?_
  refine O.ex (Ex.move rfl) rfl ?_
  refine O.ex (Ex.move rfl) rfl ?_
  refine O.ex (Ex.shr64 y5 32 rfl rfl) rfl ?_
  refine O.ex (Ex.add64 y5 (y5 / 2 ^ 32) rfl rfl) rfl ?_
  refine O.ex (Ex.assign rfl) rfl ?_
  refine O.nil ?_
  refine hK6 _ _ _ ?_
  refine W.seq (fun K7 hK7 => ?_)
  refine W.region ?_
  refine O.ex (Ex.move rfl) rfl ?_
  refine O.ex (Ex.convI Tryd.runUnderlying22 Tryd.runUnderlying3 rfl rfl) rfl ?_
  refine O.ex (Ex.bits (.inl rfl) rfl rfl (and127 ((y5 + y5 / 2 ^ 32) % 18446744073709551616) (Nat.mod_lt _ (by decide)))) rfl ?_
  rw [show (y5 + y5 / 2 ^ 32) % 18446744073709551616 % 128 = pop x from fin]
  refine O.ex (Ex.assign rfl) rfl ?_
  refine O.nil ?_
  refine hK7 _ _ _ ?_
  refine W.ret ?_
  try dsimp only [thenQ, blockQ, retQ]
  first | refine ⟨_, ⟨_, _, rfl, rfl, rfl⟩, ?_⟩ | (refine retD_mark ?_; intro w H; refine ⟨_, ⟨_, _, rfl, rfl, rfl⟩, ?_⟩) | (refine retD_mark2 ?_; intro w H; refine ⟨_, ⟨_, _, rfl, rfl, rfl⟩, ?_⟩)
  exact ⟨rfl, by first | assumption | exact Holds.to (by assumption)⟩
abbrev TabAt (w0 : World) : Prop := ∀ j, j < 64 → w0.cell? ⟨0, j, none⟩ = some (.int .u8 ((Lib.deBruijn64tab.getD j 0 : Nat) : Int))
theorem tz_ct {w w0 : World} {x : Nat} {L : List HProp} (hT : TabAt w0) (H : Holds w (base w0 :: L)) (hx : x < 18446744073709551616) (h0 : x ≠ 0) :
    CT Tryd.prog 23 [.int .u64 (x : Int)] w fun u w' => u = .int .i64 ((Lib.ctz 64 x : Nat) : Int) ∧ Holds w' (base w0 :: L) := by
  obtain ⟨hlow, hk⟩ := Lib.lowest_bit 64 x h0 hx
  obtain ⟨k, hkk⟩ : ∃ k, k = Lib.ctz 64 x := ⟨_, rfl⟩
  rw [← hkk] at hlow hk ⊢
  have hd := Lib.deBruijn64_at k hk
  obtain ⟨a, ha⟩ : ∃ a, a = 2 ^ k := ⟨_, rfl⟩
  have ha64 : a < 18446744073709551616 := by rw [ha]; exact Nat.pow_lt_pow_right (n := 64) (by decide) hk
  rw [← ha] at hlow hd
  obtain ⟨j, hj⟩ : ∃ j, j = a * 285870213051353865 % 18446744073709551616 / 288230376151711744 := ⟨_, rfl⟩
  rw [← hj] at hd
  obtain ⟨hj64, htab⟩ := hd
  have hc := H.base_cell (hT j hj64)
  rw [htab] at hc
  clear hkk ha htab
  refine CT.enter (N := 14) Tryd.func23 rfl rfl rfl rfl ?_
  refine W.seq (fun K0 hK0 => ?_)
  refine W.region ?_
  refine O.ex (Ex.assign rfl) rfl ?_
  refine O.nil ?_
  refine hK0 _ _ _ ?_
  refine W.seq (fun K1 hK1 => ?_)
  refine W.seq (fun K2 hK2 => ?_)
  refine W.region ?_
  refine O.ex (Ex.move rfl) rfl ?_
  refine O.ex (Ex.eql64 _ 0 rfl rfl) rfl ?_
  refine O.nil ?_
  refine hK2 _ _ _ ?_
  refine W.known_f rfl (decide_eq_false h0) ?_
  refine W.skip ?_
  refine hK1 _ _ _ ?_
  refine W.seq (fun K3 hK3 => ?_)
  refine W.region ?_
  refine O.ex (Ex.move rfl) rfl ?_
  refine O.ex (Ex.move rfl) rfl ?_
  refine O.ex (Ex.neg (r := ((18446744073709551616 - x : Nat) : Int)) rfl (by rw [wrap64]; omega)) rfl ?_
  refine O.ex (Ex.and64 x (18446744073709551616 - x) rfl rfl) rfl ?_
  rw [show x &&& (18446744073709551616 - x) = a from hlow]
  refine O.ex (Ex.mul (r := ((a * 285870213051353865 % 18446744073709551616 : Nat) : Int)) rfl rfl (by rw [wrap64]; omega)) rfl ?_
  refine O.ex (Ex.shr64 (a * 285870213051353865 % 18446744073709551616) 58 rfl rfl) rfl ?_
  rw [show a * 285870213051353865 % 18446744073709551616 / 2 ^ 58 = j from hj.symm]
  refine O.ex (Ex.idxArr Tryd.runUnderlying43 Tryd.sizeOf5 rfl rfl) rfl ?_
  rw [show 0 + ((j : Nat) : Int).toNat * 1 = j from by simp]
  refine O.ex (Ex.load Tryd.isAgg5 rfl hc) rfl ?_
  refine O.ex (by first | exact Ex.convToI Tryd.runUnderlying5 Tryd.runUnderlying3 rfl | exact Ex.convW Tryd.runUnderlying5 Tryd.runUnderlying3 rfl) rfl ?_
  refine O.ex (Ex.assign rfl) rfl ?_
  refine O.nil ?_
  refine hK3 _ _ _ ?_
  refine W.ret ?_
  try dsimp only [thenQ, blockQ, retQ]
  first | refine ⟨_, ⟨_, _, rfl, rfl, rfl⟩, ?_⟩ | (refine retD_mark ?_; intro w H; refine ⟨_, ⟨_, _, rfl, rfl, rfl⟩, ?_⟩) | (refine retD_mark2 ?_; intro w H; refine ⟨_, ⟨_, _, rfl, rfl, rfl⟩, ?_⟩)
  exact ⟨rfl, by first | assumption | exact Holds.to (by assumption)⟩
def fstS (s : Nat) : Int := if s = 0 then 0 else Lib.ctz 64 s
theorem first_ct {w w0 : World} {s : Nat} {L : List HProp} (hT : TabAt w0) (H : Holds w (base w0 :: L)) (hs : s < 18446744073709551616) :
    CT Tryd.prog 10 [.int .u64 (s : Int)] w fun u w' => u = .tuple #[.int .i64 (fstS s), .bool (decide (s ≠ 0))] ∧ Holds w' (base w0 :: L) := by
  refine CT.enter (N := 8) Tryd.func10 rfl rfl rfl rfl ?_
  refine W.seq (fun K0 hK0 => ?_)
  refine W.region ?_
  refine O.ex (Ex.assign rfl) rfl ?_
  refine O.ex (Ex.assign rfl) rfl ?_
  refine O.nil ?_
  refine hK0 _ _ _ ?_
  refine W.seq (fun K1 hK1 => ?_)
  refine W.seq (fun K2 hK2 => ?_)
  refine W.region ?_
  refine O.ex (Ex.move rfl) rfl ?_
  refine O.ex (Ex.eql64 _ 0 rfl rfl) rfl ?_
  refine O.nil ?_
  refine hK2 _ _ _ ?_
  first | refine W.cond_p rfl (fun h0 => ?_) (fun h0 => ?_) | refine W.cond_b rfl (fun h0 => ?_) (fun h0 => ?_)
  · refine W.seq (fun K3 hK3 => ?_)
    refine W.region ?_
    refine O.ex (Ex.assign rfl) rfl ?_
    refine O.ex (Ex.assign rfl) rfl ?_
    refine O.nil ?_
    refine hK3 _ _ _ ?_
    refine W.ret ?_
    try dsimp only [thenQ, blockQ, retQ]
    first | refine ⟨_, ⟨_, _, rfl, rfl, _, _, rfl, rfl, rfl⟩, ?_⟩ | (refine retD_mark ?_; intro w H; refine ⟨_, ⟨_, _, rfl, rfl, _, _, rfl, rfl, rfl⟩, ?_⟩) | (refine retD_mark2 ?_; intro w H; refine ⟨_, ⟨_, _, rfl, rfl, _, _, rfl, rfl, rfl⟩, ?_⟩)
    exact ⟨by simp [oneOf, fstS, h0], Holds.to (by assumption)⟩
  · refine W.skip ?_
    refine hK1 _ _ _ ?_
    refine W.seq (fun K4 hK4 => ?_)
    refine W.region ?_
    refine O.ex (Ex.move rfl) rfl ?_
    refine O.callF Tryd.call23 rfl rfl (CT.mono (tz_ct hT (Holds.to (by assumption)) hs h0) ?_)
    rintro _ w ⟨rfl, H⟩
    refine O.ex (Ex.assign rfl) rfl ?_
    refine O.ex (Ex.assign rfl) rfl ?_
    refine O.nil ?_
    refine hK4 _ _ _ ?_
    refine W.ret ?_
    try dsimp only [thenQ, blockQ, retQ]
    first | refine ⟨_, ⟨_, _, rfl, rfl, _, _, rfl, rfl, rfl⟩, ?_⟩ | (refine retD_mark ?_; intro w H; refine ⟨_, ⟨_, _, rfl, rfl, _, _, rfl, rfl, rfl⟩, ?_⟩) | (refine retD_mark2 ?_; intro w H; refine ⟨_, ⟨_, _, rfl, rfl, _, _, rfl, rfl, rfl⟩, ?_⟩)
    exact ⟨by simp [oneOf, fstS, h0], Holds.to (by assumption)⟩
theorem len_ct {w : World} {s : Nat} {L : List HProp} (H : Holds w L) (hs : s < 18446744073709551616) :
    CT Tryd.prog 11 [.int .u64 (s : Int)] w fun u w' => u = .int .i64 (pop s : Int) ∧ Holds w' L := by
  refine CT.enter (N := 5) Tryd.func11 rfl rfl rfl rfl ?_
  refine W.seq (fun K0 hK0 => ?_)
  refine W.region ?_
  refine O.ex (Ex.assign rfl) rfl ?_
  refine O.nil ?_
  refine hK0 _ _ _ ?_
  refine W.seq (fun K1 hK1 => ?_)
  refine W.region ?_
  refine O.ex (Ex.move rfl) rfl ?_
  refine O.callF Tryd.call24 rfl rfl (CT.mono (ones_ct (Holds.to (by assumption)) hs) ?_)
  rintro _ w ⟨rfl, H⟩
  refine O.ex (Ex.assign rfl) rfl ?_
  refine O.nil ?_
  refine hK1 _ _ _ ?_
  refine W.ret ?_
  try dsimp only [thenQ, blockQ, retQ]
  first | refine ⟨_, ⟨_, _, rfl, rfl, rfl⟩, ?_⟩ | (refine retD_mark ?_; intro w H; refine ⟨_, ⟨_, _, rfl, rfl, rfl⟩, ?_⟩) | (refine retD_mark2 ?_; intro w H; refine ⟨_, ⟨_, _, rfl, rfl, rfl⟩, ?_⟩)
  exact ⟨rfl, by first | assumption | exact Holds.to (by assumption)⟩
theorem has_ct {w : World} {s : Nat} {x : Int} {L : List HProp} (H : Holds w L) (hs : s < 18446744073709551616) :
    CT Tryd.prog 14 [.int .u64 (s : Int), .int .i64 x] w fun u w' => u = .bool (inS s x) ∧ Holds w' L := by
  have hb := bitN_lt x
  have hab := and_lt s (bitN x) hs
  refine CT.enter (N := 10) Tryd.func14 rfl rfl rfl rfl ?_
  refine W.seq (fun K0 hK0 => ?_)
  refine W.region ?_
  refine O.ex (Ex.assign rfl) rfl ?_
  refine O.nil ?_
  refine hK0 _ _ _ ?_
  refine W.seq (fun K1 hK1 => ?_)
  refine W.region ?_
  refine O.ex (Ex.move rfl) rfl ?_
  refine O.ex (Ex.move rfl) rfl ?_
  refine O.callF Tryd.call22 rfl rfl (CT.mono (bit_ct (Holds.to (by assumption))) ?_)
  rintro _ w ⟨rfl, H⟩
  refine O.ex (Ex.and64 _ _ rfl rfl) rfl ?_
  refine O.ex (Ex.neq64 _ 0 rfl rfl) rfl ?_
  refine O.ex (Ex.assign rfl) rfl ?_
  refine O.nil ?_
  refine hK1 _ _ _ ?_
  refine W.ret ?_
  try dsimp only [thenQ, blockQ, retQ]
  first | refine ⟨_, ⟨_, _, rfl, rfl, rfl⟩, ?_⟩ | (refine retD_mark ?_; intro w H; refine ⟨_, ⟨_, _, rfl, rfl, rfl⟩, ?_⟩) | (refine retD_mark2 ?_; intro w H; refine ⟨_, ⟨_, _, rfl, rfl, rfl⟩, ?_⟩)
  exact ⟨congrArg Value.bool (has_law s x hs), Holds.to (by assumption)⟩
theorem with_ct {w : World} {s : Nat} {x : Int} {L : List HProp} (H : Holds w L) (hs : s < 18446744073709551616) :
    CT Tryd.prog 19 [.int .u64 (s : Int), .int .i64 x] w fun u w' => u = .int .u64 ((s ||| bitN x : Nat) : Int) ∧ Holds w' L := by
  have hb := bitN_lt x
  refine CT.enter (N := 9) Tryd.func19 rfl rfl rfl rfl ?_
  refine W.seq (fun K0 hK0 => ?_)
  refine W.region ?_
  refine O.ex (Ex.assign rfl) rfl ?_
  refine O.nil ?_
  refine hK0 _ _ _ ?_
  refine W.seq (fun K1 hK1 => ?_)
  refine W.region ?_
  refine O.ex (Ex.move rfl) rfl ?_
  refine O.ex (Ex.move rfl) rfl ?_
  refine O.callF Tryd.call22 rfl rfl (CT.mono (bit_ct (Holds.to (by assumption))) ?_)
  rintro _ w ⟨rfl, H⟩
  refine O.ex (Ex.or64 _ _ rfl rfl) rfl ?_
  refine O.ex (Ex.assign rfl) rfl ?_
  refine O.nil ?_
  refine hK1 _ _ _ ?_
  refine W.ret ?_
  try dsimp only [thenQ, blockQ, retQ]
  first | refine ⟨_, ⟨_, _, rfl, rfl, rfl⟩, ?_⟩ | (refine retD_mark ?_; intro w H; refine ⟨_, ⟨_, _, rfl, rfl, rfl⟩, ?_⟩) | (refine retD_mark2 ?_; intro w H; refine ⟨_, ⟨_, _, rfl, rfl, rfl⟩, ?_⟩)
  exact ⟨rfl, by first | assumption | exact Holds.to (by assumption)⟩
theorem without_ct {w : World} {s : Nat} {x : Int} {L : List HProp} (H : Holds w L) (hs : s < 18446744073709551616) :
    CT Tryd.prog 20 [.int .u64 (s : Int), .int .i64 x] w fun u w' => u = .int .u64 ((s &&& (18446744073709551615 - bitN x) : Nat) : Int) ∧ Holds w' L := by
  have hb := bitN_lt x
  refine CT.enter (N := 9) Tryd.func20 rfl rfl rfl rfl ?_
  refine W.seq (fun K0 hK0 => ?_)
  refine W.region ?_
  refine O.ex (Ex.assign rfl) rfl ?_
  refine O.nil ?_
  refine hK0 _ _ _ ?_
  refine W.seq (fun K1 hK1 => ?_)
  refine W.region ?_
  refine O.ex (Ex.move rfl) rfl ?_
  refine O.ex (Ex.move rfl) rfl ?_
  refine O.callF Tryd.call22 rfl rfl (CT.mono (bit_ct (Holds.to (by assumption))) ?_)
  rintro _ w ⟨rfl, H⟩
  refine O.ex (Ex.andNot64 _ _ rfl rfl) rfl ?_
  refine O.ex (Ex.assign rfl) rfl ?_
  refine O.nil ?_
  refine hK1 _ _ _ ?_
  refine W.ret ?_
  try dsimp only [thenQ, blockQ, retQ]
  first | refine ⟨_, ⟨_, _, rfl, rfl, rfl⟩, ?_⟩ | (refine retD_mark ?_; intro w H; refine ⟨_, ⟨_, _, rfl, rfl, rfl⟩, ?_⟩) | (refine retD_mark2 ?_; intro w H; refine ⟨_, ⟨_, _, rfl, rfl, rfl⟩, ?_⟩)
  exact ⟨rfl, by first | assumption | exact Holds.to (by assumption)⟩
theorem below_ct {w : World} {n : Int} {L : List HProp} (H : Holds w L) :
    CT Tryd.prog 9 [.int .i64 n] w fun u w' => u = .int .u64 ((belN n : Nat) : Int) ∧ Holds w' L := by
  have hb := bitN_lt n
  refine CT.enter (N := 12) Tryd.func9 rfl rfl rfl rfl ?_
  refine W.seq (fun K0 hK0 => ?_)
  refine W.region ?_
  refine O.ex (Ex.assign rfl) rfl ?_
  refine O.nil ?_
  refine hK0 _ _ _ ?_
  refine W.seq (fun K1 hK1 => ?_)
  refine W.block ?_
  refine W.seq (fun K2 hK2 => ?_)
  refine W.region ?_
  refine O.ex (Ex.move rfl) rfl ?_
  refine O.ex (Ex.leq rfl rfl) rfl ?_
  refine O.ex (Ex.assign rfl) rfl ?_
  refine O.nil ?_
  refine hK2 _ _ _ ?_
  first | refine W.cond_p rfl (fun h0 => ?_) (fun h1 => ?_) | refine W.cond_b rfl (fun h0 => ?_) (fun h1 => ?_)
  · refine W.seq (fun K3 hK3 => ?_)
    refine W.region ?_
    refine O.ex (Ex.assign rfl) rfl ?_
    refine O.nil ?_
    refine hK3 _ _ _ ?_
    refine W.ret ?_
    try dsimp only [thenQ, blockQ, retQ]
    first | refine ⟨_, ⟨_, _, rfl, rfl, rfl⟩, ?_⟩ | (refine retD_mark ?_; intro w H; refine ⟨_, ⟨_, _, rfl, rfl, rfl⟩, ?_⟩) | (refine retD_mark2 ?_; intro w H; refine ⟨_, ⟨_, _, rfl, rfl, rfl⟩, ?_⟩)
    first
    | (refine ⟨?_, Holds.to (by assumption)⟩
       rw [show belN n = 0 from if_pos h0]; rfl)
    | (refine ⟨?_, Holds.to (by assumption)⟩
       rw [show belN n = 18446744073709551615 from by unfold belN; rw [if_neg (by omega), if_pos h2]]; rfl)
    | (refine ⟨?_, Holds.to (by assumption)⟩
       rw [show belN n = bitN n - 1 from by unfold belN; rw [if_neg (by omega), if_neg h3, hb1]]; rfl)
  · refine W.seq (fun K4 hK4 => ?_)
    refine W.region ?_
    refine O.ex (Ex.move rfl) rfl ?_
    refine O.ex (Ex.geq rfl rfl) rfl ?_
    refine O.ex (Ex.assign rfl) rfl ?_
    refine O.nil ?_
    refine hK4 _ _ _ ?_
    first | refine W.cond_p rfl (fun h2 => ?_) (fun h3 => ?_) | refine W.cond_b rfl (fun h2 => ?_) (fun h3 => ?_)
    · refine W.seq (fun K5 hK5 => ?_)
      refine W.region ?_
      refine O.ex (Ex.assign rfl) rfl ?_
      refine O.nil ?_
      refine hK5 _ _ _ ?_
      refine W.ret ?_
      try dsimp only [thenQ, blockQ, retQ]
      first | refine ⟨_, ⟨_, _, rfl, rfl, rfl⟩, ?_⟩ | (refine retD_mark ?_; intro w H; refine ⟨_, ⟨_, _, rfl, rfl, rfl⟩, ?_⟩) | (refine retD_mark2 ?_; intro w H; refine ⟨_, ⟨_, _, rfl, rfl, rfl⟩, ?_⟩)
      first
      | (refine ⟨?_, Holds.to (by assumption)⟩
         rw [show belN n = 0 from if_pos h0]; rfl)
      | (refine ⟨?_, Holds.to (by assumption)⟩
         rw [show belN n = 18446744073709551615 from by unfold belN; rw [if_neg (by omega), if_pos h2]]; rfl)
      | (refine ⟨?_, Holds.to (by assumption)⟩
         rw [show belN n = bitN n - 1 from by unfold belN; rw [if_neg (by omega), if_neg h3, hb1]]; rfl)
    · refine W.skip ?_
      refine hK1 _ _ _ ?_
      refine W.seq (fun K6 hK6 => ?_)
      refine W.region ?_
      refine O.ex (Ex.move rfl) rfl ?_
      refine O.callF Tryd.call22 rfl rfl (CT.mono (bit_ct (Holds.to (by assumption))) ?_)
      rintro _ w ⟨rfl, H⟩
      have hb1 : bitN n = 2 ^ n.toNat := if_pos (by omega)
      have hp := Nat.two_pow_pos n.toNat
      rw [← hb1] at hp
      refine O.ex (Ex.sub64 _ 1 rfl rfl) rfl ?_
      refine O.ex (Ex.assign rfl) rfl ?_
      refine O.nil ?_
      refine hK6 _ _ _ ?_
      refine W.ret ?_
      try dsimp only [thenQ, blockQ, retQ]
      first | refine ⟨_, ⟨_, _, rfl, rfl, rfl⟩, ?_⟩ | (refine retD_mark ?_; intro w H; refine ⟨_, ⟨_, _, rfl, rfl, rfl⟩, ?_⟩) | (refine retD_mark2 ?_; intro w H; refine ⟨_, ⟨_, _, rfl, rfl, rfl⟩, ?_⟩)
      first
      | (refine ⟨?_, Holds.to (by assumption)⟩
         rw [show belN n = 0 from if_pos h0]; rfl)
      | (refine ⟨?_, Holds.to (by assumption)⟩
         rw [show belN n = 18446744073709551615 from by unfold belN; rw [if_neg (by omega), if_pos h2]]; rfl)
      | (refine ⟨?_, Holds.to (by assumption)⟩
         rw [show belN n = bitN n - 1 from by unfold belN; rw [if_neg (by omega), if_neg h3, hb1]]; rfl)
def orL (xs : List Int) : Nat := xs.foldl (fun s x => s ||| bitN x) 0
theorem orL_aux (xs : List Int) : ∀ s, s < 18446744073709551616 → xs.foldl (fun s x => s ||| bitN x) s < 18446744073709551616 ∧ ∀ i, i < 64 → (xs.foldl (fun s x => s ||| bitN x) s).testBit i = (s.testBit i || decide ((i : Int) ∈ xs)) := by
  induction xs with
  | nil => intro s hs; exact ⟨hs, fun i _ => by simp⟩
  | cons x xs ih =>
    intro s hs
    obtain ⟨h1, h2⟩ := ih (s ||| bitN x) (or_lt _ _ hs (bitN_lt x))
    refine ⟨h1, fun i hi => ?_⟩
    rw [List.foldl_cons, h2 i hi, with_bit s x i hi, Bool.or_assoc]
    congr 1
    by_cases e : (i : Int) = x <;> simp [e]
theorem orL_lt (xs : List Int) : orL xs < 18446744073709551616 := (orL_aux xs 0 (by decide)).1
theorem orL_bit (xs : List Int) (i : Nat) (hi : i < 64) : (orL xs).testBit i = decide ((i : Int) ∈ xs) := by
  rw [orL, (orL_aux xs 0 (by decide)).2 i hi]; simp
theorem take_get (xs : List Int) (i : Nat) (h : i < xs.length) : xs.take (i + 1) = xs.take i ++ [xs.getD i default] := by
  rw [List.take_succ_eq_append_getElem h]; simp [List.getD_eq_getElem?_getD, h]
theorem orL_succ (xs : List Int) (i : Nat) (h : i < xs.length) : orL (xs.take (i + 1)) = orL (xs.take i) ||| bitN (xs.getD i default) := by
  rw [take_get xs i h]; unfold orL; rw [List.foldl_append]; rfl
/-- The document's: the numbers below 64 of a list. -/
def ofL (xs : List Int) : Nat := sumP (fun i : Nat => decide ((i : Int) ∈ xs)) 64
theorem ofL_lt (xs : List Int) : ofL xs < 18446744073709551616 := sumP_lt _ 64
theorem ofL_bit (xs : List Int) (i : Nat) (hi : i < 64) : (ofL xs).testBit i = decide ((i : Int) ∈ xs) := by
  unfold ofL; rw [sumP_bit, decide_eq_true hi, Bool.true_and]
theorem orL_ofL (xs : List Int) : orL xs = ofL xs := set_eq _ _ (orL_lt xs) (ofL_lt xs) fun i hi => by rw [orL_bit xs i hi, ofL_bit xs i hi]
theorem mem_take (xs : List Int) (x : Int) (i : Nat) (h : i < xs.length) : x ∈ xs.take (i + 1) ↔ x ∈ xs.take i ∨ xs.getD i default = x := by
  rw [take_get xs i h, List.mem_append, List.mem_singleton]; exact or_congr Iff.rfl eq_comm
theorem ofA_ct {w  : World} {v : Value} {xs : List Int} {L : List HProp} (H : Holds w (arr 3 (Value.int .i64) v xs :: L)) (hl : xs.length ≤ 9223372036854775807) :
    CT Tryd.prog 21 [v] w fun u w' => u = .int .u64 ((orL xs : Nat) : Int) ∧ Holds w' (arr 3 (Value.int .i64) v xs :: L) := by
  refine CT.enter (N := 18) Tryd.func21 rfl rfl rfl rfl ?_
  refine W.seq (fun K0 hK0 => ?_)
  refine W.region ?_
  refine O.ex (Ex.assign rfl) rfl ?_
  refine O.nil ?_
  refine hK0 _ _ _ ?_
  refine W.seq (fun K1 hK1 => ?_)
  refine W.region ?_
  refine O.ex (Ex.assign rfl) rfl ?_
  refine O.nil ?_
  refine hK1 _ _ _ ?_
  refine W.seq (fun K2 hK2 => ?_)
  refine W.seq (fun K3 hK3 => ?_)
  refine W.region ?_
  refine O.ex (Ex.move rfl) rfl ?_
  refine O.ex (by first | exact Ex.lenR Tryd.runUnderlying30 rfl | exact Ex.lenIn Tryd.runUnderlying30 rfl | exact Ex.lenL Tryd.runUnderlying30 rfl | exact Ex.len rfl Tryd.runUnderlying30 rfl) rfl ?_
  refine O.ex (Ex.move rfl) rfl ?_
  refine O.nil ?_
  refine hK3 _ _ _ ?_
  refine W.block ?_
  refine W.loop (σ := Nat) (fun i => [(3, .int .u64 ((orL (xs.take i) : Nat) : Int)), (6, v), (7, .int .i64 xs.length), (8, .int .i64 (i : Int))]) (fun i ds w => ds = [] ∧ i ≤ xs.length ∧ Holds w (arr 3 (Value.int .i64) v xs :: L)) (fun i => xs.length - i) 0 ⟨by rw [List.take_zero]; rfl, rfl, rfl, rfl, trivial⟩ ⟨rfl, by omega, Holds.to (by assumption)⟩ ?_
  clear H
  rintro i _ w ⟨rfl, hi, H⟩
  have ho := orL_lt (xs.take i)
  have hb := bitN_lt (xs.getD ((i : Nat) : Int).toNat default)
  refine W.seq (fun K4 hK4 => ?_)
  refine W.region ?_
  refine O.ex (Ex.lss rfl rfl) rfl ?_
  refine O.nil ?_
  refine hK4 _ _ _ ?_
  refine W.seq (fun K5 hK5 => ?_)
  first | refine W.cond_p rfl (fun hlt => ?_) (fun hge => ?_) | refine W.cond_b rfl (fun hlt => ?_) (fun hge => ?_)
  · refine W.skip ?_
    refine hK5 _ _ _ ?_
    refine W.seq (fun K6 hK6 => ?_)
    refine W.block ?_
    refine W.seq (fun K7 hK7 => ?_)
    refine W.region ?_
    refine O.ex (by first | exact Ex.idxR Tryd.runUnderlying30 Tryd.sizeOf3 rfl rfl | exact Ex.idxIn Tryd.runUnderlying30 Tryd.sizeOf3 rfl rfl | exact Ex.idxS Tryd.runUnderlying30 Tryd.sizeOf3 rfl rfl | exact Ex.idx Tryd.runUnderlying30 Tryd.sizeOf3 rfl rfl (by omega) (by omega)) rfl ?_
    refine O.ex (by first | exact Ex.loadP Tryd.isAgg3 rfl | exact Ex.loadR Tryd.isAgg3 rfl | exact Ex.loadIn1 Tryd.isAgg3 rfl (Holds.to (by assumption))) rfl ?_
    refine O.ex (Ex.assign rfl) rfl ?_
    refine O.nil ?_
    refine hK7 _ _ _ ?_
    refine W.region ?_
    refine O.ex (Ex.move rfl) rfl ?_
    refine O.ex (Ex.move rfl) rfl ?_
    refine O.callF Tryd.call22 rfl rfl (CT.mono (bit_ct (Holds.to (by assumption))) ?_)
    rintro _ w ⟨rfl, H⟩
    refine O.ex (Ex.or64 _ _ rfl rfl) rfl ?_
    refine O.ex (Ex.assign rfl) rfl ?_
    refine O.nil ?_
    refine hK6 _ _ _ ?_
    refine W.region ?_
    refine O.ex (by first | exact Ex.addI rfl rfl | exact Ex.add rfl rfl rfl) rfl ?_
    refine O.ex (Ex.move rfl) rfl ?_
    refine O.nil ?_
    exact ⟨i + 1, ⟨by rw [orL_succ xs i (by omega)]; rfl, rfl, rfl, rfl, trivial⟩, ⟨rfl, by omega, Holds.to (by assumption)⟩, by omega⟩
  · refine W.exit ?_
    refine hK2 _ _ _ ?_
    refine W.seq (fun K8 hK8 => ?_)
    refine W.region ?_
    refine O.ex (Ex.move rfl) rfl ?_
    refine O.ex (Ex.assign rfl) rfl ?_
    refine O.nil ?_
    refine hK8 _ _ _ ?_
    refine W.ret ?_
    try dsimp only [thenQ, blockQ, retQ]
    first | refine ⟨_, ⟨_, _, rfl, rfl, rfl⟩, ?_⟩ | (refine retD_mark ?_; intro w H; refine ⟨_, ⟨_, _, rfl, rfl, rfl⟩, ?_⟩) | (refine retD_mark2 ?_; intro w H; refine ⟨_, ⟨_, _, rfl, rfl, rfl⟩, ?_⟩)
    obtain rfl : i = xs.length := by omega
    exact ⟨by rw [List.take_length]; rfl, Holds.to (by assumption)⟩
theorem refOfA_ct {w  : World} {v : Value} {xs : List Int} {L : List HProp} (H : Holds w (arr 3 (Value.int .i64) v xs :: L)) (hl : xs.length ≤ 9223372036854775807) :
    CT Tryd.prog 18 [v] w fun u w' => u = .int .u64 ((ofL xs : Nat) : Int) ∧ Holds w' (arr 3 (Value.int .i64) v xs :: L) := by
  refine CT.enter (N := 34) Tryd.func18 rfl rfl rfl rfl ?_
  refine W.seq (fun K0 hK0 => ?_)
  refine W.region ?_
  refine O.ex (Ex.assign rfl) rfl ?_
  refine O.nil ?_
  refine hK0 _ _ _ ?_
  refine W.seq (fun K1 hK1 => ?_)
  refine W.region ?_
  refine O.ex (Ex.assign rfl) rfl ?_
  refine O.nil ?_
  refine hK1 _ _ _ ?_
  refine W.seq (fun K2 hK2 => ?_)
  refine W.region ?_
  refine O.ex (Ex.assign rfl) rfl ?_
  refine O.nil ?_
  refine hK2 _ _ _ ?_
  refine W.seq (fun K3 hK3 => ?_)
  refine W.seq (fun K4 hK4 => ?_)
  refine W.region ?_
  refine O.ex (Ex.assign rfl) rfl ?_
  refine O.nil ?_
  refine hK4 _ _ _ ?_
  refine W.block ?_
  refine W.loop (σ := Nat) (fun i => [(0, v), (3, .int .u64 ((sumP (fun i : Nat => decide ((i : Int) ∈ xs)) i : Nat) : Int)), (4, .int .u64 ((2 ^ i % 18446744073709551616 : Nat) : Int)), (5, .int .i64 (i : Int))]) (fun i ds w => ds = [] ∧ i ≤ 64 ∧ Holds w (arr 3 (Value.int .i64) v xs :: L)) (fun i => 64 - i) 0 ⟨rfl, rfl, rfl, rfl, trivial⟩ ⟨rfl, by omega, Holds.to (by assumption)⟩ ?_
  clear H
  rintro i _ w ⟨rfl, hi, H⟩
  obtain ⟨p, hp⟩ : ∃ p : Nat → Bool, p = fun i : Nat => decide ((i : Int) ∈ xs) := ⟨_, rfl⟩
  rw [← hp]
  obtain ⟨un, hun⟩ : ∃ un, un = 2 ^ i % 18446744073709551616 := ⟨_, rfl⟩
  rw [← hun]
  have hsl := sumP_lt p i
  have hul : un < 18446744073709551616 := hun ▸ Nat.mod_lt _ (by decide)
  refine W.seq (fun K5 hK5 => ?_)
  refine W.seq (fun K6 hK6 => ?_)
  refine W.region ?_
  refine O.ex (Ex.move rfl) rfl ?_
  refine O.ex (Ex.lss rfl rfl) rfl ?_
  refine O.nil ?_
  refine hK6 _ _ _ ?_
  first | refine W.cond_p rfl (fun hlt => ?_) (fun hge => ?_) | refine W.cond_b rfl (fun hlt => ?_) (fun hge => ?_)
  · refine W.skip ?_
    refine hK5 _ _ _ ?_
    refine W.seq (fun K7 hK7 => ?_)
    refine W.block ?_
    refine W.seq (fun K8 hK8 => ?_)
    refine W.region ?_
    refine O.ex (Ex.assign rfl) rfl ?_
    refine O.nil ?_
    refine hK8 _ _ _ ?_
    refine W.seq (fun K9 hK9 => ?_)
    refine W.seq (fun K10 hK10 => ?_)
    refine W.region ?_
    refine O.ex (Ex.assign rfl) rfl ?_
    refine O.nil ?_
    refine hK10 _ _ _ ?_
    refine W.block ?_
    have hpl : 2 ^ i ≤ 9223372036854775808 := show 2 ^ i ≤ 2 ^ 63 from Nat.pow_le_pow_right (by decide) (by omega)
    have hue : un = 2 ^ i := by rw [hun]; exact Nat.mod_eq_of_lt (by omega)
    have hpi : p i = decide ((i : Int) ∈ xs) := by rw [hp]
    refine W.loop (σ := Nat × Bool) (fun j => [(0, v), (3, .int .u64 ((sumP p i : Nat) : Int)), (4, .int .u64 ((un : Nat) : Int)), (5, .int .i64 (i : Int)), (6, .bool j.2), (7, .int .i64 (j.1 : Int))]) (fun j ds w => ds = [] ∧ j.1 ≤ xs.length ∧ j.2 = decide ((i : Int) ∈ xs.take j.1) ∧ Holds w (arr 3 (Value.int .i64) v xs :: L)) (fun j => xs.length - j.1) (0, false) ⟨rfl, rfl, rfl, rfl, rfl, rfl, trivial⟩ ⟨rfl, by simp, by simp, Holds.to (by assumption)⟩ ?_
    clear H
    rintro ⟨j, b⟩ _ w ⟨rfl, hj, hb, H⟩
    dsimp only at hj
    replace hb : b = decide ((i : Int) ∈ xs.take j) := hb
    subst hb
    dsimp only
    refine W.seq (fun K11 hK11 => ?_)
    refine W.seq (fun K12 hK12 => ?_)
    refine W.region ?_
    refine O.ex (Ex.move rfl) rfl ?_
    refine O.ex (Ex.move rfl) rfl ?_
    refine O.ex (by first | exact Ex.lenR Tryd.runUnderlying30 rfl | exact Ex.lenIn Tryd.runUnderlying30 rfl | exact Ex.lenL Tryd.runUnderlying30 rfl | exact Ex.len rfl Tryd.runUnderlying30 rfl) rfl ?_
    refine O.ex (Ex.lss rfl rfl) rfl ?_
    refine O.nil ?_
    refine hK12 _ _ _ ?_
    first | refine W.cond_p rfl (fun hjl => ?_) (fun hjg => ?_) | refine W.cond_b rfl (fun hjl => ?_) (fun hjg => ?_)
    · refine W.skip ?_
      refine hK11 _ _ _ ?_
      refine W.seq (fun K13 hK13 => ?_)
      refine W.block ?_
      refine W.region ?_
      refine O.ex (Ex.move rfl) rfl ?_
      refine O.ex (Ex.move rfl) rfl ?_
      first | refine O.split_p (t := 19) rfl (fun hyes => ?_) (fun hno => ?_) | refine O.split (t := 19) rfl (fun hyes => ?_) (fun hno => ?_)
      · refine O.guard_f rfl rfl rfl rfl ?_
        refine O.guard_f rfl rfl rfl rfl ?_
        refine O.guard_f rfl rfl rfl rfl ?_
        refine O.guard_f rfl rfl rfl rfl ?_
        refine O.guard_f rfl rfl rfl rfl ?_
        refine O.guard_f rfl rfl rfl rfl ?_
        refine O.ex (Ex.pick_t rfl rfl) rfl ?_
        refine O.ex (Ex.assign rfl) rfl ?_
        refine O.nil ?_
        refine hK13 _ _ _ ?_
        refine W.region ?_
        refine O.ex (Ex.move rfl) rfl ?_
        refine O.ex (by first | exact Ex.addI rfl rfl | exact Ex.add rfl rfl rfl) rfl ?_
        refine O.ex (Ex.assign rfl) rfl ?_
        refine O.nil ?_
        first
        | exact ⟨(j + 1, true), ⟨rfl, rfl, rfl, rfl, rfl, rfl, trivial⟩, ⟨rfl, by dsimp only; omega, (decide_eq_true ((mem_take xs _ j (by omega)).2 (.inl (by simpa using hyes)))).symm, Holds.to (by assumption)⟩, by dsimp only; omega⟩
        | exact ⟨(j + 1, decide (xs.getD j default = (i : Int))), ⟨rfl, rfl, rfl, rfl, rfl, rfl, trivial⟩, ⟨rfl, by dsimp only; omega, decide_eq_decide.2 (((mem_take xs _ j (by omega)).trans (or_iff_right (by simpa using hno))).symm), Holds.to (by assumption)⟩, by dsimp only; omega⟩
      · refine O.guard_t rfl rfl ?_
        refine O.ex (Ex.move rfl) rfl ?_
        refine O.guard_t rfl rfl ?_
        refine O.ex (Ex.move rfl) rfl ?_
        refine O.guard_t rfl rfl ?_
        refine O.ex (by first | exact Ex.idxR Tryd.runUnderlying30 Tryd.sizeOf3 rfl rfl | exact Ex.idxIn Tryd.runUnderlying30 Tryd.sizeOf3 rfl rfl | exact Ex.idxS Tryd.runUnderlying30 Tryd.sizeOf3 rfl rfl | exact Ex.idx Tryd.runUnderlying30 Tryd.sizeOf3 rfl rfl (by omega) (by omega)) rfl ?_
        refine O.guard_t rfl rfl ?_
        refine O.ex (by first | exact Ex.loadP Tryd.isAgg3 rfl | exact Ex.loadR Tryd.isAgg3 rfl | exact Ex.loadIn1 Tryd.isAgg3 rfl (Holds.to (by assumption))) rfl ?_
        refine O.guard_t rfl rfl ?_
        refine O.ex (Ex.move rfl) rfl ?_
        refine O.guard_t rfl rfl ?_
        refine O.ex (Ex.eqlI rfl rfl) rfl ?_
        refine O.ex (Ex.pick_f rfl rfl) rfl ?_
        refine O.ex (Ex.assign rfl) rfl ?_
        refine O.nil ?_
        refine hK13 _ _ _ ?_
        refine W.region ?_
        refine O.ex (Ex.move rfl) rfl ?_
        refine O.ex (by first | exact Ex.addI rfl rfl | exact Ex.add rfl rfl rfl) rfl ?_
        refine O.ex (Ex.assign rfl) rfl ?_
        refine O.nil ?_
        first
        | exact ⟨(j + 1, true), ⟨rfl, rfl, rfl, rfl, rfl, rfl, trivial⟩, ⟨rfl, by dsimp only; omega, (decide_eq_true ((mem_take xs _ j (by omega)).2 (.inl (by simpa using hyes)))).symm, Holds.to (by assumption)⟩, by dsimp only; omega⟩
        | exact ⟨(j + 1, decide (xs.getD j default = (i : Int))), ⟨rfl, rfl, rfl, rfl, rfl, rfl, trivial⟩, ⟨rfl, by dsimp only; omega, decide_eq_decide.2 (((mem_take xs _ j (by omega)).trans (or_iff_right (by simpa using hno))).symm), Holds.to (by assumption)⟩, by dsimp only; omega⟩
    · refine W.exit ?_
      refine hK9 _ _ _ ?_
      refine W.seq (fun K14 hK14 => ?_)
      refine W.seq (fun K15 hK15 => ?_)
      refine W.region ?_
      obtain rfl : j = xs.length := by omega
      rw [List.take_length, ← hpi]
      refine O.ex (Ex.move rfl) rfl ?_
      refine O.nil ?_
      refine hK15 _ _ _ ?_
      first | refine W.cond_p rfl (fun hin => ?_) (fun hout => ?_) | refine W.cond_b rfl (fun hin => ?_) (fun hout => ?_)
      · refine W.region ?_
        refine O.ex (Ex.move rfl) rfl ?_
        refine O.ex (Ex.move rfl) rfl ?_
        refine O.ex (Ex.add64 (sumP p i) un rfl rfl) rfl ?_
        have hss : sumP p (i + 1) = (sumP p i + un) % 18446744073709551616 := by
          rw [Nat.mod_eq_of_lt (by omega), hue]; simp only [sumP]; rw [if_pos hin]
        rw [← hss]
        refine O.ex (Ex.assign rfl) rfl ?_
        refine O.nil ?_
        refine hK14 _ _ _ ?_
        refine W.region ?_
        refine O.ex (Ex.move rfl) rfl ?_
        refine O.ex (Ex.mul (r := ((2 ^ (i + 1) % 18446744073709551616 : Nat) : Int)) rfl rfl (by rw [wrap64, hue, Nat.pow_succ]; omega)) rfl ?_
        refine O.ex (Ex.assign rfl) rfl ?_
        refine O.nil ?_
        refine hK7 _ _ _ ?_
        refine W.region ?_
        refine O.ex (Ex.move rfl) rfl ?_
        refine O.ex (by first | exact Ex.addI rfl rfl | exact Ex.add rfl rfl rfl) rfl ?_
        refine O.ex (Ex.assign rfl) rfl ?_
        refine O.nil ?_
        first
        | exact ⟨i + 1, ⟨rfl, rfl, rfl, rfl, trivial⟩, ⟨rfl, by omega, Holds.to (by assumption)⟩, by omega⟩
        | (have hss : sumP p (i + 1) = sumP p i := by simp only [sumP]; rw [if_neg (by simpa using hout), Nat.add_zero]
           exact ⟨i + 1, ⟨rfl, by rw [hss]; rfl, rfl, rfl, trivial⟩, ⟨rfl, by omega, Holds.to (by assumption)⟩, by omega⟩)
      · refine W.skip ?_
        refine hK14 _ _ _ ?_
        refine W.region ?_
        refine O.ex (Ex.move rfl) rfl ?_
        refine O.ex (Ex.mul (r := ((2 ^ (i + 1) % 18446744073709551616 : Nat) : Int)) rfl rfl (by rw [wrap64, hue, Nat.pow_succ]; omega)) rfl ?_
        refine O.ex (Ex.assign rfl) rfl ?_
        refine O.nil ?_
        refine hK7 _ _ _ ?_
        refine W.region ?_
        refine O.ex (Ex.move rfl) rfl ?_
        refine O.ex (by first | exact Ex.addI rfl rfl | exact Ex.add rfl rfl rfl) rfl ?_
        refine O.ex (Ex.assign rfl) rfl ?_
        refine O.nil ?_
        first
        | exact ⟨i + 1, ⟨rfl, rfl, rfl, rfl, trivial⟩, ⟨rfl, by omega, Holds.to (by assumption)⟩, by omega⟩
        | (have hss : sumP p (i + 1) = sumP p i := by simp only [sumP]; rw [if_neg (by simpa using hout), Nat.add_zero]
           exact ⟨i + 1, ⟨rfl, by rw [hss]; rfl, rfl, rfl, trivial⟩, ⟨rfl, by omega, Holds.to (by assumption)⟩, by omega⟩)
  · refine W.exit ?_
    refine hK3 _ _ _ ?_
    refine W.seq (fun K16 hK16 => ?_)
    refine W.region ?_
    refine O.ex (Ex.move rfl) rfl ?_
    refine O.ex (Ex.assign rfl) rfl ?_
    refine O.nil ?_
    refine hK16 _ _ _ ?_
    refine W.ret ?_
    try dsimp only [thenQ, blockQ, retQ]
    first | refine ⟨_, ⟨_, _, rfl, rfl, rfl⟩, ?_⟩ | (refine retD_mark ?_; intro w H; refine ⟨_, ⟨_, _, rfl, rfl, rfl⟩, ?_⟩) | (refine retD_mark2 ?_; intro w H; refine ⟨_, ⟨_, _, rfl, rfl, rfl⟩, ?_⟩)
    obtain rfl : i = 64 := by omega
    exact ⟨by rw [hp]; rfl, Holds.to (by assumption)⟩
theorem ofI_ct {w w0 : World} {v : Value} {xs : List Int} {L : List HProp} (hx : SlIn w0 1 (fun s : Int => [.int .i64 s]) v xs) (H : Holds w (base w0 :: L)) (hl : xs.length ≤ 9223372036854775807) :
    CT Tryd.prog 21 [v] w fun u w' => u = .int .u64 ((orL xs : Nat) : Int) ∧ Holds w' (base w0 :: L) := by
  refine CT.enter (N := 18) Tryd.func21 rfl rfl rfl rfl ?_
  refine W.seq (fun K0 hK0 => ?_)
  refine W.region ?_
  refine O.ex (Ex.assign rfl) rfl ?_
  refine O.nil ?_
  refine hK0 _ _ _ ?_
  refine W.seq (fun K1 hK1 => ?_)
  refine W.region ?_
  refine O.ex (Ex.assign rfl) rfl ?_
  refine O.nil ?_
  refine hK1 _ _ _ ?_
  refine W.seq (fun K2 hK2 => ?_)
  refine W.seq (fun K3 hK3 => ?_)
  refine W.region ?_
  refine O.ex (Ex.move rfl) rfl ?_
  refine O.ex (by first | exact Ex.lenR Tryd.runUnderlying30 rfl | exact Ex.lenIn Tryd.runUnderlying30 rfl | exact Ex.lenL Tryd.runUnderlying30 rfl | exact Ex.len rfl Tryd.runUnderlying30 rfl) rfl ?_
  refine O.ex (Ex.move rfl) rfl ?_
  refine O.nil ?_
  refine hK3 _ _ _ ?_
  refine W.block ?_
  refine W.loop (σ := Nat) (fun i => [(3, .int .u64 ((orL (xs.take i) : Nat) : Int)), (6, v), (7, .int .i64 xs.length), (8, .int .i64 (i : Int))]) (fun i ds w => ds = [] ∧ i ≤ xs.length ∧ Holds w (base w0 :: L)) (fun i => xs.length - i) 0 ⟨by rw [List.take_zero]; rfl, rfl, rfl, rfl, trivial⟩ ⟨rfl, by omega, Holds.to (by assumption)⟩ ?_
  clear H
  rintro i _ w ⟨rfl, hi, H⟩
  have ho := orL_lt (xs.take i)
  have hb := bitN_lt (xs.getD ((i : Nat) : Int).toNat default)
  refine W.seq (fun K4 hK4 => ?_)
  refine W.region ?_
  refine O.ex (Ex.lss rfl rfl) rfl ?_
  refine O.nil ?_
  refine hK4 _ _ _ ?_
  refine W.seq (fun K5 hK5 => ?_)
  first | refine W.cond_p rfl (fun hlt => ?_) (fun hge => ?_) | refine W.cond_b rfl (fun hlt => ?_) (fun hge => ?_)
  · refine W.skip ?_
    refine hK5 _ _ _ ?_
    refine W.seq (fun K6 hK6 => ?_)
    refine W.block ?_
    refine W.seq (fun K7 hK7 => ?_)
    refine W.region ?_
    refine O.ex (by first | exact Ex.idxR Tryd.runUnderlying30 Tryd.sizeOf3 rfl rfl | exact Ex.idxIn Tryd.runUnderlying30 Tryd.sizeOf3 rfl rfl | exact Ex.idxS Tryd.runUnderlying30 Tryd.sizeOf3 rfl rfl | exact Ex.idx Tryd.runUnderlying30 Tryd.sizeOf3 rfl rfl (by omega) (by omega)) rfl ?_
    refine O.ex (by first | exact Ex.loadP Tryd.isAgg3 rfl | exact Ex.loadR Tryd.isAgg3 rfl | exact Ex.loadIn1 Tryd.isAgg3 rfl (Holds.to (by assumption))) rfl ?_
    refine O.ex (Ex.assign rfl) rfl ?_
    refine O.nil ?_
    refine hK7 _ _ _ ?_
    refine W.region ?_
    refine O.ex (Ex.move rfl) rfl ?_
    refine O.ex (Ex.move rfl) rfl ?_
    refine O.callF Tryd.call22 rfl rfl (CT.mono (bit_ct (Holds.to (by assumption))) ?_)
    rintro _ w ⟨rfl, H⟩
    refine O.ex (Ex.or64 _ _ rfl rfl) rfl ?_
    refine O.ex (Ex.assign rfl) rfl ?_
    refine O.nil ?_
    refine hK6 _ _ _ ?_
    refine W.region ?_
    refine O.ex (by first | exact Ex.addI rfl rfl | exact Ex.add rfl rfl rfl) rfl ?_
    refine O.ex (Ex.move rfl) rfl ?_
    refine O.nil ?_
    exact ⟨i + 1, ⟨by rw [orL_succ xs i (by omega)]; rfl, rfl, rfl, rfl, trivial⟩, ⟨rfl, by omega, Holds.to (by assumption)⟩, by omega⟩
  · refine W.exit ?_
    refine hK2 _ _ _ ?_
    refine W.seq (fun K8 hK8 => ?_)
    refine W.region ?_
    refine O.ex (Ex.move rfl) rfl ?_
    refine O.ex (Ex.assign rfl) rfl ?_
    refine O.nil ?_
    refine hK8 _ _ _ ?_
    refine W.ret ?_
    try dsimp only [thenQ, blockQ, retQ]
    first | refine ⟨_, ⟨_, _, rfl, rfl, rfl⟩, ?_⟩ | (refine retD_mark ?_; intro w H; refine ⟨_, ⟨_, _, rfl, rfl, rfl⟩, ?_⟩) | (refine retD_mark2 ?_; intro w H; refine ⟨_, ⟨_, _, rfl, rfl, rfl⟩, ?_⟩)
    obtain rfl : i = xs.length := by omega
    exact ⟨by rw [List.take_length]; rfl, Holds.to (by assumption)⟩
theorem refOfI_ct {w w0 : World} {v : Value} {xs : List Int} {L : List HProp} (hx : SlIn w0 1 (fun s : Int => [.int .i64 s]) v xs) (H : Holds w (base w0 :: L)) (hl : xs.length ≤ 9223372036854775807) :
    CT Tryd.prog 18 [v] w fun u w' => u = .int .u64 ((ofL xs : Nat) : Int) ∧ Holds w' (base w0 :: L) := by
  refine CT.enter (N := 34) Tryd.func18 rfl rfl rfl rfl ?_
  refine W.seq (fun K0 hK0 => ?_)
  refine W.region ?_
  refine O.ex (Ex.assign rfl) rfl ?_
  refine O.nil ?_
  refine hK0 _ _ _ ?_
  refine W.seq (fun K1 hK1 => ?_)
  refine W.region ?_
  refine O.ex (Ex.assign rfl) rfl ?_
  refine O.nil ?_
  refine hK1 _ _ _ ?_
  refine W.seq (fun K2 hK2 => ?_)
  refine W.region ?_
  refine O.ex (Ex.assign rfl) rfl ?_
  refine O.nil ?_
  refine hK2 _ _ _ ?_
  refine W.seq (fun K3 hK3 => ?_)
  refine W.seq (fun K4 hK4 => ?_)
  refine W.region ?_
  refine O.ex (Ex.assign rfl) rfl ?_
  refine O.nil ?_
  refine hK4 _ _ _ ?_
  refine W.block ?_
  refine W.loop (σ := Nat) (fun i => [(0, v), (3, .int .u64 ((sumP (fun i : Nat => decide ((i : Int) ∈ xs)) i : Nat) : Int)), (4, .int .u64 ((2 ^ i % 18446744073709551616 : Nat) : Int)), (5, .int .i64 (i : Int))]) (fun i ds w => ds = [] ∧ i ≤ 64 ∧ Holds w (base w0 :: L)) (fun i => 64 - i) 0 ⟨rfl, rfl, rfl, rfl, trivial⟩ ⟨rfl, by omega, Holds.to (by assumption)⟩ ?_
  clear H
  rintro i _ w ⟨rfl, hi, H⟩
  obtain ⟨p, hp⟩ : ∃ p : Nat → Bool, p = fun i : Nat => decide ((i : Int) ∈ xs) := ⟨_, rfl⟩
  rw [← hp]
  obtain ⟨un, hun⟩ : ∃ un, un = 2 ^ i % 18446744073709551616 := ⟨_, rfl⟩
  rw [← hun]
  have hsl := sumP_lt p i
  have hul : un < 18446744073709551616 := hun ▸ Nat.mod_lt _ (by decide)
  refine W.seq (fun K5 hK5 => ?_)
  refine W.seq (fun K6 hK6 => ?_)
  refine W.region ?_
  refine O.ex (Ex.move rfl) rfl ?_
  refine O.ex (Ex.lss rfl rfl) rfl ?_
  refine O.nil ?_
  refine hK6 _ _ _ ?_
  first | refine W.cond_p rfl (fun hlt => ?_) (fun hge => ?_) | refine W.cond_b rfl (fun hlt => ?_) (fun hge => ?_)
  · refine W.skip ?_
    refine hK5 _ _ _ ?_
    refine W.seq (fun K7 hK7 => ?_)
    refine W.block ?_
    refine W.seq (fun K8 hK8 => ?_)
    refine W.region ?_
    refine O.ex (Ex.assign rfl) rfl ?_
    refine O.nil ?_
    refine hK8 _ _ _ ?_
    refine W.seq (fun K9 hK9 => ?_)
    refine W.seq (fun K10 hK10 => ?_)
    refine W.region ?_
    refine O.ex (Ex.assign rfl) rfl ?_
    refine O.nil ?_
    refine hK10 _ _ _ ?_
    refine W.block ?_
    have hpl : 2 ^ i ≤ 9223372036854775808 := show 2 ^ i ≤ 2 ^ 63 from Nat.pow_le_pow_right (by decide) (by omega)
    have hue : un = 2 ^ i := by rw [hun]; exact Nat.mod_eq_of_lt (by omega)
    have hpi : p i = decide ((i : Int) ∈ xs) := by rw [hp]
    refine W.loop (σ := Nat × Bool) (fun j => [(0, v), (3, .int .u64 ((sumP p i : Nat) : Int)), (4, .int .u64 ((un : Nat) : Int)), (5, .int .i64 (i : Int)), (6, .bool j.2), (7, .int .i64 (j.1 : Int))]) (fun j ds w => ds = [] ∧ j.1 ≤ xs.length ∧ j.2 = decide ((i : Int) ∈ xs.take j.1) ∧ Holds w (base w0 :: L)) (fun j => xs.length - j.1) (0, false) ⟨rfl, rfl, rfl, rfl, rfl, rfl, trivial⟩ ⟨rfl, by simp, by simp, Holds.to (by assumption)⟩ ?_
    clear H
    rintro ⟨j, b⟩ _ w ⟨rfl, hj, hb, H⟩
    dsimp only at hj
    replace hb : b = decide ((i : Int) ∈ xs.take j) := hb
    subst hb
    dsimp only
    refine W.seq (fun K11 hK11 => ?_)
    refine W.seq (fun K12 hK12 => ?_)
    refine W.region ?_
    refine O.ex (Ex.move rfl) rfl ?_
    refine O.ex (Ex.move rfl) rfl ?_
    refine O.ex (by first | exact Ex.lenR Tryd.runUnderlying30 rfl | exact Ex.lenIn Tryd.runUnderlying30 rfl | exact Ex.lenL Tryd.runUnderlying30 rfl | exact Ex.len rfl Tryd.runUnderlying30 rfl) rfl ?_
    refine O.ex (Ex.lss rfl rfl) rfl ?_
    refine O.nil ?_
    refine hK12 _ _ _ ?_
    first | refine W.cond_p rfl (fun hjl => ?_) (fun hjg => ?_) | refine W.cond_b rfl (fun hjl => ?_) (fun hjg => ?_)
    · refine W.skip ?_
      refine hK11 _ _ _ ?_
      refine W.seq (fun K13 hK13 => ?_)
      refine W.block ?_
      refine W.region ?_
      refine O.ex (Ex.move rfl) rfl ?_
      refine O.ex (Ex.move rfl) rfl ?_
      first | refine O.split_p (t := 19) rfl (fun hyes => ?_) (fun hno => ?_) | refine O.split (t := 19) rfl (fun hyes => ?_) (fun hno => ?_)
      · refine O.guard_f rfl rfl rfl rfl ?_
        refine O.guard_f rfl rfl rfl rfl ?_
        refine O.guard_f rfl rfl rfl rfl ?_
        refine O.guard_f rfl rfl rfl rfl ?_
        refine O.guard_f rfl rfl rfl rfl ?_
        refine O.guard_f rfl rfl rfl rfl ?_
        refine O.ex (Ex.pick_t rfl rfl) rfl ?_
        refine O.ex (Ex.assign rfl) rfl ?_
        refine O.nil ?_
        refine hK13 _ _ _ ?_
        refine W.region ?_
        refine O.ex (Ex.move rfl) rfl ?_
        refine O.ex (by first | exact Ex.addI rfl rfl | exact Ex.add rfl rfl rfl) rfl ?_
        refine O.ex (Ex.assign rfl) rfl ?_
        refine O.nil ?_
        first
        | exact ⟨(j + 1, true), ⟨rfl, rfl, rfl, rfl, rfl, rfl, trivial⟩, ⟨rfl, by dsimp only; omega, (decide_eq_true ((mem_take xs _ j (by omega)).2 (.inl (by simpa using hyes)))).symm, Holds.to (by assumption)⟩, by dsimp only; omega⟩
        | exact ⟨(j + 1, decide (xs.getD j default = (i : Int))), ⟨rfl, rfl, rfl, rfl, rfl, rfl, trivial⟩, ⟨rfl, by dsimp only; omega, decide_eq_decide.2 (((mem_take xs _ j (by omega)).trans (or_iff_right (by simpa using hno))).symm), Holds.to (by assumption)⟩, by dsimp only; omega⟩
      · refine O.guard_t rfl rfl ?_
        refine O.ex (Ex.move rfl) rfl ?_
        refine O.guard_t rfl rfl ?_
        refine O.ex (Ex.move rfl) rfl ?_
        refine O.guard_t rfl rfl ?_
        refine O.ex (by first | exact Ex.idxR Tryd.runUnderlying30 Tryd.sizeOf3 rfl rfl | exact Ex.idxIn Tryd.runUnderlying30 Tryd.sizeOf3 rfl rfl | exact Ex.idxS Tryd.runUnderlying30 Tryd.sizeOf3 rfl rfl | exact Ex.idx Tryd.runUnderlying30 Tryd.sizeOf3 rfl rfl (by omega) (by omega)) rfl ?_
        refine O.guard_t rfl rfl ?_
        refine O.ex (by first | exact Ex.loadP Tryd.isAgg3 rfl | exact Ex.loadR Tryd.isAgg3 rfl | exact Ex.loadIn1 Tryd.isAgg3 rfl (Holds.to (by assumption))) rfl ?_
        refine O.guard_t rfl rfl ?_
        refine O.ex (Ex.move rfl) rfl ?_
        refine O.guard_t rfl rfl ?_
        refine O.ex (Ex.eqlI rfl rfl) rfl ?_
        refine O.ex (Ex.pick_f rfl rfl) rfl ?_
        refine O.ex (Ex.assign rfl) rfl ?_
        refine O.nil ?_
        refine hK13 _ _ _ ?_
        refine W.region ?_
        refine O.ex (Ex.move rfl) rfl ?_
        refine O.ex (by first | exact Ex.addI rfl rfl | exact Ex.add rfl rfl rfl) rfl ?_
        refine O.ex (Ex.assign rfl) rfl ?_
        refine O.nil ?_
        first
        | exact ⟨(j + 1, true), ⟨rfl, rfl, rfl, rfl, rfl, rfl, trivial⟩, ⟨rfl, by dsimp only; omega, (decide_eq_true ((mem_take xs _ j (by omega)).2 (.inl (by simpa using hyes)))).symm, Holds.to (by assumption)⟩, by dsimp only; omega⟩
        | exact ⟨(j + 1, decide (xs.getD j default = (i : Int))), ⟨rfl, rfl, rfl, rfl, rfl, rfl, trivial⟩, ⟨rfl, by dsimp only; omega, decide_eq_decide.2 (((mem_take xs _ j (by omega)).trans (or_iff_right (by simpa using hno))).symm), Holds.to (by assumption)⟩, by dsimp only; omega⟩
    · refine W.exit ?_
      refine hK9 _ _ _ ?_
      refine W.seq (fun K14 hK14 => ?_)
      refine W.seq (fun K15 hK15 => ?_)
      refine W.region ?_
      obtain rfl : j = xs.length := by omega
      rw [List.take_length, ← hpi]
      refine O.ex (Ex.move rfl) rfl ?_
      refine O.nil ?_
      refine hK15 _ _ _ ?_
      first | refine W.cond_p rfl (fun hin => ?_) (fun hout => ?_) | refine W.cond_b rfl (fun hin => ?_) (fun hout => ?_)
      · refine W.region ?_
        refine O.ex (Ex.move rfl) rfl ?_
        refine O.ex (Ex.move rfl) rfl ?_
        refine O.ex (Ex.add64 (sumP p i) un rfl rfl) rfl ?_
        have hss : sumP p (i + 1) = (sumP p i + un) % 18446744073709551616 := by
          rw [Nat.mod_eq_of_lt (by omega), hue]; simp only [sumP]; rw [if_pos hin]
        rw [← hss]
        refine O.ex (Ex.assign rfl) rfl ?_
        refine O.nil ?_
        refine hK14 _ _ _ ?_
        refine W.region ?_
        refine O.ex (Ex.move rfl) rfl ?_
        refine O.ex (Ex.mul (r := ((2 ^ (i + 1) % 18446744073709551616 : Nat) : Int)) rfl rfl (by rw [wrap64, hue, Nat.pow_succ]; omega)) rfl ?_
        refine O.ex (Ex.assign rfl) rfl ?_
        refine O.nil ?_
        refine hK7 _ _ _ ?_
        refine W.region ?_
        refine O.ex (Ex.move rfl) rfl ?_
        refine O.ex (by first | exact Ex.addI rfl rfl | exact Ex.add rfl rfl rfl) rfl ?_
        refine O.ex (Ex.assign rfl) rfl ?_
        refine O.nil ?_
        first
        | exact ⟨i + 1, ⟨rfl, rfl, rfl, rfl, trivial⟩, ⟨rfl, by omega, Holds.to (by assumption)⟩, by omega⟩
        | (have hss : sumP p (i + 1) = sumP p i := by simp only [sumP]; rw [if_neg (by simpa using hout), Nat.add_zero]
           exact ⟨i + 1, ⟨rfl, by rw [hss]; rfl, rfl, rfl, trivial⟩, ⟨rfl, by omega, Holds.to (by assumption)⟩, by omega⟩)
      · refine W.skip ?_
        refine hK14 _ _ _ ?_
        refine W.region ?_
        refine O.ex (Ex.move rfl) rfl ?_
        refine O.ex (Ex.mul (r := ((2 ^ (i + 1) % 18446744073709551616 : Nat) : Int)) rfl rfl (by rw [wrap64, hue, Nat.pow_succ]; omega)) rfl ?_
        refine O.ex (Ex.assign rfl) rfl ?_
        refine O.nil ?_
        refine hK7 _ _ _ ?_
        refine W.region ?_
        refine O.ex (Ex.move rfl) rfl ?_
        refine O.ex (by first | exact Ex.addI rfl rfl | exact Ex.add rfl rfl rfl) rfl ?_
        refine O.ex (Ex.assign rfl) rfl ?_
        refine O.nil ?_
        first
        | exact ⟨i + 1, ⟨rfl, rfl, rfl, rfl, trivial⟩, ⟨rfl, by omega, Holds.to (by assumption)⟩, by omega⟩
        | (have hss : sumP p (i + 1) = sumP p i := by simp only [sumP]; rw [if_neg (by simpa using hout), Nat.add_zero]
           exact ⟨i + 1, ⟨rfl, by rw [hss]; rfl, rfl, rfl, trivial⟩, ⟨rfl, by omega, Holds.to (by assumption)⟩, by omega⟩)
  · refine W.exit ?_
    refine hK3 _ _ _ ?_
    refine W.seq (fun K16 hK16 => ?_)
    refine W.region ?_
    refine O.ex (Ex.move rfl) rfl ?_
    refine O.ex (Ex.assign rfl) rfl ?_
    refine O.nil ?_
    refine hK16 _ _ _ ?_
    refine W.ret ?_
    try dsimp only [thenQ, blockQ, retQ]
    first | refine ⟨_, ⟨_, _, rfl, rfl, rfl⟩, ?_⟩ | (refine retD_mark ?_; intro w H; refine ⟨_, ⟨_, _, rfl, rfl, rfl⟩, ?_⟩) | (refine retD_mark2 ?_; intro w H; refine ⟨_, ⟨_, _, rfl, rfl, rfl⟩, ?_⟩)
    obtain rfl : i = 64 := by omega
    exact ⟨by rw [hp]; rfl, Holds.to (by assumption)⟩
/-- A set's numbers below n, as the document lists them. -/
def lstN (s n : Nat) : List Int := ((List.range n).filter s.testBit).map Int.ofNat
def lstI (s : Nat) : List Int := (lst s).map Int.ofNat
theorem lstN_64 (s : Nat) : lstN s 64 = lstI s := rfl
theorem lstN_t (s n : Nat) (h : s.testBit n = true) : lstN s (n + 1) = lstN s n ++ [(n : Int)] := by
  unfold lstN; rw [List.range_succ, List.filter_append, List.map_append]; simp [h]
theorem lstN_f (s n : Nat) (h : ¬ s.testBit n = true) : lstN s (n + 1) = lstN s n := by
  unfold lstN; rw [List.range_succ, List.filter_append, List.map_append]; simp [h]
theorem lstN_le (s n : Nat) : (lstN s n).length ≤ n := by
  unfold lstN; rw [List.length_map]; exact Nat.le_trans (List.length_filter_le _ _) (by simp)
theorem lstI_le (s : Nat) : (lstI s).length ≤ 64 := lstN_le s 64
theorem lst_le (s : Nat) : (lst s).length ≤ 64 := by have := lstI_le s; simpa [lstI] using this
theorem inS_nat (s i : Nat) (h : i < 64) : inS s (i : Int) = s.testBit i := by
  unfold inS; rw [decide_eq_true (by omega), Bool.true_and, Int.toNat_natCast]
theorem refHas_ct {w : World} {s : Nat} {x : Int} {L : List HProp} (H : Holds w L) (hs : s < 18446744073709551616) :
    CT Tryd.prog 15 [.int .u64 (s : Int), .int .i64 x] w fun u w' => u = .bool (inS s x) ∧ Holds w' L := by
  refine CT.enter (N := 22) Tryd.func15 rfl rfl rfl rfl ?_
  refine W.seq (fun K0 hK0 => ?_)
  refine W.region ?_
  refine O.ex (Ex.assign rfl) rfl ?_
  refine O.nil ?_
  refine hK0 _ _ _ ?_
  refine W.seq (fun K1 hK1 => ?_)
  refine W.seq (fun K2 hK2 => ?_)
  refine W.region ?_
  refine O.ex (Ex.move rfl) rfl ?_
  refine O.ex (Ex.lss rfl rfl) rfl ?_
  refine O.ex (Ex.move rfl) rfl ?_
  first | refine O.split_p (t := 8) rfl (fun hneg => ?_) (fun hpos => ?_) | refine O.split (t := 8) rfl (fun hneg => ?_) (fun hpos => ?_)
  · refine O.guard_f rfl rfl rfl rfl ?_
    refine O.guard_f rfl rfl rfl rfl ?_
    refine O.ex (Ex.pick_t rfl rfl) rfl ?_
    refine O.nil ?_
    refine hK2 _ _ _ ?_
    refine W.cond_t rfl ?_
    refine W.seq (fun K3 hK3 => ?_)
    refine W.region ?_
    refine O.ex (Ex.assign rfl) rfl ?_
    refine O.nil ?_
    refine hK3 _ _ _ ?_
    refine W.ret ?_
    try dsimp only [thenQ, blockQ, retQ]
    first | refine ⟨_, ⟨_, _, rfl, rfl, rfl⟩, ?_⟩ | (refine retD_mark ?_; intro w H; refine ⟨_, ⟨_, _, rfl, rfl, rfl⟩, ?_⟩) | (refine retD_mark2 ?_; intro w H; refine ⟨_, ⟨_, _, rfl, rfl, rfl⟩, ?_⟩)
    first
    | (refine ⟨?_, Holds.to (by assumption)⟩
       rw [show inS s x = false from by unfold inS; rw [decide_eq_false (by omega), Bool.false_and]]; rfl)
    | (refine ⟨?_, Holds.to (by assumption)⟩
       obtain rfl : x = (i : Int) := by omega
       rw [inS_nat s i (by omega), Nat.testBit_eq_decide_div_mod_eq, ← hy]; rfl)
  · refine O.guard_t rfl rfl ?_
    refine O.ex (Ex.move rfl) rfl ?_
    refine O.guard_t rfl rfl ?_
    refine O.ex (Ex.gtr rfl rfl) rfl ?_
    refine O.ex (Ex.pick_f rfl rfl) rfl ?_
    refine O.nil ?_
    refine hK2 _ _ _ ?_
    first | refine W.cond_p rfl (fun hbig => ?_) (fun hle => ?_) | refine W.cond_b rfl (fun hbig => ?_) (fun hle => ?_)
    · refine W.seq (fun K4 hK4 => ?_)
      refine W.region ?_
      refine O.ex (Ex.assign rfl) rfl ?_
      refine O.nil ?_
      refine hK4 _ _ _ ?_
      refine W.ret ?_
      try dsimp only [thenQ, blockQ, retQ]
      first | refine ⟨_, ⟨_, _, rfl, rfl, rfl⟩, ?_⟩ | (refine retD_mark ?_; intro w H; refine ⟨_, ⟨_, _, rfl, rfl, rfl⟩, ?_⟩) | (refine retD_mark2 ?_; intro w H; refine ⟨_, ⟨_, _, rfl, rfl, rfl⟩, ?_⟩)
      first
      | (refine ⟨?_, Holds.to (by assumption)⟩
         rw [show inS s x = false from by unfold inS; rw [decide_eq_false (by omega), Bool.false_and]]; rfl)
      | (refine ⟨?_, Holds.to (by assumption)⟩
         obtain rfl : x = (i : Int) := by omega
         rw [inS_nat s i (by omega), Nat.testBit_eq_decide_div_mod_eq, ← hy]; rfl)
    · refine W.skip ?_
      refine hK1 _ _ _ ?_
      refine W.seq (fun K5 hK5 => ?_)
      refine W.seq (fun K6 hK6 => ?_)
      refine W.region ?_
      refine O.ex (Ex.assign rfl) rfl ?_
      refine O.nil ?_
      refine hK6 _ _ _ ?_
      refine W.block ?_
      refine W.loop (σ := Nat) (fun i => [(0, .int .u64 ((s / 2 ^ i : Nat) : Int)), (1, .int .i64 x), (5, .int .i64 (i : Int))]) (fun i ds w => ds = [] ∧ (i : Int) ≤ x ∧ Holds w L) (fun i => x.toNat - i) 0 ⟨by rw [Nat.pow_zero, Nat.div_one]; rfl, rfl, rfl, trivial⟩ ⟨rfl, by omega, Holds.to (by assumption)⟩ ?_
      clear H
      rintro i _ w ⟨rfl, hi, H⟩
      obtain ⟨y, hy⟩ : ∃ y, y = s / 2 ^ i := ⟨_, rfl⟩
      have hyl : y ≤ s := hy ▸ Nat.div_le_self _ _
      rw [← hy]
      refine W.seq (fun K7 hK7 => ?_)
      refine W.seq (fun K8 hK8 => ?_)
      refine W.region ?_
      refine O.ex (Ex.move rfl) rfl ?_
      refine O.ex (Ex.move rfl) rfl ?_
      refine O.ex (Ex.lss rfl rfl) rfl ?_
      refine O.nil ?_
      refine hK8 _ _ _ ?_
      first | refine W.cond_p rfl (fun hlt => ?_) (fun hge => ?_) | refine W.cond_b rfl (fun hlt => ?_) (fun hge => ?_)
      · refine W.skip ?_
        refine hK7 _ _ _ ?_
        refine W.seq (fun K9 hK9 => ?_)
        refine W.block ?_
        refine W.region ?_
        refine O.ex (Ex.move rfl) rfl ?_
        refine O.ex (Ex.quo (r := ((y / 2 : Nat) : Int)) rfl rfl (by decide) (by rw [wrap64, show ((y : Nat) : Int).tdiv 2 = ((y / 2 : Nat) : Int) from rfl]; omega)) rfl ?_
        refine O.ex (Ex.assign rfl) rfl ?_
        refine O.nil ?_
        refine hK9 _ _ _ ?_
        refine W.region ?_
        refine O.ex (Ex.move rfl) rfl ?_
        refine O.ex (by first | exact Ex.addI rfl rfl | exact Ex.add rfl rfl rfl) rfl ?_
        refine O.ex (Ex.assign rfl) rfl ?_
        refine O.nil ?_
        have hy2 : y / 2 = s / 2 ^ (i + 1) := by rw [hy, Nat.div_div_eq_div_mul, Nat.pow_succ]
        exact ⟨i + 1, ⟨by rw [← hy2]; rfl, rfl, rfl, trivial⟩, ⟨rfl, by omega, Holds.to (by assumption)⟩, by omega⟩
      · refine W.exit ?_
        refine hK5 _ _ _ ?_
        refine W.seq (fun K10 hK10 => ?_)
        refine W.region ?_
        refine O.ex (Ex.move rfl) rfl ?_
        refine O.ex (Ex.rem (r := ((y % 2 : Nat) : Int)) rfl rfl (by decide) (show ((y : Nat) : Int).tmod 2 = ((y % 2 : Nat) : Int) from rfl)) rfl ?_
        refine O.ex (Ex.eql64 _ 1 rfl rfl) rfl ?_
        refine O.ex (Ex.assign rfl) rfl ?_
        refine O.nil ?_
        refine hK10 _ _ _ ?_
        refine W.ret ?_
        try dsimp only [thenQ, blockQ, retQ]
        first | refine ⟨_, ⟨_, _, rfl, rfl, rfl⟩, ?_⟩ | (refine retD_mark ?_; intro w H; refine ⟨_, ⟨_, _, rfl, rfl, rfl⟩, ?_⟩) | (refine retD_mark2 ?_; intro w H; refine ⟨_, ⟨_, _, rfl, rfl, rfl⟩, ?_⟩)
        first
        | (refine ⟨?_, Holds.to (by assumption)⟩
           rw [show inS s x = false from by unfold inS; rw [decide_eq_false (by omega), Bool.false_and]]; rfl)
        | (refine ⟨?_, Holds.to (by assumption)⟩
           obtain rfl : x = (i : Int) := by omega
           rw [inS_nat s i (by omega), Nat.testBit_eq_decide_div_mod_eq, ← hy]; rfl)
theorem refList_ct {w : World} {s : Nat} {L : List HProp} (H : Holds w L) (hs : s < 18446744073709551616) :
    CT Tryd.prog 12 [.int .u64 (s : Int)] w fun u w' => u.oneCell' = true ∧ Holds w' (arr 3 (Value.int .i64) u (lstI s) :: L) := by
  refine CT.enter (N := 17) Tryd.func12 rfl rfl rfl rfl ?_
  refine W.seq (fun K0 hK0 => ?_)
  refine W.region ?_
  refine O.ex (Ex.assign rfl) rfl ?_
  refine O.nil ?_
  refine hK0 _ _ _ ?_
  refine W.seq (fun K1 hK1 => ?_)
  refine W.region ?_
  refine O.ex (Ex.assign rfl) rfl ?_
  refine O.nil ?_
  refine hK1 _ _ _ ?_
  refine W.seq (fun K2 hK2 => ?_)
  refine W.seq (fun K3 hK3 => ?_)
  refine W.region ?_
  refine O.ex (Ex.assign rfl) rfl ?_
  refine O.nil ?_
  refine hK3 _ _ _ ?_
  refine W.block ?_
  have H := arr_nil (T := 3) (e := Value.int .i64) H
  refine W.loop (σ := Nat × Value) (fun i => [(0, .int .u64 (s : Int)), (3, i.2), (4, .int .i64 (i.1 : Int))]) (fun i ds w => ds = [] ∧ i.1 ≤ 64 ∧ i.2.oneCell' = true ∧ Holds w (arr 3 (Value.int .i64) i.2 (lstN s i.1) :: L)) (fun i => 64 - i.1) (0, .slice none 0 0) ⟨rfl, rfl, rfl, trivial⟩ ⟨rfl, by simp, rfl, Holds.to (by assumption)⟩ ?_
  clear H
  rintro ⟨i, va⟩ _ w ⟨rfl, hi, hva, H⟩
  dsimp only at hi hva H
  dsimp only
  have hln := lstN_le s i
  refine W.seq (fun K4 hK4 => ?_)
  refine W.seq (fun K5 hK5 => ?_)
  refine W.region ?_
  refine O.ex (Ex.move rfl) rfl ?_
  refine O.ex (Ex.lss rfl rfl) rfl ?_
  refine O.nil ?_
  refine hK5 _ _ _ ?_
  first | refine W.cond_p rfl (fun hlt => ?_) (fun hge => ?_) | refine W.cond_b rfl (fun hlt => ?_) (fun hge => ?_)
  · refine W.skip ?_
    refine hK4 _ _ _ ?_
    refine W.seq (fun K6 hK6 => ?_)
    refine W.block ?_
    refine W.seq (fun K7 hK7 => ?_)
    refine W.region ?_
    refine O.ex (Ex.move rfl) rfl ?_
    refine O.ex (Ex.move rfl) rfl ?_
    refine O.callF Tryd.call15 rfl rfl (CT.mono (refHas_ct (Holds.to (by assumption)) hs) ?_)
    rintro _ w ⟨rfl, H⟩
    rw [inS_nat s i (by omega)]
    refine O.nil ?_
    refine hK7 _ _ _ ?_
    first | refine W.cond_p rfl (fun hin => ?_) (fun hout => ?_) | refine W.cond_b rfl (fun hin => ?_) (fun hout => ?_)
    · refine W.region ?_
      refine O.ex (Ex.move rfl) rfl ?_
      refine O.ex (Ex.move rfl) rfl ?_
      refine O.build1 (e := Value.int .i64) Tryd.runUnderlying30 Tryd.sizeOf3 Tryd.zeroValue3 rfl (fun v14 w hv14 H => ?_)
      refine O.appendR Tryd.runUnderlying30 Tryd.typeInfo3 (bt := 8) rfl Tryd.sizeOf3 Tryd.zeroValue3 rfl rfl (fun v15 w hv15 H => ?_)
      refine O.ex (Ex.assign rfl) rfl ?_
      refine O.nil ?_
      refine hK6 _ _ _ ?_
      refine W.region ?_
      refine O.ex (Ex.move rfl) rfl ?_
      refine O.ex (by first | exact Ex.addI rfl rfl | exact Ex.add rfl rfl rfl) rfl ?_
      refine O.ex (Ex.assign rfl) rfl ?_
      refine O.nil ?_
      first
      | exact ⟨(i + 1, _), ⟨rfl, rfl, rfl, trivial⟩, ⟨rfl, by dsimp only; omega, by assumption, by rw [lstN_t s i hin]; exact Holds.to (by assumption)⟩, by dsimp only; omega⟩
      | exact ⟨(i + 1, _), ⟨rfl, rfl, rfl, trivial⟩, ⟨rfl, by dsimp only; omega, by assumption, by rw [lstN_f s i (by simpa using hout)]; exact Holds.to (by assumption)⟩, by dsimp only; omega⟩
    · refine W.skip ?_
      refine hK6 _ _ _ ?_
      refine W.region ?_
      refine O.ex (Ex.move rfl) rfl ?_
      refine O.ex (by first | exact Ex.addI rfl rfl | exact Ex.add rfl rfl rfl) rfl ?_
      refine O.ex (Ex.assign rfl) rfl ?_
      refine O.nil ?_
      first
      | exact ⟨(i + 1, _), ⟨rfl, rfl, rfl, trivial⟩, ⟨rfl, by dsimp only; omega, by assumption, by rw [lstN_t s i hin]; exact Holds.to (by assumption)⟩, by dsimp only; omega⟩
      | exact ⟨(i + 1, _), ⟨rfl, rfl, rfl, trivial⟩, ⟨rfl, by dsimp only; omega, by assumption, by rw [lstN_f s i (by simpa using hout)]; exact Holds.to (by assumption)⟩, by dsimp only; omega⟩
  · refine W.exit ?_
    refine hK2 _ _ _ ?_
    refine W.seq (fun K8 hK8 => ?_)
    refine W.region ?_
    refine O.ex (Ex.move rfl) rfl ?_
    refine O.ex (Ex.assign rfl) rfl ?_
    refine O.nil ?_
    refine hK8 _ _ _ ?_
    refine W.ret ?_
    try dsimp only [thenQ, blockQ, retQ]
    first | refine ⟨_, ⟨_, _, rfl, rfl, rfl⟩, ?_⟩ | (refine retD_mark ?_; intro w H; refine ⟨_, ⟨_, _, rfl, rfl, rfl⟩, ?_⟩) | (refine retD_mark2 ?_; intro w H; refine ⟨_, ⟨_, _, rfl, rfl, rfl⟩, ?_⟩)
    obtain rfl : i = 64 := by omega
    exact ⟨by assumption, Holds.to (by assumption)⟩
theorem ints_ct {w : World} {va vb : Value} {xs : List Int} {L : List HProp} (H : Holds w (arr 3 (Value.int .i64) va xs :: arr 3 (Value.int .i64) vb xs :: L)) (hl : xs.length ≤ 9223372036854775807) :
    CT Tryd.prog 16 [va, vb] w fun u w' => u = .bool true ∧ Holds w' (arr 3 (Value.int .i64) va xs :: arr 3 (Value.int .i64) vb xs :: L) := by
  refine CT.enter (N := 26) Tryd.func16 rfl rfl rfl rfl ?_
  refine W.seq (fun K0 hK0 => ?_)
  refine W.region ?_
  refine O.ex (Ex.assign rfl) rfl ?_
  refine O.nil ?_
  refine hK0 _ _ _ ?_
  refine W.seq (fun K1 hK1 => ?_)
  refine W.seq (fun K2 hK2 => ?_)
  refine W.region ?_
  refine O.ex (Ex.move rfl) rfl ?_
  refine O.ex (by first | exact Ex.lenR Tryd.runUnderlying30 rfl | exact Ex.lenIn Tryd.runUnderlying30 rfl | exact Ex.lenL Tryd.runUnderlying30 rfl | exact Ex.len rfl Tryd.runUnderlying30 rfl) rfl ?_
  refine O.ex (Ex.move rfl) rfl ?_
  refine O.ex (by first | exact Ex.lenR Tryd.runUnderlying30 rfl | exact Ex.lenIn Tryd.runUnderlying30 rfl | exact Ex.lenL Tryd.runUnderlying30 rfl | exact Ex.len rfl Tryd.runUnderlying30 rfl) rfl ?_
  refine O.ex (Ex.neqI rfl rfl) rfl ?_
  refine O.nil ?_
  refine hK2 _ _ _ ?_
  refine W.known_f rfl (by first | rfl | decide | exact decide_eq_false (fun hh => hh rfl)) ?_
  refine W.skip ?_
  refine hK1 _ _ _ ?_
  refine W.seq (fun K3 hK3 => ?_)
  refine W.seq (fun K4 hK4 => ?_)
  refine W.region ?_
  refine O.ex (Ex.assign rfl) rfl ?_
  refine O.nil ?_
  refine hK4 _ _ _ ?_
  refine W.block ?_
  refine W.loop (σ := Nat) (fun i => [(0, va), (1, vb), (5, .int .i64 (i : Int))]) (fun i ds w => ds = [] ∧ i ≤ xs.length ∧ Holds w (arr 3 (Value.int .i64) va xs :: arr 3 (Value.int .i64) vb xs :: L)) (fun i => xs.length - i) 0 ⟨rfl, rfl, rfl, trivial⟩ ⟨rfl, by omega, Holds.to (by assumption)⟩ ?_
  clear H
  rintro i _ w ⟨rfl, hi, H⟩
  refine W.seq (fun K5 hK5 => ?_)
  refine W.seq (fun K6 hK6 => ?_)
  refine W.region ?_
  refine O.ex (Ex.move rfl) rfl ?_
  refine O.ex (Ex.move rfl) rfl ?_
  refine O.ex (by first | exact Ex.lenR Tryd.runUnderlying30 rfl | exact Ex.lenIn Tryd.runUnderlying30 rfl | exact Ex.lenL Tryd.runUnderlying30 rfl | exact Ex.len rfl Tryd.runUnderlying30 rfl) rfl ?_
  refine O.ex (Ex.lss rfl rfl) rfl ?_
  refine O.nil ?_
  refine hK6 _ _ _ ?_
  first | refine W.cond_p rfl (fun hlt => ?_) (fun hge => ?_) | refine W.cond_b rfl (fun hlt => ?_) (fun hge => ?_)
  · refine W.skip ?_
    refine hK5 _ _ _ ?_
    refine W.seq (fun K7 hK7 => ?_)
    refine W.block ?_
    refine W.seq (fun K8 hK8 => ?_)
    refine W.drawTo _ (.take 0 (.take 1 (.take 2 (.take 3 (.take 4 (.take 5 (.take 6 (.take 7 (.take 8 .nil))))))))) (mixed) (fun _ _ _ _ h => h) (by assumption) (PP.refl _) (by decide +kernel) (fun w H => ?_)
    refine OQ.ex rfl (fun w H => (Ex.move rfl)) rfl ?_
    refine OQ.ex rfl (fun w H => (Ex.move rfl)) rfl ?_
    refine OQ.ex rfl (fun w H => (by first | exact Ex.idxR Tryd.runUnderlying30 Tryd.sizeOf3 rfl rfl | exact Ex.idxIn Tryd.runUnderlying30 Tryd.sizeOf3 rfl rfl | exact Ex.idxS Tryd.runUnderlying30 Tryd.sizeOf3 rfl rfl | exact Ex.idx Tryd.runUnderlying30 Tryd.sizeOf3 rfl rfl (by omega) (by omega))) rfl ?_
    refine OQ.ex rfl (fun w H => (by first | exact Ex.loadP Tryd.isAgg3 rfl | exact Ex.loadR Tryd.isAgg3 rfl | exact Ex.loadIn1 Tryd.isAgg3 rfl (Holds.to (by assumption)))) rfl ?_
    refine OQ.ex rfl (fun w H => (Ex.move rfl)) rfl ?_
    refine OQ.ex rfl (fun w H => (Ex.move rfl)) rfl ?_
    refine OQ.ex rfl (fun w H => (by first | exact Ex.idxR Tryd.runUnderlying30 Tryd.sizeOf3 rfl rfl | exact Ex.idxIn Tryd.runUnderlying30 Tryd.sizeOf3 rfl rfl | exact Ex.idxS Tryd.runUnderlying30 Tryd.sizeOf3 rfl rfl | exact Ex.idx Tryd.runUnderlying30 Tryd.sizeOf3 rfl rfl (by omega) (by omega))) rfl ?_
    refine OQ.ex rfl (fun w H => (by first | exact Ex.loadP Tryd.isAgg3 rfl | exact Ex.loadR Tryd.isAgg3 rfl | exact Ex.loadIn1 Tryd.isAgg3 rfl (Holds.to (by assumption)))) rfl ?_
    refine OQ.ex rfl (fun w H => (Ex.neqI rfl rfl)) rfl ?_
    refine OQ.done ?_
    refine hK8 _ _ _ ?_
    refine W.known_f rfl (by first | rfl | decide | exact decide_eq_false (fun hh => hh rfl)) ?_
    refine W.skip ?_
    refine hK7 _ _ _ ?_
    refine W.region ?_
    refine O.ex (Ex.move rfl) rfl ?_
    refine O.ex (by first | exact Ex.addI rfl rfl | exact Ex.add rfl rfl rfl) rfl ?_
    refine O.ex (Ex.assign rfl) rfl ?_
    refine O.nil ?_
    exact ⟨i + 1, ⟨rfl, rfl, rfl, trivial⟩, ⟨rfl, by omega, Holds.to (by assumption)⟩, by omega⟩
  · refine W.exit ?_
    refine hK3 _ _ _ ?_
    refine W.seq (fun K9 hK9 => ?_)
    refine W.region ?_
    refine O.ex (Ex.assign rfl) rfl ?_
    refine O.nil ?_
    refine hK9 _ _ _ ?_
    refine W.ret ?_
    try dsimp only [thenQ, blockQ, retQ]
    first | refine ⟨_, ⟨_, _, rfl, rfl, rfl⟩, ?_⟩ | (refine retD_mark ?_; intro w H; refine ⟨_, ⟨_, _, rfl, rfl, rfl⟩, ?_⟩) | (refine retD_mark2 ?_; intro w H; refine ⟨_, ⟨_, _, rfl, rfl, rfl⟩, ?_⟩)
    exact ⟨rfl, by first | assumption | exact Holds.to (by assumption)⟩
def capB (c s : Nat) : HProp := pt c (.cells #[.int .u64 (s : Int)] 24 (0, 0))
theorem all_ct {w : World} {s : Nat} {L : List HProp} (H : Holds w L) :
    CT Tryd.prog 13 [.int .u64 (s : Int)] w fun u w' => ∃ c, u = .func (.func 25) #[] #[.pointer (some ⟨c, 0, none⟩)] ∧ Holds w' (capB c s :: L) := by
  refine CT.enter (N := 4) Tryd.func13 rfl rfl rfl rfl ?_
  refine W.seq (fun K0 hK0 => ?_)
  refine W.region ?_
  refine O.boxP rfl (fun b1 w H => ?_)
  refine O.ex (Ex.assign rfl) rfl ?_
  refine O.nil ?_
  refine hK0 _ _ _ ?_
  refine W.seq (fun K1 hK1 => ?_)
  refine W.region ?_
  refine O.ex (Ex.makeFunc rfl rfl) rfl ?_
  refine O.ex (Ex.assign rfl) rfl ?_
  refine O.nil ?_
  refine hK1 _ _ _ ?_
  refine W.ret ?_
  try dsimp only [thenQ, blockQ, retQ]
  first | refine ⟨_, ⟨_, _, rfl, rfl, rfl⟩, ?_⟩ | (refine retD_mark ?_; intro w H; refine ⟨_, ⟨_, _, rfl, rfl, rfl⟩, ?_⟩) | (refine retD_mark2 ?_; intro w H; refine ⟨_, ⟨_, _, rfl, rfl, rfl⟩, ?_⟩)
  exact ⟨_, rfl, Holds.to (by assumption)⟩
/-- What a set's iterator tells. -/
theorem all1_ct {w w0 : World} {c s : Nat} {fv : Value} {J : Nat → List HProp} {φ : Nat → Prop} {S : World → Prop} (hT : TabAt w0) (hs : s < 18446744073709551616) (hφ : φ 0)
    (H : Holds w (base w0 :: capB c s :: J 0))
    (hy : ∀ (j : Nat) w, j < (lst s).length → φ j → Holds w (base w0 :: capB c s :: J j) →
      VT Tryd.prog fv [.int .i64 (((lst s).getD j default : Nat) : Int)] w fun u w' => (u = .bool true ∧ φ (j + 1) ∧ Holds w' (base w0 :: capB c s :: J (j + 1))) ∨ (u = .bool false ∧ S w')) :
    CT Tryd.prog 25 [fv, .pointer (some ⟨c, 0, none⟩)] w fun _ w' => (φ (lst s).length ∧ Holds w' (base w0 :: capB c s :: J (lst s).length)) ∨ S w' := by
  have H := H.swap
  unfold capB at H
  refine CT.enter (N := 22) Tryd.func25 rfl rfl rfl rfl ?_
  refine W.seq (fun K0 hK0 => ?_)
  refine W.region ?_
  refine O.ex (by first | exact Ex.loadP Tryd.isAgg24 rfl | exact Ex.loadR Tryd.isAgg24 rfl | exact Ex.loadIn1 Tryd.isAgg24 rfl (Holds.to (by assumption))) rfl ?_
  refine O.ex (Ex.assign rfl) rfl ?_
  refine O.nil ?_
  refine hK0 _ _ _ ?_
  refine W.block ?_
  refine W.loop (σ := Nat × Nat) (fun i => [(0, fv), (3, .int .u64 (i.2 : Int))]) (fun i ds w => ds = [] ∧ i.2 < 18446744073709551616 ∧ lst i.2 = (lst s).drop i.1 ∧ i.1 ≤ (lst s).length ∧ φ i.1 ∧ Holds w (base w0 :: capB c s :: J i.1)) (fun i => (lst s).length - i.1) (0, s) ⟨rfl, rfl, trivial⟩ ⟨rfl, hs, rfl, by simp, hφ, Holds.to (by assumption)⟩ ?_
  clear H
  rintro ⟨j, y⟩ _ w ⟨rfl, hyl, hyd, hjl, hφj, H⟩
  dsimp only at hyl hyd hjl hφj H
  dsimp only
  refine W.seq (fun K1 hK1 => ?_)
  refine W.seq (fun K2 hK2 => ?_)
  refine W.region ?_
  refine O.ex (Ex.move rfl) rfl ?_
  refine O.ex (Ex.neq64 _ 0 rfl rfl) rfl ?_
  refine O.nil ?_
  refine hK2 _ _ _ ?_
  first | refine W.cond_p rfl (fun hne => ?_) (fun heq => ?_) | refine W.cond_b rfl (fun hne => ?_) (fun heq => ?_)
  · refine W.skip ?_
    refine hK1 _ _ _ ?_
    refine W.seq (fun K3 hK3 => ?_)
    refine W.block ?_
    refine W.seq (fun K4 hK4 => ?_)
    refine W.region ?_
    have hne' : y ≠ 0 := hne
    have hcons := lst_cons y hne' hyl
    rw [hyd] at hcons
    have hj : j < (lst s).length := by
      rcases Nat.lt_or_ge j (lst s).length with h | h
      · exact h
      · rw [List.drop_eq_nil_of_le h] at hcons; cases hcons
    have hget : (lst s).getD j default = Lib.ctz 64 y := by
      have := congrArg (fun l : List Nat => l.head?) hcons
      simp only [List.head?_drop, List.head?_cons] at this
      rw [List.getD_eq_getElem?_getD, this]; rfl
    have hnext : lst (y &&& (y - 1)) = (lst s).drop (j + 1) := by
      have := congrArg List.tail hcons
      rw [List.tail_drop, List.tail_cons] at this; exact this.symm
    have hnl := and_lt y (y - 1) hyl
    have hfst : fstS y = (((lst s).getD j default : Nat) : Int) := by unfold fstS; rw [if_neg hne', hget]
    refine O.ex (Ex.move rfl) rfl ?_
    refine O.callF Tryd.call10 rfl rfl (CT.mono (first_ct hT (Holds.to (by assumption)) hyl) ?_)
    rintro _ w ⟨rfl, H⟩
    rw [hfst]
    refine O.ex (Ex.move rfl) rfl ?_
    refine O.ex (Ex.extract rfl rfl) rfl ?_
    refine O.ex (Ex.extract rfl rfl) rfl ?_
    refine O.ex (Ex.assign rfl) rfl ?_
    refine O.ex (Ex.assign rfl) rfl ?_
    refine O.nil ?_
    refine hK4 _ _ _ ?_
    refine W.seq (fun K5 hK5 => ?_)
    refine W.region ?_
    refine O.ex (Ex.move rfl) rfl ?_
    refine O.ex (Ex.move rfl) rfl ?_
    refine O.callVT rfl rfl rfl (VT.mono (hy j w hj hφj (Holds.to (by assumption))) ?_)
    rintro _ w hh
    obtain (⟨rfl, hφ2, H⟩ | ⟨rfl, H⟩) := hh
    · refine O.ex (by first | exact Ex.notD rfl | exact Ex.not rfl) rfl ?_
      refine O.nil ?_
      refine hK5 _ _ _ ?_
      refine W.known_f rfl (by first | rfl | decide | (simp; done) | omega) ?_
      refine W.skip ?_
      refine hK3 _ _ _ ?_
      refine W.region ?_
      refine O.ex (Ex.move rfl) rfl ?_
      refine O.ex (Ex.move rfl) rfl ?_
      refine O.ex (Ex.sub64 _ 1 rfl rfl) rfl ?_
      refine O.ex (Ex.and64 _ _ rfl rfl) rfl ?_
      refine O.ex (Ex.assign rfl) rfl ?_
      refine O.nil ?_
      exact ⟨(j + 1, y &&& (y - 1)), ⟨rfl, rfl, trivial⟩, ⟨rfl, hnl, hnext, hj, hφ2, Holds.to (by assumption)⟩, by dsimp only; omega⟩
    · refine O.ex (by first | exact Ex.notD rfl | exact Ex.not rfl) rfl ?_
      refine O.nil ?_
      refine hK5 _ _ _ ?_
      refine W.known_t rfl (by first | rfl | decide | (simp; done) | omega) ?_
      refine W.ret ?_
      try dsimp only [thenQ, blockQ, retQ]
      first | refine ⟨_, rfl, ?_⟩ | (refine retD_mark ?_; intro w H; refine ⟨_, rfl, ?_⟩) | (refine retD_mark2 ?_; intro w H; refine ⟨_, rfl, ?_⟩)
      first
      | exact .inr H
      | (obtain rfl : j = (lst s).length := by
           have h0 : y = 0 := by simpa using heq
           rw [h0, lst_zero] at hyd
           have := (List.drop_eq_nil_iff).1 hyd.symm
           omega
         exact .inl ⟨hφj, Holds.to (by assumption)⟩)
  · refine W.exit ?_
    try dsimp only [thenQ, blockQ, retQ]
    first | refine ⟨_, rfl, ?_⟩ | (refine retD_mark ?_; intro w H; refine ⟨_, rfl, ?_⟩) | (refine retD_mark2 ?_; intro w H; refine ⟨_, rfl, ?_⟩)
    first
    | exact .inr H
    | (obtain rfl : j = (lst s).length := by
         have h0 : y = 0 := by simpa using heq
         rw [h0, lst_zero] at hyd
         have := (List.drop_eq_nil_iff).1 hyd.symm
         omega
       exact .inl ⟨hφj, Holds.to (by assumption)⟩)
theorem lstI_get (s j : Nat) (h : j < (lst s).length) : (((lst s).getD j default : Nat) : Int) = (lstI s).getD j default := by
  simp [lstI, List.getD_eq_getElem?_getD, h]
theorem lstI_len (s : Nat) : (lstI s).length = (lst s).length := by simp [lstI]
theorem list_ct {w w0 : World} {s : Nat} {L : List HProp} (hT : TabAt w0) (H : Holds w (base w0 :: L)) (hs : s < 18446744073709551616) :
    CT Tryd.prog 17 [.int .u64 (s : Int)] w fun u w' => u.oneCell' = true ∧ Holds w' (arr 3 (Value.int .i64) u (lstI s) :: base w0 :: L) := by
  have hpl := pop_len s
  have hle := lst_le s
  refine CT.enter (N := 16) Tryd.func17 rfl rfl rfl rfl ?_
  refine W.seq (fun K0 hK0 => ?_)
  refine W.region ?_
  refine O.ex (Ex.assign rfl) rfl ?_
  refine O.nil ?_
  refine hK0 _ _ _ ?_
  refine W.seq (fun K1 hK1 => ?_)
  refine W.region ?_
  refine O.ex (Ex.move rfl) rfl ?_
  refine O.callF Tryd.call11 rfl rfl (CT.mono (len_ct (Holds.to (by assumption)) hs) ?_)
  rintro _ w ⟨rfl, H⟩
  refine O.makeC (0 : Int) (e := Value.int .i64) (bt := 8) Tryd.runUnderlying30 Tryd.sizeOf3 Tryd.zeroValue3 Tryd.typeInfo3 rfl rfl rfl (fun s7 w hs7 H => ?_)
  have H : Holds w (arr 3 (Value.int .i64) s7 ([] : List Int) :: _) := H
  refine O.allocP Tryd.zeroValue30 (fun b3 w H => ?_)
  first | refine O.storeP Tryd.sizeOf30 rfl rfl (fun w H => ?_) | refine O.storeR Tryd.sizeOf30 rfl rfl (fun w H => ?_)
  refine O.nil ?_
  refine hK1 _ _ _ ?_
  refine W.seq (fun K2 hK2 => ?_)
  refine W.seq (fun K3 hK3 => ?_)
  refine W.region ?_
  refine O.ex (Ex.move rfl) rfl ?_
  refine O.callF Tryd.call13 rfl rfl (CT.mono (all_ct (Holds.to (by assumption))) ?_)
  rintro _ w ⟨c, rfl, H⟩
  refine O.nil ?_
  refine hK3 _ _ _ ?_
  refine W.block ?_
  have H : Holds w (slV b3 30 3 (Value.int .i64) ((lstI s).take 0) :: capB c s :: base w0 :: L) := slV_open.2 ⟨_, by rw [List.take_zero]; exact Holds.to (by assumption)⟩
  refine W.rangeFunc rfl Tryd.call25 H ?_
  rintro LR kk D w hLR H
  refine CT.mono (all1_ct (c := c) (s := s) (w0 := w0) (J := fun j => LR .ready none :: dblk D :: slV b3 30 3 (Value.int .i64) ((lstI s).take j) :: L) (φ := fun _ => True) (S := fun _ => False) hT hs trivial (Holds.to (by assumption)) ?_) ?_
  · intro j w hj _ H
    obtain ⟨va, H⟩ := slV_open.1 (Holds.to (by assumption))
    rw [lstI_get s j hj]
    have htk := take_get (lstI s) j (by rw [lstI_len]; exact hj)
    have htl : ((lstI s).take j).length ≤ 64 := by rw [List.length_take]; omega
    refine VT.round hLR (Holds.to (by assumption)) rfl rfl ?_
    refine W.region ?_
    refine O.ex (Ex.assign rfl) rfl ?_
    refine O.nil ?_
    refine ⟨_, Holds.to (by assumption), fun w H => ?_⟩
    refine W.block ?_
    refine W.region ?_
    refine O.ex (by first | exact Ex.loadP Tryd.isAgg30 rfl | exact Ex.loadR Tryd.isAgg30 rfl | exact Ex.loadIn1 Tryd.isAgg30 rfl (Holds.to (by assumption))) rfl ?_
    refine O.ex (Ex.move rfl) rfl ?_
    refine O.build1 (e := Value.int .i64) Tryd.runUnderlying30 Tryd.sizeOf3 Tryd.zeroValue3 rfl (fun v13 w hv13 H => ?_)
    refine O.appendR Tryd.runUnderlying30 Tryd.typeInfo3 (bt := 8) rfl Tryd.sizeOf3 Tryd.zeroValue3 rfl rfl (fun v14 w hv14 H => ?_)
    first | refine O.storeP Tryd.sizeOf30 rfl rfl (fun w H => ?_) | refine O.storeR Tryd.sizeOf30 rfl rfl (fun w H => ?_)
    refine O.nil ?_
    rw [← htk] at H
    have H := (slV_open (b := b3) (TS := 30) (T := 3) (e := Value.int .i64) (xs := (lstI s).take (j + 1))).2 ⟨_, Holds.to (by assumption)⟩
    exact ⟨_, Holds.to (by assumption), fun w H => .inl ⟨rfl, trivial, Holds.to (by assumption)⟩⟩
  rintro _ w (⟨_, H⟩ | hf)
  rotate_left
  · exact hf.elim
  refine rangeEnd (Holds.to (by assumption)) (by nofun) (fun w H => ?_)
  obtain ⟨va, H⟩ := slV_open.1 (Holds.to (by assumption))
  rw [← lstI_len, List.take_length] at H
  refine hK2 _ _ _ ?_
  refine W.seq (fun K4 hK4 => ?_)
  refine W.region ?_
  refine O.ex (by first | exact Ex.loadP Tryd.isAgg30 rfl | exact Ex.loadR Tryd.isAgg30 rfl | exact Ex.loadIn1 Tryd.isAgg30 rfl (Holds.to (by assumption))) rfl ?_
  refine O.ex (Ex.assign rfl) rfl ?_
  refine O.nil ?_
  refine hK4 _ _ _ ?_
  refine W.ret ?_
  try dsimp only [thenQ, blockQ, retQ]
  first | refine ⟨_, ⟨_, _, rfl, rfl, rfl⟩, ?_⟩ | (refine retD_mark ?_; intro w H; refine ⟨_, ⟨_, _, rfl, rfl, rfl⟩, ?_⟩) | (refine retD_mark2 ?_; intro w H; refine ⟨_, ⟨_, _, rfl, rfl, rfl⟩, ?_⟩)
  exact ⟨by first | assumption | exact arr_one (Holds.to (by assumption)), Holds.to (by assumption)⟩
theorem awake03_ct {w w0 : World} {L : List HProp} (hT : TabAt w0) (H : Holds w (base w0 :: L)) : CT Tryd.prog 8 [] w fun u w' => u = .bool true ∧ Holds w' (base w0 :: L) := by
  refine CT.enter (N := 48) Tryd.func8 rfl rfl rfl rfl ?_
  refine W.seq (fun K0 hK0 => ?_)
  refine W.region ?_
  refine O.ex (Ex.assign rfl) rfl ?_
  refine O.nil ?_
  refine hK0 _ _ _ ?_
  refine W.seq (fun K1 hK1 => ?_)
  refine W.region ?_
  refine O.buildK (e := Value.int .i64) (vs := [(0, .int .i64 2), (1, .int .i64 0), (2, .int .i64 64)]) [2, 0, 64] Tryd.runUnderlying30 Tryd.sizeOf3 Tryd.zeroValue3 rfl rfl rfl rfl rfl rfl (fun v4 w hv4 H => ?_)
  refine O.callF Tryd.call21 rfl rfl (CT.mono (ofA_ct (xs := [2, 0, 64]) (Holds.to (by assumption)) (by decide)) ?_)
  rintro _ w ⟨rfl, H⟩
  rw [show orL [2, 0, 64] = 5 from by decide]
  refine O.ex (Ex.assign rfl) rfl ?_
  refine O.nil ?_
  refine hK1 _ _ _ ?_
  refine W.seq (fun K2 hK2 => ?_)
  refine W.region ?_
  refine O.ex (Ex.move rfl) rfl ?_
  refine O.callF Tryd.call10 rfl rfl (CT.mono (first_ct (s := 5) hT (Holds.to (by assumption)) (by decide)) ?_)
  rintro _ w ⟨rfl, H⟩
  rw [show fstS 5 = 0 from by decide]
  refine O.ex (Ex.move rfl) rfl ?_
  refine O.ex (Ex.extract rfl rfl) rfl ?_
  refine O.ex (Ex.extract rfl rfl) rfl ?_
  refine O.ex (Ex.assign rfl) rfl ?_
  refine O.ex (Ex.assign rfl) rfl ?_
  refine O.nil ?_
  refine hK2 _ _ _ ?_
  refine W.seq (fun K3 hK3 => ?_)
  refine W.region ?_
  refine O.ex (Ex.move rfl) rfl ?_
  refine O.ex (Ex.eql64 _ 5 rfl rfl) rfl ?_
  refine O.ex (Ex.move rfl) rfl ?_
  refine O.known (t := 13) (c := true) rfl (by first | rfl | decide) ?_
  refine O.guard_t rfl rfl ?_
  refine O.ex (Ex.move rfl) rfl ?_
  refine O.guard_t rfl rfl ?_
  refine O.callF Tryd.call11 rfl rfl (CT.mono (len_ct (s := 5) (Holds.to (by assumption)) (by decide)) ?_)
  rintro _ w ⟨rfl, H⟩
  rw [show pop 5 = 2 from by decide]
  refine O.guard_t rfl rfl ?_
  refine O.ex (Ex.eqlI rfl rfl) rfl ?_
  refine O.ex (Ex.pick_t rfl rfl) rfl ?_
  refine O.ex (Ex.move rfl) rfl ?_
  refine O.known (t := 18) (c := true) rfl (by first | rfl | decide) ?_
  refine O.guard_t rfl rfl ?_
  refine O.ex (Ex.move rfl) rfl ?_
  refine O.guard_t rfl rfl ?_
  refine O.ex (Ex.eqlI rfl rfl) rfl ?_
  refine O.ex (Ex.pick_t rfl rfl) rfl ?_
  refine O.ex (Ex.move rfl) rfl ?_
  refine O.known (t := 22) (c := true) rfl (by first | rfl | decide) ?_
  refine O.guard_t rfl rfl ?_
  refine O.ex (Ex.move rfl) rfl ?_
  refine O.ex (Ex.pick_t rfl rfl) rfl ?_
  refine O.ex (Ex.move rfl) rfl ?_
  refine O.known (t := 25) (c := true) rfl (by first | rfl | decide) ?_
  refine O.guard_t rfl rfl ?_
  refine O.ex (Ex.move rfl) rfl ?_
  refine O.guard_t rfl rfl ?_
  refine O.callF Tryd.call14 rfl rfl (CT.mono (has_ct (s := 5) (Holds.to (by assumption)) (by decide)) ?_)
  rintro _ w ⟨rfl, H⟩
  refine O.ex (Ex.pick_t rfl rfl) rfl ?_
  refine O.ex (Ex.move rfl) rfl ?_
  refine O.known (t := 29) (c := true) rfl (by first | rfl | decide) ?_
  refine O.guard_t rfl rfl ?_
  refine O.ex (Ex.move rfl) rfl ?_
  refine O.guard_t rfl rfl ?_
  refine O.callF Tryd.call14 rfl rfl (CT.mono (has_ct (s := 5) (Holds.to (by assumption)) (by decide)) ?_)
  rintro _ w ⟨rfl, H⟩
  refine O.guard_t rfl rfl ?_
  refine O.ex (by first | exact Ex.notD rfl | exact Ex.not rfl) rfl ?_
  refine O.ex (Ex.pick_t rfl rfl) rfl ?_
  refine O.ex (Ex.move rfl) rfl ?_
  refine O.known (t := 34) (c := true) rfl (by first | rfl | decide) ?_
  refine O.guard_t rfl rfl ?_
  refine O.ex (Ex.move rfl) rfl ?_
  refine O.guard_t rfl rfl ?_
  refine O.callF Tryd.call19 rfl rfl (CT.mono (with_ct (s := 5) (Holds.to (by assumption)) (by decide)) ?_)
  rintro _ w ⟨rfl, H⟩
  refine O.guard_t rfl rfl ?_
  refine O.ex (Ex.eql64 _ 7 rfl rfl) rfl ?_
  refine O.ex (Ex.pick_t rfl rfl) rfl ?_
  refine O.ex (Ex.move rfl) rfl ?_
  refine O.known (t := 39) (c := true) rfl (by first | rfl | decide) ?_
  refine O.guard_t rfl rfl ?_
  refine O.ex (Ex.move rfl) rfl ?_
  refine O.guard_t rfl rfl ?_
  refine O.callF Tryd.call20 rfl rfl (CT.mono (without_ct (s := 5) (Holds.to (by assumption)) (by decide)) ?_)
  rintro _ w ⟨rfl, H⟩
  refine O.guard_t rfl rfl ?_
  refine O.ex (Ex.eql64 _ 1 rfl rfl) rfl ?_
  refine O.ex (Ex.pick_t rfl rfl) rfl ?_
  refine O.ex (Ex.move rfl) rfl ?_
  refine O.known (t := 44) (c := true) rfl (by first | rfl | decide) ?_
  refine O.guard_t rfl rfl ?_
  refine O.callF Tryd.call9 rfl rfl (CT.mono (below_ct (Holds.to (by assumption))) ?_)
  rintro _ w ⟨rfl, H⟩
  refine O.guard_t rfl rfl ?_
  refine O.ex (Ex.eql64 _ 7 rfl rfl) rfl ?_
  refine O.ex (Ex.pick_t rfl rfl) rfl ?_
  refine O.ex (Ex.assign rfl) rfl ?_
  refine O.nil ?_
  refine hK3 _ _ _ ?_
  refine W.ret ?_
  try dsimp only [thenQ, blockQ, retQ]
  first | refine ⟨_, ⟨_, _, rfl, rfl, rfl⟩, ?_⟩ | (refine retD_mark ?_; intro w H; refine ⟨_, ⟨_, _, rfl, rfl, rfl⟩, ?_⟩) | (refine retD_mark2 ?_; intro w H; refine ⟨_, ⟨_, _, rfl, rfl, rfl⟩, ?_⟩)
  exact ⟨by simp only [oneOf]; exact congrArg Value.bool (by decide), Holds.to (by assumption)⟩
end Go.Proofs.YtikdblejkmaloaaDoor

