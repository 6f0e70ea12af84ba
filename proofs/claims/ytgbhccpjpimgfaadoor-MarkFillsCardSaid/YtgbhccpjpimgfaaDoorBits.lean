import Derived.Test.YtgbhccpjpimgfaaDoorFacts
import Derived.Test.YtgbhccpjpimgfaaDoorRrBits
import Derived.Test.YtgbhccpjpimgfaaDoorRrSets
namespace Go.Proofs.YtgbhccpjpimgfaaDoor
open Go.Rr
set_option linter.unusedVariables false
theorem bit_ct {w : World} {i : Int} {L : List HProp} (H : Holds w L) :
    CT Tryd.prog 38 [.int .i64 i] w fun u w' => u = .int .u64 (bitN i : Int) ∧ Holds w' L := by
  refine CT.enter (N := 11) Tryd.func38 rfl rfl rfl rfl ?_
  refine W.seq (fun K0 hK0 => ?_)
  refine W.region ?_
  refine O.ex (Ex.assign rfl) rfl ?_
  refine O.nil ?_
  refine hK0 _ _ _ ?_
  refine W.seq (fun K1 hK1 => ?_)
  refine W.seq (fun K2 hK2 => ?_)
  refine W.region ?_
  refine O.ex (Ex.move rfl) rfl ?_
  refine O.ex (Ex.lss rfl rfl) rfl ?_
  refine O.ex (Ex.move rfl) rfl ?_
  first | refine O.split_p (t := 5) rfl (fun h5 => ?_) (fun h5 => ?_) | refine O.split (t := 5) rfl (fun h5 => ?_) (fun h5 => ?_)
  · refine O.guard_f rfl rfl rfl rfl ?_
    refine O.guard_f rfl rfl rfl rfl ?_
    refine O.ex (Ex.pick_t rfl rfl) rfl ?_
    refine O.nil ?_
    refine hK2 _ _ _ ?_
    refine W.cond_t rfl ?_
    refine W.seq (fun K3 hK3 => ?_)
    refine W.region ?_
    refine O.ex (Ex.assign rfl) rfl ?_
    refine O.nil ?_
    refine hK3 _ _ _ ?_
    refine W.ret ?_
    try dsimp only [thenQ, blockQ, retQ]
    first | refine ⟨_, ⟨_, _, rfl, rfl, rfl⟩, ?_⟩ | (refine retD_mark ?_; intro w H; refine ⟨_, ⟨_, _, rfl, rfl, rfl⟩, ?_⟩) | (refine retD_mark2 ?_; intro w H; refine ⟨_, ⟨_, _, rfl, rfl, rfl⟩, ?_⟩)
    first
    | (refine ⟨?_, H⟩
       have e : bitN i = 0 := if_neg (by omega)
       rw [e]; rfl)
    | (refine ⟨?_, H⟩
       have e : bitN i = 2 ^ i.toNat := if_pos (by omega)
       have hl := bitN_lt i
       rw [e] at hl ⊢
       show Value.int .u64 _ = _
       rw [Nat.one_mul, Nat.mod_eq_of_lt hl])
  · refine O.guard_t rfl rfl ?_
    refine O.ex (Ex.move rfl) rfl ?_
    refine O.guard_t rfl rfl ?_
    refine O.ex (Ex.geq rfl rfl) rfl ?_
    refine O.ex (Ex.pick_f rfl rfl) rfl ?_
    refine O.nil ?_
    refine hK2 _ _ _ ?_
    first | refine W.cond_p rfl (fun h8 => ?_) (fun h8 => ?_) | refine W.cond_b rfl (fun h8 => ?_) (fun h8 => ?_)
    · refine W.seq (fun K4 hK4 => ?_)
      refine W.region ?_
      refine O.ex (Ex.assign rfl) rfl ?_
      refine O.nil ?_
      refine hK4 _ _ _ ?_
      refine W.ret ?_
      try dsimp only [thenQ, blockQ, retQ]
      first | refine ⟨_, ⟨_, _, rfl, rfl, rfl⟩, ?_⟩ | (refine retD_mark ?_; intro w H; refine ⟨_, ⟨_, _, rfl, rfl, rfl⟩, ?_⟩) | (refine retD_mark2 ?_; intro w H; refine ⟨_, ⟨_, _, rfl, rfl, rfl⟩, ?_⟩)
      first
      | (refine ⟨?_, H⟩
         have e : bitN i = 0 := if_neg (by omega)
         rw [e]; rfl)
      | (refine ⟨?_, H⟩
         have e : bitN i = 2 ^ i.toNat := if_pos (by omega)
         have hl := bitN_lt i
         rw [e] at hl ⊢
         show Value.int .u64 _ = _
         rw [Nat.one_mul, Nat.mod_eq_of_lt hl])
    · refine W.skip ?_
      refine hK1 _ _ _ ?_
      refine W.seq (fun K5 hK5 => ?_)
      refine W.region ?_
      refine O.ex (Ex.move rfl) rfl ?_
      refine O.ex (Ex.shl64 1 i.toNat rfl (by show some (Value.int .i64 i) = some (Value.int .i64 ((i.toNat : Nat) : Int)); rw [show ((i.toNat : Nat) : Int) = i from by omega])) rfl ?_
      refine O.ex (Ex.assign rfl) rfl ?_
      refine O.nil ?_
      refine hK5 _ _ _ ?_
      refine W.ret ?_
      try dsimp only [thenQ, blockQ, retQ]
      first | refine ⟨_, ⟨_, _, rfl, rfl, rfl⟩, ?_⟩ | (refine retD_mark ?_; intro w H; refine ⟨_, ⟨_, _, rfl, rfl, rfl⟩, ?_⟩) | (refine retD_mark2 ?_; intro w H; refine ⟨_, ⟨_, _, rfl, rfl, rfl⟩, ?_⟩)
      first
      | (refine ⟨?_, H⟩
         have e : bitN i = 0 := if_neg (by omega)
         rw [e]; rfl)
      | (refine ⟨?_, H⟩
         have e : bitN i = 2 ^ i.toNat := if_pos (by omega)
         have hl := bitN_lt i
         rw [e] at hl ⊢
         show Value.int .u64 _ = _
         rw [Nat.one_mul, Nat.mod_eq_of_lt hl])
theorem ones_ct {w : World} {x : Nat} {L : List HProp} (H : Holds w L) (hx : x < 18446744073709551616) :
    CT Tryd.prog 39 [.int .u64 (x : Int)] w fun u w' => u = .int .i64 (pop x : Int) ∧ Holds w' L := by
  obtain ⟨s1, h1⟩ : ∃ s, s = p1 8 x := ⟨_, rfl⟩
  obtain ⟨s2, h2⟩ : ∃ s, s = p2 8 s1 := ⟨_, rfl⟩
  obtain ⟨y, hy⟩ : ∃ s, s = p3 8 s2 := ⟨_, rfl⟩
  obtain ⟨y4, h4⟩ : ∃ s, s = (y + y / 256) % 18446744073709551616 := ⟨_, rfl⟩
  obtain ⟨y5, h5⟩ : ∃ s, s = (y4 + y4 / 65536) % 18446744073709551616 := ⟨_, rfl⟩
  have l1 : s1 ≤ 2 * 6148914691236517205 := h1 ▸ p1_lt x
  have l2 : s2 ≤ 2 * 3689348814741910323 := h2 ▸ p2_lt s1
  have l3 : y ≤ 1085102592571150095 := by rw [hy]; unfold p3; rw [rep15]; exact Nat.and_le_right
  have l4 : y4 < 18446744073709551616 := h4 ▸ Nat.mod_lt _ (by decide)
  have l5 : y5 < 18446744073709551616 := h5 ▸ Nat.mod_lt _ (by decide)
  have fin := ones_law x y y4 y5 hx (by rw [hy, h2, h1]) h4 h5
  have e1 : ((x / 2 ^ 1 &&& 6148914691236517205) + (x &&& 6148914691236517205)) % 18446744073709551616 = s1 := by
    have h : p1 8 x = (x / 2 ^ 1 &&& 6148914691236517205) + (x &&& 6148914691236517205) := by unfold p1; rw [rep85]
    rw [← h, ← h1]; exact Nat.mod_eq_of_lt (by omega)
  have e2 : ((s1 / 2 ^ 2 &&& 3689348814741910323) + (s1 &&& 3689348814741910323)) % 18446744073709551616 = s2 := by
    have h : p2 8 s1 = (s1 / 2 ^ 2 &&& 3689348814741910323) + (s1 &&& 3689348814741910323) := by unfold p2; rw [rep51]
    rw [← h, ← h2]; exact Nat.mod_eq_of_lt (by omega)
  have e3 : (s2 / 2 ^ 4 + s2) % 18446744073709551616 &&& 1085102592571150095 = y := by
    rw [hy, Nat.mod_eq_of_lt (by omega)]; unfold p3; rw [rep15]
  have e4 : (y + y / 2 ^ 8) % 18446744073709551616 = y4 := h4.symm
  have e5 : (y4 + y4 / 2 ^ 16) % 18446744073709551616 = y5 := h5.symm
  clear h1 h2 hy h4 h5 l3
  refine CT.enter (N := 35) Tryd.func39 rfl rfl rfl rfl ?_
  refine W.seq (fun K0 hK0 => ?_)
  refine W.region ?_
  refine O.ex (Ex.assign rfl) rfl ?_
  refine O.nil ?_
  refine hK0 _ _ _ ?_
  refine W.seq (fun K1 hK1 => ?_)
  refine W.region ?_
  refine O.ex (Ex.move rfl) rfl ?_
  refine O.ex (Ex.shr64 x 1 rfl rfl) rfl ?_
  refine O.ex (Ex.and64 (x / 2 ^ 1) 6148914691236517205 rfl rfl) rfl ?_
  refine O.ex (Ex.move rfl) rfl ?_
  refine O.ex (Ex.and64 x 6148914691236517205 rfl rfl) rfl ?_
  refine O.ex (Ex.add64 (x / 2 ^ 1 &&& 6148914691236517205) (x &&& 6148914691236517205) rfl rfl) rfl ?_
  rw [e1]
  refine O.ex (Ex.assign rfl) rfl ?_
  refine O.nil ?_
  refine hK1 _ _ _ ?_
  refine W.seq (fun K2 hK2 => ?_)
  refine W.region ?_
  refine O.ex (Ex.move rfl) rfl ?_
  refine O.ex (Ex.shr64 s1 2 rfl rfl) rfl ?_
  refine O.ex (Ex.and64 (s1 / 2 ^ 2) 3689348814741910323 rfl rfl) rfl ?_
  refine O.ex (Ex.move rfl) rfl ?_
  refine O.ex (Ex.and64 s1 3689348814741910323 rfl rfl) rfl ?_
  refine O.ex (Ex.add64 (s1 / 2 ^ 2 &&& 3689348814741910323) (s1 &&& 3689348814741910323) rfl rfl) rfl ?_
  rw [e2]
  refine O.ex (Ex.assign rfl) rfl ?_
  refine O.nil ?_
  refine hK2 _ _ _ ?_
  refine W.seq (fun K3 hK3 => ?_)
  refine W.region ?_
  refine O.ex (Ex.move rfl) rfl ?_
  refine O.ex (Ex.shr64 s2 4 rfl rfl) rfl ?_
  refine O.ex (Ex.move rfl) rfl ?_
  refine O.ex (Ex.add64 (s2 / 2 ^ 4) s2 rfl rfl) rfl ?_
  refine O.ex (Ex.and64 ((s2 / 2 ^ 4 + s2) % 18446744073709551616) 1085102592571150095 rfl rfl) rfl ?_
  rw [e3]
  refine O.ex (Ex.assign rfl) rfl ?_
  refine O.nil ?_
  refine hK3 _ _ _ ?_
  refine W.seq (fun K4 hK4 => ?_)
  refine W.region ?_
  refine O.ex (Ex.move rfl) rfl ?_
  refine O.ex (Ex.move rfl) rfl ?_
  refine O.ex (Ex.shr64 y 8 rfl rfl) rfl ?_
  refine O.ex (Ex.add64 y (y / 2 ^ 8) rfl rfl) rfl ?_
  rw [e4]
  refine O.ex (Ex.assign rfl) rfl ?_
  refine O.nil ?_
  refine hK4 _ _ _ ?_
  refine W.seq (fun K5 hK5 => ?_)
  refine W.region ?_
  refine O.ex (Ex.move rfl) rfl ?_
  refine O.ex (Ex.move rfl) rfl ?_
  refine O.ex (Ex.shr64 y4 16 rfl rfl) rfl ?_
  refine O.ex (Ex.add64 y4 (y4 / 2 ^ 16) rfl rfl) rfl ?_
  rw [e5]
  refine O.ex (Ex.assign rfl) rfl ?_
  refine O.nil ?_
  refine hK5 _ _ _ ?_
  refine W.seq (fun K6 hK6 => ?_)
  refine W.region ?_
  refine O.ex (Ex.move rfl) rfl ?_
  refine O.ex (Ex.move rfl) rfl ?_
  refine O.ex (Ex.shr64 y5 32 rfl rfl) rfl ?_
  refine O.ex (Ex.add64 y5 (y5 / 2 ^ 32) rfl rfl) rfl ?_
  refine O.ex (Ex.assign rfl) rfl ?_
  refine O.nil ?_
  refine hK6 _ _ _ ?_
  refine W.seq (fun K7 hK7 => ?_)
  refine W.region ?_
  refine O.ex (Ex.move rfl) rfl ?_
  refine O.ex (Ex.convI Tryd.runUnderlying40 Tryd.runUnderlying3 rfl rfl) rfl ?_
  refine O.ex (Ex.bits (.inl rfl) rfl rfl (and127 ((y5 + y5 / 2 ^ 32) % 18446744073709551616) (Nat.mod_lt _ (by decide)))) rfl ?_
  rw [show (y5 + y5 / 2 ^ 32) % 18446744073709551616 % 128 = pop x from fin]
  refine O.ex (Ex.assign rfl) rfl ?_
  refine O.nil ?_
  refine hK7 _ _ _ ?_
  refine W.ret ?_
  try dsimp only [thenQ, blockQ, retQ]
  first | refine ⟨_, ⟨_, _, rfl, rfl, rfl⟩, ?_⟩ | (refine retD_mark ?_; intro w H; refine ⟨_, ⟨_, _, rfl, rfl, rfl⟩, ?_⟩) | (refine retD_mark2 ?_; intro w H; refine ⟨_, ⟨_, _, rfl, rfl, rfl⟩, ?_⟩)
  exact ⟨rfl, by first | assumption | exact Holds.to (by assumption)⟩
abbrev TabAt (w0 : World) : Prop := ∀ j, j < 64 → w0.cell? ⟨0, j, none⟩ = some (.int .u8 ((Lib.deBruijn64tab.getD j 0 : Nat) : Int))
theorem tz_ct {w w0 : World} {x : Nat} {L : List HProp} (hT : TabAt w0) (H : Holds w (base w0 :: L)) (hx : x < 18446744073709551616) (h0 : x ≠ 0) :
    CT Tryd.prog 45 [.int .u64 (x : Int)] w fun u w' => u = .int .i64 ((Lib.ctz 64 x : Nat) : Int) ∧ Holds w' (base w0 :: L) := by
  obtain ⟨hlow, hk⟩ := Lib.lowest_bit 64 x h0 hx
  obtain ⟨k, hkk⟩ : ∃ k, k = Lib.ctz 64 x := ⟨_, rfl⟩
  rw [← hkk] at hlow hk ⊢
  have hd := Lib.deBruijn64_at k hk
  obtain ⟨a, ha⟩ : ∃ a, a = 2 ^ k := ⟨_, rfl⟩
  have ha64 : a < 18446744073709551616 := by rw [ha]; exact Nat.pow_lt_pow_right (n := 64) (by decide) hk
  rw [← ha] at hlow hd
  obtain ⟨j, hj⟩ : ∃ j, j = a * 285870213051353865 % 18446744073709551616 / 288230376151711744 := ⟨_, rfl⟩
  rw [← hj] at hd
  obtain ⟨hj64, htab⟩ := hd
  have hc := H.base_cell (hT j hj64)
  rw [htab] at hc
  clear hkk ha htab
  refine CT.enter (N := 14) Tryd.func45 rfl rfl rfl rfl ?_
  refine W.seq (fun K0 hK0 => ?_)
  refine W.region ?_
  refine O.ex (Ex.assign rfl) rfl ?_
  refine O.nil ?_
  refine hK0 _ _ _ ?_
  refine W.seq (fun K1 hK1 => ?_)
  refine W.seq (fun K2 hK2 => ?_)
  refine W.region ?_
  refine O.ex (Ex.move rfl) rfl ?_
  refine O.ex (Ex.eql64 _ 0 rfl rfl) rfl ?_
  refine O.nil ?_
  refine hK2 _ _ _ ?_
  refine W.known_f rfl (decide_eq_false h0) ?_
  refine W.skip ?_
  refine hK1 _ _ _ ?_
  refine W.seq (fun K3 hK3 => ?_)
  refine W.region ?_
  refine O.ex (Ex.move rfl) rfl ?_
  refine O.ex (Ex.move rfl) rfl ?_
  refine O.ex (Ex.neg (r := ((18446744073709551616 - x : Nat) : Int)) rfl (by rw [wrap64]; omega)) rfl ?_
  refine O.ex (Ex.and64 x (18446744073709551616 - x) rfl rfl) rfl ?_
  rw [show x &&& (18446744073709551616 - x) = a from hlow]
  refine O.ex (Ex.mul (r := ((a * 285870213051353865 % 18446744073709551616 : Nat) : Int)) rfl rfl (by rw [wrap64]; omega)) rfl ?_
  refine O.ex (Ex.shr64 (a * 285870213051353865 % 18446744073709551616) 58 rfl rfl) rfl ?_
  rw [show a * 285870213051353865 % 18446744073709551616 / 2 ^ 58 = j from hj.symm]
  refine O.ex (Ex.idxArr Tryd.runUnderlying67 Tryd.sizeOf5 rfl rfl) rfl ?_
  rw [show 0 + ((j : Nat) : Int).toNat * 1 = j from by simp]
  refine O.ex (Ex.load Tryd.isAgg5 rfl hc) rfl ?_
  refine O.ex (by first | exact Ex.convToI Tryd.runUnderlying5 Tryd.runUnderlying3 rfl | exact Ex.convW Tryd.runUnderlying5 Tryd.runUnderlying3 rfl) rfl ?_
  refine O.ex (Ex.assign rfl) rfl ?_
  refine O.nil ?_
  refine hK3 _ _ _ ?_
  refine W.ret ?_
  try dsimp only [thenQ, blockQ, retQ]
  first | refine ⟨_, ⟨_, _, rfl, rfl, rfl⟩, ?_⟩ | (refine retD_mark ?_; intro w H; refine ⟨_, ⟨_, _, rfl, rfl, rfl⟩, ?_⟩) | (refine retD_mark2 ?_; intro w H; refine ⟨_, ⟨_, _, rfl, rfl, rfl⟩, ?_⟩)
  exact ⟨rfl, by first | assumption | exact Holds.to (by assumption)⟩
def fstS (s : Nat) : Int := if s = 0 then 0 else Lib.ctz 64 s
theorem first_ct {w w0 : World} {s : Nat} {L : List HProp} (hT : TabAt w0) (H : Holds w (base w0 :: L)) (hs : s < 18446744073709551616) :
    CT Tryd.prog 35 [.int .u64 (s : Int)] w fun u w' => u = .tuple #[.int .i64 (fstS s), .bool (decide (s ≠ 0))] ∧ Holds w' (base w0 :: L) := by
  refine CT.enter (N := 8) Tryd.func35 rfl rfl rfl rfl ?_
  refine W.seq (fun K0 hK0 => ?_)
  refine W.region ?_
  refine O.ex (Ex.assign rfl) rfl ?_
  refine O.ex (Ex.assign rfl) rfl ?_
  refine O.nil ?_
  refine hK0 _ _ _ ?_
  refine W.seq (fun K1 hK1 => ?_)
  refine W.seq (fun K2 hK2 => ?_)
  refine W.region ?_
  refine O.ex (Ex.move rfl) rfl ?_
  refine O.ex (Ex.eql64 _ 0 rfl rfl) rfl ?_
  refine O.nil ?_
  refine hK2 _ _ _ ?_
  first | refine W.cond_p rfl (fun h0 => ?_) (fun h0 => ?_) | refine W.cond_b rfl (fun h0 => ?_) (fun h0 => ?_)
  · refine W.seq (fun K3 hK3 => ?_)
    refine W.region ?_
    refine O.ex (Ex.assign rfl) rfl ?_
    refine O.ex (Ex.assign rfl) rfl ?_
    refine O.nil ?_
    refine hK3 _ _ _ ?_
    refine W.ret ?_
    try dsimp only [thenQ, blockQ, retQ]
    first | refine ⟨_, ⟨_, _, rfl, rfl, _, _, rfl, rfl, rfl⟩, ?_⟩ | (refine retD_mark ?_; intro w H; refine ⟨_, ⟨_, _, rfl, rfl, _, _, rfl, rfl, rfl⟩, ?_⟩) | (refine retD_mark2 ?_; intro w H; refine ⟨_, ⟨_, _, rfl, rfl, _, _, rfl, rfl, rfl⟩, ?_⟩)
    exact ⟨by simp [oneOf, fstS, h0], Holds.to (by assumption)⟩
  · refine W.skip ?_
    refine hK1 _ _ _ ?_
    refine W.seq (fun K4 hK4 => ?_)
    refine W.region ?_
    refine O.ex (Ex.move rfl) rfl ?_
    refine O.callF Tryd.call45 rfl rfl (CT.mono (tz_ct hT (Holds.to (by assumption)) hs h0) ?_)
    rintro _ w ⟨rfl, H⟩
    refine O.ex (Ex.assign rfl) rfl ?_
    refine O.ex (Ex.assign rfl) rfl ?_
    refine O.nil ?_
    refine hK4 _ _ _ ?_
    refine W.ret ?_
    try dsimp only [thenQ, blockQ, retQ]
    first | refine ⟨_, ⟨_, _, rfl, rfl, _, _, rfl, rfl, rfl⟩, ?_⟩ | (refine retD_mark ?_; intro w H; refine ⟨_, ⟨_, _, rfl, rfl, _, _, rfl, rfl, rfl⟩, ?_⟩) | (refine retD_mark2 ?_; intro w H; refine ⟨_, ⟨_, _, rfl, rfl, _, _, rfl, rfl, rfl⟩, ?_⟩)
    exact ⟨by simp [oneOf, fstS, h0], Holds.to (by assumption)⟩
theorem len_ct {w : World} {s : Nat} {L : List HProp} (H : Holds w L) (hs : s < 18446744073709551616) :
    CT Tryd.prog 22 [.int .u64 (s : Int)] w fun u w' => u = .int .i64 (pop s : Int) ∧ Holds w' L := by
  refine CT.enter (N := 5) Tryd.func22 rfl rfl rfl rfl ?_
  refine W.seq (fun K0 hK0 => ?_)
  refine W.region ?_
  refine O.ex (Ex.assign rfl) rfl ?_
  refine O.nil ?_
  refine hK0 _ _ _ ?_
  refine W.seq (fun K1 hK1 => ?_)
  refine W.region ?_
  refine O.ex (Ex.move rfl) rfl ?_
  refine O.callF Tryd.call39 rfl rfl (CT.mono (ones_ct (Holds.to (by assumption)) hs) ?_)
  rintro _ w ⟨rfl, H⟩
  refine O.ex (Ex.assign rfl) rfl ?_
  refine O.nil ?_
  refine hK1 _ _ _ ?_
  refine W.ret ?_
  try dsimp only [thenQ, blockQ, retQ]
  first | refine ⟨_, ⟨_, _, rfl, rfl, rfl⟩, ?_⟩ | (refine retD_mark ?_; intro w H; refine ⟨_, ⟨_, _, rfl, rfl, rfl⟩, ?_⟩) | (refine retD_mark2 ?_; intro w H; refine ⟨_, ⟨_, _, rfl, rfl, rfl⟩, ?_⟩)
  exact ⟨rfl, by first | assumption | exact Holds.to (by assumption)⟩
theorem has_ct {w : World} {s : Nat} {x : Int} {L : List HProp} (H : Holds w L) (hs : s < 18446744073709551616) :
    CT Tryd.prog 20 [.int .u64 (s : Int), .int .i64 x] w fun u w' => u = .bool (inS s x) ∧ Holds w' L := by
  have hb := bitN_lt x
  have hab := and_lt s (bitN x) hs
  refine CT.enter (N := 10) Tryd.func20 rfl rfl rfl rfl ?_
  refine W.seq (fun K0 hK0 => ?_)
  refine W.region ?_
  refine O.ex (Ex.assign rfl) rfl ?_
  refine O.nil ?_
  refine hK0 _ _ _ ?_
  refine W.seq (fun K1 hK1 => ?_)
  refine W.region ?_
  refine O.ex (Ex.move rfl) rfl ?_
  refine O.ex (Ex.move rfl) rfl ?_
  refine O.callF Tryd.call38 rfl rfl (CT.mono (bit_ct (Holds.to (by assumption))) ?_)
  rintro _ w ⟨rfl, H⟩
  refine O.ex (Ex.and64 _ _ rfl rfl) rfl ?_
  refine O.ex (Ex.neq64 _ 0 rfl rfl) rfl ?_
  refine O.ex (Ex.assign rfl) rfl ?_
  refine O.nil ?_
  refine hK1 _ _ _ ?_
  refine W.ret ?_
  try dsimp only [thenQ, blockQ, retQ]
  first | refine ⟨_, ⟨_, _, rfl, rfl, rfl⟩, ?_⟩ | (refine retD_mark ?_; intro w H; refine ⟨_, ⟨_, _, rfl, rfl, rfl⟩, ?_⟩) | (refine retD_mark2 ?_; intro w H; refine ⟨_, ⟨_, _, rfl, rfl, rfl⟩, ?_⟩)
  exact ⟨congrArg Value.bool (has_law s x hs), Holds.to (by assumption)⟩
theorem with_ct {w : World} {s : Nat} {x : Int} {L : List HProp} (H : Holds w L) (hs : s < 18446744073709551616) :
    CT Tryd.prog 19 [.int .u64 (s : Int), .int .i64 x] w fun u w' => u = .int .u64 ((s ||| bitN x : Nat) : Int) ∧ Holds w' L := by
  have hb := bitN_lt x
  refine CT.enter (N := 9) Tryd.func19 rfl rfl rfl rfl ?_
  refine W.seq (fun K0 hK0 => ?_)
  refine W.region ?_
  refine O.ex (Ex.assign rfl) rfl ?_
  refine O.nil ?_
  refine hK0 _ _ _ ?_
  refine W.seq (fun K1 hK1 => ?_)
  refine W.region ?_
  refine O.ex (Ex.move rfl) rfl ?_
  refine O.ex (Ex.move rfl) rfl ?_
  refine O.callF Tryd.call38 rfl rfl (CT.mono (bit_ct (Holds.to (by assumption))) ?_)
  rintro _ w ⟨rfl, H⟩
  refine O.ex (Ex.or64 _ _ rfl rfl) rfl ?_
  refine O.ex (Ex.assign rfl) rfl ?_
  refine O.nil ?_
  refine hK1 _ _ _ ?_
  refine W.ret ?_
  try dsimp only [thenQ, blockQ, retQ]
  first | refine ⟨_, ⟨_, _, rfl, rfl, rfl⟩, ?_⟩ | (refine retD_mark ?_; intro w H; refine ⟨_, ⟨_, _, rfl, rfl, rfl⟩, ?_⟩) | (refine retD_mark2 ?_; intro w H; refine ⟨_, ⟨_, _, rfl, rfl, rfl⟩, ?_⟩)
  exact ⟨rfl, by first | assumption | exact Holds.to (by assumption)⟩
theorem without_ct {w : World} {s : Nat} {x : Int} {L : List HProp} (H : Holds w L) (hs : s < 18446744073709551616) :
    CT Tryd.prog 21 [.int .u64 (s : Int), .int .i64 x] w fun u w' => u = .int .u64 ((s &&& (18446744073709551615 - bitN x) : Nat) : Int) ∧ Holds w' L := by
  have hb := bitN_lt x
  refine CT.enter (N := 9) Tryd.func21 rfl rfl rfl rfl ?_
  refine W.seq (fun K0 hK0 => ?_)
  refine W.region ?_
  refine O.ex (Ex.assign rfl) rfl ?_
  refine O.nil ?_
  refine hK0 _ _ _ ?_
  refine W.seq (fun K1 hK1 => ?_)
  refine W.region ?_
  refine O.ex (Ex.move rfl) rfl ?_
  refine O.ex (Ex.move rfl) rfl ?_
  refine O.callF Tryd.call38 rfl rfl (CT.mono (bit_ct (Holds.to (by assumption))) ?_)
  rintro _ w ⟨rfl, H⟩
  refine O.ex (Ex.andNot64 _ _ rfl rfl) rfl ?_
  refine O.ex (Ex.assign rfl) rfl ?_
  refine O.nil ?_
  refine hK1 _ _ _ ?_
  refine W.ret ?_
  try dsimp only [thenQ, blockQ, retQ]
  first | refine ⟨_, ⟨_, _, rfl, rfl, rfl⟩, ?_⟩ | (refine retD_mark ?_; intro w H; refine ⟨_, ⟨_, _, rfl, rfl, rfl⟩, ?_⟩) | (refine retD_mark2 ?_; intro w H; refine ⟨_, ⟨_, _, rfl, rfl, rfl⟩, ?_⟩)
  exact ⟨rfl, by first | assumption | exact Holds.to (by assumption)⟩
theorem below_ct {w : World} {n : Int} {L : List HProp} (H : Holds w L) :
    CT Tryd.prog 40 [.int .i64 n] w fun u w' => u = .int .u64 ((belN n : Nat) : Int) ∧ Holds w' L := by
  have hb := bitN_lt n
  refine CT.enter (N := 12) Tryd.func40 rfl rfl rfl rfl ?_
  refine W.seq (fun K0 hK0 => ?_)
  refine W.region ?_
  refine O.ex (Ex.assign rfl) rfl ?_
  refine O.nil ?_
  refine hK0 _ _ _ ?_
  refine W.seq (fun K1 hK1 => ?_)
  refine W.block ?_
  refine W.seq (fun K2 hK2 => ?_)
  refine W.region ?_
  refine O.ex (Ex.move rfl) rfl ?_
  refine O.ex (Ex.leq rfl rfl) rfl ?_
  refine O.ex (Ex.assign rfl) rfl ?_
  refine O.nil ?_
  refine hK2 _ _ _ ?_
  first | refine W.cond_p rfl (fun h0 => ?_) (fun h1 => ?_) | refine W.cond_b rfl (fun h0 => ?_) (fun h1 => ?_)
  · refine W.seq (fun K3 hK3 => ?_)
    refine W.region ?_
    refine O.ex (Ex.assign rfl) rfl ?_
    refine O.nil ?_
    refine hK3 _ _ _ ?_
    refine W.ret ?_
    try dsimp only [thenQ, blockQ, retQ]
    first | refine ⟨_, ⟨_, _, rfl, rfl, rfl⟩, ?_⟩ | (refine retD_mark ?_; intro w H; refine ⟨_, ⟨_, _, rfl, rfl, rfl⟩, ?_⟩) | (refine retD_mark2 ?_; intro w H; refine ⟨_, ⟨_, _, rfl, rfl, rfl⟩, ?_⟩)
    first
    | (refine ⟨?_, Holds.to (by assumption)⟩
       rw [show belN n = 0 from if_pos h0]; rfl)
    | (refine ⟨?_, Holds.to (by assumption)⟩
       rw [show belN n = 18446744073709551615 from by unfold belN; rw [if_neg (by omega), if_pos h2]]; rfl)
    | (refine ⟨?_, Holds.to (by assumption)⟩
       rw [show belN n = bitN n - 1 from by unfold belN; rw [if_neg (by omega), if_neg h3, hb1]]; rfl)
  · refine W.seq (fun K4 hK4 => ?_)
    refine W.region ?_
    refine O.ex (Ex.move rfl) rfl ?_
    refine O.ex (Ex.geq rfl rfl) rfl ?_
    refine O.ex (Ex.assign rfl) rfl ?_
    refine O.nil ?_
    refine hK4 _ _ _ ?_
    first | refine W.cond_p rfl (fun h2 => ?_) (fun h3 => ?_) | refine W.cond_b rfl (fun h2 => ?_) (fun h3 => ?_)
    · refine W.seq (fun K5 hK5 => ?_)
      refine W.region ?_
      refine O.ex (Ex.assign rfl) rfl ?_
      refine O.nil ?_
      refine hK5 _ _ _ ?_
      refine W.ret ?_
      try dsimp only [thenQ, blockQ, retQ]
      first | refine ⟨_, ⟨_, _, rfl, rfl, rfl⟩, ?_⟩ | (refine retD_mark ?_; intro w H; refine ⟨_, ⟨_, _, rfl, rfl, rfl⟩, ?_⟩) | (refine retD_mark2 ?_; intro w H; refine ⟨_, ⟨_, _, rfl, rfl, rfl⟩, ?_⟩)
      first
      | (refine ⟨?_, Holds.to (by assumption)⟩
         rw [show belN n = 0 from if_pos h0]; rfl)
      | (refine ⟨?_, Holds.to (by assumption)⟩
         rw [show belN n = 18446744073709551615 from by unfold belN; rw [if_neg (by omega), if_pos h2]]; rfl)
      | (refine ⟨?_, Holds.to (by assumption)⟩
         rw [show belN n = bitN n - 1 from by unfold belN; rw [if_neg (by omega), if_neg h3, hb1]]; rfl)
    · refine W.skip ?_
      refine hK1 _ _ _ ?_
      refine W.seq (fun K6 hK6 => ?_)
      refine W.region ?_
      refine O.ex (Ex.move rfl) rfl ?_
      refine O.callF Tryd.call38 rfl rfl (CT.mono (bit_ct (Holds.to (by assumption))) ?_)
      rintro _ w ⟨rfl, H⟩
      have hb1 : bitN n = 2 ^ n.toNat := if_pos (by omega)
      have hp := Nat.two_pow_pos n.toNat
      rw [← hb1] at hp
      refine O.ex (Ex.sub64 _ 1 rfl rfl) rfl ?_
      refine O.ex (Ex.assign rfl) rfl ?_
      refine O.nil ?_
      refine hK6 _ _ _ ?_
      refine W.ret ?_
      try dsimp only [thenQ, blockQ, retQ]
      first | refine ⟨_, ⟨_, _, rfl, rfl, rfl⟩, ?_⟩ | (refine retD_mark ?_; intro w H; refine ⟨_, ⟨_, _, rfl, rfl, rfl⟩, ?_⟩) | (refine retD_mark2 ?_; intro w H; refine ⟨_, ⟨_, _, rfl, rfl, rfl⟩, ?_⟩)
      first
      | (refine ⟨?_, Holds.to (by assumption)⟩
         rw [show belN n = 0 from if_pos h0]; rfl)
      | (refine ⟨?_, Holds.to (by assumption)⟩
         rw [show belN n = 18446744073709551615 from by unfold belN; rw [if_neg (by omega), if_pos h2]]; rfl)
      | (refine ⟨?_, Holds.to (by assumption)⟩
         rw [show belN n = bitN n - 1 from by unfold belN; rw [if_neg (by omega), if_neg h3, hb1]]; rfl)
def orL (xs : List Int) : Nat := xs.foldl (fun s x => s ||| bitN x) 0
theorem orL_aux (xs : List Int) : ∀ s, s < 18446744073709551616 → xs.foldl (fun s x => s ||| bitN x) s < 18446744073709551616 ∧ ∀ i, i < 64 → (xs.foldl (fun s x => s ||| bitN x) s).testBit i = (s.testBit i || decide ((i : Int) ∈ xs)) := by
  induction xs with
  | nil => intro s hs; exact ⟨hs, fun i _ => by simp⟩
  | cons x xs ih =>
    intro s hs
    obtain ⟨h1, h2⟩ := ih (s ||| bitN x) (or_lt _ _ hs (bitN_lt x))
    refine ⟨h1, fun i hi => ?_⟩
    rw [List.foldl_cons, h2 i hi, with_bit s x i hi, Bool.or_assoc]
    congr 1
    by_cases e : (i : Int) = x <;> simp [e]
theorem orL_lt (xs : List Int) : orL xs < 18446744073709551616 := (orL_aux xs 0 (by decide)).1
theorem orL_bit (xs : List Int) (i : Nat) (hi : i < 64) : (orL xs).testBit i = decide ((i : Int) ∈ xs) := by
  rw [orL, (orL_aux xs 0 (by decide)).2 i hi]; simp
theorem take_getB (xs : List Int) (i : Nat) (h : i < xs.length) : xs.take (i + 1) = xs.take i ++ [xs.getD i default] := by
  rw [List.take_succ_eq_append_getElem h]; simp [List.getD_eq_getElem?_getD, h]
theorem orL_succ (xs : List Int) (i : Nat) (h : i < xs.length) : orL (xs.take (i + 1)) = orL (xs.take i) ||| bitN (xs.getD i default) := by
  rw [take_getB xs i h]; unfold orL; rw [List.foldl_append]; rfl
/-- The document's: the numbers below 64 of a list. -/
def ofL (xs : List Int) : Nat := sumP (fun i : Nat => decide ((i : Int) ∈ xs)) 64
theorem ofL_lt (xs : List Int) : ofL xs < 18446744073709551616 := sumP_lt _ 64
theorem ofL_bit (xs : List Int) (i : Nat) (hi : i < 64) : (ofL xs).testBit i = decide ((i : Int) ∈ xs) := by
  unfold ofL; rw [sumP_bit, decide_eq_true hi, Bool.true_and]
theorem orL_ofL (xs : List Int) : orL xs = ofL xs := set_eq _ _ (orL_lt xs) (ofL_lt xs) fun i hi => by rw [orL_bit xs i hi, ofL_bit xs i hi]
theorem mem_take (xs : List Int) (x : Int) (i : Nat) (h : i < xs.length) : x ∈ xs.take (i + 1) ↔ x ∈ xs.take i ∨ xs.getD i default = x := by
  rw [take_getB xs i h, List.mem_append, List.mem_singleton]; exact or_congr Iff.rfl eq_comm
theorem ofA_ct {w  : World} {v : Value} {xs : List Int} {L : List HProp} (H : Holds w (arr 3 (Value.int .i64) v xs :: L)) (hl : xs.length ≤ 9223372036854775807) :
    CT Tryd.prog 36 [v] w fun u w' => u = .int .u64 ((orL xs : Nat) : Int) ∧ Holds w' (arr 3 (Value.int .i64) v xs :: L) := by
  refine CT.enter (N := 18) Tryd.func36 rfl rfl rfl rfl ?_
  refine W.seq (fun K0 hK0 => ?_)
  refine W.region ?_
  refine O.ex (Ex.assign rfl) rfl ?_
  refine O.nil ?_
  refine hK0 _ _ _ ?_
  refine W.seq (fun K1 hK1 => ?_)
  refine W.region ?_
  refine O.ex (Ex.assign rfl) rfl ?_
  refine O.nil ?_
  refine hK1 _ _ _ ?_
  refine W.seq (fun K2 hK2 => ?_)
  refine W.seq (fun K3 hK3 => ?_)
  refine W.region ?_
  refine O.ex (Ex.move rfl) rfl ?_
  refine O.ex (by first | exact Ex.lenR Tryd.runUnderlying22 rfl | exact Ex.lenIn Tryd.runUnderlying22 rfl | exact Ex.lenL Tryd.runUnderlying22 rfl | exact Ex.len rfl Tryd.runUnderlying22 rfl) rfl ?_
  refine O.ex (Ex.move rfl) rfl ?_
  refine O.nil ?_
  refine hK3 _ _ _ ?_
  refine W.block ?_
  refine W.loop (σ := Nat) (fun i => [(3, .int .u64 ((orL (xs.take i) : Nat) : Int)), (6, v), (7, .int .i64 xs.length), (8, .int .i64 (i : Int))]) (fun i ds w => ds = [] ∧ i ≤ xs.length ∧ Holds w (arr 3 (Value.int .i64) v xs :: L)) (fun i => xs.length - i) 0 ⟨by rw [List.take_zero]; rfl, rfl, rfl, rfl, trivial⟩ ⟨rfl, by omega, Holds.to (by assumption)⟩ ?_
  clear H
  rintro i _ w ⟨rfl, hi, H⟩
  have ho := orL_lt (xs.take i)
  have hb := bitN_lt (xs.getD ((i : Nat) : Int).toNat default)
  refine W.seq (fun K4 hK4 => ?_)
  refine W.region ?_
  refine O.ex (Ex.lss rfl rfl) rfl ?_
  refine O.nil ?_
  refine hK4 _ _ _ ?_
  refine W.seq (fun K5 hK5 => ?_)
  first | refine W.cond_p rfl (fun hlt => ?_) (fun hge => ?_) | refine W.cond_b rfl (fun hlt => ?_) (fun hge => ?_)
  · refine W.skip ?_
    refine hK5 _ _ _ ?_
    refine W.seq (fun K6 hK6 => ?_)
    refine W.block ?_
    refine W.seq (fun K7 hK7 => ?_)
    refine W.region ?_
    refine O.ex (by first | exact Ex.idxR Tryd.runUnderlying22 Tryd.sizeOf3 rfl rfl | exact Ex.idxIn Tryd.runUnderlying22 Tryd.sizeOf3 rfl rfl | exact Ex.idxS Tryd.runUnderlying22 Tryd.sizeOf3 rfl rfl | exact Ex.idx Tryd.runUnderlying22 Tryd.sizeOf3 rfl rfl (by omega) (by omega)) rfl ?_
    refine O.ex (by first | exact Ex.loadP Tryd.isAgg3 rfl | exact Ex.loadR Tryd.isAgg3 rfl | exact Ex.loadIn1 Tryd.isAgg3 rfl (Holds.to (by assumption))) rfl ?_
    refine O.ex (Ex.assign rfl) rfl ?_
    refine O.nil ?_
    refine hK7 _ _ _ ?_
    refine W.region ?_
    refine O.ex (Ex.move rfl) rfl ?_
    refine O.ex (Ex.move rfl) rfl ?_
    refine O.callF Tryd.call38 rfl rfl (CT.mono (bit_ct (Holds.to (by assumption))) ?_)
    rintro _ w ⟨rfl, H⟩
    refine O.ex (Ex.or64 _ _ rfl rfl) rfl ?_
    refine O.ex (Ex.assign rfl) rfl ?_
    refine O.nil ?_
    refine hK6 _ _ _ ?_
    refine W.region ?_
    refine O.ex (by first | exact Ex.addI rfl rfl | exact Ex.add rfl rfl rfl) rfl ?_
    refine O.ex (Ex.move rfl) rfl ?_
    refine O.nil ?_
    exact ⟨i + 1, ⟨by rw [orL_succ xs i (by omega)]; rfl, rfl, rfl, rfl, trivial⟩, ⟨rfl, by omega, Holds.to (by assumption)⟩, by omega⟩
  · refine W.exit ?_
    refine hK2 _ _ _ ?_
    refine W.seq (fun K8 hK8 => ?_)
    refine W.region ?_
    refine O.ex (Ex.move rfl) rfl ?_
    refine O.ex (Ex.assign rfl) rfl ?_
    refine O.nil ?_
    refine hK8 _ _ _ ?_
    refine W.ret ?_
    try dsimp only [thenQ, blockQ, retQ]
    first | refine ⟨_, ⟨_, _, rfl, rfl, rfl⟩, ?_⟩ | (refine retD_mark ?_; intro w H; refine ⟨_, ⟨_, _, rfl, rfl, rfl⟩, ?_⟩) | (refine retD_mark2 ?_; intro w H; refine ⟨_, ⟨_, _, rfl, rfl, rfl⟩, ?_⟩)
    obtain rfl : i = xs.length := by omega
    exact ⟨by rw [List.take_length]; rfl, Holds.to (by assumption)⟩
theorem ofI_ct {w w0 : World} {v : Value} {xs : List Int} {L : List HProp} (hx : SlIn w0 1 (fun s : Int => [.int .i64 s]) v xs) (H : Holds w (base w0 :: L)) (hl : xs.length ≤ 9223372036854775807) :
    CT Tryd.prog 36 [v] w fun u w' => u = .int .u64 ((orL xs : Nat) : Int) ∧ Holds w' (base w0 :: L) := by
  refine CT.enter (N := 18) Tryd.func36 rfl rfl rfl rfl ?_
  refine W.seq (fun K0 hK0 => ?_)
  refine W.region ?_
  refine O.ex (Ex.assign rfl) rfl ?_
  refine O.nil ?_
  refine hK0 _ _ _ ?_
  refine W.seq (fun K1 hK1 => ?_)
  refine W.region ?_
  refine O.ex (Ex.assign rfl) rfl ?_
  refine O.nil ?_
  refine hK1 _ _ _ ?_
  refine W.seq (fun K2 hK2 => ?_)
  refine W.seq (fun K3 hK3 => ?_)
  refine W.region ?_
  refine O.ex (Ex.move rfl) rfl ?_
  refine O.ex (by first | exact Ex.lenR Tryd.runUnderlying22 rfl | exact Ex.lenIn Tryd.runUnderlying22 rfl | exact Ex.lenL Tryd.runUnderlying22 rfl | exact Ex.len rfl Tryd.runUnderlying22 rfl) rfl ?_
  refine O.ex (Ex.move rfl) rfl ?_
  refine O.nil ?_
  refine hK3 _ _ _ ?_
  refine W.block ?_
  refine W.loop (σ := Nat) (fun i => [(3, .int .u64 ((orL (xs.take i) : Nat) : Int)), (6, v), (7, .int .i64 xs.length), (8, .int .i64 (i : Int))]) (fun i ds w => ds = [] ∧ i ≤ xs.length ∧ Holds w (base w0 :: L)) (fun i => xs.length - i) 0 ⟨by rw [List.take_zero]; rfl, rfl, rfl, rfl, trivial⟩ ⟨rfl, by omega, Holds.to (by assumption)⟩ ?_
  clear H
  rintro i _ w ⟨rfl, hi, H⟩
  have ho := orL_lt (xs.take i)
  have hb := bitN_lt (xs.getD ((i : Nat) : Int).toNat default)
  refine W.seq (fun K4 hK4 => ?_)
  refine W.region ?_
  refine O.ex (Ex.lss rfl rfl) rfl ?_
  refine O.nil ?_
  refine hK4 _ _ _ ?_
  refine W.seq (fun K5 hK5 => ?_)
  first | refine W.cond_p rfl (fun hlt => ?_) (fun hge => ?_) | refine W.cond_b rfl (fun hlt => ?_) (fun hge => ?_)
  · refine W.skip ?_
    refine hK5 _ _ _ ?_
    refine W.seq (fun K6 hK6 => ?_)
    refine W.block ?_
    refine W.seq (fun K7 hK7 => ?_)
    refine W.region ?_
    refine O.ex (by first | exact Ex.idxR Tryd.runUnderlying22 Tryd.sizeOf3 rfl rfl | exact Ex.idxIn Tryd.runUnderlying22 Tryd.sizeOf3 rfl rfl | exact Ex.idxS Tryd.runUnderlying22 Tryd.sizeOf3 rfl rfl | exact Ex.idx Tryd.runUnderlying22 Tryd.sizeOf3 rfl rfl (by omega) (by omega)) rfl ?_
    refine O.ex (by first | exact Ex.loadP Tryd.isAgg3 rfl | exact Ex.loadR Tryd.isAgg3 rfl | exact Ex.loadIn1 Tryd.isAgg3 rfl (Holds.to (by assumption))) rfl ?_
    refine O.ex (Ex.assign rfl) rfl ?_
    refine O.nil ?_
    refine hK7 _ _ _ ?_
    refine W.region ?_
    refine O.ex (Ex.move rfl) rfl ?_
    refine O.ex (Ex.move rfl) rfl ?_
    refine O.callF Tryd.call38 rfl rfl (CT.mono (bit_ct (Holds.to (by assumption))) ?_)
    rintro _ w ⟨rfl, H⟩
    refine O.ex (Ex.or64 _ _ rfl rfl) rfl ?_
    refine O.ex (Ex.assign rfl) rfl ?_
    refine O.nil ?_
    refine hK6 _ _ _ ?_
    refine W.region ?_
    refine O.ex (by first | exact Ex.addI rfl rfl | exact Ex.add rfl rfl rfl) rfl ?_
    refine O.ex (Ex.move rfl) rfl ?_
    refine O.nil ?_
    exact ⟨i + 1, ⟨by rw [orL_succ xs i (by omega)]; rfl, rfl, rfl, rfl, trivial⟩, ⟨rfl, by omega, Holds.to (by assumption)⟩, by omega⟩
  · refine W.exit ?_
    refine hK2 _ _ _ ?_
    refine W.seq (fun K8 hK8 => ?_)
    refine W.region ?_
    refine O.ex (Ex.move rfl) rfl ?_
    refine O.ex (Ex.assign rfl) rfl ?_
    refine O.nil ?_
    refine hK8 _ _ _ ?_
    refine W.ret ?_
    try dsimp only [thenQ, blockQ, retQ]
    first | refine ⟨_, ⟨_, _, rfl, rfl, rfl⟩, ?_⟩ | (refine retD_mark ?_; intro w H; refine ⟨_, ⟨_, _, rfl, rfl, rfl⟩, ?_⟩) | (refine retD_mark2 ?_; intro w H; refine ⟨_, ⟨_, _, rfl, rfl, rfl⟩, ?_⟩)
    obtain rfl : i = xs.length := by omega
    exact ⟨by rw [List.take_length]; rfl, Holds.to (by assumption)⟩
/-- A set's numbers below n, as the document lists them. -/
def lstN (s n : Nat) : List Int := ((List.range n).filter s.testBit).map Int.ofNat
def lstI (s : Nat) : List Int := (lst s).map Int.ofNat
theorem lstN_64 (s : Nat) : lstN s 64 = lstI s := rfl
theorem lstN_t (s n : Nat) (h : s.testBit n = true) : lstN s (n + 1) = lstN s n ++ [(n : Int)] := by
  unfold lstN; rw [List.range_succ, List.filter_append, List.map_append]; simp [h]
theorem lstN_f (s n : Nat) (h : ¬ s.testBit n = true) : lstN s (n + 1) = lstN s n := by
  unfold lstN; rw [List.range_succ, List.filter_append, List.map_append]; simp [h]
theorem lstN_le (s n : Nat) : (lstN s n).length ≤ n := by
  unfold lstN; rw [List.length_map]; exact Nat.le_trans (List.length_filter_le _ _) (by simp)
theorem lstI_le (s : Nat) : (lstI s).length ≤ 64 := lstN_le s 64
theorem lst_le (s : Nat) : (lst s).length ≤ 64 := by have := lstI_le s; simpa [lstI] using this
theorem inS_nat (s i : Nat) (h : i < 64) : inS s (i : Int) = s.testBit i := by
  unfold inS; rw [decide_eq_true (by omega), Bool.true_and, Int.toNat_natCast]
def capB (c s : Nat) : HProp := pt c (.cells #[.int .u64 (s : Int)] 41 (0, 0))
theorem all_ct {w : World} {s : Nat} {L : List HProp} (H : Holds w L) :
    CT Tryd.prog 34 [.int .u64 (s : Int)] w fun u w' => ∃ c, u = .func (.func 44) #[] #[.pointer (some ⟨c, 0, none⟩)] ∧ Holds w' (capB c s :: L) := by
  refine CT.enter (N := 4) Tryd.func34 rfl rfl rfl rfl ?_
  refine W.seq (fun K0 hK0 => ?_)
  refine W.region ?_
  refine O.boxP rfl (fun b1 w H => ?_)
  refine O.ex (Ex.assign rfl) rfl ?_
  refine O.nil ?_
  refine hK0 _ _ _ ?_
  refine W.seq (fun K1 hK1 => ?_)
  refine W.region ?_
  refine O.ex (Ex.makeFunc rfl rfl) rfl ?_
  refine O.ex (Ex.assign rfl) rfl ?_
  refine O.nil ?_
  refine hK1 _ _ _ ?_
  refine W.ret ?_
  try dsimp only [thenQ, blockQ, retQ]
  first | refine ⟨_, ⟨_, _, rfl, rfl, rfl⟩, ?_⟩ | (refine retD_mark ?_; intro w H; refine ⟨_, ⟨_, _, rfl, rfl, rfl⟩, ?_⟩) | (refine retD_mark2 ?_; intro w H; refine ⟨_, ⟨_, _, rfl, rfl, rfl⟩, ?_⟩)
  exact ⟨_, rfl, Holds.to (by assumption)⟩
/-- What a set's iterator tells. -/
theorem all1_ct {w w0 : World} {c s : Nat} {fv : Value} {J : Nat → List HProp} {φ : Nat → Prop} {S : World → Prop} (hT : TabAt w0) (hs : s < 18446744073709551616) (hφ : φ 0)
    (H : Holds w (base w0 :: capB c s :: J 0))
    (hy : ∀ (j : Nat) w, j < (lst s).length → φ j → Holds w (base w0 :: capB c s :: J j) →
      VT Tryd.prog fv [.int .i64 (((lst s).getD j default : Nat) : Int)] w fun u w' => (u = .bool true ∧ φ (j + 1) ∧ Holds w' (base w0 :: capB c s :: J (j + 1))) ∨ (u = .bool false ∧ S w')) :
    CT Tryd.prog 44 [fv, .pointer (some ⟨c, 0, none⟩)] w fun _ w' => (φ (lst s).length ∧ Holds w' (base w0 :: capB c s :: J (lst s).length)) ∨ S w' := by
  have H := H.swap
  unfold capB at H
  refine CT.enter (N := 22) Tryd.func44 rfl rfl rfl rfl ?_
  refine W.seq (fun K0 hK0 => ?_)
  refine W.region ?_
  refine O.ex (by first | exact Ex.loadP Tryd.isAgg41 rfl | exact Ex.loadR Tryd.isAgg41 rfl | exact Ex.loadIn1 Tryd.isAgg41 rfl (Holds.to (by assumption))) rfl ?_
  refine O.ex (Ex.assign rfl) rfl ?_
  refine O.nil ?_
  refine hK0 _ _ _ ?_
  refine W.block ?_
  refine W.loop (σ := Nat × Nat) (fun i => [(0, fv), (3, .int .u64 (i.2 : Int))]) (fun i ds w => ds = [] ∧ i.2 < 18446744073709551616 ∧ lst i.2 = (lst s).drop i.1 ∧ i.1 ≤ (lst s).length ∧ φ i.1 ∧ Holds w (base w0 :: capB c s :: J i.1)) (fun i => (lst s).length - i.1) (0, s) ⟨rfl, rfl, trivial⟩ ⟨rfl, hs, rfl, by simp, hφ, Holds.to (by assumption)⟩ ?_
  clear H
  rintro ⟨j, y⟩ _ w ⟨rfl, hyl, hyd, hjl, hφj, H⟩
  dsimp only at hyl hyd hjl hφj H
  dsimp only
  refine W.seq (fun K1 hK1 => ?_)
  refine W.seq (fun K2 hK2 => ?_)
  refine W.region ?_
  refine O.ex (Ex.move rfl) rfl ?_
  refine O.ex (Ex.neq64 _ 0 rfl rfl) rfl ?_
  refine O.nil ?_
  refine hK2 _ _ _ ?_
  first | refine W.cond_p rfl (fun hne => ?_) (fun heq => ?_) | refine W.cond_b rfl (fun hne => ?_) (fun heq => ?_)
  · refine W.skip ?_
    refine hK1 _ _ _ ?_
    refine W.seq (fun K3 hK3 => ?_)
    refine W.block ?_
    refine W.seq (fun K4 hK4 => ?_)
    refine W.region ?_
    have hne' : y ≠ 0 := hne
    have hcons := lst_cons y hne' hyl
    rw [hyd] at hcons
    have hj : j < (lst s).length := by
      rcases Nat.lt_or_ge j (lst s).length with h | h
      · exact h
      · rw [List.drop_eq_nil_of_le h] at hcons; cases hcons
    have hget : (lst s).getD j default = Lib.ctz 64 y := by
      have := congrArg (fun l : List Nat => l.head?) hcons
      simp only [List.head?_drop, List.head?_cons] at this
      rw [List.getD_eq_getElem?_getD, this]; rfl
    have hnext : lst (y &&& (y - 1)) = (lst s).drop (j + 1) := by
      have := congrArg List.tail hcons
      rw [List.tail_drop, List.tail_cons] at this; exact this.symm
    have hnl := and_lt y (y - 1) hyl
    have hfst : fstS y = (((lst s).getD j default : Nat) : Int) := by unfold fstS; rw [if_neg hne', hget]
    refine O.ex (Ex.move rfl) rfl ?_
    refine O.callF Tryd.call35 rfl rfl (CT.mono (first_ct hT (Holds.to (by assumption)) hyl) ?_)
    rintro _ w ⟨rfl, H⟩
    rw [hfst]
    refine O.ex (Ex.move rfl) rfl ?_
    refine O.ex (Ex.extract rfl rfl) rfl ?_
    refine O.ex (Ex.extract rfl rfl) rfl ?_
    refine O.ex (Ex.assign rfl) rfl ?_
    refine O.ex (Ex.assign rfl) rfl ?_
    refine O.nil ?_
    refine hK4 _ _ _ ?_
    refine W.seq (fun K5 hK5 => ?_)
    refine W.region ?_
    refine O.ex (Ex.move rfl) rfl ?_
    refine O.ex (Ex.move rfl) rfl ?_
    refine O.callVT rfl rfl rfl (VT.mono (hy j w hj hφj (Holds.to (by assumption))) ?_)
    rintro _ w hh
    obtain (⟨rfl, hφ2, H⟩ | ⟨rfl, H⟩) := hh
    · refine O.ex (by first | exact Ex.notD rfl | exact Ex.not rfl) rfl ?_
      refine O.nil ?_
      refine hK5 _ _ _ ?_
      refine W.known_f rfl (by first | rfl | decide | (simp; done) | omega) ?_
      refine W.skip ?_
      refine hK3 _ _ _ ?_
      refine W.region ?_
      refine O.ex (Ex.move rfl) rfl ?_
      refine O.ex (Ex.move rfl) rfl ?_
      refine O.ex (Ex.sub64 _ 1 rfl rfl) rfl ?_
      refine O.ex (Ex.and64 _ _ rfl rfl) rfl ?_
      refine O.ex (Ex.assign rfl) rfl ?_
      refine O.nil ?_
      exact ⟨(j + 1, y &&& (y - 1)), ⟨rfl, rfl, trivial⟩, ⟨rfl, hnl, hnext, hj, hφ2, Holds.to (by assumption)⟩, by dsimp only; omega⟩
    · refine O.ex (by first | exact Ex.notD rfl | exact Ex.not rfl) rfl ?_
      refine O.nil ?_
      refine hK5 _ _ _ ?_
      refine W.known_t rfl (by first | rfl | decide | (simp; done) | omega) ?_
      refine W.ret ?_
      try dsimp only [thenQ, blockQ, retQ]
      first | refine ⟨_, rfl, ?_⟩ | (refine retD_mark ?_; intro w H; refine ⟨_, rfl, ?_⟩) | (refine retD_mark2 ?_; intro w H; refine ⟨_, rfl, ?_⟩)
      first
      | exact .inr H
      | (obtain rfl : j = (lst s).length := by
           have h0 : y = 0 := by simpa using heq
           rw [h0, lst_zero] at hyd
           have := (List.drop_eq_nil_iff).1 hyd.symm
           omega
         exact .inl ⟨hφj, Holds.to (by assumption)⟩)
  · refine W.exit ?_
    try dsimp only [thenQ, blockQ, retQ]
    first | refine ⟨_, rfl, ?_⟩ | (refine retD_mark ?_; intro w H; refine ⟨_, rfl, ?_⟩) | (refine retD_mark2 ?_; intro w H; refine ⟨_, rfl, ?_⟩)
    first
    | exact .inr H
    | (obtain rfl : j = (lst s).length := by
         have h0 : y = 0 := by simpa using heq
         rw [h0, lst_zero] at hyd
         have := (List.drop_eq_nil_iff).1 hyd.symm
         omega
       exact .inl ⟨hφj, Holds.to (by assumption)⟩)
theorem lstI_get (s j : Nat) (h : j < (lst s).length) : (((lst s).getD j default : Nat) : Int) = (lstI s).getD j default := by
  simp [lstI, List.getD_eq_getElem?_getD, h]
theorem lstI_len (s : Nat) : (lstI s).length = (lst s).length := by simp [lstI]
end Go.Proofs.YtgbhccpjpimgfaaDoor

