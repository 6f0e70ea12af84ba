import Derived.Test.YthpmohkmjfhmmaaPerm2
namespace Go.Proofs.Ythpmohkmjfhmmaa
open Go.Rr Go
set_option linter.unusedVariables false
/-- Ranks that are told, as far as place i. -/
def rkS (g : Int → Int) (k i : Nat) : List Int := (rng k).map fun v : Int => if v < (i : Int) then g v else 0
theorem rkS_len (g : Int → Int) (k i : Nat) : (rkS g k i).length = k := by simp [rkS, rng_len]
theorem rkS_get (g : Int → Int) (k i j : Nat) (h : j < k) : (rkS g k i).getD j default = if j < i then g j else 0 := by
  rw [getD_lt _ _ (by rw [rkS_len]; exact h)]
  have := rng_get k j h
  rw [getD_lt _ _ (by rw [rng_len]; exact h)] at this
  simp only [rkS, List.getElem_map, this]
  by_cases e : j < i
  · rw [if_pos e, if_pos (by omega)]
  · rw [if_neg e, if_neg (by omega)]
theorem rkS_zero (g : Int → Int) (k : Nat) : rkS g k 0 = List.replicate k 0 := by
  refine ext_getD _ _ (by rw [rkS_len, List.length_replicate]) fun j hj => ?_
  rw [rkS_len] at hj
  rw [rkS_get g k 0 j hj, if_neg (by omega), getD_lt _ _ (by rw [List.length_replicate]; exact hj), List.getElem_replicate]
theorem rkS_step (g : Int → Int) (k i : Nat) (h : i < k) : (rkS g k i).set i (g i) = rkS g k (i + 1) := by
  refine ext_getD _ _ (by rw [List.length_set, rkS_len, rkS_len]) fun j hj => ?_
  rw [List.length_set, rkS_len] at hj
  rw [getD_set _ _ _ _ (by rw [rkS_len]; exact h), rkS_get g k i j hj, rkS_get g k (i + 1) j hj]
  by_cases e : j = i
  · subst e; rw [if_pos rfl, if_pos (by omega)]
  · rw [if_neg e]
    by_cases e2 : j < i
    · rw [if_pos e2, if_pos (by omega)]
    · rw [if_neg e2, if_neg (by omega)]
theorem rkS_all (g : Int → Int) (k : Nat) : rkS g k k = (rng k).map g := by
  unfold rkS
  apply List.map_congr_left
  intro v hv
  rw [if_pos (mem_rng.1 hv).2]
theorem toBack {w : World} {B : HProp} {L : List HProp} (H : Holds w (B :: L)) : Holds w (L ++ [B]) := by
  have := sep_back L.length L _ _ (Nat.le_refl _) H
  rw [List.insertIdx_length_self] at this
  exact this
theorem toFront {w : World} {B : HProp} {L : List HProp} (H : Holds w (L ++ [B])) : Holds w (B :: L) := by
  have := Holds.front (A := B) L.length H (by simp)
  rw [List.eraseIdx_append_of_length_le (Nat.le_refl _), Nat.sub_self] at this
  simpa using this
theorem ranked_ct {w : World} {n : Int} {fv : Value} {g : Int → Int} {F L : List HProp} (hF : F = L)
    (hf : ∀ (i : Nat) w (M : List HProp), (i : Int) < hl n → Holds w (L ++ M) → VT Try.prog fv [.int .i64 (i : Int)] w fun u w' => u = .int .i64 (g i) ∧ Holds w' (L ++ M)) (H : Holds w L) :
    CT Try.prog 48 [.int .i64 n, fv] w fun u w' => u.oneCell' = true ∧ Holds w' (arr 3 (Value.int .i64) u ((rng (hl n).toNat).map g) :: L) := by
  obtain ⟨h0, h1⟩ := hl_rng n
  refine CT.enter (N := 23) Try.func48 rfl rfl rfl rfl ?_
  refine W.seq (fun K0 hK0 => ?_)
  refine W.region ?_
  refine O.ex (Ex.assign rfl) rfl ?_
  refine O.nil ?_
  refine hK0 _ _ _ ?_
  refine W.seq (fun K1 hK1 => ?_)
  refine W.region ?_
  refine O.ex (Ex.move rfl) rfl ?_
  refine O.callF Try.call44 rfl rfl (CT.mono (held_ct (Holds.to (by assumption))) ?_)
  rintro _ w ⟨rfl, H⟩
  refine O.makeR (0 : Int) (e := Value.int .i64) (bt := 8) Try.runUnderlying22 Try.sizeOf3 Try.zeroValue3 Try.typeInfo3 rfl rfl rfl (fun s9 w hs9 H => ?_)
  refine O.ex (Ex.assign rfl) rfl ?_
  refine O.nil ?_
  refine hK1 _ _ _ ?_
  refine W.seq (fun K2 hK2 => ?_)
  refine W.seq (fun K3 hK3 => ?_)
  refine W.region ?_
  refine O.ex (Ex.move rfl) rfl ?_
  refine O.ex (by first | exact Ex.lenR Try.runUnderlying22 rfl | exact Ex.lenIn Try.runUnderlying22 rfl | exact Ex.lenL Try.runUnderlying22 rfl | exact Ex.len rfl Try.runUnderlying22 rfl) rfl ?_
  refine O.ex (Ex.move rfl) rfl ?_
  refine O.nil ?_
  refine hK3 _ _ _ ?_
  refine W.block ?_
  have hk : ((List.replicate (hl n).toNat (0 : Int)).length : Int) = hl n := by rw [List.length_replicate]; omega
  rw [hk]
  have H : Holds w (arr 3 (Value.int .i64) s9 (rkS g (hl n).toNat 0) :: L) := by rw [rkS_zero]; exact H
  refine W.loop (σ := Nat) (fun i => [(1, fv), (5, s9), (11, .int .i64 (hl n)), (12, .int .i64 (i : Int))]) (fun i ds w => ds = [] ∧ (i : Int) ≤ hl n ∧ Holds w (arr 3 (Value.int .i64) s9 (rkS g (hl n).toNat i) :: L)) (fun i => (hl n).toNat - i) 0 ⟨rfl, rfl, rfl, rfl, trivial⟩ ⟨rfl, by omega, Holds.to (by assumption)⟩ ?_
  clear H
  rintro i _ w ⟨rfl, hi, H⟩
  have hsl := rkS_len g (hl n).toNat i
  refine W.seq (fun K4 hK4 => ?_)
  refine W.region ?_
  refine O.ex (Ex.lss rfl rfl) rfl ?_
  refine O.nil ?_
  refine hK4 _ _ _ ?_
  refine W.seq (fun K5 hK5 => ?_)
  first | refine W.cond_p rfl (fun hlt => ?_) (fun hge => ?_) | refine W.cond_b rfl (fun hlt => ?_) (fun hge => ?_)
  · refine W.skip ?_
    refine hK5 _ _ _ ?_
    refine W.seq (fun K6 hK6 => ?_)
    refine W.block ?_
    refine W.seq (fun K7 hK7 => ?_)
    refine W.region ?_
    refine O.ex (Ex.move rfl) rfl ?_
    refine O.ex (Ex.assign rfl) rfl ?_
    refine O.nil ?_
    refine hK7 _ _ _ ?_
    refine W.region ?_
    refine O.ex (Ex.move rfl) rfl ?_
    refine O.ex (Ex.move rfl) rfl ?_
    refine O.ex (Ex.move rfl) rfl ?_
    refine O.ex (Ex.move rfl) rfl ?_
    refine O.callVT rfl rfl rfl (VT.mono (hf i w [arr 3 (Value.int .i64) s9 (rkS g (hl n).toNat i)] hlt (toBack H)) ?_)
    rintro _ w ⟨rfl, H⟩
    have H := toFront H
    refine O.ex (by first | exact Ex.idxR Try.runUnderlying22 Try.sizeOf3 rfl rfl | exact Ex.idxIn Try.runUnderlying22 Try.sizeOf3 rfl rfl | exact Ex.idxS Try.runUnderlying22 Try.sizeOf3 rfl rfl | exact Ex.idx Try.runUnderlying22 Try.sizeOf3 rfl rfl (by omega) (by omega)) rfl ?_
    first | refine O.storeP Try.sizeOf3 rfl rfl (fun w H => ?_) | refine O.storeR Try.sizeOf3 rfl rfl (fun w H => ?_)
    refine O.nil ?_
    refine hK6 _ _ _ ?_
    refine W.region ?_
    refine O.ex (by first | exact Ex.addI rfl rfl | exact Ex.add rfl rfl rfl) rfl ?_
    refine O.ex (Ex.move rfl) rfl ?_
    refine O.nil ?_
    rw [show (rkS g (hl n).toNat i).set ((i : Nat) : Int).toNat (g i) = rkS g (hl n).toNat (i + 1) from rkS_step g _ i (by omega)] at H
    exact ⟨i + 1, ⟨rfl, rfl, rfl, rfl, trivial⟩, ⟨rfl, by omega, Holds.to (by assumption)⟩, by omega⟩
  · refine W.exit ?_
    refine hK2 _ _ _ ?_
    refine W.seq (fun K8 hK8 => ?_)
    refine W.region ?_
    refine O.ex (Ex.move rfl) rfl ?_
    refine O.ex (Ex.assign rfl) rfl ?_
    refine O.nil ?_
    refine hK8 _ _ _ ?_
    refine W.ret ?_
    try dsimp only [thenQ, blockQ, retQ]
    first | refine ⟨_, ⟨_, _, rfl, rfl, rfl⟩, ?_⟩ | (refine retD_mark ?_; intro w H; refine ⟨_, ⟨_, _, rfl, rfl, rfl⟩, ?_⟩) | (refine retD_mark2 ?_; intro w H; refine ⟨_, ⟨_, _, rfl, rfl, rfl⟩, ?_⟩)
    obtain rfl : i = (hl n).toNat := by omega
    rw [rkS_all] at H
    exact ⟨by assumption, H⟩
theorem rising1_ct {w : World} {i : Int} {L : List HProp} (H : Holds w L) : CT Try.prog 49 [.int .i64 i] w fun u w' => u = .int .i64 i ∧ Holds w' L := by
  refine CT.enter (N := 4) Try.func49 rfl rfl rfl rfl ?_
  refine W.seq (fun K0 hK0 => ?_)
  refine W.region ?_
  refine O.ex (Ex.assign rfl) rfl ?_
  refine O.nil ?_
  refine hK0 _ _ _ ?_
  refine W.seq (fun K1 hK1 => ?_)
  refine W.region ?_
  refine O.ex (Ex.move rfl) rfl ?_
  refine O.ex (Ex.assign rfl) rfl ?_
  refine O.nil ?_
  refine hK1 _ _ _ ?_
  refine W.ret ?_
  try dsimp only [thenQ, blockQ, retQ]
  first | refine ⟨_, ⟨_, _, rfl, rfl, rfl⟩, ?_⟩ | (refine retD_mark ?_; intro w H; refine ⟨_, ⟨_, _, rfl, rfl, rfl⟩, ?_⟩) | (refine retD_mark2 ?_; intro w H; refine ⟨_, ⟨_, _, rfl, rfl, rfl⟩, ?_⟩)
  exact ⟨rfl, by first | assumption | exact Holds.to (by assumption)⟩
theorem rising_ct {w : World} {n : Int} {L : List HProp} (H : Holds w L) : CT Try.prog 23 [.int .i64 n] w fun u w' => u.oneCell' = true ∧ Holds w' (arr 3 (Value.int .i64) u (rng (hl n).toNat) :: L) := by
  refine CT.enter (N := 5) Try.func23 rfl rfl rfl rfl ?_
  refine W.seq (fun K0 hK0 => ?_)
  refine W.region ?_
  refine O.ex (Ex.assign rfl) rfl ?_
  refine O.nil ?_
  refine hK0 _ _ _ ?_
  refine W.seq (fun K1 hK1 => ?_)
  refine W.region ?_
  refine O.ex (Ex.move rfl) rfl ?_
  refine O.callF Try.call48 rfl rfl (CT.mono (ranked_ct (g := fun v => v) (F := L) rfl (fun i w M _ H => VT.fn Try.call49 (rising1_ct H)) H) ?_)
  rintro _ w ⟨hv, H⟩
  rw [List.map_id'] at H
  refine O.ex (Ex.assign rfl) rfl ?_
  refine O.nil ?_
  refine hK1 _ _ _ ?_
  refine W.ret ?_
  try dsimp only [thenQ, blockQ, retQ]
  first | refine ⟨_, ⟨_, _, rfl, rfl, rfl⟩, ?_⟩ | (refine retD_mark ?_; intro w H; refine ⟨_, ⟨_, _, rfl, rfl, rfl⟩, ?_⟩) | (refine retD_mark2 ?_; intro w H; refine ⟨_, ⟨_, _, rfl, rfl, rfl⟩, ?_⟩)
  exact ⟨by assumption, H⟩
theorem falling1_ct {w : World} {i k : Int} {b : Nat} {L : List HProp} (hi : 0 ≤ i) (hk : 0 ≤ k) (hi2 : i ≤ 24) (hk2 : k ≤ 24) (H : Holds w (pt b (.cells #[.int .i64 k] 3 (0, 0)) :: L)) : CT Try.prog 50 [.int .i64 i, .pointer (some ⟨b, 0, none⟩)] w fun u w' => u = .int .i64 (k - 1 - i) ∧ Holds w' (pt b (.cells #[.int .i64 k] 3 (0, 0)) :: L) := by
  refine CT.enter (N := 8) Try.func50 rfl rfl rfl rfl ?_
  refine W.seq (fun K0 hK0 => ?_)
  refine W.region ?_
  refine O.ex (Ex.assign rfl) rfl ?_
  refine O.nil ?_
  refine hK0 _ _ _ ?_
  refine W.seq (fun K1 hK1 => ?_)
  refine W.region ?_
  refine O.ex (by first | exact Ex.loadP Try.isAgg3 rfl | exact Ex.loadR Try.isAgg3 rfl | exact Ex.loadIn1 Try.isAgg3 rfl (Holds.to (by assumption))) rfl ?_
  refine O.ex (by first | exact Ex.subI rfl rfl | exact Ex.sub rfl rfl rfl) rfl ?_
  refine O.ex (Ex.move rfl) rfl ?_
  refine O.ex (by first | exact Ex.subI rfl rfl | exact Ex.sub rfl rfl rfl) rfl ?_
  refine O.ex (Ex.assign rfl) rfl ?_
  refine O.nil ?_
  refine hK1 _ _ _ ?_
  refine W.ret ?_
  try dsimp only [thenQ, blockQ, retQ]
  first | refine ⟨_, ⟨_, _, rfl, rfl, rfl⟩, ?_⟩ | (refine retD_mark ?_; intro w H; refine ⟨_, ⟨_, _, rfl, rfl, rfl⟩, ?_⟩) | (refine retD_mark2 ?_; intro w H; refine ⟨_, ⟨_, _, rfl, rfl, rfl⟩, ?_⟩)
  exact ⟨rfl, by first | assumption | exact Holds.to (by assumption)⟩
theorem hl_hl (n : Int) : hl (hl n) = hl n := by unfold hl; omega
def fallL (k : Nat) : List Int := (rng k).map fun v => (k : Int) - 1 - v
theorem falling_ct {w : World} {n : Int} {L : List HProp} (H : Holds w L) : CT Try.prog 24 [.int .i64 n] w fun u w' => u.oneCell' = true ∧ Holds w' (arr 3 (Value.int .i64) u (fallL (hl n).toNat) :: L) := by
  obtain ⟨h0, h1⟩ := hl_rng n
  have h2 := hl_hl n
  refine CT.enter (N := 8) Try.func24 rfl rfl rfl rfl ?_
  refine W.seq (fun K0 hK0 => ?_)
  refine W.region ?_
  refine O.boxP rfl (fun b1 w H => ?_)
  refine O.ex (Ex.assign rfl) rfl ?_
  refine O.nil ?_
  refine hK0 _ _ _ ?_
  refine W.seq (fun K1 hK1 => ?_)
  refine W.region ?_
  refine O.ex (by first | exact Ex.loadP Try.isAgg3 rfl | exact Ex.loadR Try.isAgg3 rfl | exact Ex.loadIn1 Try.isAgg3 rfl (Holds.to (by assumption))) rfl ?_
  refine O.callF Try.call44 rfl rfl (CT.mono (held_ct (Holds.to (by assumption))) ?_)
  rintro _ w ⟨rfl, H⟩
  first | refine O.storeP Try.sizeOf3 rfl rfl (fun w H => ?_) | refine O.storeR Try.sizeOf3 rfl rfl (fun w H => ?_)
  refine O.nil ?_
  refine hK1 _ _ _ ?_
  refine W.seq (fun K2 hK2 => ?_)
  refine W.region ?_
  have H : Holds w (pt b1 (.cells #[.int .i64 (hl n)] 3 (0, 0)) :: L) := Holds.to (by assumption)
  refine O.ex (by first | exact Ex.loadP Try.isAgg3 rfl | exact Ex.loadR Try.isAgg3 rfl | exact Ex.loadIn1 Try.isAgg3 rfl (Holds.to (by assumption))) rfl ?_
  refine O.ex (Ex.makeFunc rfl rfl) rfl ?_
  refine O.callF Try.call48 rfl rfl (CT.mono (ranked_ct (n := hl n) (g := fun v => hl n - 1 - v) (L := pt b1 (.cells #[.int .i64 (hl n)] 3 (0, 0)) :: L) rfl (fun i w M hi H => VT.fn Try.call50 (falling1_ct (by omega) (by omega) (by omega) (by omega) H)) H) ?_)
  rintro _ w ⟨hv, H⟩
  rw [h2] at H
  refine O.ex (Ex.assign rfl) rfl ?_
  refine O.nil ?_
  refine hK2 _ _ _ ?_
  refine W.ret ?_
  try dsimp only [thenQ, blockQ, retQ]
  first | refine ⟨_, ⟨_, _, rfl, rfl, rfl⟩, ?_⟩ | (refine retD_mark ?_; intro w H; refine ⟨_, ⟨_, _, rfl, rfl, rfl⟩, ?_⟩) | (refine retD_mark2 ?_; intro w H; refine ⟨_, ⟨_, _, rfl, rfl, rfl⟩, ?_⟩)
  refine ⟨by assumption, ?_⟩
  rw [show fallL (hl n).toNat = (rng (hl n).toNat).map (fun v => hl n - 1 - v) from by unfold fallL; rw [show (((hl n).toNat : Nat) : Int) = hl n from by omega]]
  exact Holds.to (by assumption)
theorem turned1_ct {w : World} {i s k : Int} {b c : Nat} {L : List HProp} (hi : 0 ≤ i) (hi2 : i ≤ 24) (hs : 0 ≤ s) (hs2 : s ≤ 24) (hk : 0 < k) (H : Holds w (pt b (.cells #[.int .i64 s] 3 (0, 0)) :: pt c (.cells #[.int .i64 k] 3 (0, 0)) :: L)) : CT Try.prog 51 [.int .i64 i, .pointer (some ⟨b, 0, none⟩), .pointer (some ⟨c, 0, none⟩)] w fun u w' => u = .int .i64 ((i + s) % k) ∧ Holds w' (pt b (.cells #[.int .i64 s] 3 (0, 0)) :: pt c (.cells #[.int .i64 k] 3 (0, 0)) :: L) := by
  refine CT.enter (N := 10) Try.func51 rfl rfl rfl rfl ?_
  refine W.seq (fun K0 hK0 => ?_)
  refine W.region ?_
  refine O.ex (Ex.assign rfl) rfl ?_
  refine O.nil ?_
  refine hK0 _ _ _ ?_
  refine W.seq (fun K1 hK1 => ?_)
  refine W.region ?_
  refine O.ex (Ex.move rfl) rfl ?_
  refine O.ex (by first | exact Ex.loadP Try.isAgg3 rfl | exact Ex.loadR Try.isAgg3 rfl | exact Ex.loadIn1 Try.isAgg3 rfl (Holds.to (by assumption))) rfl ?_
  refine O.ex (by first | exact Ex.addI rfl rfl | exact Ex.add rfl rfl rfl) rfl ?_
  refine O.ex (by first | exact Ex.loadP Try.isAgg3 rfl | exact Ex.loadR Try.isAgg3 rfl | exact Ex.loadIn1 Try.isAgg3 rfl (Holds.to (by assumption))) rfl ?_
  refine O.ex (by first | exact Ex.remI rfl rfl | exact Ex.rem rfl rfl (by omega) rfl) rfl ?_
  refine O.ex (Ex.assign rfl) rfl ?_
  refine O.nil ?_
  refine hK1 _ _ _ ?_
  refine W.ret ?_
  try dsimp only [thenQ, blockQ, retQ]
  first | refine ⟨_, ⟨_, _, rfl, rfl, rfl⟩, ?_⟩ | (refine retD_mark ?_; intro w H; refine ⟨_, ⟨_, _, rfl, rfl, rfl⟩, ?_⟩) | (refine retD_mark2 ?_; intro w H; refine ⟨_, ⟨_, _, rfl, rfl, rfl⟩, ?_⟩)
  exact ⟨rfl, by first | assumption | exact Holds.to (by assumption)⟩
def sh (k : Int) (by_ : Int) : Int := (by_.tmod k + k) % k
theorem tmod_rng (a k : Int) (hk : 0 < k) : -k < a.tmod k ∧ a.tmod k < k := by
  rcases Int.le_total 0 a with h | h
  · rw [Int.tmod_eq_emod_of_nonneg h]
    have := Int.emod_nonneg a (show k ≠ 0 by omega)
    have := Int.emod_lt_of_pos a hk
    omega
  · rw [show a = -(-a) from by omega, Int.neg_tmod, Int.tmod_eq_emod_of_nonneg (by omega)]
    have := Int.emod_nonneg (-a) (show k ≠ 0 by omega)
    have := Int.emod_lt_of_pos (-a) hk
    omega
theorem sh_rng (k a : Int) (hk : 0 < k) : 0 ≤ sh k a ∧ sh k a < k := ⟨Int.emod_nonneg _ (by omega), Int.emod_lt_of_pos _ hk⟩
def turnL (k : Nat) (by_ : Int) : List Int := (rng k).map fun v => (v + sh k by_) % k
theorem turned_ct {w : World} {n by_ : Int} {L : List HProp} (hb0 : -9223372036854775808 ≤ by_) (hb1 : by_ ≤ 9223372036854775807) (H : Holds w L) : CT Try.prog 25 [.int .i64 n, .int .i64 by_] w fun u w' => u.oneCell' = true ∧ Holds w' (arr 3 (Value.int .i64) u (turnL (hl n).toNat by_) :: L) := by
  obtain ⟨h0, h1⟩ := hl_rng n
  have h2 := hl_hl n
  have h3 : (((hl n).toNat : Nat) : Int) = hl n := by omega
  refine CT.enter (N := 19) Try.func25 rfl rfl rfl rfl ?_
  refine W.seq (fun K0 hK0 => ?_)
  refine W.region ?_
  refine O.boxP rfl (fun b2 w H => ?_)
  refine O.boxP rfl (fun b3 w H => ?_)
  refine O.ex (Ex.assign rfl) rfl ?_
  refine O.nil ?_
  refine hK0 _ _ _ ?_
  refine W.seq (fun K1 hK1 => ?_)
  refine W.seq (fun K2 hK2 => ?_)
  refine W.region ?_
  refine O.ex (by first | exact Ex.loadP Try.isAgg3 rfl | exact Ex.loadR Try.isAgg3 rfl | exact Ex.loadIn1 Try.isAgg3 rfl (Holds.to (by assumption))) rfl ?_
  refine O.callF Try.call44 rfl rfl (CT.mono (held_ct (Holds.to (by assumption))) ?_)
  rintro _ w ⟨rfl, H⟩
  first | refine O.storeP Try.sizeOf3 rfl rfl (fun w H => ?_) | refine O.storeR Try.sizeOf3 rfl rfl (fun w H => ?_)
  refine O.nil ?_
  refine hK2 _ _ _ ?_
  refine W.seq (fun K3 hK3 => ?_)
  refine W.region ?_
  refine O.ex (by first | exact Ex.loadP Try.isAgg3 rfl | exact Ex.loadR Try.isAgg3 rfl | exact Ex.loadIn1 Try.isAgg3 rfl (Holds.to (by assumption))) rfl ?_
  refine O.ex (Ex.gtr rfl rfl) rfl ?_
  refine O.nil ?_
  refine hK3 _ _ _ ?_
  first | refine W.cond_p rfl (fun hpos => ?_) (fun hzero => ?_) | refine W.cond_b rfl (fun hpos => ?_) (fun hzero => ?_)
  · obtain ⟨r0, r1⟩ := tmod_rng by_ (hl n) (by omega)
    have H : Holds w (pt b3 (.cells #[.int .i64 by_] 3 (0, 0)) :: pt b2 (.cells #[.int .i64 (hl n)] 3 (0, 0)) :: L) := Holds.to (by assumption)
    refine W.drawTo _ (.take 0 (.take 1 (.take 2 (.take 3 (.take 4 (.take 5 (.take 6 (.one 7 .nil)))))))) (mixed) (fun _ _ _ _ h => h) (by assumption) (PP.refl _) (by decide +kernel) (fun w H => ?_)
    refine OQ.ex rfl (fun w H => (by first | exact Ex.loadP Try.isAgg3 rfl | exact Ex.loadR Try.isAgg3 rfl | exact Ex.loadIn1 Try.isAgg3 rfl (Holds.to (by assumption)))) rfl ?_
    refine OQ.ex rfl (fun w H => (by first | exact Ex.loadP Try.isAgg3 rfl | exact Ex.loadR Try.isAgg3 rfl | exact Ex.loadIn1 Try.isAgg3 rfl (Holds.to (by assumption)))) rfl ?_
    refine OQ.ex rfl (fun w H => (Ex.rem (r := by_.tmod (hl n)) rfl rfl (by omega) rfl)) rfl ?_
    refine OQ.ex rfl (fun w H => (by first | exact Ex.loadP Try.isAgg3 rfl | exact Ex.loadR Try.isAgg3 rfl | exact Ex.loadIn1 Try.isAgg3 rfl (Holds.to (by assumption)))) rfl ?_
    refine OQ.ex rfl (fun w H => (by first | exact Ex.addI rfl rfl | exact Ex.add rfl rfl rfl)) rfl ?_
    refine OQ.ex rfl (fun w H => (by first | exact Ex.loadP Try.isAgg3 rfl | exact Ex.loadR Try.isAgg3 rfl | exact Ex.loadIn1 Try.isAgg3 rfl (Holds.to (by assumption)))) rfl ?_
    refine OQ.ex rfl (fun w H => (by first | exact Ex.remI rfl rfl | exact Ex.rem rfl rfl (by omega) rfl)) rfl ?_
    refine OQ.last rfl (by decide +kernel) ?_
    first | refine O.storeP Try.sizeOf3 rfl rfl (fun w H => ?_) | refine O.storeR Try.sizeOf3 rfl rfl (fun w H => ?_)
    refine O.nil ?_
    refine hK1 _ _ _ ?_
    refine W.seq (fun K4 hK4 => ?_)
    refine W.region ?_
    have H : Holds w (pt b3 (.cells #[.int .i64 (if 0 < hl n then sh (hl n) by_ else by_)] 3 (0, 0)) :: pt b2 (.cells #[.int .i64 (hl n)] 3 (0, 0)) :: L) := by
      first
      | (rw [if_pos hpos]; exact Holds.to (by assumption))
      | (rw [if_neg hzero]; exact Holds.to (by assumption))
    refine O.ex (by first | exact Ex.loadP Try.isAgg3 rfl | exact Ex.loadR Try.isAgg3 rfl | exact Ex.loadIn1 Try.isAgg3 rfl (Holds.to (by assumption))) rfl ?_
    refine O.ex (Ex.makeFunc rfl rfl) rfl ?_
    refine O.callF Try.call48 rfl rfl (CT.mono (ranked_ct (n := hl n) (g := fun v => (v + (if 0 < hl n then sh (hl n) by_ else by_)) % hl n) (L := pt b3 (.cells #[.int .i64 (if 0 < hl n then sh (hl n) by_ else by_)] 3 (0, 0)) :: pt b2 (.cells #[.int .i64 (hl n)] 3 (0, 0)) :: L) rfl (fun i w M hi H => VT.fn Try.call51 (by
      have hp : 0 < hl n := by omega
      obtain ⟨s0, s1⟩ := sh_rng (hl n) by_ hp
      rw [if_pos hp] at H ⊢
      exact turned1_ct (by omega) (by omega) (by omega) (by omega) hp H)) H) ?_)
    rintro _ w ⟨hv, H⟩
    rw [h2] at H
    refine O.ex (Ex.assign rfl) rfl ?_
    refine O.nil ?_
    refine hK4 _ _ _ ?_
    refine W.ret ?_
    try dsimp only [thenQ, blockQ, retQ]
    first | refine ⟨_, ⟨_, _, rfl, rfl, rfl⟩, ?_⟩ | (refine retD_mark ?_; intro w H; refine ⟨_, ⟨_, _, rfl, rfl, rfl⟩, ?_⟩) | (refine retD_mark2 ?_; intro w H; refine ⟨_, ⟨_, _, rfl, rfl, rfl⟩, ?_⟩)
    refine ⟨by assumption, ?_⟩
    rw [show turnL (hl n).toNat by_ = (rng (hl n).toNat).map (fun v => (v + (if 0 < hl n then sh (hl n) by_ else by_)) % hl n) from by
      unfold turnL
      rw [h3]
      apply List.map_congr_left
      intro v hv
      have := mem_rng.1 hv
      rw [if_pos (by omega)]]
    exact Holds.to (by assumption)
  · refine W.skip ?_
    refine hK1 _ _ _ ?_
    refine W.seq (fun K5 hK5 => ?_)
    refine W.region ?_
    have H : Holds w (pt b3 (.cells #[.int .i64 (if 0 < hl n then sh (hl n) by_ else by_)] 3 (0, 0)) :: pt b2 (.cells #[.int .i64 (hl n)] 3 (0, 0)) :: L) := by
      first
      | (rw [if_pos hpos]; exact Holds.to (by assumption))
      | (rw [if_neg hzero]; exact Holds.to (by assumption))
    refine O.ex (by first | exact Ex.loadP Try.isAgg3 rfl | exact Ex.loadR Try.isAgg3 rfl | exact Ex.loadIn1 Try.isAgg3 rfl (Holds.to (by assumption))) rfl ?_
    refine O.ex (Ex.makeFunc rfl rfl) rfl ?_
    refine O.callF Try.call48 rfl rfl (CT.mono (ranked_ct (n := hl n) (g := fun v => (v + (if 0 < hl n then sh (hl n) by_ else by_)) % hl n) (L := pt b3 (.cells #[.int .i64 (if 0 < hl n then sh (hl n) by_ else by_)] 3 (0, 0)) :: pt b2 (.cells #[.int .i64 (hl n)] 3 (0, 0)) :: L) rfl (fun i w M hi H => VT.fn Try.call51 (by
      have hp : 0 < hl n := by omega
      obtain ⟨s0, s1⟩ := sh_rng (hl n) by_ hp
      rw [if_pos hp] at H ⊢
      exact turned1_ct (by omega) (by omega) (by omega) (by omega) hp H)) H) ?_)
    rintro _ w ⟨hv, H⟩
    rw [h2] at H
    refine O.ex (Ex.assign rfl) rfl ?_
    refine O.nil ?_
    refine hK5 _ _ _ ?_
    refine W.ret ?_
    try dsimp only [thenQ, blockQ, retQ]
    first | refine ⟨_, ⟨_, _, rfl, rfl, rfl⟩, ?_⟩ | (refine retD_mark ?_; intro w H; refine ⟨_, ⟨_, _, rfl, rfl, rfl⟩, ?_⟩) | (refine retD_mark2 ?_; intro w H; refine ⟨_, ⟨_, _, rfl, rfl, rfl⟩, ?_⟩)
    refine ⟨by assumption, ?_⟩
    rw [show turnL (hl n).toNat by_ = (rng (hl n).toNat).map (fun v => (v + (if 0 < hl n then sh (hl n) by_ else by_)) % hl n) from by
      unfold turnL
      rw [h3]
      apply List.map_congr_left
      intro v hv
      have := mem_rng.1 hv
      rw [if_pos (by omega)]]
    exact Holds.to (by assumption)
end Go.Proofs.Ythpmohkmjfhmmaa
