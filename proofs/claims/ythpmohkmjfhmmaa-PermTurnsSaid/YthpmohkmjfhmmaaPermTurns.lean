import Derived.Test.YthpmohkmjfhmmaaPermOf
--ARR
namespace Go.Proofs.Ythpmohkmjfhmmaa
open Go.Rr Go
set_option linter.unusedVariables false
theorem md {a k : Int} (h0 : 0 ≤ a) (hk : 0 < k) (h1 : a < 2 * k) : a % k = if a < k then a else a - k := by
  split
  · exact Int.emod_eq_of_lt h0 (by assumption)
  · rw [← Int.sub_emod_right a k]; exact Int.emod_eq_of_lt (by omega) (by omega)
theorem inv_char {l l' : List Int} (h : RightP l) (hl : l'.length = l.length) (hh : ∀ j, j < l.length → l'.getD (l.getD j default).toNat default = j) : invL l = l' := by
  refine ext_getD _ _ (by rw [invL_len, hl]) fun r hr => ?_
  rw [invL_len] at hr
  obtain ⟨j, hj, e⟩ := mem_getD (h.sur (r := (r : Int)) (by omega) (by omega))
  have h1 := invL_get h j hj
  have h2 := hh j hj
  rw [e, Int.toNat_natCast] at h1 h2
  rw [h1, h2]
theorem map_right {k : Nat} (hk : k ≤ 24) {g : Int → Int} (h0 : ∀ v : Int, 0 ≤ v → v < k → 0 ≤ g v ∧ g v < k) (hi : ∀ v u : Int, 0 ≤ v → v < k → 0 ≤ u → u < k → g v = g u → v = u) : RightP ((rng k).map g) := by
  refine ⟨by rw [map_rng_len]; exact hk, fun x hx => ?_, ?_⟩
  · rw [map_rng_len]
    obtain ⟨v, hv, rfl⟩ := List.mem_map.1 hx
    obtain ⟨a, b⟩ := mem_rng.1 hv
    exact h0 v a b
  · rw [List.nodup_iff_pairwise_ne, List.pairwise_iff_getElem]
    intro i j hil hjl hij e
    rw [map_rng_len] at hil hjl
    rw [← getD_lt _ _ (by rw [map_rng_len]; exact hil), ← getD_lt _ _ (by rw [map_rng_len]; exact hjl), map_rng_get k g i hil, map_rng_get k g j hjl] at e
    have := hi i j (by omega) (by omega) (by omega) (by omega) e
    omega
theorem sh_eq (k b : Int) (hk : 0 < k) : sh k b = if 0 ≤ b.tmod k then b.tmod k else b.tmod k + k := by
  obtain ⟨r0, r1⟩ := tmod_rng b k hk
  unfold sh
  rw [md (by omega) hk (by omega)]
  split <;> split <;> omega
theorem turn_right (k : Nat) (hk : k ≤ 24) (b : Int) : RightP (turnL k b) := by
  refine map_right hk (fun v h0 h1 => ⟨Int.emod_nonneg _ (by omega), Int.emod_lt_of_pos _ (by omega)⟩) fun v u h0 h1 h2 h3 e => ?_
  obtain ⟨s0, s1⟩ := sh_rng (k : Int) b (by omega)
  rw [md (by omega) (by omega) (by omega), md (by omega) (by omega) (by omega)] at e
  split at e <;> split at e <;> omega
theorem turn_inv (k : Nat) (hk : k ≤ 24) (b : Int) : invL (turnL k b) = turnL k (-b) := by
  refine inv_char (turn_right k hk b) (by rw [turnL_len, turnL_len]) fun j hj => ?_
  rw [turnL_len] at hj
  have hk0 : (0 : Int) < k := by omega
  obtain ⟨s0, s1⟩ := sh_rng (k : Int) b hk0
  have e1 := sh_eq (k : Int) b hk0
  have e2 := sh_eq (k : Int) (-b) hk0
  rw [Int.neg_tmod] at e2
  obtain ⟨t0, t1⟩ := sh_rng (k : Int) (-b) hk0
  obtain ⟨r0, r1⟩ := tmod_rng b (k : Int) hk0
  have g1 : (turnL k b).getD j default = ((j : Int) + sh k b) % k := map_rng_get k _ j hj
  obtain ⟨x, hx⟩ : ∃ x, x = ((j : Int) + sh k b) % k := ⟨_, rfl⟩
  rw [g1, ← hx]
  rw [md (by omega) hk0 (by omega)] at hx
  have hx0 : 0 ≤ x ∧ x < k := by split at hx <;> omega
  have g2 : (turnL k (-b)).getD x.toNat default = (((x.toNat : Nat) : Int) + sh k (-b)) % k := map_rng_get k _ x.toNat (by omega)
  rw [g2, md (by omega) hk0 (by omega)]
  split at hx <;> split at e1 <;> split at e2 <;> split <;> omega
theorem fall_right (k : Nat) (hk : k ≤ 24) : RightP (fallL k) := map_right hk (fun v h0 h1 => by omega) fun v u h0 h1 h2 h3 e => by omega
theorem fall_inv (k : Nat) (hk : k ≤ 24) : invL (fallL k) = fallL k := by
  refine inv_char (fall_right k hk) rfl fun j hj => ?_
  rw [fallL_len] at hj
  have g1 : (fallL k).getD j default = (k : Int) - 1 - j := map_rng_get k _ j hj
  have g2 : (fallL k).getD ((k : Int) - 1 - j).toNat default = (k : Int) - 1 - ((((k : Int) - 1 - j).toNat : Nat) : Int) := map_rng_get k _ _ (by omega)
  rw [g1, g2]; omega
set_option maxHeartbeats 1000000 in
theorem permTurns_ct {w0 : World} {n by_ : Int} (hb : (Lit.int .i64 by_).wf = true) :
    CT Try.prog 7 [.int .i64 n, .int .i64 by_] w0 fun u w' => u = .bool true ∧ RowKit.Below w0.heap.size w0 w' := by
  have H := Holds.base_refl w0
  obtain ⟨b0, b1⟩ := i64_rng hb
  obtain ⟨h0, h1⟩ := hl_rng n
  obtain ⟨k, hk⟩ : ∃ k, k = (hl n).toNat := ⟨_, rfl⟩
  have k24 : k ≤ 24 := by omega
  have l1 := turnL_len k by_
  have l2 := fallL_len k
  have l3 := turnL_len k (-by_)
  have i1 := invL_len (turnL k by_)
  have i2 := invL_len (fallL k)
  have r1 := turn_right k k24 by_
  refine CT.enter (N := 54) Try.func7 rfl rfl rfl rfl ?_
  refine W.seq (fun K0 hK0 => ?_)
  refine W.region ?_
  refine O.ex (Ex.assign rfl) rfl ?_
  refine O.nil ?_
  refine hK0 _ _ _ ?_
  refine W.seq (fun K1 hK1 => ?_)
  refine W.seq (fun K2 hK2 => ?_)
  refine W.region ?_
  refine O.callF Try.call13 rfl rfl (CT.mono (awake07_ct (Holds.to (by assumption))) ?_)
  rintro _ w ⟨rfl, H⟩
  refine O.ex (by first | exact Ex.notD rfl | exact Ex.not rfl) rfl ?_
  refine O.nil ?_
  refine hK2 _ _ _ ?_
  refine W.known_f rfl (by first | rfl | decide | exact decide_eq_true (turn_inv k k24 by_) | exact decide_eq_true (fall_inv k k24)) ?_
  refine W.skip ?_
  refine hK1 _ _ _ ?_
  refine W.seq (fun K3 hK3 => ?_)
  refine W.seq (fun K4 hK4 => ?_)
  refine W.region ?_
  refine O.ex (Ex.move rfl) rfl ?_
  refine O.ex (Ex.eqlI rfl rfl) rfl ?_
  refine O.nil ?_
  refine hK4 _ _ _ ?_
  first | refine W.cond_p rfl (fun hmin => ?_) (fun hok => ?_) | refine W.cond_b rfl (fun hmin => ?_) (fun hok => ?_)
  · refine W.seq (fun K5 hK5 => ?_)
    refine W.region ?_
    refine O.ex (Ex.assign rfl) rfl ?_
    refine O.nil ?_
    refine hK5 _ _ _ ?_
    refine W.ret ?_
    try dsimp only [thenQ, blockQ, retQ]
    first | refine ⟨_, ⟨_, _, rfl, rfl, rfl⟩, ?_⟩ | (refine retD_mark ?_; intro w H; refine ⟨_, ⟨_, _, rfl, rfl, rfl⟩, ?_⟩) | (refine retD_mark2 ?_; intro w H; refine ⟨_, ⟨_, _, rfl, rfl, rfl⟩, ?_⟩)
    refine ⟨?_, Holds.base_below (L := []) (Holds.to (by assumption))⟩
    first
    | rfl
    | exact congrArg Value.bool (decide_eq_true r1)
  · refine W.skip ?_
    refine hK3 _ _ _ ?_
    refine W.seq (fun K6 hK6 => ?_)
    refine W.region ?_
    refine O.ex (Ex.move rfl) rfl ?_
    refine O.ex (Ex.move rfl) rfl ?_
    refine O.callF Try.call25 rfl rfl (CT.mono (turned_ct (n := n) (by_ := by_) b0 b1 (Holds.to (by assumption))) ?_)
    rintro _ w ⟨hv1, H⟩
    rename_i va
    rw [← hk] at H
    refine O.ex (Ex.move rfl) rfl ?_
    refine O.ex (Ex.move rfl) rfl ?_
    refine O.ex (Ex.neg (r := -by_) rfl (by rw [Int.zero_sub]; exact IntWalk.i64_in _ ⟨by omega, by omega⟩)) rfl ?_
    refine O.callF Try.call25 rfl rfl (CT.mono (turned_ct (n := n) (by_ := -by_) (by omega) (by omega) (Holds.to (by assumption))) ?_)
    rintro _ w ⟨hv2, H⟩
    rename_i vb
    rw [← hk] at H
    refine O.ex (Ex.assign rfl) rfl ?_
    refine O.ex (Ex.assign rfl) rfl ?_
    refine O.nil ?_
    refine hK6 _ _ _ ?_
    refine W.seq (fun K7 hK7 => ?_)
    refine W.region ?_
    refine O.ex (Ex.move rfl) rfl ?_
    refine O.callF Try.call14 rfl rfl (CT.mono (inverseA_ct (v := va) (l := turnL k by_) (Holds.to (by assumption)) (by omega)) ?_)
    rintro _ w (⟨-, x, rfl, hxo, H⟩ | ⟨hn, -⟩)
    rotate_left
    · exact absurd r1 hn
    refine O.ex (Ex.move rfl) rfl ?_
    refine O.ex (Ex.extract rfl rfl) rfl ?_
    refine O.ex (Ex.extract rfl rfl) rfl ?_
    refine O.ex (Ex.assign rfl) rfl ?_
    refine O.ex (Ex.assign rfl) rfl ?_
    refine O.nil ?_
    refine hK7 _ _ _ ?_
    refine W.seq (fun K8 hK8 => ?_)
    refine W.region ?_
    refine O.ex (Ex.move rfl) rfl ?_
    refine O.callF Try.call24 rfl rfl (CT.mono (falling_ct (n := n) (Holds.to (by assumption))) ?_)
    rintro _ w ⟨hv3, H⟩
    rename_i vc
    rw [← hk] at H
    refine O.callF Try.call14 rfl rfl (CT.mono (inverseA_ct (v := vc) (l := fallL k) (Holds.to (by assumption)) (by omega)) ?_)
    rintro _ w (⟨-, y, rfl, hyo, H⟩ | ⟨hn, -⟩)
    rotate_left
    · exact absurd (fall_right k k24) hn
    refine O.ex (Ex.move rfl) rfl ?_
    refine O.ex (Ex.extract rfl rfl) rfl ?_
    refine O.ex (Ex.extract rfl rfl) rfl ?_
    refine O.ex (Ex.assign rfl) rfl ?_
    refine O.ex (Ex.assign rfl) rfl ?_
    refine O.nil ?_
    refine hK8 _ _ _ ?_
    refine W.seq (fun K9 hK9 => ?_)
    refine W.region ?_
    refine O.ex (Ex.move rfl) rfl ?_
    refine O.ex (Ex.eqlI rfl rfl) rfl ?_
    refine O.ex (Ex.move rfl) rfl ?_
    refine O.known (t := 35) (c := true) rfl (by first | rfl | decide | exact decide_eq_true (turn_inv k k24 by_) | exact decide_eq_true (fall_inv k k24)) ?_
    refine O.guard_t rfl rfl ?_
    refine O.ex (Ex.move rfl) rfl ?_
    refine O.guard_t rfl rfl ?_
    refine O.ex (Ex.eqlI rfl rfl) rfl ?_
    refine O.ex (Ex.pick_t rfl rfl) rfl ?_
    refine O.ex (Ex.move rfl) rfl ?_
    refine O.known (t := 39) (c := true) rfl (by first | rfl | decide | exact decide_eq_true (turn_inv k k24 by_) | exact decide_eq_true (fall_inv k k24)) ?_
    refine O.guard_t rfl rfl ?_
    refine O.ex (Ex.move rfl) rfl ?_
    refine O.guard_t rfl rfl ?_
    refine O.ex (Ex.move rfl) rfl ?_
    refine O.guard_t rfl rfl ?_
    refine O.callF Try.call17 rfl rfl (CT.mono (intsA_ct (va := x) (v := vb) (xs := invL (turnL k by_)) (l := turnL k (-by_)) (Holds.to (by assumption)) (by omega) (by omega)) ?_)
    rintro _ w ⟨rfl, H⟩
    refine O.ex (Ex.pick_t rfl rfl) rfl ?_
    refine O.ex (Ex.move rfl) rfl ?_
    refine O.known (t := 44) (c := true) rfl (by first | rfl | decide | exact decide_eq_true (turn_inv k k24 by_) | exact decide_eq_true (fall_inv k k24)) ?_
    refine O.guard_t rfl rfl ?_
    refine O.ex (Ex.move rfl) rfl ?_
    refine O.guard_t rfl rfl ?_
    refine O.ex (Ex.move rfl) rfl ?_
    refine O.guard_t rfl rfl ?_
    refine O.callF Try.call24 rfl rfl (CT.mono (falling_ct (n := n) (Holds.to (by assumption))) ?_)
    rintro _ w ⟨hv4, H⟩
    rename_i vd
    rw [← hk] at H
    refine O.guard_t rfl rfl ?_
    refine O.callF Try.call17 rfl rfl (CT.mono (intsA_ct (va := y) (v := vd) (xs := invL (fallL k)) (l := fallL k) (Holds.to (by assumption)) (by omega) (by omega)) ?_)
    rintro _ w ⟨rfl, H⟩
    refine O.ex (Ex.pick_t rfl rfl) rfl ?_
    refine O.ex (Ex.move rfl) rfl ?_
    refine O.known (t := 50) (c := true) rfl (by first | rfl | decide | exact decide_eq_true (turn_inv k k24 by_) | exact decide_eq_true (fall_inv k k24)) ?_
    refine O.guard_t rfl rfl ?_
    refine O.ex (Ex.move rfl) rfl ?_
    refine O.guard_t rfl rfl ?_
    refine O.callF Try.call15 rfl rfl (CT.mono (refRightA_ct (v := va) (l := turnL k by_) (Holds.to (by assumption)) (by omega)) ?_)
    rintro _ w ⟨rfl, H⟩
    refine O.ex (Ex.pick_t rfl rfl) rfl ?_
    refine O.ex (Ex.assign rfl) rfl ?_
    refine O.nil ?_
    refine hK9 _ _ _ ?_
    refine W.ret ?_
    try dsimp only [thenQ, blockQ, retQ]
    first | refine ⟨_, ⟨_, _, rfl, rfl, rfl⟩, ?_⟩ | (refine retD_mark ?_; intro w H; refine ⟨_, ⟨_, _, rfl, rfl, rfl⟩, ?_⟩) | (refine retD_mark2 ?_; intro w H; refine ⟨_, ⟨_, _, rfl, rfl, rfl⟩, ?_⟩)
    refine ⟨?_, Holds.base_below (L := []) (Holds.to (by assumption))⟩
    first
    | rfl
    | exact congrArg Value.bool (decide_eq_true r1)
theorem permTurns_row {w0 : World} {n by_ : Int} (hn : (Lit.int .i64 n).wf = true) (hb : (Lit.int .i64 by_).wf = true) :
    CT Try.prog 7 [.int .i64 n, .int .i64 by_] w0 fun u w' => u = .bool true ∧ RowKit.Below w0.heap.size w0 w' := permTurns_ct hb
end Go.Proofs.Ythpmohkmjfhmmaa
