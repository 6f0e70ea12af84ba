/- How many bits of a number of 64 bits are set, by adding fields of bits. No program in sight. -/
namespace Go.Rr
theorem and_split (a b c d : Nat) (ha : a < 256) (hc : c < 256) : (a + 256 * b) &&& (c + 256 * d) = (a &&& c) + 256 * (b &&& d) := by
  have h : a &&& c < 2 ^ 8 := Nat.and_lt_two_pow _ (by omega)
  apply Nat.eq_of_testBit_eq
  intro i
  rw [Nat.testBit_and, show a + 256 * b = 2 ^ 8 * b + a from by omega, show c + 256 * d = 2 ^ 8 * d + c from by omega, show (a &&& c) + 256 * (b &&& d) = 2 ^ 8 * (b &&& d) + (a &&& c) from by omega]
  rw [Nat.testBit_two_pow_mul_add _ (by omega), Nat.testBit_two_pow_mul_add _ (by omega), Nat.testBit_two_pow_mul_add _ h]
  split
  · rw [Nat.testBit_and]
  · rw [Nat.testBit_and]
/-- A byte's pattern, k times. -/
def rep8 (c : Nat) : Nat → Nat
  | 0 => 0
  | k + 1 => c + 256 * rep8 c k
def p1 (k x : Nat) : Nat := (x / 2 &&& rep8 85 k) + (x &&& rep8 85 k)
def p2 (k x : Nat) : Nat := (x / 4 &&& rep8 51 k) + (x &&& rep8 51 k)
def p3 (k x : Nat) : Nat := (x / 16 + x) &&& rep8 15 k
theorem p1_byte : ∀ q < 128, ∀ r < 2, (q + 128 * r) &&& 85 = q &&& 85 := by decide +kernel
theorem p2_byte : ∀ q < 64, ∀ r < 4, (q + 64 * r) &&& 51 = q &&& 51 := by decide +kernel
def b1 (x : Nat) : Nat := (x / 2 &&& 85) + (x &&& 85)
def b2 (x : Nat) : Nat := (x / 4 &&& 51) + (x &&& 51)
def pc8 (x : Nat) : Nat := (List.range 8).countP x.testBit
theorem b1_lt : ∀ x < 256, b1 x < 256 := by decide +kernel
theorem b2_le : ∀ x < 256, b2 x ≤ 102 := by decide +kernel
theorem b3_byte : ∀ x < 256, (b2 (b1 x) / 16 + b2 (b1 x)) % 16 = pc8 x := by decide +kernel
theorem pc8_le : ∀ x < 256, pc8 x ≤ 8 := by decide +kernel
theorem p1_step (k lo hi : Nat) (h : lo < 256) : p1 (k + 1) (lo + 256 * hi) = b1 lo + 256 * p1 k hi := by
  unfold p1 b1
  simp only [rep8]
  rw [show (lo + 256 * hi) / 2 = (lo / 2 + 128 * (hi % 2)) + 256 * (hi / 2) from by omega, and_split _ _ _ _ (by omega) (by omega), and_split _ _ _ _ h (by omega), p1_byte _ (by omega) _ (by omega)]
  omega
theorem p2_step (k lo hi : Nat) (h : lo < 256) : p2 (k + 1) (lo + 256 * hi) = b2 lo + 256 * p2 k hi := by
  unfold p2 b2
  simp only [rep8]
  rw [show (lo + 256 * hi) / 4 = (lo / 4 + 64 * (hi % 4)) + 256 * (hi / 4) from by omega, and_split _ _ _ _ (by omega) (by omega), and_split _ _ _ _ h (by omega), p2_byte _ (by omega) _ (by omega)]
  omega
theorem p2_mod (k x : Nat) : p2 k x % 16 ≤ 6 := by
  unfold p2
  have h : ∀ y, (y &&& rep8 51 k) % 16 ≤ 3 := fun y => by
    rw [show (16 : Nat) = 2 ^ 4 from rfl, Nat.and_mod_two_pow]
    cases k with
    | zero => simp [rep8]
    | succ k =>
      rw [show rep8 51 (k + 1) % 2 ^ 4 = 3 from by simp only [rep8]; omega]
      exact Nat.and_le_right
  have h1 := h (x / 4)
  have h2 := h x
  omega
theorem and15 (x : Nat) : x &&& 15 = x % 16 := Nat.and_two_pow_sub_one_eq_mod x 4
theorem p3_step (k lo hi : Nat) (h : lo ≤ 102) (hh : hi % 16 ≤ 6) : p3 (k + 1) (lo + 256 * hi) = (lo / 16 + lo) % 16 + 256 * p3 k hi := by
  unfold p3
  simp only [rep8]
  rw [show (lo + 256 * hi) / 16 + (lo + 256 * hi) = (lo / 16 + 16 * (hi % 16) + lo) + 256 * (hi / 16 + hi) from by omega, and_split _ _ _ _ (by omega) (by omega), and15]
  omega
/-- All bytes' counts, each in its own. -/
def pcs : Nat → Nat → Nat
  | 0, _ => 0
  | k + 1, x => pc8 (x % 256) + 256 * pcs k (x / 256)
theorem p_all : ∀ (k x : Nat), x < 256 ^ k → p3 k (p2 k (p1 k x)) = pcs k x
  | 0, x, _ => by simp [p3, rep8, pcs]
  | k + 1, x, h => by
    have hx : x = x % 256 + 256 * (x / 256) := by omega
    have hlo : x % 256 < 256 := by omega
    have hq : x / 256 < 256 ^ k := Nat.div_lt_of_lt_mul (by rw [Nat.pow_succ, Nat.mul_comm] at h; exact h)
    have hb := b1_lt _ hlo
    conv => lhs; rw [hx]
    rw [p1_step k _ _ hlo, p2_step k _ _ hb, p3_step k _ _ (b2_le _ hb) (p2_mod _ _), p_all k _ hq, b3_byte _ hlo]
    rfl
theorem div_step (r T n : Nat) (h : r < n) : (r + n * T) / n = T := by
  rw [Nat.add_mul_div_left _ _ (by omega), Nat.div_eq_of_lt h, Nat.zero_add]
def val : List Nat → Nat
  | [] => 0
  | d :: ds => d + 256 * val ds
theorem val_lt : ∀ ds : List Nat, (∀ d ∈ ds, d ≤ 64) → val ds < 256 ^ ds.length
  | [], _ => by simp [val]
  | d :: ds, h => by
    have h1 := val_lt ds (fun x hx => h x (by simp [hx]))
    have h2 := h d (by simp)
    simp only [val, List.length_cons, Nat.pow_succ]
    omega
theorem val_div (d : Nat) (ds : List Nat) (h : d ≤ 64) : val (d :: ds) / 256 = val ds := div_step _ _ _ (by omega)
theorem val8 (a b c d e f g h : Nat) (H : ∀ x ∈ [a, b, c, d, e, f, g, h], x ≤ 64) : val [a, b, c, d, e, f, g, h] % 18446744073709551616 = val [a, b, c, d, e, f, g, h] := by
  have h1 := val_lt [a, b, c, d, e, f, g, h] H
  rw [show 256 ^ [a, b, c, d, e, f, g, h].length = 18446744073709551616 from by simp] at h1
  exact Nat.mod_eq_of_lt h1
theorem add1 (a b c d e f g h : Nat) : val [a, b, c, d, e, f, g, h] + val [b, c, d, e, f, g, h] = val [a + b, b + c, c + d, d + e, e + f, f + g, g + h, h] := by
  simp only [val]; omega
theorem add2 (a b c d e f g h : Nat) : val [a, b, c, d, e, f, g, h] + val [c, d, e, f, g, h] = val [a + c, b + d, c + e, d + f, e + g, f + h, g, h] := by
  simp only [val]; omega
theorem add4 (a b c d e f g h : Nat) : val [a, b, c, d, e, f, g, h] + val [e, f, g, h] = val [a + e, b + f, c + g, d + h, e, f, g, h] := by
  simp only [val]; omega
theorem fold8 (a b c d e f g h : Nat) (H : ∀ x ∈ [a, b, c, d, e, f, g, h], x ≤ 8) (y4 y5 : Nat)
    (h4 : y4 = (val [a, b, c, d, e, f, g, h] + val [a, b, c, d, e, f, g, h] / 256) % 18446744073709551616) (h5 : y5 = (y4 + y4 / 65536) % 18446744073709551616) :
    (y5 + y5 / 4294967296) % 18446744073709551616 % 128 = a + b + c + d + e + f + g + h := by
  simp only [List.mem_cons, List.not_mem_nil, or_false, forall_eq_or_imp, forall_eq] at H
  obtain ⟨ha, hb, hc, hd, he, hf, hg, hh⟩ := H
  rw [val_div _ _ (by omega), add1, val8 _ _ _ _ _ _ _ _ (by simp; omega)] at h4
  rw [h4, show (65536 : Nat) = 256 * 256 from rfl, ← Nat.div_div_eq_div_mul, val_div _ _ (by omega), val_div _ _ (by omega), add2, val8 _ _ _ _ _ _ _ _ (by simp; omega)] at h5
  rw [h5, show (4294967296 : Nat) = 256 * 256 * 256 * 256 from rfl, ← Nat.div_div_eq_div_mul, ← Nat.div_div_eq_div_mul, ← Nat.div_div_eq_div_mul, val_div _ _ (by omega), val_div _ _ (by omega), val_div _ _ (by omega), val_div _ _ (by omega), add4, val8 _ _ _ _ _ _ _ _ (by simp; omega)]
  clear h4 h5
  simp only [val]
  omega
/-- How many bits are set. -/
def pop (x : Nat) : Nat := (List.range 64).countP x.testBit
theorem count_shift (n x : Nat) : (List.range (n + 8)).countP x.testBit = pc8 (x % 256) + (List.range n).countP (x / 256).testBit := by
  rw [Nat.add_comm n 8, List.range_add, List.countP_append, List.countP_map]
  congr 1
  · unfold pc8
    apply List.countP_congr
    intro i hi
    have : i < 8 := by simpa using hi
    rw [show (256 : Nat) = 2 ^ 8 from rfl, Nat.testBit_mod_two_pow]
    simp [this]
  · apply List.countP_congr
    intro i _
    show x.testBit (8 + i) = true ↔ _
    rw [show (256 : Nat) = 2 ^ 8 from rfl, Nat.testBit_div_two_pow, Nat.add_comm]
theorem pop_eq (x : Nat) : pop x = pc8 (x % 256) + pc8 (x / 256 % 256) + pc8 (x / 256 / 256 % 256) + pc8 (x / 256 / 256 / 256 % 256) + pc8 (x / 256 / 256 / 256 / 256 % 256) + pc8 (x / 256 / 256 / 256 / 256 / 256 % 256) + pc8 (x / 256 / 256 / 256 / 256 / 256 / 256 % 256) + pc8 (x / 256 / 256 / 256 / 256 / 256 / 256 / 256 % 256) := by
  unfold pop
  rw [count_shift 56, count_shift 48, count_shift 40, count_shift 32, count_shift 24, count_shift 16, count_shift 8, count_shift 0]
  simp only [List.range_zero, List.countP_nil]
  omega
theorem ones_law (x y y4 y5 : Nat) (hx : x < 18446744073709551616) (hy : y = p3 8 (p2 8 (p1 8 x))) (h4 : y4 = (y + y / 256) % 18446744073709551616) (h5 : y5 = (y4 + y4 / 65536) % 18446744073709551616) :
    (y5 + y5 / 4294967296) % 18446744073709551616 % 128 = pop x := by
  have h : ∀ n : Nat, pc8 (n % 256) ≤ 8 := fun n => pc8_le _ (Nat.mod_lt _ (by decide))
  rw [p_all 8 x (by rw [show (256 : Nat) ^ 8 = 18446744073709551616 from by decide]; exact hx)] at hy
  subst hy
  rw [pop_eq]
  refine fold8 _ _ _ _ _ _ _ _ (by simp only [List.mem_cons, List.not_mem_nil, or_false, forall_eq_or_imp, forall_eq]; exact ⟨h _, h _, h _, h _, h _, h _, h _, h _⟩) y4 y5 ?_ h5
  rw [h4]
  rfl
theorem rep85 : rep8 85 8 = 6148914691236517205 := by decide
theorem rep51 : rep8 51 8 = 3689348814741910323 := by decide
theorem rep15 : rep8 15 8 = 1085102592571150095 := by decide
theorem p1_lt (x : Nat) : p1 8 x ≤ 2 * 6148914691236517205 := by
  unfold p1; rw [rep85]
  have h1 : x / 2 &&& 6148914691236517205 ≤ 6148914691236517205 := Nat.and_le_right
  have h2 : x &&& 6148914691236517205 ≤ 6148914691236517205 := Nat.and_le_right
  omega
theorem p2_lt (x : Nat) : p2 8 x ≤ 2 * 3689348814741910323 := by
  unfold p2; rw [rep51]
  have h1 : x / 4 &&& 3689348814741910323 ≤ 3689348814741910323 := Nat.and_le_right
  have h2 : x &&& 3689348814741910323 ≤ 3689348814741910323 := Nat.and_le_right
  omega
end Go.Rr
