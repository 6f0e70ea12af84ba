/- Sets of numbers below 64, as natural numbers: what is in them, their least one, their lists. No program in sight. -/
import Derived.Test.YtblapiiinbppiaaGreatDoorRrPop
import Derived.Lib.TrailingZeros
namespace Go.Rr
theorem filter_none (p : Nat → Bool) (k : Nat) (hlo : ∀ i,i < k → p i = false) (n : Nat) (h : n ≤ k) : (List.range n).filter p = []:=by
  rw [List.filter_eq_nil_iff]
  intro a ha
  rw [List.mem_range] at ha
  simp [hlo a (by omega)]
theorem filter_split (p q : Nat → Bool) (k : Nat) (hk : p k = true) (hlo : ∀ i,i < k → p i = false) (hq : ∀ i,q i = (p i && decide (i ≠ k))) : ∀ n,k < n → (List.range n).filter p = k::(List.range n).filter q
  | 0,h=>absurd h (by omega)
  | n + 1,h=>by
    rw [List.range_succ,List.filter_append,List.filter_append]
    rcases Nat.lt_or_ge k n with hlt|hge
    · have e : q n = p n:=by rw [hq,decide_eq_true (show n ≠ k by omega),Bool.and_true]
      rw [filter_split p q k hk hlo hq n hlt]
      simp only [List.filter_cons,List.filter_nil,e,List.cons_append]
    · obtain rfl : k = n:=by omega
      rw [filter_none p k hlo k (Nat.le_refl _),filter_none q k (fun i hi=>by rw [hq,hlo i hi]; rfl) k (Nat.le_refl _)]
      simp [hk,hq]
/-- The numbers in a set, rising. -/
def lst (s : Nat) : List Nat:=(List.range 64).filter s.testBit
theorem pop_len (s : Nat) : pop s = (lst s).length:=by unfold pop lst; exact List.countP_eq_length_filter
theorem lst_zero : lst 0 = []:=by simp [lst]
theorem ctz_spec (s : Nat) (h0 : s ≠ 0) (h : s < 18446744073709551616) : Lib.ctz 64 s < 64 ∧ s.testBit (Lib.ctz 64 s) = true ∧ (∀ i,i < Lib.ctz 64 s → s.testBit i = false) ∧ ∀ i,(s &&& (s - 1)).testBit i = (s.testBit i && decide (i ≠ Lib.ctz 64 s)):=by
  obtain ⟨m,hm,hk⟩:=Lib.ctzFrom_spec 64 s (by omega) h
  have e : Lib.ctz 64 s = Lib.ctzFrom 64 s:=by simp [Lib.ctz,h0]
  rw [e]
  generalize Lib.ctzFrom 64 s = k at hm hk
  have hp : 0 < 2 ^ k:=Nat.two_pow_pos k
  have d1 : s / 2 ^ k = 2 * m + 1:=by rw [hm,Nat.mul_div_cancel_left _ hp]
  have d2 : (s - 1) / 2 ^ k = 2 * m:=by
    rw [hm,show 2 ^ k * (2 * m + 1) - 1 = (2 ^ k - 1) + 2 ^ k * (2 * m) from by rw [Nat.mul_add]; omega,Nat.add_mul_div_left _ _ hp,Nat.div_eq_of_lt (by omega)]
    omega
  have b1 : ∀ j,s.testBit (k + j) = (2 * m + 1).testBit j:=fun j=>by rw [← d1,Nat.testBit_div_two_pow,Nat.add_comm]
  have b2 : ∀ j,(s - 1).testBit (k + j) = (2 * m).testBit j:=fun j=>by rw [← d2,Nat.testBit_div_two_pow,Nat.add_comm]
  have b0 : ∀ i,i < k → s.testBit i = false:=fun i hi=>by
    rw [hm,Nat.mul_comm,Nat.testBit_mul_two_pow]; simp; omega
  refine ⟨hk,by have:=b1 0; rw [Nat.add_zero] at this; rw [this]; simp [Nat.testBit_zero],b0,fun i=>?_⟩
  rw [Nat.testBit_and]
  rcases Nat.lt_or_ge i k with hi|hi
  · rw [b0 i hi]; rfl
  · obtain ⟨j,rfl⟩ : ∃ j,i = k + j:=⟨i - k,by omega⟩
    rw [b1,b2]
    cases j with
    | zero=>simp [Nat.testBit_zero]
    | succ j =>
      rw [Nat.testBit_succ,Nat.testBit_succ,show (2 * m + 1) / 2 = m from by omega,show 2 * m / 2 = m from by omega,Bool.and_self,decide_eq_true (by omega),Bool.and_true]
theorem lst_cons (s : Nat) (h0 : s ≠ 0) (h : s < 18446744073709551616) : lst s = Lib.ctz 64 s::lst (s &&& (s - 1)):=by
  obtain ⟨h1,h2,h3,h4⟩:=ctz_spec s h0 h
  exact filter_split _ _ _ h2 h3 h4 64 h1
theorem and_lt (a b : Nat) (h : a < 18446744073709551616) : a &&& b < 18446744073709551616:=Nat.lt_of_le_of_lt Nat.and_le_left h
theorem bit_high (s i : Nat) (h : s < 18446744073709551616) (hi : 64 ≤ i) : s.testBit i = false:=Nat.testBit_lt_two_pow (Nat.lt_of_lt_of_le h (Nat.pow_le_pow_right (n:=2) (by decide) hi))
theorem set_eq (a b : Nat) (ha : a < 18446744073709551616) (hb : b < 18446744073709551616) (h : ∀ i,i < 64 → a.testBit i = b.testBit i) : a = b:=by
  apply Nat.eq_of_testBit_eq
  intro i
  rcases Nat.lt_or_ge i 64 with hi|hi
  · exact h i hi
  · rw [bit_high a i ha hi,bit_high b i hb hi]
/-- A set, of one number; of none, if it may not be in a set. -/
def bitN (i : Int) : Nat:=if 0 ≤ i ∧ i < 64 then 2 ^ i.toNat else 0
theorem bitN_lt (i : Int) : bitN i < 18446744073709551616:=by
  unfold bitN; split
  · rename_i h
    exact Nat.lt_of_lt_of_le (Nat.pow_lt_pow_right (by decide) (show i.toNat < 64 by omega)) (by decide)
  · decide
theorem bitN_bit (x : Int) (i : Nat) (hi : i < 64) : (bitN x).testBit i = decide ((i : Int) = x):=by
  unfold bitN; split
  · rename_i h
    rw [Nat.testBit_two_pow]
    exact decide_eq_decide.2 (by omega)
  · rename_i h
    rw [Nat.zero_testBit,decide_eq_false (by omega)]
/-- Is a number in a set? -/
def inS (s : Nat) (x : Int) : Bool:=decide (0 ≤ x ∧ x < 64) && s.testBit x.toNat
theorem has_law (s : Nat) (x : Int) (h : s < 18446744073709551616) : decide (s &&& bitN x ≠ 0) = inS s x:=by
  have hz : ∀ i,(s &&& bitN x).testBit i = (s.testBit i && decide ((i : Int) = x ∧ i < 64)):=fun i=>by
    rw [Nat.testBit_and]
    rcases Nat.lt_or_ge i 64 with hi|hi
    · rw [bitN_bit x i hi]; simp [hi]
    · rw [bit_high s i h hi]; rfl
  cases hb : inS s x with
  | true =>
    unfold inS at hb
    rw [Bool.and_eq_true,decide_eq_true_iff] at hb
    refine decide_eq_true fun e=>?_
    have:=hz x.toNat
    rw [e,Nat.zero_testBit,hb.2,decide_eq_true (by omega)] at this
    cases this
  | false =>
    refine decide_eq_false fun e=>e ?_
    apply Nat.eq_of_testBit_eq
    intro i
    rw [hz,Nat.zero_testBit]
    by_cases hi : (i : Int) = x ∧ i < 64
    · unfold inS at hb
      rw [decide_eq_true (by omega),Bool.true_and,show x.toNat = i from by omega] at hb
      rw [hb]; rfl
    · rw [decide_eq_false hi,Bool.and_false]
theorem or_lt (a b : Nat) (ha : a < 18446744073709551616) (hb : b < 18446744073709551616) : a ||| b < 18446744073709551616:=Nat.or_lt_two_pow (n:=64) ha hb
theorem with_bit (s : Nat) (x : Int) (i : Nat) (hi : i < 64) : (s ||| bitN x).testBit i = (s.testBit i || decide ((i : Int) = x)):=by
  rw [Nat.testBit_or,bitN_bit x i hi]
theorem andNot_bit (s b i : Nat) (hb : b < 18446744073709551616) (hi : i < 64) : (s &&& (18446744073709551615 - b)).testBit i = (s.testBit i && !b.testBit i):=by
  rw [Nat.testBit_and,show 18446744073709551615 - b = 2 ^ 64 - (b + 1) from by omega,Nat.testBit_two_pow_sub_succ hb,decide_eq_true hi,Bool.true_and]
theorem without_bit (s : Nat) (x : Int) (i : Nat) (hi : i < 64) : (s &&& (18446744073709551615 - bitN x)).testBit i = (s.testBit i && !decide ((i : Int) = x)):=by
  rw [andNot_bit s _ i (bitN_lt x) hi,bitN_bit x i hi]
/-- All numbers that are less. -/
def belN (n : Int) : Nat:=if n ≤ 0 then 0 else if 64 ≤ n then 18446744073709551615 else 2 ^ n.toNat - 1
theorem belN_lt (n : Int) : belN n < 18446744073709551616:=by
  unfold belN; split
  · decide
  · split
    · decide
    · have : 2 ^ n.toNat ≤ 2 ^ 64:=Nat.pow_le_pow_right (by decide) (by omega)
      omega
theorem belN_bit (n : Int) (i : Nat) (hi : i < 64) : (belN n).testBit i = decide ((i : Int) < n):=by
  unfold belN; split
  · rw [Nat.zero_testBit,decide_eq_false (by omega)]
  · split
    · rw [show (18446744073709551615 : Nat) = 2 ^ 64 - 1 from rfl,Nat.testBit_two_pow_sub_one]
      exact decide_eq_decide.2 (by omega)
    · rw [Nat.testBit_two_pow_sub_one]
      exact decide_eq_decide.2 (by omega)
theorem countP_split (p q : Nat → Bool) : ∀ l : List Nat,l.countP (fun i=>p i && q i) + l.countP (fun i=>p i && !q i) = l.countP p
  | [] => rfl
  | a::l=>by
    have:=countP_split p q l
    simp only [List.countP_cons]
    cases p a <;> cases q a <;> simp <;> omega
theorem countP_congr64 (p q : Nat → Bool) (h : ∀ i,i < 64 → p i = q i) : (List.range 64).countP p = (List.range 64).countP q:=by
  apply List.countP_congr
  intro x hx
  rw [List.mem_range] at hx
  rw [h x hx]
theorem pop_split (s b : Nat) (hb : b < 18446744073709551616) : pop (s &&& b) + pop (s &&& (18446744073709551615 - b)) = pop s:=by
  unfold pop
  rw [countP_congr64 _ (fun i=>s.testBit i && b.testBit i) (fun i _=>Nat.testBit_and s b i),countP_congr64 _ (fun i=>s.testBit i && !b.testBit i) (fun i hi=>andNot_bit s b i hb hi)]
  exact countP_split _ _ _
theorem mem_lst (s i : Nat) : i ∈ lst s ↔ i < 64 ∧ s.testBit i = true:=by
  unfold lst; rw [List.mem_filter,List.mem_range]
end Go.Rr
