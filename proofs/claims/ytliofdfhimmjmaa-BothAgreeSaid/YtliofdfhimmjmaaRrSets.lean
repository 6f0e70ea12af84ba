/- Sets of numbers below 64, as natural numbers: what is in them, their least one, their lists. No program in sight. -/
import Derived.Test.YtliofdfhimmjmaaRrPop
import Derived.Lib.TrailingZeros
namespace Go.Rr
theorem bit_high (s i : Nat) (h : s < 18446744073709551616) (hi : 64 ≤ i) : s.testBit i = false:=Nat.testBit_lt_two_pow (Nat.lt_of_lt_of_le h (Nat.pow_le_pow_right (n:=2) (by decide) hi))
theorem set_eq (a b : Nat) (ha : a < 18446744073709551616) (hb : b < 18446744073709551616) (h : ∀ i,i < 64 → a.testBit i = b.testBit i) : a = b:=by
  apply Nat.eq_of_testBit_eq
  intro i
  rcases Nat.lt_or_ge i 64 with hi|hi
  · exact h i hi
  · rw [bit_high a i ha hi,bit_high b i hb hi]
/-- A set, of one number; of none, if it may not be in a set. -/
def bitN (i : Int) : Nat:=if 0 ≤ i ∧ i < 64 then 2 ^ i.toNat else 0
theorem bitN_lt (i : Int) : bitN i < 18446744073709551616:=by
  unfold bitN; split
  · rename_i h
    exact Nat.lt_of_lt_of_le (Nat.pow_lt_pow_right (by decide) (show i.toNat < 64 by omega)) (by decide)
  · decide
theorem bitN_bit (x : Int) (i : Nat) (hi : i < 64) : (bitN x).testBit i = decide ((i : Int) = x):=by
  unfold bitN; split
  · rename_i h
    rw [Nat.testBit_two_pow]
    exact decide_eq_decide.2 (by omega)
  · rename_i h
    rw [Nat.zero_testBit,decide_eq_false (by omega)]
/-- Is a number in a set? -/
def inS (s : Nat) (x : Int) : Bool:=decide (0 ≤ x ∧ x < 64) && s.testBit x.toNat
theorem or_lt (a b : Nat) (ha : a < 18446744073709551616) (hb : b < 18446744073709551616) : a ||| b < 18446744073709551616:=Nat.or_lt_two_pow (n:=64) ha hb
theorem with_bit (s : Nat) (x : Int) (i : Nat) (hi : i < 64) : (s ||| bitN x).testBit i = (s.testBit i || decide ((i : Int) = x)):=by
  rw [Nat.testBit_or,bitN_bit x i hi]
end Go.Rr
