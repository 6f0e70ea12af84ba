/- How many bits of a number of 64 bits are set, by adding fields of bits. No program in sight. -/
namespace Go.Rr
/-- A byte's pattern, k times. -/
def rep8 (c : Nat) : Nat → Nat
  | 0=>0
  | k + 1=>c + 256 * rep8 c k
def p1 (k x : Nat) : Nat:=(x / 2 &&& rep8 85 k) + (x &&& rep8 85 k)
def p2 (k x : Nat) : Nat:=(x / 4 &&& rep8 51 k) + (x &&& rep8 51 k)
def p3 (k x : Nat) : Nat:=(x / 16 + x) &&& rep8 15 k
def b1 (x : Nat) : Nat:=(x / 2 &&& 85) + (x &&& 85)
def b2 (x : Nat) : Nat:=(x / 4 &&& 51) + (x &&& 51)
def val : List Nat → Nat
  | [] => 0
  | d::ds=>d + 256 * val ds
/-- How many bits are set. -/
def pop (x : Nat) : Nat:=(List.range 64).countP x.testBit
end Go.Rr
