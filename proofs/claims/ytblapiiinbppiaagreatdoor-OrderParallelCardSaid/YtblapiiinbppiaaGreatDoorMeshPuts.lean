import Derived.Test.YtblapiiinbppiaaGreatDoorMeshAll
import Derived.Test.YtblapiiinbppiaaGreatDoorRrBase
namespace Go.Proofs.YtblapiiinbppiaaGreatDoor
open Go.Rr Go
set_option linter.unusedVariables false
/-- The vertices below k to which (or from which) a step leads. -/
def sl (g : Int → Int) : Nat → List Int
  | 0 => []
  | k + 1 => if g (k : Nat) ≠ 4611686018427387906 then sl g k ++ [(k : Int)] else sl g k
theorem sl_le (g : Int → Int) : ∀ k, (sl g k).length ≤ k
  | 0 => by simp [sl]
  | k + 1 => by have := sl_le g k; unfold sl; split <;> simp <;> omega
theorem sl_t {g : Int → Int} {i : Nat} (hb : g (i : Nat) ≠ 4611686018427387906) : sl g (i + 1) = sl g i ++ [(i : Int)] := if_pos hb
theorem sl_f {g : Int → Int} {i : Nat} (hb : ¬ g (i : Nat) ≠ 4611686018427387906) : sl g (i + 1) = sl g i := if_neg hb
end Go.Proofs.YtblapiiinbppiaaGreatDoor
