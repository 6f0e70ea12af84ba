import Derived.Test.YtliofdfhimmjmaaWalkLaw
import Derived.Test.YtliofdfhimmjmaaLaw08b
import Derived.Test.YtliofdfhimmjmaaMesh
import Derived.Test.YtliofdfhimmjmaaRrBase
--ARR
--DEEP
namespace Go.Proofs.Ytliofdfhimmjmaa
open Go.Rr Go Gr
set_option linter.unusedVariables false
def yW (s : St) (v : Int) (xs : List Int) : Nat → Int × Int
  | 0 => (v, 0)
  | i + 1 => nextW s (wrun s v (xs.take i)).2.1 (xs.getD i default)
def outK (s : St) (v : Int) (xs : List Int) : Nat → List Int
  | 0 => []
  | i + 1 => (wrun s v (xs.take i)).1
theorem wstep {s : St} {v : Int} {xs : List Int} {i : Nat} (hi : i < xs.length) : wrun s v (xs.take (i + 1)) = wst s (wrun s v (xs.take i)) (xs.getD i default) := by
  rw [take_getC _ hi, wrun_snoc]
theorem wst_ok {s : St} {b : WS} {id : Int} (h0 : b.2.2 = 0) (h : (nextW s b.2.1 id).2 = 0) : wst s b id = (b.1 ++ [(nextW s b.2.1 id).1], (nextW s b.2.1 id).1, 0) := by
  unfold wst; rw [if_neg (by omega), if_pos h]
theorem wst_bad {s : St} {b : WS} {id : Int} (h0 : b.2.2 = 0) (h : ¬ (nextW s b.2.1 id).2 = 0) : wst s b id = (b.1, b.2.1, (nextW s b.2.1 id).2) := by
  unfold wst; rw [if_neg (by omega), if_neg h]
end Go.Proofs.Ytliofdfhimmjmaa
