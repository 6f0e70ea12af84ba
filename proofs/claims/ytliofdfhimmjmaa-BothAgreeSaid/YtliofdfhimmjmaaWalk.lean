import Derived.Test.YtliofdfhimmjmaaWalkLaw
import Derived.Test.YtliofdfhimmjmaaRefAll
import Derived.Test.YtliofdfhimmjmaaMesh
import Derived.Test.YtliofdfhimmjmaaRrBase
namespace Go.Proofs.Ytliofdfhimmjmaa
open Go.Rr Go Gr
set_option linter.unusedVariables false
theorem wstep {s : St} {v : Int} {xs : List Int} {i : Nat} (hi : i < xs.length) : wrun s v (xs.take (i + 1)) = wst s (wrun s v (xs.take i)) (xs.getD i default):=by
  rw [take_getC _ hi,wrun_snoc]
theorem wst_ok {s : St} {b : WS} {id : Int} (h0 : b.2.2 = 0) (h : (nextW s b.2.1 id).2 = 0) : wst s b id = (b.1 ++ [(nextW s b.2.1 id).1],(nextW s b.2.1 id).1,0):=by
  unfold wst; rw [if_neg (by omega),if_pos h]
theorem wst_bad {s : St} {b : WS} {id : Int} (h0 : b.2.2 = 0) (h : ¬ (nextW s b.2.1 id).2 = 0) : wst s b id = (b.1,b.2.1,(nextW s b.2.1 id).2):=by
  unfold wst; rw [if_neg (by omega),if_neg h]
end Go.Proofs.Ytliofdfhimmjmaa
