import Derived.Test.YtgbhccpjpimgfaaDoorFacts
import Derived.Test.YtgbhccpjpimgfaaDoorRrBits
import Derived.Test.YtgbhccpjpimgfaaDoorRrVec
import Derived.Test.YtgbhccpjpimgfaaDoorRrDel
import Derived.Test.YtgbhccpjpimgfaaDoorRrRow
import Derived.Test.YtgbhccpjpimgfaaDoorPermLaw
namespace Go.Proofs.YtgbhccpjpimgfaaDoor
open Go.Rr Go
set_option linter.unusedVariables false
def hl (n : Int) : Int := min (max n 0) 24
theorem hl_rng (n : Int) : 0 ≤ hl n ∧ hl n ≤ 24 := by unfold hl; omega
theorem idx_is (l : List Int) (x : Int) (i : Nat) (hi : i < l.length) (h : ∀ j, j < i → l.getD j default ≠ x) (e : l.getD i default = x) : l.idxOf x = i := by
  have hm : x ∈ l := e ▸ getD_mem l i hi
  have hlt := List.idxOf_lt_length_of_mem hm
  have hget : l.getD (l.idxOf x) default = x := by rw [getD_lt _ _ hlt]; exact List.getElem_idxOf hlt
  rcases Nat.lt_trichotomy (l.idxOf x) i with h1 | h1 | h1
  · exact absurd hget (h _ h1)
  · exact h1
  · exfalso
    have := List.not_of_lt_findIdx (xs := l) (p := (· == x)) (i := i) (by simpa [List.idxOf] using h1)
    rw [getD_lt _ _ hi] at e
    simp [e] at this
theorem arr_eraseIdx (xs : List Int) (i : Nat) : xs.take i ++ xs.drop (i + 1) = xs.eraseIdx i := (List.eraseIdx_eq_take_drop_succ xs i).symm
end Go.Proofs.YtgbhccpjpimgfaaDoor
