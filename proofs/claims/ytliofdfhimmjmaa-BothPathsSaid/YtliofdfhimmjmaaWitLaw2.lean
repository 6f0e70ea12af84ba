/- A search that settles the nearest first, more plainly: what comes next is found by looking at all; the searches of fewer and of more; how far it is. No program in sight. -/
import Derived.Test.YtliofdfhimmjmaaWitLaw
namespace Go.Proofs.Ytliofdfhimmjmaa
open Go.Rr Go Hp
set_option linter.unusedVariables false
set_option linter.unusedSectionVars false
namespace Wt
section
variable {N : Nat} {c : Int → Int → Int} {s0 wo : Nat}
instance (P : List (Int × Int)) (i : Nat) : Decidable (TQ N c wo P i):=by unfold TQ; infer_instance
/-- A list of so many bools. -/
def tl (N : Nat) (f : Nat → Bool) : List Bool:=(List.range N).map f
/-! ### Fewer and more -/
theorem st_mono {i : Nat} : ∀ j,i ≤ j → ∃ l,st N c s0 wo j = st N c s0 wo i ++ l
  | 0,h=>⟨[],by rw [show i = 0 by omega,List.append_nil]⟩
  | j + 1,h=>by
    rcases Nat.lt_or_ge j i with h1|h1
    · exact ⟨[],by rw [show i = j + 1 by omega,List.append_nil]⟩
    · obtain ⟨l,e⟩:=st_mono j h1
      cases hn : nx N c s0 wo (st N c s0 wo j) with
      | none=>exact ⟨l,by rw [st_none hn,e]⟩
      | some b=>exact ⟨l ++ [((b : Int),smF c s0 (st N c s0 wo j) b)],by rw [st_some hn,← List.append_assoc,← e]⟩
end
end Wt
end Go.Proofs.Ytliofdfhimmjmaa
