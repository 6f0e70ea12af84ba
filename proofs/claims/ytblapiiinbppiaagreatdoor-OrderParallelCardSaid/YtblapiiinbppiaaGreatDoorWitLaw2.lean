/- A search that settles the nearest first, more plainly: what comes next is found by looking at all; the searches of fewer and of more; how far it is. No program in sight. -/
import Derived.Test.YtblapiiinbppiaaGreatDoorWitLaw
namespace Go.Proofs.YtblapiiinbppiaaGreatDoor
open Go.Rr Go Hp
set_option linter.unusedVariables false
set_option linter.unusedSectionVars false
namespace Wt
section
variable {N : Nat} {c : Int → Int → Int} {s0 wo : Nat}
instance (P : List (Int × Int)) (i : Nat) : Decidable (TQ N c wo P i) := by unfold TQ; infer_instance
/-! ### Fewer and more -/
/-- Where a search stops, told by a test. -/
def stopB (N : Nat) (c : Int → Int → Int) (s0 wo : Nat) (settles most : Int) (j : Nat) : Bool :=
  decide (settles ≤ (st N c s0 wo j).length) || match nx N c s0 wo (st N c s0 wo j) with
    | none => true
    | some b => decide (norm most < smF c s0 (st N c s0 wo j) b)
theorem stop_iff {settles most : Int} {j : Nat} : stopB N c s0 wo settles most j = true ↔ stopP N c s0 wo settles most j := by
  unfold stopB stopP
  rw [Bool.or_eq_true, decide_eq_true_iff]
  refine or_congr Iff.rfl ?_
  cases nx N c s0 wo (st N c s0 wo j) with
  | none => simp
  | some b => simp
theorem to_of {settles most : Int} {j : Nat} (h : ((List.range j).all fun i => !stopB N c s0 wo settles most i) = true) : to N c s0 wo settles most j := fun i hi hs => by
  have := List.all_eq_true.1 h i (List.mem_range.2 hi)
  rw [stop_iff.2 hs] at this; cases this
end
end Wt
end Go.Proofs.YtblapiiinbppiaaGreatDoor
