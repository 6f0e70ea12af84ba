/-
  No cell of these rows narrows 'for every input' (looked for: loops, veiled, ifaces, maps, wideKeys, modest, calm, conditions, laid).
  DERIVED. THE GIVEN ROWS OF THIS SEAT. 7 by the template 'for every input the law returns true; each argument reads behind the call as it read before'; 0 by the template 'total and deterministic' (their statements: YtliofdfhimmjmaaTotals.lean).
  GIVEN WITH THE SEED: the statements are not yours to turn. If you find one false, say at which input.
  Laid BY PROGRAM, IN A SANDBOX (cutbox-rows.mjs): the forced cells as the released guide's own fill.sh prints them over the translation e1b76169263904da… (all of the seat's roots in one cut). By AI agents, Wed Nov 11 2026. No macro, syntax, notation, axiom, sorry.
-/
import Derived.Test.YtliofdfhimmjmaaChecked
import GoSem.Claim
import GoSem.ClaimJoined
import GoSem.ClaimMapViews
import Derived.JoinedTies
import Derived.KernelRfl
namespace Go.Proofs.Ytliofdfhimmjmaa
/- THE CELL 'sum', in the pinned program and in every row, IS THE sha256 OF THE DUMP (.gsa) THAT YtliofdfhimmjmaaProg.lean LOADS. Nothing in Lean hashes anything: it is a label: what it is worth is what the hold of that sum in a sandbox is worth. -/
noncomputable def Try.pinned : Pinned := { name := "ytliofdfhimmjmaa", sum := "e1b76169263904da44b57f5c8c985da941407fe5c649d44749ef4c4ffa97c527", checked := Try.checked }
namespace Rows
def none {H : Type} : Left H := { results := [], args := [] }

/-- 'ringroadlaw10.NearPaths': WHATEVER THE INPUT: true; the input reads as it did. -/
def nearPathsSpec : ChangeSpec := { name := "nearPaths", fn := fun _ => fun
  | [d1, d2, d3, d4] => { results := [.lit (.bool true)], args := [d1, d2, d3, d4] }
  | _ => none }
def nearPathsRow : OpenClaim := { program := "ytliofdfhimmjmaa", sum := "e1b76169263904da44b57f5c8c985da941407fe5c649d44749ef4c4ffa97c527", func := "ringroad/ringroadlaw10.NearPaths", spec := "nearPaths", inPlace := ["slices.overlaps[int]"], unfollowed := true, recurses := true, apart := false }
def NearPathsSaid : Prop := nearPathsRow.holds Try.pinned (OpenSpec.ofChange nearPathsSpec)

/-- ITS FALSE NEIGHBOUR: 'it returns false'. Refute it at one input. -/
def nearPathsWrong : ChangeSpec := { name := "nearPaths", fn := fun _ => fun
  | [d1, d2, d3, d4] => { results := [.lit (.bool false)], args := [d1, d2, d3, d4] }
  | _ => none }
def NearPathsWrongFalsely : Prop := nearPathsRow.holds Try.pinned (OpenSpec.ofChange nearPathsWrong)

/-- 'ringroadlaw10.NearThird': WHATEVER THE INPUT: true; the input reads as it did. -/
def nearThirdSpec : ChangeSpec := { name := "nearThird", fn := fun _ => fun
  | [d1, d2, d3] => { results := [.lit (.bool true)], args := [d1, d2, d3] }
  | _ => none }
def nearThirdRow : OpenClaim := { program := "ytliofdfhimmjmaa", sum := "e1b76169263904da44b57f5c8c985da941407fe5c649d44749ef4c4ffa97c527", func := "ringroad/ringroadlaw10.NearThird", spec := "nearThird", inPlace := ["slices.overlaps[int]"], unfollowed := true, recurses := true, apart := false }
def NearThirdSaid : Prop := nearThirdRow.holds Try.pinned (OpenSpec.ofChange nearThirdSpec)

/-- ITS FALSE NEIGHBOUR: 'it returns false'. Refute it at one input. -/
def nearThirdWrong : ChangeSpec := { name := "nearThird", fn := fun _ => fun
  | [d1, d2, d3] => { results := [.lit (.bool false)], args := [d1, d2, d3] }
  | _ => none }
def NearThirdWrongFalsely : Prop := nearThirdRow.holds Try.pinned (OpenSpec.ofChange nearThirdWrong)

/-- 'ringroadlaw10.NearOpens': WHATEVER THE INPUT: true; the input reads as it did. -/
def nearOpensSpec : ChangeSpec := { name := "nearOpens", fn := fun _ => fun
  | [d1, d2, d3, d4] => { results := [.lit (.bool true)], args := [d1, d2, d3, d4] }
  | _ => none }
def nearOpensRow : OpenClaim := { program := "ytliofdfhimmjmaa", sum := "e1b76169263904da44b57f5c8c985da941407fe5c649d44749ef4c4ffa97c527", func := "ringroad/ringroadlaw10.NearOpens", spec := "nearOpens", inPlace := ["slices.overlaps[int]"], unfollowed := true, recurses := true, apart := false }
def NearOpensSaid : Prop := nearOpensRow.holds Try.pinned (OpenSpec.ofChange nearOpensSpec)

/-- ITS FALSE NEIGHBOUR: 'it returns false'. Refute it at one input. -/
def nearOpensWrong : ChangeSpec := { name := "nearOpens", fn := fun _ => fun
  | [d1, d2, d3, d4] => { results := [.lit (.bool false)], args := [d1, d2, d3, d4] }
  | _ => none }
def NearOpensWrongFalsely : Prop := nearOpensRow.holds Try.pinned (OpenSpec.ofChange nearOpensWrong)

/-- 'ringroadlaw10.NearTells': WHATEVER THE INPUT: true; the input reads as it did. -/
def nearTellsSpec : ChangeSpec := { name := "nearTells", fn := fun _ => fun
  | [d1, d2, d3] => { results := [.lit (.bool true)], args := [d1, d2, d3] }
  | _ => none }
def nearTellsRow : OpenClaim := { program := "ytliofdfhimmjmaa", sum := "e1b76169263904da44b57f5c8c985da941407fe5c649d44749ef4c4ffa97c527", func := "ringroad/ringroadlaw10.NearTells", spec := "nearTells", inPlace := ["slices.overlaps[int]"], unfollowed := true, recurses := true, apart := false }
def NearTellsSaid : Prop := nearTellsRow.holds Try.pinned (OpenSpec.ofChange nearTellsSpec)

/-- ITS FALSE NEIGHBOUR: 'it returns false'. Refute it at one input. -/
def nearTellsWrong : ChangeSpec := { name := "nearTells", fn := fun _ => fun
  | [d1, d2, d3] => { results := [.lit (.bool false)], args := [d1, d2, d3] }
  | _ => none }
def NearTellsWrongFalsely : Prop := nearTellsRow.holds Try.pinned (OpenSpec.ofChange nearTellsWrong)

/-- 'ringroadlaw11.BothDists': WHATEVER THE INPUT: true; the input reads as it did. -/
def bothDistsSpec : ChangeSpec := { name := "bothDists", fn := fun _ => fun
  | [d1, d2] => { results := [.lit (.bool true)], args := [d1, d2] }
  | _ => none }
def bothDistsRow : OpenClaim := { program := "ytliofdfhimmjmaa", sum := "e1b76169263904da44b57f5c8c985da941407fe5c649d44749ef4c4ffa97c527", func := "ringroad/ringroadlaw11.BothDists", spec := "bothDists", inPlace := ["slices.overlaps[int]"], unfollowed := true, recurses := true, apart := false }
def BothDistsSaid : Prop := bothDistsRow.holds Try.pinned (OpenSpec.ofChange bothDistsSpec)

/-- ITS FALSE NEIGHBOUR: 'it returns false'. Refute it at one input. -/
def bothDistsWrong : ChangeSpec := { name := "bothDists", fn := fun _ => fun
  | [d1, d2] => { results := [.lit (.bool false)], args := [d1, d2] }
  | _ => none }
def BothDistsWrongFalsely : Prop := bothDistsRow.holds Try.pinned (OpenSpec.ofChange bothDistsWrong)

/-- 'ringroadlaw11.BothPaths': WHATEVER THE INPUT: true; the input reads as it did. -/
def bothPathsSpec : ChangeSpec := { name := "bothPaths", fn := fun _ => fun
  | [d1, d2, d3, d4] => { results := [.lit (.bool true)], args := [d1, d2, d3, d4] }
  | _ => none }
def bothPathsRow : OpenClaim := { program := "ytliofdfhimmjmaa", sum := "e1b76169263904da44b57f5c8c985da941407fe5c649d44749ef4c4ffa97c527", func := "ringroad/ringroadlaw11.BothPaths", spec := "bothPaths", inPlace := ["slices.overlaps[int]"], unfollowed := true, recurses := true, apart := false }
def BothPathsSaid : Prop := bothPathsRow.holds Try.pinned (OpenSpec.ofChange bothPathsSpec)

/-- ITS FALSE NEIGHBOUR: 'it returns false'. Refute it at one input. -/
def bothPathsWrong : ChangeSpec := { name := "bothPaths", fn := fun _ => fun
  | [d1, d2, d3, d4] => { results := [.lit (.bool false)], args := [d1, d2, d3, d4] }
  | _ => none }
def BothPathsWrongFalsely : Prop := bothPathsRow.holds Try.pinned (OpenSpec.ofChange bothPathsWrong)

/-- 'ringroadlaw11.BothAgree': WHATEVER THE INPUT: true; the input reads as it did. -/
def bothAgreeSpec : ChangeSpec := { name := "bothAgree", fn := fun _ => fun
  | [d1, d2, d3, d4] => { results := [.lit (.bool true)], args := [d1, d2, d3, d4] }
  | _ => none }
def bothAgreeRow : OpenClaim := { program := "ytliofdfhimmjmaa", sum := "e1b76169263904da44b57f5c8c985da941407fe5c649d44749ef4c4ffa97c527", func := "ringroad/ringroadlaw11.BothAgree", spec := "bothAgree", inPlace := ["slices.overlaps[int]"], unfollowed := true, recurses := true, apart := false }
def BothAgreeSaid : Prop := bothAgreeRow.holds Try.pinned (OpenSpec.ofChange bothAgreeSpec)

/-- ITS FALSE NEIGHBOUR: 'it returns false'. Refute it at one input. -/
def bothAgreeWrong : ChangeSpec := { name := "bothAgree", fn := fun _ => fun
  | [d1, d2, d3, d4] => { results := [.lit (.bool false)], args := [d1, d2, d3, d4] }
  | _ => none }
def BothAgreeWrongFalsely : Prop := bothAgreeRow.holds Try.pinned (OpenSpec.ofChange bothAgreeWrong)

/- THE SECOND FORM. 'bulk': how many values and letters a reading holds, each counted each time it is reached (what is shared counts as often as it is met; a slice's spare places count too). A statement '..UptoSaid' is the law's where the arguments, and the package variables that the reading takes, are together of bulk at most 1048576: NARROWER than '..Said'. Prove '..Said' where nothing that the law and all that it calls make is longer than what came in: it says more and counts as full. Else prove '..UptoSaid'. A law counts once. -/
mutual
def uptoBulk {H : Type} : DataW H → Nat
  | .lit (.string bytes) => bytes.length + 1
  | .lit _ => 1
  | .nil => 1
  | .ptr d => uptoBulk d + 1
  | .slice elems spare => uptoBulkAll elems + uptoBulkAll spare + 1
  | .agg parts => uptoBulkAll parts + 1
  | .iface _ d => uptoBulk d + 1
  | .map entries => uptoBulkEntries entries + 1
  | .held _ => 1
def uptoBulkAll {H : Type} : List (DataW H) → Nat
  | [] => 0
  | d :: r => uptoBulk d + uptoBulkAll r
def uptoBulkEntries {H : Type} : List (Lit × DataW H) → Nat
  | [] => 0
  | x :: r => uptoBulkEntry x + uptoBulkEntries r
def uptoBulkEntry {H : Type} : Lit × DataW H → Nat
  | (.string bytes, d) => bytes.length + uptoBulk d + 1
  | (_, d) => uptoBulk d + 1
 end
def uptoSmall : (H : Type) → List (DataW H) → Bool := fun _ ds => decide (uptoBulkAll ds ≤ 1048576)
def OpenSpec.upto (s : _root_.Go.ChangeSpec) : _root_.Go.OpenSpec := { _root_.Go.OpenSpec.ofChange s with cond := some uptoSmall }

/-- 'ringroadlaw10.NearPaths', WHERE WHAT IT READS IS OF BULK AT MOST 1048576: true; the input reads as it did. -/
def nearPathsUptoRow : OpenClaim := { program := "ytliofdfhimmjmaa", sum := "e1b76169263904da44b57f5c8c985da941407fe5c649d44749ef4c4ffa97c527", func := "ringroad/ringroadlaw10.NearPaths", spec := "nearPaths", inPlace := ["slices.overlaps[int]"], unfollowed := true, recurses := true, apart := false, narrowed := true }
def NearPathsUptoSaid : Prop := nearPathsUptoRow.holds Try.pinned (OpenSpec.upto nearPathsSpec)

/-- 'ringroadlaw10.NearThird', WHERE WHAT IT READS IS OF BULK AT MOST 1048576: true; the input reads as it did. -/
def nearThirdUptoRow : OpenClaim := { program := "ytliofdfhimmjmaa", sum := "e1b76169263904da44b57f5c8c985da941407fe5c649d44749ef4c4ffa97c527", func := "ringroad/ringroadlaw10.NearThird", spec := "nearThird", inPlace := ["slices.overlaps[int]"], unfollowed := true, recurses := true, apart := false, narrowed := true }
def NearThirdUptoSaid : Prop := nearThirdUptoRow.holds Try.pinned (OpenSpec.upto nearThirdSpec)

/-- 'ringroadlaw10.NearOpens', WHERE WHAT IT READS IS OF BULK AT MOST 1048576: true; the input reads as it did. -/
def nearOpensUptoRow : OpenClaim := { program := "ytliofdfhimmjmaa", sum := "e1b76169263904da44b57f5c8c985da941407fe5c649d44749ef4c4ffa97c527", func := "ringroad/ringroadlaw10.NearOpens", spec := "nearOpens", inPlace := ["slices.overlaps[int]"], unfollowed := true, recurses := true, apart := false, narrowed := true }
def NearOpensUptoSaid : Prop := nearOpensUptoRow.holds Try.pinned (OpenSpec.upto nearOpensSpec)

/-- 'ringroadlaw10.NearTells', WHERE WHAT IT READS IS OF BULK AT MOST 1048576: true; the input reads as it did. -/
def nearTellsUptoRow : OpenClaim := { program := "ytliofdfhimmjmaa", sum := "e1b76169263904da44b57f5c8c985da941407fe5c649d44749ef4c4ffa97c527", func := "ringroad/ringroadlaw10.NearTells", spec := "nearTells", inPlace := ["slices.overlaps[int]"], unfollowed := true, recurses := true, apart := false, narrowed := true }
def NearTellsUptoSaid : Prop := nearTellsUptoRow.holds Try.pinned (OpenSpec.upto nearTellsSpec)

/-- 'ringroadlaw11.BothDists', WHERE WHAT IT READS IS OF BULK AT MOST 1048576: true; the input reads as it did. -/
def bothDistsUptoRow : OpenClaim := { program := "ytliofdfhimmjmaa", sum := "e1b76169263904da44b57f5c8c985da941407fe5c649d44749ef4c4ffa97c527", func := "ringroad/ringroadlaw11.BothDists", spec := "bothDists", inPlace := ["slices.overlaps[int]"], unfollowed := true, recurses := true, apart := false, narrowed := true }
def BothDistsUptoSaid : Prop := bothDistsUptoRow.holds Try.pinned (OpenSpec.upto bothDistsSpec)

/-- 'ringroadlaw11.BothPaths', WHERE WHAT IT READS IS OF BULK AT MOST 1048576: true; the input reads as it did. -/
def bothPathsUptoRow : OpenClaim := { program := "ytliofdfhimmjmaa", sum := "e1b76169263904da44b57f5c8c985da941407fe5c649d44749ef4c4ffa97c527", func := "ringroad/ringroadlaw11.BothPaths", spec := "bothPaths", inPlace := ["slices.overlaps[int]"], unfollowed := true, recurses := true, apart := false, narrowed := true }
def BothPathsUptoSaid : Prop := bothPathsUptoRow.holds Try.pinned (OpenSpec.upto bothPathsSpec)

/-- 'ringroadlaw11.BothAgree', WHERE WHAT IT READS IS OF BULK AT MOST 1048576: true; the input reads as it did. -/
def bothAgreeUptoRow : OpenClaim := { program := "ytliofdfhimmjmaa", sum := "e1b76169263904da44b57f5c8c985da941407fe5c649d44749ef4c4ffa97c527", func := "ringroad/ringroadlaw11.BothAgree", spec := "bothAgree", inPlace := ["slices.overlaps[int]"], unfollowed := true, recurses := true, apart := false, narrowed := true }
def BothAgreeUptoSaid : Prop := bothAgreeUptoRow.holds Try.pinned (OpenSpec.upto bothAgreeSpec)

end Rows
end Go.Proofs.Ytliofdfhimmjmaa
