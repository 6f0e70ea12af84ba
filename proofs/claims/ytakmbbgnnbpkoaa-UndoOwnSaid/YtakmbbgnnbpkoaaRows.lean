/-
  No cell of these rows narrows 'for every input' (looked for: loops, veiled, ifaces, maps, wideKeys, modest, calm, conditions, laid).
  DERIVED. THE GIVEN ROWS OF THIS SEAT. 14 by the template 'for every input the law returns true; each argument reads behind the call as it read before'; 0 by the template 'total and deterministic' (their statements: YtakmbbgnnbpkoaaTotals.lean).
  GIVEN WITH THE SEED: the statements are not yours to turn. If you find one false, say at which input.
  Laid BY PROGRAM, IN A SANDBOX (cutbox-rows.mjs): the forced cells as the released guide's own fill.sh prints them over the translation 90901d5d803a4cf1… (all of the seat's roots in one cut). By AI agents, Wed Nov 11 2026. No macro, syntax, notation, axiom, sorry.
-/
import Derived.Test.YtakmbbgnnbpkoaaChecked
import GoSem.Claim
import GoSem.ClaimJoined
import GoSem.ClaimMapViews
import Derived.JoinedTies
import Derived.KernelRfl
namespace Go.Proofs.Ytakmbbgnnbpkoaa
/- THE CELL 'sum', in the pinned program and in every row, IS THE sha256 OF THE DUMP (.gsa) THAT YtakmbbgnnbpkoaaProg.lean LOADS. Nothing in Lean hashes anything: it is a label: what it is worth is what the hold of that sum in a sandbox is worth. -/
noncomputable def Try.pinned : Pinned := { name := "ytakmbbgnnbpkoaa", sum := "90901d5d803a4cf108405c063fb3820ad0ca7486a1af167e4705377e23ba45a6", checked := Try.checked }
namespace Rows
def none {H : Type} : Left H := { results := [], args := [] }

/-- 'ringroadlaw08.GraphBests': WHATEVER THE INPUT: true; the input reads as it did. -/
def graphBestsSpec : ChangeSpec := { name := "graphBests", fn := fun _ => fun
  | [d1, d2, d3, d4] => { results := [.lit (.bool true)], args := [d1, d2, d3, d4] }
  | _ => none }
def graphBestsRow : OpenClaim := { program := "ytakmbbgnnbpkoaa", sum := "90901d5d803a4cf108405c063fb3820ad0ca7486a1af167e4705377e23ba45a6", func := "ringroad/ringroadlaw08.GraphBests", spec := "graphBests", inPlace := ["slices.overlaps[int]"], unfollowed := true, recurses := true, apart := false }
def GraphBestsSaid : Prop := graphBestsRow.holds Try.pinned (OpenSpec.ofChange graphBestsSpec)

/-- ITS FALSE NEIGHBOUR: 'it returns false'. Refute it at one input. -/
def graphBestsWrong : ChangeSpec := { name := "graphBests", fn := fun _ => fun
  | [d1, d2, d3, d4] => { results := [.lit (.bool false)], args := [d1, d2, d3, d4] }
  | _ => none }
def GraphBestsWrongFalsely : Prop := graphBestsRow.holds Try.pinned (OpenSpec.ofChange graphBestsWrong)

/-- 'ringroadlaw08.GraphEnds': WHATEVER THE INPUT: true; the input reads as it did. -/
def graphEndsSpec : ChangeSpec := { name := "graphEnds", fn := fun _ => fun
  | [d1, d2, d3, d4, d5] => { results := [.lit (.bool true)], args := [d1, d2, d3, d4, d5] }
  | _ => none }
def graphEndsRow : OpenClaim := { program := "ytakmbbgnnbpkoaa", sum := "90901d5d803a4cf108405c063fb3820ad0ca7486a1af167e4705377e23ba45a6", func := "ringroad/ringroadlaw08.GraphEnds", spec := "graphEnds", inPlace := ["slices.overlaps[int]"], unfollowed := true, recurses := true, apart := false }
def GraphEndsSaid : Prop := graphEndsRow.holds Try.pinned (OpenSpec.ofChange graphEndsSpec)

/-- ITS FALSE NEIGHBOUR: 'it returns false'. Refute it at one input. -/
def graphEndsWrong : ChangeSpec := { name := "graphEnds", fn := fun _ => fun
  | [d1, d2, d3, d4, d5] => { results := [.lit (.bool false)], args := [d1, d2, d3, d4, d5] }
  | _ => none }
def GraphEndsWrongFalsely : Prop := graphEndsRow.holds Try.pinned (OpenSpec.ofChange graphEndsWrong)

/-- 'ringroadlaw08.GraphPlays': WHATEVER THE INPUT: true; the input reads as it did. -/
def graphPlaysSpec : ChangeSpec := { name := "graphPlays", fn := fun _ => fun
  | [d1, d2, d3] => { results := [.lit (.bool true)], args := [d1, d2, d3] }
  | _ => none }
def graphPlaysRow : OpenClaim := { program := "ytakmbbgnnbpkoaa", sum := "90901d5d803a4cf108405c063fb3820ad0ca7486a1af167e4705377e23ba45a6", func := "ringroad/ringroadlaw08.GraphPlays", spec := "graphPlays", inPlace := ["slices.overlaps[int]"], unfollowed := true, recurses := true, apart := false }
def GraphPlaysSaid : Prop := graphPlaysRow.holds Try.pinned (OpenSpec.ofChange graphPlaysSpec)

/-- ITS FALSE NEIGHBOUR: 'it returns false'. Refute it at one input. -/
def graphPlaysWrong : ChangeSpec := { name := "graphPlays", fn := fun _ => fun
  | [d1, d2, d3] => { results := [.lit (.bool false)], args := [d1, d2, d3] }
  | _ => none }
def GraphPlaysWrongFalsely : Prop := graphPlaysRow.holds Try.pinned (OpenSpec.ofChange graphPlaysWrong)

/-- 'ringroadlaw08.GraphRefuses': WHATEVER THE INPUT: true; the input reads as it did. -/
def graphRefusesSpec : ChangeSpec := { name := "graphRefuses", fn := fun _ => fun
  | [d1, d2, d3] => { results := [.lit (.bool true)], args := [d1, d2, d3] }
  | _ => none }
def graphRefusesRow : OpenClaim := { program := "ytakmbbgnnbpkoaa", sum := "90901d5d803a4cf108405c063fb3820ad0ca7486a1af167e4705377e23ba45a6", func := "ringroad/ringroadlaw08.GraphRefuses", spec := "graphRefuses", inPlace := ["slices.overlaps[int]"], unfollowed := true, recurses := true, apart := false }
def GraphRefusesSaid : Prop := graphRefusesRow.holds Try.pinned (OpenSpec.ofChange graphRefusesSpec)

/-- ITS FALSE NEIGHBOUR: 'it returns false'. Refute it at one input. -/
def graphRefusesWrong : ChangeSpec := { name := "graphRefuses", fn := fun _ => fun
  | [d1, d2, d3] => { results := [.lit (.bool false)], args := [d1, d2, d3] }
  | _ => none }
def GraphRefusesWrongFalsely : Prop := graphRefusesRow.holds Try.pinned (OpenSpec.ofChange graphRefusesWrong)

/-- 'ringroadlaw08.GraphCopies': WHATEVER THE INPUT: true; the input reads as it did. -/
def graphCopiesSpec : ChangeSpec := { name := "graphCopies", fn := fun _ => fun
  | [d1, d2, d3] => { results := [.lit (.bool true)], args := [d1, d2, d3] }
  | _ => none }
def graphCopiesRow : OpenClaim := { program := "ytakmbbgnnbpkoaa", sum := "90901d5d803a4cf108405c063fb3820ad0ca7486a1af167e4705377e23ba45a6", func := "ringroad/ringroadlaw08.GraphCopies", spec := "graphCopies", inPlace := ["slices.overlaps[int]"], unfollowed := true, recurses := true, apart := false }
def GraphCopiesSaid : Prop := graphCopiesRow.holds Try.pinned (OpenSpec.ofChange graphCopiesSpec)

/-- ITS FALSE NEIGHBOUR: 'it returns false'. Refute it at one input. -/
def graphCopiesWrong : ChangeSpec := { name := "graphCopies", fn := fun _ => fun
  | [d1, d2, d3] => { results := [.lit (.bool false)], args := [d1, d2, d3] }
  | _ => none }
def GraphCopiesWrongFalsely : Prop := graphCopiesRow.holds Try.pinned (OpenSpec.ofChange graphCopiesWrong)

/-- 'ringroadlaw09.WalkChecks': WHATEVER THE INPUT: true; the input reads as it did. -/
def walkChecksSpec : ChangeSpec := { name := "walkChecks", fn := fun _ => fun
  | [d1, d2, d3, d4, d5] => { results := [.lit (.bool true)], args := [d1, d2, d3, d4, d5] }
  | _ => none }
def walkChecksRow : OpenClaim := { program := "ytakmbbgnnbpkoaa", sum := "90901d5d803a4cf108405c063fb3820ad0ca7486a1af167e4705377e23ba45a6", func := "ringroad/ringroadlaw09.WalkChecks", spec := "walkChecks", inPlace := ["slices.overlaps[int]"], unfollowed := true, recurses := true, apart := false }
def WalkChecksSaid : Prop := walkChecksRow.holds Try.pinned (OpenSpec.ofChange walkChecksSpec)

/-- ITS FALSE NEIGHBOUR: 'it returns false'. Refute it at one input. -/
def walkChecksWrong : ChangeSpec := { name := "walkChecks", fn := fun _ => fun
  | [d1, d2, d3, d4, d5] => { results := [.lit (.bool false)], args := [d1, d2, d3, d4, d5] }
  | _ => none }
def WalkChecksWrongFalsely : Prop := walkChecksRow.holds Try.pinned (OpenSpec.ofChange walkChecksWrong)

/-- 'ringroadlaw09.WalkVisits': WHATEVER THE INPUT: true; the input reads as it did. -/
def walkVisitsSpec : ChangeSpec := { name := "walkVisits", fn := fun _ => fun
  | [d1, d2, d3, d4] => { results := [.lit (.bool true)], args := [d1, d2, d3, d4] }
  | _ => none }
def walkVisitsRow : OpenClaim := { program := "ytakmbbgnnbpkoaa", sum := "90901d5d803a4cf108405c063fb3820ad0ca7486a1af167e4705377e23ba45a6", func := "ringroad/ringroadlaw09.WalkVisits", spec := "walkVisits", inPlace := ["slices.overlaps[int]"], unfollowed := true, recurses := true, apart := false }
def WalkVisitsSaid : Prop := walkVisitsRow.holds Try.pinned (OpenSpec.ofChange walkVisitsSpec)

/-- ITS FALSE NEIGHBOUR: 'it returns false'. Refute it at one input. -/
def walkVisitsWrong : ChangeSpec := { name := "walkVisits", fn := fun _ => fun
  | [d1, d2, d3, d4] => { results := [.lit (.bool false)], args := [d1, d2, d3, d4] }
  | _ => none }
def WalkVisitsWrongFalsely : Prop := walkVisitsRow.holds Try.pinned (OpenSpec.ofChange walkVisitsWrong)

/-- 'ringroadlaw09.WalkJoins': WHATEVER THE INPUT: true; the input reads as it did. -/
def walkJoinsSpec : ChangeSpec := { name := "walkJoins", fn := fun _ => fun
  | [d1, d2, d3, d4, d5] => { results := [.lit (.bool true)], args := [d1, d2, d3, d4, d5] }
  | _ => none }
def walkJoinsRow : OpenClaim := { program := "ytakmbbgnnbpkoaa", sum := "90901d5d803a4cf108405c063fb3820ad0ca7486a1af167e4705377e23ba45a6", func := "ringroad/ringroadlaw09.WalkJoins", spec := "walkJoins", inPlace := ["slices.overlaps[int]"], unfollowed := true, recurses := true, apart := false }
def WalkJoinsSaid : Prop := walkJoinsRow.holds Try.pinned (OpenSpec.ofChange walkJoinsSpec)

/-- ITS FALSE NEIGHBOUR: 'it returns false'. Refute it at one input. -/
def walkJoinsWrong : ChangeSpec := { name := "walkJoins", fn := fun _ => fun
  | [d1, d2, d3, d4, d5] => { results := [.lit (.bool false)], args := [d1, d2, d3, d4, d5] }
  | _ => none }
def WalkJoinsWrongFalsely : Prop := walkJoinsRow.holds Try.pinned (OpenSpec.ofChange walkJoinsWrong)

/-- 'ringroadlaw09.WalkCuts': WHATEVER THE INPUT: true; the input reads as it did. -/
def walkCutsSpec : ChangeSpec := { name := "walkCuts", fn := fun _ => fun
  | [d1, d2, d3, d4] => { results := [.lit (.bool true)], args := [d1, d2, d3, d4] }
  | _ => none }
def walkCutsRow : OpenClaim := { program := "ytakmbbgnnbpkoaa", sum := "90901d5d803a4cf108405c063fb3820ad0ca7486a1af167e4705377e23ba45a6", func := "ringroad/ringroadlaw09.WalkCuts", spec := "walkCuts", inPlace := ["slices.overlaps[int]"], unfollowed := true, recurses := true, apart := false }
def WalkCutsSaid : Prop := walkCutsRow.holds Try.pinned (OpenSpec.ofChange walkCutsSpec)

/-- ITS FALSE NEIGHBOUR: 'it returns false'. Refute it at one input. -/
def walkCutsWrong : ChangeSpec := { name := "walkCuts", fn := fun _ => fun
  | [d1, d2, d3, d4] => { results := [.lit (.bool false)], args := [d1, d2, d3, d4] }
  | _ => none }
def WalkCutsWrongFalsely : Prop := walkCutsRow.holds Try.pinned (OpenSpec.ofChange walkCutsWrong)

/-- 'ringroadlaw09.WalkBreaks': WHATEVER THE INPUT: true; the input reads as it did. -/
def walkBreaksSpec : ChangeSpec := { name := "walkBreaks", fn := fun _ => fun
  | [d1, d2, d3, d4, d5, d6] => { results := [.lit (.bool true)], args := [d1, d2, d3, d4, d5, d6] }
  | _ => none }
def walkBreaksRow : OpenClaim := { program := "ytakmbbgnnbpkoaa", sum := "90901d5d803a4cf108405c063fb3820ad0ca7486a1af167e4705377e23ba45a6", func := "ringroad/ringroadlaw09.WalkBreaks", spec := "walkBreaks", inPlace := ["slices.overlaps[int]"], unfollowed := true, recurses := true, apart := false }
def WalkBreaksSaid : Prop := walkBreaksRow.holds Try.pinned (OpenSpec.ofChange walkBreaksSpec)

/-- ITS FALSE NEIGHBOUR: 'it returns false'. Refute it at one input. -/
def walkBreaksWrong : ChangeSpec := { name := "walkBreaks", fn := fun _ => fun
  | [d1, d2, d3, d4, d5, d6] => { results := [.lit (.bool false)], args := [d1, d2, d3, d4, d5, d6] }
  | _ => none }
def WalkBreaksWrongFalsely : Prop := walkBreaksRow.holds Try.pinned (OpenSpec.ofChange walkBreaksWrong)

/-- 'ringroadlaw24.UndoPlays': WHATEVER THE INPUT: true; the input reads as it did. -/
def undoPlaysSpec : ChangeSpec := { name := "undoPlays", fn := fun _ => fun
  | [d1, d2, d3, d4] => { results := [.lit (.bool true)], args := [d1, d2, d3, d4] }
  | _ => none }
def undoPlaysRow : OpenClaim := { program := "ytakmbbgnnbpkoaa", sum := "90901d5d803a4cf108405c063fb3820ad0ca7486a1af167e4705377e23ba45a6", func := "ringroad/ringroadlaw24.UndoPlays", spec := "undoPlays", inPlace := ["slices.overlaps[int]"], unfollowed := true, recurses := true, apart := false }
def UndoPlaysSaid : Prop := undoPlaysRow.holds Try.pinned (OpenSpec.ofChange undoPlaysSpec)

/-- ITS FALSE NEIGHBOUR: 'it returns false'. Refute it at one input. -/
def undoPlaysWrong : ChangeSpec := { name := "undoPlays", fn := fun _ => fun
  | [d1, d2, d3, d4] => { results := [.lit (.bool false)], args := [d1, d2, d3, d4] }
  | _ => none }
def UndoPlaysWrongFalsely : Prop := undoPlaysRow.holds Try.pinned (OpenSpec.ofChange undoPlaysWrong)

/-- 'ringroadlaw24.UndoBack': WHATEVER THE INPUT: true; the input reads as it did. -/
def undoBackSpec : ChangeSpec := { name := "undoBack", fn := fun _ => fun
  | [d1, d2, d3] => { results := [.lit (.bool true)], args := [d1, d2, d3] }
  | _ => none }
def undoBackRow : OpenClaim := { program := "ytakmbbgnnbpkoaa", sum := "90901d5d803a4cf108405c063fb3820ad0ca7486a1af167e4705377e23ba45a6", func := "ringroad/ringroadlaw24.UndoBack", spec := "undoBack", inPlace := ["slices.overlaps[int]"], unfollowed := true, recurses := true, apart := false }
def UndoBackSaid : Prop := undoBackRow.holds Try.pinned (OpenSpec.ofChange undoBackSpec)

/-- ITS FALSE NEIGHBOUR: 'it returns false'. Refute it at one input. -/
def undoBackWrong : ChangeSpec := { name := "undoBack", fn := fun _ => fun
  | [d1, d2, d3] => { results := [.lit (.bool false)], args := [d1, d2, d3] }
  | _ => none }
def UndoBackWrongFalsely : Prop := undoBackRow.holds Try.pinned (OpenSpec.ofChange undoBackWrong)

/-- 'ringroadlaw24.UndoOwn': WHATEVER THE INPUT: true; the input reads as it did. -/
def undoOwnSpec : ChangeSpec := { name := "undoOwn", fn := fun _ => fun
  | [d1, d2, d3] => { results := [.lit (.bool true)], args := [d1, d2, d3] }
  | _ => none }
def undoOwnRow : OpenClaim := { program := "ytakmbbgnnbpkoaa", sum := "90901d5d803a4cf108405c063fb3820ad0ca7486a1af167e4705377e23ba45a6", func := "ringroad/ringroadlaw24.UndoOwn", spec := "undoOwn", inPlace := ["slices.overlaps[int]"], unfollowed := true, recurses := true, apart := false }
def UndoOwnSaid : Prop := undoOwnRow.holds Try.pinned (OpenSpec.ofChange undoOwnSpec)

/-- ITS FALSE NEIGHBOUR: 'it returns false'. Refute it at one input. -/
def undoOwnWrong : ChangeSpec := { name := "undoOwn", fn := fun _ => fun
  | [d1, d2, d3] => { results := [.lit (.bool false)], args := [d1, d2, d3] }
  | _ => none }
def UndoOwnWrongFalsely : Prop := undoOwnRow.holds Try.pinned (OpenSpec.ofChange undoOwnWrong)

/-- 'ringroadlaw24.UndoTwice': WHATEVER THE INPUT: true; the input reads as it did. -/
def undoTwiceSpec : ChangeSpec := { name := "undoTwice", fn := fun _ => fun
  | [d1, d2, d3] => { results := [.lit (.bool true)], args := [d1, d2, d3] }
  | _ => none }
def undoTwiceRow : OpenClaim := { program := "ytakmbbgnnbpkoaa", sum := "90901d5d803a4cf108405c063fb3820ad0ca7486a1af167e4705377e23ba45a6", func := "ringroad/ringroadlaw24.UndoTwice", spec := "undoTwice", inPlace := ["slices.overlaps[int]"], unfollowed := true, recurses := true, apart := false }
def UndoTwiceSaid : Prop := undoTwiceRow.holds Try.pinned (OpenSpec.ofChange undoTwiceSpec)

/-- ITS FALSE NEIGHBOUR: 'it returns false'. Refute it at one input. -/
def undoTwiceWrong : ChangeSpec := { name := "undoTwice", fn := fun _ => fun
  | [d1, d2, d3] => { results := [.lit (.bool false)], args := [d1, d2, d3] }
  | _ => none }
def UndoTwiceWrongFalsely : Prop := undoTwiceRow.holds Try.pinned (OpenSpec.ofChange undoTwiceWrong)

/- THE SECOND FORM. 'bulk': how many values and letters a reading holds, each counted each time it is reached (what is shared counts as often as it is met; a slice's spare places count too). A statement '..UptoSaid' is the law's where the arguments, and the package variables that the reading takes, are together of bulk at most 1048576: NARROWER than '..Said'. Prove '..Said' where nothing that the law and all that it calls make is longer than what came in: it says more and counts as full. Else prove '..UptoSaid'. A law counts once. -/
mutual
def uptoBulk {H : Type} : DataW H → Nat
  | .lit (.string bytes) => bytes.length + 1
  | .lit _ => 1
  | .nil => 1
  | .ptr d => uptoBulk d + 1
  | .slice elems spare => uptoBulkAll elems + uptoBulkAll spare + 1
  | .agg parts => uptoBulkAll parts + 1
  | .iface _ d => uptoBulk d + 1
  | .map entries => uptoBulkEntries entries + 1
  | .held _ => 1
def uptoBulkAll {H : Type} : List (DataW H) → Nat
  | [] => 0
  | d :: r => uptoBulk d + uptoBulkAll r
def uptoBulkEntries {H : Type} : List (Lit × DataW H) → Nat
  | [] => 0
  | x :: r => uptoBulkEntry x + uptoBulkEntries r
def uptoBulkEntry {H : Type} : Lit × DataW H → Nat
  | (.string bytes, d) => bytes.length + uptoBulk d + 1
  | (_, d) => uptoBulk d + 1
 end
def uptoSmall : (H : Type) → List (DataW H) → Bool := fun _ ds => decide (uptoBulkAll ds ≤ 1048576)
def OpenSpec.upto (s : _root_.Go.ChangeSpec) : _root_.Go.OpenSpec := { _root_.Go.OpenSpec.ofChange s with cond := some uptoSmall }

/-- 'ringroadlaw08.GraphBests', WHERE WHAT IT READS IS OF BULK AT MOST 1048576: true; the input reads as it did. -/
def graphBestsUptoRow : OpenClaim := { program := "ytakmbbgnnbpkoaa", sum := "90901d5d803a4cf108405c063fb3820ad0ca7486a1af167e4705377e23ba45a6", func := "ringroad/ringroadlaw08.GraphBests", spec := "graphBests", inPlace := ["slices.overlaps[int]"], unfollowed := true, recurses := true, apart := false, narrowed := true }
def GraphBestsUptoSaid : Prop := graphBestsUptoRow.holds Try.pinned (OpenSpec.upto graphBestsSpec)

/-- 'ringroadlaw08.GraphEnds', WHERE WHAT IT READS IS OF BULK AT MOST 1048576: true; the input reads as it did. -/
def graphEndsUptoRow : OpenClaim := { program := "ytakmbbgnnbpkoaa", sum := "90901d5d803a4cf108405c063fb3820ad0ca7486a1af167e4705377e23ba45a6", func := "ringroad/ringroadlaw08.GraphEnds", spec := "graphEnds", inPlace := ["slices.overlaps[int]"], unfollowed := true, recurses := true, apart := false, narrowed := true }
def GraphEndsUptoSaid : Prop := graphEndsUptoRow.holds Try.pinned (OpenSpec.upto graphEndsSpec)

/-- 'ringroadlaw08.GraphPlays', WHERE WHAT IT READS IS OF BULK AT MOST 1048576: true; the input reads as it did. -/
def graphPlaysUptoRow : OpenClaim := { program := "ytakmbbgnnbpkoaa", sum := "90901d5d803a4cf108405c063fb3820ad0ca7486a1af167e4705377e23ba45a6", func := "ringroad/ringroadlaw08.GraphPlays", spec := "graphPlays", inPlace := ["slices.overlaps[int]"], unfollowed := true, recurses := true, apart := false, narrowed := true }
def GraphPlaysUptoSaid : Prop := graphPlaysUptoRow.holds Try.pinned (OpenSpec.upto graphPlaysSpec)

/-- 'ringroadlaw08.GraphRefuses', WHERE WHAT IT READS IS OF BULK AT MOST 1048576: true; the input reads as it did. -/
def graphRefusesUptoRow : OpenClaim := { program := "ytakmbbgnnbpkoaa", sum := "90901d5d803a4cf108405c063fb3820ad0ca7486a1af167e4705377e23ba45a6", func := "ringroad/ringroadlaw08.GraphRefuses", spec := "graphRefuses", inPlace := ["slices.overlaps[int]"], unfollowed := true, recurses := true, apart := false, narrowed := true }
def GraphRefusesUptoSaid : Prop := graphRefusesUptoRow.holds Try.pinned (OpenSpec.upto graphRefusesSpec)

/-- 'ringroadlaw08.GraphCopies', WHERE WHAT IT READS IS OF BULK AT MOST 1048576: true; the input reads as it did. -/
def graphCopiesUptoRow : OpenClaim := { program := "ytakmbbgnnbpkoaa", sum := "90901d5d803a4cf108405c063fb3820ad0ca7486a1af167e4705377e23ba45a6", func := "ringroad/ringroadlaw08.GraphCopies", spec := "graphCopies", inPlace := ["slices.overlaps[int]"], unfollowed := true, recurses := true, apart := false, narrowed := true }
def GraphCopiesUptoSaid : Prop := graphCopiesUptoRow.holds Try.pinned (OpenSpec.upto graphCopiesSpec)

/-- 'ringroadlaw09.WalkChecks', WHERE WHAT IT READS IS OF BULK AT MOST 1048576: true; the input reads as it did. -/
def walkChecksUptoRow : OpenClaim := { program := "ytakmbbgnnbpkoaa", sum := "90901d5d803a4cf108405c063fb3820ad0ca7486a1af167e4705377e23ba45a6", func := "ringroad/ringroadlaw09.WalkChecks", spec := "walkChecks", inPlace := ["slices.overlaps[int]"], unfollowed := true, recurses := true, apart := false, narrowed := true }
def WalkChecksUptoSaid : Prop := walkChecksUptoRow.holds Try.pinned (OpenSpec.upto walkChecksSpec)

/-- 'ringroadlaw09.WalkVisits', WHERE WHAT IT READS IS OF BULK AT MOST 1048576: true; the input reads as it did. -/
def walkVisitsUptoRow : OpenClaim := { program := "ytakmbbgnnbpkoaa", sum := "90901d5d803a4cf108405c063fb3820ad0ca7486a1af167e4705377e23ba45a6", func := "ringroad/ringroadlaw09.WalkVisits", spec := "walkVisits", inPlace := ["slices.overlaps[int]"], unfollowed := true, recurses := true, apart := false, narrowed := true }
def WalkVisitsUptoSaid : Prop := walkVisitsUptoRow.holds Try.pinned (OpenSpec.upto walkVisitsSpec)

/-- 'ringroadlaw09.WalkJoins', WHERE WHAT IT READS IS OF BULK AT MOST 1048576: true; the input reads as it did. -/
def walkJoinsUptoRow : OpenClaim := { program := "ytakmbbgnnbpkoaa", sum := "90901d5d803a4cf108405c063fb3820ad0ca7486a1af167e4705377e23ba45a6", func := "ringroad/ringroadlaw09.WalkJoins", spec := "walkJoins", inPlace := ["slices.overlaps[int]"], unfollowed := true, recurses := true, apart := false, narrowed := true }
def WalkJoinsUptoSaid : Prop := walkJoinsUptoRow.holds Try.pinned (OpenSpec.upto walkJoinsSpec)

/-- 'ringroadlaw09.WalkCuts', WHERE WHAT IT READS IS OF BULK AT MOST 1048576: true; the input reads as it did. -/
def walkCutsUptoRow : OpenClaim := { program := "ytakmbbgnnbpkoaa", sum := "90901d5d803a4cf108405c063fb3820ad0ca7486a1af167e4705377e23ba45a6", func := "ringroad/ringroadlaw09.WalkCuts", spec := "walkCuts", inPlace := ["slices.overlaps[int]"], unfollowed := true, recurses := true, apart := false, narrowed := true }
def WalkCutsUptoSaid : Prop := walkCutsUptoRow.holds Try.pinned (OpenSpec.upto walkCutsSpec)

/-- 'ringroadlaw09.WalkBreaks', WHERE WHAT IT READS IS OF BULK AT MOST 1048576: true; the input reads as it did. -/
def walkBreaksUptoRow : OpenClaim := { program := "ytakmbbgnnbpkoaa", sum := "90901d5d803a4cf108405c063fb3820ad0ca7486a1af167e4705377e23ba45a6", func := "ringroad/ringroadlaw09.WalkBreaks", spec := "walkBreaks", inPlace := ["slices.overlaps[int]"], unfollowed := true, recurses := true, apart := false, narrowed := true }
def WalkBreaksUptoSaid : Prop := walkBreaksUptoRow.holds Try.pinned (OpenSpec.upto walkBreaksSpec)

/-- 'ringroadlaw24.UndoPlays', WHERE WHAT IT READS IS OF BULK AT MOST 1048576: true; the input reads as it did. -/
def undoPlaysUptoRow : OpenClaim := { program := "ytakmbbgnnbpkoaa", sum := "90901d5d803a4cf108405c063fb3820ad0ca7486a1af167e4705377e23ba45a6", func := "ringroad/ringroadlaw24.UndoPlays", spec := "undoPlays", inPlace := ["slices.overlaps[int]"], unfollowed := true, recurses := true, apart := false, narrowed := true }
def UndoPlaysUptoSaid : Prop := undoPlaysUptoRow.holds Try.pinned (OpenSpec.upto undoPlaysSpec)

/-- 'ringroadlaw24.UndoBack', WHERE WHAT IT READS IS OF BULK AT MOST 1048576: true; the input reads as it did. -/
def undoBackUptoRow : OpenClaim := { program := "ytakmbbgnnbpkoaa", sum := "90901d5d803a4cf108405c063fb3820ad0ca7486a1af167e4705377e23ba45a6", func := "ringroad/ringroadlaw24.UndoBack", spec := "undoBack", inPlace := ["slices.overlaps[int]"], unfollowed := true, recurses := true, apart := false, narrowed := true }
def UndoBackUptoSaid : Prop := undoBackUptoRow.holds Try.pinned (OpenSpec.upto undoBackSpec)

/-- 'ringroadlaw24.UndoOwn', WHERE WHAT IT READS IS OF BULK AT MOST 1048576: true; the input reads as it did. -/
def undoOwnUptoRow : OpenClaim := { program := "ytakmbbgnnbpkoaa", sum := "90901d5d803a4cf108405c063fb3820ad0ca7486a1af167e4705377e23ba45a6", func := "ringroad/ringroadlaw24.UndoOwn", spec := "undoOwn", inPlace := ["slices.overlaps[int]"], unfollowed := true, recurses := true, apart := false, narrowed := true }
def UndoOwnUptoSaid : Prop := undoOwnUptoRow.holds Try.pinned (OpenSpec.upto undoOwnSpec)

/-- 'ringroadlaw24.UndoTwice', WHERE WHAT IT READS IS OF BULK AT MOST 1048576: true; the input reads as it did. -/
def undoTwiceUptoRow : OpenClaim := { program := "ytakmbbgnnbpkoaa", sum := "90901d5d803a4cf108405c063fb3820ad0ca7486a1af167e4705377e23ba45a6", func := "ringroad/ringroadlaw24.UndoTwice", spec := "undoTwice", inPlace := ["slices.overlaps[int]"], unfollowed := true, recurses := true, apart := false, narrowed := true }
def UndoTwiceUptoSaid : Prop := undoTwiceUptoRow.holds Try.pinned (OpenSpec.upto undoTwiceSpec)

end Rows
end Go.Proofs.Ytakmbbgnnbpkoaa
