/-
  No cell of these rows narrows 'for every input' (looked for: loops, veiled, ifaces, maps, wideKeys, modest, calm, conditions, laid).
  DERIVED. THE GIVEN ROWS OF THIS SEAT. 7 by the template 'for every input the law returns true; each argument reads behind the call as it read before'; 0 by the template 'total and deterministic' (their statements: YtikdblejkmaloaaTotals.lean).
  GIVEN WITH THE SEED: the statements are not yours to turn. If you find one false, say at which input.
  Laid BY PROGRAM, IN A SANDBOX (cutbox-rows.mjs): the forced cells as the released guide's own fill.sh prints them over the translation a7ffb46c63fec375… (all of the seat's roots in one cut). By AI agents, Wed Nov 11 2026. No macro, syntax, notation, axiom, sorry.
-/
import Derived.Test.YtikdblejkmaloaaChecked
import GoSem.Claim
import GoSem.ClaimJoined
import GoSem.ClaimMapViews
import Derived.JoinedTies
import Derived.KernelRfl
namespace Go.Proofs.Ytikdblejkmaloaa
/- THE CELL 'sum', in the pinned program and in every row, IS THE sha256 OF THE DUMP (.gsa) THAT YtikdblejkmaloaaProg.lean LOADS. Nothing in Lean hashes anything: it is a label: what it is worth is what the hold of that sum in a sandbox is worth. -/
noncomputable def Try.pinned : Pinned := { name := "ytikdblejkmaloaa", sum := "a7ffb46c63fec3759f493347fd795348daf112bf2bac58185e36f64d7f86c42d", checked := Try.checked }
namespace Rows
def none {H : Type} : Left H := { results := [], args := [] }

/-- 'ringroadlaw05.StampPlays': WHATEVER THE INPUT: true; the input reads as it did. -/
def stampPlaysSpec : ChangeSpec := { name := "stampPlays", fn := fun _ => fun
  | [d1, d2] => { results := [.lit (.bool true)], args := [d1, d2] }
  | _ => none }
def stampPlaysRow : OpenClaim := { program := "ytikdblejkmaloaa", sum := "a7ffb46c63fec3759f493347fd795348daf112bf2bac58185e36f64d7f86c42d", func := "ringroad/ringroadlaw05.StampPlays", spec := "stampPlays", apart := false }
def StampPlaysSaid : Prop := stampPlaysRow.holds Try.pinned (OpenSpec.ofChange stampPlaysSpec)

/-- ITS FALSE NEIGHBOUR: 'it returns false'. Refute it at one input. -/
def stampPlaysWrong : ChangeSpec := { name := "stampPlays", fn := fun _ => fun
  | [d1, d2] => { results := [.lit (.bool false)], args := [d1, d2] }
  | _ => none }
def StampPlaysWrongFalsely : Prop := stampPlaysRow.holds Try.pinned (OpenSpec.ofChange stampPlaysWrong)

/-- 'ringroadlaw05.StampSets': WHATEVER THE INPUT: true; the input reads as it did. -/
def stampSetsSpec : ChangeSpec := { name := "stampSets", fn := fun _ => fun
  | [d1, d2, d3, d4, d5] => { results := [.lit (.bool true)], args := [d1, d2, d3, d4, d5] }
  | _ => none }
def stampSetsRow : OpenClaim := { program := "ytikdblejkmaloaa", sum := "a7ffb46c63fec3759f493347fd795348daf112bf2bac58185e36f64d7f86c42d", func := "ringroad/ringroadlaw05.StampSets", spec := "stampSets", apart := false }
def StampSetsSaid : Prop := stampSetsRow.holds Try.pinned (OpenSpec.ofChange stampSetsSpec)

/-- ITS FALSE NEIGHBOUR: 'it returns false'. Refute it at one input. -/
def stampSetsWrong : ChangeSpec := { name := "stampSets", fn := fun _ => fun
  | [d1, d2, d3, d4, d5] => { results := [.lit (.bool false)], args := [d1, d2, d3, d4, d5] }
  | _ => none }
def StampSetsWrongFalsely : Prop := stampSetsRow.holds Try.pinned (OpenSpec.ofChange stampSetsWrong)

/-- 'ringroadlaw05.StampGoes': WHATEVER THE INPUT: true; the input reads as it did. -/
def stampGoesSpec : ChangeSpec := { name := "stampGoes", fn := fun _ => fun
  | [d1, d2, d3] => { results := [.lit (.bool true)], args := [d1, d2, d3] }
  | _ => none }
def stampGoesRow : OpenClaim := { program := "ytikdblejkmaloaa", sum := "a7ffb46c63fec3759f493347fd795348daf112bf2bac58185e36f64d7f86c42d", func := "ringroad/ringroadlaw05.StampGoes", spec := "stampGoes", unfollowed := true, recurses := true, apart := false }
def StampGoesSaid : Prop := stampGoesRow.holds Try.pinned (OpenSpec.ofChange stampGoesSpec)

/-- ITS FALSE NEIGHBOUR: 'it returns false'. Refute it at one input. -/
def stampGoesWrong : ChangeSpec := { name := "stampGoes", fn := fun _ => fun
  | [d1, d2, d3] => { results := [.lit (.bool false)], args := [d1, d2, d3] }
  | _ => none }
def StampGoesWrongFalsely : Prop := stampGoesRow.holds Try.pinned (OpenSpec.ofChange stampGoesWrong)

/-- 'ringroadlaw06.RingPlays': WHATEVER THE INPUT: true; the input reads as it did. -/
def ringPlaysSpec : ChangeSpec := { name := "ringPlays", fn := fun _ => fun
  | [d1, d2, d3] => { results := [.lit (.bool true)], args := [d1, d2, d3] }
  | _ => none }
def ringPlaysRow : OpenClaim := { program := "ytikdblejkmaloaa", sum := "a7ffb46c63fec3759f493347fd795348daf112bf2bac58185e36f64d7f86c42d", func := "ringroad/ringroadlaw06.RingPlays", spec := "ringPlays", unfollowed := true, recurses := true, apart := false }
def RingPlaysSaid : Prop := ringPlaysRow.holds Try.pinned (OpenSpec.ofChange ringPlaysSpec)

/-- ITS FALSE NEIGHBOUR: 'it returns false'. Refute it at one input. -/
def ringPlaysWrong : ChangeSpec := { name := "ringPlays", fn := fun _ => fun
  | [d1, d2, d3] => { results := [.lit (.bool false)], args := [d1, d2, d3] }
  | _ => none }
def RingPlaysWrongFalsely : Prop := ringPlaysRow.holds Try.pinned (OpenSpec.ofChange ringPlaysWrong)

/-- 'ringroadlaw06.RingGoes': WHATEVER THE INPUT: true; the input reads as it did. -/
def ringGoesSpec : ChangeSpec := { name := "ringGoes", fn := fun _ => fun
  | [d1, d2, d3] => { results := [.lit (.bool true)], args := [d1, d2, d3] }
  | _ => none }
def ringGoesRow : OpenClaim := { program := "ytikdblejkmaloaa", sum := "a7ffb46c63fec3759f493347fd795348daf112bf2bac58185e36f64d7f86c42d", func := "ringroad/ringroadlaw06.RingGoes", spec := "ringGoes", unfollowed := true, recurses := true, apart := false }
def RingGoesSaid : Prop := ringGoesRow.holds Try.pinned (OpenSpec.ofChange ringGoesSpec)

/-- ITS FALSE NEIGHBOUR: 'it returns false'. Refute it at one input. -/
def ringGoesWrong : ChangeSpec := { name := "ringGoes", fn := fun _ => fun
  | [d1, d2, d3] => { results := [.lit (.bool false)], args := [d1, d2, d3] }
  | _ => none }
def RingGoesWrongFalsely : Prop := ringGoesRow.holds Try.pinned (OpenSpec.ofChange ringGoesWrong)

/-- 'ringroadlaw06.RingBack': WHATEVER THE INPUT: true; the input reads as it did. -/
def ringBackSpec : ChangeSpec := { name := "ringBack", fn := fun _ => fun
  | [d1, d2] => { results := [.lit (.bool true)], args := [d1, d2] }
  | _ => none }
def ringBackRow : OpenClaim := { program := "ytikdblejkmaloaa", sum := "a7ffb46c63fec3759f493347fd795348daf112bf2bac58185e36f64d7f86c42d", func := "ringroad/ringroadlaw06.RingBack", spec := "ringBack", unfollowed := true, recurses := true, apart := false }
def RingBackSaid : Prop := ringBackRow.holds Try.pinned (OpenSpec.ofChange ringBackSpec)

/-- ITS FALSE NEIGHBOUR: 'it returns false'. Refute it at one input. -/
def ringBackWrong : ChangeSpec := { name := "ringBack", fn := fun _ => fun
  | [d1, d2] => { results := [.lit (.bool false)], args := [d1, d2] }
  | _ => none }
def RingBackWrongFalsely : Prop := ringBackRow.holds Try.pinned (OpenSpec.ofChange ringBackWrong)

/-- 'ringroadlaw06.RingApart': WHATEVER THE INPUT: true; the input reads as it did. -/
def ringApartSpec : ChangeSpec := { name := "ringApart", fn := fun _ => fun
  | [d1, d2] => { results := [.lit (.bool true)], args := [d1, d2] }
  | _ => none }
def ringApartRow : OpenClaim := { program := "ytikdblejkmaloaa", sum := "a7ffb46c63fec3759f493347fd795348daf112bf2bac58185e36f64d7f86c42d", func := "ringroad/ringroadlaw06.RingApart", spec := "ringApart", unfollowed := true, recurses := true, apart := false }
def RingApartSaid : Prop := ringApartRow.holds Try.pinned (OpenSpec.ofChange ringApartSpec)

/-- ITS FALSE NEIGHBOUR: 'it returns false'. Refute it at one input. -/
def ringApartWrong : ChangeSpec := { name := "ringApart", fn := fun _ => fun
  | [d1, d2] => { results := [.lit (.bool false)], args := [d1, d2] }
  | _ => none }
def RingApartWrongFalsely : Prop := ringApartRow.holds Try.pinned (OpenSpec.ofChange ringApartWrong)

/- THE SECOND FORM. 'bulk': how many values and letters a reading holds, each counted each time it is reached (what is shared counts as often as it is met; a slice's spare places count too). A statement '..UptoSaid' is the law's where the arguments, and the package variables that the reading takes, are together of bulk at most 1048576: NARROWER than '..Said'. Prove '..Said' where nothing that the law and all that it calls make is longer than what came in: it says more and counts as full. Else prove '..UptoSaid'. A law counts once. -/
mutual
def uptoBulk {H : Type} : DataW H → Nat
  | .lit (.string bytes) => bytes.length + 1
  | .lit _ => 1
  | .nil => 1
  | .ptr d => uptoBulk d + 1
  | .slice elems spare => uptoBulkAll elems + uptoBulkAll spare + 1
  | .agg parts => uptoBulkAll parts + 1
  | .iface _ d => uptoBulk d + 1
  | .map entries => uptoBulkEntries entries + 1
  | .held _ => 1
def uptoBulkAll {H : Type} : List (DataW H) → Nat
  | [] => 0
  | d :: r => uptoBulk d + uptoBulkAll r
def uptoBulkEntries {H : Type} : List (Lit × DataW H) → Nat
  | [] => 0
  | x :: r => uptoBulkEntry x + uptoBulkEntries r
def uptoBulkEntry {H : Type} : Lit × DataW H → Nat
  | (.string bytes, d) => bytes.length + uptoBulk d + 1
  | (_, d) => uptoBulk d + 1
 end
def uptoSmall : (H : Type) → List (DataW H) → Bool := fun _ ds => decide (uptoBulkAll ds ≤ 1048576)
def OpenSpec.upto (s : _root_.Go.ChangeSpec) : _root_.Go.OpenSpec := { _root_.Go.OpenSpec.ofChange s with cond := some uptoSmall }

/-- 'ringroadlaw05.StampPlays', WHERE WHAT IT READS IS OF BULK AT MOST 1048576: true; the input reads as it did. -/
def stampPlaysUptoRow : OpenClaim := { program := "ytikdblejkmaloaa", sum := "a7ffb46c63fec3759f493347fd795348daf112bf2bac58185e36f64d7f86c42d", func := "ringroad/ringroadlaw05.StampPlays", spec := "stampPlays", apart := false, narrowed := true }
def StampPlaysUptoSaid : Prop := stampPlaysUptoRow.holds Try.pinned (OpenSpec.upto stampPlaysSpec)

/-- 'ringroadlaw05.StampSets', WHERE WHAT IT READS IS OF BULK AT MOST 1048576: true; the input reads as it did. -/
def stampSetsUptoRow : OpenClaim := { program := "ytikdblejkmaloaa", sum := "a7ffb46c63fec3759f493347fd795348daf112bf2bac58185e36f64d7f86c42d", func := "ringroad/ringroadlaw05.StampSets", spec := "stampSets", apart := false, narrowed := true }
def StampSetsUptoSaid : Prop := stampSetsUptoRow.holds Try.pinned (OpenSpec.upto stampSetsSpec)

/-- 'ringroadlaw05.StampGoes', WHERE WHAT IT READS IS OF BULK AT MOST 1048576: true; the input reads as it did. -/
def stampGoesUptoRow : OpenClaim := { program := "ytikdblejkmaloaa", sum := "a7ffb46c63fec3759f493347fd795348daf112bf2bac58185e36f64d7f86c42d", func := "ringroad/ringroadlaw05.StampGoes", spec := "stampGoes", unfollowed := true, recurses := true, apart := false, narrowed := true }
def StampGoesUptoSaid : Prop := stampGoesUptoRow.holds Try.pinned (OpenSpec.upto stampGoesSpec)

/-- 'ringroadlaw06.RingPlays', WHERE WHAT IT READS IS OF BULK AT MOST 1048576: true; the input reads as it did. -/
def ringPlaysUptoRow : OpenClaim := { program := "ytikdblejkmaloaa", sum := "a7ffb46c63fec3759f493347fd795348daf112bf2bac58185e36f64d7f86c42d", func := "ringroad/ringroadlaw06.RingPlays", spec := "ringPlays", unfollowed := true, recurses := true, apart := false, narrowed := true }
def RingPlaysUptoSaid : Prop := ringPlaysUptoRow.holds Try.pinned (OpenSpec.upto ringPlaysSpec)

/-- 'ringroadlaw06.RingGoes', WHERE WHAT IT READS IS OF BULK AT MOST 1048576: true; the input reads as it did. -/
def ringGoesUptoRow : OpenClaim := { program := "ytikdblejkmaloaa", sum := "a7ffb46c63fec3759f493347fd795348daf112bf2bac58185e36f64d7f86c42d", func := "ringroad/ringroadlaw06.RingGoes", spec := "ringGoes", unfollowed := true, recurses := true, apart := false, narrowed := true }
def RingGoesUptoSaid : Prop := ringGoesUptoRow.holds Try.pinned (OpenSpec.upto ringGoesSpec)

/-- 'ringroadlaw06.RingBack', WHERE WHAT IT READS IS OF BULK AT MOST 1048576: true; the input reads as it did. -/
def ringBackUptoRow : OpenClaim := { program := "ytikdblejkmaloaa", sum := "a7ffb46c63fec3759f493347fd795348daf112bf2bac58185e36f64d7f86c42d", func := "ringroad/ringroadlaw06.RingBack", spec := "ringBack", unfollowed := true, recurses := true, apart := false, narrowed := true }
def RingBackUptoSaid : Prop := ringBackUptoRow.holds Try.pinned (OpenSpec.upto ringBackSpec)

/-- 'ringroadlaw06.RingApart', WHERE WHAT IT READS IS OF BULK AT MOST 1048576: true; the input reads as it did. -/
def ringApartUptoRow : OpenClaim := { program := "ytikdblejkmaloaa", sum := "a7ffb46c63fec3759f493347fd795348daf112bf2bac58185e36f64d7f86c42d", func := "ringroad/ringroadlaw06.RingApart", spec := "ringApart", unfollowed := true, recurses := true, apart := false, narrowed := true }
def RingApartUptoSaid : Prop := ringApartUptoRow.holds Try.pinned (OpenSpec.upto ringApartSpec)

end Rows
end Go.Proofs.Ytikdblejkmaloaa
