/-
  No cell of these rows narrows 'for every input' (looked for: loops, veiled, ifaces, maps, wideKeys, modest, calm, conditions, laid).
  DERIVED. THE GIVEN ROWS OF THIS SEAT. 10 by the template 'for every input the law returns true; each argument reads behind the call as it read before'; 0 by the template 'total and deterministic' (their statements: YthpmohkmjfhmmaaTotals.lean).
  GIVEN WITH THE SEED: the statements are not yours to turn. If you find one false, say at which input.
  Laid BY PROGRAM, IN A SANDBOX (cutbox-rows.mjs): the forced cells as the released guide's own fill.sh prints them over the translation 843936bb06e742d6… (all of the seat's roots in one cut). By AI agents, Wed Nov 11 2026. No macro, syntax, notation, axiom, sorry.
-/
import Derived.Test.YthpmohkmjfhmmaaChecked
import GoSem.Claim
import GoSem.ClaimJoined
import GoSem.ClaimMapViews
import Derived.JoinedTies
import Derived.KernelRfl
namespace Go.Proofs.Ythpmohkmjfhmmaa
/- THE CELL 'sum', in the pinned program and in every row, IS THE sha256 OF THE DUMP (.gsa) THAT YthpmohkmjfhmmaaProg.lean LOADS. Nothing in Lean hashes anything: it is a label: what it is worth is what the hold of that sum in a sandbox is worth. -/
noncomputable def Try.pinned : Pinned := { name := "ythpmohkmjfhmmaa", sum := "843936bb06e742d663698496eeae2cf41b2c6e3c7234112702ddd5d6b67da589", checked := Try.checked }
namespace Rows
def none {H : Type} : Left H := { results := [], args := [] }

/-- 'ringroadlaw07.PermRights': WHATEVER THE INPUT: true; the input reads as it did. -/
def permRightsSpec : ChangeSpec := { name := "permRights", fn := fun _ => fun
  | [d] => { results := [.lit (.bool true)], args := [d] }
  | _ => none }
def permRightsRow : OpenClaim := { program := "ythpmohkmjfhmmaa", sum := "843936bb06e742d663698496eeae2cf41b2c6e3c7234112702ddd5d6b67da589", func := "ringroad/ringroadlaw07.PermRights", spec := "permRights", unfollowed := true, recurses := true, apart := false }
def PermRightsSaid : Prop := permRightsRow.holds Try.pinned (OpenSpec.ofChange permRightsSpec)

/-- ITS FALSE NEIGHBOUR: 'it returns false'. Refute it at one input. -/
def permRightsWrong : ChangeSpec := { name := "permRights", fn := fun _ => fun
  | [d] => { results := [.lit (.bool false)], args := [d] }
  | _ => none }
def PermRightsWrongFalsely : Prop := permRightsRow.holds Try.pinned (OpenSpec.ofChange permRightsWrong)

/-- 'ringroadlaw07.PermNumbers': WHATEVER THE INPUT: true; the input reads as it did. -/
def permNumbersSpec : ChangeSpec := { name := "permNumbers", fn := fun _ => fun
  | [d1, d2, d3] => { results := [.lit (.bool true)], args := [d1, d2, d3] }
  | _ => none }
def permNumbersRow : OpenClaim := { program := "ythpmohkmjfhmmaa", sum := "843936bb06e742d663698496eeae2cf41b2c6e3c7234112702ddd5d6b67da589", func := "ringroad/ringroadlaw07.PermNumbers", spec := "permNumbers", unfollowed := true, recurses := true, apart := false }
def PermNumbersSaid : Prop := permNumbersRow.holds Try.pinned (OpenSpec.ofChange permNumbersSpec)

/-- ITS FALSE NEIGHBOUR: 'it returns false'. Refute it at one input. -/
def permNumbersWrong : ChangeSpec := { name := "permNumbers", fn := fun _ => fun
  | [d1, d2, d3] => { results := [.lit (.bool false)], args := [d1, d2, d3] }
  | _ => none }
def PermNumbersWrongFalsely : Prop := permNumbersRow.holds Try.pinned (OpenSpec.ofChange permNumbersWrong)

/-- 'ringroadlaw07.PermAll': WHATEVER THE INPUT: true; the input reads as it did. -/
def permAllSpec : ChangeSpec := { name := "permAll", fn := fun _ => fun
  | [d] => { results := [.lit (.bool true)], args := [d] }
  | _ => none }
def permAllRow : OpenClaim := { program := "ythpmohkmjfhmmaa", sum := "843936bb06e742d663698496eeae2cf41b2c6e3c7234112702ddd5d6b67da589", func := "ringroad/ringroadlaw07.PermAll", spec := "permAll", unfollowed := true, recurses := true, apart := false }
def PermAllSaid : Prop := permAllRow.holds Try.pinned (OpenSpec.ofChange permAllSpec)

/-- ITS FALSE NEIGHBOUR: 'it returns false'. Refute it at one input. -/
def permAllWrong : ChangeSpec := { name := "permAll", fn := fun _ => fun
  | [d] => { results := [.lit (.bool false)], args := [d] }
  | _ => none }
def PermAllWrongFalsely : Prop := permAllRow.holds Try.pinned (OpenSpec.ofChange permAllWrong)

/-- 'ringroadlaw07.PermOf': WHATEVER THE INPUT: true; the input reads as it did. -/
def permOfSpec : ChangeSpec := { name := "permOf", fn := fun _ => fun
  | [d1, d2, d3] => { results := [.lit (.bool true)], args := [d1, d2, d3] }
  | _ => none }
def permOfRow : OpenClaim := { program := "ythpmohkmjfhmmaa", sum := "843936bb06e742d663698496eeae2cf41b2c6e3c7234112702ddd5d6b67da589", func := "ringroad/ringroadlaw07.PermOf", spec := "permOf", unfollowed := true, recurses := true, apart := false }
def PermOfSaid : Prop := permOfRow.holds Try.pinned (OpenSpec.ofChange permOfSpec)

/-- ITS FALSE NEIGHBOUR: 'it returns false'. Refute it at one input. -/
def permOfWrong : ChangeSpec := { name := "permOf", fn := fun _ => fun
  | [d1, d2, d3] => { results := [.lit (.bool false)], args := [d1, d2, d3] }
  | _ => none }
def PermOfWrongFalsely : Prop := permOfRow.holds Try.pinned (OpenSpec.ofChange permOfWrong)

/-- 'ringroadlaw07.PermTurns': WHATEVER THE INPUT: true; the input reads as it did. -/
def permTurnsSpec : ChangeSpec := { name := "permTurns", fn := fun _ => fun
  | [d1, d2] => { results := [.lit (.bool true)], args := [d1, d2] }
  | _ => none }
def permTurnsRow : OpenClaim := { program := "ythpmohkmjfhmmaa", sum := "843936bb06e742d663698496eeae2cf41b2c6e3c7234112702ddd5d6b67da589", func := "ringroad/ringroadlaw07.PermTurns", spec := "permTurns", unfollowed := true, recurses := true, apart := false }
def PermTurnsSaid : Prop := permTurnsRow.holds Try.pinned (OpenSpec.ofChange permTurnsSpec)

/-- ITS FALSE NEIGHBOUR: 'it returns false'. Refute it at one input. -/
def permTurnsWrong : ChangeSpec := { name := "permTurns", fn := fun _ => fun
  | [d1, d2] => { results := [.lit (.bool false)], args := [d1, d2] }
  | _ => none }
def PermTurnsWrongFalsely : Prop := permTurnsRow.holds Try.pinned (OpenSpec.ofChange permTurnsWrong)

/-- 'ringroadlaw04.HeapSorts': WHATEVER THE INPUT: true; the input reads as it did. -/
def heapSortsSpec : ChangeSpec := { name := "heapSorts", fn := fun _ => fun
  | [d] => { results := [.lit (.bool true)], args := [d] }
  | _ => none }
def heapSortsRow : OpenClaim := { program := "ythpmohkmjfhmmaa", sum := "843936bb06e742d663698496eeae2cf41b2c6e3c7234112702ddd5d6b67da589", func := "ringroad/ringroadlaw04.HeapSorts", spec := "heapSorts", apart := false }
def HeapSortsSaid : Prop := heapSortsRow.holds Try.pinned (OpenSpec.ofChange heapSortsSpec)

/-- ITS FALSE NEIGHBOUR: 'it returns false'. Refute it at one input. -/
def heapSortsWrong : ChangeSpec := { name := "heapSorts", fn := fun _ => fun
  | [d] => { results := [.lit (.bool false)], args := [d] }
  | _ => none }
def HeapSortsWrongFalsely : Prop := heapSortsRow.holds Try.pinned (OpenSpec.ofChange heapSortsWrong)

/-- 'ringroadlaw04.HeapTexts': WHATEVER THE INPUT: true; the input reads as it did. -/
def heapTextsSpec : ChangeSpec := { name := "heapTexts", fn := fun _ => fun
  | [d] => { results := [.lit (.bool true)], args := [d] }
  | _ => none }
def heapTextsRow : OpenClaim := { program := "ythpmohkmjfhmmaa", sum := "843936bb06e742d663698496eeae2cf41b2c6e3c7234112702ddd5d6b67da589", func := "ringroad/ringroadlaw04.HeapTexts", spec := "heapTexts", apart := false }
def HeapTextsSaid : Prop := heapTextsRow.holds Try.pinned (OpenSpec.ofChange heapTextsSpec)

/-- ITS FALSE NEIGHBOUR: 'it returns false'. Refute it at one input. -/
def heapTextsWrong : ChangeSpec := { name := "heapTexts", fn := fun _ => fun
  | [d] => { results := [.lit (.bool false)], args := [d] }
  | _ => none }
def HeapTextsWrongFalsely : Prop := heapTextsRow.holds Try.pinned (OpenSpec.ofChange heapTextsWrong)

/-- 'ringroadlaw04.HeapLessens': WHATEVER THE INPUT: true; the input reads as it did. -/
def heapLessensSpec : ChangeSpec := { name := "heapLessens", fn := fun _ => fun
  | [d1, d2] => { results := [.lit (.bool true)], args := [d1, d2] }
  | _ => none }
def heapLessensRow : OpenClaim := { program := "ythpmohkmjfhmmaa", sum := "843936bb06e742d663698496eeae2cf41b2c6e3c7234112702ddd5d6b67da589", func := "ringroad/ringroadlaw04.HeapLessens", spec := "heapLessens", apart := false }
def HeapLessensSaid : Prop := heapLessensRow.holds Try.pinned (OpenSpec.ofChange heapLessensSpec)

/-- ITS FALSE NEIGHBOUR: 'it returns false'. Refute it at one input. -/
def heapLessensWrong : ChangeSpec := { name := "heapLessens", fn := fun _ => fun
  | [d1, d2] => { results := [.lit (.bool false)], args := [d1, d2] }
  | _ => none }
def HeapLessensWrongFalsely : Prop := heapLessensRow.holds Try.pinned (OpenSpec.ofChange heapLessensWrong)

/-- 'ringroadlaw04.HeapPlays': WHATEVER THE INPUT: true; the input reads as it did. -/
def heapPlaysSpec : ChangeSpec := { name := "heapPlays", fn := fun _ => fun
  | [d1, d2] => { results := [.lit (.bool true)], args := [d1, d2] }
  | _ => none }
def heapPlaysRow : OpenClaim := { program := "ythpmohkmjfhmmaa", sum := "843936bb06e742d663698496eeae2cf41b2c6e3c7234112702ddd5d6b67da589", func := "ringroad/ringroadlaw04.HeapPlays", spec := "heapPlays", apart := false }
def HeapPlaysSaid : Prop := heapPlaysRow.holds Try.pinned (OpenSpec.ofChange heapPlaysSpec)

/-- ITS FALSE NEIGHBOUR: 'it returns false'. Refute it at one input. -/
def heapPlaysWrong : ChangeSpec := { name := "heapPlays", fn := fun _ => fun
  | [d1, d2] => { results := [.lit (.bool false)], args := [d1, d2] }
  | _ => none }
def HeapPlaysWrongFalsely : Prop := heapPlaysRow.holds Try.pinned (OpenSpec.ofChange heapPlaysWrong)

/-- 'ringroadlaw04.HeapGoes': WHATEVER THE INPUT: true; the input reads as it did. -/
def heapGoesSpec : ChangeSpec := { name := "heapGoes", fn := fun _ => fun
  | [d1, d2, d3] => { results := [.lit (.bool true)], args := [d1, d2, d3] }
  | _ => none }
def heapGoesRow : OpenClaim := { program := "ythpmohkmjfhmmaa", sum := "843936bb06e742d663698496eeae2cf41b2c6e3c7234112702ddd5d6b67da589", func := "ringroad/ringroadlaw04.HeapGoes", spec := "heapGoes", unfollowed := true, recurses := true, apart := false }
def HeapGoesSaid : Prop := heapGoesRow.holds Try.pinned (OpenSpec.ofChange heapGoesSpec)

/-- ITS FALSE NEIGHBOUR: 'it returns false'. Refute it at one input. -/
def heapGoesWrong : ChangeSpec := { name := "heapGoes", fn := fun _ => fun
  | [d1, d2, d3] => { results := [.lit (.bool false)], args := [d1, d2, d3] }
  | _ => none }
def HeapGoesWrongFalsely : Prop := heapGoesRow.holds Try.pinned (OpenSpec.ofChange heapGoesWrong)

/- THE SECOND FORM. 'bulk': how many values and letters a reading holds, each counted each time it is reached (what is shared counts as often as it is met; a slice's spare places count too). A statement '..UptoSaid' is the law's where the arguments, and the package variables that the reading takes, are together of bulk at most 1048576: NARROWER than '..Said'. Prove '..Said' where nothing that the law and all that it calls make is longer than what came in: it says more and counts as full. Else prove '..UptoSaid'. A law counts once. -/
mutual
def uptoBulk {H : Type} : DataW H → Nat
  | .lit (.string bytes) => bytes.length + 1
  | .lit _ => 1
  | .nil => 1
  | .ptr d => uptoBulk d + 1
  | .slice elems spare => uptoBulkAll elems + uptoBulkAll spare + 1
  | .agg parts => uptoBulkAll parts + 1
  | .iface _ d => uptoBulk d + 1
  | .map entries => uptoBulkEntries entries + 1
  | .held _ => 1
def uptoBulkAll {H : Type} : List (DataW H) → Nat
  | [] => 0
  | d :: r => uptoBulk d + uptoBulkAll r
def uptoBulkEntries {H : Type} : List (Lit × DataW H) → Nat
  | [] => 0
  | x :: r => uptoBulkEntry x + uptoBulkEntries r
def uptoBulkEntry {H : Type} : Lit × DataW H → Nat
  | (.string bytes, d) => bytes.length + uptoBulk d + 1
  | (_, d) => uptoBulk d + 1
 end
def uptoSmall : (H : Type) → List (DataW H) → Bool := fun _ ds => decide (uptoBulkAll ds ≤ 1048576)
def OpenSpec.upto (s : _root_.Go.ChangeSpec) : _root_.Go.OpenSpec := { _root_.Go.OpenSpec.ofChange s with cond := some uptoSmall }

/-- 'ringroadlaw07.PermRights', WHERE WHAT IT READS IS OF BULK AT MOST 1048576: true; the input reads as it did. -/
def permRightsUptoRow : OpenClaim := { program := "ythpmohkmjfhmmaa", sum := "843936bb06e742d663698496eeae2cf41b2c6e3c7234112702ddd5d6b67da589", func := "ringroad/ringroadlaw07.PermRights", spec := "permRights", unfollowed := true, recurses := true, apart := false, narrowed := true }
def PermRightsUptoSaid : Prop := permRightsUptoRow.holds Try.pinned (OpenSpec.upto permRightsSpec)

/-- 'ringroadlaw07.PermNumbers', WHERE WHAT IT READS IS OF BULK AT MOST 1048576: true; the input reads as it did. -/
def permNumbersUptoRow : OpenClaim := { program := "ythpmohkmjfhmmaa", sum := "843936bb06e742d663698496eeae2cf41b2c6e3c7234112702ddd5d6b67da589", func := "ringroad/ringroadlaw07.PermNumbers", spec := "permNumbers", unfollowed := true, recurses := true, apart := false, narrowed := true }
def PermNumbersUptoSaid : Prop := permNumbersUptoRow.holds Try.pinned (OpenSpec.upto permNumbersSpec)

/-- 'ringroadlaw07.PermAll', WHERE WHAT IT READS IS OF BULK AT MOST 1048576: true; the input reads as it did. -/
def permAllUptoRow : OpenClaim := { program := "ythpmohkmjfhmmaa", sum := "843936bb06e742d663698496eeae2cf41b2c6e3c7234112702ddd5d6b67da589", func := "ringroad/ringroadlaw07.PermAll", spec := "permAll", unfollowed := true, recurses := true, apart := false, narrowed := true }
def PermAllUptoSaid : Prop := permAllUptoRow.holds Try.pinned (OpenSpec.upto permAllSpec)

/-- 'ringroadlaw07.PermOf', WHERE WHAT IT READS IS OF BULK AT MOST 1048576: true; the input reads as it did. -/
def permOfUptoRow : OpenClaim := { program := "ythpmohkmjfhmmaa", sum := "843936bb06e742d663698496eeae2cf41b2c6e3c7234112702ddd5d6b67da589", func := "ringroad/ringroadlaw07.PermOf", spec := "permOf", unfollowed := true, recurses := true, apart := false, narrowed := true }
def PermOfUptoSaid : Prop := permOfUptoRow.holds Try.pinned (OpenSpec.upto permOfSpec)

/-- 'ringroadlaw07.PermTurns', WHERE WHAT IT READS IS OF BULK AT MOST 1048576: true; the input reads as it did. -/
def permTurnsUptoRow : OpenClaim := { program := "ythpmohkmjfhmmaa", sum := "843936bb06e742d663698496eeae2cf41b2c6e3c7234112702ddd5d6b67da589", func := "ringroad/ringroadlaw07.PermTurns", spec := "permTurns", unfollowed := true, recurses := true, apart := false, narrowed := true }
def PermTurnsUptoSaid : Prop := permTurnsUptoRow.holds Try.pinned (OpenSpec.upto permTurnsSpec)

/-- 'ringroadlaw04.HeapSorts', WHERE WHAT IT READS IS OF BULK AT MOST 1048576: true; the input reads as it did. -/
def heapSortsUptoRow : OpenClaim := { program := "ythpmohkmjfhmmaa", sum := "843936bb06e742d663698496eeae2cf41b2c6e3c7234112702ddd5d6b67da589", func := "ringroad/ringroadlaw04.HeapSorts", spec := "heapSorts", apart := false, narrowed := true }
def HeapSortsUptoSaid : Prop := heapSortsUptoRow.holds Try.pinned (OpenSpec.upto heapSortsSpec)

/-- 'ringroadlaw04.HeapTexts', WHERE WHAT IT READS IS OF BULK AT MOST 1048576: true; the input reads as it did. -/
def heapTextsUptoRow : OpenClaim := { program := "ythpmohkmjfhmmaa", sum := "843936bb06e742d663698496eeae2cf41b2c6e3c7234112702ddd5d6b67da589", func := "ringroad/ringroadlaw04.HeapTexts", spec := "heapTexts", apart := false, narrowed := true }
def HeapTextsUptoSaid : Prop := heapTextsUptoRow.holds Try.pinned (OpenSpec.upto heapTextsSpec)

/-- 'ringroadlaw04.HeapLessens', WHERE WHAT IT READS IS OF BULK AT MOST 1048576: true; the input reads as it did. -/
def heapLessensUptoRow : OpenClaim := { program := "ythpmohkmjfhmmaa", sum := "843936bb06e742d663698496eeae2cf41b2c6e3c7234112702ddd5d6b67da589", func := "ringroad/ringroadlaw04.HeapLessens", spec := "heapLessens", apart := false, narrowed := true }
def HeapLessensUptoSaid : Prop := heapLessensUptoRow.holds Try.pinned (OpenSpec.upto heapLessensSpec)

/-- 'ringroadlaw04.HeapPlays', WHERE WHAT IT READS IS OF BULK AT MOST 1048576: true; the input reads as it did. -/
def heapPlaysUptoRow : OpenClaim := { program := "ythpmohkmjfhmmaa", sum := "843936bb06e742d663698496eeae2cf41b2c6e3c7234112702ddd5d6b67da589", func := "ringroad/ringroadlaw04.HeapPlays", spec := "heapPlays", apart := false, narrowed := true }
def HeapPlaysUptoSaid : Prop := heapPlaysUptoRow.holds Try.pinned (OpenSpec.upto heapPlaysSpec)

/-- 'ringroadlaw04.HeapGoes', WHERE WHAT IT READS IS OF BULK AT MOST 1048576: true; the input reads as it did. -/
def heapGoesUptoRow : OpenClaim := { program := "ythpmohkmjfhmmaa", sum := "843936bb06e742d663698496eeae2cf41b2c6e3c7234112702ddd5d6b67da589", func := "ringroad/ringroadlaw04.HeapGoes", spec := "heapGoes", unfollowed := true, recurses := true, apart := false, narrowed := true }
def HeapGoesUptoSaid : Prop := heapGoesUptoRow.holds Try.pinned (OpenSpec.upto heapGoesSpec)

end Rows
end Go.Proofs.Ythpmohkmjfhmmaa
