/-
  No cell of these rows narrows 'for every input' (looked for: loops, veiled, ifaces, maps, wideKeys, modest, calm, conditions, laid).
  DERIVED. THE GIVEN ROWS OF THIS SEAT. 12 by the template 'for every input the law returns true; each argument reads behind the call as it read before'; 0 by the template 'total and deterministic' (their statements: YtblapiiinbppiaaTotals.lean).
  GIVEN WITH THE SEED: the statements are not yours to turn. If you find one false, say at which input.
  Laid BY PROGRAM, IN A SANDBOX (cutbox-rows.mjs): the forced cells as the released guide's own fill.sh prints them over the translation 5787ef57ceb62173… (all of the seat's roots in one cut). By AI agents, Wed Nov 11 2026. No macro, syntax, notation, axiom, sorry.
-/
import Derived.Test.YtblapiiinbppiaaChecked
import GoSem.Claim
import GoSem.ClaimJoined
import GoSem.ClaimMapViews
import Derived.JoinedTies
import Derived.KernelRfl
namespace Go.Proofs.Ytblapiiinbppiaa
/- THE CELL 'sum', in the pinned program and in every row, IS THE sha256 OF THE DUMP (.gsa) THAT YtblapiiinbppiaaProg.lean LOADS. Nothing in Lean hashes anything: it is a label: what it is worth is what the hold of that sum in a sandbox is worth. -/
noncomputable def Try.pinned : Pinned := { name := "ytblapiiinbppiaa", sum := "5787ef57ceb621739f415b6d51873b09c4e198aaefd13b280bf9cc884d54d550", checked := Try.checked }
namespace Rows
def none {H : Type} : Left H := { results := [], args := [] }

/-- 'ringroadlaw12.MeshLast': WHATEVER THE INPUT: true; the input reads as it did. -/
def meshLastSpec : ChangeSpec := { name := "meshLast", fn := fun _ => fun
  | [d1, d2, d3, d4, d5] => { results := [.lit (.bool true)], args := [d1, d2, d3, d4, d5] }
  | _ => none }
def meshLastRow : OpenClaim := { program := "ytblapiiinbppiaa", sum := "5787ef57ceb621739f415b6d51873b09c4e198aaefd13b280bf9cc884d54d550", func := "ringroad/ringroadlaw12.MeshLast", spec := "meshLast", unfollowed := true, recurses := true, apart := false }
def MeshLastSaid : Prop := meshLastRow.holds Try.pinned (OpenSpec.ofChange meshLastSpec)

/-- ITS FALSE NEIGHBOUR: 'it returns false'. Refute it at one input. -/
def meshLastWrong : ChangeSpec := { name := "meshLast", fn := fun _ => fun
  | [d1, d2, d3, d4, d5] => { results := [.lit (.bool false)], args := [d1, d2, d3, d4, d5] }
  | _ => none }
def MeshLastWrongFalsely : Prop := meshLastRow.holds Try.pinned (OpenSpec.ofChange meshLastWrong)

/-- 'ringroadlaw12.MeshPuts': WHATEVER THE INPUT: true; the input reads as it did. -/
def meshPutsSpec : ChangeSpec := { name := "meshPuts", fn := fun _ => fun
  | [d1, d2, d3, d4] => { results := [.lit (.bool true)], args := [d1, d2, d3, d4] }
  | _ => none }
def meshPutsRow : OpenClaim := { program := "ytblapiiinbppiaa", sum := "5787ef57ceb621739f415b6d51873b09c4e198aaefd13b280bf9cc884d54d550", func := "ringroad/ringroadlaw12.MeshPuts", spec := "meshPuts", unfollowed := true, recurses := true, apart := false }
def MeshPutsSaid : Prop := meshPutsRow.holds Try.pinned (OpenSpec.ofChange meshPutsSpec)

/-- ITS FALSE NEIGHBOUR: 'it returns false'. Refute it at one input. -/
def meshPutsWrong : ChangeSpec := { name := "meshPuts", fn := fun _ => fun
  | [d1, d2, d3, d4] => { results := [.lit (.bool false)], args := [d1, d2, d3, d4] }
  | _ => none }
def MeshPutsWrongFalsely : Prop := meshPutsRow.holds Try.pinned (OpenSpec.ofChange meshPutsWrong)

/-- 'ringroadlaw12.MeshContracts': WHATEVER THE INPUT: true; the input reads as it did. -/
def meshContractsSpec : ChangeSpec := { name := "meshContracts", fn := fun _ => fun
  | [d1, d2, d3] => { results := [.lit (.bool true)], args := [d1, d2, d3] }
  | _ => none }
def meshContractsRow : OpenClaim := { program := "ytblapiiinbppiaa", sum := "5787ef57ceb621739f415b6d51873b09c4e198aaefd13b280bf9cc884d54d550", func := "ringroad/ringroadlaw12.MeshContracts", spec := "meshContracts", unfollowed := true, recurses := true, apart := false }
def MeshContractsSaid : Prop := meshContractsRow.holds Try.pinned (OpenSpec.ofChange meshContractsSpec)

/-- ITS FALSE NEIGHBOUR: 'it returns false'. Refute it at one input. -/
def meshContractsWrong : ChangeSpec := { name := "meshContracts", fn := fun _ => fun
  | [d1, d2, d3] => { results := [.lit (.bool false)], args := [d1, d2, d3] }
  | _ => none }
def MeshContractsWrongFalsely : Prop := meshContractsRow.holds Try.pinned (OpenSpec.ofChange meshContractsWrong)

/-- 'ringroadlaw13.WitnessSearches': WHATEVER THE INPUT: true; the input reads as it did. -/
def witnessSearchesSpec : ChangeSpec := { name := "witnessSearches", fn := fun _ => fun
  | [d1, d2, d3, d4, d5, d6] => { results := [.lit (.bool true)], args := [d1, d2, d3, d4, d5, d6] }
  | _ => none }
def witnessSearchesRow : OpenClaim := { program := "ytblapiiinbppiaa", sum := "5787ef57ceb621739f415b6d51873b09c4e198aaefd13b280bf9cc884d54d550", func := "ringroad/ringroadlaw13.WitnessSearches", spec := "witnessSearches", unfollowed := true, recurses := true, apart := false }
def WitnessSearchesSaid : Prop := witnessSearchesRow.holds Try.pinned (OpenSpec.ofChange witnessSearchesSpec)

/-- ITS FALSE NEIGHBOUR: 'it returns false'. Refute it at one input. -/
def witnessSearchesWrong : ChangeSpec := { name := "witnessSearches", fn := fun _ => fun
  | [d1, d2, d3, d4, d5, d6] => { results := [.lit (.bool false)], args := [d1, d2, d3, d4, d5, d6] }
  | _ => none }
def WitnessSearchesWrongFalsely : Prop := witnessSearchesRow.holds Try.pinned (OpenSpec.ofChange witnessSearchesWrong)

/-- 'ringroadlaw13.WitnessSpares': WHATEVER THE INPUT: true; the input reads as it did. -/
def witnessSparesSpec : ChangeSpec := { name := "witnessSpares", fn := fun _ => fun
  | [d1, d2, d3, d4, d5, d6] => { results := [.lit (.bool true)], args := [d1, d2, d3, d4, d5, d6] }
  | _ => none }
def witnessSparesRow : OpenClaim := { program := "ytblapiiinbppiaa", sum := "5787ef57ceb621739f415b6d51873b09c4e198aaefd13b280bf9cc884d54d550", func := "ringroad/ringroadlaw13.WitnessSpares", spec := "witnessSpares", unfollowed := true, recurses := true, apart := false }
def WitnessSparesSaid : Prop := witnessSparesRow.holds Try.pinned (OpenSpec.ofChange witnessSparesSpec)

/-- ITS FALSE NEIGHBOUR: 'it returns false'. Refute it at one input. -/
def witnessSparesWrong : ChangeSpec := { name := "witnessSpares", fn := fun _ => fun
  | [d1, d2, d3, d4, d5, d6] => { results := [.lit (.bool false)], args := [d1, d2, d3, d4, d5, d6] }
  | _ => none }
def WitnessSparesWrongFalsely : Prop := witnessSparesRow.holds Try.pinned (OpenSpec.ofChange witnessSparesWrong)

/-- 'ringroadlaw13.WitnessFar': WHATEVER THE INPUT: true; the input reads as it did. -/
def witnessFarSpec : ChangeSpec := { name := "witnessFar", fn := fun _ => fun
  | [d1, d2, d3] => { results := [.lit (.bool true)], args := [d1, d2, d3] }
  | _ => none }
def witnessFarRow : OpenClaim := { program := "ytblapiiinbppiaa", sum := "5787ef57ceb621739f415b6d51873b09c4e198aaefd13b280bf9cc884d54d550", func := "ringroad/ringroadlaw13.WitnessFar", spec := "witnessFar", unfollowed := true, recurses := true, apart := false }
def WitnessFarSaid : Prop := witnessFarRow.holds Try.pinned (OpenSpec.ofChange witnessFarSpec)

/-- ITS FALSE NEIGHBOUR: 'it returns false'. Refute it at one input. -/
def witnessFarWrong : ChangeSpec := { name := "witnessFar", fn := fun _ => fun
  | [d1, d2, d3] => { results := [.lit (.bool false)], args := [d1, d2, d3] }
  | _ => none }
def WitnessFarWrongFalsely : Prop := witnessFarRow.holds Try.pinned (OpenSpec.ofChange witnessFarWrong)

/-- 'ringroadlaw13.WitnessMore': WHATEVER THE INPUT: true; the input reads as it did. -/
def witnessMoreSpec : ChangeSpec := { name := "witnessMore", fn := fun _ => fun
  | [d1, d2, d3, d4, d5, d6, d7] => { results := [.lit (.bool true)], args := [d1, d2, d3, d4, d5, d6, d7] }
  | _ => none }
def witnessMoreRow : OpenClaim := { program := "ytblapiiinbppiaa", sum := "5787ef57ceb621739f415b6d51873b09c4e198aaefd13b280bf9cc884d54d550", func := "ringroad/ringroadlaw13.WitnessMore", spec := "witnessMore", unfollowed := true, recurses := true, apart := false }
def WitnessMoreSaid : Prop := witnessMoreRow.holds Try.pinned (OpenSpec.ofChange witnessMoreSpec)

/-- ITS FALSE NEIGHBOUR: 'it returns false'. Refute it at one input. -/
def witnessMoreWrong : ChangeSpec := { name := "witnessMore", fn := fun _ => fun
  | [d1, d2, d3, d4, d5, d6, d7] => { results := [.lit (.bool false)], args := [d1, d2, d3, d4, d5, d6, d7] }
  | _ => none }
def WitnessMoreWrongFalsely : Prop := witnessMoreRow.holds Try.pinned (OpenSpec.ofChange witnessMoreWrong)

/-- 'ringroadlaw13.WitnessLess': WHATEVER THE INPUT: true; the input reads as it did. -/
def witnessLessSpec : ChangeSpec := { name := "witnessLess", fn := fun _ => fun
  | [d1, d2, d3, d4, d5] => { results := [.lit (.bool true)], args := [d1, d2, d3, d4, d5] }
  | _ => none }
def witnessLessRow : OpenClaim := { program := "ytblapiiinbppiaa", sum := "5787ef57ceb621739f415b6d51873b09c4e198aaefd13b280bf9cc884d54d550", func := "ringroad/ringroadlaw13.WitnessLess", spec := "witnessLess", unfollowed := true, recurses := true, apart := false }
def WitnessLessSaid : Prop := witnessLessRow.holds Try.pinned (OpenSpec.ofChange witnessLessSpec)

/-- ITS FALSE NEIGHBOUR: 'it returns false'. Refute it at one input. -/
def witnessLessWrong : ChangeSpec := { name := "witnessLess", fn := fun _ => fun
  | [d1, d2, d3, d4, d5] => { results := [.lit (.bool false)], args := [d1, d2, d3, d4, d5] }
  | _ => none }
def WitnessLessWrongFalsely : Prop := witnessLessRow.holds Try.pinned (OpenSpec.ofChange witnessLessWrong)

/-- 'ringroadlaw14.OrderNeeds': WHATEVER THE INPUT: true; the input reads as it did. -/
def orderNeedsSpec : ChangeSpec := { name := "orderNeeds", fn := fun _ => fun
  | [d1, d2, d3, d4] => { results := [.lit (.bool true)], args := [d1, d2, d3, d4] }
  | _ => none }
def orderNeedsRow : OpenClaim := { program := "ytblapiiinbppiaa", sum := "5787ef57ceb621739f415b6d51873b09c4e198aaefd13b280bf9cc884d54d550", func := "ringroad/ringroadlaw14.OrderNeeds", spec := "orderNeeds", unfollowed := true, recurses := true, apart := false }
def OrderNeedsSaid : Prop := orderNeedsRow.holds Try.pinned (OpenSpec.ofChange orderNeedsSpec)

/-- ITS FALSE NEIGHBOUR: 'it returns false'. Refute it at one input. -/
def orderNeedsWrong : ChangeSpec := { name := "orderNeeds", fn := fun _ => fun
  | [d1, d2, d3, d4] => { results := [.lit (.bool false)], args := [d1, d2, d3, d4] }
  | _ => none }
def OrderNeedsWrongFalsely : Prop := orderNeedsRow.holds Try.pinned (OpenSpec.ofChange orderNeedsWrong)

/-- 'ringroadlaw14.OrderEnds': WHATEVER THE INPUT: true; the input reads as it did. -/
def orderEndsSpec : ChangeSpec := { name := "orderEnds", fn := fun _ => fun
  | [d1, d2, d3, d4, d5] => { results := [.lit (.bool true)], args := [d1, d2, d3, d4, d5] }
  | _ => none }
def orderEndsRow : OpenClaim := { program := "ytblapiiinbppiaa", sum := "5787ef57ceb621739f415b6d51873b09c4e198aaefd13b280bf9cc884d54d550", func := "ringroad/ringroadlaw14.OrderEnds", spec := "orderEnds", unfollowed := true, recurses := true, apart := false }
def OrderEndsSaid : Prop := orderEndsRow.holds Try.pinned (OpenSpec.ofChange orderEndsSpec)

/-- ITS FALSE NEIGHBOUR: 'it returns false'. Refute it at one input. -/
def orderEndsWrong : ChangeSpec := { name := "orderEnds", fn := fun _ => fun
  | [d1, d2, d3, d4, d5] => { results := [.lit (.bool false)], args := [d1, d2, d3, d4, d5] }
  | _ => none }
def OrderEndsWrongFalsely : Prop := orderEndsRow.holds Try.pinned (OpenSpec.ofChange orderEndsWrong)

/-- 'ringroadlaw14.OrderDear': WHATEVER THE INPUT: true; the input reads as it did. -/
def orderDearSpec : ChangeSpec := { name := "orderDear", fn := fun _ => fun
  | [d1, d2, d3, d4, d5] => { results := [.lit (.bool true)], args := [d1, d2, d3, d4, d5] }
  | _ => none }
def orderDearRow : OpenClaim := { program := "ytblapiiinbppiaa", sum := "5787ef57ceb621739f415b6d51873b09c4e198aaefd13b280bf9cc884d54d550", func := "ringroad/ringroadlaw14.OrderDear", spec := "orderDear", unfollowed := true, recurses := true, apart := false }
def OrderDearSaid : Prop := orderDearRow.holds Try.pinned (OpenSpec.ofChange orderDearSpec)

/-- ITS FALSE NEIGHBOUR: 'it returns false'. Refute it at one input. -/
def orderDearWrong : ChangeSpec := { name := "orderDear", fn := fun _ => fun
  | [d1, d2, d3, d4, d5] => { results := [.lit (.bool false)], args := [d1, d2, d3, d4, d5] }
  | _ => none }
def OrderDearWrongFalsely : Prop := orderDearRow.holds Try.pinned (OpenSpec.ofChange orderDearWrong)

/-- 'ringroadlaw12.MeshOf': WHATEVER THE INPUT: true; the input reads as it did. -/
def meshOfSpec : ChangeSpec := { name := "meshOf", fn := fun _ => fun
  | [d1, d2] => { results := [.lit (.bool true)], args := [d1, d2] }
  | _ => none }
def meshOfRow : OpenClaim := { program := "ytblapiiinbppiaa", sum := "5787ef57ceb621739f415b6d51873b09c4e198aaefd13b280bf9cc884d54d550", func := "ringroad/ringroadlaw12.MeshOf", spec := "meshOf", inPlace := ["slices.overlaps[int]"], unfollowed := true, recurses := true, apart := false }
def MeshOfSaid : Prop := meshOfRow.holds Try.pinned (OpenSpec.ofChange meshOfSpec)

/-- ITS FALSE NEIGHBOUR: 'it returns false'. Refute it at one input. -/
def meshOfWrong : ChangeSpec := { name := "meshOf", fn := fun _ => fun
  | [d1, d2] => { results := [.lit (.bool false)], args := [d1, d2] }
  | _ => none }
def MeshOfWrongFalsely : Prop := meshOfRow.holds Try.pinned (OpenSpec.ofChange meshOfWrong)

/- THE SECOND FORM. 'bulk': how many values and letters a reading holds, each counted each time it is reached (what is shared counts as often as it is met; a slice's spare places count too). A statement '..UptoSaid' is the law's where the arguments, and the package variables that the reading takes, are together of bulk at most 1048576: NARROWER than '..Said'. Prove '..Said' where nothing that the law and all that it calls make is longer than what came in: it says more and counts as full. Else prove '..UptoSaid'. A law counts once. -/
mutual
def uptoBulk {H : Type} : DataW H → Nat
  | .lit (.string bytes) => bytes.length + 1
  | .lit _ => 1
  | .nil => 1
  | .ptr d => uptoBulk d + 1
  | .slice elems spare => uptoBulkAll elems + uptoBulkAll spare + 1
  | .agg parts => uptoBulkAll parts + 1
  | .iface _ d => uptoBulk d + 1
  | .map entries => uptoBulkEntries entries + 1
  | .held _ => 1
def uptoBulkAll {H : Type} : List (DataW H) → Nat
  | [] => 0
  | d :: r => uptoBulk d + uptoBulkAll r
def uptoBulkEntries {H : Type} : List (Lit × DataW H) → Nat
  | [] => 0
  | x :: r => uptoBulkEntry x + uptoBulkEntries r
def uptoBulkEntry {H : Type} : Lit × DataW H → Nat
  | (.string bytes, d) => bytes.length + uptoBulk d + 1
  | (_, d) => uptoBulk d + 1
 end
def uptoSmall : (H : Type) → List (DataW H) → Bool := fun _ ds => decide (uptoBulkAll ds ≤ 1048576)
def OpenSpec.upto (s : _root_.Go.ChangeSpec) : _root_.Go.OpenSpec := { _root_.Go.OpenSpec.ofChange s with cond := some uptoSmall }

/-- 'ringroadlaw12.MeshLast', WHERE WHAT IT READS IS OF BULK AT MOST 1048576: true; the input reads as it did. -/
def meshLastUptoRow : OpenClaim := { program := "ytblapiiinbppiaa", sum := "5787ef57ceb621739f415b6d51873b09c4e198aaefd13b280bf9cc884d54d550", func := "ringroad/ringroadlaw12.MeshLast", spec := "meshLast", unfollowed := true, recurses := true, apart := false, narrowed := true }
def MeshLastUptoSaid : Prop := meshLastUptoRow.holds Try.pinned (OpenSpec.upto meshLastSpec)

/-- 'ringroadlaw12.MeshPuts', WHERE WHAT IT READS IS OF BULK AT MOST 1048576: true; the input reads as it did. -/
def meshPutsUptoRow : OpenClaim := { program := "ytblapiiinbppiaa", sum := "5787ef57ceb621739f415b6d51873b09c4e198aaefd13b280bf9cc884d54d550", func := "ringroad/ringroadlaw12.MeshPuts", spec := "meshPuts", unfollowed := true, recurses := true, apart := false, narrowed := true }
def MeshPutsUptoSaid : Prop := meshPutsUptoRow.holds Try.pinned (OpenSpec.upto meshPutsSpec)

/-- 'ringroadlaw12.MeshContracts', WHERE WHAT IT READS IS OF BULK AT MOST 1048576: true; the input reads as it did. -/
def meshContractsUptoRow : OpenClaim := { program := "ytblapiiinbppiaa", sum := "5787ef57ceb621739f415b6d51873b09c4e198aaefd13b280bf9cc884d54d550", func := "ringroad/ringroadlaw12.MeshContracts", spec := "meshContracts", unfollowed := true, recurses := true, apart := false, narrowed := true }
def MeshContractsUptoSaid : Prop := meshContractsUptoRow.holds Try.pinned (OpenSpec.upto meshContractsSpec)

/-- 'ringroadlaw13.WitnessSearches', WHERE WHAT IT READS IS OF BULK AT MOST 1048576: true; the input reads as it did. -/
def witnessSearchesUptoRow : OpenClaim := { program := "ytblapiiinbppiaa", sum := "5787ef57ceb621739f415b6d51873b09c4e198aaefd13b280bf9cc884d54d550", func := "ringroad/ringroadlaw13.WitnessSearches", spec := "witnessSearches", unfollowed := true, recurses := true, apart := false, narrowed := true }
def WitnessSearchesUptoSaid : Prop := witnessSearchesUptoRow.holds Try.pinned (OpenSpec.upto witnessSearchesSpec)

/-- 'ringroadlaw13.WitnessSpares', WHERE WHAT IT READS IS OF BULK AT MOST 1048576: true; the input reads as it did. -/
def witnessSparesUptoRow : OpenClaim := { program := "ytblapiiinbppiaa", sum := "5787ef57ceb621739f415b6d51873b09c4e198aaefd13b280bf9cc884d54d550", func := "ringroad/ringroadlaw13.WitnessSpares", spec := "witnessSpares", unfollowed := true, recurses := true, apart := false, narrowed := true }
def WitnessSparesUptoSaid : Prop := witnessSparesUptoRow.holds Try.pinned (OpenSpec.upto witnessSparesSpec)

/-- 'ringroadlaw13.WitnessFar', WHERE WHAT IT READS IS OF BULK AT MOST 1048576: true; the input reads as it did. -/
def witnessFarUptoRow : OpenClaim := { program := "ytblapiiinbppiaa", sum := "5787ef57ceb621739f415b6d51873b09c4e198aaefd13b280bf9cc884d54d550", func := "ringroad/ringroadlaw13.WitnessFar", spec := "witnessFar", unfollowed := true, recurses := true, apart := false, narrowed := true }
def WitnessFarUptoSaid : Prop := witnessFarUptoRow.holds Try.pinned (OpenSpec.upto witnessFarSpec)

/-- 'ringroadlaw13.WitnessMore', WHERE WHAT IT READS IS OF BULK AT MOST 1048576: true; the input reads as it did. -/
def witnessMoreUptoRow : OpenClaim := { program := "ytblapiiinbppiaa", sum := "5787ef57ceb621739f415b6d51873b09c4e198aaefd13b280bf9cc884d54d550", func := "ringroad/ringroadlaw13.WitnessMore", spec := "witnessMore", unfollowed := true, recurses := true, apart := false, narrowed := true }
def WitnessMoreUptoSaid : Prop := witnessMoreUptoRow.holds Try.pinned (OpenSpec.upto witnessMoreSpec)

/-- 'ringroadlaw13.WitnessLess', WHERE WHAT IT READS IS OF BULK AT MOST 1048576: true; the input reads as it did. -/
def witnessLessUptoRow : OpenClaim := { program := "ytblapiiinbppiaa", sum := "5787ef57ceb621739f415b6d51873b09c4e198aaefd13b280bf9cc884d54d550", func := "ringroad/ringroadlaw13.WitnessLess", spec := "witnessLess", unfollowed := true, recurses := true, apart := false, narrowed := true }
def WitnessLessUptoSaid : Prop := witnessLessUptoRow.holds Try.pinned (OpenSpec.upto witnessLessSpec)

/-- 'ringroadlaw14.OrderNeeds', WHERE WHAT IT READS IS OF BULK AT MOST 1048576: true; the input reads as it did. -/
def orderNeedsUptoRow : OpenClaim := { program := "ytblapiiinbppiaa", sum := "5787ef57ceb621739f415b6d51873b09c4e198aaefd13b280bf9cc884d54d550", func := "ringroad/ringroadlaw14.OrderNeeds", spec := "orderNeeds", unfollowed := true, recurses := true, apart := false, narrowed := true }
def OrderNeedsUptoSaid : Prop := orderNeedsUptoRow.holds Try.pinned (OpenSpec.upto orderNeedsSpec)

/-- 'ringroadlaw14.OrderEnds', WHERE WHAT IT READS IS OF BULK AT MOST 1048576: true; the input reads as it did. -/
def orderEndsUptoRow : OpenClaim := { program := "ytblapiiinbppiaa", sum := "5787ef57ceb621739f415b6d51873b09c4e198aaefd13b280bf9cc884d54d550", func := "ringroad/ringroadlaw14.OrderEnds", spec := "orderEnds", unfollowed := true, recurses := true, apart := false, narrowed := true }
def OrderEndsUptoSaid : Prop := orderEndsUptoRow.holds Try.pinned (OpenSpec.upto orderEndsSpec)

/-- 'ringroadlaw14.OrderDear', WHERE WHAT IT READS IS OF BULK AT MOST 1048576: true; the input reads as it did. -/
def orderDearUptoRow : OpenClaim := { program := "ytblapiiinbppiaa", sum := "5787ef57ceb621739f415b6d51873b09c4e198aaefd13b280bf9cc884d54d550", func := "ringroad/ringroadlaw14.OrderDear", spec := "orderDear", unfollowed := true, recurses := true, apart := false, narrowed := true }
def OrderDearUptoSaid : Prop := orderDearUptoRow.holds Try.pinned (OpenSpec.upto orderDearSpec)

/-- 'ringroadlaw12.MeshOf', WHERE WHAT IT READS IS OF BULK AT MOST 1048576: true; the input reads as it did. -/
def meshOfUptoRow : OpenClaim := { program := "ytblapiiinbppiaa", sum := "5787ef57ceb621739f415b6d51873b09c4e198aaefd13b280bf9cc884d54d550", func := "ringroad/ringroadlaw12.MeshOf", spec := "meshOf", inPlace := ["slices.overlaps[int]"], unfollowed := true, recurses := true, apart := false, narrowed := true }
def MeshOfUptoSaid : Prop := meshOfUptoRow.holds Try.pinned (OpenSpec.upto meshOfSpec)

end Rows
end Go.Proofs.Ytblapiiinbppiaa
