/-
  DERIVED. GIVEN WITH THE SEED: THE CARDS: each row of YtblapiiinbppiaaGreatDoorRows.lean that lists a variable, with what it lists TIED to the program's text (the seventh form; the later family's looks); each row that meets fmt, with fmt's text TOLD by the authors' own Lean function (tested against real Go, not proved from fmt's source: count such statements apart). THE CARD IS WHAT COUNTS. Prove the row's statement (the work); the ties are given (YtblapiiinbppiaaGreatDoorTie.lean); close each card by the builder's one call (the guide's Derived/Test/ToyasCard.lean, 'card_holds'). Laid BY PROGRAM, IN A SANDBOX (cutbox-door.mjs). By AI agents, Wed Nov 11 2026. No macro, syntax, notation, axiom, sorry.
-/
import Derived.Test.YtblapiiinbppiaaGreatDoorRows
import GoSem.ClaimSeven
namespace Go.Proofs.YtblapiiinbppiaaGreatDoor
namespace Rows

/-- THE TIED CARD OF 'ringroadlaw14.OrderRanks'. -/
def orderRanksCard : Claim7 := { stood := { row := orderRanksRow, standIns := [], harness := (true, "3ce06a51db2fe0d61ec19b8d8573f4e329a76b44aed2b51c21dbdfffd23ece27"), looks := false }, kinds := [], alts := [], laidByText := true, laidKinds := [.data], laidTests := true, laidLooks := .later }
def OrderRanksCardSaid : Prop := Claim7.holds Tryz.pinned (.plain (OpenSpec.ofChange orderRanksSpec)) orderRanksCard

/-- THE TIED CARD OF 'ringroadlaw14.OrderParallel'. -/
def orderParallelCard : Claim7 := { stood := { row := orderParallelRow, standIns := [], harness := (true, "3ce06a51db2fe0d61ec19b8d8573f4e329a76b44aed2b51c21dbdfffd23ece27"), looks := false }, kinds := [], alts := [], laidByText := true, laidKinds := [.data], laidTests := true, laidLooks := .later }
def OrderParallelCardSaid : Prop := Claim7.holds Tryz.pinned (.plain (OpenSpec.ofChange orderParallelSpec)) orderParallelCard

/-- THE SECOND FORM's CARD OF 'ringroadlaw14.OrderRanks'. -/
def orderRanksUptoCard : Claim7 := { stood := { row := orderRanksUptoRow, standIns := [], harness := (true, "3ce06a51db2fe0d61ec19b8d8573f4e329a76b44aed2b51c21dbdfffd23ece27"), looks := false }, kinds := [], alts := [], laidByText := true, laidKinds := [.data], laidTests := true, laidLooks := .later }
def OrderRanksUptoCardSaid : Prop := Claim7.holds Tryz.pinned (.plain (OpenSpec.upto orderRanksSpec)) orderRanksUptoCard

/-- THE SECOND FORM's CARD OF 'ringroadlaw14.OrderParallel'. -/
def orderParallelUptoCard : Claim7 := { stood := { row := orderParallelUptoRow, standIns := [], harness := (true, "3ce06a51db2fe0d61ec19b8d8573f4e329a76b44aed2b51c21dbdfffd23ece27"), looks := false }, kinds := [], alts := [], laidByText := true, laidKinds := [.data], laidTests := true, laidLooks := .later }
def OrderParallelUptoCardSaid : Prop := Claim7.holds Tryz.pinned (.plain (OpenSpec.upto orderParallelSpec)) orderParallelUptoCard
end Rows
end Go.Proofs.YtblapiiinbppiaaGreatDoor
