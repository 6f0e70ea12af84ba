/-
  DERIVED. GIVEN WITH THE SEED: THE CARDS: each row of YtikdblejkmaloaaDoorRows.lean that lists a variable, with what it lists TIED to the program's text (the seventh form; the later family's looks); each row that meets fmt, with fmt's text TOLD by the authors' own Lean function (tested against real Go, not proved from fmt's source: count such statements apart). THE CARD IS WHAT COUNTS. Prove the row's statement (the work); the ties are given (YtikdblejkmaloaaDoorTie.lean); close each card by the builder's one call (the guide's Derived/Test/ToyasCard.lean, 'card_holds'). Laid BY PROGRAM, IN A SANDBOX (cutbox-door.mjs). By AI agents, Wed Nov 11 2026. No macro, syntax, notation, axiom, sorry.
-/
import Derived.Test.YtikdblejkmaloaaDoorRows
import GoSem.ClaimSeven
namespace Go.Proofs.YtikdblejkmaloaaDoor
namespace Rows

/-- THE TIED CARD OF 'ringroadlaw03.BitsSplit'. -/
def bitsSplitCard : Claim7 := { stood := { row := bitsSplitRow, standIns := [], harness := (true, "e5d354a09aeae717468b33ca59a99c5c8e4989067e0461fde02acf32c4e05e58"), looks := false }, kinds := [], alts := [], laidByText := true, laidKinds := [.data], laidTests := true, laidLooks := .later }
def BitsSplitCardSaid : Prop := Claim7.holds Tryd.pinned (.plain (OpenSpec.ofChange bitsSplitSpec)) bitsSplitCard

/-- THE TIED CARD OF 'ringroadlaw03.BitsGoes'. -/
def bitsGoesCard : Claim7 := { stood := { row := bitsGoesRow, standIns := [], harness := (true, "e5d354a09aeae717468b33ca59a99c5c8e4989067e0461fde02acf32c4e05e58"), looks := false }, kinds := [], alts := [], laidByText := true, laidKinds := [.data], laidTests := true, laidLooks := .later }
def BitsGoesCardSaid : Prop := Claim7.holds Tryd.pinned (.plain (OpenSpec.ofChange bitsGoesSpec)) bitsGoesCard

/-- THE TIED CARD OF 'ringroadlaw03.BitsTells'. -/
def bitsTellsCard : Claim7 := { stood := { row := bitsTellsRow, standIns := [], harness := (true, "e5d354a09aeae717468b33ca59a99c5c8e4989067e0461fde02acf32c4e05e58"), looks := false }, kinds := [], alts := [], laidByText := true, laidKinds := [.data], laidTests := true, laidLooks := .later }
def BitsTellsCardSaid : Prop := Claim7.holds Tryd.pinned (.plain (OpenSpec.ofChange bitsTellsSpec)) bitsTellsCard

/-- THE TIED CARD OF 'ringroadlaw03.BitsOf'. -/
def bitsOfCard : Claim7 := { stood := { row := bitsOfRow, standIns := [], harness := (true, "e5d354a09aeae717468b33ca59a99c5c8e4989067e0461fde02acf32c4e05e58"), looks := false }, kinds := [], alts := [], laidByText := true, laidKinds := [.data], laidTests := true, laidLooks := .later }
def BitsOfCardSaid : Prop := Claim7.holds Tryd.pinned (.plain (OpenSpec.ofChange bitsOfSpec)) bitsOfCard

/-- THE TIED CARD OF 'ringroadlaw03.BitsBack'. -/
def bitsBackCard : Claim7 := { stood := { row := bitsBackRow, standIns := [], harness := (true, "e5d354a09aeae717468b33ca59a99c5c8e4989067e0461fde02acf32c4e05e58"), looks := false }, kinds := [], alts := [], laidByText := true, laidKinds := [.data], laidTests := true, laidLooks := .later }
def BitsBackCardSaid : Prop := Claim7.holds Tryd.pinned (.plain (OpenSpec.ofChange bitsBackSpec)) bitsBackCard

/-- THE SECOND FORM's CARD OF 'ringroadlaw03.BitsSplit'. -/
def bitsSplitUptoCard : Claim7 := { stood := { row := bitsSplitUptoRow, standIns := [], harness := (true, "e5d354a09aeae717468b33ca59a99c5c8e4989067e0461fde02acf32c4e05e58"), looks := false }, kinds := [], alts := [], laidByText := true, laidKinds := [.data], laidTests := true, laidLooks := .later }
def BitsSplitUptoCardSaid : Prop := Claim7.holds Tryd.pinned (.plain (OpenSpec.upto bitsSplitSpec)) bitsSplitUptoCard

/-- THE SECOND FORM's CARD OF 'ringroadlaw03.BitsGoes'. -/
def bitsGoesUptoCard : Claim7 := { stood := { row := bitsGoesUptoRow, standIns := [], harness := (true, "e5d354a09aeae717468b33ca59a99c5c8e4989067e0461fde02acf32c4e05e58"), looks := false }, kinds := [], alts := [], laidByText := true, laidKinds := [.data], laidTests := true, laidLooks := .later }
def BitsGoesUptoCardSaid : Prop := Claim7.holds Tryd.pinned (.plain (OpenSpec.upto bitsGoesSpec)) bitsGoesUptoCard

/-- THE SECOND FORM's CARD OF 'ringroadlaw03.BitsTells'. -/
def bitsTellsUptoCard : Claim7 := { stood := { row := bitsTellsUptoRow, standIns := [], harness := (true, "e5d354a09aeae717468b33ca59a99c5c8e4989067e0461fde02acf32c4e05e58"), looks := false }, kinds := [], alts := [], laidByText := true, laidKinds := [.data], laidTests := true, laidLooks := .later }
def BitsTellsUptoCardSaid : Prop := Claim7.holds Tryd.pinned (.plain (OpenSpec.upto bitsTellsSpec)) bitsTellsUptoCard

/-- THE SECOND FORM's CARD OF 'ringroadlaw03.BitsOf'. -/
def bitsOfUptoCard : Claim7 := { stood := { row := bitsOfUptoRow, standIns := [], harness := (true, "e5d354a09aeae717468b33ca59a99c5c8e4989067e0461fde02acf32c4e05e58"), looks := false }, kinds := [], alts := [], laidByText := true, laidKinds := [.data], laidTests := true, laidLooks := .later }
def BitsOfUptoCardSaid : Prop := Claim7.holds Tryd.pinned (.plain (OpenSpec.upto bitsOfSpec)) bitsOfUptoCard

/-- THE SECOND FORM's CARD OF 'ringroadlaw03.BitsBack'. -/
def bitsBackUptoCard : Claim7 := { stood := { row := bitsBackUptoRow, standIns := [], harness := (true, "e5d354a09aeae717468b33ca59a99c5c8e4989067e0461fde02acf32c4e05e58"), looks := false }, kinds := [], alts := [], laidByText := true, laidKinds := [.data], laidTests := true, laidLooks := .later }
def BitsBackUptoCardSaid : Prop := Claim7.holds Tryd.pinned (.plain (OpenSpec.upto bitsBackSpec)) bitsBackUptoCard
end Rows
end Go.Proofs.YtikdblejkmaloaaDoor
