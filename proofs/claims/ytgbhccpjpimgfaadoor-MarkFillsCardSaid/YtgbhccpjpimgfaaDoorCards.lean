/-
  DERIVED. GIVEN WITH THE SEED: THE CARDS: each row of YtgbhccpjpimgfaaDoorRows.lean that lists a variable, with what it lists TIED to the program's text (the seventh form; the later family's looks); each row that meets fmt, with fmt's text TOLD by the authors' own Lean function (tested against real Go, not proved from fmt's source: count such statements apart). THE CARD IS WHAT COUNTS. Prove the row's statement (the work); the ties are given (YtgbhccpjpimgfaaDoorTie.lean); close each card by the builder's one call (the guide's Derived/Test/ToyasCard.lean, 'card_holds'). Laid BY PROGRAM, IN A SANDBOX (cutbox-door.mjs). By AI agents, Wed Nov 11 2026. No macro, syntax, notation, axiom, sorry.
-/
import Derived.Test.YtgbhccpjpimgfaaDoorRows
import GoSem.ClaimSeven
namespace Go.Proofs.YtgbhccpjpimgfaaDoor
namespace Rows

/-- THE TIED CARD OF 'ringroadlaw18.MarkGoes'. -/
def markGoesCard : Claim7 := { stood := { row := markGoesRow, standIns := [], harness := (true, "25205de471c1bf7526a1cee733e9050e6595d3118a75d2a8323f96552cf7236c"), looks := false }, kinds := [], alts := [], laidByText := true, laidKinds := [.data], laidTests := true, laidLooks := .later }
def MarkGoesCardSaid : Prop := Claim7.holds Tryd.pinned (.plain (OpenSpec.ofChange markGoesSpec)) markGoesCard

/-- THE TIED CARD OF 'ringroadlaw18.MarkApart'. -/
def markApartCard : Claim7 := { stood := { row := markApartRow, standIns := [], harness := (true, "25205de471c1bf7526a1cee733e9050e6595d3118a75d2a8323f96552cf7236c"), looks := false }, kinds := [], alts := [], laidByText := true, laidKinds := [.data], laidTests := true, laidLooks := .later }
def MarkApartCardSaid : Prop := Claim7.holds Tryd.pinned (.plain (OpenSpec.ofChange markApartSpec)) markApartCard

/-- THE TIED CARD OF 'ringroadlaw18.MarkPlays'. -/
def markPlaysCard : Claim7 := { stood := { row := markPlaysRow, standIns := [], harness := (true, "25205de471c1bf7526a1cee733e9050e6595d3118a75d2a8323f96552cf7236c"), looks := false }, kinds := [], alts := [], laidByText := true, laidKinds := [.data], laidTests := true, laidLooks := .later }
def MarkPlaysCardSaid : Prop := Claim7.holds Tryd.pinned (.plain (OpenSpec.ofChange markPlaysSpec)) markPlaysCard

/-- THE TIED CARD OF 'ringroadlaw18.MarkFills'. -/
def markFillsCard : Claim7 := { stood := { row := markFillsRow, standIns := [], harness := (true, "25205de471c1bf7526a1cee733e9050e6595d3118a75d2a8323f96552cf7236c"), looks := false }, kinds := [], alts := [], laidByText := true, laidKinds := [.data], laidTests := true, laidLooks := .later }
def MarkFillsCardSaid : Prop := Claim7.holds Tryd.pinned (.plain (OpenSpec.ofChange markFillsSpec)) markFillsCard

/-- THE SECOND FORM's CARD OF 'ringroadlaw18.MarkGoes'. -/
def markGoesUptoCard : Claim7 := { stood := { row := markGoesUptoRow, standIns := [], harness := (true, "25205de471c1bf7526a1cee733e9050e6595d3118a75d2a8323f96552cf7236c"), looks := false }, kinds := [], alts := [], laidByText := true, laidKinds := [.data], laidTests := true, laidLooks := .later }
def MarkGoesUptoCardSaid : Prop := Claim7.holds Tryd.pinned (.plain (OpenSpec.upto markGoesSpec)) markGoesUptoCard

/-- THE SECOND FORM's CARD OF 'ringroadlaw18.MarkApart'. -/
def markApartUptoCard : Claim7 := { stood := { row := markApartUptoRow, standIns := [], harness := (true, "25205de471c1bf7526a1cee733e9050e6595d3118a75d2a8323f96552cf7236c"), looks := false }, kinds := [], alts := [], laidByText := true, laidKinds := [.data], laidTests := true, laidLooks := .later }
def MarkApartUptoCardSaid : Prop := Claim7.holds Tryd.pinned (.plain (OpenSpec.upto markApartSpec)) markApartUptoCard

/-- THE SECOND FORM's CARD OF 'ringroadlaw18.MarkPlays'. -/
def markPlaysUptoCard : Claim7 := { stood := { row := markPlaysUptoRow, standIns := [], harness := (true, "25205de471c1bf7526a1cee733e9050e6595d3118a75d2a8323f96552cf7236c"), looks := false }, kinds := [], alts := [], laidByText := true, laidKinds := [.data], laidTests := true, laidLooks := .later }
def MarkPlaysUptoCardSaid : Prop := Claim7.holds Tryd.pinned (.plain (OpenSpec.upto markPlaysSpec)) markPlaysUptoCard

/-- THE SECOND FORM's CARD OF 'ringroadlaw18.MarkFills'. -/
def markFillsUptoCard : Claim7 := { stood := { row := markFillsUptoRow, standIns := [], harness := (true, "25205de471c1bf7526a1cee733e9050e6595d3118a75d2a8323f96552cf7236c"), looks := false }, kinds := [], alts := [], laidByText := true, laidKinds := [.data], laidTests := true, laidLooks := .later }
def MarkFillsUptoCardSaid : Prop := Claim7.holds Tryd.pinned (.plain (OpenSpec.upto markFillsSpec)) markFillsUptoCard
end Rows
end Go.Proofs.YtgbhccpjpimgfaaDoor
