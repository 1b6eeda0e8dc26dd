/-
  DERIVED. GIVEN WITH THE SEED: THE CARDS: each row of YteafbeealhpelaaGreatDoorRows.lean that lists a variable, with what it lists TIED to the program's text (the seventh form; the later family's looks); each row that meets fmt, with fmt's text TOLD by the authors' own Lean function (tested against real Go, not proved from fmt's source: count such statements apart). THE CARD IS WHAT COUNTS. Prove the row's statement (the work); the ties are given (YteafbeealhpelaaGreatDoorTie.lean); close each card by the builder's one call (the guide's Derived/Test/ToyasCard.lean, 'card_holds'). Laid BY PROGRAM, IN A SANDBOX (cutbox-door.mjs). By AI agents, Wed Nov 11 2026. No macro, syntax, notation, axiom, sorry.
-/
import Derived.Test.YteafbeealhpelaaGreatDoorRows
import GoSem.ClaimSeven
namespace Go.Proofs.YteafbeealhpelaaGreatDoor
namespace Rows

/-- THE TIED CARD OF 'surtitlelaw15.VttNames'. -/
def vttNamesCard : Claim7 := { stood := { row := vttNamesRow, standIns := [], harness := (true, "8c9546f6a3d98588e3a04c2bebe35a13215e1e09d2f3cb810cdcd7e78fd58283"), looks := true }, kinds := [], alts := [], laidByText := true, laidKinds := [.data, .data, .data, .data, .pinned], laidTests := true, laidLooks := .later }
def VttNamesCardSaid : Prop := Claim7.holds Tryz.pinned (.plain (OpenSpec.ofChange vttNamesSpec)) vttNamesCard

/-- THE TIED CARD OF 'surtitlelaw18.ConvNames'. -/
def convNamesCard : Claim7 := { stood := { row := convNamesRow, standIns := [], harness := (true, "8c9546f6a3d98588e3a04c2bebe35a13215e1e09d2f3cb810cdcd7e78fd58283"), looks := true }, kinds := [], alts := [], laidByText := true, laidKinds := [.data, .data, .data, .data, .pinned], laidTests := true, laidLooks := .later }
def ConvNamesCardSaid : Prop := Claim7.holds Tryz.pinned (.plain (OpenSpec.ofChange convNamesSpec)) convNamesCard

/-- THE SECOND FORM's CARD OF 'surtitlelaw15.VttNames'. -/
def vttNamesUptoCard : Claim7 := { stood := { row := vttNamesUptoRow, standIns := [], harness := (true, "8c9546f6a3d98588e3a04c2bebe35a13215e1e09d2f3cb810cdcd7e78fd58283"), looks := true }, kinds := [], alts := [], laidByText := true, laidKinds := [.data, .data, .data, .data, .pinned], laidTests := true, laidLooks := .later }
def VttNamesUptoCardSaid : Prop := Claim7.holds Tryz.pinned (.plain (OpenSpec.upto vttNamesSpec)) vttNamesUptoCard

/-- THE SECOND FORM's CARD OF 'surtitlelaw18.ConvNames'. -/
def convNamesUptoCard : Claim7 := { stood := { row := convNamesUptoRow, standIns := [], harness := (true, "8c9546f6a3d98588e3a04c2bebe35a13215e1e09d2f3cb810cdcd7e78fd58283"), looks := true }, kinds := [], alts := [], laidByText := true, laidKinds := [.data, .data, .data, .data, .pinned], laidTests := true, laidLooks := .later }
def ConvNamesUptoCardSaid : Prop := Claim7.holds Tryz.pinned (.plain (OpenSpec.upto convNamesSpec)) convNamesUptoCard
end Rows
end Go.Proofs.YteafbeealhpelaaGreatDoor
