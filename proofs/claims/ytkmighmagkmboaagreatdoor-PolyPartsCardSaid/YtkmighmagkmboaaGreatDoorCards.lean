/-
  DERIVED. GIVEN WITH THE SEED: THE CARDS: each row of YtkmighmagkmboaaGreatDoorRows.lean that lists a variable, with what it lists TIED to the program's text (the seventh form; the later family's looks); each row that meets fmt, with fmt's text TOLD by the authors' own Lean function (tested against real Go, not proved from fmt's source: count such statements apart). THE CARD IS WHAT COUNTS. Prove the row's statement (the work); the ties are given (YtkmighmagkmboaaGreatDoorTie.lean); close each card by the builder's one call (the guide's Derived/Test/ToyasCard.lean, 'card_holds'). Laid BY PROGRAM, IN A SANDBOX (cutbox-door.mjs). By AI agents, Wed Nov 11 2026. No macro, syntax, notation, axiom, sorry.
-/
import Derived.Test.YtkmighmagkmboaaGreatDoorRows
import GoSem.ClaimSeven
namespace Go.Proofs.YtkmighmagkmboaaGreatDoor
namespace Rows

/-- THE TIED CARD OF 'flowpipelaw23.PolyTexts'. -/
def polyTextsCard : Claim7 := { stood := { row := polyTextsRow, standIns := [], harness := (true, "5e39160b423ff031626509a3b1c71833a19cef5d4d00d7d7b76b2f2d3ce63fb6"), looks := false }, kinds := [], alts := [], laidByText := true, laidKinds := [.data, .data, .data], laidTests := true, laidLooks := .later }
def PolyTextsCardSaid : Prop := Claim7.holds Tryz.pinned (.plain (OpenSpec.ofChange polyTextsSpec)) polyTextsCard

/-- THE TIED CARD OF 'flowpipelaw23.PolyRule'. -/
def polyRuleCard : Claim7 := { stood := { row := polyRuleRow, standIns := [], harness := (true, "5e39160b423ff031626509a3b1c71833a19cef5d4d00d7d7b76b2f2d3ce63fb6"), looks := false }, kinds := [], alts := [], laidByText := true, laidKinds := [.data, .data, .data], laidTests := true, laidLooks := .later }
def PolyRuleCardSaid : Prop := Claim7.holds Tryz.pinned (.plain (OpenSpec.ofChange polyRuleSpec)) polyRuleCard

/-- THE TIED CARD OF 'flowpipelaw23.PolyPoints'. -/
def polyPointsCard : Claim7 := { stood := { row := polyPointsRow, standIns := [], harness := (true, "5e39160b423ff031626509a3b1c71833a19cef5d4d00d7d7b76b2f2d3ce63fb6"), looks := false }, kinds := [], alts := [], laidByText := true, laidKinds := [.data, .data, .data], laidTests := true, laidLooks := .later }
def PolyPointsCardSaid : Prop := Claim7.holds Tryz.pinned (.plain (OpenSpec.ofChange polyPointsSpec)) polyPointsCard

/-- THE TIED CARD OF 'flowpipelaw23.PolyParts'. -/
def polyPartsCard : Claim7 := { stood := { row := polyPartsRow, standIns := [], harness := (true, "5e39160b423ff031626509a3b1c71833a19cef5d4d00d7d7b76b2f2d3ce63fb6"), looks := false }, kinds := [], alts := [], laidByText := true, laidKinds := [.data, .data, .data], laidTests := true, laidLooks := .later }
def PolyPartsCardSaid : Prop := Claim7.holds Tryz.pinned (.plain (OpenSpec.ofChange polyPartsSpec)) polyPartsCard

/-- THE TIED CARD OF 'flowpipelaw23.PolyHalves'. -/
def polyHalvesCard : Claim7 := { stood := { row := polyHalvesRow, standIns := [], harness := (true, "5e39160b423ff031626509a3b1c71833a19cef5d4d00d7d7b76b2f2d3ce63fb6"), looks := false }, kinds := [], alts := [], laidByText := true, laidKinds := [.data, .data, .data], laidTests := true, laidLooks := .later }
def PolyHalvesCardSaid : Prop := Claim7.holds Tryz.pinned (.plain (OpenSpec.ofChange polyHalvesSpec)) polyHalvesCard

/-- THE SECOND FORM's CARD OF 'flowpipelaw23.PolyTexts'. -/
def polyTextsUptoCard : Claim7 := { stood := { row := polyTextsUptoRow, standIns := [], harness := (true, "5e39160b423ff031626509a3b1c71833a19cef5d4d00d7d7b76b2f2d3ce63fb6"), looks := false }, kinds := [], alts := [], laidByText := true, laidKinds := [.data, .data, .data], laidTests := true, laidLooks := .later }
def PolyTextsUptoCardSaid : Prop := Claim7.holds Tryz.pinned (.plain (OpenSpec.upto polyTextsSpec)) polyTextsUptoCard

/-- THE SECOND FORM's CARD OF 'flowpipelaw23.PolyRule'. -/
def polyRuleUptoCard : Claim7 := { stood := { row := polyRuleUptoRow, standIns := [], harness := (true, "5e39160b423ff031626509a3b1c71833a19cef5d4d00d7d7b76b2f2d3ce63fb6"), looks := false }, kinds := [], alts := [], laidByText := true, laidKinds := [.data, .data, .data], laidTests := true, laidLooks := .later }
def PolyRuleUptoCardSaid : Prop := Claim7.holds Tryz.pinned (.plain (OpenSpec.upto polyRuleSpec)) polyRuleUptoCard

/-- THE SECOND FORM's CARD OF 'flowpipelaw23.PolyPoints'. -/
def polyPointsUptoCard : Claim7 := { stood := { row := polyPointsUptoRow, standIns := [], harness := (true, "5e39160b423ff031626509a3b1c71833a19cef5d4d00d7d7b76b2f2d3ce63fb6"), looks := false }, kinds := [], alts := [], laidByText := true, laidKinds := [.data, .data, .data], laidTests := true, laidLooks := .later }
def PolyPointsUptoCardSaid : Prop := Claim7.holds Tryz.pinned (.plain (OpenSpec.upto polyPointsSpec)) polyPointsUptoCard

/-- THE SECOND FORM's CARD OF 'flowpipelaw23.PolyParts'. -/
def polyPartsUptoCard : Claim7 := { stood := { row := polyPartsUptoRow, standIns := [], harness := (true, "5e39160b423ff031626509a3b1c71833a19cef5d4d00d7d7b76b2f2d3ce63fb6"), looks := false }, kinds := [], alts := [], laidByText := true, laidKinds := [.data, .data, .data], laidTests := true, laidLooks := .later }
def PolyPartsUptoCardSaid : Prop := Claim7.holds Tryz.pinned (.plain (OpenSpec.upto polyPartsSpec)) polyPartsUptoCard

/-- THE SECOND FORM's CARD OF 'flowpipelaw23.PolyHalves'. -/
def polyHalvesUptoCard : Claim7 := { stood := { row := polyHalvesUptoRow, standIns := [], harness := (true, "5e39160b423ff031626509a3b1c71833a19cef5d4d00d7d7b76b2f2d3ce63fb6"), looks := false }, kinds := [], alts := [], laidByText := true, laidKinds := [.data, .data, .data], laidTests := true, laidLooks := .later }
def PolyHalvesUptoCardSaid : Prop := Claim7.holds Tryz.pinned (.plain (OpenSpec.upto polyHalvesSpec)) polyHalvesUptoCard
end Rows
end Go.Proofs.YtkmighmagkmboaaGreatDoor
