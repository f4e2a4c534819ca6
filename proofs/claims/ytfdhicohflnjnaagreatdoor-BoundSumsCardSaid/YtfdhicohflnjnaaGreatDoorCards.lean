/-
  DERIVED. GIVEN WITH THE SEED: THE CARDS: each row of YtfdhicohflnjnaaGreatDoorRows.lean that lists a variable, with what it lists TIED to the program's text (the seventh form; the later family's looks); each row that meets fmt, with fmt's text TOLD by the authors' own Lean function (tested against real Go, not proved from fmt's source: count such statements apart). THE CARD IS WHAT COUNTS. Prove the row's statement (the work); the ties are given (YtfdhicohflnjnaaGreatDoorTie.lean); close each card by the builder's one call (the guide's Derived/Test/ToyasCard.lean, 'card_holds'). Laid BY PROGRAM, IN A SANDBOX (cutbox-door.mjs). By AI agents, Wed Nov 11 2026. No macro, syntax, notation, axiom, sorry.
-/
import Derived.Test.YtfdhicohflnjnaaGreatDoorRows
import GoSem.ClaimSeven
namespace Go.Proofs.YtfdhicohflnjnaaGreatDoor
namespace Rows

/-- THE TIED CARD OF 'flowpipelaw24.BoundBest'. -/
def boundBestCard : Claim7 := { stood := { row := boundBestRow, standIns := [], harness := (true, "101425869707033a07546b6eb4d5671e219f894f46ee4f4a00ea7233aeb950c0"), looks := false }, kinds := [], alts := [], laidByText := true, laidKinds := [.data], laidTests := true, laidLooks := .later }
def BoundBestCardSaid : Prop := Claim7.holds Tryz.pinned (.plain (OpenSpec.ofChange boundBestSpec)) boundBestCard

/-- THE TIED CARD OF 'flowpipelaw24.BoundSmaller'. -/
def boundSmallerCard : Claim7 := { stood := { row := boundSmallerRow, standIns := [], harness := (true, "101425869707033a07546b6eb4d5671e219f894f46ee4f4a00ea7233aeb950c0"), looks := false }, kinds := [], alts := [], laidByText := true, laidKinds := [.data], laidTests := true, laidLooks := .later }
def BoundSmallerCardSaid : Prop := Claim7.holds Tryz.pinned (.plain (OpenSpec.ofChange boundSmallerSpec)) boundSmallerCard

/-- THE TIED CARD OF 'flowpipelaw24.BoundContains'. -/
def boundContainsCard : Claim7 := { stood := { row := boundContainsRow, standIns := [], harness := (true, "101425869707033a07546b6eb4d5671e219f894f46ee4f4a00ea7233aeb950c0"), looks := false }, kinds := [], alts := [], laidByText := true, laidKinds := [.data], laidTests := true, laidLooks := .later }
def BoundContainsCardSaid : Prop := Claim7.holds Tryz.pinned (.plain (OpenSpec.ofChange boundContainsSpec)) boundContainsCard

/-- THE TIED CARD OF 'flowpipelaw24.BoundCorners'. -/
def boundCornersCard : Claim7 := { stood := { row := boundCornersRow, standIns := [], harness := (true, "101425869707033a07546b6eb4d5671e219f894f46ee4f4a00ea7233aeb950c0"), looks := false }, kinds := [], alts := [], laidByText := true, laidKinds := [.data], laidTests := true, laidLooks := .later }
def BoundCornersCardSaid : Prop := Claim7.holds Tryz.pinned (.plain (OpenSpec.ofChange boundCornersSpec)) boundCornersCard

/-- THE TIED CARD OF 'flowpipelaw24.BoundConstants'. -/
def boundConstantsCard : Claim7 := { stood := { row := boundConstantsRow, standIns := [], harness := (true, "101425869707033a07546b6eb4d5671e219f894f46ee4f4a00ea7233aeb950c0"), looks := false }, kinds := [], alts := [], laidByText := true, laidKinds := [.data], laidTests := true, laidLooks := .later }
def BoundConstantsCardSaid : Prop := Claim7.holds Tryz.pinned (.plain (OpenSpec.ofChange boundConstantsSpec)) boundConstantsCard

/-- THE TIED CARD OF 'flowpipelaw24.BoundSums'. -/
def boundSumsCard : Claim7 := { stood := { row := boundSumsRow, standIns := [], harness := (true, "101425869707033a07546b6eb4d5671e219f894f46ee4f4a00ea7233aeb950c0"), looks := false }, kinds := [], alts := [], laidByText := true, laidKinds := [.data], laidTests := true, laidLooks := .later }
def BoundSumsCardSaid : Prop := Claim7.holds Tryz.pinned (.plain (OpenSpec.ofChange boundSumsSpec)) boundSumsCard

/-- THE SECOND FORM's CARD OF 'flowpipelaw24.BoundBest'. -/
def boundBestUptoCard : Claim7 := { stood := { row := boundBestUptoRow, standIns := [], harness := (true, "101425869707033a07546b6eb4d5671e219f894f46ee4f4a00ea7233aeb950c0"), looks := false }, kinds := [], alts := [], laidByText := true, laidKinds := [.data], laidTests := true, laidLooks := .later }
def BoundBestUptoCardSaid : Prop := Claim7.holds Tryz.pinned (.plain (OpenSpec.upto boundBestSpec)) boundBestUptoCard

/-- THE SECOND FORM's CARD OF 'flowpipelaw24.BoundSmaller'. -/
def boundSmallerUptoCard : Claim7 := { stood := { row := boundSmallerUptoRow, standIns := [], harness := (true, "101425869707033a07546b6eb4d5671e219f894f46ee4f4a00ea7233aeb950c0"), looks := false }, kinds := [], alts := [], laidByText := true, laidKinds := [.data], laidTests := true, laidLooks := .later }
def BoundSmallerUptoCardSaid : Prop := Claim7.holds Tryz.pinned (.plain (OpenSpec.upto boundSmallerSpec)) boundSmallerUptoCard

/-- THE SECOND FORM's CARD OF 'flowpipelaw24.BoundContains'. -/
def boundContainsUptoCard : Claim7 := { stood := { row := boundContainsUptoRow, standIns := [], harness := (true, "101425869707033a07546b6eb4d5671e219f894f46ee4f4a00ea7233aeb950c0"), looks := false }, kinds := [], alts := [], laidByText := true, laidKinds := [.data], laidTests := true, laidLooks := .later }
def BoundContainsUptoCardSaid : Prop := Claim7.holds Tryz.pinned (.plain (OpenSpec.upto boundContainsSpec)) boundContainsUptoCard

/-- THE SECOND FORM's CARD OF 'flowpipelaw24.BoundCorners'. -/
def boundCornersUptoCard : Claim7 := { stood := { row := boundCornersUptoRow, standIns := [], harness := (true, "101425869707033a07546b6eb4d5671e219f894f46ee4f4a00ea7233aeb950c0"), looks := false }, kinds := [], alts := [], laidByText := true, laidKinds := [.data], laidTests := true, laidLooks := .later }
def BoundCornersUptoCardSaid : Prop := Claim7.holds Tryz.pinned (.plain (OpenSpec.upto boundCornersSpec)) boundCornersUptoCard

/-- THE SECOND FORM's CARD OF 'flowpipelaw24.BoundConstants'. -/
def boundConstantsUptoCard : Claim7 := { stood := { row := boundConstantsUptoRow, standIns := [], harness := (true, "101425869707033a07546b6eb4d5671e219f894f46ee4f4a00ea7233aeb950c0"), looks := false }, kinds := [], alts := [], laidByText := true, laidKinds := [.data], laidTests := true, laidLooks := .later }
def BoundConstantsUptoCardSaid : Prop := Claim7.holds Tryz.pinned (.plain (OpenSpec.upto boundConstantsSpec)) boundConstantsUptoCard

/-- THE SECOND FORM's CARD OF 'flowpipelaw24.BoundSums'. -/
def boundSumsUptoCard : Claim7 := { stood := { row := boundSumsUptoRow, standIns := [], harness := (true, "101425869707033a07546b6eb4d5671e219f894f46ee4f4a00ea7233aeb950c0"), looks := false }, kinds := [], alts := [], laidByText := true, laidKinds := [.data], laidTests := true, laidLooks := .later }
def BoundSumsUptoCardSaid : Prop := Claim7.holds Tryz.pinned (.plain (OpenSpec.upto boundSumsSpec)) boundSumsUptoCard
end Rows
end Go.Proofs.YtfdhicohflnjnaaGreatDoor
