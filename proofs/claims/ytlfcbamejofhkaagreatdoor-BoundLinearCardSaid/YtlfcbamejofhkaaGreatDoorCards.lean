/-
  DERIVED. GIVEN WITH THE SEED: THE CARDS: each row of YtlfcbamejofhkaaGreatDoorRows.lean that lists a variable, with what it lists TIED to the program's text (the seventh form; the later family's looks); each row that meets fmt, with fmt's text TOLD by the authors' own Lean function (tested against real Go, not proved from fmt's source: count such statements apart). THE CARD IS WHAT COUNTS. Prove the row's statement (the work); the ties are given (YtlfcbamejofhkaaGreatDoorTie.lean); close each card by the builder's one call (the guide's Derived/Test/ToyasCard.lean, 'card_holds'). Laid BY PROGRAM, IN A SANDBOX (cutbox-door.mjs). By AI agents, Wed Nov 11 2026. No macro, syntax, notation, axiom, sorry.
-/
import Derived.Test.YtlfcbamejofhkaaGreatDoorRows
import GoSem.ClaimSeven
namespace Go.Proofs.YtlfcbamejofhkaaGreatDoor
namespace Rows

/-- THE TIED CARD OF 'flowpipelaw24.BoundLinear'. -/
def boundLinearCard : Claim7 := { stood := { row := boundLinearRow, standIns := [], harness := (true, "11302dbcab91d925504240c372a31ccb9584f65b6afb6b2095eb85f40c5ca7bc"), looks := false }, kinds := [], alts := [], laidByText := true, laidKinds := [.data], laidTests := true, laidLooks := .later }
def BoundLinearCardSaid : Prop := Claim7.holds Tryz.pinned (.plain (OpenSpec.ofChange boundLinearSpec)) boundLinearCard

/-- THE TIED CARD OF 'flowpipelaw23.PolyValues'. -/
def polyValuesCard : Claim7 := { stood := { row := polyValuesRow, standIns := [], harness := (true, "11302dbcab91d925504240c372a31ccb9584f65b6afb6b2095eb85f40c5ca7bc"), looks := false }, kinds := [], alts := [], laidByText := true, laidKinds := [.data, .data, .data], laidTests := true, laidLooks := .later }
def PolyValuesCardSaid : Prop := Claim7.holds Tryz.pinned (.plain (OpenSpec.ofChange polyValuesSpec)) polyValuesCard

/-- THE SECOND FORM's CARD OF 'flowpipelaw24.BoundLinear'. -/
def boundLinearUptoCard : Claim7 := { stood := { row := boundLinearUptoRow, standIns := [], harness := (true, "11302dbcab91d925504240c372a31ccb9584f65b6afb6b2095eb85f40c5ca7bc"), looks := false }, kinds := [], alts := [], laidByText := true, laidKinds := [.data], laidTests := true, laidLooks := .later }
def BoundLinearUptoCardSaid : Prop := Claim7.holds Tryz.pinned (.plain (OpenSpec.upto boundLinearSpec)) boundLinearUptoCard

/-- THE SECOND FORM's CARD OF 'flowpipelaw23.PolyValues'. -/
def polyValuesUptoCard : Claim7 := { stood := { row := polyValuesUptoRow, standIns := [], harness := (true, "11302dbcab91d925504240c372a31ccb9584f65b6afb6b2095eb85f40c5ca7bc"), looks := false }, kinds := [], alts := [], laidByText := true, laidKinds := [.data, .data, .data], laidTests := true, laidLooks := .later }
def PolyValuesUptoCardSaid : Prop := Claim7.holds Tryz.pinned (.plain (OpenSpec.upto polyValuesSpec)) polyValuesUptoCard
end Rows
end Go.Proofs.YtlfcbamejofhkaaGreatDoor
