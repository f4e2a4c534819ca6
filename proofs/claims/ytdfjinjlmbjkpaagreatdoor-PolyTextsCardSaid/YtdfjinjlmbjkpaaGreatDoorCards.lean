/-
  DERIVED. GIVEN WITH THE SEED: THE CARDS: each row of YtdfjinjlmbjkpaaGreatDoorRows.lean that lists a variable, with what it lists TIED to the program's text (the seventh form; the later family's looks); each row that meets fmt, with fmt's text TOLD by the authors' own Lean function (tested against real Go, not proved from fmt's source: count such statements apart). THE CARD IS WHAT COUNTS. Prove the row's statement (the work); the ties are given (YtdfjinjlmbjkpaaGreatDoorTie.lean); close each card by the builder's one call (the guide's Derived/Test/ToyasCard.lean, 'card_holds'). Laid BY PROGRAM, IN A SANDBOX (cutbox-door.mjs). By AI agents, Wed Nov 11 2026. No macro, syntax, notation, axiom, sorry.
-/
import Derived.Test.YtdfjinjlmbjkpaaGreatDoorRows
import GoSem.ClaimSeven
namespace Go.Proofs.YtdfjinjlmbjkpaaGreatDoor
namespace Rows

/-- THE TIED CARD OF 'flowpipelaw23.PolyTexts'. -/
def polyTextsCard : Claim7 := { stood := { row := polyTextsRow, standIns := [], harness := (true, "cfe1d6b66a84003803daaa544d716484259969ee9db6ca77ce50900820d3f583"), looks := false }, kinds := [], alts := [], laidByText := true, laidKinds := [.data, .data, .data], laidTests := true, laidLooks := .later }
def PolyTextsCardSaid : Prop := Claim7.holds Tryz.pinned (.plain (OpenSpec.ofChange polyTextsSpec)) polyTextsCard

/-- THE SECOND FORM's CARD OF 'flowpipelaw23.PolyTexts'. -/
def polyTextsUptoCard : Claim7 := { stood := { row := polyTextsUptoRow, standIns := [], harness := (true, "cfe1d6b66a84003803daaa544d716484259969ee9db6ca77ce50900820d3f583"), looks := false }, kinds := [], alts := [], laidByText := true, laidKinds := [.data, .data, .data], laidTests := true, laidLooks := .later }
def PolyTextsUptoCardSaid : Prop := Claim7.holds Tryz.pinned (.plain (OpenSpec.upto polyTextsSpec)) polyTextsUptoCard
end Rows
end Go.Proofs.YtdfjinjlmbjkpaaGreatDoor
