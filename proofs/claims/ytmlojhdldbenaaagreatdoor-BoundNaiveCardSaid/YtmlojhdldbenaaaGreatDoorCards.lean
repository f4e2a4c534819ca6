/-
  DERIVED. GIVEN WITH THE SEED: THE CARDS: each row of YtmlojhdldbenaaaGreatDoorRows.lean that lists a variable, with what it lists TIED to the program's text (the seventh form; the later family's looks); each row that meets fmt, with fmt's text TOLD by the authors' own Lean function (tested against real Go, not proved from fmt's source: count such statements apart). THE CARD IS WHAT COUNTS. Prove the row's statement (the work); the ties are given (YtmlojhdldbenaaaGreatDoorTie.lean); close each card by the builder's one call (the guide's Derived/Test/ToyasCard.lean, 'card_holds'). Laid BY PROGRAM, IN A SANDBOX (cutbox-door.mjs). By AI agents, Wed Nov 11 2026. No macro, syntax, notation, axiom, sorry.
-/
import Derived.Test.YtmlojhdldbenaaaGreatDoorRows
import GoSem.ClaimSeven
namespace Go.Proofs.YtmlojhdldbenaaaGreatDoor
namespace Rows

/-- THE TIED CARD OF 'flowpipelaw24.BoundNaive'. -/
def boundNaiveCard : Claim7 := { stood := { row := boundNaiveRow, standIns := [], harness := (true, "b3c358e6a924c52fc0d268093cc04b86bbcbc60e0782eb1fed8a7bb5f7a50567"), looks := false }, kinds := [], alts := [], laidByText := true, laidKinds := [.data], laidTests := true, laidLooks := .later }
def BoundNaiveCardSaid : Prop := Claim7.holds Tryz.pinned (.plain (OpenSpec.ofChange boundNaiveSpec)) boundNaiveCard

/-- THE SECOND FORM's CARD OF 'flowpipelaw24.BoundNaive'. -/
def boundNaiveUptoCard : Claim7 := { stood := { row := boundNaiveUptoRow, standIns := [], harness := (true, "b3c358e6a924c52fc0d268093cc04b86bbcbc60e0782eb1fed8a7bb5f7a50567"), looks := false }, kinds := [], alts := [], laidByText := true, laidKinds := [.data], laidTests := true, laidLooks := .later }
def BoundNaiveUptoCardSaid : Prop := Claim7.holds Tryz.pinned (.plain (OpenSpec.upto boundNaiveSpec)) boundNaiveUptoCard
end Rows
end Go.Proofs.YtmlojhdldbenaaaGreatDoor
