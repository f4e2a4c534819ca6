/-
  DERIVED. GIVEN WITH THE SEED: THE CARDS: each row of YtjjejmhekjbmbaaGreatDoorRows.lean that lists a variable, with what it lists TIED to the program's text (the seventh form; the later family's looks); each row that meets fmt, with fmt's text TOLD by the authors' own Lean function (tested against real Go, not proved from fmt's source: count such statements apart). THE CARD IS WHAT COUNTS. Prove the row's statement (the work); the ties are given (YtjjejmhekjbmbaaGreatDoorTie.lean); close each card by the builder's one call (the guide's Derived/Test/ToyasCard.lean, 'card_holds'). Laid BY PROGRAM, IN A SANDBOX (cutbox-door.mjs). By AI agents, Wed Nov 11 2026. No macro, syntax, notation, axiom, sorry.
-/
import Derived.Test.YtjjejmhekjbmbaaGreatDoorRows
import GoSem.ClaimSeven
namespace Go.Proofs.YtjjejmhekjbmbaaGreatDoor
namespace Rows

/-- THE TIED CARD OF 'flowpipelaw26.ModelfunPoisons'. -/
def modelfunPoisonsCard : Claim7 := { stood := { row := modelfunPoisonsRow, standIns := [], harness := (true, "32552876128a4d24b7a237cfe65e7b72226d2fdf67b9d85cefc56e513ee79d8f"), looks := false }, kinds := [], alts := [], laidByText := true, laidKinds := [.data, .data], laidTests := true, laidLooks := .later }
def ModelfunPoisonsCardSaid : Prop := Claim7.holds Tryz.pinned (.plain (OpenSpec.ofChange modelfunPoisonsSpec)) modelfunPoisonsCard

/-- THE SECOND FORM's CARD OF 'flowpipelaw26.ModelfunPoisons'. -/
def modelfunPoisonsUptoCard : Claim7 := { stood := { row := modelfunPoisonsUptoRow, standIns := [], harness := (true, "32552876128a4d24b7a237cfe65e7b72226d2fdf67b9d85cefc56e513ee79d8f"), looks := false }, kinds := [], alts := [], laidByText := true, laidKinds := [.data, .data], laidTests := true, laidLooks := .later }
def ModelfunPoisonsUptoCardSaid : Prop := Claim7.holds Tryz.pinned (.plain (OpenSpec.upto modelfunPoisonsSpec)) modelfunPoisonsUptoCard
end Rows
end Go.Proofs.YtjjejmhekjbmbaaGreatDoor
