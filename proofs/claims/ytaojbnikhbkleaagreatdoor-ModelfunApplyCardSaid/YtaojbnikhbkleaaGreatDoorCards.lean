/-
  DERIVED. GIVEN WITH THE SEED: THE CARDS: each row of YtaojbnikhbkleaaGreatDoorRows.lean that lists a variable, with what it lists TIED to the program's text (the seventh form; the later family's looks); each row that meets fmt, with fmt's text TOLD by the authors' own Lean function (tested against real Go, not proved from fmt's source: count such statements apart). THE CARD IS WHAT COUNTS. Prove the row's statement (the work); the ties are given (YtaojbnikhbkleaaGreatDoorTie.lean); close each card by the builder's one call (the guide's Derived/Test/ToyasCard.lean, 'card_holds'). Laid BY PROGRAM, IN A SANDBOX (cutbox-door.mjs). By AI agents, Wed Nov 11 2026. No macro, syntax, notation, axiom, sorry.
-/
import Derived.Test.YtaojbnikhbkleaaGreatDoorRows
import GoSem.ClaimSeven
namespace Go.Proofs.YtaojbnikhbkleaaGreatDoor
namespace Rows

/-- THE TIED CARD OF 'flowpipelaw26.ModelfunApply'. -/
def modelfunApplyCard : Claim7 := { stood := { row := modelfunApplyRow, standIns := [], harness := (true, "b14f1ab4b24a8e485fb5b14c4fd129bc439a6837c34cdbca70f5c2e7edf1c32e"), looks := false }, kinds := [], alts := [], laidByText := true, laidKinds := [.data], laidTests := true, laidLooks := .later }
def ModelfunApplyCardSaid : Prop := Claim7.holds Tryz.pinned (.plain (OpenSpec.ofChange modelfunApplySpec)) modelfunApplyCard

/-- THE TIED CARD OF 'flowpipelaw27.ModelevalRuns'. -/
def modelevalRunsCard : Claim7 := { stood := { row := modelevalRunsRow, standIns := [], harness := (true, "b14f1ab4b24a8e485fb5b14c4fd129bc439a6837c34cdbca70f5c2e7edf1c32e"), looks := false }, kinds := [], alts := [], laidByText := true, laidKinds := [.data], laidTests := true, laidLooks := .later }
def ModelevalRunsCardSaid : Prop := Claim7.holds Tryz.pinned (.plain (OpenSpec.ofChange modelevalRunsSpec)) modelevalRunsCard

/-- THE TIED CARD OF 'flowpipelaw27.ModelevalUnknown'. -/
def modelevalUnknownCard : Claim7 := { stood := { row := modelevalUnknownRow, standIns := [], harness := (true, "b14f1ab4b24a8e485fb5b14c4fd129bc439a6837c34cdbca70f5c2e7edf1c32e"), looks := false }, kinds := [], alts := [], laidByText := true, laidKinds := [.data], laidTests := true, laidLooks := .later }
def ModelevalUnknownCardSaid : Prop := Claim7.holds Tryz.pinned (.plain (OpenSpec.ofChange modelevalUnknownSpec)) modelevalUnknownCard

/-- THE SECOND FORM's CARD OF 'flowpipelaw26.ModelfunApply'. -/
def modelfunApplyUptoCard : Claim7 := { stood := { row := modelfunApplyUptoRow, standIns := [], harness := (true, "b14f1ab4b24a8e485fb5b14c4fd129bc439a6837c34cdbca70f5c2e7edf1c32e"), looks := false }, kinds := [], alts := [], laidByText := true, laidKinds := [.data], laidTests := true, laidLooks := .later }
def ModelfunApplyUptoCardSaid : Prop := Claim7.holds Tryz.pinned (.plain (OpenSpec.upto modelfunApplySpec)) modelfunApplyUptoCard

/-- THE SECOND FORM's CARD OF 'flowpipelaw27.ModelevalRuns'. -/
def modelevalRunsUptoCard : Claim7 := { stood := { row := modelevalRunsUptoRow, standIns := [], harness := (true, "b14f1ab4b24a8e485fb5b14c4fd129bc439a6837c34cdbca70f5c2e7edf1c32e"), looks := false }, kinds := [], alts := [], laidByText := true, laidKinds := [.data], laidTests := true, laidLooks := .later }
def ModelevalRunsUptoCardSaid : Prop := Claim7.holds Tryz.pinned (.plain (OpenSpec.upto modelevalRunsSpec)) modelevalRunsUptoCard

/-- THE SECOND FORM's CARD OF 'flowpipelaw27.ModelevalUnknown'. -/
def modelevalUnknownUptoCard : Claim7 := { stood := { row := modelevalUnknownUptoRow, standIns := [], harness := (true, "b14f1ab4b24a8e485fb5b14c4fd129bc439a6837c34cdbca70f5c2e7edf1c32e"), looks := false }, kinds := [], alts := [], laidByText := true, laidKinds := [.data], laidTests := true, laidLooks := .later }
def ModelevalUnknownUptoCardSaid : Prop := Claim7.holds Tryz.pinned (.plain (OpenSpec.upto modelevalUnknownSpec)) modelevalUnknownUptoCard
end Rows
end Go.Proofs.YtaojbnikhbkleaaGreatDoor
