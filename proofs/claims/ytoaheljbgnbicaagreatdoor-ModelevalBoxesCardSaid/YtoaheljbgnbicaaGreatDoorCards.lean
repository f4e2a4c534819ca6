/-
  DERIVED. GIVEN WITH THE SEED: THE CARDS: each row of YtoaheljbgnbicaaGreatDoorRows.lean that lists a variable, with what it lists TIED to the program's text (the seventh form; the later family's looks); each row that meets fmt, with fmt's text TOLD by the authors' own Lean function (tested against real Go, not proved from fmt's source: count such statements apart). THE CARD IS WHAT COUNTS. Prove the row's statement (the work); the ties are given (YtoaheljbgnbicaaGreatDoorTie.lean); close each card by the builder's one call (the guide's Derived/Test/ToyasCard.lean, 'card_holds'). Laid BY PROGRAM, IN A SANDBOX (cutbox-door.mjs). By AI agents, Wed Nov 11 2026. No macro, syntax, notation, axiom, sorry.
-/
import Derived.Test.YtoaheljbgnbicaaGreatDoorRows
import GoSem.ClaimSeven
namespace Go.Proofs.YtoaheljbgnbicaaGreatDoor
namespace Rows

/-- THE TIED CARD OF 'flowpipelaw27.ModelevalBoxes'. -/
def modelevalBoxesCard : Claim7 := { stood := { row := modelevalBoxesRow, standIns := [], harness := (true, "f95958cc3fbc52fdcd42aeded22bf73a434ac573b27fe1e751f9c2ba66764b11"), looks := false }, kinds := [], alts := [], laidByText := true, laidKinds := [.data], laidTests := true, laidLooks := .later }
def ModelevalBoxesCardSaid : Prop := Claim7.holds Tryz.pinned (.plain (OpenSpec.ofChange modelevalBoxesSpec)) modelevalBoxesCard

/-- THE TIED CARD OF 'flowpipelaw27.ModelevalExact'. -/
def modelevalExactCard : Claim7 := { stood := { row := modelevalExactRow, standIns := [], harness := (true, "f95958cc3fbc52fdcd42aeded22bf73a434ac573b27fe1e751f9c2ba66764b11"), looks := false }, kinds := [], alts := [], laidByText := true, laidKinds := [.data], laidTests := true, laidLooks := .later }
def ModelevalExactCardSaid : Prop := Claim7.holds Tryz.pinned (.plain (OpenSpec.ofChange modelevalExactSpec)) modelevalExactCard

/-- THE SECOND FORM's CARD OF 'flowpipelaw27.ModelevalBoxes'. -/
def modelevalBoxesUptoCard : Claim7 := { stood := { row := modelevalBoxesUptoRow, standIns := [], harness := (true, "f95958cc3fbc52fdcd42aeded22bf73a434ac573b27fe1e751f9c2ba66764b11"), looks := false }, kinds := [], alts := [], laidByText := true, laidKinds := [.data], laidTests := true, laidLooks := .later }
def ModelevalBoxesUptoCardSaid : Prop := Claim7.holds Tryz.pinned (.plain (OpenSpec.upto modelevalBoxesSpec)) modelevalBoxesUptoCard

/-- THE SECOND FORM's CARD OF 'flowpipelaw27.ModelevalExact'. -/
def modelevalExactUptoCard : Claim7 := { stood := { row := modelevalExactUptoRow, standIns := [], harness := (true, "f95958cc3fbc52fdcd42aeded22bf73a434ac573b27fe1e751f9c2ba66764b11"), looks := false }, kinds := [], alts := [], laidByText := true, laidKinds := [.data], laidTests := true, laidLooks := .later }
def ModelevalExactUptoCardSaid : Prop := Claim7.holds Tryz.pinned (.plain (OpenSpec.upto modelevalExactSpec)) modelevalExactUptoCard
end Rows
end Go.Proofs.YtoaheljbgnbicaaGreatDoor
