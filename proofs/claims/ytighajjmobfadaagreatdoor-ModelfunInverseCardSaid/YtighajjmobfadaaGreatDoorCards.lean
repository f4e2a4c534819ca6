/-
  DERIVED. GIVEN WITH THE SEED: THE CARDS: each row of YtighajjmobfadaaGreatDoorRows.lean that lists a variable, with what it lists TIED to the program's text (the seventh form; the later family's looks); each row that meets fmt, with fmt's text TOLD by the authors' own Lean function (tested against real Go, not proved from fmt's source: count such statements apart). THE CARD IS WHAT COUNTS. Prove the row's statement (the work); the ties are given (YtighajjmobfadaaGreatDoorTie.lean); close each card by the builder's one call (the guide's Derived/Test/ToyasCard.lean, 'card_holds'). Laid BY PROGRAM, IN A SANDBOX (cutbox-door.mjs). By AI agents, Wed Nov 11 2026. No macro, syntax, notation, axiom, sorry.
-/
import Derived.Test.YtighajjmobfadaaGreatDoorRows
import GoSem.ClaimSeven
namespace Go.Proofs.YtighajjmobfadaaGreatDoor
namespace Rows

/-- THE TIED CARD OF 'flowpipelaw26.ModelfunInverse'. -/
def modelfunInverseCard : Claim7 := { stood := { row := modelfunInverseRow, standIns := [], harness := (true, "0285987189151963ac53c7ebfdad233118f3b78c9c931dfb5521683655a285ab"), looks := false }, kinds := [], alts := [], laidByText := true, laidKinds := [.data], laidTests := true, laidLooks := .later }
def ModelfunInverseCardSaid : Prop := Claim7.holds Tryz.pinned (.plain (OpenSpec.ofChange modelfunInverseSpec)) modelfunInverseCard

/-- THE TIED CARD OF 'flowpipelaw26.ModelfunPowers'. -/
def modelfunPowersCard : Claim7 := { stood := { row := modelfunPowersRow, standIns := [], harness := (true, "0285987189151963ac53c7ebfdad233118f3b78c9c931dfb5521683655a285ab"), looks := false }, kinds := [], alts := [], laidByText := true, laidKinds := [.data], laidTests := true, laidLooks := .later }
def ModelfunPowersCardSaid : Prop := Claim7.holds Tryz.pinned (.plain (OpenSpec.ofChange modelfunPowersSpec)) modelfunPowersCard

/-- THE TIED CARD OF 'flowpipelaw27.ModelevalExact'. -/
def modelevalExactCard : Claim7 := { stood := { row := modelevalExactRow, standIns := [], harness := (true, "0285987189151963ac53c7ebfdad233118f3b78c9c931dfb5521683655a285ab"), looks := false }, kinds := [], alts := [], laidByText := true, laidKinds := [.data], laidTests := true, laidLooks := .later }
def ModelevalExactCardSaid : Prop := Claim7.holds Tryz.pinned (.plain (OpenSpec.ofChange modelevalExactSpec)) modelevalExactCard

/-- THE SECOND FORM's CARD OF 'flowpipelaw26.ModelfunInverse'. -/
def modelfunInverseUptoCard : Claim7 := { stood := { row := modelfunInverseUptoRow, standIns := [], harness := (true, "0285987189151963ac53c7ebfdad233118f3b78c9c931dfb5521683655a285ab"), looks := false }, kinds := [], alts := [], laidByText := true, laidKinds := [.data], laidTests := true, laidLooks := .later }
def ModelfunInverseUptoCardSaid : Prop := Claim7.holds Tryz.pinned (.plain (OpenSpec.upto modelfunInverseSpec)) modelfunInverseUptoCard

/-- THE SECOND FORM's CARD OF 'flowpipelaw26.ModelfunPowers'. -/
def modelfunPowersUptoCard : Claim7 := { stood := { row := modelfunPowersUptoRow, standIns := [], harness := (true, "0285987189151963ac53c7ebfdad233118f3b78c9c931dfb5521683655a285ab"), looks := false }, kinds := [], alts := [], laidByText := true, laidKinds := [.data], laidTests := true, laidLooks := .later }
def ModelfunPowersUptoCardSaid : Prop := Claim7.holds Tryz.pinned (.plain (OpenSpec.upto modelfunPowersSpec)) modelfunPowersUptoCard

/-- THE SECOND FORM's CARD OF 'flowpipelaw27.ModelevalExact'. -/
def modelevalExactUptoCard : Claim7 := { stood := { row := modelevalExactUptoRow, standIns := [], harness := (true, "0285987189151963ac53c7ebfdad233118f3b78c9c931dfb5521683655a285ab"), looks := false }, kinds := [], alts := [], laidByText := true, laidKinds := [.data], laidTests := true, laidLooks := .later }
def ModelevalExactUptoCardSaid : Prop := Claim7.holds Tryz.pinned (.plain (OpenSpec.upto modelevalExactSpec)) modelevalExactUptoCard
end Rows
end Go.Proofs.YtighajjmobfadaaGreatDoor
