/-
  DERIVED. GIVEN WITH THE SEED: THE CARDS: each row of YtdhfcpbpdmmphaaGreatDoorRows.lean that lists a variable, with what it lists TIED to the program's text (the seventh form; the later family's looks); each row that meets fmt, with fmt's text TOLD by the authors' own Lean function (tested against real Go, not proved from fmt's source: count such statements apart). THE CARD IS WHAT COUNTS. Prove the row's statement (the work); the ties are given (YtdhfcpbpdmmphaaGreatDoorTie.lean); close each card by the builder's one call (the guide's Derived/Test/ToyasCard.lean, 'card_holds'). Laid BY PROGRAM, IN A SANDBOX (cutbox-door.mjs). By AI agents, Wed Nov 11 2026. No macro, syntax, notation, axiom, sorry.
-/
import Derived.Test.YtdhfcpbpdmmphaaGreatDoorRows
import GoSem.ClaimSeven
namespace Go.Proofs.YtdhfcpbpdmmphaaGreatDoor
namespace Rows

/-- THE TIED CARD OF 'flowpipelaw25.ModelInside'. -/
def modelInsideCard : Claim7 := { stood := { row := modelInsideRow, standIns := [], harness := (true, "dfde46a7b4f5938c968913083c1679e75c3d346192a141cf9ee95b4bfb7ec359"), looks := false }, kinds := [], alts := [], laidByText := true, laidKinds := [.data], laidTests := true, laidLooks := .later }
def ModelInsideCardSaid : Prop := Claim7.holds Tryz.pinned (.plain (OpenSpec.ofChange modelInsideSpec)) modelInsideCard

/-- THE TIED CARD OF 'flowpipelaw25.ModelExact'. -/
def modelExactCard : Claim7 := { stood := { row := modelExactRow, standIns := [], harness := (true, "dfde46a7b4f5938c968913083c1679e75c3d346192a141cf9ee95b4bfb7ec359"), looks := false }, kinds := [], alts := [], laidByText := true, laidKinds := [.data], laidTests := true, laidLooks := .later }
def ModelExactCardSaid : Prop := Claim7.holds Tryz.pinned (.plain (OpenSpec.ofChange modelExactSpec)) modelExactCard

/-- THE TIED CARD OF 'flowpipelaw25.ModelIntegral'. -/
def modelIntegralCard : Claim7 := { stood := { row := modelIntegralRow, standIns := [], harness := (true, "dfde46a7b4f5938c968913083c1679e75c3d346192a141cf9ee95b4bfb7ec359"), looks := false }, kinds := [], alts := [], laidByText := true, laidKinds := [.data], laidTests := true, laidLooks := .later }
def ModelIntegralCardSaid : Prop := Claim7.holds Tryz.pinned (.plain (OpenSpec.ofChange modelIntegralSpec)) modelIntegralCard

/-- THE TIED CARD OF 'flowpipelaw25.ModelProducts'. -/
def modelProductsCard : Claim7 := { stood := { row := modelProductsRow, standIns := [], harness := (true, "dfde46a7b4f5938c968913083c1679e75c3d346192a141cf9ee95b4bfb7ec359"), looks := false }, kinds := [], alts := [], laidByText := true, laidKinds := [.data], laidTests := true, laidLooks := .later }
def ModelProductsCardSaid : Prop := Claim7.holds Tryz.pinned (.plain (OpenSpec.ofChange modelProductsSpec)) modelProductsCard

/-- THE TIED CARD OF 'flowpipelaw25.ModelValues'. -/
def modelValuesCard : Claim7 := { stood := { row := modelValuesRow, standIns := [], harness := (true, "dfde46a7b4f5938c968913083c1679e75c3d346192a141cf9ee95b4bfb7ec359"), looks := false }, kinds := [], alts := [], laidByText := true, laidKinds := [.data], laidTests := true, laidLooks := .later }
def ModelValuesCardSaid : Prop := Claim7.holds Tryz.pinned (.plain (OpenSpec.ofChange modelValuesSpec)) modelValuesCard

/-- THE TIED CARD OF 'flowpipelaw25.ModelSound'. -/
def modelSoundCard : Claim7 := { stood := { row := modelSoundRow, standIns := [], harness := (true, "dfde46a7b4f5938c968913083c1679e75c3d346192a141cf9ee95b4bfb7ec359"), looks := false }, kinds := [], alts := [], laidByText := true, laidKinds := [.data], laidTests := true, laidLooks := .later }
def ModelSoundCardSaid : Prop := Claim7.holds Tryz.pinned (.plain (OpenSpec.ofChange modelSoundSpec)) modelSoundCard

/-- THE TIED CARD OF 'flowpipelaw25.ModelSums'. -/
def modelSumsCard : Claim7 := { stood := { row := modelSumsRow, standIns := [], harness := (true, "dfde46a7b4f5938c968913083c1679e75c3d346192a141cf9ee95b4bfb7ec359"), looks := false }, kinds := [], alts := [], laidByText := true, laidKinds := [.data], laidTests := true, laidLooks := .later }
def ModelSumsCardSaid : Prop := Claim7.holds Tryz.pinned (.plain (OpenSpec.ofChange modelSumsSpec)) modelSumsCard

/-- THE TIED CARD OF 'flowpipelaw25.ModelIntegrals'. -/
def modelIntegralsCard : Claim7 := { stood := { row := modelIntegralsRow, standIns := [], harness := (true, "dfde46a7b4f5938c968913083c1679e75c3d346192a141cf9ee95b4bfb7ec359"), looks := false }, kinds := [], alts := [], laidByText := true, laidKinds := [.data], laidTests := true, laidLooks := .later }
def ModelIntegralsCardSaid : Prop := Claim7.holds Tryz.pinned (.plain (OpenSpec.ofChange modelIntegralsSpec)) modelIntegralsCard

/-- THE TIED CARD OF 'flowpipelaw25.ModelValid'. -/
def modelValidCard : Claim7 := { stood := { row := modelValidRow, standIns := [], harness := (true, "dfde46a7b4f5938c968913083c1679e75c3d346192a141cf9ee95b4bfb7ec359"), looks := false }, kinds := [], alts := [], laidByText := true, laidKinds := [.data], laidTests := true, laidLooks := .later }
def ModelValidCardSaid : Prop := Claim7.holds Tryz.pinned (.plain (OpenSpec.ofChange modelValidSpec)) modelValidCard

/-- THE SECOND FORM's CARD OF 'flowpipelaw25.ModelInside'. -/
def modelInsideUptoCard : Claim7 := { stood := { row := modelInsideUptoRow, standIns := [], harness := (true, "dfde46a7b4f5938c968913083c1679e75c3d346192a141cf9ee95b4bfb7ec359"), looks := false }, kinds := [], alts := [], laidByText := true, laidKinds := [.data], laidTests := true, laidLooks := .later }
def ModelInsideUptoCardSaid : Prop := Claim7.holds Tryz.pinned (.plain (OpenSpec.upto modelInsideSpec)) modelInsideUptoCard

/-- THE SECOND FORM's CARD OF 'flowpipelaw25.ModelExact'. -/
def modelExactUptoCard : Claim7 := { stood := { row := modelExactUptoRow, standIns := [], harness := (true, "dfde46a7b4f5938c968913083c1679e75c3d346192a141cf9ee95b4bfb7ec359"), looks := false }, kinds := [], alts := [], laidByText := true, laidKinds := [.data], laidTests := true, laidLooks := .later }
def ModelExactUptoCardSaid : Prop := Claim7.holds Tryz.pinned (.plain (OpenSpec.upto modelExactSpec)) modelExactUptoCard

/-- THE SECOND FORM's CARD OF 'flowpipelaw25.ModelIntegral'. -/
def modelIntegralUptoCard : Claim7 := { stood := { row := modelIntegralUptoRow, standIns := [], harness := (true, "dfde46a7b4f5938c968913083c1679e75c3d346192a141cf9ee95b4bfb7ec359"), looks := false }, kinds := [], alts := [], laidByText := true, laidKinds := [.data], laidTests := true, laidLooks := .later }
def ModelIntegralUptoCardSaid : Prop := Claim7.holds Tryz.pinned (.plain (OpenSpec.upto modelIntegralSpec)) modelIntegralUptoCard

/-- THE SECOND FORM's CARD OF 'flowpipelaw25.ModelProducts'. -/
def modelProductsUptoCard : Claim7 := { stood := { row := modelProductsUptoRow, standIns := [], harness := (true, "dfde46a7b4f5938c968913083c1679e75c3d346192a141cf9ee95b4bfb7ec359"), looks := false }, kinds := [], alts := [], laidByText := true, laidKinds := [.data], laidTests := true, laidLooks := .later }
def ModelProductsUptoCardSaid : Prop := Claim7.holds Tryz.pinned (.plain (OpenSpec.upto modelProductsSpec)) modelProductsUptoCard

/-- THE SECOND FORM's CARD OF 'flowpipelaw25.ModelValues'. -/
def modelValuesUptoCard : Claim7 := { stood := { row := modelValuesUptoRow, standIns := [], harness := (true, "dfde46a7b4f5938c968913083c1679e75c3d346192a141cf9ee95b4bfb7ec359"), looks := false }, kinds := [], alts := [], laidByText := true, laidKinds := [.data], laidTests := true, laidLooks := .later }
def ModelValuesUptoCardSaid : Prop := Claim7.holds Tryz.pinned (.plain (OpenSpec.upto modelValuesSpec)) modelValuesUptoCard

/-- THE SECOND FORM's CARD OF 'flowpipelaw25.ModelSound'. -/
def modelSoundUptoCard : Claim7 := { stood := { row := modelSoundUptoRow, standIns := [], harness := (true, "dfde46a7b4f5938c968913083c1679e75c3d346192a141cf9ee95b4bfb7ec359"), looks := false }, kinds := [], alts := [], laidByText := true, laidKinds := [.data], laidTests := true, laidLooks := .later }
def ModelSoundUptoCardSaid : Prop := Claim7.holds Tryz.pinned (.plain (OpenSpec.upto modelSoundSpec)) modelSoundUptoCard

/-- THE SECOND FORM's CARD OF 'flowpipelaw25.ModelSums'. -/
def modelSumsUptoCard : Claim7 := { stood := { row := modelSumsUptoRow, standIns := [], harness := (true, "dfde46a7b4f5938c968913083c1679e75c3d346192a141cf9ee95b4bfb7ec359"), looks := false }, kinds := [], alts := [], laidByText := true, laidKinds := [.data], laidTests := true, laidLooks := .later }
def ModelSumsUptoCardSaid : Prop := Claim7.holds Tryz.pinned (.plain (OpenSpec.upto modelSumsSpec)) modelSumsUptoCard

/-- THE SECOND FORM's CARD OF 'flowpipelaw25.ModelIntegrals'. -/
def modelIntegralsUptoCard : Claim7 := { stood := { row := modelIntegralsUptoRow, standIns := [], harness := (true, "dfde46a7b4f5938c968913083c1679e75c3d346192a141cf9ee95b4bfb7ec359"), looks := false }, kinds := [], alts := [], laidByText := true, laidKinds := [.data], laidTests := true, laidLooks := .later }
def ModelIntegralsUptoCardSaid : Prop := Claim7.holds Tryz.pinned (.plain (OpenSpec.upto modelIntegralsSpec)) modelIntegralsUptoCard

/-- THE SECOND FORM's CARD OF 'flowpipelaw25.ModelValid'. -/
def modelValidUptoCard : Claim7 := { stood := { row := modelValidUptoRow, standIns := [], harness := (true, "dfde46a7b4f5938c968913083c1679e75c3d346192a141cf9ee95b4bfb7ec359"), looks := false }, kinds := [], alts := [], laidByText := true, laidKinds := [.data], laidTests := true, laidLooks := .later }
def ModelValidUptoCardSaid : Prop := Claim7.holds Tryz.pinned (.plain (OpenSpec.upto modelValidSpec)) modelValidUptoCard
end Rows
end Go.Proofs.YtdhfcpbpdmmphaaGreatDoor
