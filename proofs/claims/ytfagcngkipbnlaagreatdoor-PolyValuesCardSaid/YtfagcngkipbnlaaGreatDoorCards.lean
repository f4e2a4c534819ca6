/-
  DERIVED. GIVEN WITH THE SEED: THE CARDS: each row of YtfagcngkipbnlaaGreatDoorRows.lean that lists a variable, with what it lists TIED to the program's text (the seventh form; the later family's looks); each row that meets fmt, with fmt's text TOLD by the authors' own Lean function (tested against real Go, not proved from fmt's source: count such statements apart). THE CARD IS WHAT COUNTS. Prove the row's statement (the work); the ties are given (YtfagcngkipbnlaaGreatDoorTie.lean); close each card by the builder's one call (the guide's Derived/Test/ToyasCard.lean, 'card_holds'). Laid BY PROGRAM, IN A SANDBOX (cutbox-door.mjs). By AI agents, Wed Nov 11 2026. No macro, syntax, notation, axiom, sorry.
-/
import Derived.Test.YtfagcngkipbnlaaGreatDoorRows
import GoSem.ClaimSeven
namespace Go.Proofs.YtfagcngkipbnlaaGreatDoor
namespace Rows

/-- THE TIED CARD OF 'flowpipelaw23.PolyScales'. -/
def polyScalesCard : Claim7 := { stood := { row := polyScalesRow, standIns := [], harness := (true, "4142aeba5c10c1f05110a3b86f470a83ee7584460093abe087e3b7d965a92867"), looks := false }, kinds := [], alts := [], laidByText := true, laidKinds := [.data, .data, .data], laidTests := true, laidLooks := .later }
def PolyScalesCardSaid : Prop := Claim7.holds Tryz.pinned (.plain (OpenSpec.ofChange polyScalesSpec)) polyScalesCard

/-- THE TIED CARD OF 'flowpipelaw23.PolyValues'. -/
def polyValuesCard : Claim7 := { stood := { row := polyValuesRow, standIns := [], harness := (true, "4142aeba5c10c1f05110a3b86f470a83ee7584460093abe087e3b7d965a92867"), looks := false }, kinds := [], alts := [], laidByText := true, laidKinds := [.data, .data, .data], laidTests := true, laidLooks := .later }
def PolyValuesCardSaid : Prop := Claim7.holds Tryz.pinned (.plain (OpenSpec.ofChange polyValuesSpec)) polyValuesCard

/-- THE TIED CARD OF 'flowpipelaw23.PolyValid'. -/
def polyValidCard : Claim7 := { stood := { row := polyValidRow, standIns := [], harness := (true, "4142aeba5c10c1f05110a3b86f470a83ee7584460093abe087e3b7d965a92867"), looks := false }, kinds := [], alts := [], laidByText := true, laidKinds := [.data, .data, .data], laidTests := true, laidLooks := .later }
def PolyValidCardSaid : Prop := Claim7.holds Tryz.pinned (.plain (OpenSpec.ofChange polyValidSpec)) polyValidCard

/-- THE TIED CARD OF 'flowpipelaw23.PolyRing'. -/
def polyRingCard : Claim7 := { stood := { row := polyRingRow, standIns := [], harness := (true, "4142aeba5c10c1f05110a3b86f470a83ee7584460093abe087e3b7d965a92867"), looks := false }, kinds := [], alts := [], laidByText := true, laidKinds := [.data, .data, .data], laidTests := true, laidLooks := .later }
def PolyRingCardSaid : Prop := Claim7.holds Tryz.pinned (.plain (OpenSpec.ofChange polyRingSpec)) polyRingCard

/-- THE SECOND FORM's CARD OF 'flowpipelaw23.PolyScales'. -/
def polyScalesUptoCard : Claim7 := { stood := { row := polyScalesUptoRow, standIns := [], harness := (true, "4142aeba5c10c1f05110a3b86f470a83ee7584460093abe087e3b7d965a92867"), looks := false }, kinds := [], alts := [], laidByText := true, laidKinds := [.data, .data, .data], laidTests := true, laidLooks := .later }
def PolyScalesUptoCardSaid : Prop := Claim7.holds Tryz.pinned (.plain (OpenSpec.upto polyScalesSpec)) polyScalesUptoCard

/-- THE SECOND FORM's CARD OF 'flowpipelaw23.PolyValues'. -/
def polyValuesUptoCard : Claim7 := { stood := { row := polyValuesUptoRow, standIns := [], harness := (true, "4142aeba5c10c1f05110a3b86f470a83ee7584460093abe087e3b7d965a92867"), looks := false }, kinds := [], alts := [], laidByText := true, laidKinds := [.data, .data, .data], laidTests := true, laidLooks := .later }
def PolyValuesUptoCardSaid : Prop := Claim7.holds Tryz.pinned (.plain (OpenSpec.upto polyValuesSpec)) polyValuesUptoCard

/-- THE SECOND FORM's CARD OF 'flowpipelaw23.PolyValid'. -/
def polyValidUptoCard : Claim7 := { stood := { row := polyValidUptoRow, standIns := [], harness := (true, "4142aeba5c10c1f05110a3b86f470a83ee7584460093abe087e3b7d965a92867"), looks := false }, kinds := [], alts := [], laidByText := true, laidKinds := [.data, .data, .data], laidTests := true, laidLooks := .later }
def PolyValidUptoCardSaid : Prop := Claim7.holds Tryz.pinned (.plain (OpenSpec.upto polyValidSpec)) polyValidUptoCard

/-- THE SECOND FORM's CARD OF 'flowpipelaw23.PolyRing'. -/
def polyRingUptoCard : Claim7 := { stood := { row := polyRingUptoRow, standIns := [], harness := (true, "4142aeba5c10c1f05110a3b86f470a83ee7584460093abe087e3b7d965a92867"), looks := false }, kinds := [], alts := [], laidByText := true, laidKinds := [.data, .data, .data], laidTests := true, laidLooks := .later }
def PolyRingUptoCardSaid : Prop := Claim7.holds Tryz.pinned (.plain (OpenSpec.upto polyRingSpec)) polyRingUptoCard
end Rows
end Go.Proofs.YtfagcngkipbnlaaGreatDoor
