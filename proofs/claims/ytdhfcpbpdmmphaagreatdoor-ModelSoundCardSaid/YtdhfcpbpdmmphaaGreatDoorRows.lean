/-
  NARROWER THAN 'FOR EVERY INPUT', by the rows' own cells (each row's printed sentence says how): ModelInside: laid · ModelExact: laid · ModelIntegral: laid · ModelProducts: laid · ModelValues: laid · ModelSound: laid · ModelSums: laid · ModelIntegrals: laid · ModelValid: laid.
  DERIVED. THE GIVEN ROWS OF THIS SEAT. 9 by the template 'for every input the law returns true; each argument reads behind the call as it read before'; 0 by the template 'total and deterministic' (their statements: YtdhfcpbpdmmphaaGreatDoorTotals.lean).
  GIVEN WITH THE SEED: the statements are not yours to turn. If you find one false, say at which input.
  Laid BY PROGRAM, IN A SANDBOX (cutbox-rows.mjs): the forced cells as the released guide's own fill.sh prints them over the translation 6590543636b9e353… (all of the seat's roots in one cut). By AI agents, Wed Nov 11 2026. No macro, syntax, notation, axiom, sorry.
-/
import Derived.Test.YtdhfcpbpdmmphaaGreatDoorChecked
import GoSem.Claim
import GoSem.ClaimJoined
import GoSem.ClaimMapViews
import Derived.JoinedTies
import Derived.KernelRfl
namespace Go.Proofs.YtdhfcpbpdmmphaaGreatDoor
/- THE CELL 'sum', in the pinned program and in every row, IS THE sha256 OF THE DUMP (.gsa) THAT YtdhfcpbpdmmphaaGreatDoorProg.lean LOADS. Nothing in Lean hashes anything: it is a label: what it is worth is what the hold of that sum in a sandbox is worth. -/
noncomputable def Tryz.pinned : Pinned := { name := "ytdhfcpbpdmmphaagreatdoor", sum := "6590543636b9e353214aaff2146e7e1aff415c03487ee2dbcc1fcb1f366535dc", checked := Tryz.checked }
namespace Rows
def none {H : Type} : Left H := { results := [], args := [] }

/- WHAT THE LISTED PACKAGE-LEVEL VARIABLES READ AS WHEN THE CALL BEGINS. Each datum BY PROGRAM (the guide's laid-datum.mjs) off the statement by which the dump's own 'gosem.cut.vars' lays the variable. In a bare row this is a premise. The card (YtdhfcpbpdmmphaaGreatDoorCards.lean) ties it to the program's text. -/
def laid_math_bits_deBruijn32tab {H : Type} : DataW H := .agg [.lit (.int .u8 0), .lit (.int .u8 1), .lit (.int .u8 28), .lit (.int .u8 2), .lit (.int .u8 29), .lit (.int .u8 14), .lit (.int .u8 24), .lit (.int .u8 3), .lit (.int .u8 30), .lit (.int .u8 22), .lit (.int .u8 20), .lit (.int .u8 15), .lit (.int .u8 25), .lit (.int .u8 17), .lit (.int .u8 4), .lit (.int .u8 8), .lit (.int .u8 31), .lit (.int .u8 27), .lit (.int .u8 13), .lit (.int .u8 23), .lit (.int .u8 21), .lit (.int .u8 19), .lit (.int .u8 16), .lit (.int .u8 7), .lit (.int .u8 26), .lit (.int .u8 12), .lit (.int .u8 18), .lit (.int .u8 6), .lit (.int .u8 11), .lit (.int .u8 5), .lit (.int .u8 10), .lit (.int .u8 9)]

/-- 'flowpipelaw25.ModelInside': WHATEVER THE INPUT: true; the input reads as it did. -/
def modelInsideSpec : ChangeSpec := { name := "modelInside", fn := fun _ => fun
  | [d1, d2, d3, d4, d5] => { results := [.lit (.bool true)], args := [d1, d2, d3, d4, d5] }
  | _ => none }
def modelInsideRow : OpenClaim := { program := "ytdhfcpbpdmmphaagreatdoor", sum := "6590543636b9e353214aaff2146e7e1aff415c03487ee2dbcc1fcb1f366535dc", func := "flowpipe/flowpipelaw25.ModelInside", spec := "modelInside", inPlace := ["slices.overlaps[flowpipe/api.Term]"], unfollowed := true, recurses := true, named := ["math/bits.deBruijn32tab", "math/bits.overflowError"], apart := false, laid := [("math/bits.deBruijn32tab", laid_math_bits_deBruijn32tab)] }
def ModelInsideSaid : Prop := modelInsideRow.holds Tryz.pinned (OpenSpec.ofChange modelInsideSpec)

/-- ITS FALSE NEIGHBOUR: 'it returns false'. Refute it at one input. -/
def modelInsideWrong : ChangeSpec := { name := "modelInside", fn := fun _ => fun
  | [d1, d2, d3, d4, d5] => { results := [.lit (.bool false)], args := [d1, d2, d3, d4, d5] }
  | _ => none }
def ModelInsideWrongFalsely : Prop := modelInsideRow.holds Tryz.pinned (OpenSpec.ofChange modelInsideWrong)

/-- 'flowpipelaw25.ModelExact': WHATEVER THE INPUT: true; the input reads as it did. -/
def modelExactSpec : ChangeSpec := { name := "modelExact", fn := fun _ => fun
  | [d1, d2, d3] => { results := [.lit (.bool true)], args := [d1, d2, d3] }
  | _ => none }
def modelExactRow : OpenClaim := { program := "ytdhfcpbpdmmphaagreatdoor", sum := "6590543636b9e353214aaff2146e7e1aff415c03487ee2dbcc1fcb1f366535dc", func := "flowpipe/flowpipelaw25.ModelExact", spec := "modelExact", inPlace := ["slices.overlaps[flowpipe/api.Term]"], unfollowed := true, recurses := true, named := ["math/bits.deBruijn32tab", "math/bits.overflowError"], apart := false, laid := [("math/bits.deBruijn32tab", laid_math_bits_deBruijn32tab)] }
def ModelExactSaid : Prop := modelExactRow.holds Tryz.pinned (OpenSpec.ofChange modelExactSpec)

/-- ITS FALSE NEIGHBOUR: 'it returns false'. Refute it at one input. -/
def modelExactWrong : ChangeSpec := { name := "modelExact", fn := fun _ => fun
  | [d1, d2, d3] => { results := [.lit (.bool false)], args := [d1, d2, d3] }
  | _ => none }
def ModelExactWrongFalsely : Prop := modelExactRow.holds Tryz.pinned (OpenSpec.ofChange modelExactWrong)

/-- 'flowpipelaw25.ModelIntegral': WHATEVER THE INPUT: true; the input reads as it did. -/
def modelIntegralSpec : ChangeSpec := { name := "modelIntegral", fn := fun _ => fun
  | [d1, d2, d3, d4, d5] => { results := [.lit (.bool true)], args := [d1, d2, d3, d4, d5] }
  | _ => none }
def modelIntegralRow : OpenClaim := { program := "ytdhfcpbpdmmphaagreatdoor", sum := "6590543636b9e353214aaff2146e7e1aff415c03487ee2dbcc1fcb1f366535dc", func := "flowpipe/flowpipelaw25.ModelIntegral", spec := "modelIntegral", inPlace := ["slices.overlaps[flowpipe/api.Term]"], unfollowed := true, recurses := true, named := ["math/bits.deBruijn32tab", "math/bits.overflowError"], apart := false, laid := [("math/bits.deBruijn32tab", laid_math_bits_deBruijn32tab)] }
def ModelIntegralSaid : Prop := modelIntegralRow.holds Tryz.pinned (OpenSpec.ofChange modelIntegralSpec)

/-- ITS FALSE NEIGHBOUR: 'it returns false'. Refute it at one input. -/
def modelIntegralWrong : ChangeSpec := { name := "modelIntegral", fn := fun _ => fun
  | [d1, d2, d3, d4, d5] => { results := [.lit (.bool false)], args := [d1, d2, d3, d4, d5] }
  | _ => none }
def ModelIntegralWrongFalsely : Prop := modelIntegralRow.holds Tryz.pinned (OpenSpec.ofChange modelIntegralWrong)

/-- 'flowpipelaw25.ModelProducts': WHATEVER THE INPUT: true; the input reads as it did. -/
def modelProductsSpec : ChangeSpec := { name := "modelProducts", fn := fun _ => fun
  | [d1, d2, d3, d4] => { results := [.lit (.bool true)], args := [d1, d2, d3, d4] }
  | _ => none }
def modelProductsRow : OpenClaim := { program := "ytdhfcpbpdmmphaagreatdoor", sum := "6590543636b9e353214aaff2146e7e1aff415c03487ee2dbcc1fcb1f366535dc", func := "flowpipe/flowpipelaw25.ModelProducts", spec := "modelProducts", inPlace := ["slices.overlaps[flowpipe/api.Term]"], unfollowed := true, recurses := true, named := ["math/bits.deBruijn32tab", "math/bits.overflowError"], apart := false, laid := [("math/bits.deBruijn32tab", laid_math_bits_deBruijn32tab)] }
def ModelProductsSaid : Prop := modelProductsRow.holds Tryz.pinned (OpenSpec.ofChange modelProductsSpec)

/-- ITS FALSE NEIGHBOUR: 'it returns false'. Refute it at one input. -/
def modelProductsWrong : ChangeSpec := { name := "modelProducts", fn := fun _ => fun
  | [d1, d2, d3, d4] => { results := [.lit (.bool false)], args := [d1, d2, d3, d4] }
  | _ => none }
def ModelProductsWrongFalsely : Prop := modelProductsRow.holds Tryz.pinned (OpenSpec.ofChange modelProductsWrong)

/-- 'flowpipelaw25.ModelValues': WHATEVER THE INPUT: true; the input reads as it did. -/
def modelValuesSpec : ChangeSpec := { name := "modelValues", fn := fun _ => fun
  | [d1, d2, d3, d4, d5] => { results := [.lit (.bool true)], args := [d1, d2, d3, d4, d5] }
  | _ => none }
def modelValuesRow : OpenClaim := { program := "ytdhfcpbpdmmphaagreatdoor", sum := "6590543636b9e353214aaff2146e7e1aff415c03487ee2dbcc1fcb1f366535dc", func := "flowpipe/flowpipelaw25.ModelValues", spec := "modelValues", inPlace := ["slices.overlaps[flowpipe/api.Term]"], unfollowed := true, recurses := true, named := ["math/bits.deBruijn32tab", "math/bits.overflowError"], apart := false, laid := [("math/bits.deBruijn32tab", laid_math_bits_deBruijn32tab)] }
def ModelValuesSaid : Prop := modelValuesRow.holds Tryz.pinned (OpenSpec.ofChange modelValuesSpec)

/-- ITS FALSE NEIGHBOUR: 'it returns false'. Refute it at one input. -/
def modelValuesWrong : ChangeSpec := { name := "modelValues", fn := fun _ => fun
  | [d1, d2, d3, d4, d5] => { results := [.lit (.bool false)], args := [d1, d2, d3, d4, d5] }
  | _ => none }
def ModelValuesWrongFalsely : Prop := modelValuesRow.holds Tryz.pinned (OpenSpec.ofChange modelValuesWrong)

/-- 'flowpipelaw25.ModelSound': WHATEVER THE INPUT: true; the input reads as it did. -/
def modelSoundSpec : ChangeSpec := { name := "modelSound", fn := fun _ => fun
  | [d1, d2, d3, d4, d5, d6, d7] => { results := [.lit (.bool true)], args := [d1, d2, d3, d4, d5, d6, d7] }
  | _ => none }
def modelSoundRow : OpenClaim := { program := "ytdhfcpbpdmmphaagreatdoor", sum := "6590543636b9e353214aaff2146e7e1aff415c03487ee2dbcc1fcb1f366535dc", func := "flowpipe/flowpipelaw25.ModelSound", spec := "modelSound", inPlace := ["slices.overlaps[flowpipe/api.Term]"], unfollowed := true, recurses := true, named := ["math/bits.deBruijn32tab", "math/bits.overflowError"], apart := false, laid := [("math/bits.deBruijn32tab", laid_math_bits_deBruijn32tab)] }
def ModelSoundSaid : Prop := modelSoundRow.holds Tryz.pinned (OpenSpec.ofChange modelSoundSpec)

/-- ITS FALSE NEIGHBOUR: 'it returns false'. Refute it at one input. -/
def modelSoundWrong : ChangeSpec := { name := "modelSound", fn := fun _ => fun
  | [d1, d2, d3, d4, d5, d6, d7] => { results := [.lit (.bool false)], args := [d1, d2, d3, d4, d5, d6, d7] }
  | _ => none }
def ModelSoundWrongFalsely : Prop := modelSoundRow.holds Tryz.pinned (OpenSpec.ofChange modelSoundWrong)

/-- 'flowpipelaw25.ModelSums': WHATEVER THE INPUT: true; the input reads as it did. -/
def modelSumsSpec : ChangeSpec := { name := "modelSums", fn := fun _ => fun
  | [d1, d2, d3, d4] => { results := [.lit (.bool true)], args := [d1, d2, d3, d4] }
  | _ => none }
def modelSumsRow : OpenClaim := { program := "ytdhfcpbpdmmphaagreatdoor", sum := "6590543636b9e353214aaff2146e7e1aff415c03487ee2dbcc1fcb1f366535dc", func := "flowpipe/flowpipelaw25.ModelSums", spec := "modelSums", inPlace := ["slices.overlaps[flowpipe/api.Term]"], unfollowed := true, recurses := true, named := ["math/bits.deBruijn32tab", "math/bits.overflowError"], apart := false, laid := [("math/bits.deBruijn32tab", laid_math_bits_deBruijn32tab)] }
def ModelSumsSaid : Prop := modelSumsRow.holds Tryz.pinned (OpenSpec.ofChange modelSumsSpec)

/-- ITS FALSE NEIGHBOUR: 'it returns false'. Refute it at one input. -/
def modelSumsWrong : ChangeSpec := { name := "modelSums", fn := fun _ => fun
  | [d1, d2, d3, d4] => { results := [.lit (.bool false)], args := [d1, d2, d3, d4] }
  | _ => none }
def ModelSumsWrongFalsely : Prop := modelSumsRow.holds Tryz.pinned (OpenSpec.ofChange modelSumsWrong)

/-- 'flowpipelaw25.ModelIntegrals': WHATEVER THE INPUT: true; the input reads as it did. -/
def modelIntegralsSpec : ChangeSpec := { name := "modelIntegrals", fn := fun _ => fun
  | [d1, d2, d3, d4] => { results := [.lit (.bool true)], args := [d1, d2, d3, d4] }
  | _ => none }
def modelIntegralsRow : OpenClaim := { program := "ytdhfcpbpdmmphaagreatdoor", sum := "6590543636b9e353214aaff2146e7e1aff415c03487ee2dbcc1fcb1f366535dc", func := "flowpipe/flowpipelaw25.ModelIntegrals", spec := "modelIntegrals", inPlace := ["slices.overlaps[flowpipe/api.Term]"], unfollowed := true, recurses := true, named := ["math/bits.deBruijn32tab", "math/bits.overflowError"], apart := false, laid := [("math/bits.deBruijn32tab", laid_math_bits_deBruijn32tab)] }
def ModelIntegralsSaid : Prop := modelIntegralsRow.holds Tryz.pinned (OpenSpec.ofChange modelIntegralsSpec)

/-- ITS FALSE NEIGHBOUR: 'it returns false'. Refute it at one input. -/
def modelIntegralsWrong : ChangeSpec := { name := "modelIntegrals", fn := fun _ => fun
  | [d1, d2, d3, d4] => { results := [.lit (.bool false)], args := [d1, d2, d3, d4] }
  | _ => none }
def ModelIntegralsWrongFalsely : Prop := modelIntegralsRow.holds Tryz.pinned (OpenSpec.ofChange modelIntegralsWrong)

/-- 'flowpipelaw25.ModelValid': WHATEVER THE INPUT: true; the input reads as it did. -/
def modelValidSpec : ChangeSpec := { name := "modelValid", fn := fun _ => fun
  | [d1, d2, d3, d4] => { results := [.lit (.bool true)], args := [d1, d2, d3, d4] }
  | _ => none }
def modelValidRow : OpenClaim := { program := "ytdhfcpbpdmmphaagreatdoor", sum := "6590543636b9e353214aaff2146e7e1aff415c03487ee2dbcc1fcb1f366535dc", func := "flowpipe/flowpipelaw25.ModelValid", spec := "modelValid", inPlace := ["slices.overlaps[flowpipe/api.Term]"], unfollowed := true, recurses := true, named := ["math/bits.deBruijn32tab", "math/bits.overflowError"], apart := false, laid := [("math/bits.deBruijn32tab", laid_math_bits_deBruijn32tab)] }
def ModelValidSaid : Prop := modelValidRow.holds Tryz.pinned (OpenSpec.ofChange modelValidSpec)

/-- ITS FALSE NEIGHBOUR: 'it returns false'. Refute it at one input. -/
def modelValidWrong : ChangeSpec := { name := "modelValid", fn := fun _ => fun
  | [d1, d2, d3, d4] => { results := [.lit (.bool false)], args := [d1, d2, d3, d4] }
  | _ => none }
def ModelValidWrongFalsely : Prop := modelValidRow.holds Tryz.pinned (OpenSpec.ofChange modelValidWrong)

/- THE SECOND FORM. 'bulk': how many values and letters a reading holds, each counted each time it is reached (what is shared counts as often as it is met; a slice's spare places count too). A statement '..UptoSaid' is the law's where the arguments, and the package variables that the reading takes, are together of bulk at most 1048576: NARROWER than '..Said'. Prove '..Said' where nothing that the law and all that it calls make is longer than what came in: it says more and counts as full. Else prove '..UptoSaid'. A law counts once. -/
mutual
def uptoBulk {H : Type} : DataW H → Nat
  | .lit (.string bytes) => bytes.length + 1
  | .lit _ => 1
  | .nil => 1
  | .ptr d => uptoBulk d + 1
  | .slice elems spare => uptoBulkAll elems + uptoBulkAll spare + 1
  | .agg parts => uptoBulkAll parts + 1
  | .iface _ d => uptoBulk d + 1
  | .map entries => uptoBulkEntries entries + 1
  | .held _ => 1
def uptoBulkAll {H : Type} : List (DataW H) → Nat
  | [] => 0
  | d :: r => uptoBulk d + uptoBulkAll r
def uptoBulkEntries {H : Type} : List (Lit × DataW H) → Nat
  | [] => 0
  | x :: r => uptoBulkEntry x + uptoBulkEntries r
def uptoBulkEntry {H : Type} : Lit × DataW H → Nat
  | (.string bytes, d) => bytes.length + uptoBulk d + 1
  | (_, d) => uptoBulk d + 1
 end
def uptoSmall : (H : Type) → List (DataW H) → Bool := fun _ ds => decide (uptoBulkAll ds ≤ 1048576)
def OpenSpec.upto (s : _root_.Go.ChangeSpec) : _root_.Go.OpenSpec := { _root_.Go.OpenSpec.ofChange s with cond := some uptoSmall }

/-- 'flowpipelaw25.ModelInside', WHERE WHAT IT READS IS OF BULK AT MOST 1048576: true; the input reads as it did. -/
def modelInsideUptoRow : OpenClaim := { program := "ytdhfcpbpdmmphaagreatdoor", sum := "6590543636b9e353214aaff2146e7e1aff415c03487ee2dbcc1fcb1f366535dc", func := "flowpipe/flowpipelaw25.ModelInside", spec := "modelInside", inPlace := ["slices.overlaps[flowpipe/api.Term]"], unfollowed := true, recurses := true, named := ["math/bits.deBruijn32tab", "math/bits.overflowError"], apart := false, laid := [("math/bits.deBruijn32tab", laid_math_bits_deBruijn32tab)], narrowed := true }
def ModelInsideUptoSaid : Prop := modelInsideUptoRow.holds Tryz.pinned (OpenSpec.upto modelInsideSpec)

/-- 'flowpipelaw25.ModelExact', WHERE WHAT IT READS IS OF BULK AT MOST 1048576: true; the input reads as it did. -/
def modelExactUptoRow : OpenClaim := { program := "ytdhfcpbpdmmphaagreatdoor", sum := "6590543636b9e353214aaff2146e7e1aff415c03487ee2dbcc1fcb1f366535dc", func := "flowpipe/flowpipelaw25.ModelExact", spec := "modelExact", inPlace := ["slices.overlaps[flowpipe/api.Term]"], unfollowed := true, recurses := true, named := ["math/bits.deBruijn32tab", "math/bits.overflowError"], apart := false, laid := [("math/bits.deBruijn32tab", laid_math_bits_deBruijn32tab)], narrowed := true }
def ModelExactUptoSaid : Prop := modelExactUptoRow.holds Tryz.pinned (OpenSpec.upto modelExactSpec)

/-- 'flowpipelaw25.ModelIntegral', WHERE WHAT IT READS IS OF BULK AT MOST 1048576: true; the input reads as it did. -/
def modelIntegralUptoRow : OpenClaim := { program := "ytdhfcpbpdmmphaagreatdoor", sum := "6590543636b9e353214aaff2146e7e1aff415c03487ee2dbcc1fcb1f366535dc", func := "flowpipe/flowpipelaw25.ModelIntegral", spec := "modelIntegral", inPlace := ["slices.overlaps[flowpipe/api.Term]"], unfollowed := true, recurses := true, named := ["math/bits.deBruijn32tab", "math/bits.overflowError"], apart := false, laid := [("math/bits.deBruijn32tab", laid_math_bits_deBruijn32tab)], narrowed := true }
def ModelIntegralUptoSaid : Prop := modelIntegralUptoRow.holds Tryz.pinned (OpenSpec.upto modelIntegralSpec)

/-- 'flowpipelaw25.ModelProducts', WHERE WHAT IT READS IS OF BULK AT MOST 1048576: true; the input reads as it did. -/
def modelProductsUptoRow : OpenClaim := { program := "ytdhfcpbpdmmphaagreatdoor", sum := "6590543636b9e353214aaff2146e7e1aff415c03487ee2dbcc1fcb1f366535dc", func := "flowpipe/flowpipelaw25.ModelProducts", spec := "modelProducts", inPlace := ["slices.overlaps[flowpipe/api.Term]"], unfollowed := true, recurses := true, named := ["math/bits.deBruijn32tab", "math/bits.overflowError"], apart := false, laid := [("math/bits.deBruijn32tab", laid_math_bits_deBruijn32tab)], narrowed := true }
def ModelProductsUptoSaid : Prop := modelProductsUptoRow.holds Tryz.pinned (OpenSpec.upto modelProductsSpec)

/-- 'flowpipelaw25.ModelValues', WHERE WHAT IT READS IS OF BULK AT MOST 1048576: true; the input reads as it did. -/
def modelValuesUptoRow : OpenClaim := { program := "ytdhfcpbpdmmphaagreatdoor", sum := "6590543636b9e353214aaff2146e7e1aff415c03487ee2dbcc1fcb1f366535dc", func := "flowpipe/flowpipelaw25.ModelValues", spec := "modelValues", inPlace := ["slices.overlaps[flowpipe/api.Term]"], unfollowed := true, recurses := true, named := ["math/bits.deBruijn32tab", "math/bits.overflowError"], apart := false, laid := [("math/bits.deBruijn32tab", laid_math_bits_deBruijn32tab)], narrowed := true }
def ModelValuesUptoSaid : Prop := modelValuesUptoRow.holds Tryz.pinned (OpenSpec.upto modelValuesSpec)

/-- 'flowpipelaw25.ModelSound', WHERE WHAT IT READS IS OF BULK AT MOST 1048576: true; the input reads as it did. -/
def modelSoundUptoRow : OpenClaim := { program := "ytdhfcpbpdmmphaagreatdoor", sum := "6590543636b9e353214aaff2146e7e1aff415c03487ee2dbcc1fcb1f366535dc", func := "flowpipe/flowpipelaw25.ModelSound", spec := "modelSound", inPlace := ["slices.overlaps[flowpipe/api.Term]"], unfollowed := true, recurses := true, named := ["math/bits.deBruijn32tab", "math/bits.overflowError"], apart := false, laid := [("math/bits.deBruijn32tab", laid_math_bits_deBruijn32tab)], narrowed := true }
def ModelSoundUptoSaid : Prop := modelSoundUptoRow.holds Tryz.pinned (OpenSpec.upto modelSoundSpec)

/-- 'flowpipelaw25.ModelSums', WHERE WHAT IT READS IS OF BULK AT MOST 1048576: true; the input reads as it did. -/
def modelSumsUptoRow : OpenClaim := { program := "ytdhfcpbpdmmphaagreatdoor", sum := "6590543636b9e353214aaff2146e7e1aff415c03487ee2dbcc1fcb1f366535dc", func := "flowpipe/flowpipelaw25.ModelSums", spec := "modelSums", inPlace := ["slices.overlaps[flowpipe/api.Term]"], unfollowed := true, recurses := true, named := ["math/bits.deBruijn32tab", "math/bits.overflowError"], apart := false, laid := [("math/bits.deBruijn32tab", laid_math_bits_deBruijn32tab)], narrowed := true }
def ModelSumsUptoSaid : Prop := modelSumsUptoRow.holds Tryz.pinned (OpenSpec.upto modelSumsSpec)

/-- 'flowpipelaw25.ModelIntegrals', WHERE WHAT IT READS IS OF BULK AT MOST 1048576: true; the input reads as it did. -/
def modelIntegralsUptoRow : OpenClaim := { program := "ytdhfcpbpdmmphaagreatdoor", sum := "6590543636b9e353214aaff2146e7e1aff415c03487ee2dbcc1fcb1f366535dc", func := "flowpipe/flowpipelaw25.ModelIntegrals", spec := "modelIntegrals", inPlace := ["slices.overlaps[flowpipe/api.Term]"], unfollowed := true, recurses := true, named := ["math/bits.deBruijn32tab", "math/bits.overflowError"], apart := false, laid := [("math/bits.deBruijn32tab", laid_math_bits_deBruijn32tab)], narrowed := true }
def ModelIntegralsUptoSaid : Prop := modelIntegralsUptoRow.holds Tryz.pinned (OpenSpec.upto modelIntegralsSpec)

/-- 'flowpipelaw25.ModelValid', WHERE WHAT IT READS IS OF BULK AT MOST 1048576: true; the input reads as it did. -/
def modelValidUptoRow : OpenClaim := { program := "ytdhfcpbpdmmphaagreatdoor", sum := "6590543636b9e353214aaff2146e7e1aff415c03487ee2dbcc1fcb1f366535dc", func := "flowpipe/flowpipelaw25.ModelValid", spec := "modelValid", inPlace := ["slices.overlaps[flowpipe/api.Term]"], unfollowed := true, recurses := true, named := ["math/bits.deBruijn32tab", "math/bits.overflowError"], apart := false, laid := [("math/bits.deBruijn32tab", laid_math_bits_deBruijn32tab)], narrowed := true }
def ModelValidUptoSaid : Prop := modelValidUptoRow.holds Tryz.pinned (OpenSpec.upto modelValidSpec)

end Rows
end Go.Proofs.YtdhfcpbpdmmphaaGreatDoor
