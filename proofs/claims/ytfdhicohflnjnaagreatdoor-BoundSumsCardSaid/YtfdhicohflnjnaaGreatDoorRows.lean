/-
  NARROWER THAN 'FOR EVERY INPUT', by the rows' own cells (each row's printed sentence says how): BoundBest: laid · BoundSmaller: laid · BoundContains: laid · BoundCorners: laid · BoundConstants: laid · BoundSums: laid.
  DERIVED. THE GIVEN ROWS OF THIS SEAT. 6 by the template 'for every input the law returns true; each argument reads behind the call as it read before'; 0 by the template 'total and deterministic' (their statements: YtfdhicohflnjnaaGreatDoorTotals.lean).
  GIVEN WITH THE SEED: the statements are not yours to turn. If you find one false, say at which input.
  Laid BY PROGRAM, IN A SANDBOX (cutbox-rows.mjs): the forced cells as the released guide's own fill.sh prints them over the translation 6d4a6d3a624d21ab… (all of the seat's roots in one cut). By AI agents, Wed Nov 11 2026. No macro, syntax, notation, axiom, sorry.
-/
import Derived.Test.YtfdhicohflnjnaaGreatDoorChecked
import GoSem.Claim
import GoSem.ClaimJoined
import GoSem.ClaimMapViews
import Derived.JoinedTies
import Derived.KernelRfl
namespace Go.Proofs.YtfdhicohflnjnaaGreatDoor
/- THE CELL 'sum', in the pinned program and in every row, IS THE sha256 OF THE DUMP (.gsa) THAT YtfdhicohflnjnaaGreatDoorProg.lean LOADS. Nothing in Lean hashes anything: it is a label: what it is worth is what the hold of that sum in a sandbox is worth. -/
noncomputable def Tryz.pinned : Pinned := { name := "ytfdhicohflnjnaagreatdoor", sum := "6d4a6d3a624d21abb38c77340c5934d52c7baa9702dac515347da8ad8ab5e735", checked := Tryz.checked }
namespace Rows
def none {H : Type} : Left H := { results := [], args := [] }

/- WHAT THE LISTED PACKAGE-LEVEL VARIABLES READ AS WHEN THE CALL BEGINS. Each datum BY PROGRAM (the guide's laid-datum.mjs) off the statement by which the dump's own 'gosem.cut.vars' lays the variable. In a bare row this is a premise. The card (YtfdhicohflnjnaaGreatDoorCards.lean) ties it to the program's text. -/
def laid_math_bits_deBruijn32tab {H : Type} : DataW H := .agg [.lit (.int .u8 0), .lit (.int .u8 1), .lit (.int .u8 28), .lit (.int .u8 2), .lit (.int .u8 29), .lit (.int .u8 14), .lit (.int .u8 24), .lit (.int .u8 3), .lit (.int .u8 30), .lit (.int .u8 22), .lit (.int .u8 20), .lit (.int .u8 15), .lit (.int .u8 25), .lit (.int .u8 17), .lit (.int .u8 4), .lit (.int .u8 8), .lit (.int .u8 31), .lit (.int .u8 27), .lit (.int .u8 13), .lit (.int .u8 23), .lit (.int .u8 21), .lit (.int .u8 19), .lit (.int .u8 16), .lit (.int .u8 7), .lit (.int .u8 26), .lit (.int .u8 12), .lit (.int .u8 18), .lit (.int .u8 6), .lit (.int .u8 11), .lit (.int .u8 5), .lit (.int .u8 10), .lit (.int .u8 9)]

/-- 'flowpipelaw24.BoundBest': WHATEVER THE INPUT: true; the input reads as it did. -/
def boundBestSpec : ChangeSpec := { name := "boundBest", fn := fun _ => fun
  | [d1, d2, d3] => { results := [.lit (.bool true)], args := [d1, d2, d3] }
  | _ => none }
def boundBestRow : OpenClaim := { program := "ytfdhicohflnjnaagreatdoor", sum := "6d4a6d3a624d21abb38c77340c5934d52c7baa9702dac515347da8ad8ab5e735", func := "flowpipe/flowpipelaw24.BoundBest", spec := "boundBest", unfollowed := true, recurses := true, named := ["math/bits.deBruijn32tab", "math/bits.overflowError"], apart := false, laid := [("math/bits.deBruijn32tab", laid_math_bits_deBruijn32tab)] }
def BoundBestSaid : Prop := boundBestRow.holds Tryz.pinned (OpenSpec.ofChange boundBestSpec)

/-- ITS FALSE NEIGHBOUR: 'it returns false'. Refute it at one input. -/
def boundBestWrong : ChangeSpec := { name := "boundBest", fn := fun _ => fun
  | [d1, d2, d3] => { results := [.lit (.bool false)], args := [d1, d2, d3] }
  | _ => none }
def BoundBestWrongFalsely : Prop := boundBestRow.holds Tryz.pinned (OpenSpec.ofChange boundBestWrong)

/-- 'flowpipelaw24.BoundSmaller': WHATEVER THE INPUT: true; the input reads as it did. -/
def boundSmallerSpec : ChangeSpec := { name := "boundSmaller", fn := fun _ => fun
  | [d1, d2, d3, d4] => { results := [.lit (.bool true)], args := [d1, d2, d3, d4] }
  | _ => none }
def boundSmallerRow : OpenClaim := { program := "ytfdhicohflnjnaagreatdoor", sum := "6d4a6d3a624d21abb38c77340c5934d52c7baa9702dac515347da8ad8ab5e735", func := "flowpipe/flowpipelaw24.BoundSmaller", spec := "boundSmaller", unfollowed := true, recurses := true, named := ["math/bits.deBruijn32tab", "math/bits.overflowError"], apart := false, laid := [("math/bits.deBruijn32tab", laid_math_bits_deBruijn32tab)] }
def BoundSmallerSaid : Prop := boundSmallerRow.holds Tryz.pinned (OpenSpec.ofChange boundSmallerSpec)

/-- ITS FALSE NEIGHBOUR: 'it returns false'. Refute it at one input. -/
def boundSmallerWrong : ChangeSpec := { name := "boundSmaller", fn := fun _ => fun
  | [d1, d2, d3, d4] => { results := [.lit (.bool false)], args := [d1, d2, d3, d4] }
  | _ => none }
def BoundSmallerWrongFalsely : Prop := boundSmallerRow.holds Tryz.pinned (OpenSpec.ofChange boundSmallerWrong)

/-- 'flowpipelaw24.BoundContains': WHATEVER THE INPUT: true; the input reads as it did. -/
def boundContainsSpec : ChangeSpec := { name := "boundContains", fn := fun _ => fun
  | [d1, d2, d3, d4] => { results := [.lit (.bool true)], args := [d1, d2, d3, d4] }
  | _ => none }
def boundContainsRow : OpenClaim := { program := "ytfdhicohflnjnaagreatdoor", sum := "6d4a6d3a624d21abb38c77340c5934d52c7baa9702dac515347da8ad8ab5e735", func := "flowpipe/flowpipelaw24.BoundContains", spec := "boundContains", unfollowed := true, recurses := true, named := ["math/bits.deBruijn32tab", "math/bits.overflowError"], apart := false, laid := [("math/bits.deBruijn32tab", laid_math_bits_deBruijn32tab)] }
def BoundContainsSaid : Prop := boundContainsRow.holds Tryz.pinned (OpenSpec.ofChange boundContainsSpec)

/-- ITS FALSE NEIGHBOUR: 'it returns false'. Refute it at one input. -/
def boundContainsWrong : ChangeSpec := { name := "boundContains", fn := fun _ => fun
  | [d1, d2, d3, d4] => { results := [.lit (.bool false)], args := [d1, d2, d3, d4] }
  | _ => none }
def BoundContainsWrongFalsely : Prop := boundContainsRow.holds Tryz.pinned (OpenSpec.ofChange boundContainsWrong)

/-- 'flowpipelaw24.BoundCorners': WHATEVER THE INPUT: true; the input reads as it did. -/
def boundCornersSpec : ChangeSpec := { name := "boundCorners", fn := fun _ => fun
  | [d1, d2] => { results := [.lit (.bool true)], args := [d1, d2] }
  | _ => none }
def boundCornersRow : OpenClaim := { program := "ytfdhicohflnjnaagreatdoor", sum := "6d4a6d3a624d21abb38c77340c5934d52c7baa9702dac515347da8ad8ab5e735", func := "flowpipe/flowpipelaw24.BoundCorners", spec := "boundCorners", unfollowed := true, recurses := true, named := ["math/bits.deBruijn32tab", "math/bits.overflowError"], apart := false, laid := [("math/bits.deBruijn32tab", laid_math_bits_deBruijn32tab)] }
def BoundCornersSaid : Prop := boundCornersRow.holds Tryz.pinned (OpenSpec.ofChange boundCornersSpec)

/-- ITS FALSE NEIGHBOUR: 'it returns false'. Refute it at one input. -/
def boundCornersWrong : ChangeSpec := { name := "boundCorners", fn := fun _ => fun
  | [d1, d2] => { results := [.lit (.bool false)], args := [d1, d2] }
  | _ => none }
def BoundCornersWrongFalsely : Prop := boundCornersRow.holds Tryz.pinned (OpenSpec.ofChange boundCornersWrong)

/-- 'flowpipelaw24.BoundConstants': WHATEVER THE INPUT: true; the input reads as it did. -/
def boundConstantsSpec : ChangeSpec := { name := "boundConstants", fn := fun _ => fun
  | [d1, d2, d3] => { results := [.lit (.bool true)], args := [d1, d2, d3] }
  | _ => none }
def boundConstantsRow : OpenClaim := { program := "ytfdhicohflnjnaagreatdoor", sum := "6d4a6d3a624d21abb38c77340c5934d52c7baa9702dac515347da8ad8ab5e735", func := "flowpipe/flowpipelaw24.BoundConstants", spec := "boundConstants", inPlace := ["slices.overlaps[flowpipe/api.Term]"], unfollowed := true, recurses := true, named := ["math/bits.deBruijn32tab", "math/bits.overflowError"], apart := false, laid := [("math/bits.deBruijn32tab", laid_math_bits_deBruijn32tab)] }
def BoundConstantsSaid : Prop := boundConstantsRow.holds Tryz.pinned (OpenSpec.ofChange boundConstantsSpec)

/-- ITS FALSE NEIGHBOUR: 'it returns false'. Refute it at one input. -/
def boundConstantsWrong : ChangeSpec := { name := "boundConstants", fn := fun _ => fun
  | [d1, d2, d3] => { results := [.lit (.bool false)], args := [d1, d2, d3] }
  | _ => none }
def BoundConstantsWrongFalsely : Prop := boundConstantsRow.holds Tryz.pinned (OpenSpec.ofChange boundConstantsWrong)

/-- 'flowpipelaw24.BoundSums': WHATEVER THE INPUT: true; the input reads as it did. -/
def boundSumsSpec : ChangeSpec := { name := "boundSums", fn := fun _ => fun
  | [d1, d2, d3] => { results := [.lit (.bool true)], args := [d1, d2, d3] }
  | _ => none }
def boundSumsRow : OpenClaim := { program := "ytfdhicohflnjnaagreatdoor", sum := "6d4a6d3a624d21abb38c77340c5934d52c7baa9702dac515347da8ad8ab5e735", func := "flowpipe/flowpipelaw24.BoundSums", spec := "boundSums", inPlace := ["slices.overlaps[flowpipe/api.Term]"], unfollowed := true, recurses := true, named := ["math/bits.deBruijn32tab", "math/bits.overflowError"], apart := false, laid := [("math/bits.deBruijn32tab", laid_math_bits_deBruijn32tab)] }
def BoundSumsSaid : Prop := boundSumsRow.holds Tryz.pinned (OpenSpec.ofChange boundSumsSpec)

/-- ITS FALSE NEIGHBOUR: 'it returns false'. Refute it at one input. -/
def boundSumsWrong : ChangeSpec := { name := "boundSums", fn := fun _ => fun
  | [d1, d2, d3] => { results := [.lit (.bool false)], args := [d1, d2, d3] }
  | _ => none }
def BoundSumsWrongFalsely : Prop := boundSumsRow.holds Tryz.pinned (OpenSpec.ofChange boundSumsWrong)

/- THE SECOND FORM. 'bulk': how many values and letters a reading holds, each counted each time it is reached (what is shared counts as often as it is met; a slice's spare places count too). A statement '..UptoSaid' is the law's where the arguments, and the package variables that the reading takes, are together of bulk at most 1048576: NARROWER than '..Said'. Prove '..Said' where nothing that the law and all that it calls make is longer than what came in: it says more and counts as full. Else prove '..UptoSaid'. A law counts once. -/
mutual
def uptoBulk {H : Type} : DataW H → Nat
  | .lit (.string bytes) => bytes.length + 1
  | .lit _ => 1
  | .nil => 1
  | .ptr d => uptoBulk d + 1
  | .slice elems spare => uptoBulkAll elems + uptoBulkAll spare + 1
  | .agg parts => uptoBulkAll parts + 1
  | .iface _ d => uptoBulk d + 1
  | .map entries => uptoBulkEntries entries + 1
  | .held _ => 1
def uptoBulkAll {H : Type} : List (DataW H) → Nat
  | [] => 0
  | d :: r => uptoBulk d + uptoBulkAll r
def uptoBulkEntries {H : Type} : List (Lit × DataW H) → Nat
  | [] => 0
  | x :: r => uptoBulkEntry x + uptoBulkEntries r
def uptoBulkEntry {H : Type} : Lit × DataW H → Nat
  | (.string bytes, d) => bytes.length + uptoBulk d + 1
  | (_, d) => uptoBulk d + 1
 end
def uptoSmall : (H : Type) → List (DataW H) → Bool := fun _ ds => decide (uptoBulkAll ds ≤ 1048576)
def OpenSpec.upto (s : _root_.Go.ChangeSpec) : _root_.Go.OpenSpec := { _root_.Go.OpenSpec.ofChange s with cond := some uptoSmall }

/-- 'flowpipelaw24.BoundBest', WHERE WHAT IT READS IS OF BULK AT MOST 1048576: true; the input reads as it did. -/
def boundBestUptoRow : OpenClaim := { program := "ytfdhicohflnjnaagreatdoor", sum := "6d4a6d3a624d21abb38c77340c5934d52c7baa9702dac515347da8ad8ab5e735", func := "flowpipe/flowpipelaw24.BoundBest", spec := "boundBest", unfollowed := true, recurses := true, named := ["math/bits.deBruijn32tab", "math/bits.overflowError"], apart := false, laid := [("math/bits.deBruijn32tab", laid_math_bits_deBruijn32tab)], narrowed := true }
def BoundBestUptoSaid : Prop := boundBestUptoRow.holds Tryz.pinned (OpenSpec.upto boundBestSpec)

/-- 'flowpipelaw24.BoundSmaller', WHERE WHAT IT READS IS OF BULK AT MOST 1048576: true; the input reads as it did. -/
def boundSmallerUptoRow : OpenClaim := { program := "ytfdhicohflnjnaagreatdoor", sum := "6d4a6d3a624d21abb38c77340c5934d52c7baa9702dac515347da8ad8ab5e735", func := "flowpipe/flowpipelaw24.BoundSmaller", spec := "boundSmaller", unfollowed := true, recurses := true, named := ["math/bits.deBruijn32tab", "math/bits.overflowError"], apart := false, laid := [("math/bits.deBruijn32tab", laid_math_bits_deBruijn32tab)], narrowed := true }
def BoundSmallerUptoSaid : Prop := boundSmallerUptoRow.holds Tryz.pinned (OpenSpec.upto boundSmallerSpec)

/-- 'flowpipelaw24.BoundContains', WHERE WHAT IT READS IS OF BULK AT MOST 1048576: true; the input reads as it did. -/
def boundContainsUptoRow : OpenClaim := { program := "ytfdhicohflnjnaagreatdoor", sum := "6d4a6d3a624d21abb38c77340c5934d52c7baa9702dac515347da8ad8ab5e735", func := "flowpipe/flowpipelaw24.BoundContains", spec := "boundContains", unfollowed := true, recurses := true, named := ["math/bits.deBruijn32tab", "math/bits.overflowError"], apart := false, laid := [("math/bits.deBruijn32tab", laid_math_bits_deBruijn32tab)], narrowed := true }
def BoundContainsUptoSaid : Prop := boundContainsUptoRow.holds Tryz.pinned (OpenSpec.upto boundContainsSpec)

/-- 'flowpipelaw24.BoundCorners', WHERE WHAT IT READS IS OF BULK AT MOST 1048576: true; the input reads as it did. -/
def boundCornersUptoRow : OpenClaim := { program := "ytfdhicohflnjnaagreatdoor", sum := "6d4a6d3a624d21abb38c77340c5934d52c7baa9702dac515347da8ad8ab5e735", func := "flowpipe/flowpipelaw24.BoundCorners", spec := "boundCorners", unfollowed := true, recurses := true, named := ["math/bits.deBruijn32tab", "math/bits.overflowError"], apart := false, laid := [("math/bits.deBruijn32tab", laid_math_bits_deBruijn32tab)], narrowed := true }
def BoundCornersUptoSaid : Prop := boundCornersUptoRow.holds Tryz.pinned (OpenSpec.upto boundCornersSpec)

/-- 'flowpipelaw24.BoundConstants', WHERE WHAT IT READS IS OF BULK AT MOST 1048576: true; the input reads as it did. -/
def boundConstantsUptoRow : OpenClaim := { program := "ytfdhicohflnjnaagreatdoor", sum := "6d4a6d3a624d21abb38c77340c5934d52c7baa9702dac515347da8ad8ab5e735", func := "flowpipe/flowpipelaw24.BoundConstants", spec := "boundConstants", inPlace := ["slices.overlaps[flowpipe/api.Term]"], unfollowed := true, recurses := true, named := ["math/bits.deBruijn32tab", "math/bits.overflowError"], apart := false, laid := [("math/bits.deBruijn32tab", laid_math_bits_deBruijn32tab)], narrowed := true }
def BoundConstantsUptoSaid : Prop := boundConstantsUptoRow.holds Tryz.pinned (OpenSpec.upto boundConstantsSpec)

/-- 'flowpipelaw24.BoundSums', WHERE WHAT IT READS IS OF BULK AT MOST 1048576: true; the input reads as it did. -/
def boundSumsUptoRow : OpenClaim := { program := "ytfdhicohflnjnaagreatdoor", sum := "6d4a6d3a624d21abb38c77340c5934d52c7baa9702dac515347da8ad8ab5e735", func := "flowpipe/flowpipelaw24.BoundSums", spec := "boundSums", inPlace := ["slices.overlaps[flowpipe/api.Term]"], unfollowed := true, recurses := true, named := ["math/bits.deBruijn32tab", "math/bits.overflowError"], apart := false, laid := [("math/bits.deBruijn32tab", laid_math_bits_deBruijn32tab)], narrowed := true }
def BoundSumsUptoSaid : Prop := boundSumsUptoRow.holds Tryz.pinned (OpenSpec.upto boundSumsSpec)

end Rows
end Go.Proofs.YtfdhicohflnjnaaGreatDoor
