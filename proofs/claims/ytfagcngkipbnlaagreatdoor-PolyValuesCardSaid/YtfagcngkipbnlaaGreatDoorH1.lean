/-
  A law of polynomials holds at every input that the statement speaks of, under the conditions that its card names. Part H1.
-/
import Derived.Test.YtfagcngkipbnlaaGreatDoorG1
namespace Go.Ab
open Go
set_option maxRecDepth 100000
def Mz:Nat × List AV × AV:=(F.poly_Add,[.agg [I 2,.sl 4 [[.sl 1 [[I 1],[I 0]],B false,.sl 1 [[U 1]],I 0]]],.agg [I 2,.sl 4 [[.sl 1 [[I 0],[I 1]],B false,.sl 1 [[U 1]],I 0]]]],.tup [.agg [I 2,.sl 4 [[.sl 1 [[I 1],[I 0]],B false,.sl 1 [[U 1]],I 0],[.sl 1 [[I 0],[I 1]],B false,.sl 1 [[U 1]],I 0]]],I 0])
theorem aw0:R Mz.1 Mz.2.1 []=some (Mz.2.2,[]):=gX [] 150 Mz (bL) (by kernel_rfl)
def MA:Nat × List AV × AV:=(F.poly_Add,[.agg [I 2,.sl 4 [[.sl 1 [[I 1],[I 0]],B false,.sl 1 [[U 1]],I 0]]],.agg [I 2,.sl 4 [[.sl 1 [[I 0],[I 1]],B true,.sl 1 [[U 1]],I 0]]]],.tup [.agg [I 2,.sl 4 [[.sl 1 [[I 1],[I 0]],B false,.sl 1 [[U 1]],I 0],[.sl 1 [[I 0],[I 1]],B true,.sl 1 [[U 1]],I 0]]],I 0])
theorem aw1:R MA.1 MA.2.1 []=some (MA.2.2,[]):=gX [] 150 MA (bL) (by kernel_rfl)
def MB:Nat × List AV × AV:=(F.poly_Sub,[.agg [I 2,.sl 4 [[.sl 1 [[I 1],[I 0]],B false,.sl 1 [[U 1]],I 0]]],.agg [I 2,.sl 4 [[.sl 1 [[I 0],[I 1]],B false,.sl 1 [[U 1]],I 0]]]],.tup [.agg [I 2,.sl 4 [[.sl 1 [[I 1],[I 0]],B false,.sl 1 [[U 1]],I 0],[.sl 1 [[I 0],[I 1]],B true,.sl 1 [[U 1]],I 0]]],I 0])
theorem aw2:R MB.1 MB.2.1 []=some (MB.2.2,[]):=gX [MA] 150 MB (cw aw1 (bL)) (by kernel_rfl)
def MC:Nat × List AV × AV:=(F.poly_Valid,[.agg [I 2,.sl 4 [[.sl 1 [[I 1],[I 0]],B false,.sl 1 [[U 1]],I 0],[.sl 1 [[I 0],[I 1]],B false,.sl 1 [[U 1]],I 0]]]],B true)
theorem aw3:R MC.1 MC.2.1 []=some (MC.2.2,[]):=gX [] 150 MC (bL) (by kernel_rfl)
def MD:Nat × List AV × AV:=(F.poly_Valid,[.agg [I 2,.sl 4 [[.sl 1 [[I 1],[I 0]],B false,.sl 1 [[U 1]],I 0],[.sl 1 [[I 0],[I 1]],B true,.sl 1 [[U 1]],I 0]]]],B true)
theorem aw4:R MD.1 MD.2.1 []=some (MD.2.2,[]):=gX [] 150 MD (bL) (by kernel_rfl)
def ME:Nat × List AV × AV:=(F.dyadic_Mul,[.agg [B false,.sl 1 [[U 1]],I 0],.agg [B false,.sl 1 [[U 1]],I 0]],.tup [.agg [B false,.sl 1 [[U 1]],I 0],I 0])
theorem aw5:R ME.1 ME.2.1 []=some (ME.2.2,[]):=gX [] 150 ME (bL) (by kernel_rfl)
def MF:Nat × List AV × AV:=(F.dyadic_Mul,[.agg [B false,.sl 1 [[U 1]],I 0],.agg [B true,.sl 1 [[U 1]],I 0]],.tup [.agg [B true,.sl 1 [[U 1]],I 0],I 0])
theorem aw6:R MF.1 MF.2.1 []=some (MF.2.2,[]):=gX [] 150 MF (bL) (by kernel_rfl)
def MG:Nat × List AV × AV:=(F.slices_BinarySearchFunc_api_Term_api_Term_Sint_,[.sl 4 [[.sl 1 [[I 2],[I 0]],B false,.sl 1 [[U 1]],I 0],[.sl 1 [[I 1],[I 1]],B true,.sl 1 [[U 1]],I 0]],.sl 1 [[I 1],[I 1]],.fn F.poly_collector_add_1 [] []],.tup [I 1,B true])
theorem aw7:R MG.1 MG.2.1 []=some (MG.2.2,[]):=gX [] 150 MG (bL) (by kernel_rfl)
def MH:Nat × List AV × AV:=(F.dyadic_sum,[.agg [B true,.sl 1 [[U 1]],I 0],.agg [B false,.sl 1 [[U 1]],I 0]],.tup [.agg [B false,.sl 1 [],I 0],I 0])
theorem aw8:R MH.1 MH.2.1 []=some (MH.2.2,[]):=gX [] 150 MH (bL) (by kernel_rfl)
def MI:Nat × List AV × AV:=(F.poly_Mul,[.agg [I 2,.sl 4 [[.sl 1 [[I 1],[I 0]],B false,.sl 1 [[U 1]],I 0],[.sl 1 [[I 0],[I 1]],B false,.sl 1 [[U 1]],I 0]]],.agg [I 2,.sl 4 [[.sl 1 [[I 1],[I 0]],B false,.sl 1 [[U 1]],I 0],[.sl 1 [[I 0],[I 1]],B true,.sl 1 [[U 1]],I 0]]]],.tup [.agg [I 2,.sl 4 [[.sl 1 [[I 2],[I 0]],B false,.sl 1 [[U 1]],I 0],[.sl 1 [[I 0],[I 2]],B true,.sl 1 [[U 1]],I 0]]],I 0])
theorem aw9:R MI.1 MI.2.1 []=some (MI.2.2,[]):=gX [MC,MD,ME,MF,MG,MH] 150 MI (cw aw3 (cw aw4 (cw aw5 (cw aw6 (cw aw7 (cw aw8 (bL))))))) (by kernel_rfl)
def Ak:Nat × List AV × AV:=(F.poly_Valid,[.agg [I 2,.sl 4 [[.sl 1 [[I 2],[I 0]],B false,.sl 1 [[U 1]],I 0],[.sl 1 [[I 0],[I 2]],B true,.sl 1 [[U 1]],I 0]]]],B true)
theorem OL:R Ak.1 Ak.2.1 []=some (Ak.2.2,[]):=gX [] 150 Ak (bL) (by kernel_rfl)
def HI:Nat × List AV × AV:=(F.poly_Text,[.agg [I 2,.sl 4 [[.sl 1 [[I 2],[I 0]],B false,.sl 1 [[U 1]],I 0],[.sl 1 [[I 0],[I 2]],B true,.sl 1 [[U 1]],I 0]]],.sl 1 [[.v (.string ⟨#[120]⟩)],[.v (.string ⟨#[121]⟩)]]],.tup [.v (.string ⟨#[49,112,48,42,120,94,50,32,43,32,45,49,112,48,42,121,94,50]⟩),I 0])
theorem ZT:R HI.1 HI.2.1 []=some (HI.2.2,[]):=gX [Ak] 150 HI (cw OL (bL)) (by kernel_rfl)
def HJ:Nat × List AV × AV:=(F.dyadic_Mul,[.agg [B false,.sl 1 [[U 1]],I 0],.agg [B false,.sl 1 [[U 1]],I 1]],.tup [.agg [B false,.sl 1 [[U 1]],I 1],I 0])
theorem ZU:R HJ.1 HJ.2.1 []=some (HJ.2.2,[]):=gX [] 150 HJ (bL) (by kernel_rfl)
def HK:Nat × List AV × AV:=(F.poly_Derive,[.agg [I 2,.sl 4 [[.sl 1 [[I 2],[I 0]],B false,.sl 1 [[U 1]],I 0],[.sl 1 [[I 0],[I 2]],B true,.sl 1 [[U 1]],I 0]]],I 0],.tup [.agg [I 2,.sl 4 [[.sl 1 [[I 1],[I 0]],B false,.sl 1 [[U 1]],I 1]]],I 0])
theorem ZV:R HK.1 HK.2.1 []=some (HK.2.2,[]):=gX [Ak,HJ] 150 HK (cw OL (cw ZU (bL))) (by kernel_rfl)
def HL:Nat × List AV × AV:=(F.poly_Text,[.agg [I 2,.sl 4 [[.sl 1 [[I 1],[I 0]],B false,.sl 1 [[U 1]],I 1]]],.sl 1 [[.v (.string ⟨#[120]⟩)],[.v (.string ⟨#[121]⟩)]]],.tup [.v (.string ⟨#[49,112,49,42,120]⟩),I 0])
theorem ZW:R HL.1 HL.2.1 []=some (HL.2.2,[]):=gX [] 150 HL (bL) (by kernel_rfl)
def KL:Nat × List AV × AV:=(F.l23_awake,[],B true)
theorem ZX:R KL.1 KL.2.1 []=some (KL.2.2,[]):=gX [Mz,MB,MI,HI,HK,HL,Ak] 150 KL (cw aw0 (cw aw2 (cw aw9 (cw ZT (cw ZV (cw ZW (cw OL (bL)))))))) (by kernel_rfl)
end Go.Ab
