/-
  A law of polynomials holds at every input that the statement speaks of, under the conditions that its card names. Part I1.
-/
import Derived.Test.YtaffadijdjgmdaaGreatDoorH1
namespace Go.Ab
open Go
set_option maxRecDepth 100000
def Ms:Nat × List AV × AV:=(F.poly_Add,[.agg [I 2,.sl 4 [[.sl 1 [[I 1],[I 0]],B false,.sl 1 [[U 1]],I 0]]],.agg [I 2,.sl 4 [[.sl 1 [[I 0],[I 1]],B false,.sl 1 [[U 1]],I 0]]]],.tup [.agg [I 2,.sl 4 [[.sl 1 [[I 1],[I 0]],B false,.sl 1 [[U 1]],I 0],[.sl 1 [[I 0],[I 1]],B false,.sl 1 [[U 1]],I 0]]],I 0])
theorem aw0:R Ms.1 Ms.2.1 []=some (Ms.2.2,[]):=gU [] 150 Ms (bL) (by kernel_rfl)
def Mt:Nat × List AV × AV:=(F.poly_Add,[.agg [I 2,.sl 4 [[.sl 1 [[I 1],[I 0]],B false,.sl 1 [[U 1]],I 0]]],.agg [I 2,.sl 4 [[.sl 1 [[I 0],[I 1]],B true,.sl 1 [[U 1]],I 0]]]],.tup [.agg [I 2,.sl 4 [[.sl 1 [[I 1],[I 0]],B false,.sl 1 [[U 1]],I 0],[.sl 1 [[I 0],[I 1]],B true,.sl 1 [[U 1]],I 0]]],I 0])
theorem aw1:R Mt.1 Mt.2.1 []=some (Mt.2.2,[]):=gU [] 150 Mt (bL) (by kernel_rfl)
def Mu:Nat × List AV × AV:=(F.poly_Sub,[.agg [I 2,.sl 4 [[.sl 1 [[I 1],[I 0]],B false,.sl 1 [[U 1]],I 0]]],.agg [I 2,.sl 4 [[.sl 1 [[I 0],[I 1]],B false,.sl 1 [[U 1]],I 0]]]],.tup [.agg [I 2,.sl 4 [[.sl 1 [[I 1],[I 0]],B false,.sl 1 [[U 1]],I 0],[.sl 1 [[I 0],[I 1]],B true,.sl 1 [[U 1]],I 0]]],I 0])
theorem aw2:R Mu.1 Mu.2.1 []=some (Mu.2.2,[]):=gU [Mt] 150 Mu (cw aw1 (bL)) (by kernel_rfl)
def Mv:Nat × List AV × AV:=(F.poly_Valid,[.agg [I 2,.sl 4 [[.sl 1 [[I 1],[I 0]],B false,.sl 1 [[U 1]],I 0],[.sl 1 [[I 0],[I 1]],B false,.sl 1 [[U 1]],I 0]]]],B true)
theorem aw3:R Mv.1 Mv.2.1 []=some (Mv.2.2,[]):=gU [] 150 Mv (bL) (by kernel_rfl)
def Mw:Nat × List AV × AV:=(F.poly_Valid,[.agg [I 2,.sl 4 [[.sl 1 [[I 1],[I 0]],B false,.sl 1 [[U 1]],I 0],[.sl 1 [[I 0],[I 1]],B true,.sl 1 [[U 1]],I 0]]]],B true)
theorem aw4:R Mw.1 Mw.2.1 []=some (Mw.2.2,[]):=gU [] 150 Mw (bL) (by kernel_rfl)
def Mx:Nat × List AV × AV:=(F.dyadic_Mul,[.agg [B false,.sl 1 [[U 1]],I 0],.agg [B false,.sl 1 [[U 1]],I 0]],.tup [.agg [B false,.sl 1 [[U 1]],I 0],I 0])
theorem aw5:R Mx.1 Mx.2.1 []=some (Mx.2.2,[]):=gU [] 150 Mx (bL) (by kernel_rfl)
def My:Nat × List AV × AV:=(F.dyadic_Mul,[.agg [B false,.sl 1 [[U 1]],I 0],.agg [B true,.sl 1 [[U 1]],I 0]],.tup [.agg [B true,.sl 1 [[U 1]],I 0],I 0])
theorem aw6:R My.1 My.2.1 []=some (My.2.2,[]):=gU [] 150 My (bL) (by kernel_rfl)
def Mz:Nat × List AV × AV:=(F.slices_BinarySearchFunc_api_Term_api_Term_Sint_,[.sl 4 [[.sl 1 [[I 2],[I 0]],B false,.sl 1 [[U 1]],I 0],[.sl 1 [[I 1],[I 1]],B true,.sl 1 [[U 1]],I 0]],.sl 1 [[I 1],[I 1]],.fn F.poly_collector_add_1 [] []],.tup [I 1,B true])
theorem aw7:R Mz.1 Mz.2.1 []=some (Mz.2.2,[]):=gU [] 150 Mz (bL) (by kernel_rfl)
def MA:Nat × List AV × AV:=(F.dyadic_sum,[.agg [B true,.sl 1 [[U 1]],I 0],.agg [B false,.sl 1 [[U 1]],I 0]],.tup [.agg [B false,.sl 1 [],I 0],I 0])
theorem aw8:R MA.1 MA.2.1 []=some (MA.2.2,[]):=gU [] 150 MA (bL) (by kernel_rfl)
def MB:Nat × List AV × AV:=(F.poly_Mul,[.agg [I 2,.sl 4 [[.sl 1 [[I 1],[I 0]],B false,.sl 1 [[U 1]],I 0],[.sl 1 [[I 0],[I 1]],B false,.sl 1 [[U 1]],I 0]]],.agg [I 2,.sl 4 [[.sl 1 [[I 1],[I 0]],B false,.sl 1 [[U 1]],I 0],[.sl 1 [[I 0],[I 1]],B true,.sl 1 [[U 1]],I 0]]]],.tup [.agg [I 2,.sl 4 [[.sl 1 [[I 2],[I 0]],B false,.sl 1 [[U 1]],I 0],[.sl 1 [[I 0],[I 2]],B true,.sl 1 [[U 1]],I 0]]],I 0])
theorem aw9:R MB.1 MB.2.1 []=some (MB.2.2,[]):=gU [Mv,Mw,Mx,My,Mz,MA] 150 MB (cw aw3 (cw aw4 (cw aw5 (cw aw6 (cw aw7 (cw aw8 (bL))))))) (by kernel_rfl)
def Ad:Nat × List AV × AV:=(F.poly_Valid,[.agg [I 2,.sl 4 [[.sl 1 [[I 2],[I 0]],B false,.sl 1 [[U 1]],I 0],[.sl 1 [[I 0],[I 2]],B true,.sl 1 [[U 1]],I 0]]]],B true)
theorem OE:R Ad.1 Ad.2.1 []=some (Ad.2.2,[]):=gU [] 150 Ad (bL) (by kernel_rfl)
def HB:Nat × List AV × AV:=(F.poly_Text,[.agg [I 2,.sl 4 [[.sl 1 [[I 2],[I 0]],B false,.sl 1 [[U 1]],I 0],[.sl 1 [[I 0],[I 2]],B true,.sl 1 [[U 1]],I 0]]],.sl 1 [[.v (.string ⟨#[120]⟩)],[.v (.string ⟨#[121]⟩)]]],.tup [.v (.string ⟨#[49,112,48,42,120,94,50,32,43,32,45,49,112,48,42,121,94,50]⟩),I 0])
theorem ZM:R HB.1 HB.2.1 []=some (HB.2.2,[]):=gU [Ad] 150 HB (cw OE (bL)) (by kernel_rfl)
def HC:Nat × List AV × AV:=(F.dyadic_Mul,[.agg [B false,.sl 1 [[U 1]],I 0],.agg [B false,.sl 1 [[U 1]],I 1]],.tup [.agg [B false,.sl 1 [[U 1]],I 1],I 0])
theorem ZN:R HC.1 HC.2.1 []=some (HC.2.2,[]):=gU [] 150 HC (bL) (by kernel_rfl)
def HD:Nat × List AV × AV:=(F.poly_Derive,[.agg [I 2,.sl 4 [[.sl 1 [[I 2],[I 0]],B false,.sl 1 [[U 1]],I 0],[.sl 1 [[I 0],[I 2]],B true,.sl 1 [[U 1]],I 0]]],I 0],.tup [.agg [I 2,.sl 4 [[.sl 1 [[I 1],[I 0]],B false,.sl 1 [[U 1]],I 1]]],I 0])
theorem ZO:R HD.1 HD.2.1 []=some (HD.2.2,[]):=gU [Ad,HC] 150 HD (cw OE (cw ZN (bL))) (by kernel_rfl)
def HE:Nat × List AV × AV:=(F.poly_Text,[.agg [I 2,.sl 4 [[.sl 1 [[I 1],[I 0]],B false,.sl 1 [[U 1]],I 1]]],.sl 1 [[.v (.string ⟨#[120]⟩)],[.v (.string ⟨#[121]⟩)]]],.tup [.v (.string ⟨#[49,112,49,42,120]⟩),I 0])
theorem ZP:R HE.1 HE.2.1 []=some (HE.2.2,[]):=gU [] 150 HE (bL) (by kernel_rfl)
def KD:Nat × List AV × AV:=(F.l23_awake,[],B true)
theorem ZQ:R KD.1 KD.2.1 []=some (KD.2.2,[]):=gU [Ms,Mu,MB,HB,HD,HE,Ad] 150 KD (cw aw0 (cw aw2 (cw aw9 (cw ZM (cw ZO (cw ZP (cw OE (bL)))))))) (by kernel_rfl)
end Go.Ab
