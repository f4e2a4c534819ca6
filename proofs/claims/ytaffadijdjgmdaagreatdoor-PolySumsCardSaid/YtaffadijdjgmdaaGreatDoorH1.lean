/-
  PolySums holds at every input that the statement speaks of, under the conditions that its card names. Part H1.
-/
import Derived.Test.YtaffadijdjgmdaaGreatDoorG1
namespace Go.Ab
open Go
set_option maxRecDepth 100000
theorem memo_cons {x:Nat × List AV × AV} {T:List (Nat × List AV × AV)} (h1:R x.1 x.2.1 []=some (x.2.2,[])) (h2:∀ x∈T,R x.1 x.2.1 []=some (x.2.2,[])):∀ y∈x::T,R y.1 y.2.1 []=some (y.2.2,[]):=fun y hy=>by
 rcases List.mem_cons.1 hy with rfl | hy
 · exact h1
 · exact h2 y hy
def Lj:Nat × List AV × AV:=(F.poly_Add,[.agg [I 2,.sl 4 [[.sl 1 [[I 1],[I 0]],B false,.sl 1 [[U 1]],I 0]]],.agg [I 2,.sl 4 [[.sl 1 [[I 0],[I 1]],B false,.sl 1 [[U 1]],I 0]]]],.tup [.agg [I 2,.sl 4 [[.sl 1 [[I 1],[I 0]],B false,.sl 1 [[U 1]],I 0],[.sl 1 [[I 0],[I 1]],B false,.sl 1 [[U 1]],I 0]]],I 0])
theorem aw0:R Lj.1 Lj.2.1 []=some (Lj.2.2,[]):=go [] 150 Lj (bC) (by kernel_rfl)
def Lk:Nat × List AV × AV:=(F.poly_Add,[.agg [I 2,.sl 4 [[.sl 1 [[I 1],[I 0]],B false,.sl 1 [[U 1]],I 0]]],.agg [I 2,.sl 4 [[.sl 1 [[I 0],[I 1]],B true,.sl 1 [[U 1]],I 0]]]],.tup [.agg [I 2,.sl 4 [[.sl 1 [[I 1],[I 0]],B false,.sl 1 [[U 1]],I 0],[.sl 1 [[I 0],[I 1]],B true,.sl 1 [[U 1]],I 0]]],I 0])
theorem aw1:R Lk.1 Lk.2.1 []=some (Lk.2.2,[]):=go [] 150 Lk (bC) (by kernel_rfl)
def Ll:Nat × List AV × AV:=(F.poly_Sub,[.agg [I 2,.sl 4 [[.sl 1 [[I 1],[I 0]],B false,.sl 1 [[U 1]],I 0]]],.agg [I 2,.sl 4 [[.sl 1 [[I 0],[I 1]],B false,.sl 1 [[U 1]],I 0]]]],.tup [.agg [I 2,.sl 4 [[.sl 1 [[I 1],[I 0]],B false,.sl 1 [[U 1]],I 0],[.sl 1 [[I 0],[I 1]],B true,.sl 1 [[U 1]],I 0]]],I 0])
theorem aw2:R Ll.1 Ll.2.1 []=some (Ll.2.2,[]):=go [Lk] 150 Ll (memo_cons aw1 (bC)) (by kernel_rfl)
def Lm:Nat × List AV × AV:=(F.poly_Valid,[.agg [I 2,.sl 4 [[.sl 1 [[I 1],[I 0]],B false,.sl 1 [[U 1]],I 0],[.sl 1 [[I 0],[I 1]],B false,.sl 1 [[U 1]],I 0]]]],B true)
theorem aw3:R Lm.1 Lm.2.1 []=some (Lm.2.2,[]):=go [] 150 Lm (bC) (by kernel_rfl)
def Ln:Nat × List AV × AV:=(F.poly_Valid,[.agg [I 2,.sl 4 [[.sl 1 [[I 1],[I 0]],B false,.sl 1 [[U 1]],I 0],[.sl 1 [[I 0],[I 1]],B true,.sl 1 [[U 1]],I 0]]]],B true)
theorem aw4:R Ln.1 Ln.2.1 []=some (Ln.2.2,[]):=go [] 150 Ln (bC) (by kernel_rfl)
def Lo:Nat × List AV × AV:=(F.dyadic_Mul,[.agg [B false,.sl 1 [[U 1]],I 0],.agg [B false,.sl 1 [[U 1]],I 0]],.tup [.agg [B false,.sl 1 [[U 1]],I 0],I 0])
theorem aw5:R Lo.1 Lo.2.1 []=some (Lo.2.2,[]):=go [] 150 Lo (bC) (by kernel_rfl)
def Lp:Nat × List AV × AV:=(F.dyadic_Mul,[.agg [B false,.sl 1 [[U 1]],I 0],.agg [B true,.sl 1 [[U 1]],I 0]],.tup [.agg [B true,.sl 1 [[U 1]],I 0],I 0])
theorem aw6:R Lp.1 Lp.2.1 []=some (Lp.2.2,[]):=go [] 150 Lp (bC) (by kernel_rfl)
def Lq:Nat × List AV × AV:=(F.slices_BinarySearchFunc_api_Term_api_Term_Sint_,[.sl 4 [[.sl 1 [[I 2],[I 0]],B false,.sl 1 [[U 1]],I 0],[.sl 1 [[I 1],[I 1]],B true,.sl 1 [[U 1]],I 0]],.sl 1 [[I 1],[I 1]],.fn F.poly_collector_add_1 [] []],.tup [I 1,B true])
theorem aw7:R Lq.1 Lq.2.1 []=some (Lq.2.2,[]):=go [] 150 Lq (bC) (by kernel_rfl)
def Lr:Nat × List AV × AV:=(F.dyadic_sum,[.agg [B true,.sl 1 [[U 1]],I 0],.agg [B false,.sl 1 [[U 1]],I 0]],.tup [.agg [B false,.sl 1 [],I 0],I 0])
theorem aw8:R Lr.1 Lr.2.1 []=some (Lr.2.2,[]):=go [] 150 Lr (bC) (by kernel_rfl)
def Ls:Nat × List AV × AV:=(F.poly_Mul,[.agg [I 2,.sl 4 [[.sl 1 [[I 1],[I 0]],B false,.sl 1 [[U 1]],I 0],[.sl 1 [[I 0],[I 1]],B false,.sl 1 [[U 1]],I 0]]],.agg [I 2,.sl 4 [[.sl 1 [[I 1],[I 0]],B false,.sl 1 [[U 1]],I 0],[.sl 1 [[I 0],[I 1]],B true,.sl 1 [[U 1]],I 0]]]],.tup [.agg [I 2,.sl 4 [[.sl 1 [[I 2],[I 0]],B false,.sl 1 [[U 1]],I 0],[.sl 1 [[I 0],[I 2]],B true,.sl 1 [[U 1]],I 0]]],I 0])
theorem aw9:R Ls.1 Ls.2.1 []=some (Ls.2.2,[]):=go [Lm,Ln,Lo,Lp,Lq,Lr] 150 Ls (memo_cons aw3 (memo_cons aw4 (memo_cons aw5 (memo_cons aw6 (memo_cons aw7 (memo_cons aw8 (bC))))))) (by kernel_rfl)
def xW:Nat × List AV × AV:=(F.poly_Valid,[.agg [I 2,.sl 4 [[.sl 1 [[I 2],[I 0]],B false,.sl 1 [[U 1]],I 0],[.sl 1 [[I 0],[I 2]],B true,.sl 1 [[U 1]],I 0]]]],B true)
theorem Ny:R xW.1 xW.2.1 []=some (xW.2.2,[]):=go [] 150 xW (bC) (by kernel_rfl)
def FH:Nat × List AV × AV:=(F.poly_Text,[.agg [I 2,.sl 4 [[.sl 1 [[I 2],[I 0]],B false,.sl 1 [[U 1]],I 0],[.sl 1 [[I 0],[I 2]],B true,.sl 1 [[U 1]],I 0]]],.sl 1 [[.v (.string ⟨#[120]⟩)],[.v (.string ⟨#[121]⟩)]]],.tup [.v (.string ⟨#[49,112,48,42,120,94,50,32,43,32,45,49,112,48,42,121,94,50]⟩),I 0])
theorem Zf:R FH.1 FH.2.1 []=some (FH.2.2,[]):=go [xW] 150 FH (memo_cons Ny (bC)) (by kernel_rfl)
def FI:Nat × List AV × AV:=(F.dyadic_Mul,[.agg [B false,.sl 1 [[U 1]],I 0],.agg [B false,.sl 1 [[U 1]],I 1]],.tup [.agg [B false,.sl 1 [[U 1]],I 1],I 0])
theorem Zg:R FI.1 FI.2.1 []=some (FI.2.2,[]):=go [] 150 FI (bC) (by kernel_rfl)
def FJ:Nat × List AV × AV:=(F.poly_Derive,[.agg [I 2,.sl 4 [[.sl 1 [[I 2],[I 0]],B false,.sl 1 [[U 1]],I 0],[.sl 1 [[I 0],[I 2]],B true,.sl 1 [[U 1]],I 0]]],I 0],.tup [.agg [I 2,.sl 4 [[.sl 1 [[I 1],[I 0]],B false,.sl 1 [[U 1]],I 1]]],I 0])
theorem Zh:R FJ.1 FJ.2.1 []=some (FJ.2.2,[]):=go [xW,FI] 150 FJ (memo_cons Ny (memo_cons Zg (bC))) (by kernel_rfl)
def FK:Nat × List AV × AV:=(F.poly_Text,[.agg [I 2,.sl 4 [[.sl 1 [[I 1],[I 0]],B false,.sl 1 [[U 1]],I 1]]],.sl 1 [[.v (.string ⟨#[120]⟩)],[.v (.string ⟨#[121]⟩)]]],.tup [.v (.string ⟨#[49,112,49,42,120]⟩),I 0])
theorem Zi:R FK.1 FK.2.1 []=some (FK.2.2,[]):=go [] 150 FK (bC) (by kernel_rfl)
def Jm:Nat × List AV × AV:=(F.l23_awake,[],B true)
theorem Zj:R Jm.1 Jm.2.1 []=some (Jm.2.2,[]):=go [Lj,Ll,Ls,FH,FJ,FK,xW] 150 Jm (memo_cons aw0 (memo_cons aw2 (memo_cons aw9 (memo_cons Zf (memo_cons Zh (memo_cons Zi (memo_cons Ny (bC)))))))) (by kernel_rfl)
end Go.Ab
