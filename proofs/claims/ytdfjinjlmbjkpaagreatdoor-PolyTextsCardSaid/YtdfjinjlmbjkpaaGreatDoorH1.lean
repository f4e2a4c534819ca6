/-
  A law of polynomials' texts holds at every input that the statement speaks of, under the conditions that its card names. Part H1.
-/
import Derived.Test.YtdfjinjlmbjkpaaGreatDoorG1
set_option linter.all false
namespace Go.Ab
open Go
set_option maxRecDepth 100000
def mw0:Nat×List AV×AV:=(F.poly_Add,[.agg [I 2,.sl 4 [[.sl 1 [[I 1],[I 0]],B false,.sl 1 [[U 1]],I 0]]],.agg [I 2,.sl 4 [[.sl 1 [[I 0],[I 1]],B false,.sl 1 [[U 1]],I 0]]]],.tup [.agg [I 2,.sl 4 [[.sl 1 [[I 1],[I 0]],B false,.sl 1 [[U 1]],I 0],[.sl 1 [[I 0],[I 1]],B false,.sl 1 [[U 1]],I 0]]],I 0])
theorem aw0:R mw0.1 mw0.2.1 []=some (mw0.2.2,[]):=QF [] 150 mw0 (L8) (by kernel_rfl)
def mw1:Nat×List AV×AV:=(F.poly_Add,[.agg [I 2,.sl 4 [[.sl 1 [[I 1],[I 0]],B false,.sl 1 [[U 1]],I 0]]],.agg [I 2,.sl 4 [[.sl 1 [[I 0],[I 1]],B true,.sl 1 [[U 1]],I 0]]]],.tup [.agg [I 2,.sl 4 [[.sl 1 [[I 1],[I 0]],B false,.sl 1 [[U 1]],I 0],[.sl 1 [[I 0],[I 1]],B true,.sl 1 [[U 1]],I 0]]],I 0])
theorem aw1:R mw1.1 mw1.2.1 []=some (mw1.2.2,[]):=QF [] 150 mw1 (L8) (by kernel_rfl)
def mw2:Nat×List AV×AV:=(F.poly_Sub,[.agg [I 2,.sl 4 [[.sl 1 [[I 1],[I 0]],B false,.sl 1 [[U 1]],I 0]]],.agg [I 2,.sl 4 [[.sl 1 [[I 0],[I 1]],B false,.sl 1 [[U 1]],I 0]]]],.tup [.agg [I 2,.sl 4 [[.sl 1 [[I 1],[I 0]],B false,.sl 1 [[U 1]],I 0],[.sl 1 [[I 0],[I 1]],B true,.sl 1 [[U 1]],I 0]]],I 0])
theorem aw2:R mw2.1 mw2.2.1 []=some (mw2.2.2,[]):=QF [mw1] 150 mw2 (JJ aw1 (L8)) (by kernel_rfl)
def mw3:Nat×List AV×AV:=(F.poly_Valid,[.agg [I 2,.sl 4 [[.sl 1 [[I 1],[I 0]],B false,.sl 1 [[U 1]],I 0],[.sl 1 [[I 0],[I 1]],B false,.sl 1 [[U 1]],I 0]]]],B true)
theorem aw3:R mw3.1 mw3.2.1 []=some (mw3.2.2,[]):=QF [] 150 mw3 (L8) (by kernel_rfl)
def mw4:Nat×List AV×AV:=(F.poly_Valid,[.agg [I 2,.sl 4 [[.sl 1 [[I 1],[I 0]],B false,.sl 1 [[U 1]],I 0],[.sl 1 [[I 0],[I 1]],B true,.sl 1 [[U 1]],I 0]]]],B true)
theorem aw4:R mw4.1 mw4.2.1 []=some (mw4.2.2,[]):=QF [] 150 mw4 (L8) (by kernel_rfl)
def mw5:Nat×List AV×AV:=(F.dyadic_Mul,[.agg [B false,.sl 1 [[U 1]],I 0],.agg [B false,.sl 1 [[U 1]],I 0]],.tup [.agg [B false,.sl 1 [[U 1]],I 0],I 0])
theorem aw5:R mw5.1 mw5.2.1 []=some (mw5.2.2,[]):=QF [] 150 mw5 (L8) (by kernel_rfl)
def mw6:Nat×List AV×AV:=(F.dyadic_Mul,[.agg [B false,.sl 1 [[U 1]],I 0],.agg [B true,.sl 1 [[U 1]],I 0]],.tup [.agg [B true,.sl 1 [[U 1]],I 0],I 0])
theorem aw6:R mw6.1 mw6.2.1 []=some (mw6.2.2,[]):=QF [] 150 mw6 (L8) (by kernel_rfl)
def mw7:Nat×List AV×AV:=(F.slices_BinarySearchFunc_api_Term_api_Term_Sint_,[.sl 4 [[.sl 1 [[I 2],[I 0]],B false,.sl 1 [[U 1]],I 0],[.sl 1 [[I 1],[I 1]],B true,.sl 1 [[U 1]],I 0]],.sl 1 [[I 1],[I 1]],.fn F.poly_collector_add_1 [] []],.tup [I 1,B true])
theorem aw7:R mw7.1 mw7.2.1 []=some (mw7.2.2,[]):=QF [] 150 mw7 (L8) (by kernel_rfl)
def mw8:Nat×List AV×AV:=(F.dyadic_sum,[.agg [B true,.sl 1 [[U 1]],I 0],.agg [B false,.sl 1 [[U 1]],I 0]],.tup [.agg [B false,.sl 1 [],I 0],I 0])
theorem aw8:R mw8.1 mw8.2.1 []=some (mw8.2.2,[]):=QF [] 150 mw8 (L8) (by kernel_rfl)
def mw9:Nat×List AV×AV:=(F.poly_Mul,[.agg [I 2,.sl 4 [[.sl 1 [[I 1],[I 0]],B false,.sl 1 [[U 1]],I 0],[.sl 1 [[I 0],[I 1]],B false,.sl 1 [[U 1]],I 0]]],.agg [I 2,.sl 4 [[.sl 1 [[I 1],[I 0]],B false,.sl 1 [[U 1]],I 0],[.sl 1 [[I 0],[I 1]],B true,.sl 1 [[U 1]],I 0]]]],.tup [.agg [I 2,.sl 4 [[.sl 1 [[I 2],[I 0]],B false,.sl 1 [[U 1]],I 0],[.sl 1 [[I 0],[I 2]],B true,.sl 1 [[U 1]],I 0]]],I 0])
theorem aw9:R mw9.1 mw9.2.1 []=some (mw9.2.2,[]):=QF [mw3,mw4,mw5,mw6,mw7,mw8] 150 mw9 (JJ aw3 (JJ aw4 (JJ aw5 (JJ aw6 (JJ aw7 (JJ aw8 (L8))))))) (by kernel_rfl)
def UU:Nat×List AV×AV:=(F.poly_Valid,[.agg [I 2,.sl 4 [[.sl 1 [[I 2],[I 0]],B false,.sl 1 [[U 1]],I 0],[.sl 1 [[I 0],[I 2]],B true,.sl 1 [[U 1]],I 0]]]],B true)
theorem abL:R UU.1 UU.2.1 []=some (UU.2.2,[]):=QF [] 150 UU (L8) (by kernel_rfl)
def Xg:Nat×List AV×AV:=(F.poly_Text,[.agg [I 2,.sl 4 [[.sl 1 [[I 2],[I 0]],B false,.sl 1 [[U 1]],I 0],[.sl 1 [[I 0],[I 2]],B true,.sl 1 [[U 1]],I 0]]],.sl 1 [[.v (.string ⟨#[120]⟩)],[.v (.string ⟨#[121]⟩)]]],.tup [.v (.string ⟨#[49,112,48,42,120,94,50,32,43,32,45,49,112,48,42,121,94,50]⟩),I 0])
theorem adv:R1 Xg.1 Xg.2.1 []=some (Xg.2.2,[]):=QF (e:=Uf) [UU] 150 Xg (JJ (Ug abL) (L8)) (by kernel_rfl)
def Xh:Nat×List AV×AV:=(F.dyadic_Mul,[.agg [B false,.sl 1 [[U 1]],I 0],.agg [B false,.sl 1 [[U 1]],I 1]],.tup [.agg [B false,.sl 1 [[U 1]],I 1],I 0])
theorem adw:R Xh.1 Xh.2.1 []=some (Xh.2.2,[]):=QF [] 150 Xh (L8) (by kernel_rfl)
def Xi:Nat×List AV×AV:=(F.poly_Derive,[.agg [I 2,.sl 4 [[.sl 1 [[I 2],[I 0]],B false,.sl 1 [[U 1]],I 0],[.sl 1 [[I 0],[I 2]],B true,.sl 1 [[U 1]],I 0]]],I 0],.tup [.agg [I 2,.sl 4 [[.sl 1 [[I 1],[I 0]],B false,.sl 1 [[U 1]],I 1]]],I 0])
theorem adx:R Xi.1 Xi.2.1 []=some (Xi.2.2,[]):=QF [UU,Xh] 150 Xi (JJ abL (JJ adw (L8))) (by kernel_rfl)
def Xj:Nat×List AV×AV:=(F.poly_Text,[.agg [I 2,.sl 4 [[.sl 1 [[I 1],[I 0]],B false,.sl 1 [[U 1]],I 1]]],.sl 1 [[.v (.string ⟨#[120]⟩)],[.v (.string ⟨#[121]⟩)]]],.tup [.v (.string ⟨#[49,112,49,42,120]⟩),I 0])
theorem ady:R1 Xj.1 Xj.2.1 []=some (Xj.2.2,[]):=QF (e:=Uf) [] 150 Xj (L8) (by kernel_rfl)
def Zt:Nat×List AV×AV:=(F.l23_awake,[],B true)
theorem adz:R1 Zt.1 Zt.2.1 []=some (Zt.2.2,[]):=QF (e:=Uf) [mw0,mw2,mw9,Xg,Xi,Xj,UU] 150 Zt (JJ (Ug aw0) (JJ (Ug aw2) (JJ (Ug aw9) (JJ adv (JJ (Ug adx) (JJ ady (JJ (Ug abL) (L8)))))))) (by kernel_rfl)
end Go.Ab
