/-
  A law of polynomials holds at every input that the statement speaks of, under the conditions that its card names. Part I1.
-/
import Derived.Test.YtkmighmagkmboaaGreatDoorH1
namespace Go.Ab
open Go
set_option maxRecDepth 100000
def MM:Nat × List AV × AV:=(F.poly_Add,[.agg [I 2,.sl 4 [[.sl 1 [[I 1],[I 0]],B false,.sl 1 [[U 1]],I 0]]],.agg [I 2,.sl 4 [[.sl 1 [[I 0],[I 1]],B false,.sl 1 [[U 1]],I 0]]]],.tup [.agg [I 2,.sl 4 [[.sl 1 [[I 1],[I 0]],B false,.sl 1 [[U 1]],I 0],[.sl 1 [[I 0],[I 1]],B false,.sl 1 [[U 1]],I 0]]],I 0])
theorem aw0:R MM.1 MM.2.1 []=some (MM.2.2,[]):=hF [] 150 MM (bO) (by kernel_rfl)
def MN:Nat × List AV × AV:=(F.poly_Add,[.agg [I 2,.sl 4 [[.sl 1 [[I 1],[I 0]],B false,.sl 1 [[U 1]],I 0]]],.agg [I 2,.sl 4 [[.sl 1 [[I 0],[I 1]],B true,.sl 1 [[U 1]],I 0]]]],.tup [.agg [I 2,.sl 4 [[.sl 1 [[I 1],[I 0]],B false,.sl 1 [[U 1]],I 0],[.sl 1 [[I 0],[I 1]],B true,.sl 1 [[U 1]],I 0]]],I 0])
theorem aw1:R MN.1 MN.2.1 []=some (MN.2.2,[]):=hF [] 150 MN (bO) (by kernel_rfl)
def MO:Nat × List AV × AV:=(F.poly_Sub,[.agg [I 2,.sl 4 [[.sl 1 [[I 1],[I 0]],B false,.sl 1 [[U 1]],I 0]]],.agg [I 2,.sl 4 [[.sl 1 [[I 0],[I 1]],B false,.sl 1 [[U 1]],I 0]]]],.tup [.agg [I 2,.sl 4 [[.sl 1 [[I 1],[I 0]],B false,.sl 1 [[U 1]],I 0],[.sl 1 [[I 0],[I 1]],B true,.sl 1 [[U 1]],I 0]]],I 0])
theorem aw2:R MO.1 MO.2.1 []=some (MO.2.2,[]):=hF [MN] 150 MO (cA aw1 (bO)) (by kernel_rfl)
def MP:Nat × List AV × AV:=(F.poly_Valid,[.agg [I 2,.sl 4 [[.sl 1 [[I 1],[I 0]],B false,.sl 1 [[U 1]],I 0],[.sl 1 [[I 0],[I 1]],B false,.sl 1 [[U 1]],I 0]]]],B true)
theorem aw3:R MP.1 MP.2.1 []=some (MP.2.2,[]):=hF [] 150 MP (bO) (by kernel_rfl)
def MQ:Nat × List AV × AV:=(F.poly_Valid,[.agg [I 2,.sl 4 [[.sl 1 [[I 1],[I 0]],B false,.sl 1 [[U 1]],I 0],[.sl 1 [[I 0],[I 1]],B true,.sl 1 [[U 1]],I 0]]]],B true)
theorem aw4:R MQ.1 MQ.2.1 []=some (MQ.2.2,[]):=hF [] 150 MQ (bO) (by kernel_rfl)
def MR:Nat × List AV × AV:=(F.dyadic_Mul,[.agg [B false,.sl 1 [[U 1]],I 0],.agg [B false,.sl 1 [[U 1]],I 0]],.tup [.agg [B false,.sl 1 [[U 1]],I 0],I 0])
theorem aw5:R MR.1 MR.2.1 []=some (MR.2.2,[]):=hF [] 150 MR (bO) (by kernel_rfl)
def MS:Nat × List AV × AV:=(F.dyadic_Mul,[.agg [B false,.sl 1 [[U 1]],I 0],.agg [B true,.sl 1 [[U 1]],I 0]],.tup [.agg [B true,.sl 1 [[U 1]],I 0],I 0])
theorem aw6:R MS.1 MS.2.1 []=some (MS.2.2,[]):=hF [] 150 MS (bO) (by kernel_rfl)
def MT:Nat × List AV × AV:=(F.slices_BinarySearchFunc_api_Term_api_Term_Sint_,[.sl 4 [[.sl 1 [[I 2],[I 0]],B false,.sl 1 [[U 1]],I 0],[.sl 1 [[I 1],[I 1]],B true,.sl 1 [[U 1]],I 0]],.sl 1 [[I 1],[I 1]],.fn F.poly_collector_add_1 [] []],.tup [I 1,B true])
theorem aw7:R MT.1 MT.2.1 []=some (MT.2.2,[]):=hF [] 150 MT (bO) (by kernel_rfl)
def MU:Nat × List AV × AV:=(F.dyadic_sum,[.agg [B true,.sl 1 [[U 1]],I 0],.agg [B false,.sl 1 [[U 1]],I 0]],.tup [.agg [B false,.sl 1 [],I 0],I 0])
theorem aw8:R MU.1 MU.2.1 []=some (MU.2.2,[]):=hF [] 150 MU (bO) (by kernel_rfl)
def MV:Nat × List AV × AV:=(F.poly_Mul,[.agg [I 2,.sl 4 [[.sl 1 [[I 1],[I 0]],B false,.sl 1 [[U 1]],I 0],[.sl 1 [[I 0],[I 1]],B false,.sl 1 [[U 1]],I 0]]],.agg [I 2,.sl 4 [[.sl 1 [[I 1],[I 0]],B false,.sl 1 [[U 1]],I 0],[.sl 1 [[I 0],[I 1]],B true,.sl 1 [[U 1]],I 0]]]],.tup [.agg [I 2,.sl 4 [[.sl 1 [[I 2],[I 0]],B false,.sl 1 [[U 1]],I 0],[.sl 1 [[I 0],[I 2]],B true,.sl 1 [[U 1]],I 0]]],I 0])
theorem aw9:R MV.1 MV.2.1 []=some (MV.2.2,[]):=hF [MP,MQ,MR,MS,MT,MU] 150 MV (cA aw3 (cA aw4 (cA aw5 (cA aw6 (cA aw7 (cA aw8 (bO))))))) (by kernel_rfl)
def Am:Nat × List AV × AV:=(F.poly_Valid,[.agg [I 2,.sl 4 [[.sl 1 [[I 2],[I 0]],B false,.sl 1 [[U 1]],I 0],[.sl 1 [[I 0],[I 2]],B true,.sl 1 [[U 1]],I 0]]]],B true)
theorem O4:R Am.1 Am.2.1 []=some (Am.2.2,[]):=hF [] 150 Am (bO) (by kernel_rfl)
def HN:Nat × List AV × AV:=(F.poly_Text,[.agg [I 2,.sl 4 [[.sl 1 [[I 2],[I 0]],B false,.sl 1 [[U 1]],I 0],[.sl 1 [[I 0],[I 2]],B true,.sl 1 [[U 1]],I 0]]],.sl 1 [[.v (.string ⟨#[120]⟩)],[.v (.string ⟨#[121]⟩)]]],.tup [.v (.string ⟨#[49,112,48,42,120,94,50,32,43,32,45,49,112,48,42,121,94,50]⟩),I 0])
theorem aaf:R HN.1 HN.2.1 []=some (HN.2.2,[]):=hF [Am] 150 HN (cA O4 (bO)) (by kernel_rfl)
def HO:Nat × List AV × AV:=(F.dyadic_Mul,[.agg [B false,.sl 1 [[U 1]],I 0],.agg [B false,.sl 1 [[U 1]],I 1]],.tup [.agg [B false,.sl 1 [[U 1]],I 1],I 0])
theorem aag:R HO.1 HO.2.1 []=some (HO.2.2,[]):=hF [] 150 HO (bO) (by kernel_rfl)
def HP:Nat × List AV × AV:=(F.poly_Derive,[.agg [I 2,.sl 4 [[.sl 1 [[I 2],[I 0]],B false,.sl 1 [[U 1]],I 0],[.sl 1 [[I 0],[I 2]],B true,.sl 1 [[U 1]],I 0]]],I 0],.tup [.agg [I 2,.sl 4 [[.sl 1 [[I 1],[I 0]],B false,.sl 1 [[U 1]],I 1]]],I 0])
theorem aah:R HP.1 HP.2.1 []=some (HP.2.2,[]):=hF [Am,HO] 150 HP (cA O4 (cA aag (bO))) (by kernel_rfl)
def HQ:Nat × List AV × AV:=(F.poly_Text,[.agg [I 2,.sl 4 [[.sl 1 [[I 1],[I 0]],B false,.sl 1 [[U 1]],I 1]]],.sl 1 [[.v (.string ⟨#[120]⟩)],[.v (.string ⟨#[121]⟩)]]],.tup [.v (.string ⟨#[49,112,49,42,120]⟩),I 0])
theorem aai:R HQ.1 HQ.2.1 []=some (HQ.2.2,[]):=hF [] 150 HQ (bO) (by kernel_rfl)
def KY:Nat × List AV × AV:=(F.l23_awake,[],B true)
theorem aaj:R KY.1 KY.2.1 []=some (KY.2.2,[]):=hF [MM,MO,MV,HN,HP,HQ,Am] 150 KY (cA aw0 (cA aw2 (cA aw9 (cA aaf (cA aah (cA aai (cA O4 (bO)))))))) (by kernel_rfl)
end Go.Ab
