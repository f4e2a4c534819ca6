/-
  A law of polynomials holds at every input that the statement speaks of, under the conditions that its card names. Part E1.
-/
import Derived.KernelRfl
import Derived.IntWalk
import Derived.Test.YtfagcngkipbnlaaGreatDoorD1
open Nat renaming reduceEqDiff → aee, reduceAdd → aef, reduceMul → aeg, reduceLeDiff → aeh, reduceLT → aej, reduceBEq → aei, reduceSub → anZ, reduceMod → an1
open Int renaming reduceLT → anW, reduceToNat → anX, reduceEq → anY, reduceLE → an0
namespace Go.Ab
open Go
def au:Env:=⟨fun f=>RP.lookup f,fun f=>OU.lookup f,⟨fun f=>(mdL.lookup f).getD [],fun f=>(shL.lookup f).getD [],fun f=>keepL.contains f,false⟩⟩
def ab (b:Bool):Mode:={ au.md with nm:=b }
noncomputable def R:cT:=cR au
theorem Gd {f:FuncId} {fd:FD} {args:List AV} {hs:List Ob} {r:AV × List Ob} (b:Bool) (hE:au.E f=none) (hC:au.C f=some fd) (hk:au.md.keep f=b) (h1:args.length=fd.np) (h2:hs.length≤1000)
  (hz:rk b fd.rs fd.res hs.length (az R (ab b) fd.body (pf args) (ae hs))=some r):R f args hs=some r:=by
 refine wQ hE hC ?_
 unfold FX
 rw [if_pos ⟨h1,h2⟩]
 subst hk
 exact hz
@[go_sem] theorem adt (b:Bool):(ab b).nm=b:=_root_.id rfl
theorem anx:au.C F.l23_PolyValid=some akp:=by kernel_rfl
theorem anz:au.E F.l23_PolyValid=none:=by kernel_rfl
@[go_sem] theorem anI (b):(ab b).sh F.l23_PolyValid=[[.o 0 [],.o 5 [.o 2 [],.o 0 [],.o 2 [],.o 0 []]],[.o 0 [],.o 5 [.o 2 [],.o 0 [],.o 2 [],.o 0 []]]]:=_root_.id (by kernel_rfl)
@[go_sem] theorem anB (b):(ab b).m F.l23_PolyValid=[]:=_root_.id (by kernel_rfl)
@[go_sem] theorem anH (b h d zas):ai R (ab b) h d zas (.fn F.l23_PolyValid [] [])=(ah h [] zas).bind (aD R (ab b) d F.l23_PolyValid):=aj d (anB b)
@[go_sem] theorem anw (b):(ab b).keep F.l23_PolyValid=false:=_root_.id (by kernel_rfl)
@[go_sem] theorem RQ (b):(ab b).sh F.l23_awake=[]:=_root_.id (by kernel_rfl)
@[go_sem] theorem Ib (b):(ab b).m F.l23_awake=[]:=_root_.id (by kernel_rfl)
@[go_sem] theorem PK (b h d zas):ai R (ab b) h d zas (.fn F.l23_awake [] [])=(ah h [] zas).bind (aD R (ab b) d F.l23_awake):=aj d (Ib b)
@[go_sem] theorem PL (b):(ab b).keep F.l23_awake=false:=_root_.id (by kernel_rfl)
theorem Ic:au.C F.l23_great=some ov:=by kernel_rfl
theorem Ie:au.E F.l23_great=none:=by kernel_rfl
@[go_sem] theorem RR (b):(ab b).sh F.l23_great=[[.o 3 [.o 0 [],.o 5 [.o 2 [],.o 0 [],.o 0 [],.o 0 []]]]]:=_root_.id (by kernel_rfl)
@[go_sem] theorem If (b):(ab b).m F.l23_great=[]:=_root_.id (by kernel_rfl)
@[go_sem] theorem PM (b h d zas):ai R (ab b) h d zas (.fn F.l23_great [] [])=(ah h [] zas).bind (aD R (ab b) d F.l23_great):=aj d (If b)
@[go_sem] theorem Ca (b):(ab b).keep F.l23_great=false:=_root_.id (by kernel_rfl)
theorem ag3:au.C F.r23_Valid=some adJ:=by kernel_rfl
theorem ag4:au.E F.r23_Valid=none:=by kernel_rfl
@[go_sem] theorem ajp (b):(ab b).sh F.r23_Valid=[[.o 0 [],.o 5 [.o 2 [],.o 0 [],.o 2 [],.o 0 []]]]:=_root_.id (by kernel_rfl)
@[go_sem] theorem ag5 (b):(ab b).m F.r23_Valid=[]:=_root_.id (by kernel_rfl)
@[go_sem] theorem aiY (b h d zas):ai R (ab b) h d zas (.fn F.r23_Valid [] [])=(ah h [] zas).bind (aD R (ab b) d F.r23_Valid):=aj d (ag5 b)
@[go_sem] theorem afS (b):(ab b).keep F.r23_Valid=false:=_root_.id (by kernel_rfl)
theorem Ge:au.C F.poly_Valid=some ej:=by kernel_rfl
theorem Gf:au.E F.poly_Valid=none:=by kernel_rfl
@[go_sem] theorem QX (b):(ab b).sh F.poly_Valid=[[.o 0 [],.o 5 [.o 2 [],.o 0 [],.o 2 [],.o 0 []]]]:=_root_.id (by kernel_rfl)
@[go_sem] theorem Gg (b):(ab b).m F.poly_Valid=[]:=_root_.id (by kernel_rfl)
@[go_sem] theorem OY (b h d zas):ai R (ab b) h d zas (.fn F.poly_Valid [] [])=(ah h [] zas).bind (aD R (ab b) d F.poly_Valid):=aj d (Gg b)
@[go_sem] theorem AZ (b):(ab b).keep F.poly_Valid=false:=_root_.id (by kernel_rfl)
theorem DH:au.C F.poly_Degree=some gy:=by kernel_rfl
theorem DI:au.E F.poly_Degree=none:=by kernel_rfl
@[go_sem] theorem PN (b):(ab b).sh F.poly_Degree=[[.o 0 [],.o 5 [.o 2 [],.o 0 [],.o 2 [],.o 0 []]]]:=_root_.id (by kernel_rfl)
@[go_sem] theorem DJ (b):(ab b).m F.poly_Degree=[]:=_root_.id (by kernel_rfl)
@[go_sem] theorem NA (b h d zas):ai R (ab b) h d zas (.fn F.poly_Degree [] [])=(ah h [] zas).bind (aD R (ab b) d F.poly_Degree):=aj d (DJ b)
@[go_sem] theorem yU (b):(ab b).keep F.poly_Degree=false:=_root_.id (by kernel_rfl)
theorem anD:au.C F.r23_Degree=some amH:=by kernel_rfl
theorem anE:au.E F.r23_Degree=none:=by kernel_rfl
@[go_sem] theorem anM (b):(ab b).sh F.r23_Degree=[[.o 0 [],.o 5 [.o 2 [],.o 0 [],.o 2 [],.o 0 []]]]:=_root_.id (by kernel_rfl)
@[go_sem] theorem anF (b):(ab b).m F.r23_Degree=[]:=_root_.id (by kernel_rfl)
@[go_sem] theorem anK (b h d zas):ai R (ab b) h d zas (.fn F.r23_Degree [] [])=(ah h [] zas).bind (aD R (ab b) d F.r23_Degree):=aj d (anF b)
@[go_sem] theorem anC (b):(ab b).keep F.r23_Degree=false:=_root_.id (by kernel_rfl)
theorem Gh:au.C F.poly_Equal=some fF:=by kernel_rfl
theorem Gi:au.E F.poly_Equal=none:=by kernel_rfl
@[go_sem] theorem QY (b):(ab b).sh F.poly_Equal=[[.o 0 [],.o 5 [.o 2 [],.o 0 [],.o 2 [],.o 0 []]],[.o 0 [],.o 5 [.o 2 [],.o 0 [],.o 2 [],.o 0 []]]]:=_root_.id (by kernel_rfl)
@[go_sem] theorem Gj (b):(ab b).m F.poly_Equal=[]:=_root_.id (by kernel_rfl)
@[go_sem] theorem OZ (b h d zas):ai R (ab b) h d zas (.fn F.poly_Equal [] [])=(ah h [] zas).bind (aD R (ab b) d F.poly_Equal):=aj d (Gj b)
@[go_sem] theorem A3 (b):(ab b).keep F.poly_Equal=false:=_root_.id (by kernel_rfl)
theorem ahw:au.C F.r23_Same=some aeG:=by kernel_rfl
theorem ahx:au.E F.r23_Same=none:=by kernel_rfl
@[go_sem] theorem ajJ (b):(ab b).sh F.r23_Same=[[.o 0 [],.o 5 [.o 2 [],.o 0 [],.o 2 [],.o 0 []]],[.o 0 [],.o 5 [.o 2 [],.o 0 [],.o 2 [],.o 0 []]]]:=_root_.id (by kernel_rfl)
@[go_sem] theorem ahy (b):(ab b).m F.r23_Same=[]:=_root_.id (by kernel_rfl)
@[go_sem] theorem ajh (b h d zas):ai R (ab b) h d zas (.fn F.r23_Same [] [])=(ah h [] zas).bind (aD R (ab b) d F.r23_Same):=aj d (ahy b)
@[go_sem] theorem aga (b):(ab b).keep F.r23_Same=false:=_root_.id (by kernel_rfl)
theorem jY:au.C F.slices_ContainsFunc_api_Poly_api_Poly_=some ct:=by kernel_rfl
theorem jZ:au.E F.slices_ContainsFunc_api_Poly_api_Poly_=none:=by kernel_rfl
@[go_sem] theorem ub (b):(ab b).sh F.slices_ContainsFunc_api_Poly_api_Poly_=[[.o 3 [.o 0 [],.o 5 [.o 2 [],.o 0 [],.o 0 [],.o 0 []]]],[]]:=_root_.id (by kernel_rfl)
@[go_sem] theorem j1 (b):(ab b).m F.slices_ContainsFunc_api_Poly_api_Poly_=[]:=_root_.id (by kernel_rfl)
@[go_sem] theorem sW (b h d zas):ai R (ab b) h d zas (.fn F.slices_ContainsFunc_api_Poly_api_Poly_ [] [])=(ah h [] zas).bind (aD R (ab b) d F.slices_ContainsFunc_api_Poly_api_Poly_):=aj d (j1 b)
@[go_sem] theorem iU (b):(ab b).keep F.slices_ContainsFunc_api_Poly_api_Poly_=false:=_root_.id (by kernel_rfl)
theorem DN:au.C F.l23_great_1=some gz:=by kernel_rfl
theorem DO:au.E F.l23_great_1=none:=by kernel_rfl
@[go_sem] theorem PO (b):(ab b).sh F.l23_great_1=[[.o 0 [],.o 5 [.o 2 [],.o 0 [],.o 2 [],.o 0 []]]]:=_root_.id (by kernel_rfl)
@[go_sem] theorem vN (b):(ab b).m F.l23_great_1=[]:=_root_.id (by kernel_rfl)
@[go_sem] theorem NB (b h d zas):ai R (ab b) h d zas (.fn F.l23_great_1 [] [])=(ah h [] zas).bind (aD R (ab b) d F.l23_great_1):=aj d (vN b)
@[go_sem] theorem yX (b):(ab b).keep F.l23_great_1=false:=_root_.id (by kernel_rfl)
theorem j3:au.C F.slices_ContainsFunc_api_Term_api_Term_=some cu:=by kernel_rfl
theorem j5:au.E F.slices_ContainsFunc_api_Term_api_Term_=none:=by kernel_rfl
@[go_sem] theorem ud (b):(ab b).sh F.slices_ContainsFunc_api_Term_api_Term_=[[.o 5 [.o 2 [],.o 0 [],.o 2 [],.o 0 []]],[]]:=_root_.id (by kernel_rfl)
@[go_sem] theorem j6 (b):(ab b).m F.slices_ContainsFunc_api_Term_api_Term_=[]:=_root_.id (by kernel_rfl)
@[go_sem] theorem s6 (b h d zas):ai R (ab b) h d zas (.fn F.slices_ContainsFunc_api_Term_api_Term_ [] [])=(ah h [] zas).bind (aD R (ab b) d F.slices_ContainsFunc_api_Term_api_Term_):=aj d (j6 b)
@[go_sem] theorem iV (b):(ab b).keep F.slices_ContainsFunc_api_Term_api_Term_=false:=_root_.id (by kernel_rfl)
theorem A7:au.C F.l23_great_1_1=some gL:=by kernel_rfl
theorem A8:au.E F.l23_great_1_1=none:=by kernel_rfl
@[go_sem] theorem NC (b):(ab b).sh F.l23_great_1_1=[[.o 2 [],.o 0 [],.o 2 [],.o 0 []]]:=_root_.id (by kernel_rfl)
@[go_sem] theorem so (b):(ab b).m F.l23_great_1_1=[]:=_root_.id (by kernel_rfl)
@[go_sem] theorem LE (b h d zas):ai R (ab b) h d zas (.fn F.l23_great_1_1 [] [])=(ah h [] zas).bind (aD R (ab b) d F.l23_great_1_1):=aj d (so b)
@[go_sem] theorem w9 (b):(ab b).keep F.l23_great_1_1=false:=_root_.id (by kernel_rfl)
theorem Cb:au.C F.dyadic_Valid=some cM:=by kernel_rfl
theorem Cc:au.E F.dyadic_Valid=none:=by kernel_rfl
@[go_sem] theorem O0 (b):(ab b).sh F.dyadic_Valid=[[.o 0 [],.o 2 [],.o 0 []]]:=_root_.id (by kernel_rfl)
@[go_sem] theorem Cd (b):(ab b).m F.dyadic_Valid=[]:=_root_.id (by kernel_rfl)
@[go_sem] theorem ML (b h d zas):ai R (ab b) h d zas (.fn F.dyadic_Valid [] [])=(ah h [] zas).bind (aD R (ab b) d F.dyadic_Valid):=aj d (Cd b)
@[go_sem] theorem yc (b):(ab b).keep F.dyadic_Valid=false:=_root_.id (by kernel_rfl)
theorem gg:au.C F.poly_collector_add=some ck:=by kernel_rfl
theorem gh:au.E F.poly_collector_add=none:=by kernel_rfl
@[go_sem] theorem tF (b):(ab b).sh F.poly_collector_add=[[],[.o 2 []],[.o 0 [],.o 2 [],.o 0 []]]:=_root_.id (by kernel_rfl)
@[go_sem] theorem gj (b):(ab b).m F.poly_collector_add=[]:=_root_.id (by kernel_rfl)
@[go_sem] theorem HM (b h d zas):ai R (ab b) h d zas (.fn F.poly_collector_add [] [])=(ah h [] zas).bind (aD R (ab b) d F.poly_collector_add):=aj d (gj b)
@[go_sem] theorem dt (b):(ab b).keep F.poly_collector_add=false:=_root_.id (by kernel_rfl)
theorem ag6:au.C F.r02_Valid=some adr:=by kernel_rfl
theorem ag7:au.E F.r02_Valid=none:=by kernel_rfl
@[go_sem] theorem ajq (b):(ab b).sh F.r02_Valid=[[.o 0 [],.o 2 [],.o 0 []]]:=_root_.id (by kernel_rfl)
@[go_sem] theorem ag8 (b):(ab b).m F.r02_Valid=[]:=_root_.id (by kernel_rfl)
@[go_sem] theorem aiZ (b h d zas):ai R (ab b) h d zas (.fn F.r02_Valid [] [])=(ah h [] zas).bind (aD R (ab b) d F.r02_Valid):=aj d (ag8 b)
@[go_sem] theorem afT (b):(ab b).keep F.r02_Valid=false:=_root_.id (by kernel_rfl)
@[go_sem] theorem Gs (b):(ab b).sh F.slices_Clone_int_int_=[[.o 2 []]]:=_root_.id (by kernel_rfl)
@[go_sem] theorem rR (b):(ab b).m F.slices_Clone_int_int_=[]:=_root_.id (by kernel_rfl)
@[go_sem] theorem DP (b h d zas):ai R (ab b) h d zas (.fn F.slices_Clone_int_int_ [] [])=(ah h [] zas).bind (aD R (ab b) d F.slices_Clone_int_int_):=aj d (rR b)
@[go_sem] theorem DQ (b):(ab b).keep F.slices_Clone_int_int_=false:=_root_.id (by kernel_rfl)
theorem Gt:au.C F.dyadic_Add=some ic:=by kernel_rfl
theorem Gu:au.E F.dyadic_Add=none:=by kernel_rfl
@[go_sem] theorem Q1 (b):(ab b).sh F.dyadic_Add=[[.o 0 [],.o 2 [],.o 0 []],[.o 0 [],.o 2 [],.o 0 []]]:=_root_.id (by kernel_rfl)
@[go_sem] theorem Gv (b):(ab b).m F.dyadic_Add=[]:=_root_.id (by kernel_rfl)
@[go_sem] theorem O3 (b h d zas):ai R (ab b) h d zas (.fn F.dyadic_Add [] [])=(ah h [] zas).bind (aD R (ab b) d F.dyadic_Add):=aj d (Gv b)
@[go_sem] theorem Bb (b):(ab b).keep F.dyadic_Add=false:=_root_.id (by kernel_rfl)
theorem ahC:au.C F.r23_term=some adO:=by kernel_rfl
theorem ahD:au.E F.r23_term=none:=by kernel_rfl
@[go_sem] theorem ajL (b):(ab b).sh F.r23_term=[[],[.o 2 [],.o 0 [],.o 2 [],.o 0 []]]:=_root_.id (by kernel_rfl)
@[go_sem] theorem ahE (b):(ab b).m F.r23_term=[]:=_root_.id (by kernel_rfl)
@[go_sem] theorem ajk (b h d zas):ai R (ab b) h d zas (.fn F.r23_term [] [])=(ah h [] zas).bind (aD R (ab b) d F.r23_term):=aj d (ahE b)
@[go_sem] theorem agd (b):(ab b).keep F.r23_term=false:=_root_.id (by kernel_rfl)
theorem age:au.C F.r23_Compare=some adH:=by kernel_rfl
theorem agf:au.E F.r23_Compare=none:=by kernel_rfl
@[go_sem] theorem ai0 (b):(ab b).sh F.r23_Compare=[[.o 2 []],[.o 2 []]]:=_root_.id (by kernel_rfl)
@[go_sem] theorem agh (b):(ab b).m F.r23_Compare=[]:=_root_.id (by kernel_rfl)
@[go_sem] theorem aiu (b h d zas):ai R (ab b) h d zas (.fn F.r23_Compare [] [])=(ah h [] zas).bind (aD R (ab b) d F.r23_Compare):=aj d (agh b)
@[go_sem] theorem afE (b):(ab b).keep F.r23_Compare=false:=_root_.id (by kernel_rfl)
theorem oJ:au.C F.slices_ContainsFunc_int_int_=some dS:=by kernel_rfl
theorem oK:au.E F.slices_ContainsFunc_int_int_=none:=by kernel_rfl
@[go_sem] theorem Al (b):(ab b).sh F.slices_ContainsFunc_int_int_=[[.o 2 []],[]]:=_root_.id (by kernel_rfl)
@[go_sem] theorem oL (b):(ab b).m F.slices_ContainsFunc_int_int_=[]:=_root_.id (by kernel_rfl)
@[go_sem] theorem yI (b h d zas):ai R (ab b) h d zas (.fn F.slices_ContainsFunc_int_int_ [] [])=(ah h [] zas).bind (aD R (ab b) d F.slices_ContainsFunc_int_int_):=aj d (oL b)
@[go_sem] theorem mM (b):(ab b).keep F.slices_ContainsFunc_int_int_=false:=_root_.id (by kernel_rfl)
theorem Ce:au.C F.poly_Valid_1=some iv:=by kernel_rfl
theorem Cf:au.E F.poly_Valid_1=none:=by kernel_rfl
@[go_sem] theorem O4 (b):(ab b).sh F.poly_Valid_1=[]:=_root_.id (by kernel_rfl)
@[go_sem] theorem tG (b):(ab b).m F.poly_Valid_1=[]:=_root_.id (by kernel_rfl)
@[go_sem] theorem MM (b h d zas):ai R (ab b) h d zas (.fn F.poly_Valid_1 [] [])=(ah h [] zas).bind (aD R (ab b) d F.poly_Valid_1):=aj d (tG b)
@[go_sem] theorem yd (b):(ab b).keep F.poly_Valid_1=false:=_root_.id (by kernel_rfl)
theorem DR:au.C F.poly_degree=some lT:=by kernel_rfl
theorem DS:au.E F.poly_degree=none:=by kernel_rfl
@[go_sem] theorem PP (b):(ab b).sh F.poly_degree=[[.o 2 []]]:=_root_.id (by kernel_rfl)
@[go_sem] theorem DT (b):(ab b).m F.poly_degree=[]:=_root_.id (by kernel_rfl)
@[go_sem] theorem ND (b h d zas):ai R (ab b) h d zas (.fn F.poly_degree [] [])=(ah h [] zas).bind (aD R (ab b) d F.poly_degree):=aj d (DT b)
@[go_sem] theorem yY (b):(ab b).keep F.poly_degree=false:=_root_.id (by kernel_rfl)
theorem Gw:au.C F.poly_order=some ku:=by kernel_rfl
theorem Gx:au.E F.poly_order=none:=by kernel_rfl
@[go_sem] theorem Q2 (b):(ab b).sh F.poly_order=[[.o 2 []],[.o 2 []]]:=_root_.id (by kernel_rfl)
@[go_sem] theorem Gy (b):(ab b).m F.poly_order=[]:=_root_.id (by kernel_rfl)
@[go_sem] theorem O5 (b h d zas):ai R (ab b) h d zas (.fn F.poly_order [] [])=(ah h [] zas).bind (aD R (ab b) d F.poly_order):=aj d (Gy b)
@[go_sem] theorem Bc (b):(ab b).keep F.poly_order=false:=_root_.id (by kernel_rfl)
theorem ah4:au.C F.r23_sum=some afa:=by kernel_rfl
theorem ah5:au.E F.r23_sum=none:=by kernel_rfl
@[go_sem] theorem ajR (b):(ab b).sh F.r23_sum=[[.o 2 []]]:=_root_.id (by kernel_rfl)
@[go_sem] theorem ah6 (b):(ab b).m F.r23_sum=[]:=_root_.id (by kernel_rfl)
@[go_sem] theorem ajt (b h d zas):ai R (ab b) h d zas (.fn F.r23_sum [] [])=(ah h [] zas).bind (aD R (ab b) d F.r23_sum):=aj d (ah6 b)
@[go_sem] theorem agG (b):(ab b).keep F.r23_sum=false:=_root_.id (by kernel_rfl)
theorem eR:au.C F.slices_EqualFunc_api_Term_Sapi_Term_api_Term_api_Term_=some aL:=by kernel_rfl
theorem eS:au.E F.slices_EqualFunc_api_Term_Sapi_Term_api_Term_api_Term_=none:=by kernel_rfl
@[go_sem] theorem pd (b):(ab b).sh F.slices_EqualFunc_api_Term_Sapi_Term_api_Term_api_Term_=[[.o 5 [.o 2 [],.o 0 [],.o 2 [],.o 0 []]],[.o 5 [.o 2 [],.o 0 [],.o 2 [],.o 0 []]],[]]:=_root_.id (by kernel_rfl)
@[go_sem] theorem eU (b):(ab b).m F.slices_EqualFunc_api_Term_Sapi_Term_api_Term_api_Term_=[]:=_root_.id (by kernel_rfl)
@[go_sem] theorem oR (b h d zas):ai R (ab b) h d zas (.fn F.slices_EqualFunc_api_Term_Sapi_Term_api_Term_api_Term_ [] [])=(ah h [] zas).bind (aD R (ab b) d F.slices_EqualFunc_api_Term_Sapi_Term_api_Term_api_Term_):=aj d (eU b)
@[go_sem] theorem eg (b):(ab b).keep F.slices_EqualFunc_api_Term_Sapi_Term_api_Term_api_Term_=false:=_root_.id (by kernel_rfl)
theorem Cg:au.C F.poly_Equal_1=some iw:=by kernel_rfl
theorem Ch:au.E F.poly_Equal_1=none:=by kernel_rfl
@[go_sem] theorem O6 (b):(ab b).sh F.poly_Equal_1=[[.o 2 [],.o 0 [],.o 2 [],.o 0 []],[.o 2 [],.o 0 [],.o 2 [],.o 0 []]]:=_root_.id (by kernel_rfl)
@[go_sem] theorem Ci (b):(ab b).m F.poly_Equal_1=[]:=_root_.id (by kernel_rfl)
@[go_sem] theorem MN (b h d zas):ai R (ab b) h d zas (.fn F.poly_Equal_1 [] [])=(ah h [] zas).bind (aD R (ab b) d F.poly_Equal_1):=aj d (Ci b)
@[go_sem] theorem ye (b):(ab b).keep F.poly_Equal_1=false:=_root_.id (by kernel_rfl)
theorem rS:au.C F.slices_Equal_int_int_=some db:=by kernel_rfl
theorem rT:au.E F.slices_Equal_int_int_=none:=by kernel_rfl
@[go_sem] theorem Gz (b):(ab b).sh F.slices_Equal_int_int_=[[.o 2 []],[.o 2 []]]:=_root_.id (by kernel_rfl)
@[go_sem] theorem rU (b):(ab b).m F.slices_Equal_int_int_=[]:=_root_.id (by kernel_rfl)
@[go_sem] theorem DU (b h d zas):ai R (ab b) h d zas (.fn F.slices_Equal_int_int_ [] [])=(ah h [] zas).bind (aD R (ab b) d F.slices_Equal_int_int_):=aj d (rU b)
@[go_sem] theorem qA (b):(ab b).keep F.slices_Equal_int_int_=false:=_root_.id (by kernel_rfl)
theorem GA:au.C F.dyadic_Cmp=some dE:=by kernel_rfl
theorem GB:au.E F.dyadic_Cmp=none:=by kernel_rfl
@[go_sem] theorem Q3 (b):(ab b).sh F.dyadic_Cmp=[[.o 0 [],.o 2 [],.o 0 []],[.o 0 [],.o 2 [],.o 0 []]]:=_root_.id (by kernel_rfl)
@[go_sem] theorem GC (b):(ab b).m F.dyadic_Cmp=[]:=_root_.id (by kernel_rfl)
@[go_sem] theorem O7 (b h d zas):ai R (ab b) h d zas (.fn F.dyadic_Cmp [] [])=(ah h [] zas).bind (aD R (ab b) d F.dyadic_Cmp):=aj d (GC b)
@[go_sem] theorem Bd (b):(ab b).keep F.dyadic_Cmp=false:=_root_.id (by kernel_rfl)
theorem agH:au.C F.r23_number=some adN:=by kernel_rfl
theorem agI:au.E F.r23_number=none:=by kernel_rfl
@[go_sem] theorem ajl (b):(ab b).sh F.r23_number=[[.o 0 [],.o 2 [],.o 0 []],[.o 0 [],.o 2 [],.o 0 []]]:=_root_.id (by kernel_rfl)
@[go_sem] theorem agJ (b):(ab b).m F.r23_number=[]:=_root_.id (by kernel_rfl)
@[go_sem] theorem aiT (b h d zas):ai R (ab b) h d zas (.fn F.r23_number [] [])=(ah h [] zas).bind (aD R (ab b) d F.r23_number):=aj d (agJ b)
@[go_sem] theorem afP (b):(ab b).keep F.r23_number=false:=_root_.id (by kernel_rfl)
theorem kY:au.C F.slices_IndexFunc_api_Poly_api_Poly_=some cJ:=by kernel_rfl
theorem kZ:au.E F.slices_IndexFunc_api_Poly_api_Poly_=none:=by kernel_rfl
@[go_sem] theorem kH (b):(ab b).sh F.slices_IndexFunc_api_Poly_api_Poly_=[[.o 3 [.o 0 [],.o 5 [.o 2 [],.o 0 [],.o 0 [],.o 0 []]]],[]]:=_root_.id (by kernel_rfl)
@[go_sem] theorem eY (b):(ab b).m F.slices_IndexFunc_api_Poly_api_Poly_=[]:=_root_.id (by kernel_rfl)
@[go_sem] theorem uR (b h d zas):ai R (ab b) h d zas (.fn F.slices_IndexFunc_api_Poly_api_Poly_ [] [])=(ah h [] zas).bind (aD R (ab b) d F.slices_IndexFunc_api_Poly_api_Poly_):=aj d (eY b)
@[go_sem] theorem j7 (b):(ab b).keep F.slices_IndexFunc_api_Poly_api_Poly_=false:=_root_.id (by kernel_rfl)
theorem lg:au.C F.slices_IndexFunc_api_Term_api_Term_=some cK:=by kernel_rfl
theorem lh:au.E F.slices_IndexFunc_api_Term_api_Term_=none:=by kernel_rfl
@[go_sem] theorem kJ (b):(ab b).sh F.slices_IndexFunc_api_Term_api_Term_=[[.o 5 [.o 2 [],.o 0 [],.o 2 [],.o 0 []]],[]]:=_root_.id (by kernel_rfl)
@[go_sem] theorem eZ (b):(ab b).m F.slices_IndexFunc_api_Term_api_Term_=[]:=_root_.id (by kernel_rfl)
@[go_sem] theorem uS (b h d zas):ai R (ab b) h d zas (.fn F.slices_IndexFunc_api_Term_api_Term_ [] [])=(ah h [] zas).bind (aD R (ab b) d F.slices_IndexFunc_api_Term_api_Term_):=aj d (eZ b)
@[go_sem] theorem j8 (b):(ab b).keep F.slices_IndexFunc_api_Term_api_Term_=false:=_root_.id (by kernel_rfl)
theorem y5:au.C F.dyadic_inRange=some cI:=by kernel_rfl
theorem y6:au.E F.dyadic_inRange=none:=by kernel_rfl
@[go_sem] theorem MO (b):(ab b).sh F.dyadic_inRange=[[.o 0 [],.o 2 [],.o 0 []]]:=_root_.id (by kernel_rfl)
@[go_sem] theorem y7 (b):(ab b).m F.dyadic_inRange=[]:=_root_.id (by kernel_rfl)
@[go_sem] theorem KN (b h d zas):ai R (ab b) h d zas (.fn F.dyadic_inRange [] [])=(ah h [] zas).bind (aD R (ab b) d F.dyadic_inRange):=aj d (y7 b)
@[go_sem] theorem vU (b):(ab b).keep F.dyadic_inRange=false:=_root_.id (by kernel_rfl)
theorem DV:au.C F.dyadic_size=some lU:=by kernel_rfl
theorem DW:au.E F.dyadic_size=none:=by kernel_rfl
@[go_sem] theorem PR (b):(ab b).sh F.dyadic_size=[[.o 2 []]]:=_root_.id (by kernel_rfl)
@[go_sem] theorem DX (b):(ab b).m F.dyadic_size=[]:=_root_.id (by kernel_rfl)
@[go_sem] theorem NE (b h d zas):ai R (ab b) h d zas (.fn F.dyadic_size [] [])=(ah h [] zas).bind (aD R (ab b) d F.dyadic_size):=aj d (DX b)
@[go_sem] theorem y8 (b):(ab b).keep F.dyadic_size=false:=_root_.id (by kernel_rfl)
theorem ze:au.C F.dyadic_checked=some fN:=by kernel_rfl
theorem zf:au.E F.dyadic_checked=none:=by kernel_rfl
@[go_sem] theorem MP (b):(ab b).sh F.dyadic_checked=[[.o 0 [],.o 2 [],.o 0 []]]:=_root_.id (by kernel_rfl)
@[go_sem] theorem zg (b):(ab b).m F.dyadic_checked=[]:=_root_.id (by kernel_rfl)
@[go_sem] theorem KO (b h d zas):ai R (ab b) h d zas (.fn F.dyadic_checked [] [])=(ah h [] zas).bind (aD R (ab b) d F.dyadic_checked):=aj d (zg b)
@[go_sem] theorem vV (b):(ab b).keep F.dyadic_checked=false:=_root_.id (by kernel_rfl)
theorem xc:au.C F.dyadic_canonical=some eC:=by kernel_rfl
theorem xd:au.E F.dyadic_canonical=none:=by kernel_rfl
@[go_sem] theorem KP (b):(ab b).sh F.dyadic_canonical=[[],[.o 2 []],[]]:=_root_.id (by kernel_rfl)
@[go_sem] theorem xe (b):(ab b).m F.dyadic_canonical=[]:=_root_.id (by kernel_rfl)
@[go_sem] theorem IJ (b h d zas):ai R (ab b) h d zas (.fn F.dyadic_canonical [] [])=(ah h [] zas).bind (aD R (ab b) d F.dyadic_canonical):=aj d (xe b)
@[go_sem] theorem tH (b):(ab b).keep F.dyadic_canonical=false:=_root_.id (by kernel_rfl)
theorem gD:au.C F.slices_BinarySearchFunc_api_Term_api_Term_Sint_=some be:=by kernel_rfl
theorem gE:au.E F.slices_BinarySearchFunc_api_Term_api_Term_Sint_=none:=by kernel_rfl
@[go_sem] theorem cO (b):(ab b).sh F.slices_BinarySearchFunc_api_Term_api_Term_Sint_=[[.o 5 [.o 2 [],.o 0 [],.o 2 [],.o 0 []]],[.o 2 []],[]]:=_root_.id (by kernel_rfl)
@[go_sem] theorem cW (b):(ab b).m F.slices_BinarySearchFunc_api_Term_api_Term_Sint_=[3,0,0]:=_root_.id (by kernel_rfl)
@[go_sem] theorem cG (b):(ab b).keep F.slices_BinarySearchFunc_api_Term_api_Term_Sint_=false:=_root_.id (by kernel_rfl)
theorem sN:au.C F.poly_collector_add_1=some eB:=by kernel_rfl
theorem sO:au.E F.poly_collector_add_1=none:=by kernel_rfl
@[go_sem] theorem HN (b):(ab b).sh F.poly_collector_add_1=[[.o 2 [],.o 0 [],.o 2 [],.o 0 []],[.o 2 []]]:=_root_.id (by kernel_rfl)
@[go_sem] theorem sP (b):(ab b).m F.poly_collector_add_1=[]:=_root_.id (by kernel_rfl)
@[go_sem] theorem ES (b h d zas):ai R (ab b) h d zas (.fn F.poly_collector_add_1 [] [])=(ah h [] zas).bind (aD R (ab b) d F.poly_collector_add_1):=aj d (sP b)
@[go_sem] theorem qM (b):(ab b).keep F.poly_collector_add_1=false:=_root_.id (by kernel_rfl)
@[go_sem] theorem fA (b):(ab b).sh F.slices_Insert_api_Term_api_Term_=[[],[],[.o 5 [.o 2 [],.o 0 [],.o 2 [],.o 0 []]]]:=_root_.id (by kernel_rfl)
@[go_sem] theorem fR (b):(ab b).m F.slices_Insert_api_Term_api_Term_=[2,0,0]:=_root_.id (by kernel_rfl)
@[go_sem] theorem fe (b):(ab b).keep F.slices_Insert_api_Term_api_Term_=false:=_root_.id (by kernel_rfl)
theorem D3:au.C F.poly_copied=some lV:=by kernel_rfl
theorem D4:au.E F.poly_copied=none:=by kernel_rfl
@[go_sem] theorem PT (b):(ab b).sh F.poly_copied=[[.o 0 [],.o 2 [],.o 0 []]]:=_root_.id (by kernel_rfl)
@[go_sem] theorem D5 (b):(ab b).m F.poly_copied=[]:=_root_.id (by kernel_rfl)
@[go_sem] theorem NG (b h d zas):ai R (ab b) h d zas (.fn F.poly_copied [] [])=(ah h [] zas).bind (aD R (ab b) d F.poly_copied):=aj d (D5 b)
@[go_sem] theorem zi (b):(ab b).keep F.poly_copied=false:=_root_.id (by kernel_rfl)
theorem mA:au.C F.slices_Delete_api_Term_api_Term_=some bZ:=by kernel_rfl
theorem mB:au.E F.slices_Delete_api_Term_api_Term_=none:=by kernel_rfl
@[go_sem] theorem l7 (b):(ab b).sh F.slices_Delete_api_Term_api_Term_=[]:=_root_.id (by kernel_rfl)
@[go_sem] theorem mC (b):(ab b).m F.slices_Delete_api_Term_api_Term_=[2,0,0]:=_root_.id (by kernel_rfl)
@[go_sem] theorem fg (b):(ab b).keep F.slices_Delete_api_Term_api_Term_=false:=_root_.id (by kernel_rfl)
theorem ahF:au.C F.r02_bits=some aeT:=by kernel_rfl
theorem ahG:au.E F.r02_bits=none:=by kernel_rfl
@[go_sem] theorem ajM (b):(ab b).sh F.r02_bits=[[.o 2 []]]:=_root_.id (by kernel_rfl)
@[go_sem] theorem ahH (b):(ab b).m F.r02_bits=[]:=_root_.id (by kernel_rfl)
@[go_sem] theorem ajm (b h d zas):ai R (ab b) h d zas (.fn F.r02_bits [] [])=(ah h [] zas).bind (aD R (ab b) d F.r02_bits):=aj d (ahH b)
@[go_sem] theorem agi (b):(ab b).keep F.r02_bits=false:=_root_.id (by kernel_rfl)
theorem GG:au.C F.dyadic_sum=some dF:=by kernel_rfl
theorem GH:au.E F.dyadic_sum=none:=by kernel_rfl
@[go_sem] theorem Q5 (b):(ab b).sh F.dyadic_sum=[[.o 0 [],.o 2 [],.o 0 []],[.o 0 [],.o 2 [],.o 0 []]]:=_root_.id (by kernel_rfl)
@[go_sem] theorem GI (b):(ab b).m F.dyadic_sum=[]:=_root_.id (by kernel_rfl)
@[go_sem] theorem O9 (b h d zas):ai R (ab b) h d zas (.fn F.dyadic_sum [] [])=(ah h [] zas).bind (aD R (ab b) d F.dyadic_sum):=aj d (GI b)
@[go_sem] theorem Bf (b):(ab b).keep F.dyadic_sum=false:=_root_.id (by kernel_rfl)
theorem qj:au.C F.slices_IndexFunc_int_int_=some eM:=by kernel_rfl
theorem qk:au.E F.slices_IndexFunc_int_int_=none:=by kernel_rfl
@[go_sem] theorem pz (b):(ab b).sh F.slices_IndexFunc_int_int_=[[.o 2 []],[]]:=_root_.id (by kernel_rfl)
@[go_sem] theorem jy (b):(ab b).m F.slices_IndexFunc_int_int_=[]:=_root_.id (by kernel_rfl)
@[go_sem] theorem Bg (b h d zas):ai R (ab b) h d zas (.fn F.slices_IndexFunc_int_int_ [] [])=(ah h [] zas).bind (aD R (ab b) d F.slices_IndexFunc_int_int_):=aj d (jy b)
@[go_sem] theorem oM (b):(ab b).keep F.slices_IndexFunc_int_int_=false:=_root_.id (by kernel_rfl)
theorem xf:au.C F.cmp_Compare_int_=some dx:=by kernel_rfl
theorem xg:au.E F.cmp_Compare_int_=none:=by kernel_rfl
@[go_sem] theorem KQ (b):(ab b).sh F.cmp_Compare_int_=[]:=_root_.id (by kernel_rfl)
@[go_sem] theorem xh (b):(ab b).m F.cmp_Compare_int_=[]:=_root_.id (by kernel_rfl)
@[go_sem] theorem IK (b h d zas):ai R (ab b) h d zas (.fn F.cmp_Compare_int_ [] [])=(ah h [] zas).bind (aD R (ab b) d F.cmp_Compare_int_):=aj d (xh b)
@[go_sem] theorem tI (b):(ab b).keep F.cmp_Compare_int_=false:=_root_.id (by kernel_rfl)
theorem qN:au.C F.slices_Compare_int_int_=some cE:=by kernel_rfl
theorem qO:au.E F.slices_Compare_int_int_=none:=by kernel_rfl
@[go_sem] theorem D6 (b):(ab b).sh F.slices_Compare_int_int_=[[.o 2 []],[.o 2 []]]:=_root_.id (by kernel_rfl)
@[go_sem] theorem qP (b):(ab b).m F.slices_Compare_int_int_=[]:=_root_.id (by kernel_rfl)
@[go_sem] theorem Ck (b h d zas):ai R (ab b) h d zas (.fn F.slices_Compare_int_int_ [] [])=(ah h [] zas).bind (aD R (ab b) d F.slices_Compare_int_int_):=aj d (qP b)
@[go_sem] theorem pA (b):(ab b).keep F.slices_Compare_int_int_=false:=_root_.id (by kernel_rfl)
theorem D7:au.C F.dyadic_Sign=some eN:=by kernel_rfl
theorem D8:au.E F.dyadic_Sign=none:=by kernel_rfl
@[go_sem] theorem PU (b):(ab b).sh F.dyadic_Sign=[[.o 0 [],.o 2 [],.o 0 []]]:=_root_.id (by kernel_rfl)
@[go_sem] theorem D9 (b):(ab b).m F.dyadic_Sign=[]:=_root_.id (by kernel_rfl)
@[go_sem] theorem NH (b h d zas):ai R (ab b) h d zas (.fn F.dyadic_Sign [] [])=(ah h [] zas).bind (aD R (ab b) d F.dyadic_Sign):=aj d (D9 b)
@[go_sem] theorem zj (b):(ab b).keep F.dyadic_Sign=false:=_root_.id (by kernel_rfl)
theorem zk:au.C F.dyadic_compare=some ef:=by kernel_rfl
theorem zm:au.E F.dyadic_compare=none:=by kernel_rfl
@[go_sem] theorem MQ (b):(ab b).sh F.dyadic_compare=[[.o 0 [],.o 2 [],.o 0 []],[.o 0 [],.o 2 [],.o 0 []]]:=_root_.id (by kernel_rfl)
@[go_sem] theorem zo (b):(ab b).m F.dyadic_compare=[]:=_root_.id (by kernel_rfl)
@[go_sem] theorem KR (b h d zas):ai R (ab b) h d zas (.fn F.dyadic_compare [] [])=(ah h [] zas).bind (aD R (ab b) d F.dyadic_compare):=aj d (zo b)
@[go_sem] theorem vW (b):(ab b).keep F.dyadic_compare=false:=_root_.id (by kernel_rfl)
theorem oZ:au.C F.slices_Clone_uint32_uint32_=some cN:=by kernel_rfl
theorem o5:au.E F.slices_Clone_uint32_uint32_=none:=by kernel_rfl
@[go_sem] theorem Bh (b):(ab b).sh F.slices_Clone_uint32_uint32_=[[.o 2 []]]:=_root_.id (by kernel_rfl)
@[go_sem] theorem o6 (b):(ab b).m F.slices_Clone_uint32_uint32_=[]:=_root_.id (by kernel_rfl)
@[go_sem] theorem zp (b h d zas):ai R (ab b) h d zas (.fn F.slices_Clone_uint32_uint32_ [] [])=(ah h [] zas).bind (aD R (ab b) d F.slices_Clone_uint32_uint32_):=aj d (o6 b)
@[go_sem] theorem nn (b):(ab b).keep F.slices_Clone_uint32_uint32_=false:=_root_.id (by kernel_rfl)
theorem Cm:au.C F.natural_Bits=some iz:=by kernel_rfl
theorem Cn:au.E F.natural_Bits=none:=by kernel_rfl
@[go_sem] theorem Pa (b):(ab b).sh F.natural_Bits=[[.o 2 []]]:=_root_.id (by kernel_rfl)
@[go_sem] theorem Co (b):(ab b).m F.natural_Bits=[]:=_root_.id (by kernel_rfl)
@[go_sem] theorem MR (b h d zas):ai R (ab b) h d zas (.fn F.natural_Bits [] [])=(ah h [] zas).bind (aD R (ab b) d F.natural_Bits):=aj d (Co b)
@[go_sem] theorem yf (b):(ab b).keep F.natural_Bits=false:=_root_.id (by kernel_rfl)
theorem Cp:au.C F.natural_long=some kR:=by kernel_rfl
theorem Cq:au.E F.natural_long=none:=by kernel_rfl
@[go_sem] theorem Pb (b):(ab b).sh F.natural_long=[[.o 2 [.o 2 []]]]:=_root_.id (by kernel_rfl)
@[go_sem] theorem Cr (b):(ab b).m F.natural_long=[]:=_root_.id (by kernel_rfl)
@[go_sem] theorem MS (b h d zas):ai R (ab b) h d zas (.fn F.natural_long [] [])=(ah h [] zas).bind (aD R (ab b) d F.natural_long):=aj d (Cr b)
@[go_sem] theorem yg (b):(ab b).keep F.natural_long=false:=_root_.id (by kernel_rfl)
theorem Cs:au.C F.natural_done=some iC:=by kernel_rfl
theorem Ct:au.E F.natural_done=none:=by kernel_rfl
@[go_sem] theorem Pc (b):(ab b).sh F.natural_done=[[.o 2 []]]:=_root_.id (by kernel_rfl)
@[go_sem] theorem Cu (b):(ab b).m F.natural_done=[]:=_root_.id (by kernel_rfl)
@[go_sem] theorem MT (b h d zas):ai R (ab b) h d zas (.fn F.natural_done [] [])=(ah h [] zas).bind (aD R (ab b) d F.natural_done):=aj d (Cu b)
@[go_sem] theorem yh (b):(ab b).keep F.natural_done=false:=_root_.id (by kernel_rfl)
theorem Cv:au.C F.natural_trim=some kS:=by kernel_rfl
theorem Cw:au.E F.natural_trim=none:=by kernel_rfl
@[go_sem] theorem Pd (b):(ab b).sh F.natural_trim=[[.o 2 []]]:=_root_.id (by kernel_rfl)
@[go_sem] theorem Cx (b):(ab b).m F.natural_trim=[]:=_root_.id (by kernel_rfl)
@[go_sem] theorem MU (b h d zas):ai R (ab b) h d zas (.fn F.natural_trim [] [])=(ah h [] zas).bind (aD R (ab b) d F.natural_trim):=aj d (Cx b)
@[go_sem] theorem yi (b):(ab b).keep F.natural_trim=false:=_root_.id (by kernel_rfl)
theorem zt:au.C F.dyadic_trimmed=some iY:=by kernel_rfl
theorem zu:au.E F.dyadic_trimmed=none:=by kernel_rfl
@[go_sem] theorem MV (b):(ab b).sh F.dyadic_trimmed=[[.o 2 []]]:=_root_.id (by kernel_rfl)
@[go_sem] theorem zz (b):(ab b).m F.dyadic_trimmed=[]:=_root_.id (by kernel_rfl)
@[go_sem] theorem KS (b h d zas):ai R (ab b) h d zas (.fn F.dyadic_trimmed [] [])=(ah h [] zas).bind (aD R (ab b) d F.dyadic_trimmed):=aj d (zz b)
@[go_sem] theorem vX (b):(ab b).keep F.dyadic_trimmed=false:=_root_.id (by kernel_rfl)
theorem GJ:au.C F.dyadic_low=some mV:=by kernel_rfl
theorem GK:au.E F.dyadic_low=none:=by kernel_rfl
@[go_sem] theorem Q6 (b):(ab b).sh F.dyadic_low=[[.o 2 []]]:=_root_.id (by kernel_rfl)
@[go_sem] theorem GL (b):(ab b).m F.dyadic_low=[]:=_root_.id (by kernel_rfl)
@[go_sem] theorem Pe (b h d zas):ai R (ab b) h d zas (.fn F.dyadic_low [] [])=(ah h [] zas).bind (aD R (ab b) d F.dyadic_low):=aj d (GL b)
@[go_sem] theorem Bi (b):(ab b).keep F.dyadic_low=false:=_root_.id (by kernel_rfl)
theorem Ed:au.C F.natural_Shr=some gA:=by kernel_rfl
theorem Ee:au.E F.natural_Shr=none:=by kernel_rfl
@[go_sem] theorem PW (b):(ab b).sh F.natural_Shr=[[.o 2 []],[]]:=_root_.id (by kernel_rfl)
@[go_sem] theorem Ef (b):(ab b).m F.natural_Shr=[]:=_root_.id (by kernel_rfl)
@[go_sem] theorem NJ (b h d zas):ai R (ab b) h d zas (.fn F.natural_Shr [] [])=(ah h [] zas).bind (aD R (ab b) d F.natural_Shr):=aj d (Ef b)
@[go_sem] theorem zA (b):(ab b).keep F.natural_Shr=false:=_root_.id (by kernel_rfl)
theorem pB:au.C F.slices_Clip_uint32_uint32_=some cX:=by kernel_rfl
theorem pC:au.E F.slices_Clip_uint32_uint32_=none:=by kernel_rfl
@[go_sem] theorem BJ (b):(ab b).sh F.slices_Clip_uint32_uint32_=[[.o 2 []]]:=_root_.id (by kernel_rfl)
@[go_sem] theorem pD (b):(ab b).m F.slices_Clip_uint32_uint32_=[]:=_root_.id (by kernel_rfl)
@[go_sem] theorem Am (b h d zas):ai R (ab b) h d zas (.fn F.slices_Clip_uint32_uint32_ [] [])=(ah h [] zas).bind (aD R (ab b) d F.slices_Clip_uint32_uint32_):=aj d (pD b)
@[go_sem] theorem nV (b):(ab b).keep F.slices_Clip_uint32_uint32_=false:=_root_.id (by kernel_rfl)
theorem GM:au.C F.dyadic_Top=some ig:=by kernel_rfl
theorem GN:au.E F.dyadic_Top=none:=by kernel_rfl
@[go_sem] theorem Q7 (b):(ab b).sh F.dyadic_Top=[[.o 0 [],.o 2 [],.o 0 []]]:=_root_.id (by kernel_rfl)
@[go_sem] theorem GO (b):(ab b).m F.dyadic_Top=[]:=_root_.id (by kernel_rfl)
@[go_sem] theorem Pf (b h d zas):ai R (ab b) h d zas (.fn F.dyadic_Top [] [])=(ah h [] zas).bind (aD R (ab b) d F.dyadic_Top):=aj d (GO b)
@[go_sem] theorem Bj (b):(ab b).keep F.dyadic_Top=false:=_root_.id (by kernel_rfl)
theorem zB:au.C F.dyadic_shifted=some iZ:=by kernel_rfl
theorem zC:au.E F.dyadic_shifted=none:=by kernel_rfl
@[go_sem] theorem MW (b):(ab b).sh F.dyadic_shifted=[[.o 2 []],[]]:=_root_.id (by kernel_rfl)
@[go_sem] theorem zD (b):(ab b).m F.dyadic_shifted=[]:=_root_.id (by kernel_rfl)
@[go_sem] theorem KT (b h d zas):ai R (ab b) h d zas (.fn F.dyadic_shifted [] [])=(ah h [] zas).bind (aD R (ab b) d F.dyadic_shifted):=aj d (zD b)
@[go_sem] theorem vY (b):(ab b).keep F.dyadic_shifted=false:=_root_.id (by kernel_rfl)
theorem Eg:au.C F.natural_Add=some jm:=by kernel_rfl
theorem Eh:au.E F.natural_Add=none:=by kernel_rfl
@[go_sem] theorem PX (b):(ab b).sh F.natural_Add=[[.o 2 []],[.o 2 []]]:=_root_.id (by kernel_rfl)
@[go_sem] theorem Ei (b):(ab b).m F.natural_Add=[]:=_root_.id (by kernel_rfl)
@[go_sem] theorem NK (b h d zas):ai R (ab b) h d zas (.fn F.natural_Add [] [])=(ah h [] zas).bind (aD R (ab b) d F.natural_Add):=aj d (Ei b)
@[go_sem] theorem zE (b):(ab b).keep F.natural_Add=false:=_root_.id (by kernel_rfl)
theorem Ej:au.C F.natural_Cmp=some gB:=by kernel_rfl
theorem Ek:au.E F.natural_Cmp=none:=by kernel_rfl
@[go_sem] theorem PY (b):(ab b).sh F.natural_Cmp=[[.o 2 []],[.o 2 []]]:=_root_.id (by kernel_rfl)
@[go_sem] theorem El (b):(ab b).m F.natural_Cmp=[]:=_root_.id (by kernel_rfl)
@[go_sem] theorem NL (b h d zas):ai R (ab b) h d zas (.fn F.natural_Cmp [] [])=(ah h [] zas).bind (aD R (ab b) d F.natural_Cmp):=aj d (El b)
@[go_sem] theorem zF (b):(ab b).keep F.natural_Cmp=false:=_root_.id (by kernel_rfl)
theorem Em:au.C F.natural_Sub=some gC:=by kernel_rfl
theorem En:au.E F.natural_Sub=none:=by kernel_rfl
@[go_sem] theorem PZ (b):(ab b).sh F.natural_Sub=[[.o 2 []],[.o 2 []]]:=_root_.id (by kernel_rfl)
@[go_sem] theorem Eo (b):(ab b).m F.natural_Sub=[]:=_root_.id (by kernel_rfl)
@[go_sem] theorem NM (b h d zas):ai R (ab b) h d zas (.fn F.natural_Sub [] [])=(ah h [] zas).bind (aD R (ab b) d F.natural_Sub):=aj d (Eo b)
@[go_sem] theorem zG (b):(ab b).keep F.natural_Sub=false:=_root_.id (by kernel_rfl)
theorem zH:au.C F.cmp_isNaN_int_=some i6:=by kernel_rfl
theorem zJ:au.E F.cmp_isNaN_int_=none:=by kernel_rfl
@[go_sem] theorem MX (b):(ab b).sh F.cmp_isNaN_int_=[]:=_root_.id (by kernel_rfl)
@[go_sem] theorem zK (b):(ab b).m F.cmp_isNaN_int_=[]:=_root_.id (by kernel_rfl)
@[go_sem] theorem KU (b h d zas):ai R (ab b) h d zas (.fn F.cmp_isNaN_int_ [] [])=(ah h [] zas).bind (aD R (ab b) d F.cmp_isNaN_int_):=aj d (zK b)
@[go_sem] theorem vZ (b):(ab b).keep F.cmp_isNaN_int_=false:=_root_.id (by kernel_rfl)
theorem GP:au.C F.bits_Len32=some fH:=by kernel_rfl
theorem GQ:au.E F.bits_Len32=none:=by kernel_rfl
@[go_sem] theorem Q8 (b):(ab b).sh F.bits_Len32=[]:=_root_.id (by kernel_rfl)
@[go_sem] theorem GR (b):(ab b).m F.bits_Len32=[]:=_root_.id (by kernel_rfl)
@[go_sem] theorem Pg (b h d zas):ai R (ab b) h d zas (.fn F.bits_Len32 [] [])=(ah h [] zas).bind (aD R (ab b) d F.bits_Len32):=aj d (GR b)
@[go_sem] theorem Bk (b):(ab b).keep F.bits_Len32=false:=_root_.id (by kernel_rfl)
theorem kK:au.C F.slices_ContainsFunc_Suint32_Suint32_=some cF:=by kernel_rfl
theorem kL:au.E F.slices_ContainsFunc_Suint32_Suint32_=none:=by kernel_rfl
@[go_sem] theorem vO (b):(ab b).sh F.slices_ContainsFunc_Suint32_Suint32_=[[.o 2 [.o 2 []]],[]]:=_root_.id (by kernel_rfl)
@[go_sem] theorem eF (b):(ab b).m F.slices_ContainsFunc_Suint32_Suint32_=[]:=_root_.id (by kernel_rfl)
@[go_sem] theorem ue (b h d zas):ai R (ab b) h d zas (.fn F.slices_ContainsFunc_Suint32_Suint32_ [] [])=(ah h [] zas).bind (aD R (ab b) d F.slices_ContainsFunc_Suint32_Suint32_):=aj d (eF b)
@[go_sem] theorem jv (b):(ab b).keep F.slices_ContainsFunc_Suint32_Suint32_=false:=_root_.id (by kernel_rfl)
theorem zL:au.C F.natural_long_1=some i7:=by kernel_rfl
theorem zM:au.E F.natural_long_1=none:=by kernel_rfl
@[go_sem] theorem MY (b):(ab b).sh F.natural_long_1=[[.o 2 []]]:=_root_.id (by kernel_rfl)
@[go_sem] theorem rH (b):(ab b).m F.natural_long_1=[]:=_root_.id (by kernel_rfl)
@[go_sem] theorem KV (b h d zas):ai R (ab b) h d zas (.fn F.natural_long_1 [] [])=(ah h [] zas).bind (aD R (ab b) d F.natural_long_1):=aj d (rH b)
@[go_sem] theorem wc (b):(ab b).keep F.natural_long_1=false:=_root_.id (by kernel_rfl)
@[go_sem] theorem HO (b):(ab b).sh F.bits_TrailingZeros32=[]:=_root_.id (by kernel_rfl)
@[go_sem] theorem sQ (b):(ab b).m F.bits_TrailingZeros32=[]:=_root_.id (by kernel_rfl)
@[go_sem] theorem ET (b h d zas):ai R (ab b) h d zas (.fn F.bits_TrailingZeros32 [] [])=(ah h [] zas).bind (aD R (ab b) d F.bits_TrailingZeros32):=aj d (sQ b)
@[go_sem] theorem EU (b):(ab b).keep F.bits_TrailingZeros32=false:=_root_.id (by kernel_rfl)
theorem Ep:au.C F.natural_shr=some jo:=by kernel_rfl
theorem Er:au.E F.natural_shr=none:=by kernel_rfl
@[go_sem] theorem P0 (b):(ab b).sh F.natural_shr=[[.o 2 []],[]]:=_root_.id (by kernel_rfl)
@[go_sem] theorem Es (b):(ab b).m F.natural_shr=[]:=_root_.id (by kernel_rfl)
@[go_sem] theorem NN (b h d zas):ai R (ab b) h d zas (.fn F.natural_shr [] [])=(ah h [] zas).bind (aD R (ab b) d F.natural_shr):=aj d (Es b)
@[go_sem] theorem zN (b):(ab b).keep F.natural_shr=false:=_root_.id (by kernel_rfl)
theorem Et:au.C F.natural_Shl=some eO:=by kernel_rfl
theorem Eu:au.E F.natural_Shl=none:=by kernel_rfl
@[go_sem] theorem P1 (b):(ab b).sh F.natural_Shl=[[.o 2 []],[]]:=_root_.id (by kernel_rfl)
@[go_sem] theorem Ew (b):(ab b).m F.natural_Shl=[]:=_root_.id (by kernel_rfl)
@[go_sem] theorem NO (b h d zas):ai R (ab b) h d zas (.fn F.natural_Shl [] [])=(ah h [] zas).bind (aD R (ab b) d F.natural_Shl):=aj d (Ew b)
@[go_sem] theorem zO (b):(ab b).keep F.natural_Shl=false:=_root_.id (by kernel_rfl)
theorem Ey:au.C F.natural_add=some jp:=by kernel_rfl
theorem Ez:au.E F.natural_add=none:=by kernel_rfl
@[go_sem] theorem P2 (b):(ab b).sh F.natural_add=[[.o 2 []],[.o 2 []]]:=_root_.id (by kernel_rfl)
@[go_sem] theorem EA (b):(ab b).m F.natural_add=[]:=_root_.id (by kernel_rfl)
@[go_sem] theorem NP (b h d zas):ai R (ab b) h d zas (.fn F.natural_add [] [])=(ah h [] zas).bind (aD R (ab b) d F.natural_add):=aj d (EA b)
@[go_sem] theorem zP (b):(ab b).keep F.natural_add=false:=_root_.id (by kernel_rfl)
theorem EB:au.C F.natural_sub=some lX:=by kernel_rfl
theorem EC:au.E F.natural_sub=none:=by kernel_rfl
@[go_sem] theorem P3 (b):(ab b).sh F.natural_sub=[[.o 2 []],[.o 2 []]]:=_root_.id (by kernel_rfl)
@[go_sem] theorem ED (b):(ab b).m F.natural_sub=[]:=_root_.id (by kernel_rfl)
@[go_sem] theorem NQ (b h d zas):ai R (ab b) h d zas (.fn F.natural_sub [] [])=(ah h [] zas).bind (aD R (ab b) d F.natural_sub):=aj d (ED b)
@[go_sem] theorem zQ (b):(ab b).keep F.natural_sub=false:=_root_.id (by kernel_rfl)
theorem l8:au.C F.slices_IndexFunc_Suint32_Suint32_=some dc:=by kernel_rfl
theorem l9:au.E F.slices_IndexFunc_Suint32_Suint32_=none:=by kernel_rfl
@[go_sem] theorem lE (b):(ab b).sh F.slices_IndexFunc_Suint32_Suint32_=[[.o 2 [.o 2 []]],[]]:=_root_.id (by kernel_rfl)
@[go_sem] theorem fC (b):(ab b).m F.slices_IndexFunc_Suint32_Suint32_=[]:=_root_.id (by kernel_rfl)
@[go_sem] theorem wd (b h d zas):ai R (ab b) h d zas (.fn F.slices_IndexFunc_Suint32_Suint32_ [] [])=(ah h [] zas).bind (aD R (ab b) d F.slices_IndexFunc_Suint32_Suint32_):=aj d (fC b)
@[go_sem] theorem kM (b):(ab b).keep F.slices_IndexFunc_Suint32_Suint32_=false:=_root_.id (by kernel_rfl)
theorem EE:au.C F.natural_shl=some l4:=by kernel_rfl
theorem EF:au.E F.natural_shl=none:=by kernel_rfl
@[go_sem] theorem P4 (b):(ab b).sh F.natural_shl=[[.o 2 []],[]]:=_root_.id (by kernel_rfl)
@[go_sem] theorem EG (b):(ab b).m F.natural_shl=[]:=_root_.id (by kernel_rfl)
@[go_sem] theorem NR (b h d zas):ai R (ab b) h d zas (.fn F.natural_shl [] [])=(ah h [] zas).bind (aD R (ab b) d F.natural_shl):=aj d (EG b)
@[go_sem] theorem zR (b):(ab b).keep F.natural_shl=false:=_root_.id (by kernel_rfl)
theorem GS:au.C F.bits_Add32=some mY:=by kernel_rfl
theorem GT:au.E F.bits_Add32=none:=by kernel_rfl
@[go_sem] theorem Q9 (b):(ab b).sh F.bits_Add32=[]:=_root_.id (by kernel_rfl)
@[go_sem] theorem GU (b):(ab b).m F.bits_Add32=[]:=_root_.id (by kernel_rfl)
@[go_sem] theorem Ph (b h d zas):ai R (ab b) h d zas (.fn F.bits_Add32 [] [])=(ah h [] zas).bind (aD R (ab b) d F.bits_Add32):=aj d (GU b)
@[go_sem] theorem Bl (b):(ab b).keep F.bits_Add32=false:=_root_.id (by kernel_rfl)
theorem GV:au.C F.bits_Sub32=some mZ:=by kernel_rfl
theorem GW:au.E F.bits_Sub32=none:=by kernel_rfl
@[go_sem] theorem Ra (b):(ab b).sh F.bits_Sub32=[]:=_root_.id (by kernel_rfl)
@[go_sem] theorem GX (b):(ab b).m F.bits_Sub32=[]:=_root_.id (by kernel_rfl)
@[go_sem] theorem Pi (b h d zas):ai R (ab b) h d zas (.fn F.bits_Sub32 [] [])=(ah h [] zas).bind (aD R (ab b) d F.bits_Sub32):=aj d (GX b)
@[go_sem] theorem Bm (b):(ab b).keep F.bits_Sub32=false:=_root_.id (by kernel_rfl)
end Go.Ab
namespace Go.Ab
open Go Go.IntWalk
def aP (m:List Nat):List (List AV):=m.map fun (x:Nat)=>[U (x:Int)]
def lm (m:List Nat):AV:=.sl 1 (aP m)
theorem uT (m:List Nat):(aP m).length=m.length:=by simp [aP]
@[go_sem] theorem rI (l:List (List AV)):l.map (ce [])=l:=(List.map_congr_left (g:=fun c=>c) fun c _=>Nv c).trans (List.map_id' _)
@[go_sem] theorem Za (hs m):ez hs (lm m)=lm m:=_root_.id rfl
@[go_sem] theorem XI (hs m):knownL hs (lm m)=true:=_root_.id rfl
@[go_sem] theorem U4 (hs m):eH hs (lm m)=true:=_root_.id rfl
@[go_sem] theorem adu (ks m):mf ks (lm m)=lm m:=_root_.id rfl
@[go_sem] theorem abB (ks m):jD ks (lm m)=false:=_root_.id rfl
@[go_sem] theorem abC (ks m):sB ks (lm m)=false:=_root_.id rfl
@[go_sem] theorem adv (m):jd false (lm m)=some (I (m.length:Nat)):=by simp [lm,jd,aP]
@[go_sem] theorem abD (m k i):mD 1 (lm m) (.v (.int k i))=bH (aP m) i:=by simp [lm,mD]
@[go_sem] theorem P5 (k ss m):nrmV (.o (k+1) []::ss) (lm m)=lm m:=by simp [lm,nrmV,nrmL,rI]
@[go_sem] theorem Zb (k cs ss m):nrmV (.o (k+1) [.o 0 cs]::ss) (lm m)=lm m:=by
 have:(aP m).map (ce [.o 0 cs])=aP m:=by
  refine (List.map_congr_left (g:=fun c=>c) fun c _=>?_).trans (List.map_id' _)
  cases c with
  | nil=>simp [ce]
  | cons a l=>simp [ce,nrmL]
 simp [lm,nrmV,nrmL,this]
@[go_sem] theorem abE (k m):nrmL (.o (k+1) []) (lm m)=lm m:=by simp [lm,nrmL,rI]
@[go_sem] theorem abF (h m):ll h (lm m)=some (lm m):=_root_.id rfl
@[go_sem] theorem Zc (h m l):fY h (lm m::l)=(fY h l).bind fun q=>some (lm m::q):=_root_.id rfl
@[go_sem] theorem abG (m):bk (lm m)=[]:=_root_.id rfl
@[go_sem] theorem abH (m):cP (lm m)=[]:=_root_.id rfl
@[go_sem] theorem adw (m):dat (lm m)=true:=_root_.id rfl
@[go_sem] theorem abI (m):ak (lm m)=true:=_root_.id rfl
@[go_sem] theorem Zd (m):aN (lm m)=false:=_root_.id rfl
@[go_sem] theorem Ze (m):dy (lm m)=some [lm m]:=_root_.id rfl
@[go_sem] theorem abJ (h m):du h (lm m)=some (lm m,h,[]):=_root_.id rfl
@[go_sem] theorem Zf (h m):bM h 0 (lm m)=some (lm m,h,[]):=_root_.id rfl
@[go_sem] theorem Zg (id p m):pN id p (lm m)=lm m:=_root_.id rfl
@[go_sem] theorem Zh (h d m):gY h d (some (lm m,[]))=if cx h (2000+8*d) 1=true then some (lm m,h,[]) else none:=Nx h d 1 (aP m)
@[go_sem] theorem adx (m:List Nat):AV.sl 1 (aP m)=lm m:=_root_.id rfl
@[go_sem] theorem Zi (p:Nat→Bool) (a:Nat):fm (List.filter p [a])=true:=by
 simp only [List.filter]
 split <;> rfl
@[go_sem] theorem abK (m:List Nat):(aP m).length=m.length:=by simp [aP]
@[go_sem] theorem RW:AV.sl 1 []=lm []:=_root_.id rfl
@[go_sem] theorem XJ (cs ss):nrmV (.o 2 cs::ss) .emp=lm []:=by simp [nrmV,nrmL,lm,aP]
@[go_sem] theorem XK (cs):nrmL (.o 2 cs) .emp=lm []:=by simp [nrmL,lm,aP]
@[go_sem] theorem abL (k ss m):nrmV (.o (k+1) []::ss) (.sl 1 (aP m))=lm m:=P5 k ss m
@[go_sem] theorem Zj (k ss m):nrmV (.o (k+1) []::ss) (.osl 1 (aP m))=lm m:=by simp [lm,nrmV,nrmL,rI]
theorem de {m:List Nat} {i:Int} {n:Nat} (hi:i=n) (h:n < m.length):bH (aP m) i=some (.ipt [U (m.getD n 0:Nat)]):=by
 subst hi
 simp [bH,aP,h]
theorem qV {m:List Nat} {n:Nat} (h:n < m.length):(aP m)[n]?=some [U (m.getD n 0:Nat)]:=by
 simp [aP,h]
theorem GY (m:List Nat) (n:Nat):(aP m).take n=aP (m.take n):=by simp [aP,List.map_take]
theorem NS (m:List Nat) (n:Nat):(aP m).drop n=aP (m.drop n):=by simp [aP,List.map_drop]
theorem Bn (m l:List Nat):aP m++aP l=aP (m++l):=by simp [aP]
theorem qW (m:List Nat) (n x:Nat):(aP m).set n [U (x:Nat)]=aP (m.set n x):=by simp [aP,List.map_set]
theorem tJ (n:Nat):List.replicate n [AV.v (.int .u32 0)]=aP (List.replicate n 0):=by simp [aP]
theorem GZ {m:List Nat} {lo hi:Option AV} {a b:Nat} (hlo:gF 0 b lo=some a) (hhi:gF m.length m.length hi=some b) (_hb:b≤m.length):dJ 1 (lm m) lo hi none=some (lm ((m.drop a).take (b - a))):=by
 simp only [lm,dJ,hG,uT,if_true,hhi,hlo,Option.bind_some,Option.map_some,wh,Bool.false_eq_true,if_false,GY,NS]
theorem zS (d n:Nat):gF d n none=some d:=_root_.id rfl
theorem uU {d n:Nat} {k:IntKind} {i:Int} {a:Nat} (hi:i=a) (h:a≤n):gF d n (some (.v (.int k i)))=some a:=by
 subst hi
 simp [gF,h]
theorem aX {f:FuncId} {fd:FD} {args:List AV} {r:AV × List Ob} (hE:au.E f=none) (hC:au.C f=some fd) (hk:au.md.keep f=false) (h1:args.length=fd.np)
  (hz:rk false fd.rs fd.res 0 (az R (ab false) fd.body (pf args) (fun _=>.dead))=some r):R f args []=some r:=by
 refine Gd false hE hC hk h1 (Nat.zero_le _) ?_
 rw [Ki]
 exact hz
end Go.Ab
namespace Go.Ab
open Go Go.IntWalk
set_option maxRecDepth 4000
def xS (k:Nat) (g:Bool):Cmd:=.seq (.ops [0,1,7,8,9] [co 9 (.bin .lss (.t 8) (.t 7))]) (.seq (.cond (.t 9) (.skip) (.exit 0)) (.seq (.block 1 [0,1,7,8] (.seq (.ops [0,1,5,7,8] [cm 10 8,cm 5 10]) (.seq (.ops [0,1,5,7,8,16] [cm 11 1,cm 12 0,cm 13 5,co 14 (.iadrS k (.t 12) (.t 13)),⟨(some 15),none,.load k g (.t 14)⟩,⟨(some 16),none,.call (.t 11) [(.t 15)]⟩]) (.cond (.t 16) (.seq (.ops [4] [cm 17 5,cm 4 17]) (.ret)) (.skip))))) (.ops [0,1,7,8] [co 18 (.bin .add (.t 8) (.c (.v (.int .i64 1)))),cm 8 18])))
def Cy:Cmd:=.seq (.ops [4] [co 4 (.mv (.c (.v (.int .i64 (-1)))))]) (.ret)
def xi {α:Type} (p:α→Bool):List α→Nat→Int
 | [],_=>-1
 | r::rs,n=>if p r=true then n else xi p rs (n+1)
theorem G0 {α:Type} (p:α→Bool):∀ (l:List α) (n:Nat),decide (0≤xi p l n)=l.any p
 | [],n=>rfl
 | r::rs,n=>by
  simp only [xi,List.any_cons]
  by_cases h:p r=true
  ·simp [h]
  ·simp [h,G0 p rs (n+1)]
theorem NT {k:Nat} {g:Bool} {f:FuncId} {rows:List (List AV)} {p:List AV→Bool} (hm:(ab false).m f=[]) (hl:rows.length < 4611686018427387904)
  (hf:∀ row ∈ rows,∃ a,ik k g row 0=some a∧dat a=true∧R f (aM ((ab false).sh f) [a]) []=some (B (p row),[])):∀ (rest:List (List AV)) (n:Nat),rows.drop n=rest→n≤rows.length →
  ∀ (s:af) (h:aa),s 0=.sl k rows→s 1=.fn f [] []→s 7=I rows.length→s 8=I n →
   dD (aI 0 [] (aU (az R (ab false) (xS k g)) [0,1,7,8] [] s h)) (az R (ab false) Cy)=some (.ret,⟨upd (fun _=>.any) 4 (I (xi p rest n)),fun _=>.dead⟩):=by
 intro rest
 induction rest with
 | nil =>
  intro n hd hn s h h0 h1 h7 h8
  have e:n=rows.length:=by
   have:=congrArg List.length hd
   simp at this
   omega
  subst e
  rw [aB]
  generalize aU _ _ _=L
  simp only [xS,Cy,go_sem,h0,h1,h7,h8,↓reduceIte,aee,Int.lt_irrefl,xi]
 | cons r rest ih =>
  intro n hd hn s h h0 h1 h7 h8
  have hlt:n < rows.length:=by
   have:=congrArg List.length hd
   simp at this
   omega
  have hr:rows[n]?=some r:=by
   have:=congrArg (·[0]?) hd
   simpa using this
  obtain ⟨a,ha,hda,hc⟩:=hf r (List.mem_of_getElem? hr)
  have ih':=ih (n+1) (by rw [← List.drop_drop,hd]; rfl) hlt
  have e1:((n:Int) < (rows.length:Int))=True:=eq_true (by omega)
  have e2:bH rows (n:Int)=some (.ipt r):=by simp [bH,hr]
  have e3:IntKind.i64.wrap ((n:Int)+1)=((n+1:Nat):Int):=by rw [i64_in] <;> omega
  rw [aB]
  generalize aU _ _ _=L at ih' ⊢
  simp only [xS,go_sem,h0,h1,h7,h8,↓reduceIte,aee,e1,e2,ha,sg _ hm,hda,hc,aeg,aef,xi]
  cases hp:p r with
  | true=>simp only [go_sem,↓reduceIte]
  | false =>
   simp only [go_sem,↓reduceIte,aee,e3]
   exact ih' _ _ rfl rfl rfl rfl
theorem Bo {fi:FuncId} {fd:FD} {k:Nat} {g:Bool} (hE:au.E fi=none) (hC:au.C fi=some fd) (hk:au.md.keep fi=false)
  (hfd:fd=⟨2,[[]],[.t 4],.seq (.ops [0,1] [co 4 (.mv (.c (.v (.int .i64 0))))]) (.seq (.seq (.ops [0,1,7,8] [cm 6 0,co 7 (.len false (.t 6)),co 8 (.mv (.c (.v (.int .i64 0))))]) (.block 0 [] (.loop [0,1,7,8] [] (xS k g)))) Cy)⟩)
  {f:FuncId} {rows:List (List AV)} {p:List AV→Bool} (hm:(ab false).m f=[]) (hl:rows.length < 4611686018427387904)
  (hf:∀ row ∈ rows,∃ a,ik k g row 0=some a∧dat a=true∧R f (aM ((ab false).sh f) [a]) []=some (B (p row),[])):R fi [.sl k rows,.fn f [] []] []=some (I (xi p rows 0),[]):=by
 subst hfd
 refine aX hE hC hk rfl ?_
 have hL:=NT (k:=k) (g:=g) hm hl hf rows 0 rfl (Nat.zero_le _)
 simp only [go_sem,↓reduceIte,aee,Ud]
 rw [hL _ _ (by simp only [go_sem,↓reduceIte]) (by simp only [go_sem,↓reduceIte,aee]) (by simp only [go_sem,↓reduceIte,aee]) (by simp only [go_sem,↓reduceIte,aee]; rfl)]
 simp only [go_sem,↓reduceIte]
def LF (fi:FuncId):FD:=⟨2,[[]],[.t 4],.seq (.ops [0,1] [co 4 (.mv (.c (.v (.bool false))))]) (.seq (.ops [4] [cm 5 0,cm 6 1,⟨(some 7),none,.call (.c (.fn fi [] [])) [(.t 5),(.t 6)]⟩,co 8 (.bin .geq (.t 7) (.c (.v (.int .i64 0)))),cm 4 8]) (.ret))⟩
theorem xT {ci fi:FuncId} {fd:FD} {k:Nat} (hE:au.E ci=none) (hC:au.C ci=some fd) (hk:au.md.keep ci=false) (hfd:fd=LF fi) (hm:(ab false).m fi=[]) {cs:List Sh} (hsh:(ab false).sh fi=[[.o (k+1) cs],[]])
  {rows:List (List AV)} {f:FuncId} {p:List AV→Bool} (hr:rows.map (ce cs)=rows) (h:R fi [.sl k rows,.fn f [] []] []=some (I (xi p rows 0),[])):R ci [.sl k rows,.fn f [] []] []=some (B (rows.any p),[]):=by
 subst hfd
 refine aX hE hC hk rfl ?_
 simp only [LF,go_sem,↓reduceIte,aee,sg _ hm,hsh,hr,h,Nu,G0]
end Go.Ab
namespace Go.Ab
open Go Go.IntWalk
set_option maxRecDepth 4000
theorem ql {i:Int} {n:Nat} (h:i=n) (hn:n < 18446744073709551616):IntKind.u64.wrap i=n:=by rw [u64_in] <;> omega
theorem RX {i:Int} {n:Nat} (h:i=n) (hn:n < 4294967296):IntKind.u32.wrap i=n:=by rw [u32_in] <;> omega
theorem wi {i:Int} {n:Nat} (h:i=n) (hn:n < 9223372036854775808):IntKind.i64.wrap i=n:=by rw [i64_in] <;> omega
theorem G1 {i:Int} {n:Nat} (h:i=n):IntKind.u32.wrap i=((n % 4294967296:Nat):Int):=by rw [IntKind.wrap_u32]; omega
theorem Bp {i:Int} {n k:Nat} {kk:IntKind} {j:Int} (h:i=n) (hj:j=k) (hk:k≤64):dI .shr (.v (.int .u64 i)) (.v (.int kk j))=some (.v (.int .u64 ((n / 2 ^ k:Nat):Int))):=by
 subst h hj
 rw [BZ,if_neg (by omega)]
 have:min (k:Int).toNat IntKind.u64.bits=k:=by simp [IntKind.bits]; omega
 rw [this]
 simp only [Option.some.injEq,AV.v.injEq,Value.int.injEq,true_and]
 rw [Int.fdiv_eq_ediv_of_nonneg _ (Int.pow_nonneg (by omega))]
 simp
theorem G2 {x y c:Nat} (hx:x < 4294967296) (hy:y < 4294967296) (hc:c≤1):R F.bits_Add32 [U x,U y,U c] []=some (.tup [U (((x+y+c) % 4294967296:Nat)),U (((x+y+c) / 4294967296:Nat))],[]):=by
 refine aX GT GS (Bl false) rfl ?_
 have e1:IntKind.u64.wrap (x:Int)=x:=ql rfl (by omega)
 have e2:IntKind.u64.wrap (y:Int)=y:=ql rfl (by omega)
 have e3:IntKind.u64.wrap (c:Int)=c:=ql rfl (by omega)
 have e4:IntKind.u64.wrap ((x:Int)+y)=((x+y:Nat):Int):=ql (by omega) (by omega)
 have e5:IntKind.u64.wrap (((x+y:Nat):Int)+c)=((x+y+c:Nat):Int):=ql (by omega) (by omega)
 have e6:IntKind.u32.wrap ((x+y+c:Nat):Int)=(((x+y+c) % 4294967296:Nat):Int):=G1 rfl
 have e7:=Bp (n:=x+y+c) (k:=32) (kk:=.u64) (j:=32) rfl rfl (by omega)
 have e8:IntKind.u32.wrap (((x+y+c) / 2 ^ 32:Nat):Int)=(((x+y+c) / 4294967296:Nat):Int):=RX rfl (by omega)
 simp only [mY,wY,go_sem,↓reduceIte,aee,e1,e2,e3,e4,e5,e6,e7,e8]
theorem P6 {k:IntKind} {n:Int} (h:n ≠ 0):wh (some (.v (.int k n)))=false:=by
 unfold wh
 split
 ·rename_i h2; simp at h2; exact absurd h2.2 h
 ·rfl
theorem P7 {m:List Nat} (h:m.length ≠ 0):dJ 1 (lm m) none (some (I (m.length:Nat))) (some (I (m.length:Nat)))=some (lm m):=by
 have hz:wh (some (I (m.length:Nat)))=false:=P6 (by omega)
 have h1:gF m.length m.length (some (I (m.length:Nat)))=some m.length:=uU rfl (Nat.le_refl _)
 simp only [dJ,lm,uT,hG,h1,zS,hz,if_true,Option.bind_some,Option.map_some,Bool.false_eq_true,if_false,List.drop_zero,Nat.sub_zero,GY,List.take_length]
theorem IL (m:List Nat):R F.slices_Clip_uint32_uint32_ [lm m] []=some (lm m,[]):=by
 refine aX pC pB (nV false) rfl ?_
 by_cases h:m.length=0
 ·have:m=[]:=List.length_eq_zero_iff.1 h
  subst this
  rfl
 ·simp only [cX,jl,go_sem,↓reduceIte,aee,P7 h]
theorem LG (m:List Nat) (h2:m.length < 4611686018427387904):∀ (n:Nat),n≤m.length→∀ (s:af) (h:aa),s 0=lm m→s 3=I n →
  aI 0 [0,3] (aU (az R (ab false) fQ) [0,3] [] s h)=some (.normal,⟨upd (upd (fun _=>.any) 3 (I (iH m n))) 0 (lm m),fun _=>.dead⟩):=by
 intro n
 induction n with
 | zero =>
  intro h1 s h h3 h4
  rw [aB]
  simp only [fQ,go_sem,h3,h4,iH,↓reduceIte,aee,Int.natCast_zero,Int.lt_irrefl]
 | succ n ih =>
  intro h1 s h h3 h4
  have hn:n < m.length:=h1
  have e3:IntKind.i64.wrap ((n:Int)+1 - 1)=n:=wi (by omega) (by omega)
  have e1:bH (aP m) (n:Int)=some (.ipt [U (m.getD n 0:Nat)]):=de rfl hn
  have e2:((0:Int) < (n:Int)+1)=True:=eq_true (by omega)
  have ih':=ih (by omega)
  rw [aB]
  generalize aU _ _ _=L at ih' ⊢
  by_cases hz:m.getD n 0=0
  ·simp only [fQ,go_sem,h3,h4,iH,↓reduceIte,aee,Int.natCast_add,Int.natCast_one,e3,e1,e2,hz,Int.natCast_zero]
   exact ih' _ _ rfl rfl
  ·simp only [fQ,go_sem,h3,h4,iH,↓reduceIte,aee,Int.natCast_add,Int.natCast_one,e3,e1,e2,hz,Int.natCast_eq_zero]
theorem dj {m:List Nat} (hb:Lb m) (h:m.length < 4611686018427387904):R F.natural_trim [lm m] []=some (lm (av (ac m)),[]):=by
 refine aX Cw Cv (yi false) rfl ?_
 have h1:dJ 1 (lm m) none (some (I (iH m m.length:Nat))) none=some (lm (av (ac m))):=by
  rw [GZ (a:=0) (b:=iH m m.length) rfl (uU rfl (tD _ _)) (tD _ _),List.drop_zero,Nat.sub_zero,Ga hb]
 simp only [kS,tv,go_sem,↓reduceIte,aee,LG m h m.length (Nat.le_refl _),h1]
def Pj (l:List (List Nat)):AV:=.sl 1 (l.map fun m=>[lm m])
theorem P8 (l:List (List Nat)) (cs:List Sh):(l.map fun m=>[lm m]).map (ce [.o 2 cs])=l.map fun m=>[nrmL (.o 2 cs) (lm m)]:=by
 simp [List.map_map,ce]
theorem LH (m:List Nat):R F.natural_long_1 [lm m] []=some (B (decide (256 < m.length)),[]):=by
 refine aX zM zL (wc false) rfl ?_
 have e:decide ((256:Int) < (m.length:Int))=decide (256 < m.length):=by rw [decide_eq_decide]; omega
 simp only [i7,rD,go_sem,↓reduceIte,aee,e]
theorem IM {l:List (List Nat)} (hl:l.length < 4611686018427387904):R F.natural_long [Pj l] []=some (B (l.any fun m=>decide (256 < m.length)),[]):=by
 refine aX Cq Cp (yg false) rfl ?_
 let p:List AV→Bool:=fun row=>match row with | [.sl _ rows]=>decide (256 < rows.length) | _=>false
 have hp:∀ m:List Nat,p [lm m]=decide (256 < m.length):=fun m=>by simp [p,lm,uT]
 have hn:(l.map fun m=>[lm m]).map (ce [.o 2 []])=l.map fun m=>[lm m]:=by
  rw [P8]
  simp only [go_sem]
 have h1:=Bo (k:=1) (g:=false) (f:=F.natural_long_1) (rows:=l.map fun m=>[lm m]) (p:=p) l9 l8 (kM false) rfl (rH false) (by simpa using hl) (fun row hr=>by
  simp only [List.mem_map] at hr
  obtain ⟨m,hm,rfl⟩:=hr
  refine ⟨lm m,rfl,rfl,?_⟩
  simp only [go_sem,LH,hp])
 have h2:=xT (k:=1) kL kK (jv false) rfl (fC false) (lE false) hn h1
 have h3:(l.map fun m=>[lm m]).any p=l.any fun m=>decide (256 < m.length):=by
  rw [List.any_map]
  congr 1
  funext m
  exact hp m
 rw [h3] at h2
 simp only [kR,tu,Pj,go_sem,↓reduceIte,aee,sg _ (eF false),hn,h2]
end Go.Ab
namespace Go.Ab
open Go Go.IntWalk
set_option maxRecDepth 4000
theorem tt {p:Prop} (h:p):p=True:=eq_true h
theorem ff {p:Prop} (h:¬ p):p=False:=eq_false h
theorem ke (a:List Nat):R F.natural_long [.sl 1 [[lm a]]] []=some (B (decide (256 < a.length)),[]):=by
 have:=IM (l:=[a]) (by simp)
 simpa [Pj] using this
theorem ns (a b:List Nat):R F.natural_long [.sl 1 [[lm a],[lm b]]] []=some (B (decide (256 < a.length) || decide (256 < b.length)),[]):=by
 have:=IM (l:=[a,b]) (by simp)
 simpa [Pj] using this
def i8 (n:Nat):AV:=if 256 < (av n).length then .tup [lm [],I 9] else .tup [lm (av n),I 0]
theorem tK {m:List Nat} (hb:Lb m) (h:m.length < 4611686018427387904):R F.natural_done [lm m] []=some (i8 (ac m),[]):=by
 refine aX Ct Cs (yh false) rfl ?_
 by_cases hl:256 < (av (ac m)).length
 ·simp only [iC,pp,i8,go_sem,↓reduceIte,aee,aeg,aef,aeh,aej,dj hb h,ke,hl]
 ·simp only [iC,pp,i8,go_sem,↓reduceIte,aee,aeg,aef,aeh,aej,dj hb h,ke,hl,IL]
theorem vP {a:List Nat} {i:Nat} (h:i < a.length):ac (a.take (i+1))=ac (a.take i)+4294967296 ^ i*a.getD i 0:=by
 rw [List.take_add_one,fk]
 have:a[i]?.toList=[a.getD i 0]:=by simp [h]
 rw [this,List.length_take,Nat.min_eq_left (by omega)]
 simp [ac]
theorem Im {a:List Nat} {i:Nat} (h:a.length≤i):ac (a.take (i+1))=ac (a.take i)+4294967296 ^ i*a.getD i 0:=by
 rw [List.take_of_length_le (by omega),List.take_of_length_le h]
 simp [List.getD_eq_getElem?_getD,List.getElem?_eq_none h]
theorem jz (a:List Nat) (i:Nat):ac (a.take (i+1))=ac (a.take i)+4294967296 ^ i*a.getD i 0:=by
 rcases Nat.lt_or_ge i a.length with h | h
 ·exact vP h
 ·exact Im h
def IN (n i:Nat):Nat:=n / 4294967296 ^ i % 4294967296
theorem NU {k n i:Nat} (h:i < k):(di k n)[i]?=some (IN n i):=by
 induction k generalizing n i with
 | zero=>omega
 | succ k ih =>
  cases i with
  | zero=>simp [di,IN]
  | succ i =>
   simp only [di,List.getElem?_cons_succ]
   rw [ih (by omega)]
   simp only [IN,Nat.pow_succ,Nat.mul_comm _ 4294967296,Nat.div_div_eq_div_mul]
theorem G3 {k n:Nat} {l:List Nat} (hl:l.length=k) (h:∀ i,i < k→l.getD i 0=IN n i):l=di k n:=by
 refine List.ext_getElem? fun i=>?_
 rcases Nat.lt_or_ge i k with hi | hi
 ·rw [NU hi]
  have:=h i hi
  rw [List.getD_eq_getElem?_getD,List.getElem?_eq_getElem (by omega)] at this
  rw [List.getElem?_eq_getElem (by omega)]
  exact congrArg some this
 ·rw [List.getElem?_eq_none (by omega),List.getElem?_eq_none (by rw [cq]; omega)]
def lF (a b:List Nat):Nat→Nat
 | 0=>0
 | i+1=>(a.getD i 0+b.getD i 0+lF a b i) / 4294967296
def zT (a b:List Nat) (i:Nat):Nat:=(a.getD i 0+b.getD i 0+lF a b i) % 4294967296
theorem Bq {a b:List Nat} (ha:Lb a) (hb:Lb b):∀ i,lF a b i≤1
 | 0=>by simp [lF]
 | i+1=>by
  have h1:=dQ ha i
  have h2:=dQ hb i
  have h3:=Bq ha hb i
  simp only [lF]
  omega
def gk (a b:List Nat) (i:Nat):List Nat:=(List.range i).map (zT a b)
theorem rJ (f:Nat→Nat) (i:Nat):ac ((List.range (i+1)).map f)=ac ((List.range i).map f)+4294967296 ^ i*f i:=by
 rw [List.range_succ,List.map_append,fk]
 simp [ac]
theorem G4 (a b:List Nat):∀ i,ac (gk a b i)+4294967296 ^ i*lF a b i=ac (a.take i)+ac (b.take i)
 | 0=>by simp [gk,lF,ac]
 | i+1=>by
  have ih:=G4 a b i
  rw [jz a i,jz b i]
  simp only [gk] at ih ⊢
  rw [rJ,Nat.pow_succ]
  have e:lF a b (i+1)*4294967296+zT a b i=a.getD i 0+b.getD i 0+lF a b i:=by
   simp only [lF,zT]
   omega
  have h1:4294967296 ^ i*4294967296*lF a b (i+1)+4294967296 ^ i*zT a b i=4294967296 ^ i*(a.getD i 0+b.getD i 0+lF a b i):=by
   rw [← e,Nat.mul_add,Nat.mul_assoc,Nat.mul_comm 4294967296]
  simp only [Nat.mul_add] at h1
  omega
theorem gw (a b:List Nat) (i:Nat):(gk a b i).length=i:=by simp [gk]
theorem P9 (a b:List Nat) (i:Nat):Lb (gk a b i):=fun x hx=>by
 simp only [gk,List.mem_map] at hx
 obtain ⟨j,_,rfl⟩:=hx
 simp only [zT]
 omega
theorem NV {a b:List Nat} (ha:Lb a) (hb:Lb b) (hl:b.length≤a.length):gk a b a.length++[lF a b a.length]=di (a.length+1) (ac a+ac b):=by
 have h:=G4 a b a.length
 rw [List.take_length,List.take_of_length_le hl] at h
 have h1:Lb (gk a b a.length++[lF a b a.length]):=nM.2 ⟨P9 _ _ _,eQ.2 ⟨by have:=Bq ha hb a.length; omega,AW⟩⟩
 have h2:ac (gk a b a.length++[lF a b a.length])=ac a+ac b:=by
  rw [fk,gw]
  simp only [ac]
  omega
 rw [← h2]
 have:=uP h1
 simpa [gw] using this.symm
theorem rK {α:Type} (l:List α) (n:Nat) (x z:α) (h:0 < n):(l++List.replicate n z).set l.length x=(l++[x])++List.replicate (n - 1) z:=by
 obtain ⟨n,rfl⟩:∃ m,n=m+1:=⟨n - 1,by omega⟩
 rw [List.replicate_succ,List.set_append_right _ _ (Nat.le_refl _)]
 simp
theorem NW {a b:List Nat} (ha:Lb a) (hb:Lb b) (_hl:b.length≤a.length) (h2:a.length < 4611686018427387904):∀ (k i:Nat),i+k=a.length→∀ (s:af) (h:aa),s 0=lm a→s 1=lm b→s 5=.rsl 20 none 1 0 (a.length+1)→s 6=U (lF a b i:Nat) →
  s 21=lm a→s 22=I (a.length:Nat)→s 23=I i→h 20=.ar 1 (aP (gk a b i++List.replicate (k+1) 0)) →
  aI 0 [0,5,6] (aU (az R (ab false) eP) [0,1,5,6,21,22,23] [20] s h) =
   some (.normal,⟨upd (upd (upd (fun _=>.any) 6 (U (lF a b a.length:Nat))) 5 (.rsl 20 none 1 0 (a.length+1))) 0 (lm a),upd (fun _=>.dead) 20 (.ar 1 (aP (gk a b a.length++[0])))⟩):=by
 intro k
 induction k with
 | zero =>
  intro i hi s h h0 h1 h5 h6 h21 h22 h23 hh
  have:i=a.length:=by omega
  subst this
  rw [aB]
  simp only [eP,go_sem,↓reduceIte,aee,aef,h0,h1,h5,h6,h21,h22,h23,hh,Int.lt_irrefl,List.contains_cons,BEq.rfl,Bool.true_or]
 | succ k ih =>
  intro i hi s h h0 h1 h5 h6 h21 h22 h23 hh
  have ih':=ih (i+1) (by omega)
  have e1:((i:Int) < (a.length:Int))=True:=tt (by omega)
  have e2:bH (aP a) (i:Int)=some (.ipt [U (a.getD i 0:Nat)]):=de rfl (by omega)
  have e3:IntKind.i64.wrap ((i:Int)+1)=((i+1:Nat):Int):=wi (by omega) (by omega)
  have e4:(0≤(i:Int))=True:=tt (by omega)
  have e5:((i:Int) < ((a.length+1:Nat):Int))=True:=tt (by omega)
  have e6:=G2 (dQ ha i) (dQ hb i) (Bq ha hb i)
  have e7:(aP (gk a b i++List.replicate (k+1+1) 0))[i]?=some [U (0:Nat)]:=by
   rw [qV (by simp [gw])]
   simp [List.getD_eq_getElem?_getD,gw]
  have e8:(aP (gk a b i++List.replicate (k+1+1) 0)).set i [U ((a.getD i 0+b.getD i 0+lF a b i) % 4294967296:Nat)]=aP (gk a b (i+1)++List.replicate (k+1) 0):=by
   rw [qW]
   have:=rK (gk a b i) (k+1+1) (zT a b i) 0 (by omega)
   rw [gw] at this
   rw [show (a.getD i 0+b.getD i 0+lF a b i) % 4294967296=zT a b i from rfl,this]
   simp [gk,List.range_succ]
  rw [aB]
  generalize aU _ _ _=L at ih' ⊢
  by_cases hb':i < b.length
  ·have e9:((i:Int) < (b.length:Int))=True:=tt (by omega)
   have e10:bH (aP b) (i:Int)=some (.ipt [U (b.getD i 0:Nat)]):=de rfl hb'
   simp only [eP,go_sem,↓reduceIte,aee,aeg,aef,aeh,h0,h1,h5,h6,h21,h22,h23,hh,List.contains_cons,BEq.rfl,Bool.true_or,e1,e2,e3,e4,e5,e6,e7,e8,e9,e10,Int.toNat_natCast,Nat.zero_add]
   exact ih' _ _ rfl rfl rfl rfl rfl rfl rfl rfl
  ·have e9:((i:Int) < (b.length:Int))=False:=ff (by omega)
   have e10:b.getD i 0=0:=by simp [List.getD_eq_getElem?_getD,List.getElem?_eq_none (show b.length≤i from by omega)]
   have e6':=G2 (dQ ha i) (y:=0) (by omega) (Bq ha hb i)
   simp only [Int.natCast_zero] at e6'
   have e8':(aP (gk a b i++List.replicate (k+1+1) 0)).set i [U ((a.getD i 0+0+lF a b i) % 4294967296:Nat)]=aP (gk a b (i+1)++List.replicate (k+1) 0):=by
    have e8':=e8
    rw [e10] at e8'
    exact e8'
   simp only [eP,go_sem,↓reduceIte,aee,aeg,aef,aeh,h0,h1,h5,h6,h21,h22,h23,hh,List.contains_cons,BEq.rfl,Bool.true_or,e1,e2,e3,e4,e5,e7,e8',e9,Int.toNat_natCast,Nat.zero_add,e6']
   refine ih' _ _ rfl rfl rfl ?_ rfl rfl rfl rfl
   simp only [lF,e10]
   rfl
theorem qm {i j:Int} {l c:Nat} (hi:i=l) (hj:j=c) (h:l≤c) (hc:c < 9223372036854775808):uj (I i) (I j)=some (l,c):=by
 subst hi hj
 simp only [uj]
 rw [if_pos (by omega)]
 simp
def zU:Cmd:=.seq (.ops [0,1,5] [cm 17 0,co 18 (.len false (.t 17)),co 19 (.bin .add (.t 18) (.c (.v (.int .i64 1)))),⟨(some 20),none,.mkSl 1 [(.v (.int .u32 0))] 4 (.t 19) (.t 19)⟩,cm 5 20]) (.seq (.ops [0,1,5,6] [co 6 (.mv (.c (.v (.int .u32 0))))]) (.seq (.seq (.ops [0,1,5,6,21,22,23] [cm 21 0,co 22 (.len false (.t 21)),co 23 (.mv (.c (.v (.int .i64 0))))]) (.block 0 [0,5,6] (.loop [0,1,5,6,21,22,23] [20] eP))) (.seq (.ops [5] [cm 47 5,cm 48 0,co 49 (.len false (.t 48)),cm 50 6,co 51 (.iadrS 1 (.t 47) (.t 49)),⟨none,none,.store 1 (.t 51) (.t 50)⟩]) (.seq (.ops [4] [cm 52 5,cm 4 52]) (.ret)))))
theorem G5 {a b:List Nat} (ha:Lb a) (hb:Lb b) (hl:b.length≤a.length) (h2:a.length≤100000):∀ (s:af),s 0=lm a→s 1=lm b →
  az R (ab false) zU s (fun _=>.dead)=some (.ret,⟨upd (fun _=>.any) 4 (.rsl 20 none 1 0 (a.length+1)),upd (upd (fun _=>.dead) 20 (.ar 1 (aP (gk a b a.length++[0])))) 20 (.ar 1 (aP (di (a.length+1) (ac a+ac b))))⟩):=by
 intro s h0 h1
 have e1:IntKind.i64.wrap ((a.length:Int)+1)=((a.length+1:Nat):Int):=wi (by omega) (by omega)
 have e2:=qm (i:=((a.length+1:Nat):Int)) (j:=((a.length+1:Nat):Int)) (l:=a.length+1) (c:=a.length+1) rfl rfl (Nat.le_refl _) (by omega)
 have e3:((a.length+1)*4≤140737488355328)=True:=tt (by omega)
 have e4:=NW ha hb hl (by omega) a.length 0 (by omega)
 have e5:aP (List.replicate (a.length+1) 0)=aP (gk a b 0++List.replicate (a.length+1) 0):=rfl
 have e6:(0≤(a.length:Int))=True:=tt (by omega)
 have e7:((a.length:Int) < ((a.length+1:Nat):Int))=True:=tt (by omega)
 have e8:(aP (gk a b a.length++[0]))[a.length]?=some [U (0:Nat)]:=by
  rw [qV (by simp [gw])]
  simp [List.getD_eq_getElem?_getD,gw]
 have e9:(aP (gk a b a.length++[0])).set a.length [U (lF a b a.length:Nat)]=aP (di (a.length+1) (ac a+ac b)):=by
  rw [qW]
  have:=rK (gk a b a.length) 1 (lF a b a.length) 0 (by omega)
  rw [gw] at this
  rw [show [0]=List.replicate 1 0 from rfl,this]
  simp only [Nat.sub_self,List.replicate_zero,List.append_nil]
  rw [NV ha hb hl]
 simp only [zU,go_sem,↓reduceIte,aee,h0,h1,e1,e2,e3,tJ,e5]
 rw [e4 _ _ rfl rfl rfl rfl rfl rfl rfl rfl]
 simp only [go_sem,↓reduceIte,aee,aeh,e6,e7,e8,e9,Int.toNat_natCast,Nat.zero_add]
theorem G6:vD=.seq (.ops [0,1] [co 4 (.mv (.c .emp))]) (.seq (.seq (.ops [0,1,14] [cm 10 0,co 11 (.len false (.t 10)),cm 12 1,co 13 (.len false (.t 12)),co 14 (.bin .lss (.t 11) (.t 13))]) (.cond (.t 14) (.ops [0,1] [cm 15 1,cm 16 0,cm 0 15,cm 1 16]) (.skip))) zU):=rfl
theorem LI {a b:List Nat} (ha:Lb a) (hb:Lb b) (h1:a.length≤100000) (h2:b.length≤100000):R F.natural_add [lm a,lm b] []=some (lm (di (max a.length b.length+1) (ac a+ac b)),[]):=by
 refine aX Ez Ey (zP false) rfl ?_
 by_cases h:a.length < b.length
 ·have e1:((a.length:Int) < (b.length:Int))=True:=tt (by omega)
  have e2:=G5 hb ha (by omega) h2
  simp only [jp,G6,go_sem,↓reduceIte,aee,e1]
  rw [e2 _ rfl rfl]
  simp only [go_sem,↓reduceIte,aeh,cq,Nat.zero_add,Nat.le_refl]
  rw [Nat.max_eq_right (by omega),Nat.add_comm (ac a)]
 ·have e1:((a.length:Int) < (b.length:Int))=False:=ff (by omega)
  have e2:=G5 ha hb (by omega) h1
  simp only [jp,G6,go_sem,↓reduceIte,aee,e1]
  rw [e2 _ rfl rfl]
  simp only [go_sem,↓reduceIte,aeh,cq,Nat.zero_add,Nat.le_refl]
  rw [Nat.max_eq_left (by omega)]
theorem RY {a b:List Nat} (ha:Lb a) (hb:Lb b) (h1:a.length≤256) (h2:b.length≤256):R F.natural_Add [lm a,lm b] []=some (i8 (ac a+ac b),[]):=by
 refine aX Eh Eg (zE false) rfl ?_
 have e1:(256 < a.length)=False:=ff (by omega)
 have e2:(256 < b.length)=False:=ff (by omega)
 have e3:ac (di (max a.length b.length+1) (ac a+ac b))=ac a+ac b:=by
  rw [px,Nat.mod_eq_of_lt]
  have h1:=jq ha
  have h2:=jq hb
  have h3:4294967296 ^ a.length≤4294967296 ^ max a.length b.length:=Nat.pow_le_pow_right (by omega) (by omega)
  have h4:4294967296 ^ b.length≤4294967296 ^ max a.length b.length:=Nat.pow_le_pow_right (by omega) (by omega)
  rw [Nat.pow_succ]
  omega
 have e4:=tK (pv (max a.length b.length+1) (ac a+ac b)) (by rw [cq]; omega)
 rw [e3] at e4
 unfold i8 at e4 ⊢
 by_cases hl:256 < (av (ac a+ac b)).length
 ·simp only [hl,if_true] at e4 ⊢
  simp only [jm,qy,go_sem,↓reduceIte,aee,aeg,aef,aeh,aej,e1,e2,ns,LI ha hb (by omega) (by omega),e4]
 ·simp only [hl,if_false] at e4 ⊢
  simp only [jm,qy,go_sem,↓reduceIte,aee,aeg,aef,aeh,aej,e1,e2,ns,LI ha hb (by omega) (by omega),e4]
end Go.Ab
namespace Go.Ab
open Go Go.IntWalk
set_option maxRecDepth 4000
def dk (x y:Nat):Int:=if x < y then -1 else if y < x then 1 else 0
theorem uV {x y:Nat} (h:(av x).length < (av y).length):x < y:=by
 have h1:=ij x
 have hy:y ≠ 0:=by rintro rfl; rw [fI] at h; simp at h
 have h2:=LC hy
 have h3:4294967296 ^ (av x).length≤4294967296 ^ ((av y).length - 1):=Nat.pow_le_pow_right (by omega) (by omega)
 omega
def tL:Cmd:=.seq (.ops [4] [co 4 (.mv (.c (.v (.int .i64 0))))]) (.ret)
theorem NX {a b:List Nat} (ha:Lb a) (hb:Lb b) (hl:a.length=b.length) (h2:a.length≤100000):∀ (k:Nat),k≤a.length→∀ (s:af) (h:aa),s 0=lm a→s 1=lm b→s 5=I ((k:Int) - 1) →
  dD (aI 0 [] (aU (az R (ab false) dL) [0,1,5] [] s h)) (az R (ab false) tL)=some (.ret,⟨upd (fun _=>.any) 4 (I (dk (ac (a.take k)) (ac (b.take k)))),fun _=>.dead⟩):=by
 intro k
 induction k with
 | zero =>
  intro hk s h h0 h1 h5
  rw [aB]
  generalize aU _ _ _=L
  have e1:(0≤((0:Nat):Int) - 1)=False:=ff (by omega)
  have e2:dk (ac []) (ac [])=0:=rfl
  simp only [dL,tL,go_sem,↓reduceIte,aee,h0,h1,h5,e1,e2]
 | succ k ih =>
  intro hk s h h0 h1 h5
  have ih':=ih (by omega)
  have e1:(0≤((k+1:Nat):Int) - 1)=True:=tt (by omega)
  have e2:bH (aP a) (((k+1:Nat):Int) - 1)=some (.ipt [U (a.getD k 0:Nat)]):=de (by omega) (by omega)
  have e3:bH (aP b) (((k+1:Nat):Int) - 1)=some (.ipt [U (b.getD k 0:Nat)]):=de (by omega) (by omega)
  have e4:IntKind.i64.wrap (((k+1:Nat):Int) - 1 - 1)=(k:Int) - 1:=by rw [i64_in] <;> omega
  have va:=jz a k
  have vb:=jz b k
  have la:=jq (qU ha k)
  have lb:=jq (qU hb k)
  rw [List.length_take,Nat.min_eq_left (by omega)] at la lb
  rw [aB]
  generalize aU _ _ _=L at ih' ⊢
  rcases Nat.lt_trichotomy (a.getD k 0) (b.getD k 0) with hlt | heq | hgt
  ·have e5:((a.getD k 0:Int) < (b.getD k 0:Int))=True:=tt (by omega)
   have e6:dk (ac (a.take (k+1))) (ac (b.take (k+1)))=-1:=by
    have:4294967296 ^ k*(a.getD k 0+1)≤4294967296 ^ k*b.getD k 0:=Nat.mul_le_mul_left _ hlt
    rw [Nat.mul_add] at this
    simp only [dk]
    rw [if_pos (by omega)]
   simp only [dL,tL,go_sem,↓reduceIte,aee,h0,h1,h5,e1,e2,e3,e5,e6]
  ·have e5:((a.getD k 0:Int) < (b.getD k 0:Int))=False:=ff (by omega)
   have e7:((b.getD k 0:Int) < (a.getD k 0:Int))=False:=ff (by omega)
   have e6:dk (ac (a.take (k+1))) (ac (b.take (k+1)))=dk (ac (a.take k)) (ac (b.take k)):=by
    rw [va,vb,heq]
    simp only [dk]
    repeat' split
    all_goals first | rfl | omega
   simp only [dL,go_sem,↓reduceIte,aee,h0,h1,h5,e1,e2,e3,e5,e6,e7,e4]
   exact ih' _ _ rfl rfl rfl
  ·have e5:((a.getD k 0:Int) < (b.getD k 0:Int))=False:=ff (by omega)
   have e7:((b.getD k 0:Int) < (a.getD k 0:Int))=True:=tt (by omega)
   have e6:dk (ac (a.take (k+1))) (ac (b.take (k+1)))=1:=by
    have:4294967296 ^ k*(b.getD k 0+1)≤4294967296 ^ k*a.getD k 0:=Nat.mul_le_mul_left _ hgt
    rw [Nat.mul_add] at this
    simp only [dk]
    rw [if_neg (by omega),if_pos (by omega)]
   simp only [dL,tL,go_sem,↓reduceIte,aee,h0,h1,h5,e1,e2,e3,e5,e6,e7]
theorem zV:vC=.seq (.ops [0,1] [co 4 (.mv (.c (.v (.int .i64 0))))]) (.seq (.ops [0,1] [cm 6 0,⟨(some 7),none,.call (.c (.fn F.natural_trim [] [])) [(.t 6)]⟩,cm 8 1,⟨(some 9),none,.call (.c (.fn F.natural_trim [] [])) [(.t 8)]⟩,cm 0 7,cm 1 9]) (.seq (.seq (.ops [0,1,14] [cm 10 0,co 11 (.len false (.t 10)),cm 12 1,co 13 (.len false (.t 12)),co 14 (.bin .neq (.t 11) (.t 13))]) (.cond (.t 14) (.seq (.seq (.ops [19] [cm 15 0,co 16 (.len false (.t 15)),cm 17 1,co 18 (.len false (.t 17)),co 19 (.bin .lss (.t 16) (.t 18))]) (.cond (.t 19) (.seq (.ops [4] [co 4 (.mv (.c (.v (.int .i64 (-1)))))]) (.ret)) (.skip))) (.seq (.ops [4] [co 4 (.mv (.c (.v (.int .i64 1))))]) (.ret))) (.skip))) (.seq (.seq (.ops [0,1,5] [cm 20 0,co 21 (.len false (.t 20)),co 22 (.bin .sub (.t 21) (.c (.v (.int .i64 1)))),cm 5 22]) (.block 0 [] (.loop [0,1,5] [] dL))) tL))):=rfl
theorem dG (m:List Nat) (h:Lb m):(av (ac m)).length≤m.length:=m5 (jq h)
theorem xj {a b:List Nat} (ha:Lb a) (hb:Lb b) (h1:a.length≤100000) (h2:b.length≤100000):R F.natural_Cmp [lm a,lm b] []=some (I (dk (ac a) (ac b)),[]):=by
 refine aX Ek Ej (zF false) rfl ?_
 have la:=dG a ha
 have lb:=dG b hb
 rcases Nat.lt_trichotomy (av (ac a)).length (av (ac b)).length with hlt | heq | hgt
 ·have e1:((av (ac a)).length:Int)=((av (ac b)).length:Int)↔False:=⟨fun h=>by omega,False.elim⟩
  have e2:(((av (ac a)).length:Int) < ((av (ac b)).length:Int))=True:=tt (by omega)
  have e3:dk (ac a) (ac b)=-1:=by simp [dk,uV hlt]
  simp only [gB,zV,go_sem,↓reduceIte,aee,aeg,aef,dj ha (by omega),dj hb (by omega),e1,e2,e3]
 ·have e1:(((av (ac a)).length:Int)=((av (ac b)).length:Int))=True:=tt (by omega)
  have e2:IntKind.i64.wrap (((av (ac b)).length:Int) - 1)=((av (ac b)).length:Int) - 1:=by rw [i64_in] <;> omega
  have e3:=NX (cd (ac a)) (cd (ac b)) heq (by omega) (av (ac a)).length (Nat.le_refl _)
  rw [List.take_length,heq,List.take_length,bI,bI] at e3
  simp only [gB,zV,go_sem,↓reduceIte,aee,aeg,aef,dj ha (by omega),dj hb (by omega),heq,e2]
  rw [e3 _ _ rfl rfl rfl]
  simp only [go_sem,↓reduceIte]
 ·have e1:((av (ac a)).length:Int)=((av (ac b)).length:Int)↔False:=⟨fun h=>by omega,False.elim⟩
  have e2:(((av (ac a)).length:Int) < ((av (ac b)).length:Int))=False:=ff (by omega)
  have e3:dk (ac a) (ac b)=1:=by
   have:=uV hgt
   simp only [dk]
   rw [if_neg (by omega),if_pos this]
  simp only [gB,zV,go_sem,↓reduceIte,aee,aeg,aef,dj ha (by omega),dj hb (by omega),e1,e2,e3]
theorem Qa (v:BitVec 32):v.toNat / 2147483648=if v.msb=true then 1 else 0:=by
 have h:=v.isLt
 rw [BitVec.msb_eq_decide]
 split <;> rename_i h1 <;> simp at h1 <;> omega
theorem Ks {x y c:Nat} (hx:x < 4294967296) (hy:y < 4294967296) (hc:c≤1) (D:BitVec 32) (hD:D.toNat=(x+4294967296 - y - c) % 4294967296) :
  ((~~~(BitVec.ofNat 32 x) &&& BitVec.ofNat 32 y) ||| (~~~(BitVec.ofNat 32 x ^^^ BitVec.ofNat 32 y) &&& D)).toNat / 2147483648=if x < y+c then 1 else 0:=by
 rw [Qa]
 have h1:(BitVec.ofNat 32 x).msb=decide (2147483648≤x):=by rw [BitVec.msb_eq_decide]; simp; omega
 have h2:(BitVec.ofNat 32 y).msb=decide (2147483648≤y):=by rw [BitVec.msb_eq_decide]; simp; omega
 have h3:D.msb=decide (2147483648≤(x+4294967296 - y - c) % 4294967296):=by rw [BitVec.msb_eq_decide,hD]
 rw [BitVec.msb_or,BitVec.msb_and,BitVec.msb_and,BitVec.msb_not,BitVec.msb_not,BitVec.msb_xor,h1,h2,h3]
 by_cases a1:2147483648≤x <;> by_cases a2:2147483648≤y <;> by_cases a3:x < y+c <;> simp [a1,a2,a3] <;> omega
theorem ofI (n:Nat):BitVec.ofInt 32 (n:Int)=BitVec.ofNat 32 n:=by simp
theorem Zk (v:BitVec 32):IntKind.u32.wrap (v.toNat:Int)=(v.toNat:Int):=by
 have:=v.isLt
 rw [IntKind.wrap_u32]
 omega
theorem G7 {x y c:Nat} (hx:x < 4294967296) (hy:y < 4294967296) (hc:c≤1):R F.bits_Sub32 [U x,U y,U c] []=some (.tup [U (((x+4294967296 - y - c) % 4294967296:Nat)),U ((if x < y+c then 1 else 0:Nat))],[]):=by
 refine aX GW GV (Bm false) rfl ?_
 have e1:IntKind.u32.wrap ((x:Int) - y)=(((x+4294967296 - y) % 4294967296:Nat):Int):=by rw [IntKind.wrap_u32]; omega
 have e2:IntKind.u32.wrap ((((x+4294967296 - y) % 4294967296:Nat):Int) - c)=(((x+4294967296 - y - c) % 4294967296:Nat):Int):=by rw [IntKind.wrap_u32]; omega
 have b:IntKind.u32.bits=32:=rfl
 have e3:BitVec.ofInt 32 (if IntKind.u32.signed=true then (-1:Int) else IntKind.u32.max)=BitVec.allOnes 32:=by decide
 have e4:∀ v:BitVec 32,BitVec.allOnes 32 ^^^ v = ~~~v:=fun v=>BitVec.not_def.symm
 have e5:∀ v:BitVec 32,BitVec.ofNat 32 v.toNat=v:=fun v=>by simp
 have key:=Ks hx hy hc (BitVec.ofNat 32 ((x+4294967296 - y - c) % 4294967296)) (by simp)
 have sh:∀ v:BitVec 32,dI .shr (.v (.int .u32 (v.toNat:Int))) (.v (.int .u64 31))=some (.v (.int .u32 ((v.toNat / 2147483648:Nat):Int))):=fun v=>by
  rw [BZ,if_neg (by decide)]
  simp only [b,show min (31:Int).toNat 32=31 from rfl,Option.some.injEq,AV.v.injEq,Value.int.injEq,true_and]
  rw [Int.fdiv_eq_ediv_of_nonneg _ (by decide)]
  omega
 simp only [mZ,wZ,go_sem,↓reduceIte,aee,e1,e2,ofI,e3,e5,Zk,sh]
 rw [← e4,← e4] at key
 exact congrArg (fun n:Nat=>some (AV.tup [AV.v (Value.int IntKind.u32 ((x+4294967296 - y - c) % 4294967296:Nat)),U (n:Int)],([]:List Ob))) key
def nN (a b:List Nat):Nat→Nat
 | 0=>0
 | i+1=>if a.getD i 0 < b.getD i 0+nN a b i then 1 else 0
def zW (a b:List Nat) (i:Nat):Nat:=(a.getD i 0+4294967296 - b.getD i 0 - nN a b i) % 4294967296
def kf (a b:List Nat) (i:Nat):List Nat:=(List.range i).map (zW a b)
theorem Br (a b:List Nat) (i:Nat):nN a b i≤1:=by
 cases i with
 | zero=>simp [nN]
 | succ i=>simp only [nN]; split <;> omega
theorem G8 {a b:List Nat} (ha:Lb a) (hb:Lb b):∀ i,ac (kf a b i)+ac (b.take i)=ac (a.take i)+4294967296 ^ i*nN a b i
 | 0=>by simp [kf,nN,ac]
 | i+1=>by
  have ih:=G8 ha hb i
  rw [jz a i,jz b i]
  simp only [kf] at ih ⊢
  rw [rJ,Nat.pow_succ]
  have h1:=dQ ha i
  have h2:=dQ hb i
  have h3:=Br a b i
  have e:zW a b i+b.getD i 0+nN a b i=a.getD i 0+4294967296*nN a b (i+1):=by
   simp only [zW,nN]
   split <;> omega
  have h4:4294967296 ^ i*(zW a b i+b.getD i 0+nN a b i)=4294967296 ^ i*(a.getD i 0+4294967296*nN a b (i+1)):=by rw [e]
  simp only [Nat.mul_add] at h4
  rw [← Nat.mul_assoc] at h4
  omega
theorem mN (a b:List Nat) (i:Nat):(kf a b i).length=i:=by simp [kf]
theorem IP (a b:List Nat) (i:Nat):Lb (kf a b i):=fun x hx=>by
 simp only [kf,List.mem_map] at hx
 obtain ⟨j,_,rfl⟩:=hx
 simp only [zW]
 omega
theorem NY {a b:List Nat} (ha:Lb a) (hb:Lb b) (hl:b.length≤a.length) (hv:ac b≤ac a):kf a b a.length=di a.length (ac a - ac b):=by
 have h:=G8 ha hb a.length
 rw [List.take_length,List.take_of_length_le hl] at h
 have h1:=jq (IP a b a.length)
 rw [mN] at h1
 have hz:nN a b a.length=0:=by
  have:=Br a b a.length
  rcases Nat.eq_zero_or_pos (nN a b a.length) with h0 | h0
  ·exact h0
  ·have:nN a b a.length=1:=by omega
   rw [this] at h
   omega
 rw [hz] at h
 have h2:=uP (IP a b a.length)
 rw [mN,show ac (kf a b a.length)=ac a - ac b from by omega] at h2
 exact h2.symm
theorem NZ {a b:List Nat} (ha:Lb a) (hb:Lb b) (h2:a.length≤100000):∀ (k i:Nat),i+k=a.length→∀ (s:af) (h:aa),s 1=lm b→s 5=.rsl 16 none 1 0 a.length→s 6=U (nN a b i:Nat) →
  s 17=lm a→s 18=I (a.length:Nat)→s 19=I i→h 16=.ar 1 (aP (kf a b i++List.replicate k 0)) →
  aI 0 [5] (aU (az R (ab false) gP) [1,5,6,17,18,19] [16] s h) =
   some (.normal,⟨upd (fun _=>.any) 5 (.rsl 16 none 1 0 a.length),upd (fun _=>.dead) 16 (.ar 1 (aP (kf a b a.length)))⟩):=by
 intro k
 induction k with
 | zero =>
  intro i hi s h h1 h5 h6 h17 h18 h19 hh
  have:i=a.length:=by omega
  subst this
  rw [aB]
  simp only [List.replicate_zero,List.append_nil] at hh
  simp only [gP,go_sem,↓reduceIte,aee,aei,h1,h5,h6,h17,h18,h19,hh,Int.lt_irrefl]
 | succ k ih =>
  intro i hi s h h1 h5 h6 h17 h18 h19 hh
  have ih':=ih (i+1) (by omega)
  have e1:((i:Int) < (a.length:Int))=True:=tt (by omega)
  have e2:bH (aP a) (i:Int)=some (.ipt [U (a.getD i 0:Nat)]):=de rfl (by omega)
  have e3:IntKind.i64.wrap ((i:Int)+1)=((i+1:Nat):Int):=wi (by omega) (by omega)
  have e4:(0≤(i:Int))=True:=tt (by omega)
  have e7:(aP (kf a b i++List.replicate (k+1) 0))[i]?=some [U (0:Nat)]:=by
   rw [qV (by simp [mN])]
   simp [List.getD_eq_getElem?_getD,mN]
  have e8:(aP (kf a b i++List.replicate (k+1) 0)).set i [U ((a.getD i 0+4294967296 - b.getD i 0 - nN a b i) % 4294967296:Nat)]=aP (kf a b (i+1)++List.replicate k 0):=by
   rw [qW]
   have:=rK (kf a b i) (k+1) (zW a b i) 0 (by omega)
   rw [mN] at this
   rw [show (a.getD i 0+4294967296 - b.getD i 0 - nN a b i) % 4294967296=zW a b i from rfl,this]
   simp [kf,List.range_succ]
  rw [aB]
  generalize aU _ _ _=L at ih' ⊢
  by_cases hb':i < b.length
  ·have e6:=G7 (dQ ha i) (dQ hb i) (Br a b i)
   have e9:((i:Int) < (b.length:Int))=True:=tt (by omega)
   have e10:bH (aP b) (i:Int)=some (.ipt [U (b.getD i 0:Nat)]):=de rfl hb'
   simp only [gP,go_sem,↓reduceIte,aee,aeg,aef,aeh,aei,h1,h5,h6,h17,h18,h19,hh,e1,e2,e3,e4,e6,e7,e8,e9,e10,Int.toNat_natCast,Nat.zero_add]
   exact ih' _ _ rfl rfl rfl rfl rfl rfl rfl
  ·have e9:((i:Int) < (b.length:Int))=False:=ff (by omega)
   have e10:b.getD i 0=0:=by simp [List.getD_eq_getElem?_getD,List.getElem?_eq_none (show b.length≤i from by omega)]
   have e6':=G7 (dQ ha i) (y:=0) (by omega) (Br a b i)
   simp only [Int.natCast_zero] at e6'
   have e8':(aP (kf a b i++List.replicate (k+1) 0)).set i [U ((a.getD i 0+4294967296 - 0 - nN a b i) % 4294967296:Nat)]=aP (kf a b (i+1)++List.replicate k 0):=by
    have e8':=e8
    rw [e10] at e8'
    exact e8'
   simp only [gP,go_sem,↓reduceIte,aee,aeg,aef,aeh,aei,h1,h5,h6,h17,h18,h19,hh,e1,e2,e3,e4,e6',e7,e8',e9,Int.toNat_natCast,Nat.zero_add]
   refine ih' _ _ rfl rfl ?_ rfl rfl rfl rfl
   simp only [nN,e10,Nat.zero_add]
   rfl
theorem LJ {a b:List Nat} (ha:Lb a) (hb:Lb b) (h1:a.length≤100000) (h2:b.length≤100000) (hv:ac b≤ac a):R F.natural_sub [lm a,lm b] []=some (lm (di (av (ac a)).length (ac a - ac b)),[]):=by
 refine aX EC EB (zQ false) rfl ?_
 have la:=dG a ha
 have lb:(av (ac b)).length≤(av (ac a)).length:=by
  rcases Nat.lt_or_ge (av (ac a)).length (av (ac b)).length with h | h
  ·have:=uV h; omega
  ·exact h
 have e2:=qm (i:=((av (ac a)).length:Int)) (j:=((av (ac a)).length:Int)) rfl rfl (Nat.le_refl _) (by omega)
 have e3:((av (ac a)).length*4≤140737488355328)=True:=tt (by omega)
 have e4:=NZ (cd (ac a)) (cd (ac b)) (by omega) (av (ac a)).length 0 (by omega)
 have e5:aP (List.replicate (av (ac a)).length 0)=aP (kf (av (ac a)) (av (ac b)) 0++List.replicate (av (ac a)).length 0):=rfl
 have e6:=NY (cd (ac a)) (cd (ac b)) lb (by rw [bI,bI]; exact hv)
 rw [bI,bI] at e6
 simp only [lX,vE,go_sem,↓reduceIte,aee,aeg,aef,dj ha (by omega),dj hb (by omega),e2,e3,tJ,e5]
 rw [e4 _ _ rfl rfl rfl rfl rfl rfl rfl]
 simp only [go_sem,↓reduceIte,aeh,aej,e6,cq,Nat.zero_add,Nat.le_refl]
theorem RZ {a b:List Nat} (ha:Lb a) (hb:Lb b) (h1:a.length≤256) (h2:b.length≤256):R F.natural_Sub [lm a,lm b] []=some (if ac a < ac b then .tup [lm [],I 2] else i8 (ac a - ac b),[]):=by
 refine aX En Em (zG false) rfl ?_
 have e1:(256 < a.length)=False:=ff (by omega)
 have e2:(256 < b.length)=False:=ff (by omega)
 by_cases hv:ac a < ac b
 ·have e3:dk (ac a) (ac b)=-1:=by simp [dk,hv]
  simp only [gC,mX,go_sem,↓reduceIte,aee,aeg,aef,aeh,aej,anW,e1,e2,ns,xj ha hb (by omega) (by omega),e3,hv]
 ·have e3:(dk (ac a) (ac b) < 0)=False:=ff (by simp only [dk]; split <;> (try split) <;> omega)
  have e5:ac (di (av (ac a)).length (ac a - ac b))=ac a - ac b:=by
   rw [px,Nat.mod_eq_of_lt]
   have:=ij (ac a)
   omega
  have e4:=tK (pv (av (ac a)).length (ac a - ac b)) (by rw [cq]; have:=dG a ha; omega)
  rw [e5] at e4
  unfold i8 at e4 ⊢
  by_cases hl:256 < (av (ac a - ac b)).length
  ·simp only [hl,if_true] at e4 ⊢
   simp only [gC,mX,go_sem,↓reduceIte,aee,aeg,aef,aeh,aej,e1,e2,ns,xj ha hb (by omega) (by omega),e3,hv,LJ ha hb (by omega) (by omega) (by omega),e4]
  ·simp only [hl,if_false] at e4 ⊢
   simp only [gC,mX,go_sem,↓reduceIte,aee,aeg,aef,aeh,aej,e1,e2,ns,xj ha hb (by omega) (by omega),e3,hv,LJ ha hb (by omega) (by omega) (by omega),e4]
end Go.Ab
namespace Go.Ab
open Go Go.IntWalk
set_option maxRecDepth 4000
end Go.Ab
namespace Go.Ab
open Go Go.IntWalk
set_option maxRecDepth 4000
theorem IQ {n m:Nat} {i j:Int} (hi:i=n) (hj:j=m) (hm:m ≠ 0):dI .rem (.v (.int .i64 i)) (.v (.int .i64 j))=some (.v (.int .i64 ((n % m:Nat):Int))):=by
 subst hi hj
 rw [IE,if_neg (by omega),Int.tmod_eq_emod_of_nonneg (by omega)]
 rfl
theorem IR {n m:Nat} {i j:Int} (hi:i=n) (hj:j=m) (hm:m ≠ 0) (hn:n < 9223372036854775808):dI .quo (.v (.int .i64 i)) (.v (.int .i64 j))=some (.v (.int .i64 ((n / m:Nat):Int))):=by
 subst hi hj
 rw [PG,if_neg (by omega),Int.tdiv_eq_ediv_of_nonneg (by omega)]
 have:n / m≤n:=Nat.div_le_self _ _
 rw [wi (n:=n / m) (by simp) (by omega)]
theorem Pm {n k:Nat} {i:Int} {kk:IntKind} {j:Int} (hi:i=n) (hj:j=k) (hk:k≤64) (h:n*2 ^ k < 18446744073709551616):dI .shl (.v (.int .u64 i)) (.v (.int kk j))=some (.v (.int .u64 ((n*2 ^ k:Nat):Int))):=by
 subst hi hj
 rw [PH,if_neg (by omega)]
 have:min (k:Int).toNat IntKind.u64.bits=k:=by simp [IntKind.bits]; omega
 rw [this,ql (n:=n*2 ^ k) (by simp) h]
theorem R4 {m n:Nat} {i j:Int} (hi:i=m) (hj:j=n) (hm:m < 18446744073709551616) (hn:n < 18446744073709551616):dI .or (.v (.int .u64 i)) (.v (.int .u64 j))=some (.v (.int .u64 ((m ||| n:Nat):Int))):=by
 subst hi hj
 rw [RA]
 have e:(BitVec.ofInt IntKind.u64.bits (m:Int) ||| BitVec.ofInt IntKind.u64.bits (n:Int)).toNat=m ||| n:=by
  show (BitVec.ofInt 64 (m:Int) ||| BitVec.ofInt 64 (n:Int)).toNat=m ||| n
  rw [BitVec.toNat_or]
  simp
  rw [Nat.mod_eq_of_lt hm,Nat.mod_eq_of_lt hn]
 rw [e]
 rw [ql rfl (Nat.or_lt_two_pow (n:=64) hm hn)]
theorem LO {x c k:Nat} (hc:c < 2 ^ k):x*2 ^ k ||| c=x*2 ^ k+c:=by
 have:=Nat.shiftLeft_add_eq_or_of_lt hc x
 rw [Nat.shiftLeft_eq] at this
 exact this.symm
def fS (a:List Nat) (r:Nat):Nat→Nat
 | 0=>0
 | i+1=>(a.getD i 0*2 ^ r+fS a r i) / 4294967296
def nO (a:List Nat) (r i:Nat):List Nat:=(List.range i).map fun j=>(a.getD j 0*2 ^ r+fS a r j) % 4294967296
theorem Bs {a:List Nat} (ha:Lb a) {r:Nat}:∀ i,fS a r i < 2 ^ r
 | 0=>by simp only [fS]; exact Nat.two_pow_pos r
 | i+1=>by
  have ih:=Bs ha (r:=r) i
  have:=dQ ha i
  simp only [fS]
  rw [Nat.div_lt_iff_lt_mul (by omega)]
  have h1:a.getD i 0*2 ^ r+2 ^ r≤4294967296*2 ^ r:=by
   rw [← Nat.succ_mul]
   exact Nat.mul_le_mul_right _ (by omega)
  rw [Nat.mul_comm 4294967296] at h1
  omega
theorem qQ (a:List Nat) (r i:Nat):(nO a r i).length=i:=by simp [nO]
theorem R5 (a:List Nat) (r i:Nat):Lb (nO a r i):=fun x hx=>by
 simp only [nO,List.mem_map] at hx
 obtain ⟨j,_,rfl⟩:=hx
 omega
theorem IS (a:List Nat) (r:Nat):∀ i,ac (nO a r i)+4294967296 ^ i*fS a r i=ac (a.take i)*2 ^ r
 | 0=>by simp [nO,fS,ac]
 | i+1=>by
  have ih:=IS a r i
  rw [jz a i]
  simp only [nO] at ih ⊢
  rw [rJ,Nat.pow_succ]
  have e:fS a r (i+1)*4294967296+(a.getD i 0*2 ^ r+fS a r i) % 4294967296=a.getD i 0*2 ^ r+fS a r i:=by
   simp only [fS]
   omega
  have h1:4294967296 ^ i*(fS a r (i+1)*4294967296+(a.getD i 0*2 ^ r+fS a r i) % 4294967296)=4294967296 ^ i*(a.getD i 0*2 ^ r+fS a r i):=by rw [e]
  simp only [Nat.mul_add] at h1
  have h2:4294967296 ^ i*4294967296*fS a r (i+1)=4294967296 ^ i*(fS a r (i+1)*4294967296):=by rw [Nat.mul_assoc,Nat.mul_comm 4294967296]
  have h3:(ac (a.take i)+4294967296 ^ i*a.getD i 0)*2 ^ r=ac (a.take i)*2 ^ r+4294967296 ^ i*(a.getD i 0*2 ^ r):=by rw [Nat.add_mul,Nat.mul_assoc]
  omega
theorem N1 {a:List Nat} (ha:Lb a) {n q:Nat} (h1:a.length≤100000) (hq:q≤100000):∀ (k i:Nat),i+k=a.length→∀ (s:af) (h:aa),s 1=I (n:Nat)→s 5=.rsl 20 none 1 0 (q+i)→s 6=W (fS a (n % 32) i:Nat)→s 21=lm a→s 22=I (a.length:Nat)→s 23=I i →
  h 20=.ar 1 (aP (List.replicate q 0++nO a (n % 32) i))→h 38=.dead →
  aI 0 [5,6] (aU (az R (ab false) jX) [1,5,6,21,22,23] [20,38] s h) =
   some (.normal,⟨upd (upd (fun _=>.any) 6 (W (fS a (n % 32) a.length:Nat))) 5 (.rsl 20 none 1 0 (q+a.length)),upd (upd (fun _=>.dead) 38 .dead) 20 (.ar 1 (aP (List.replicate q 0++nO a (n % 32) a.length)))⟩):=by
 intro k
 induction k with
 | zero =>
  intro i hi s h g1 h5 h6 h21 h22 h23 hh hh2
  have:i=a.length:=by omega
  subst this
  rw [aB]
  simp only [jX,go_sem,↓reduceIte,aee,aei,g1,h5,h6,h21,h22,h23,hh,hh2,Int.lt_irrefl]
 | succ k ih =>
  intro i hi s h g1 h5 h6 h21 h22 h23 hh hh2
  have ih':=ih (i+1) (by omega)
  have hx:=dQ ha i
  have hr:n % 32 < 32:=Nat.mod_lt _ (by omega)
  have hc:=Bs ha (r:=n % 32) i
  have hp:2 ^ (n % 32)≤2 ^ 31:=Nat.pow_le_pow_right (by omega) (by omega)
  have hxp:a.getD i 0*2 ^ (n % 32)≤4294967295*2 ^ 31:=Nat.mul_le_mul (by omega) hp
  have e1:((i:Int) < (a.length:Int))=True:=tt (by omega)
  have e2:bH (aP a) (i:Int)=some (.ipt [U (a.getD i 0:Nat)]):=de rfl (by omega)
  have e3:IntKind.i64.wrap ((i:Int)+1)=((i+1:Nat):Int):=wi (by omega) (by omega)
  have e4:IntKind.u64.wrap (a.getD i 0:Int)=(a.getD i 0:Int):=ql rfl (by omega)
  have e5:=IQ (n:=n) (m:=32) (j:=32) rfl rfl (by omega)
  have e6:=Pm (n:=a.getD i 0) (k:=n % 32) (kk:=.i64) rfl rfl (by omega) (by omega)
  have e7:=R4 (m:=a.getD i 0*2 ^ (n % 32)) (n:=fS a (n % 32) i) rfl rfl (by omega) (by omega)
  rw [LO hc] at e7
  have e8:IntKind.u32.wrap ((a.getD i 0*2 ^ (n % 32)+fS a (n % 32) i:Nat):Int)=(((a.getD i 0*2 ^ (n % 32)+fS a (n % 32) i) % 4294967296:Nat):Int):=G1 rfl
  have e9:=Bp (n:=a.getD i 0*2 ^ (n % 32)+fS a (n % 32) i) (k:=32) (kk:=.u64) (j:=32) rfl rfl (by omega)
  have f1:aP (List.replicate q 0++nO a (n % 32) i)++[[U ((a.getD i 0*2 ^ (n % 32)+fS a (n % 32) i) % 4294967296:Nat)]]=aP (List.replicate q 0++nO a (n % 32) (i+1)):=by
   rw [show [[U ((a.getD i 0*2 ^ (n % 32)+fS a (n % 32) i) % 4294967296:Nat)]]=aP [(a.getD i 0*2 ^ (n % 32)+fS a (n % 32) i) % 4294967296] from rfl,Bn,List.append_assoc]
   simp [nO,List.range_succ]
  have f2:(q+i=(List.replicate q 0++nO a (n % 32) i).length)=True:=tt (by simp [qQ])
  have f3:((q+i+1)*4≤140737488355328)=True:=tt (by omega)
  rw [aB]
  generalize aU _ _ _=L at ih' ⊢
  simp only [jX,go_sem,↓reduceIte,aee,aeh,aej,aei,g1,h5,h6,h21,h22,h23,hh,hh2,e1,e2,e3,e4,e5,e6,e7,e8,e9,f1,f2,f3,true_or,Nat.zero_add,Nat.le_refl]
  exact ih' _ _ rfl rfl rfl rfl rfl rfl rfl rfl
theorem xn (n:Nat):4294967296 ^ (n / 32)*2 ^ (n % 32)=2 ^ n:=by
 rw [show (4294967296:Nat)=2 ^ 32 from rfl,← Nat.pow_mul,← Nat.pow_add]
 congr 1
 omega
theorem Qb {a:List Nat} (ha:Lb a) (n:Nat):List.replicate (n / 32) 0++nO a (n % 32) a.length++[fS a (n % 32) a.length]=di (n / 32+a.length+1) (ac a*2 ^ n):=by
 have hr:n % 32 < 32:=Nat.mod_lt _ (by omega)
 have hc:=Bs ha (r:=n % 32) a.length
 have hp:2 ^ (n % 32)≤2 ^ 31:=Nat.pow_le_pow_right (by omega) (by omega)
 have h:=IS a (n % 32) a.length
 rw [List.take_length] at h
 have hLb:Lb (List.replicate (n / 32) 0++nO a (n % 32) a.length++[fS a (n % 32) a.length]) :=
  nM.2 ⟨nM.2 ⟨fun y hy=>by rw [List.eq_of_mem_replicate hy]; omega,R5 _ _ _⟩,eQ.2 ⟨by omega,AW⟩⟩
 have hv:ac (List.replicate (n / 32) 0++nO a (n % 32) a.length++[fS a (n % 32) a.length])=ac a*2 ^ n:=by
  rw [List.append_assoc,fk,Df,fk,qQ,List.length_replicate]
  simp only [ac,Nat.mul_zero,Nat.add_zero,Nat.zero_add]
  rw [h,← xn n,Nat.mul_left_comm]
 have:=uP hLb
 rw [hv] at this
 rw [← this]
 congr 1
 simp [qQ]
 omega
theorem LP {a:List Nat} (ha:Lb a) {n:Nat} (h1:a.length≤100000) (hn:n≤65536):R F.natural_shl [lm a,I n] []=some (lm (di (n / 32+(av (ac a)).length+1) (ac a*2 ^ n)),[]):=by
 refine aX EF EE (zR false) rfl ?_
 have la:=dG a ha
 have hc:=Bs (cd (ac a)) (r:=n % 32) (av (ac a)).length
 have hp:2 ^ (n % 32)≤2 ^ 31:=Nat.pow_le_pow_right (by omega) (by have:n % 32 < 32:=Nat.mod_lt _ (by omega); omega)
 have e1:=IR (n:=n) (m:=32) (j:=32) rfl rfl (by omega) (by omega)
 have e2:IntKind.i64.wrap (((n / 32:Nat):Int)+((av (ac a)).length:Int))=((n / 32+(av (ac a)).length:Nat):Int):=wi (by omega) (by omega)
 have e3:IntKind.i64.wrap (((n / 32+(av (ac a)).length:Nat):Int)+1)=((n / 32+(av (ac a)).length+1:Nat):Int):=wi (by omega) (by omega)
 have e4:=qm (i:=((n / 32:Nat):Int)) (j:=((n / 32+(av (ac a)).length+1:Nat):Int)) rfl rfl (by omega) (by omega)
 have e5:((n / 32+(av (ac a)).length+1)*4≤140737488355328)=True:=tt (by omega)
 have e6:=N1 (cd (ac a)) (n:=n) (q:=n / 32) (by omega) (by omega) (av (ac a)).length 0 (by omega)
 have e7:aP (List.replicate (n / 32) 0)=aP (List.replicate (n / 32) 0++nO (av (ac a)) (n % 32) 0):=by simp [nO]
 have e8:IntKind.u32.wrap ((fS (av (ac a)) (n % 32) (av (ac a)).length:Nat):Int)=((fS (av (ac a)) (n % 32) (av (ac a)).length:Nat):Int):=RX rfl (by omega)
 have f1:aP (List.replicate (n / 32) 0++nO (av (ac a)) (n % 32) (av (ac a)).length)++[[U (fS (av (ac a)) (n % 32) (av (ac a)).length:Nat)]]=aP (di (n / 32+(av (ac a)).length+1) (ac a*2 ^ n)):=by
  have:=Qb (cd (ac a)) n
  rw [bI] at this
  rw [← this,show [[U (fS (av (ac a)) (n % 32) (av (ac a)).length:Nat)]]=aP [fS (av (ac a)) (n % 32) (av (ac a)).length] from rfl,Bn]
 have f2:(n / 32+(av (ac a)).length=(List.replicate (n / 32) 0++nO (av (ac a)) (n % 32) (av (ac a)).length).length)=True:=tt (by simp [qQ])
 simp only [l4,vG,go_sem,↓reduceIte,aee,aeg,aef,dj ha (by omega),e1,e2,e3,e4,e5,tJ,e7]
 rw [e6 _ _ rfl rfl rfl rfl rfl rfl rfl rfl]
 simp only [go_sem,↓reduceIte,aee,aeh,aej,e8,f1,f2,e5,true_or,Nat.zero_add,Nat.le_refl,cq]
theorem R6 {a:List Nat} (ha:Lb a) {n:Int} (h1:a.length≤256):R F.natural_Shl [lm a,I n] []=some (if n < 0∨65536 < n then .tup [lm [],I 2] else i8 (ac a*2 ^ n.toNat),[]):=by
 refine aX Eu Et (zO false) rfl ?_
 have e1:(256 < a.length)=False:=ff (by omega)
 by_cases hn:n < 0
 ·simp only [eO,kw,go_sem,↓reduceIte,aee,aeg,aef,aeh,aej,e1,ke,hn,true_or]
 by_cases hn2:65536 < n
 ·simp only [eO,kw,go_sem,↓reduceIte,aee,aeg,aef,aeh,aej,e1,ke,hn,hn2,or_true]
 obtain ⟨m,rfl⟩:=Int.eq_ofNat_of_zero_le (show 0≤n by omega)
 have la:=dG a ha
 have e3:ac (di (m / 32+(av (ac a)).length+1) (ac a*2 ^ m))=ac a*2 ^ m:=by
  rw [px,Nat.mod_eq_of_lt]
  have h:=ij (ac a)
  have h2:2 ^ m≤4294967296 ^ (m / 32+1):=by
   rw [show (4294967296:Nat)=2 ^ 32 from rfl,← Nat.pow_mul]
   exact Nat.pow_le_pow_right (by omega) (by omega)
  rw [show m / 32+(av (ac a)).length+1=(av (ac a)).length+(m / 32+1) from by omega,Nat.pow_add]
  exact Nat.mul_lt_mul_of_lt_of_le h h2 (Nat.pow_pos (by omega))
 have e4:=tK (pv (m / 32+(av (ac a)).length+1) (ac a*2 ^ m)) (by rw [cq]; omega)
 rw [e3] at e4
 unfold i8 at e4 ⊢
 by_cases hl:256 < (av (ac a*2 ^ m)).length
 ·simp only [hl,if_true] at e4
  simp only [eO,kw,go_sem,↓reduceIte,aee,aeg,aef,aeh,aej,e1,ke,hn,hn2,LP ha (n:=m) (by omega) (by omega),e4,or_false,Int.toNat_natCast,hl]
 ·simp only [hl,if_false] at e4
  simp only [eO,kw,go_sem,↓reduceIte,aee,aeg,aef,aeh,aej,e1,ke,hn,hn2,LP ha (n:=m) (by omega) (by omega),e4,or_false,Int.toNat_natCast,hl]
theorem G9 {l:List Nat} (h:Lb l) (i:Nat):ac (l.drop i)=ac l / 4294967296 ^ i:=by
 rcases Nat.lt_or_ge l.length i with hi | hi
 ·rw [List.drop_of_length_le (by omega)]
  have:=jq h
  have h2:4294967296 ^ l.length≤4294967296 ^ i:=Nat.pow_le_pow_right (by omega) (by omega)
  rw [Nat.div_eq_of_lt (by omega)]
  rfl
 ·have h1:ac l=ac (l.take i)+4294967296 ^ i*ac (l.drop i):=by
   conv=>lhs; rw [← List.take_append_drop i l]
   rw [fk,List.length_take,Nat.min_eq_left hi]
  have h2:=jq (qU h i)
  rw [List.length_take,Nat.min_eq_left hi] at h2
  rw [h1,Nat.add_mul_div_left _ _ (Nat.pow_pos (by omega)),Nat.div_eq_of_lt h2]
  omega
theorem en (l:List Nat) (i:Nat):ac (l.drop i)=l.getD i 0+4294967296*ac (l.drop (i+1)):=by
 rcases Nat.lt_or_ge i l.length with hi | hi
 ·rw [List.drop_eq_getElem_cons hi,ac]
  simp [List.getD_eq_getElem?_getD,hi]
 ·rw [List.drop_of_length_le hi,List.drop_of_length_le (by omega)]
  simp [List.getD_eq_getElem?_getD,List.getElem?_eq_none hi,ac]
def uW (a:List Nat) (r i:Nat):Nat:=(a.getD i 0+4294967296*a.getD (i+1) 0) / 2 ^ r % 4294967296
theorem Qc {a:List Nat} (ha:Lb a) {r:Nat} (hr:r≤32) (i:Nat):uW a r i=IN (ac a / 2 ^ r) i:=by
 unfold uW IN
 have e0:ac a / 2 ^ r / 4294967296 ^ i=ac (a.drop i) / 2 ^ r:=by rw [Nat.div_div_eq_div_mul,Nat.mul_comm,← Nat.div_div_eq_div_mul,← G9 ha]
 rw [e0,en a i,en a (i+1)]
 generalize ac (a.drop (i+1+1))=w
 have e:(4294967296:Nat)=2 ^ r*2 ^ (32 - r):=by rw [← Nat.pow_add,show r+(32 - r)=32 from by omega]
 have h1:a.getD i 0+4294967296*(a.getD (i+1) 0+4294967296*w)=(a.getD i 0+4294967296*a.getD (i+1) 0)+2 ^ r*(2 ^ (32 - r)*4294967296*w):=by
  have:2 ^ r*(2 ^ (32 - r)*4294967296*w)=4294967296*4294967296*w:=by
   rw [← Nat.mul_assoc,← Nat.mul_assoc,← e]
  rw [this,Nat.mul_add]
  omega
 rw [h1,Nat.add_mul_div_left _ _ (Nat.two_pow_pos r),Nat.mul_assoc,Nat.mul_left_comm,Nat.add_mul_mod_self_left]
def pE (a:List Nat) (r i:Nat):List Nat:=(List.range i).map (uW a r)
theorem pU (a:List Nat) (r i:Nat):(pE a r i).length=i:=by simp [pE]
theorem N2 {a:List Nat} (ha:Lb a) {r:Nat} (hr:r≤32):pE a r a.length=di a.length (ac a / 2 ^ r):=by
 refine G3 (pU _ _ _) fun i hi=>?_
 rw [← Qc ha hr]
 simp [pE,hi]
theorem N3 {a:List Nat} (ha:Lb a) {n:Nat} (h1:a.length≤100000):∀ (k i:Nat),i+k=a.length→∀ (s:af) (h:aa),s 0=lm a→s 1=I (n:Nat)→s 5=.rsl 22 none 1 0 a.length→s 23=lm a→s 24=I (a.length:Nat)→s 25=I i →
  h 22=.ar 1 (aP (pE a (n % 32) i++List.replicate k 0)) →
  aI 0 [5] (aU (az R (ab false) gO) [0,1,5,23,24,25] [22] s h) =
   some (.normal,⟨upd (fun _=>.any) 5 (.rsl 22 none 1 0 a.length),upd (fun _=>.dead) 22 (.ar 1 (aP (pE a (n % 32) a.length)))⟩):=by
 intro k
 induction k with
 | zero =>
  intro i hi s h h0 g1 h5 h23 h24 h25 hh
  have:i=a.length:=by omega
  subst this
  rw [aB]
  simp only [List.replicate_zero,List.append_nil] at hh
  simp only [gO,go_sem,↓reduceIte,aee,aei,h0,g1,h5,h23,h24,h25,hh,Int.lt_irrefl]
 | succ k ih =>
  intro i hi s h h0 g1 h5 h23 h24 h25 hh
  have ih':=ih (i+1) (by omega)
  have hx:=dQ ha i
  have hy:=dQ ha (i+1)
  have hr:n % 32 < 32:=Nat.mod_lt _ (by omega)
  have e1:((i:Int) < (a.length:Int))=True:=tt (by omega)
  have e2:bH (aP a) (i:Int)=some (.ipt [U (a.getD i 0:Nat)]):=de rfl (by omega)
  have e3:IntKind.i64.wrap ((i:Int)+1)=((i+1:Nat):Int):=wi (by omega) (by omega)
  have e4:IntKind.u64.wrap (a.getD i 0:Int)=(a.getD i 0:Int):=ql rfl (by omega)
  have e5:=IQ (n:=n) (m:=32) (j:=32) rfl rfl (by omega)
  have e6:(0≤(i:Int))=True:=tt (by omega)
  have e7:(aP (pE a (n % 32) i++List.replicate (k+1) 0))[i]?=some [U (0:Nat)]:=by
   rw [qV (by simp [pU])]
   simp [List.getD_eq_getElem?_getD,pU]
  have e8:(aP (pE a (n % 32) i++List.replicate (k+1) 0)).set i [U (uW a (n % 32) i:Nat)]=aP (pE a (n % 32) (i+1)++List.replicate k 0):=by
   rw [qW]
   have:=rK (pE a (n % 32) i) (k+1) (uW a (n % 32) i) 0 (by omega)
   rw [pU] at this
   rw [this]
   simp [pE,List.range_succ]
  rw [aB]
  generalize aU _ _ _=L at ih' ⊢
  by_cases hl:i+1 < a.length
  ·have f1:(((i+1:Nat):Int) < (a.length:Int))=True:=tt (by omega)
   have f2:bH (aP a) ((i+1:Nat):Int)=some (.ipt [U (a.getD (i+1) 0:Nat)]):=de rfl hl
   have f3:IntKind.u64.wrap (a.getD (i+1) 0:Int)=(a.getD (i+1) 0:Int):=ql rfl (by omega)
   have f4:=Pm (n:=a.getD (i+1) 0) (k:=32) (kk:=.u64) (j:=32) rfl rfl (by omega) (by omega)
   have f5:=R4 (m:=a.getD i 0) (n:=a.getD (i+1) 0*2 ^ 32) rfl rfl (by omega) (by omega)
   rw [Nat.or_comm,LO (show a.getD i 0 < 2 ^ 32 from by omega)] at f5
   have f6:=Bp (n:=a.getD (i+1) 0*2 ^ 32+a.getD i 0) (k:=n % 32) (kk:=.i64) rfl rfl (by omega)
   have f7:IntKind.u32.wrap (((a.getD (i+1) 0*2 ^ 32+a.getD i 0) / 2 ^ (n % 32):Nat):Int)=((uW a (n % 32) i:Nat):Int):=by
    rw [G1 rfl]
    unfold uW
    rw [show a.getD (i+1) 0*2 ^ 32+a.getD i 0=a.getD i 0+4294967296*a.getD (i+1) 0 from by omega]
   simp only [gO,go_sem,↓reduceIte,aee,aeh,aei,h0,g1,h5,h23,h24,h25,hh,e1,e2,e3,e4,e5,e6,e7,e8,f1,f2,f3,f4,f5,f6,f7,Int.toNat_natCast,Nat.zero_add]
   exact ih' _ _ rfl rfl rfl rfl rfl rfl rfl
  ·have f1:(((i+1:Nat):Int) < (a.length:Int))=False:=ff (by omega)
   have f2:a.getD (i+1) 0=0:=by simp [List.getD_eq_getElem?_getD,List.getElem?_eq_none (show a.length≤i+1 from by omega)]
   have f6:=Bp (n:=a.getD i 0) (k:=n % 32) (kk:=.i64) rfl rfl (by omega)
   have f7:IntKind.u32.wrap ((a.getD i 0 / 2 ^ (n % 32):Nat):Int)=((uW a (n % 32) i:Nat):Int):=by
    rw [G1 rfl]
    unfold uW
    rw [f2]
    rfl
   simp only [gO,go_sem,↓reduceIte,aee,aeh,aei,h0,g1,h5,h23,h24,h25,hh,e1,e2,e3,e4,e5,e6,e7,e8,f1,f6,f7,Int.toNat_natCast,Nat.zero_add]
   exact ih' _ _ rfl rfl rfl rfl rfl rfl rfl
theorem R7 {a:List Nat} (ha:Lb a) {n:Nat} (h1:a.length≤100000) (hn:n≤100000000):R F.natural_shr [lm a,I n] []=some (lm (di ((av (ac a)).length - n / 32) (ac a / 2 ^ n)),[]):=by
 refine aX Er Ep (zN false) rfl ?_
 have la:=dG a ha
 have e1:=IR (n:=n) (m:=32) (j:=32) rfl rfl (by omega) (by omega)
 by_cases hl:(av (ac a)).length≤n / 32
 ·have e2:(((av (ac a)).length:Int)≤((n / 32:Nat):Int))=True:=tt (by omega)
  have e3:di ((av (ac a)).length - n / 32) (ac a / 2 ^ n)=[]:=by rw [show (av (ac a)).length - n / 32=0 from by omega]; rfl
  simp only [jo,qz,go_sem,↓reduceIte,aee,aeg,aef,dj ha (by omega),e1,e2,e3]
 ·have e2:(((av (ac a)).length:Int)≤((n / 32:Nat):Int))=False:=ff (by omega)
  have hD:((av (ac a)).drop (n / 32)).length=(av (ac a)).length - n / 32:=by simp
  have hLD:Lb ((av (ac a)).drop (n / 32)):=tC (cd _) _
  have e3:dJ 1 (lm (av (ac a))) (some (I (n / 32:Nat))) none none=some (lm ((av (ac a)).drop (n / 32))):=by
   rw [GZ (a:=n / 32) (b:=(av (ac a)).length) (uU rfl (by omega)) rfl (Nat.le_refl _),List.take_of_length_le (by omega)]
  have hv:ac ((av (ac a)).drop (n / 32)) / 2 ^ (n % 32)=ac a / 2 ^ n:=by
   rw [G9 (cd _),bI,Nat.div_div_eq_div_mul,xn]
  have e6:=N2 hLD (r:=n % 32) (by omega)
  rw [hv,hD] at e6
  generalize (av (ac a)).drop (n / 32)=D at *
  have e4:=qm (i:=(D.length:Int)) (j:=(D.length:Int)) rfl rfl (Nat.le_refl _) (by omega)
  have e5:(D.length*4≤140737488355328)=True:=tt (by omega)
  have e7:=N3 hLD (n:=n) (by omega) D.length 0 (by omega)
  have e8:aP (List.replicate D.length 0)=aP (pE D (n % 32) 0++List.replicate D.length 0):=by simp [pE]
  rw [← hD] at e6 ⊢
  simp only [jo,qz,go_sem,↓reduceIte,aee,aeg,aef,dj ha (by omega),e1,e2,e3,e4,e5,tJ,e8]
  rw [e7 _ _ rfl rfl rfl rfl rfl rfl rfl]
  simp only [go_sem,↓reduceIte,aeh,aej,e6,cq,Nat.zero_add,Nat.le_refl]
theorem R8 {a:List Nat} (ha:Lb a) {n:Int} (h1:a.length≤256):R F.natural_Shr [lm a,I n] []=some (if n < 0∨65536 < n then .tup [lm [],I 2] else .tup [lm (av (ac a / 2 ^ n.toNat)),I 0],[]):=by
 refine aX Ee Ed (zA false) rfl ?_
 have e1:(256 < a.length)=False:=ff (by omega)
 by_cases hn:n < 0
 ·simp only [gA,mW,go_sem,↓reduceIte,aee,aeg,aef,aeh,aej,e1,ke,hn,true_or]
 by_cases hn2:65536 < n
 ·simp only [gA,mW,go_sem,↓reduceIte,aee,aeg,aef,aeh,aej,e1,ke,hn,hn2,or_true]
 obtain ⟨m,rfl⟩:=Int.eq_ofNat_of_zero_le (show 0≤n by omega)
 have la:=dG a ha
 have hlt:=ij (ac a)
 have h32:ac a / 2 ^ m < 4294967296 ^ ((av (ac a)).length - m / 32):=by
  rw [Nat.div_lt_iff_lt_mul (Nat.two_pow_pos m),← xn m]
  refine Nat.lt_of_lt_of_le hlt ?_
  rw [← Nat.mul_assoc,← Nat.pow_add]
  refine Nat.le_trans (Nat.pow_le_pow_right (by omega) (show (av (ac a)).length≤(av (ac a)).length - m / 32+m / 32 by omega)) (Nat.le_mul_of_pos_right _ (Nat.two_pow_pos _))
 have e3:ac (di ((av (ac a)).length - m / 32) (ac a / 2 ^ m))=ac a / 2 ^ m:=by
  rw [px,Nat.mod_eq_of_lt h32]
 have e4:=tK (pv ((av (ac a)).length - m / 32) (ac a / 2 ^ m)) (by rw [cq]; omega)
 rw [e3] at e4
 have hl:¬ 256 < (av (ac a / 2 ^ m)).length:=by
  have:=m5 h32
  omega
 unfold i8 at e4
 simp only [hl,if_false] at e4
 simp only [gA,mW,go_sem,↓reduceIte,aee,aeg,aef,aeh,aej,e1,ke,hn,hn2,R7 ha (n:=m) (by omega) (by omega),e4,or_false,Int.toNat_natCast]
end Go.Ab
namespace Go.Ab
open Go Go.IntWalk
set_option maxRecDepth 4000
def aq (n:Nat):Nat:=if n=0 then 0 else n.log2+1
theorem dm {n k:Nat}:aq n≤k↔n < 2 ^ k:=by
 unfold aq
 split
 ·rename_i h
  subst h
  exact ⟨fun _=>Nat.two_pow_pos k,fun _=>Nat.zero_le _⟩
 ·rename_i h
  rw [Nat.succ_le_iff]
  exact Nat.log2_lt h
theorem LQ {x y k:Nat} (h:x≤y) (h2:aq y≤k):aq x≤k:=dm.2 (Nat.lt_of_le_of_lt h (dm.1 h2))
theorem kB {n k:Nat}:k < aq n↔2 ^ k≤n:=by
 have:=@dm n k
 omega
theorem LR:aq 0=0:=rfl
theorem lG {n:Nat} (h:n ≠ 0):0 < aq n:=by
 rw [kB]
 omega
theorem zY (n k:Nat):aq (n / 2 ^ k)=aq n - k:=by
 have h:∀ j,aq (n / 2 ^ k)≤j↔aq n - k≤j:=fun j=>by
  rw [dm,Nat.div_lt_iff_lt_mul (Nat.two_pow_pos k),← Nat.pow_add,← dm]
  omega
 have h1:=(h _).1 (Nat.le_refl _)
 have h2:=(h _).2 (Nat.le_refl _)
 omega
theorem lH {n:Nat} (k:Nat) (hn:n ≠ 0):aq (n*2 ^ k)=aq n+k:=by
 have h:=zY (n*2 ^ k) k
 rw [Nat.mul_div_cancel _ (Nat.two_pow_pos k)] at h
 have h2:k < aq (n*2 ^ k):=by
  rw [kB]
  exact Nat.le_mul_of_pos_left _ (by omega)
 omega
def EV:ByteArray:=⟨#[0,1,2,2,3,3,3,3,4,4,4,4,4,4,4,4,5,5,5,5,5,5,5,5,5,5,5,5,5,5,5,5,6,6,6,6,6,6,6,6,6,6,6,6,6,6,6,6,6,6,6,6,6,6,6,6,6,6,6,6,6,6,6,6,7,7,7,7,7,7,7,7,7,7,7,7,7,7,7,7,7,7,7,7,7,7,7,7,7,7,7,7,7,7,7,7,7,7,7,7,7,7,7,7,7,7,7,7,7,7,7,7,7,7,7,7,7,7,7,7,7,7,7,7,7,7,7,7,8,8,8,8,8,8,8,8,8,8,8,8,8,8,8,8,8,8,8,8,8,8,8,8,8,8,8,8,8,8,8,8,8,8,8,8,8,8,8,8,8,8,8,8,8,8,8,8,8,8,8,8,8,8,8,8,8,8,8,8,8,8,8,8,8,8,8,8,8,8,8,8,8,8,8,8,8,8,8,8,8,8,8,8,8,8,8,8,8,8,8,8,8,8,8,8,8,8,8,8,8,8,8,8,8,8,8,8,8,8,8,8,8,8,8,8,8,8,8,8,8,8,8,8,8,8,8,8]⟩
theorem N4:((List.range 256).all fun x=>(EV[x]?).map (·.toNat) == some (aq x))=true:=by decide +kernel
theorem Ku {x:Nat} (h:x < 256):xE (.v (.string EV)) (.v (.int .u8 x))=some (.v (.int .u8 (aq x:Nat))):=by
 have:=List.all_eq_true.1 N4 x (List.mem_range.2 h)
 simp only [beq_iff_eq] at this
 simp only [xE]
 rw [if_pos (by omega),Int.toNat_natCast]
 cases hq:EV[x]? with
 | none=>rw [hq] at this; cases this
 | some y =>
  rw [hq] at this
  simp only [Option.map_some,Option.some.injEq] at this ⊢
  rw [this]
theorem uX:wX=.seq (.ops [0,2] [co 2 (.mv (.c (.v (.int .i64 0))))]) (.seq (.seq (.ops [0,2,4] [cm 3 0,co 4 (.bin .geq (.t 3) (.c (.v (.int .u32 65536))))]) (.cond (.t 4) (.seq (.ops [0] [cm 5 0,co 6 (.bin .shr (.t 5) (.c (.v (.int .u64 16)))),cm 0 6]) (.ops [0,2] [co 2 (.mv (.c (.v (.int .i64 16))))])) (.skip))) (.seq (.seq (.ops [0,2,8] [cm 7 0,co 8 (.bin .geq (.t 7) (.c (.v (.int .u32 256))))]) (.cond (.t 8) (.seq (.ops [0,2] [cm 9 0,co 10 (.bin .shr (.t 9) (.c (.v (.int .u64 8)))),cm 0 10]) (.ops [0,2] [cm 11 2,co 12 (.bin .add (.t 11) (.c (.v (.int .i64 8)))),cm 2 12])) (.skip))) (.seq (.ops [2] [cm 13 2,cm 14 0,co 15 (.cv .u8 (.t 14)),co 16 (.idxS (.c (.v (.string EV))) (.t 15)),co 17 (.cv .i64 (.t 16)),co 18 (.bin .add (.t 13) (.t 17)),cm 2 18]) (.ret)))):=rfl
theorem w8 {i:Int} {n:Nat} (h:i=n) (hn:n < 256):IntKind.u8.wrap i=n:=by rw [IntKind.wrap_u8]; omega
theorem Kv {n k:Nat} {i:Int} {kk:IntKind} {j:Int} (hi:i=n) (hj:j=k) (hk:k≤32):dI .shr (.v (.int .u32 i)) (.v (.int kk j))=some (.v (.int .u32 ((n / 2 ^ k:Nat):Int))):=by
 subst hi hj
 rw [BZ,if_neg (by omega)]
 have:min (k:Int).toNat IntKind.u32.bits=k:=by simp [IntKind.bits]; omega
 rw [this]
 simp only [Option.some.injEq,AV.v.injEq,Value.int.injEq,true_and]
 rw [Int.fdiv_eq_ediv_of_nonneg _ (Int.pow_nonneg (by omega))]
 simp
theorem sp {x:Nat} (k:Nat) (h:2 ^ k≤x):aq x=k+aq (x / 2 ^ k):=by
 have:=zY x k
 have:=kB.2 h
 omega
theorem N5 {x:Nat} (hx:x < 4294967296):R F.bits_Len32 [U x] []=some (I (aq x:Nat),[]):=by
 refine aX GQ GP (Bk false) rfl ?_
 have fin:∀ {y:Nat},y < 256→∀ {n:Nat},n≤24→IntKind.u8.wrap (y:Int)=y∧IntKind.i64.wrap (aq y:Int)=(aq y:Int)∧IntKind.i64.wrap ((n:Int)+(aq y:Int))=((n+aq y:Nat):Int):=fun {y} hy {n} hn=>by
  have:aq y≤8:=dm.2 hy
  exact ⟨w8 rfl hy,wi rfl (by omega),wi (by omega) (by omega)⟩
 have s16:=Kv (n:=x) (k:=16) (kk:=.u64) (j:=16) rfl rfl (by omega)
 by_cases h1:65536≤x
 ·have e1:((65536:Int)≤(x:Int))=True:=tt (by omega)
  have b1:=sp 16 h1
  have s8:=Kv (n:=x / 2 ^ 16) (k:=8) (kk:=.u64) (j:=8) rfl rfl (by omega)
  by_cases h2:256≤x / 2 ^ 16
  ·have e2:((256:Int)≤((x / 2 ^ 16:Nat):Int))=True:=tt (by omega)
   have b2:=sp 8 h2
   have hy:x / 2 ^ 16 / 2 ^ 8 < 256:=by omega
   obtain ⟨f1,f2,f3⟩:=fin hy (n:=24) (by omega)
   have g:IntKind.i64.wrap (24:Int)=24:=by rw [i64_in] <;> omega
   have f3':IntKind.i64.wrap ((24:Int)+(aq (x / 2 ^ 16 / 2 ^ 8):Int))=((aq x:Nat):Int):=by rw [b1,b2]; rw [wi (n:=24+aq (x / 2 ^ 16 / 2 ^ 8)) (by omega) (by have:=(dm (k:=8)).2 hy; omega)]; omega
   simp only [fH,uX,go_sem,↓reduceIte,aee,e1,s16,e2,s8,g,f1,Ku hy,f2,f3',Int.reduceAdd]
  ·have e2:((256:Int)≤((x / 2 ^ 16:Nat):Int))=False:=ff (by omega)
   have hy:x / 2 ^ 16 < 256:=by omega
   obtain ⟨f1,f2,f3⟩:=fin hy (n:=16) (by omega)
   have f3':IntKind.i64.wrap ((16:Int)+(aq (x / 2 ^ 16):Int))=((aq x:Nat):Int):=by rw [b1]; rw [wi (n:=16+aq (x / 2 ^ 16)) (by omega) (by have:=(dm (k:=8)).2 hy; omega)]
   simp only [fH,uX,go_sem,↓reduceIte,aee,anW,anX,e1,s16,e2,f1,Ku hy,f2,f3']
 ·have e1:((65536:Int)≤(x:Int))=False:=ff (by omega)
  have s8:=Kv (n:=x) (k:=8) (kk:=.u64) (j:=8) rfl rfl (by omega)
  by_cases h2:256≤x
  ·have e2:((256:Int)≤(x:Int))=True:=tt (by omega)
   have b2:=sp 8 h2
   have hy:x / 2 ^ 8 < 256:=by omega
   obtain ⟨f1,f2,f3⟩:=fin hy (n:=8) (by omega)
   have g:IntKind.i64.wrap (8:Int)=8:=by rw [i64_in] <;> omega
   have f3':IntKind.i64.wrap ((8:Int)+(aq (x / 2 ^ 8):Int))=((aq x:Nat):Int):=by rw [b2]; rw [wi (n:=8+aq (x / 2 ^ 8)) (by omega) (by have:=(dm (k:=8)).2 hy; omega)]
   simp only [fH,uX,go_sem,↓reduceIte,aee,anW,anX,e1,e2,s8,g,f1,Ku hy,f2,f3',Int.reduceAdd]
  ·have e2:((256:Int)≤(x:Int))=False:=ff (by omega)
   have hy:x < 256:=by omega
   obtain ⟨f1,f2,f3⟩:=fin hy (n:=0) (by omega)
   have f3':IntKind.i64.wrap ((0:Int)+(aq x:Int))=((aq x:Nat):Int):=by rw [wi (n:=aq x) (by omega) (by have:=(dm (k:=8)).2 hy; omega)]
   simp only [fH,uX,go_sem,↓reduceIte,aee,anW,anX,e1,e2,f1,Ku hy,f2,f3']
theorem N6 {n:Nat} (h:n ≠ 0):aq n=32*((av n).length - 1)+aq ((av n).getD ((av n).length - 1) 0):=by
 induction n using Nat.strongRecOn with
 | ind n ih =>
  rw [l5 h,List.length_cons,Nat.add_sub_cancel]
  by_cases h0:n / 4294967296=0
  ·rw [h0,fI]
   simp
   congr 1
   omega
  ·have h1:=ih _ (by omega) h0
   have h2:(av (n / 4294967296)).length ≠ 0:=by
    intro e
    exact h0 (l6.1 (List.length_eq_zero_iff.1 e))
   obtain ⟨k,hk⟩:∃ k,(av (n / 4294967296)).length=k+1:=⟨_,(Nat.succ_pred_eq_of_pos (by omega)).symm⟩
   rw [hk] at h1 ⊢
   rw [py]
   simp only [Nat.add_sub_cancel] at h1
   have h3:=sp (x:=n) 32 (by omega)
   rw [show (2:Nat) ^ 32=4294967296 from rfl,h1] at h3
   omega
theorem Qd {m:List Nat} (hb:Lb m) (h1:m.length≤100000):R F.natural_Bits [lm m] []=some (I (aq (ac m):Nat),[]):=by
 refine aX Cn Cm (yf false) rfl ?_
 have la:=dG m hb
 by_cases h:ac m=0
 ·have e1:((0:Nat):Int)=0:=rfl
  simp only [iz,po,go_sem,↓reduceIte,aee,aeg,aef,dj hb (by omega),h,fI,e1,LR]
 ·have hne:(av (ac m)).length ≠ 0:=fun e=>h (l6.1 (List.length_eq_zero_iff.1 e))
  have e1:(((av (ac m)).length:Int)=0)=False:=ff (by omega)
  have e2:IntKind.i64.wrap (((av (ac m)).length:Int) - 1)=(((av (ac m)).length - 1:Nat):Int):=wi (by omega) (by omega)
  have e3:IntKind.i64.wrap (32*(((av (ac m)).length - 1:Nat):Int))=((32*((av (ac m)).length - 1):Nat):Int):=wi (by omega) (by omega)
  have e4:bH (aP (av (ac m))) (((av (ac m)).length - 1:Nat):Int)=some (.ipt [U ((av (ac m)).getD ((av (ac m)).length - 1) 0:Nat)]):=de rfl (by omega)
  have e5:=N5 (dQ (cd (ac m)) ((av (ac m)).length - 1))
  have e6:aq ((av (ac m)).getD ((av (ac m)).length - 1) 0)≤32:=dm.2 (dQ (cd (ac m)) _)
  have e7:IntKind.i64.wrap (((32*((av (ac m)).length - 1):Nat):Int)+(aq ((av (ac m)).getD ((av (ac m)).length - 1) 0):Int))=((aq (ac m):Nat):Int):=by
   rw [N6 h]
   exact wi (by omega) (by omega)
  simp only [iz,po,go_sem,↓reduceIte,aee,aeg,aef,dj hb (by omega),e1,e2,e3,e4,e5,e7]
end Go.Ab
namespace Go.Ab
open Go Go.IntWalk
set_option maxRecDepth 4000
structure Rd where
 neg:Bool
 m:List Nat
 e:Int
def aW (d:Rd):List AV:=[B d.neg,lm d.m,I d.e]
def aF (d:Rd):AV:=.agg (aW d)
def et:Rd:=⟨false,[],0⟩
def sq (n:Nat) (e:Int):Bool:=decide (n=0) || (decide (n≤4096) && (decide (-16384≤e) && (decide (e≤16384) && decide ((n:Int)+e≤16384))))
def vd (d:Rd):Bool:=if d.m.length=0 then !d.neg && decide (d.e=0) else decide (d.m.length≤256) && (decide (d.m.getD 0 0 % 2=1) && (decide (d.m.getD (d.m.length - 1) 0 ≠ 0) && sq (aq (ac d.m)) d.e))
theorem nP {m:List Nat} (hb:Lb m) (h1:m.length≤100000):R F.dyadic_size [lm m] []=some (I (aq (ac m):Nat),[]):=by
 refine aX DW DV (y8 false) rfl ?_
 simp only [lU,vz,go_sem,↓reduceIte,aee,aeg,aef,Qd hb h1]
theorem Bu {d:Rd} (hb:Lb d.m) (h1:d.m.length≤100000):R F.dyadic_inRange [aF d] []=some (B (sq (aq (ac d.m)) d.e),[]):=by
 refine aX y6 y5 (vU false) rfl ?_
 unfold sq
 have hn:aq (ac d.m)=0↔((aq (ac d.m):Nat):Int)=0:=by omega
 by_cases a1:aq (ac d.m)=0
 ·have e9:=nP hb h1
  rw [a1,Int.natCast_zero] at e9
  simp only [cI,eL,aF,aW,go_sem,↓reduceIte,aee,aeg,aef,aeh,e9,a1]
 have e1:(((aq (ac d.m):Nat):Int)=0)=False:=ff (by omega)
 by_cases a2:¬ (aq (ac d.m)≤4096)
 ·have e2:(((aq (ac d.m):Nat):Int)≤4096)=False:=ff (by omega)
  simp only [cI,eL,aF,aW,go_sem,↓reduceIte,aee,aeg,aef,nP hb h1,e1,a1,e2,a2]
 replace a2:=Decidable.not_not.1 a2
 have e2:(((aq (ac d.m):Nat):Int)≤4096)=True:=tt (by omega)
 by_cases a3:¬ (-16384≤d.e)
 ·simp only [cI,eL,aF,aW,go_sem,↓reduceIte,aee,aeg,aef,nP hb h1,e1,a1,e2,a2,a3]
 replace a3:=Decidable.not_not.1 a3
 by_cases a4:¬ (d.e≤16384)
 ·simp only [cI,eL,aF,aW,go_sem,↓reduceIte,aee,aeg,aef,nP hb h1,e1,a1,e2,a2,a3,a4]
 replace a4:=Decidable.not_not.1 a4
 have e3:IntKind.i64.wrap (((aq (ac d.m):Nat):Int)+d.e)=((aq (ac d.m):Nat):Int)+d.e:=by rw [i64_in]; omega
 simp only [cI,eL,aF,aW,go_sem,↓reduceIte,aee,aeg,aef,nP hb h1,e1,a1,e2,a2,a3,a4,e3]
structure Ok0 (d:Rd):Prop where
 lb:Lb d.m
 len:d.m.length < 4611686018427387904
theorem iL {d:Rd} (ok:Ok0 d):R F.dyadic_Valid [aF d] []=some (B (vd d),[]):=by
 refine aX Cc Cb (yc false) rfl ?_
 unfold vd
 have hl:=ok.len
 by_cases a0:d.m.length=0
 ·rw [if_pos a0]
  have e1:((d.m.length:Int)=0)=True:=tt (by omega)
  cases hn:d.neg with
  | true=>simp only [cM,eK,aF,aW,hn,go_sem,↓reduceIte,aee,aeg,aef,e1]
  | false=>simp only [cM,eK,aF,aW,hn,go_sem,↓reduceIte,aee,aeg,aef,e1]
 rw [if_neg a0]
 have e1:((d.m.length:Int)=0)=False:=ff (by omega)
 by_cases a1:¬ d.m.length≤256
 ·have e2:((d.m.length:Int)≤256)=False:=ff (by omega)
  rw [decide_eq_false a1,Bool.false_and]
  simp only [cM,eK,aF,aW,go_sem,↓reduceIte,aee,aeg,aef,aeh,e1,e2]
 replace a1:=Decidable.not_not.1 a1
 have e2:((d.m.length:Int)≤256)=True:=tt (by omega)
 have e3:bH (aP d.m) 0=some (.ipt [U (d.m.getD 0 0:Nat)]):=de rfl (by omega)
 have e4:dI .rem (.v (.int .u32 (d.m.getD 0 0:Nat))) (.v (.int .u32 2))=some (.v (.int .u32 ((d.m.getD 0 0 % 2:Nat):Int))):=by
  rw [IE,if_neg (by decide),Int.tmod_eq_emod_of_nonneg (by omega)]
  rfl
 rw [decide_eq_true a1,Bool.true_and]
 by_cases a2:¬ d.m.getD 0 0 % 2=1
 ·have e5:(((d.m.getD 0 0 % 2:Nat):Int)=1)=False:=ff (by omega)
  rw [decide_eq_false a2,Bool.false_and]
  simp only [cM,eK,aF,aW,go_sem,↓reduceIte,aee,aeg,aef,aeh,e1,e2,e3,e4,e5]
 replace a2:=Decidable.not_not.1 a2
 have e5:(((d.m.getD 0 0 % 2:Nat):Int)=1)=True:=tt (by omega)
 rw [decide_eq_true a2,Bool.true_and]
 have e6:IntKind.i64.wrap ((d.m.length:Int) - 1)=((d.m.length - 1:Nat):Int):=wi (by omega) (by omega)
 have e7:bH (aP d.m) ((d.m.length - 1:Nat):Int)=some (.ipt [U (d.m.getD (d.m.length - 1) 0:Nat)]):=de rfl (by omega)
 by_cases a3:d.m.getD (d.m.length - 1) 0=0
 ·have e8:((d.m.getD (d.m.length - 1) 0:Int)=0)=True:=tt (by omega)
  rw [decide_eq_false (p:=d.m.getD (d.m.length - 1) 0 ≠ 0) (fun h=>h a3),Bool.false_and]
  simp only [cM,eK,aF,aW,go_sem,↓reduceIte,aee,aeg,aef,aeh,e1,e2,e3,e4,e5,e6,e7,e8]
 have e8:((d.m.getD (d.m.length - 1) 0:Int)=0)=False:=ff (by omega)
 rw [decide_eq_true (p:=d.m.getD (d.m.length - 1) 0 ≠ 0) a3,Bool.true_and]
 have e9:=Bu (d:=d) ok.lb (by omega)
 simp only [aF,aW] at e9
 simp only [cM,eK,aF,aW,go_sem,↓reduceIte,aee,aeg,aef,aeh,e1,e2,e3,e4,e5,e6,e7,e8,e9]
theorem Qe {d:Rd} (ok:Ok0 d):R F.dyadic_Sign [aF d] []=some (I (if vd d=false∨d.m.length=0 then 0 else if d.neg=true then -1 else 1),[]):=by
 refine aX D8 D7 (zj false) rfl ?_
 have hl:=ok.len
 have e9:=iL ok
 simp only [aF,aW] at e9
 cases hv:vd d with
 | false =>
  rw [hv] at e9
  rw [if_pos (Or.inl rfl)]
  simp only [eN,kv,aF,aW,go_sem,↓reduceIte,aee,aeg,aef,aeh,e9]
 | true =>
  rw [hv] at e9
  by_cases a0:d.m.length=0
  ·have e1:((d.m.length:Int)=0)=True:=tt (by omega)
   rw [if_pos (Or.inr a0)]
   simp only [eN,kv,aF,aW,go_sem,↓reduceIte,aee,aeg,aef,aeh,e9,e1]
  ·have e1:((d.m.length:Int)=0)=False:=ff (by omega)
   rw [if_neg (fun h=>h.elim (fun h=>nomatch h) a0)]
   cases hn:d.neg with
   | true =>
    rw [hn] at e9
    rw [if_pos rfl]
    simp only [eN,kv,aF,aW,hn,go_sem,↓reduceIte,aee,aeg,aef,aeh,e9,e1]
   | false =>
    rw [hn] at e9
    rw [if_neg (fun h=>nomatch h)]
    simp only [eN,kv,aF,aW,hn,go_sem,↓reduceIte,aee,aeg,aef,aeh,e9,e1]
end Go.Ab
namespace Go.Ab
open Go Go.IntWalk
set_option maxRecDepth 4000
theorem Kw (m:List Nat) (h2:m.length < 4611686018427387904):∀ (n:Nat),n≤m.length→∀ (s:af) (h:aa),s 0=lm m→s 3=I n →
  aI 0 [0,3] (aU (az R (ab false) eE) [0,3] [] s h)=some (.normal,⟨upd (upd (fun _=>.any) 3 (I (iH m n))) 0 (lm m),fun _=>.dead⟩):=by
 intro n
 induction n with
 | zero =>
  intro h1 s h h3 h4
  rw [aB]
  simp only [eE,go_sem,h3,h4,iH,↓reduceIte,aee,Int.natCast_zero,Int.lt_irrefl]
 | succ n ih =>
  intro h1 s h h3 h4
  have hn:n < m.length:=h1
  have e3:IntKind.i64.wrap ((n:Int)+1 - 1)=n:=wi (by omega) (by omega)
  have e1:bH (aP m) (n:Int)=some (.ipt [U (m.getD n 0:Nat)]):=de rfl hn
  have e2:((0:Int) < (n:Int)+1)=True:=eq_true (by omega)
  have ih':=ih (by omega)
  rw [aB]
  generalize aU _ _ _=L at ih' ⊢
  by_cases hz:m.getD n 0=0
  ·simp only [eE,go_sem,h3,h4,iH,↓reduceIte,aee,Int.natCast_add,Int.natCast_one,e3,e1,e2,hz,Int.natCast_zero]
   exact ih' _ _ rfl rfl
  ·simp only [eE,go_sem,h3,h4,iH,↓reduceIte,aee,Int.natCast_add,Int.natCast_one,e3,e1,e2,hz,Int.natCast_eq_zero]
theorem Ha {m:List Nat} (hb:Lb m) (h:m.length < 4611686018427387904):R F.dyadic_trimmed [lm m] []=some (lm (av (ac m)),[]):=by
 refine aX zu zt (vX false) rfl ?_
 have h1:dJ 1 (lm m) none (some (I (iH m m.length:Nat))) none=some (lm (av (ac m))):=by
  rw [GZ (a:=0) (b:=iH m m.length) rfl (uU rfl (tD _ _)) (tD _ _),List.drop_zero,Nat.sub_zero,Ga hb]
 simp only [iY,rz,go_sem,↓reduceIte,aee,Kw m h m.length (Nat.le_refl _),h1]
theorem Bv {d:Rd} (hb:Lb d.m) (h1:d.m.length≤100000):R F.dyadic_checked [aF d] []=some (if sq (aq (ac d.m)) d.e=true then .tup [aF d,I 0] else .tup [aF et,I 9],[]):=by
 refine aX zf ze (vV false) rfl ?_
 have e9:=Bu hb h1
 simp only [aF,aW] at e9
 cases hv:sq (aq (ac d.m)) d.e with
 | false =>
  rw [hv] at e9
  rw [if_neg (fun h=>nomatch h)]
  simp only [fN,m9,aF,aW,et,go_sem,↓reduceIte,aee,aeg,aef,aeh,e9]
 | true =>
  rw [hv] at e9
  rw [if_pos rfl]
  simp only [fN,m9,aF,aW,go_sem,↓reduceIte,aee,aeg,aef,aeh,e9]
theorem N7 (h:aa) (m:List Nat):lN h 1 (lm m)=some (aP m):=Nz h 1 _
theorem zZ {m:List Nat} (h0:m ≠ []) (h1:m.length≤100000):R F.slices_Clone_uint32_uint32_ [lm m] []=some (lm m,[]):=by
 refine aX o5 oZ (nn false) rfl ?_
 have e1:xD false (lm m)=some (B false):=by
  cases m with
  | nil=>exact absurd rfl h0
  | cons x m=>rfl
 have e2:((True∨False)∧(0+m.length)*4≤140737488355328)=True:=eq_true ⟨Or.inl trivial,by omega⟩
 have e3:(0+(0+m.length)≤m.length)=True:=eq_true (by omega)
 have e4:(0+m.length=m.length)=True:=eq_true (by omega)
 simp only [cN,iQ,go_sem,↓reduceIte,aee,aeh,aej,e1,N7,e2,e3,e4]
end Go.Ab
namespace Go.Ab
open Go Go.IntWalk
set_option maxRecDepth 4000
theorem sR:au.E F.bits_TrailingZeros32=some OW:=by kernel_rfl
theorem xp {x:Nat} (h:x ≠ 0) (hx:x < 4294967296):R F.bits_TrailingZeros32 [U x] []=some (I (tz x:Nat),[]):=by
 unfold R
 rw [uK sR]
 show (if 0 < (x:Int)∧(x:Int) < 4294967296∧([]:List Ob)=[] then some (I (Dg 32 (x:Int).toNat:Nat),([]:List Ob)) else none)=_
 rw [if_pos ⟨by omega,by omega,rfl⟩,Int.toNat_natCast,RM 32 x h (by omega)]
theorem N8 (m:List Nat) (hb:Lb m) (h2:m.length≤100000):∀ (k i:Nat),i+k=m.length→ac (m.drop i) ≠ 0→∀ (s:af) (h:aa),s 6=lm m→s 7=I m.length→s 8=I i→s 3=I (32*i:Nat) →
  aI 0 [3] (aU (az R (ab false) kT) [3,6,7,8] [] s h)=some (.ret,⟨upd (fun _=>.any) 2 (I (32*i+tz (ac (m.drop i)):Nat)),fun _=>.dead⟩):=by
 intro k
 induction k with
 | zero =>
  intro i hi hv
  rw [List.drop_eq_nil_of_le (by omega)] at hv
  exact absurd rfl hv
 | succ k ih =>
  intro i hi hv s h h6 h7 h8 h3
  have e1:((i:Int) < m.length)=True:=tt (by omega)
  have e2:bH (aP m) (i:Int)=some (.ipt [U (m.getD i 0:Nat)]):=de rfl (by omega)
  have hx:m.getD i 0 < 4294967296:=dQ hb i
  rw [en] at hv
  rw [aB]
  have e4:IntKind.i64.wrap (((32*i:Nat):Int)+32)=((32*(i+1):Nat):Int):=wi (by omega) (by omega)
  have e5:IntKind.i64.wrap ((i:Int)+1)=((i+1:Nat):Int):=wi (by omega) (by omega)
  by_cases hz:m.getD i 0=0
  ·have e3:((m.getD i 0:Int)=0)=True:=tt (by omega)
   have hv':ac (m.drop (i+1)) ≠ 0:=by
    intro h0
    rw [hz,h0] at hv
    exact hv rfl
   have ih':=ih (i+1) (by omega) hv'
   have e6:tz (ac (m.drop i))=32+tz (ac (m.drop (i+1))):=by
    rw [en,hz,Nat.zero_add]
    exact AY 32 hv'
   have e7:32*i+tz (ac (m.drop i))=32*(i+1)+tz (ac (m.drop (i+1))):=by omega
   rw [e7]
   generalize aU _ _ _=L at ih' ⊢
   simp only [kT,go_sem,↓reduceIte,aee,h3,h6,h7,h8,e1,e2,e3,e4,e5]
   exact ih' _ _ rfl rfl rfl rfl
  ·have e3:((m.getD i 0:Int)=0)=False:=ff (by omega)
   have e6:tz (ac (m.drop i))=tz (m.getD i 0):=by
    rw [en]
    exact RL (k:=32) _ hz hx
   have e8:tz (m.getD i 0) < 32:=OV (k:=32) hz hx
   have e7:IntKind.i64.wrap (((32*i:Nat):Int)+(tz (m.getD i 0):Nat))=((32*i+tz (m.getD i 0):Nat):Int):=wi (by omega) (by omega)
   rw [e6]
   simp only [kT,go_sem,↓reduceIte,aee,aeg,aef,h3,h6,h7,h8,e1,e2,e3,xp hz hx,e7]
theorem R9 {m:List Nat} (hb:Lb m) (h1:m.length≤100000) (hv:ac m ≠ 0):R F.dyadic_low [lm m] []=some (I (tz (ac m):Nat),[]):=by
 refine aX GK GJ (Bi false) rfl ?_
 have h3:=N8 m hb h1 m.length 0 (Nat.zero_add _) hv
 simp only [Nat.mul_zero,Nat.zero_add,List.drop_zero,Int.natCast_zero] at h3
 simp only [mV,wU,go_sem,↓reduceIte,aee]
 rw [h3 _ _ rfl rfl rfl rfl]
 simp only [go_sem,↓reduceIte]
def cB (neg:Bool) (M:Nat) (e:Int):Rd:=if M=0 then et else ⟨neg,av (M / 2 ^ tz M),e+tz M⟩
def XL (e:Int):Prop:=-1000000≤e∧e≤1000000
theorem oN {neg:Bool} {m:List Nat} {e:Int} (hb:Lb m) (h1:m.length≤256) (he:XL e):R F.dyadic_canonical [B neg,lm m,I e] []=some (aF (cB neg (ac m) e),[]):=by
 refine aX xd xc (tH false) rfl ?_
 obtain ⟨he1,he2⟩:=he
 unfold cB
 by_cases h0:ac m=0
 ·have hd:R F.dyadic_trimmed [lm m] []=some (lm [],[]):=by
   rw [Ha hb (by omega),h0,fI]
  have e0:(([]:List Nat).length:Int)=0:=rfl
  rw [if_pos h0]
  simp only [eC,lB,aF,aW,et,go_sem,↓reduceIte,aee,aeg,aef,aeh,hd,List.length_nil,Int.natCast_zero]
 have hn:av (ac m) ≠ []:=fun h=>h0 (l6.1 h)
 have hl:0 < (av (ac m)).length:=by
  cases h:av (ac m) with
  | nil=>exact absurd h hn
  | cons x l=>exact Nat.succ_pos _
 have hl2:(av (ac m)).length≤256:=Nat.le_trans (dG m hb) h1
 have hdb:Lb (av (ac m)):=cd _
 have e1:(((av (ac m)).length:Int)=0)=False:=ff (by omega)
 have ht:tz (ac m) < 32*256:=OV (k:=32*256) h0 (by
  have:=jq hb
  have h3:4294967296 ^ m.length≤4294967296 ^ 256:=Nat.pow_le_pow_right (by decide) h1
  have h4:(2:Nat) ^ (32*256)=4294967296 ^ 256:=Nat.pow_mul 2 32 256
  rw [h4]
  exact Nat.lt_of_lt_of_le this h3)
 have hlow:=R9 hdb (by omega) (by rw [bI]; exact h0)
 rw [bI] at hlow
 have hs:=R8 (n:=(tz (ac m):Nat)) hdb hl2
 rw [if_neg (by omega),bI,Int.toNat_natCast] at hs
 have hq:av (ac m / 2 ^ tz (ac m)) ≠ []:=by
  intro h
  have:=(tE h0).2
  rw [l6.1 h] at this
  exact absurd this (by decide)
 have hq2:(av (ac m / 2 ^ tz (ac m))).length≤100000:=by
  have h5:(av (ac m / 2 ^ tz (ac m))).length≤m.length:=m5 (Nat.lt_of_le_of_lt (Nat.div_le_self _ _) (jq hb))
  omega
 have hc:=zZ hq hq2
 have e2:IntKind.i64.wrap (e+(tz (ac m):Nat))=e+(tz (ac m):Nat):=by rw [i64_in]; omega
 rw [if_neg h0]
 simp only [eC,lB,aF,aW,go_sem,↓reduceIte,aee,aeg,aef,aeh,Ha hb (Nat.lt_of_le_of_lt h1 (by decide)),e1,hlow,hs,hc,IL,e2]
end Go.Ab
namespace Go.Ab
open Go Go.IntWalk
set_option maxRecDepth 4000
theorem rL {d:Rd} (h:vd d=true) (h0:d.m.length ≠ 0):d.m.length≤256∧d.m.getD 0 0 % 2=1∧d.m.getD (d.m.length - 1) 0 ≠ 0∧sq (aq (ac d.m)) d.e=true:=by
 unfold vd at h
 rw [if_neg h0] at h
 simp only [Bool.and_eq_true,decide_eq_true_eq] at h
 exact h
theorem xU {d:Rd} (h:vd d=true) (h0:d.m.length=0):d=et:=by
 unfold vd at h
 rw [if_pos h0] at h
 simp only [Bool.and_eq_true,decide_eq_true_eq,Bool.not_eq_true'] at h
 obtain ⟨n,m,e⟩:=d
 obtain ⟨h1,h2⟩:=h
 simp only at h1 h2 h0
 rw [et,h1,h2,List.length_eq_zero_iff.1 h0]
theorem tM {n:Nat} {e:Int} (h:sq n e=true) (h0:n ≠ 0):n≤4096∧-16384≤e∧e≤16384∧(n:Int)+e≤16384:=by
 unfold sq at h
 simp only [Bool.or_eq_true,Bool.and_eq_true,decide_eq_true_eq] at h
 exact h.resolve_left h0
theorem kg {d:Rd} (h:vd d=true) (_hb:Lb d.m):d.m.length≤256∧-16384≤d.e∧d.e≤16384∧aq (ac d.m)≤4096:=by
 by_cases h0:d.m.length=0
 ·rw [xU h h0]
  exact ⟨by decide,by decide,by decide,by decide⟩
 obtain ⟨h1,h2,h3,h4⟩:=rL h h0
 have hv:ac d.m ≠ 0:=by
  intro hz
  have:=en d.m 0
  rw [List.drop_zero] at this
  omega
 have hn:aq (ac d.m) ≠ 0:=by
  have:=lG hv
  omega
 obtain ⟨h5,h6,h7,h8⟩:=tM h4 hn
 exact ⟨h1,h6,h7,h5⟩
def bm (d:Rd):Int:=if vd d=false∨d.m.length=0 then 0 else (aq (ac d.m):Nat)+d.e
theorem Bw {d:Rd} (ok:Ok0 d):R F.dyadic_Top [aF d] []=some (I (bm d),[]):=by
 refine aX GN GM (Bj false) rfl ?_
 have hl:=ok.len
 have e9:=iL ok
 simp only [aF,aW] at e9
 unfold bm
 cases hv:vd d with
 | false =>
  rw [hv] at e9
  rw [if_pos (Or.inl rfl)]
  simp only [ig,oG,aF,aW,go_sem,↓reduceIte,aee,aeg,aef,aeh,e9]
 | true =>
  rw [hv] at e9
  by_cases a0:d.m.length=0
  ·have e1:((d.m.length:Int)=0)=True:=tt (by omega)
   rw [if_pos (Or.inr a0)]
   simp only [ig,oG,aF,aW,go_sem,↓reduceIte,aee,aeg,aef,aeh,e9,e1]
  ·have e1:((d.m.length:Int)=0)=False:=ff (by omega)
   rw [if_neg (fun h=>h.elim (fun h=>nomatch h) a0)]
   obtain ⟨h1,h2,h3,h4⟩:=kg hv ok.lb
   have e2:IntKind.i64.wrap (((aq (ac d.m):Nat):Int)+d.e)=((aq (ac d.m):Nat):Int)+d.e:=by rw [i64_in]; omega
   simp only [ig,oG,aF,aW,go_sem,↓reduceIte,aee,aeg,aef,aeh,aej,aei,e9,e1,nP ok.lb (Nat.le_trans h1 (by decide)),e2]
end Go.Ab
namespace Go.Ab
open Go Go.IntWalk
set_option maxRecDepth 4000
theorem qR {m:List Nat} (hb:Lb m) (h1:m.length≤256) {k:Nat} (hk:k≤65536) (hl:(av (ac m*2 ^ k)).length≤256):R F.dyadic_shifted [lm m,I k] []=some (lm (av (ac m*2 ^ k)),[]):=by
 refine aX zC zB (vY false) rfl ?_
 have hs:=R6 (n:=(k:Nat)) hb h1
 rw [if_neg (by omega),Int.toNat_natCast,i8,if_neg (by omega)] at hs
 simp only [iZ,rA,go_sem,↓reduceIte,aee,aeg,aef,aeh,hs]
def mg (d:Rd):Nat:=ac d.m*2 ^ (d.e+16384).toNat
def zI (d:Rd):Int:=if d.neg=true then -(mg d:Int) else mg d
theorem N9 {x y k:Nat} (hk:0 < k):dk (x*k) (y*k)=dk x y:=by
 unfold dk
 have h1:(x*k < y*k)↔x < y:=Nat.mul_lt_mul_right hk
 have h2:(y*k < x*k)↔y < x:=Nat.mul_lt_mul_right hk
 by_cases a:x < y
 ·rw [if_pos a,if_pos (h1.2 a)]
 ·rw [if_neg a,if_neg (fun h=>a (h1.1 h))]
  by_cases b:y < x
  ·rw [if_pos b,if_pos (h2.2 b)]
  ·rw [if_neg b,if_neg (fun h=>b (h2.1 h))]
theorem Bx {x y:Nat} (h:aq x < aq y):x < y:=by
 have h1:=(dm (n:=x) (k:=aq x)).1 (Nat.le_refl _)
 have h2:=kB.1 h
 omega
theorem iI {d:Rd} (h:vd d=true) (h0:d.m.length ≠ 0):ac d.m ≠ 0:=by
 obtain ⟨h1,h2,h3,h4⟩:=rL h h0
 intro hz
 have:=en d.m 0
 rw [List.drop_zero] at this
 omega
theorem IT {d:Rd} (h:vd d=true) (hb:Lb d.m) (h0:d.m.length ≠ 0):(aq (mg d):Int)=bm d+16384:=by
 obtain ⟨h1,h2,h3,h4⟩:=kg h hb
 unfold mg bm
 rw [lH _ (iI h h0),if_neg (fun h'=>h'.elim (fun h''=>by rw [h] at h''; exact nomatch h'') h0)]
 omega
theorem pF {d:Rd} {e:Int} (h1:-16384≤e) (h2:e≤d.e):mg d=ac d.m*2 ^ (d.e - e).toNat*2 ^ (e+16384).toNat:=by
 unfold mg
 rw [Nat.mul_assoc,← Nat.pow_add]
 congr 2
 omega
theorem bF {n k:Nat} (h:aq n≤32*k):(av n).length≤k:=by
 refine m5 ?_
 have:=dm.1 h
 rw [Nat.pow_mul] at this
 exact this
theorem Kx {a b:Rd} (oa:Ok0 a) (ob:Ok0 b) (va:vd a=true) (vb:vd b=true) (na:a.m.length ≠ 0) (nb:b.m.length ≠ 0):R F.dyadic_compare [aF a,aF b] []=some (I (dk (mg a) (mg b)),[]):=by
 refine aX zm zk (vW false) rfl ?_
 have ta:=Bw oa
 have tb:=Bw ob
 have ba:=IT va oa.lb na
 have bb:=IT vb ob.lb nb
 simp only [aF,aW] at ta tb
 by_cases h1:bm a < bm b
 ·have h2:dk (mg a) (mg b)=-1:=by
   rw [dk,if_pos (Bx (by omega))]
  have e1:(bm a < bm b)=True:=tt h1
  rw [h2]
  simp only [ef,jU,aF,aW,go_sem,↓reduceIte,aee,aeg,aef,aeh,aej,aei,ta,tb,e1]
 have e1:(bm a < bm b)=False:=ff h1
 by_cases h2:bm b < bm a
 ·have h3:dk (mg a) (mg b)=1:=by
   have:=Bx (x:=mg b) (y:=mg a) (by omega)
   rw [dk,if_neg (by omega),if_pos this]
  have e2:(bm b < bm a)=True:=tt h2
  rw [h3]
  simp only [ef,jU,aF,aW,go_sem,↓reduceIte,aee,aeg,aef,aeh,aej,aei,ta,tb,e1,e2]
 have e2:(bm b < bm a)=False:=ff h2
 obtain ⟨a1,a2,a3,a4⟩:=kg va oa.lb
 obtain ⟨b1,b2,b3,b4⟩:=kg vb ob.lb
 obtain ⟨e,hm⟩:∃ e,(if b.e < a.e then b.e else a.e)=e:=⟨_,rfl⟩
 have hea:e≤a.e∧e≤b.e∧(e=a.e∨e=b.e):=by
  split at hm <;> omega
 obtain ⟨m1,m2,m3⟩:=hea
 have ka:IntKind.i64.wrap (a.e - e)=(((a.e - e).toNat:Nat):Int):=wi (by omega) (by omega)
 have kb:IntKind.i64.wrap (b.e - e)=(((b.e - e).toNat:Nat):Int):=wi (by omega) (by omega)
 have hta:bm a=(aq (ac a.m):Nat)+a.e:=by
  rw [bm,if_neg (fun h'=>h'.elim (fun h''=>by rw [va] at h''; exact nomatch h'') na)]
 have htb:bm b=(aq (ac b.m):Nat)+b.e:=by
  rw [bm,if_neg (fun h'=>h'.elim (fun h''=>by rw [vb] at h''; exact nomatch h'') nb)]
 have la:(av (ac a.m*2 ^ (a.e - e).toNat)).length≤256:=bF (by
  rw [lH _ (iI va na)]
  omega)
 have lb:(av (ac b.m*2 ^ (b.e - e).toNat)).length≤256:=bF (by
  rw [lH _ (iI vb nb)]
  omega)
 have sa:=qR oa.lb a1 (k:=(a.e - e).toNat) (by omega) la
 have sb:=qR ob.lb b1 (k:=(b.e - e).toNat) (by omega) lb
 have hc:=xj (cd (ac a.m*2 ^ (a.e - e).toNat)) (cd (ac b.m*2 ^ (b.e - e).toNat)) (Nat.le_trans la (by decide)) (Nat.le_trans lb (by decide))
 rw [bI,bI,← N9 (k:=2 ^ (e+16384).toNat) (Nat.two_pow_pos _),← pF (by omega) m1,← pF (by omega) m2] at hc
 simp only [ef,jU,aF,aW,go_sem,↓reduceIte,aee,aeg,aef,aeh,aej,aei,ta,tb,e1,e2,hm,ka,kb,sa,sb,hc]
end Go.Ab
namespace Go.Ab
open Go Go.IntWalk
set_option maxRecDepth 4000
def dM (x y:Int):Int:=if x < y then -1 else if y < x then 1 else 0
def lI (d:Rd):Int:=if d.m.length=0 then 0 else if d.neg=true then -1 else 1
theorem IU {d:Rd} (h0:d.m.length=0):mg d=0:=by
 unfold mg
 rw [List.length_eq_zero_iff.1 h0]
 exact Nat.zero_mul _
theorem Sb {d:Rd} (h:vd d=true) (h0:d.m.length ≠ 0):0 < mg d :=
 Nat.mul_pos (Nat.pos_of_ne_zero (iI h h0)) (Nat.two_pow_pos _)
theorem Aa (d:Rd) (h:vd d=true):(lI d=0∧zI d=0∧d.m.length=0)∨(lI d=-1∧zI d=-(mg d:Int)∧0 < mg d∧d.m.length ≠ 0)∨(lI d=1∧zI d=mg d∧0 < mg d∧d.m.length ≠ 0):=by
 unfold lI zI
 by_cases h0:d.m.length=0
 ·refine Or.inl ⟨if_pos h0,?_,h0⟩
  rw [IU h0]
  split <;> rfl
 ·rw [if_neg h0]
  have:=Sb h h0
  by_cases hn:d.neg=true
  ·exact Or.inr (Or.inl ⟨if_pos hn,if_pos hn,this,h0⟩)
  ·exact Or.inr (Or.inr ⟨if_neg hn,if_neg hn,this,h0⟩)
theorem Hb {d:Rd} (ok:Ok0 d) (hv:vd d=true):R F.dyadic_Sign [aF d] []=some (I (lI d),[]):=by
 rw [Qe ok]
 unfold lI
 by_cases h0:d.m.length=0
 ·rw [if_pos (Or.inr h0),if_pos h0]
 ·rw [if_neg (fun h'=>h'.elim (fun h''=>by rw [hv] at h''; exact nomatch h'') h0),if_neg h0]
theorem Qf {a b:Rd} (oa:Ok0 a) (ob:Ok0 b):R F.dyadic_Cmp [aF a,aF b] []=some (I (if vd a=true∧vd b=true then dM (zI a) (zI b) else 0),[]):=by
 refine aX GB GA (Bd false) rfl ?_
 have va:=iL oa
 have vb:=iL ob
 simp only [aF,aW] at va vb
 cases ha:vd a with
 | false =>
  rw [ha] at va
  rw [if_neg (fun h=>nomatch h.1)]
  simp only [dE,gM,aF,aW,go_sem,↓reduceIte,aee,aeg,aef,aeh,va]
 | true =>
 rw [ha] at va
 cases hb:vd b with
 | false =>
  rw [hb] at vb
  rw [if_neg (fun h=>nomatch h.2)]
  simp only [dE,gM,aF,aW,go_sem,↓reduceIte,aee,aeg,aef,aeh,va,vb]
 | true =>
 rw [hb] at vb
 rw [if_pos ⟨rfl,rfl⟩]
 have sa:=Hb oa ha
 have sb:=Hb ob hb
 have ca:=Aa a ha
 have cb:=Aa b hb
 simp only [aF,aW] at sa sb
 by_cases h1:lI a < lI b
 ·have e1:(lI a < lI b)=True:=tt h1
  have e2:dM (zI a) (zI b)=-1:=if_pos (by omega)
  rw [e2]
  simp only [dE,gM,aF,aW,go_sem,↓reduceIte,aee,aeg,aef,aeh,aej,aei,va,vb,sa,sb,e1]
 have e1:(lI a < lI b)=False:=ff h1
 by_cases h2:lI b < lI a
 ·have e2:(lI b < lI a)=True:=tt h2
  have e3:dM (zI a) (zI b)=1:=by rw [dM,if_neg (by omega),if_pos (by omega)]
  rw [e3]
  simp only [dE,gM,aF,aW,go_sem,↓reduceIte,aee,aeg,aef,aeh,aej,aei,va,vb,sa,sb,e1,e2]
 have e2:(lI b < lI a)=False:=ff h2
 by_cases h3:lI a=0
 ·have e3:(lI a=0)=True:=tt h3
  have e4:dM (zI a) (zI b)=0:=by rw [dM,if_neg (by omega),if_neg (by omega)]
  rw [e4]
  simp only [dE,gM,aF,aW,go_sem,↓reduceIte,aee,aeg,aef,aeh,aej,aei,va,vb,sa,sb,e1,e2,e3]
 have e3:(lI a=0)=False:=ff h3
 have hc:=Kx oa ob ha hb (by omega) (by omega)
 simp only [aF,aW] at hc
 have e4:IntKind.i64.wrap (lI a*dk (mg a) (mg b))=dM (zI a) (zI b):=by
  have hp:lI a*dk (mg a) (mg b)=dM (zI a) (zI b):=by
   rcases ca with ca | ca | ca
   ·omega
   ·rw [ca.1,ca.2.1]
    rw [show zI b=-(mg b:Int) by omega]
    unfold dk dM
    by_cases x:mg a < mg b
    ·rw [if_pos x,if_neg (by omega),if_pos (by omega)]; rfl
    ·by_cases y:mg b < mg a
     ·rw [if_neg x,if_pos y,if_pos (by omega)]; rfl
     ·rw [if_neg x,if_neg y,if_neg (by omega),if_neg (by omega)]; rfl
   ·rw [ca.1,ca.2.1]
    rw [show zI b=(mg b:Int) by omega]
    unfold dk dM
    by_cases x:mg a < mg b
    ·rw [if_pos x,if_pos (by omega)]; rfl
    ·by_cases y:mg b < mg a
     ·rw [if_neg x,if_pos y,if_neg (by omega),if_pos (by omega)]; rfl
     ·rw [if_neg x,if_neg y,if_neg (by omega),if_neg (by omega)]; rfl
  rw [hp]
  unfold dM
  split
  ·decide
  ·split <;> decide
 simp only [dE,gM,aF,aW,go_sem,↓reduceIte,aee,aeg,aef,aeh,aej,aei,va,vb,sa,sb,e1,e2,e3,hc,e4]
end Go.Ab
namespace Go.Ab
open Go Go.IntWalk
set_option maxRecDepth 4000
theorem Cz (neg:Bool) (M:Nat) (e:Int):Lb (cB neg M e).m:=by
 unfold cB
 split
 ·exact fun x hx=>nomatch hx
 ·exact cd _
theorem Hd {neg:Bool} {M:Nat} {e:Int} {k:Nat} (h:aq M≤32*k):(cB neg M e).m.length≤k:=by
 unfold cB
 split
 ·exact Nat.zero_le _
 ·refine bF ?_
  rw [zY]
  omega
def Ky (d:Rd):AV:=if sq (aq (ac d.m)) d.e=true then .tup [aF d,I 0] else .tup [aF et,I 9]
end Go.Ab
namespace Go.Ab
open Go Go.IntWalk
set_option maxRecDepth 4000
theorem aiA {m:List Nat} (hb:Lb m):aq (ac m)≤32*m.length:=by
 rw [dm,Nat.pow_mul]
 exact jq hb
end Go.Ab
namespace Go.Ab
open Go Go.IntWalk
set_option maxRecDepth 4000
def LT (l:List Rd):List (List AV):=l.map aW
@[go_sem] theorem abM (l:List Rd):(LT l).length=l.length:=by simp [LT]
def By (p:Int) (l:List Rd):Int:=if l.all vd=true then (if 8≤p∧p≤512 then 0 else 2) else 1
end Go.Ab
namespace Go.Ab
open Go Go.IntWalk
set_option maxRecDepth 4000
def Pn (M:Nat) (e:Int) (p:Int):Int:=if e+(aq M:Nat) - p < -16384 then -16384 else e+(aq M:Nat) - p
def Zl (M:Nat) (e:Int) (more:Bool) (u:Int):Nat × Bool:=if u≤e then (M*2 ^ (e - u).toNat,more) else (M / 2 ^ (u - e).toNat,more || decide (M % 2 ^ (u - e).toNat ≠ 0))
def upQ (up:Bool) (q:Nat × Bool):Nat:=if (up && q.2)=true then q.1+1 else q.1
end Go.Ab
namespace Go.Ab
open Go Go.IntWalk
set_option maxRecDepth 4000
def ew (d:Rd):Rd × Int:=if sq (aq (ac d.m)) d.e=true then (d,0) else (et,9)
def Zm (p:Int) (up:Bool) (q:Nat) (u:Int):Rd × Int:=if 16384 < (aq q:Nat)+u then (if up=true then (et,9) else ew (cB false (2 ^ p.toNat - 1) (16384 - p))) else ew (cB false q u)
def rV (r:Rd × Int):AV:=.tup [aF r.1,I r.2]
theorem IV (d:Rd):Ky d=rV (ew d):=by
 unfold Ky ew
 split <;> rfl
def Zn (d:Rd):Rd:=if vd d=false∨d.m.length=0 then et else ⟨!d.neg,d.m,d.e⟩
def Zo (M:Nat) (e:Int) (more:Bool) (p:Int) (up:Bool):Rd × Int:=Zm p up (upQ up (Zl M e more (Pn M e p))) (Pn M e p)
def Zp (neg:Bool) (r:Rd × Int):Rd × Int:=if r.2=0∧neg=true then (Zn r.1,r.2) else r
end Go.Ab
namespace Go.Ab
open Go Go.IntWalk
set_option maxRecDepth 4000
theorem xq {d:Rd} (h:vd d=true) (hb:Lb d.m):d.m.length≤128:=by
 obtain ⟨h1,h2,h3,h4⟩:=kg h hb
 by_cases h0:d.m.length=0
 ·omega
 obtain ⟨g1,g2,g3,g4⟩:=rL h h0
 have h5:4294967296 ^ (d.m.length - 1)≤ac d.m:=by
  have h6:=vP (a:=d.m) (i:=d.m.length - 1) (by omega)
  rw [show d.m.length - 1+1=d.m.length by omega,List.take_length] at h6
  rw [h6]
  exact Nat.le_trans (Nat.le_mul_of_pos_right _ (Nat.pos_of_ne_zero g3)) (Nat.le_add_left _ _)
 have h7:32*(d.m.length - 1) < aq (ac d.m):=by
  rw [kB,Nat.pow_mul]
  exact h5
 omega
end Go.Ab
namespace Go.Ab
open Go Go.IntWalk
set_option maxRecDepth 4000
end Go.Ab
namespace Go.Ab
open Go Go.IntWalk
set_option maxRecDepth 4000
end Go.Ab
namespace Go.Ab
open Go Go.IntWalk
set_option maxRecDepth 4000
theorem pG {d:Rd} (h:vd d=true) (h0:d.m.length ≠ 0):bm d=(aq (ac d.m):Nat)+d.e:=by
 rw [bm,if_neg (fun h'=>h'.elim (fun h''=>by rw [h] at h''; exact nomatch h'') h0)]
end Go.Ab
namespace Go.Ab
open Go Go.IntWalk
set_option maxRecDepth 4000
theorem He {x y k:Nat} (hx:aq x≤k) (hy:aq y≤k):aq (x+y)≤k+1:=by
 rw [dm] at hx hy ⊢
 rw [Nat.pow_succ]
 omega
theorem Qh {x y:Nat} (hx:aq x≤5000) (hy:aq y≤5000):R F.natural_Add [lm (av x),lm (av y)] []=some (.tup [lm (av (x+y)),I 0],[]):=by
 have h1:(av x).length≤200:=bF (by omega)
 have h2:(av y).length≤200:=bF (by omega)
 have h3:=He hx hy
 have h4:(av (x+y)).length≤200:=bF (by omega)
 rw [RY (cd x) (cd y) (by omega) (by omega),bI,bI,i8,if_neg (by omega)]
theorem IW {x y:Nat} (hx:aq x≤5000) (hy:aq y≤5000) (h:y≤x):R F.natural_Sub [lm (av x),lm (av y)] []=some (.tup [lm (av (x - y)),I 0],[]):=by
 have h1:(av x).length≤200:=bF (by omega)
 have h2:(av y).length≤200:=bF (by omega)
 have h3:aq (x - y)≤5000:=by
  rw [dm] at hx ⊢
  omega
 have h4:(av (x - y)).length≤200:=bF (by omega)
 rw [RZ (cd x) (cd y) (by omega) (by omega),bI,bI,if_neg (by omega),i8,if_neg (by omega)]
end Go.Ab
namespace Go.Ab
open Go Go.IntWalk
set_option maxRecDepth 4000
end Go.Ab
namespace Go.Ab
open Go Go.IntWalk
set_option maxRecDepth 4000
end Go.Ab
namespace Go.Ab
open Go Go.IntWalk
set_option maxRecDepth 4000
def XM (z f p:Int) (up:Bool):Rd × Int:=if z=0 then (et,0) else Zp (decide (z < 0)) (Zo z.natAbs f false p (up != decide (z < 0)))
end Go.Ab
namespace Go.Ab
open Go Go.IntWalk
set_option maxRecDepth 4000
def fT (neg:Bool) (n:Nat):Int:=if neg=true then -(n:Int) else n
theorem i9 (n:Nat):fT true n=-(n:Int):=rfl
theorem ja (n:Nat):fT false n=(n:Int):=rfl
end Go.Ab
namespace Go.Ab
open Go Go.IntWalk
set_option maxRecDepth 4000
def Zq (a b:Rd) (p:Int) (up:Bool):Rd × Int:=if By p [a,b]=0 then XM (zI a*zI b) (-32768) p up else (et,By p [a,b])
theorem qX {d:Rd} (h:d.m.length=0):zI d=0:=by
 unfold zI
 rw [IU h]
 split <;> rfl
end Go.Ab
namespace Go.Ab
open Go Go.IntWalk
set_option maxRecDepth 4000
theorem nu {neg:Bool} {M:Nat} {e:Int} (h:M ≠ 0):cB neg M e=⟨neg,av (M / 2 ^ tz M),e+tz M⟩:=by
 unfold cB
 rw [if_neg h]
theorem jA {neg:Bool} {e:Int}:cB neg 0 e=et:=by
 unfold cB
 rw [if_pos rfl]
theorem oO {neg:Bool} {M k:Nat} {e:Int}:cB neg (M*2 ^ k) e=cB neg M (e+k):=by
 by_cases h:M=0
 ·rw [h,Nat.zero_mul,jA,jA]
 ·have h2:M*2 ^ k ≠ 0:=Nat.mul_ne_zero h (Nat.pos_iff_ne_zero.1 (Nat.two_pow_pos k))
  rw [nu h,nu h2,Nat.mul_comm M,AY k h,Nat.pow_add,Nat.mul_div_mul_left _ _ (Nat.two_pow_pos k)]
  rw [show e+((k+tz M:Nat):Int)=e+k+tz M by omega]
theorem uY {neg:Bool} {M:Nat} {e:Int} (h:M ≠ 0):ac (cB neg M e).m=M / 2 ^ tz M∧(cB neg M e).e=e+tz M∧M / 2 ^ tz M % 2=1∧aq (M / 2 ^ tz M)+tz M=aq M:=by
 obtain ⟨h1,h2⟩:=tE h
 refine ⟨?_,?_,h2,?_⟩
 ·rw [nu h]
  exact bI _
 ·rw [nu h]
 ·have h3:=lH (n:=M / 2 ^ tz M) (tz M) (by omega)
  rw [Nat.mul_comm,← h1] at h3
  exact h3.symm
theorem Qi {neg:Bool} {M:Nat} {e:Int} (h:sq (aq (ac (cB neg M e).m)) (cB neg M e).e=true):vd (cB neg M e)=true:=by
 by_cases h0:M=0
 ·subst h0
  rw [jA]
  rfl
 ·obtain ⟨g1,g2,g3,g4⟩:=uY (neg:=neg) (e:=e) h0
  have hn:M / 2 ^ tz M ≠ 0:=by omega
  rw [g1] at h
  have hb:=(tM h (Nat.pos_iff_ne_zero.1 (lG hn))).1
  rw [nu h0] at h ⊢
  unfold vd
  have hl:(av (M / 2 ^ tz M)).length≤128:=bF (by omega)
  have hl0:(av (M / 2 ^ tz M)).length ≠ 0:=fun h5=>hn (l6.1 (List.length_eq_zero_iff.1 h5))
  have ht:(av (M / 2 ^ tz M)).getD ((av (M / 2 ^ tz M)).length - 1) 0 ≠ 0:=(LB _).resolve_left (fun h5=>hn (l6.1 h5))
  have ho:(av (M / 2 ^ tz M)).getD 0 0 % 2=1:=by
   rw [l5 hn]
   show (M / 2 ^ tz M) % 4294967296 % 2=1
   omega
  rw [bI,if_neg hl0,decide_eq_true (p:=(av (M / 2 ^ tz M)).length≤256) (by omega),decide_eq_true ho,decide_eq_true ht]
  exact h
end Go.Ab
namespace Go.Ab
open Go Go.IntWalk
set_option maxRecDepth 4000
def Zr (d:Rd) (p:Int) (up:Bool):Rd × Int:=if By p [d]=0 then XM (zI d) (-16384) p up else (et,By p [d])
end Go.Ab
namespace Go.Ab
open Go Go.IntWalk
set_option maxRecDepth 4000
structure Ri where
 lo:Rd
 hi:Rd
 all:Bool
def XN (x:Ri):List AV:=[B x.lo.neg,lm x.lo.m,I x.lo.e,B x.hi.neg,lm x.hi.m,I x.hi.e,B x.all]
structure OkI (x:Ri):Prop where
 lo:Ok0 x.lo
 hi:Ok0 x.hi
def z0 (d:Rd):Bool:=!d.neg && (decide (d.m.length=0) && decide (d.e=0))
end Go.Ab
namespace Go.Ab
open Go Go.IntWalk
set_option maxRecDepth 4000
def LU (l:List Ri):List (List AV):=l.map XN
@[go_sem] theorem abN (l:List Ri):(LU l).length=l.length:=by simp [LU]
end Go.Ab
namespace Go.Ab
open Go Go.IntWalk
set_option maxRecDepth 4000
theorem Hf:vd et=true∧Ok0 et:=⟨rfl,⟨fun x hx=>(nomatch hx),by decide⟩⟩
end Go.Ab
namespace Go.Ab
open Go Go.IntWalk
set_option maxRecDepth 4000
set_option maxHeartbeats 1000000
end Go.Ab
namespace Go.Ab
open Go Go.IntWalk
set_option maxRecDepth 4000
set_option maxHeartbeats 1000000
def XO (d:Rd) (p:Int) (up:Bool):Nat→Rd × Int→Rd × Int
 | 0,r=>r
 | k+1,r=>if r.2=0 then XO d p up k (Zq r.1 d p up) else r
def pw (d:Rd) (n:Nat) (p:Int) (up:Bool):Rd × Int:=XO d p up (n - 1) (Zr d p up)
end Go.Ab
namespace Go.Ab
open Go Go.IntWalk
set_option maxRecDepth 4000
set_option maxHeartbeats 1000000
def sS (d:Rd):Int:=if vd d=false∨d.m.length=0 then 0 else if d.neg=true then -1 else 1
def one:Rd:=⟨false,[1],0⟩
end Go.Ab
namespace Go.Ab
open Go Go.IntWalk
set_option maxRecDepth 4000
set_option maxHeartbeats 1000000
def aY (l:List Int):List (List AV):=l.map fun (n:Int)=>[I n]
@[go_sem] theorem tN (l:List Int):(aY l).length=l.length:=by simp [aY]
theorem qY {l:List Int} {i:Int} {n:Nat} {d:Int} (hi:i=n) (h:l[n]?=some d):bH (aY l) i=some (.ipt [I d]):=by
 subst hi
 simp [bH,aY,h]
theorem Hg {x:Int}:R F.cmp_isNaN_int_ [I x] []=some (B false,[]):=by
 refine aX zJ zH (vZ false) rfl ?_
 simp only [i6,rB,go_sem,↓reduceIte,aee]
theorem LV {x y:Int}:R F.cmp_Compare_int_ [I x,I y] []=some (I (dM x y),[]):=by
 refine aX xg xf (tI false) rfl ?_
 have h1:=Hg (x:=x)
 have h2:=Hg (x:=y)
 unfold dM
 by_cases e1:x < y
 ·have f1:(x < y)=True:=tt e1
  rw [if_pos e1]
  simp only [dx,ix,go_sem,↓reduceIte,aee,aeg,aef,h1,h2,f1]
 ·have f1:(x < y)=False:=ff e1
  rw [if_neg e1]
  by_cases e2:y < x
  ·have f2:(y < x)=True:=tt e2
   rw [if_pos e2]
   simp only [dx,ix,go_sem,↓reduceIte,aee,aeg,aef,h1,h2,f1,f2]
  ·have f2:(y < x)=False:=ff e2
   rw [if_neg e2]
   simp only [dx,ix,go_sem,↓reduceIte,aee,aeg,aef,h1,h2,f1,f2]
def gU:List Int→List Int→Int
 | [],[]=>0
 | [],_::_=>-1
 | _::_,[]=>1
 | x::xs,y::ys=>if dM x y=0 then gU xs ys else dM x y
theorem Oa {a b:List Int} (hl:a.length=b.length) (h2:a.length≤100000):∀ (k i:Nat),i+k=a.length→∀ (s:af) (h:aa),s 0=.sl 1 (aY a)→s 1=.sl 1 (aY b)→s 9=.sl 1 (aY a)→s 10=I a.length→s 11=I i →
  ∃ hh,aI 0 [0,1] (aU (az R (ab false) cp) [0,1,9,10,11] [] s h)=if gU (a.drop i) (b.drop i)=0 then some (.normal,⟨upd (upd (fun _=>.any) 1 (.sl 1 (aY b))) 0 (.sl 1 (aY a)),fun _=>.dead⟩) else some (.ret,⟨upd (fun _=>.any) 4 (I (gU (a.drop i) (b.drop i))),hh⟩):=by
 intro k
 induction k with
 | zero =>
  intro i hi s h h0 h1 h9 h10 h11
  have e1:((i:Int) < a.length)=False:=ff (by omega)
  rw [List.drop_eq_nil_of_le (by omega),List.drop_eq_nil_of_le (by omega),aB]
  refine ⟨fun _=>.dead,?_⟩
  show _=if (0:Int)=0 then _ else _
  rw [if_pos rfl]
  simp only [cp,go_sem,↓reduceIte,aee,h0,h1,h9,h10,h11,e1]
 | succ k ih =>
  intro i hi s h h0 h1 h9 h10 h11
  have hlt:i < a.length:=by omega
  have hlt2:i < b.length:=by omega
  have e1:((i:Int) < a.length)=True:=tt (by omega)
  have e4:((b.length:Int)≤(i:Int))=False:=ff (by omega)
  have e2:bH (aY a) (i:Int)=some (.ipt [I a[i]]):=qY rfl (List.getElem?_eq_getElem hlt)
  have e3:bH (aY b) (i:Int)=some (.ipt [I b[i]]):=qY rfl (List.getElem?_eq_getElem hlt2)
  have e5:IntKind.i64.wrap ((i:Int)+1)=((i+1:Nat):Int):=wi (by omega) (by omega)
  rw [List.drop_eq_getElem_cons hlt,List.drop_eq_getElem_cons hlt2,aB]
  have ih':=ih (i+1) (by omega)
  have hc:=LV (x:=a[i]) (y:=b[i])
  generalize a[i]=x at e2 hc ⊢
  generalize b[i]=y at e3 hc ⊢
  generalize aU _ _ _=L at ih' ⊢
  unfold gU
  by_cases hz:dM x y=0
  ·have e6:(dM x y=0)=True:=tt hz
   simp only [if_pos hz]
   simp only [cp,go_sem,↓reduceIte,aee,aeg,aef,h0,h1,h9,h10,h11,e1,e2,e3,e4,e5,hc,e6]
   exact ih' _ _ rfl rfl rfl rfl rfl
  ·have e6:(dM x y=0)=False:=ff hz
   simp only [if_neg hz]
   refine ⟨?hh,?_⟩
   rotate_left
   simp only [cp,go_sem,↓reduceIte,aee,aeg,aef,h0,h1,h9,h10,h11,e1,e2,e3,e4,hc,e6]
   rfl
theorem Kz {a b:List Int} (hl:a.length=b.length) (h2:a.length≤100000):R F.slices_Compare_int_int_ [.sl 1 (aY a),.sl 1 (aY b)] []=some (I (gU a b),[]):=by
 refine aX qO qN (pA false) rfl ?_
 have h3:=Oa hl h2 a.length 0 (Nat.zero_add _)
 simp only [List.drop_zero,Int.natCast_zero] at h3
 by_cases hz:gU a b=0
 ·simp only [if_pos hz] at h3
  have e1:((a.length:Int) < b.length)=False:=ff (by omega)
  simp only [cE,ge,go_sem,↓reduceIte,aee]
  rw [(h3 _ _ rfl rfl rfl rfl rfl).choose_spec,hz]
  simp only [go_sem,↓reduceIte,aee,e1]
 ·simp only [if_neg hz] at h3
  simp only [cE,ge,go_sem,↓reduceIte,aee]
  rw [(h3 _ _ rfl rfl rfl rfl rfl).choose_spec]
  simp only [go_sem,↓reduceIte]
def bi:List Int→Int
 | []=>0
 | x::l=>x+bi l
def sm (l:List Int):Prop:=l.length≤1000∧∀ x ∈ l,0≤x∧x≤32
theorem Oc {l:List Int} {i:Nat} (h:i < l.length):bi (l.take (i+1))=bi (l.take i)+l[i]:=by
 induction l generalizing i with
 | nil=>exact absurd h (Nat.not_lt_zero _)
 | cons a l ih =>
  cases i with
  | zero=>simp [bi]
  | succ i =>
   have:=ih (i:=i) (by simpa using h)
   simp only [List.take_succ_cons,bi,List.getElem_cons_succ]
   rw [this]
   omega
theorem Sc {l:List Int} (h:∀ x ∈ l,0≤x∧x≤32):0≤bi l∧bi l≤32*l.length:=by
 induction l with
 | nil=>exact ⟨Int.le_refl _,Int.le_refl _⟩
 | cons a l ih =>
  have h1:=h a (List.mem_cons_self ..)
  have h2:=ih (fun x hx=>h x (List.mem_cons_of_mem _ hx))
  simp only [bi,List.length_cons]
  omega
theorem Od {a:List Int} (h2:sm a):∀ (k i:Nat),i+k=a.length→∀ (s:af) (h:aa),s 3=I (bi (a.take i))→s 6=.sl 1 (aY a)→s 7=I a.length→s 8=I i →
  aI 0 [3] (aU (az R (ab false) jR) [3,6,7,8] [] s h)=some (.normal,⟨upd (fun _=>.any) 3 (I (bi a)),fun _=>.dead⟩):=by
 intro k
 induction k with
 | zero =>
  intro i hi s h h3 h6 h7 h8
  have e1:((i:Int) < a.length)=False:=ff (by omega)
  rw [List.take_of_length_le (by omega)] at h3
  rw [aB]
  simp only [jR,go_sem,↓reduceIte,aee,h3,h6,h7,h8,e1]
 | succ k ih =>
  intro i hi s h h3 h6 h7 h8
  have hlt:i < a.length:=by omega
  obtain ⟨g1,g2⟩:=h2
  have e1:((i:Int) < a.length)=True:=tt (by omega)
  have e2:bH (aY a) (i:Int)=some (.ipt [I a[i]]):=qY rfl (List.getElem?_eq_getElem hlt)
  have e5:IntKind.i64.wrap ((i:Int)+1)=((i+1:Nat):Int):=wi (by omega) (by omega)
  have b1:=Sc (l:=a.take i) (fun x hx=>g2 x (List.mem_of_mem_take hx))
  have b2:=g2 a[i] (List.getElem_mem hlt)
  have b3:(a.take i).length≤1000:=by simp only [List.length_take]; omega
  have e6:IntKind.i64.wrap (bi (a.take i)+a[i])=bi (a.take (i+1)):=by
   rw [Oc hlt]
   exact i64_in _ ⟨by omega,by omega⟩
  have ih':=ih (i+1) (by omega)
  generalize a[i]=x at e2 e6 ⊢
  rw [aB]
  generalize aU _ _ _=L at ih' ⊢
  simp only [jR,go_sem,↓reduceIte,aee,h3,h6,h7,h8,e1,e2,e5,e6]
  exact ih' _ _ rfl rfl rfl rfl
theorem qn {a:List Int} (h2:sm a):R F.poly_degree [.sl 1 (aY a)] []=some (I (bi a),[]):=by
 refine aX DS DR (yY false) rfl ?_
 have h3:=Od h2 a.length 0 (Nat.zero_add _)
 simp only [List.take_zero,bi,Int.natCast_zero] at h3
 simp only [lT,vw,go_sem,↓reduceIte,aee]
 rw [h3 _ _ rfl rfl rfl rfl]
 simp only [go_sem,↓reduceIte]
def bt (a b:List Int):Int:=if dM (bi a) (bi b)=0 then gU b a else dM (bi a) (bi b)
theorem Hh {a b:List Int} (ha:sm a) (hb:sm b) (hl:a.length=b.length):R F.poly_order [.sl 1 (aY a),.sl 1 (aY b)] []=some (I (bt a b),[]):=by
 refine aX Gx Gw (Bc false) rfl ?_
 have d1:=qn ha
 have d2:=qn hb
 have d3:=LV (x:=bi a) (y:=bi b)
 have d4:=Kz hl.symm (by have:=hb.1; omega)
 unfold bt
 by_cases hz:dM (bi a) (bi b)=0
 ·have e6:(dM (bi a) (bi b)=0)=True:=tt hz
  rw [if_pos hz]
  simp only [ku,rx,go_sem,↓reduceIte,aee,aeg,aef,d1,d2,d3,d4,e6]
 ·have e6:(dM (bi a) (bi b)=0)=False:=ff hz
  rw [if_neg hz]
  simp only [ku,rx,go_sem,↓reduceIte,aee,aeg,aef,d1,d2,d3,e6]
end Go.Ab
namespace Go.Ab
open Go Go.IntWalk
set_option maxRecDepth 4000
set_option maxHeartbeats 1000000
structure Rt where
 exps:List Int
 c:Rd
structure Rp where
 vars:Int
 terms:List Rt
def bv (t:Rt):List AV:=[.sl 1 (aY t.exps),B t.c.neg,lm t.c.m,I t.c.e]
def ax (l:List Rt):List (List AV):=l.map bv
def aZ (a:Rp):AV:=.agg [I a.vars,.sl 4 (ax a.terms)]
@[go_sem] theorem fD (l:List Rt):(ax l).length=l.length:=by simp [ax]
theorem jt {l:List Rt} {i:Int} {n:Nat} {d:Rt} (hi:i=n) (h:l[n]?=some d):bH (ax l) i=some (.ipt (bv d)):=by
 subst hi
 simp [bH,ax,h]
theorem qo {α:Type} {f:α→α} {l:List α} (h:∀ x ∈ l,f x=x):l.map f=l:=(List.map_congr_left (g:=fun c=>c) h).trans (List.map_id' _)
@[go_sem] theorem tO (l:List Rt):(ax l).map (ce [.o 2 [],.o 0 [],.o 2 [],.o 0 []])=ax l:=by
 refine qo fun x hx=>?_
 simp only [ax,List.mem_map] at hx
 obtain ⟨t,ht,rfl⟩:=hx
 simp only [bv,go_sem]
structure OkT (t:Rt):Prop where
 c:Ok0 t.c
 len:t.exps.length≤100000
structure OkP (a:Rp):Prop where
 t:∀ t ∈ a.terms,OkT t
def rM (e:Int):Bool:=decide (e < 0) || decide (32 < e)
theorem Sd {e:Int}:R F.poly_Valid_1 [I e] []=some (B (rM e),[]):=by
 refine aX Cf Ce (yd false) rfl ?_
 unfold rM
 by_cases h:e < 0
 ·have e1:(e < 0)=True:=tt h
  simp only [iv,pm,go_sem,↓reduceIte,aee,e1,decide_true,Bool.true_or]
 ·have e1:(e < 0)=False:=ff h
  simp only [iv,pm,go_sem,↓reduceIte,aee,e1,decide_false,Bool.false_or]
theorem Oe {l:List Int} (h2:l.length≤100000):R F.slices_ContainsFunc_int_int_ [.sl 1 (aY l),.fn F.poly_Valid_1 [] []] []=some (B (l.any rM),[]):=by
 let p:List AV→Bool:=fun row=>match row with | [.v (.int _ e)]=>rM e | _=>false
 have h1:=Bo (k:=1) (g:=false) (f:=F.poly_Valid_1) (rows:=aY l) (p:=p) qk qj (oM false) rfl (tG false) (by rw [tN]; omega) (fun row hr=>by
  simp only [aY,List.mem_map] at hr
  obtain ⟨e,he,rfl⟩:=hr
  refine ⟨I e,rfl,rfl,?_⟩
  simp only [go_sem,Sd,p])
 have h2:=xT (k:=1) oK oJ (mM false) rfl (jy false) (pz false) (by simp only [go_sem]) h1
 have h3:(aY l).any p=l.any rM:=by
  unfold aY
  rw [List.any_map]
  rfl
 rw [h3] at h2
 exact h2
def Dh (v:Int) (t:Rt):Bool:=decide ((t.exps.length:Int)=v) && (vd t.c && (decide (t.c.m.length ≠ 0) && (!(t.exps.any rM) && decide (bi t.exps≤32))))
def Hi:Option Rt→Rt→Bool
 | none,_=>true
 | some q,t=>decide (bt q.exps t.exps < 0)
def tP (v:Int):Option Rt→List Rt→Bool
 | _,[]=>true
 | pr,t::l=>Dh v t && (Hi pr t && tP v (some t) l)
theorem Bz {v:Int} {t:Rt} (h:Dh v t=true):(t.exps.length:Int)=v∧vd t.c=true∧t.c.m.length ≠ 0∧t.exps.any rM=false∧bi t.exps≤32:=by
 unfold Dh at h
 simpa using h
theorem qZ {l:List Int} (h:l.any rM=false):∀ x ∈ l,0≤x∧x≤32:=by
 intro x hx
 have h1:=List.any_eq_false.1 h x hx
 unfold rM at h1
 simp only [Bool.or_eq_true,decide_eq_true_eq,not_or] at h1
 omega
theorem Qj {a:Rp} (ok:OkP a) (hv:a.vars≤8) (h2:a.terms.length≤500):∀ (k i:Nat),i+k=a.terms.length→∀ (pr:Option Rt),(i=0→pr=none)→(0 < i→∃ q,pr=some q∧a.terms[i - 1]?=some q∧Dh a.vars q=true) →
  ∀ (s:af) (h:aa),s 1=.ref 1 none 0 0 0→s 20=.sl 4 (ax a.terms)→s 21=I a.terms.length→s 22=I i→h 1=.bx [I a.vars,.sl 4 (ax a.terms)] →
  ∃ hh,aI 0 [] (aU (az R (ab false) bV) [1,20,21,22] [1] s h)=if tP a.vars pr (a.terms.drop i)=true then some (.normal,⟨fun _=>.any,hh⟩) else some (.ret,⟨upd (fun _=>.any) 2 (B false),hh⟩):=by
 intro k
 induction k with
 | zero =>
  intro i hi pr p0 p1 s h h1 h20 h21 h22 k1
  have e1:((i:Int) < a.terms.length)=False:=ff (by omega)
  rw [List.drop_eq_nil_of_le (by omega),aB]
  refine ⟨?hh0,?_⟩
  rotate_left
  show _=if true=true then _ else _
  rw [if_pos rfl]
  simp only [bV,go_sem,↓reduceIte,aee,aei,h1,h20,h21,h22,k1,e1]
  rfl
 | succ k ih =>
  intro i hi pr p0 p1 s h h1 h20 h21 h22 k1
  have hlt:i < a.terms.length:=by omega
  have e1:((i:Int) < a.terms.length)=True:=tt (by omega)
  have e2:bH (ax a.terms) (i:Int)=some (.ipt (bv a.terms[i])):=jt rfl (List.getElem?_eq_getElem hlt)
  have e5:IntKind.i64.wrap ((i:Int)+1)=((i+1:Nat):Int):=wi (by omega) (by omega)
  have okt:=ok.t a.terms[i] (List.getElem_mem hlt)
  have hnext:a.terms[i+1 - 1]?=some a.terms[i]:=List.getElem?_eq_getElem hlt
  rw [List.drop_eq_getElem_cons hlt,aB]
  have ih':=ih (i+1) (by omega) (some a.terms[i]) (fun h=>absurd h (Nat.succ_ne_zero _))
  generalize a.terms[i]=t at e2 okt ih' hnext ⊢
  generalize aU _ _ _=L at ih' ⊢
  have hvd:=iL okt.c
  have hct:=Oe okt.len
  simp only [bv] at e2
  simp only [aF,aW] at hvd
  unfold tP
  cases hb:Dh a.vars t with
  | false =>
   simp only [Bool.false_and,if_neg Bool.false_ne_true]
   unfold Dh at hb
   by_cases c1:(t.exps.length:Int)=a.vars
   ·have f1:((t.exps.length:Int)=a.vars)=True:=tt c1
    rw [decide_eq_true c1,Bool.true_and] at hb
    cases c2:vd t.c with
    | false =>
     rw [c2] at hvd
     refine ⟨?hh2,?_⟩
     rotate_left
     simp only [bV,go_sem,↓reduceIte,aee,aeg,aef,aeh,aei,h1,h20,h21,h22,k1,e1,e2,f1,hvd]
     rfl
    | true =>
     rw [c2] at hvd hb
     rw [Bool.true_and] at hb
     by_cases c3:t.c.m.length=0
     ·have f3:((t.c.m.length:Int)=0)=True:=tt (by omega)
      refine ⟨?hh3,?_⟩
      rotate_left
      simp only [bV,go_sem,↓reduceIte,aee,aeg,aef,aeh,aei,h1,h20,h21,h22,k1,e1,e2,f1,hvd,f3]
      rfl
     ·have f3:((t.c.m.length:Int)=0)=False:=ff (by omega)
      rw [decide_eq_true c3,Bool.true_and] at hb
      cases c4:t.exps.any rM with
      | true =>
       rw [c4] at hct
       refine ⟨?hh4,?_⟩
       rotate_left
       simp only [bV,go_sem,↓reduceIte,aee,aeg,aef,aeh,aei,h1,h20,h21,h22,k1,e1,e2,f1,hvd,f3,hct]
       rfl
      | false =>
       rw [c4] at hct hb
       rw [Bool.not_false,Bool.true_and] at hb
       have hdg:=qn (a:=t.exps) ⟨by omega,qZ c4⟩
       have f5:(32 < bi t.exps)=True:=tt (by have:=of_decide_eq_false hb; omega)
       refine ⟨?hh5,?_⟩
       rotate_left
       simp only [bV,go_sem,↓reduceIte,aee,aeg,aef,aeh,aei,h1,h20,h21,h22,k1,e1,e2,f1,hvd,f3,hct,hdg,f5]
       rfl
   ·have f1:((t.exps.length:Int)=a.vars)=False:=ff c1
    refine ⟨?hh1,?_⟩
    rotate_left
    simp only [bV,go_sem,↓reduceIte,aee,aeg,aef,aeh,aei,h1,h20,h21,h22,k1,e1,e2,f1]
    rfl
  | true =>
   obtain ⟨c1,c2,c3,c4,c5⟩:=Bz hb
   have f1:((t.exps.length:Int)=a.vars)=True:=tt c1
   rw [c2] at hvd
   have f3:((t.c.m.length:Int)=0)=False:=ff (by omega)
   rw [c4] at hct
   have hdg:=qn (a:=t.exps) ⟨by omega,qZ c4⟩
   have f5:(32 < bi t.exps)=False:=ff (by omega)
   simp only [Bool.true_and]
   by_cases hi0:i=0
   ·have f6:(0 < (i:Int))=False:=ff (by omega)
    rw [p0 hi0]
    simp only [Hi,Bool.true_and]
    simp only [bV,go_sem,↓reduceIte,aee,aeg,aef,aeh,aei,h1,h20,h21,h22,k1,e1,e2,f1,hvd,f3,hct,hdg,f5,f6,e5]
    exact ih' (fun _=>⟨t,rfl,hnext,hb⟩) _ _ rfl rfl rfl rfl rfl
   ·have f6:(0 < (i:Int))=True:=tt (by omega)
    obtain ⟨q,q1,q2,q3⟩:=p1 (by omega)
    obtain ⟨d1,d2,d3,d4,d5⟩:=Bz q3
    rw [q1]
    have e7:IntKind.i64.wrap ((i:Int) - 1)=((i - 1:Nat):Int):=wi (by omega) (by omega)
    have e8:bH (ax a.terms) ((i - 1:Nat):Int)=some (.ipt (bv q)):=jt rfl q2
    simp only [bv] at e8
    have ho:=Hh (a:=q.exps) (b:=t.exps) ⟨by omega,qZ d4⟩ ⟨by omega,qZ c4⟩ (by omega)
    simp only [Hi]
    by_cases c6:bt q.exps t.exps < 0
    ·have f7:(0≤bt q.exps t.exps)=False:=ff (by omega)
     simp only [decide_eq_true c6,Bool.true_and]
     simp only [bV,go_sem,↓reduceIte,aee,aeg,aef,aeh,aej,aei,h1,h20,h21,h22,k1,e1,e2,f1,hvd,f3,hct,hdg,f5,f6,e5,e7,e8,ho,f7]
     exact ih' (fun _=>⟨t,rfl,hnext,hb⟩) _ _ rfl rfl rfl rfl rfl
    ·have f7:(0≤bt q.exps t.exps)=True:=tt (by omega)
     simp only [decide_eq_false c6,Bool.false_and,if_neg Bool.false_ne_true]
     refine ⟨?hh7,?_⟩
     rotate_left
     simp only [bV,go_sem,↓reduceIte,aee,aeg,aef,aeh,aej,aei,h1,h20,h21,h22,k1,e1,e2,f1,hvd,f3,hct,hdg,f5,f6,e7,e8,ho,f7]
     rfl
def vp (a:Rp):Bool:=decide (0≤a.vars) && (decide (a.vars≤8) && (decide (a.terms.length≤500) && tP a.vars none a.terms))
theorem nQ {a:Rp} (ok:OkP a):R F.poly_Valid [aZ a] []=some (B (vp a),[]):=by
 refine aX Gf Ge (AZ false) rfl ?_
 unfold vp
 by_cases c1:0≤a.vars
 ·have f1:(a.vars < 0)=False:=ff (by omega)
  rw [decide_eq_true c1,Bool.true_and]
  by_cases c2:a.vars≤8
  ·have f2:(8 < a.vars)=False:=ff (by omega)
   rw [decide_eq_true c2,Bool.true_and]
   by_cases c3:a.terms.length≤500
   ·have f3:(500 < (a.terms.length:Int))=False:=ff (by omega)
    rw [decide_eq_true c3,Bool.true_and]
    have h3:=Qj ok c2 c3 a.terms.length 0 (Nat.zero_add _) none (fun _=>rfl) (fun h=>absurd h (Nat.lt_irrefl _))
    simp only [List.drop_zero,Int.natCast_zero] at h3
    cases hb:tP a.vars none a.terms with
    | true =>
     rw [hb] at h3
     simp only [] at h3
     simp only [ej,ji,aZ,go_sem,↓reduceIte,aee,aeg,aef,f1,f2,f3]
     rw [(h3 _ _ rfl rfl rfl rfl rfl).choose_spec]
     simp only [go_sem,↓reduceIte]
    | false =>
     rw [hb] at h3
     simp only [if_neg Bool.false_ne_true] at h3
     simp only [ej,ji,aZ,go_sem,↓reduceIte,aee,aeg,aef,f1,f2,f3]
     rw [(h3 _ _ rfl rfl rfl rfl rfl).choose_spec]
     simp only [go_sem,↓reduceIte]
   ·have f3:(500 < (a.terms.length:Int))=True:=tt (by omega)
    rw [decide_eq_false c3,Bool.false_and]
    simp only [ej,ji,aZ,go_sem,↓reduceIte,aee,aeg,aef,f1,f2,f3]
  ·have f2:(8 < a.vars)=True:=tt (by omega)
   rw [decide_eq_false c2,Bool.false_and]
   simp only [ej,ji,aZ,go_sem,↓reduceIte,aee,aeg,aef,f1,f2]
 ·have f1:(a.vars < 0)=True:=tt (by omega)
  rw [decide_eq_false c1,Bool.false_and]
  simp only [ej,ji,aZ,go_sem,↓reduceIte,aee,aeg,aef,f1]
end Go.Ab
namespace Go.Ab
open Go Go.IntWalk
set_option maxRecDepth 4000
set_option maxHeartbeats 1000000
@[go_sem] theorem abO (l:List Ri):(LU l).map (ce [.o 0 [],.o 2 [],.o 0 [],.o 0 [],.o 2 [],.o 0 [],.o 0 []])=LU l:=by
 refine qo fun x hx=>?_
 simp only [LU,List.mem_map] at hx
 obtain ⟨t,ht,rfl⟩:=hx
 simp only [XN,go_sem]
end Go.Ab
namespace Go.Ab
open Go Go.IntWalk
set_option maxRecDepth 4000
set_option maxHeartbeats 1000000
theorem Qk {v:Int}:∀ (l:List Rt) (pr:Option Rt),tP v pr l=true→∀ t ∈ l,Dh v t=true:=by
 intro l
 induction l with
 | nil=>exact fun pr h t ht=>nomatch ht
 | cons a l ih =>
  intro pr h t ht
  unfold tP at h
  simp only [Bool.and_eq_true] at h
  rcases List.mem_cons.1 ht with h1 | h1
  ·rw [h1]
   exact h.1
  ·exact ih _ h.2.2 t h1
end Go.Ab
namespace Go.Ab
open Go Go.IntWalk
set_option maxRecDepth 4000
set_option maxHeartbeats 1000000
theorem agK {n:Nat} {i:Int} (hi:i=n) (hn:n < 4294967296):dI .and (.v (.int .u32 i)) (.v (.int .u32 1))=some (.v (.int .u32 ((n % 2:Nat):Int))):=by
 subst hi
 rw [aad]
 have e:(BitVec.ofInt IntKind.u32.bits (n:Int) &&& BitVec.ofInt IntKind.u32.bits 1).toNat=n % 2:=by
  show (BitVec.ofInt 32 (n:Int) &&& BitVec.ofInt 32 1).toNat=n % 2
  rw [BitVec.toNat_and]
  have e2:(BitVec.ofInt 32 (n:Int)).toNat=n:=by
   simp
   omega
  rw [e2,show (BitVec.ofInt 32 1).toNat=2 ^ 1 - 1 from by decide,Nat.and_two_pow_sub_one_eq_mod]
 rw [e]
 rw [RX rfl (by omega)]
theorem ah7:∀ (x b:Nat),x < 4294967296→b+aq x≤100000000→∀ (s:af) (h:aa),s 3=I b→s 4=U x →
  aI 0 [3] (aU (az R (ab false) aeV) [3,4] [] s h)=some (.normal,⟨upd (fun _=>.any) 3 (I (b+aq x:Nat)),fun _=>.dead⟩):=by
 intro x
 induction x using Nat.strongRecOn with
 | ind x ih =>
  intro b hx hb s h h3 h4
  rw [aB]
  by_cases h0:x=0
  ·have e1:(0 < (x:Int))=False:=ff (by omega)
   rw [h0,LR,Nat.add_zero]
   rw [h0] at e1 h4
   simp only [aeV,go_sem,↓reduceIte,aee,h3,h4,e1]
  ·have e1:(0 < (x:Int))=True:=tt (by omega)
   have e2:=Kv (n:=x) (k:=1) (kk:=.u64) (j:=1) rfl rfl (by omega)
   have e3:IntKind.i64.wrap ((b:Int)+1)=((b+1:Nat):Int):=wi (by omega) (by omega)
   have e4:aq x=1+aq (x / 2 ^ 1):=by
    have h5:=zY x 1
    have h6:=lG h0
    omega
   have ih':=ih (x / 2 ^ 1) (by omega) (b+1) (by omega) (by omega)
   rw [show b+aq x=b+1+aq (x / 2 ^ 1) by omega]
   generalize aU _ _ _=L at ih' ⊢
   simp only [aeV,go_sem,↓reduceIte,aee,h3,h4,e1,e2,e3]
   exact ih' _ _ rfl rfl
theorem aiD {m:List Nat} (hb:Lb m) (h:m.length≤1000000) (hc:uQ m):R F.r02_bits [lm m] []=some (I (aq (ac m):Nat),[]):=by
 refine aX ahG ahF (agi false) rfl ?_
 by_cases h0:m.length=0
 ·have:m=[]:=List.length_eq_zero_iff.1 h0
  subst this
  simp only [aeT,afk,go_sem,↓reduceIte,aee,List.length_nil,Int.natCast_zero,ac,LR]
 ·have e1:((m.length:Int)=0)=False:=ff (by omega)
  have e2:IntKind.i64.wrap ((m.length:Int) - 1)=((m.length - 1:Nat):Int):=wi (by omega) (by omega)
  have e3:IntKind.i64.wrap (32*((m.length - 1:Nat):Int))=((32*(m.length - 1):Nat):Int):=wi (by omega) (by omega)
  have e4:bH (aP m) ((m.length - 1:Nat):Int)=some (.ipt [U (m.getD (m.length - 1) 0:Nat)]):=de rfl (by omega)
  have hx:=dQ hb (m.length - 1)
  have e5:=ah7 (m.getD (m.length - 1) 0) (32*(m.length - 1)) hx (by have:=(dm (k:=32)).2 hx; omega)
  have e6:32*(m.length - 1)+aq (m.getD (m.length - 1) 0)=aq (ac m):=by
   have hne:m ≠ []:=fun h=>h0 (by rw [h]; rfl)
   have h7:=N6 (LA hc hne)
   rw [IH hb hc] at h7
   exact h7.symm
  rw [e6] at e5
  simp only [aeT,afk,go_sem,↓reduceIte,aee,e1,e2,e3,e4]
  rw [e5 _ _ rfl rfl]
  simp only [go_sem,↓reduceIte]
end Go.Ab
namespace Go.Ab
open Go Go.IntWalk
set_option maxRecDepth 4000
set_option maxHeartbeats 1000000
end Go.Ab
namespace Go.Ab
open Go Go.IntWalk
set_option maxRecDepth 4000
set_option maxHeartbeats 1000000
end Go.Ab
namespace Go.Ab
open Go Go.IntWalk
set_option maxRecDepth 4000
set_option maxHeartbeats 1000000
end Go.Ab
namespace Go.Ab
open Go Go.IntWalk
set_option maxRecDepth 4000
set_option maxHeartbeats 1000000
end Go.Ab
namespace Go.Ab
open Go Go.IntWalk
set_option maxRecDepth 4000
set_option maxHeartbeats 1000000
end Go.Ab
namespace Go.Ab
open Go Go.IntWalk
set_option maxRecDepth 4000
set_option maxHeartbeats 1000000
end Go.Ab
namespace Go.Ab
open Go Go.IntWalk
set_option maxRecDepth 4000
set_option maxHeartbeats 1000000
theorem ae5 {d:Rd} (ok:Ok0 d):R F.r02_Valid [aF d] []=some (B (vd d),[]):=by
 refine aX ag7 ag6 (afT false) rfl ?_
 unfold vd
 have hl:=ok.len
 by_cases a0:d.m.length=0
 ·rw [if_pos a0]
  have e1:((d.m.length:Int)=0)=True:=tt (by omega)
  cases hn:d.neg with
  | true=>simp only [adr,adA,aF,aW,hn,go_sem,↓reduceIte,aee,aeg,aef,e1,Bool.not_true,Bool.false_and]
  | false=>simp only [adr,adA,aF,aW,hn,go_sem,↓reduceIte,aee,aeg,aef,e1,Bool.not_false,Bool.true_and]
 rw [if_neg a0]
 have e1:((d.m.length:Int)=0)=False:=ff (by omega)
 by_cases a1:¬ d.m.length≤256
 ·have e2:(256 < (d.m.length:Int))=True:=tt (by omega)
  rw [decide_eq_false a1,Bool.false_and]
  simp only [adr,adA,aF,aW,go_sem,↓reduceIte,aee,aeg,aef,e1,e2]
 replace a1:=Decidable.not_not.1 a1
 have e2:(256 < (d.m.length:Int))=False:=ff (by omega)
 have e3:bH (aP d.m) 0=some (.ipt [U (d.m.getD 0 0:Nat)]):=de rfl (by omega)
 have e6:IntKind.i64.wrap ((d.m.length:Int) - 1)=((d.m.length - 1:Nat):Int):=wi (by omega) (by omega)
 have e7:bH (aP d.m) ((d.m.length - 1:Nat):Int)=some (.ipt [U (d.m.getD (d.m.length - 1) 0:Nat)]):=de rfl (by omega)
 have hx:=dQ ok.lb 0
 rw [decide_eq_true a1,Bool.true_and]
 by_cases a3:d.m.getD (d.m.length - 1) 0=0
 ·have e8:((d.m.getD (d.m.length - 1) 0:Int)=0)=True:=tt (by omega)
  rw [decide_eq_false (p:=d.m.getD (d.m.length - 1) 0 ≠ 0) (fun h=>h a3),Bool.false_and,Bool.and_false]
  simp only [adr,adA,aF,aW,go_sem,↓reduceIte,aee,aeg,aef,e1,e2,e6,e7,e8]
 have e8:((d.m.getD (d.m.length - 1) 0:Int)=0)=False:=ff (by omega)
 rw [decide_eq_true (p:=d.m.getD (d.m.length - 1) 0 ≠ 0) a3,Bool.true_and]
 have e4:=agK (n:=d.m.getD 0 0) rfl hx
 by_cases a2:¬ d.m.getD 0 0 % 2=1
 ·have e5:(((d.m.getD 0 0 % 2:Nat):Int)=0)=True:=tt (by omega)
  rw [decide_eq_false a2,Bool.false_and]
  simp only [adr,adA,aF,aW,go_sem,↓reduceIte,aee,aeg,aef,e1,e2,e3,e4,e5,e6,e7,e8]
 replace a2:=Decidable.not_not.1 a2
 have e5:(((d.m.getD 0 0 % 2:Nat):Int)=0)=False:=ff (by omega)
 rw [decide_eq_true a2,Bool.true_and]
 have hv:ac d.m ≠ 0:=LA (Or.inr a3) (fun h=>a0 (by rw [h]; rfl))
 have hbp:=lG hv
 unfold sq
 rw [decide_eq_false (p:=aq (ac d.m)=0) (by omega),Bool.false_or]
 by_cases a4:d.e < -16384
 ·have f1:(d.e < -16384)=True:=tt a4
  rw [decide_eq_false (p:=-16384≤d.e) (by omega),Bool.false_and,Bool.and_false]
  simp only [adr,adA,aF,aW,go_sem,↓reduceIte,aee,aeg,aef,e1,e2,e3,e4,e5,e6,e7,e8,f1]
 have f1:(d.e < -16384)=False:=ff a4
 rw [decide_eq_true (p:=-16384≤d.e) (by omega),Bool.true_and]
 by_cases a5:16384 < d.e
 ·have f2:(16384 < d.e)=True:=tt a5
  rw [decide_eq_false (p:=d.e≤16384) (by omega),Bool.false_and,Bool.and_false]
  simp only [adr,adA,aF,aW,go_sem,↓reduceIte,aee,aeg,aef,e1,e2,e3,e4,e5,e6,e7,e8,f1,f2]
 have f2:(16384 < d.e)=False:=ff a5
 rw [decide_eq_true (p:=d.e≤16384) (by omega),Bool.true_and]
 have hb:=aiD ok.lb (by omega) (Or.inr a3)
 have hbl:=aiA ok.lb
 have w1:IntKind.i64.wrap (((aq (ac d.m):Nat):Int)+d.e)=((aq (ac d.m):Nat):Int)+d.e:=i64_in _ ⟨by omega,by omega⟩
 by_cases a6:aq (ac d.m)≤4096
 ·have f3:(((aq (ac d.m):Nat):Int)≤4096)=True:=tt (by omega)
  rw [decide_eq_true a6,Bool.true_and]
  simp only [adr,adA,aF,aW,go_sem,↓reduceIte,aee,aeg,aef,e1,e2,e3,e4,e5,e6,e7,e8,f1,f2,hb,f3,w1]
 ·have f3:(((aq (ac d.m):Nat):Int)≤4096)=False:=ff (by omega)
  rw [decide_eq_false a6,Bool.false_and]
  simp only [adr,adA,aF,aW,go_sem,↓reduceIte,aee,aeg,aef,e1,e2,e3,e4,e5,e6,e7,e8,f1,f2,hb,f3]
theorem Of {d:Rd} (h:vd d=true):uQ d.m:=by
 by_cases h0:d.m.length=0
 ·exact Or.inl (List.length_eq_zero_iff.1 h0)
 ·exact Or.inr (rL h h0).2.2.1
def gl (z f:Int):Rd:=cB (decide (z < 0)) z.natAbs f
theorem tQ {neg:Bool} {n:Nat} {f:Int}:cB neg n f=gl (fT neg n) f:=by
 unfold gl
 by_cases h0:n=0
 ·subst h0
  rw [jA]
  cases neg <;> exact jA.symm
 ·cases neg with
  | false =>
   rw [ja,Int.natAbs_natCast,decide_eq_false (by omega)]
  | true =>
   rw [i9,Int.natAbs_neg,Int.natAbs_natCast,decide_eq_true (by omega)]
theorem LW {n:Nat} (h:n % 2=1) (k:Nat):tz (n*2 ^ k)=k:=by
 rw [Nat.mul_comm,AY k (by omega),w7 h,Nat.add_zero]
theorem tT {d:Rd} (ok:Ok0 d) (h:vd d=true):gl (zI d) (-16384)=d:=by
 by_cases h0:d.m.length=0
 ·rw [qX h0]
  have:=xU h h0
  subst this
  exact jA
 ·obtain ⟨h1,h2,h3,h4⟩:=rL h h0
  obtain ⟨g1,g2,g3,g4⟩:=kg h ok.lb
  have hz:zI d=fT d.neg (mg d):=by
   unfold zI fT
   rfl
  rw [hz,← tQ]
  unfold mg
  rw [oO,nu (iI h h0)]
  have ho:ac d.m % 2=1:=by
   have:=en d.m 0
   rw [List.drop_zero] at this
   omega
  rw [w7 ho,Nat.pow_zero,Nat.div_one,IH ok.lb (Of h)]
  obtain ⟨n,m,e⟩:=d
  show (⟨n,m,-16384+(((e+16384).toNat:Nat):Int)+((0:Nat):Int)⟩:Rd)=_
  rw [show -16384+(((e+16384).toNat:Nat):Int)+((0:Nat):Int)=e by have:-16384≤e:=g2; omega]
end Go.Ab
namespace Go.Ab
open Go Go.IntWalk
set_option maxRecDepth 4000
set_option maxHeartbeats 1000000
end Go.Ab
namespace Go.Ab
open Go Go.IntWalk
set_option maxRecDepth 4000
set_option maxHeartbeats 1000000
end Go.Ab
namespace Go.Ab
open Go Go.IntWalk
set_option maxRecDepth 4000
set_option maxHeartbeats 2000000
end Go.Ab
namespace Go.Ab
open Go Go.IntWalk
set_option maxRecDepth 4000
set_option maxHeartbeats 1000000
end Go.Ab
namespace Go.Ab
open Go Go.IntWalk
set_option maxRecDepth 4000
set_option maxHeartbeats 1000000
theorem LY {a b:Rd} (oa:Ok0 a) (ob:Ok0 b) (va:vd a=true) (vb:vd b=true) (h:zI a=zI b):a=b:=by
 rw [← tT oa va,← tT ob vb,h]
theorem kh (x y:Int):(x < y∧dM x y=-1)∨(x=y∧dM x y=0)∨(y < x∧dM x y=1):=by
 unfold dM
 rcases Int.lt_trichotomy x y with h | h | h
 ·exact Or.inl ⟨h,if_pos h⟩
 ·exact Or.inr (Or.inl ⟨h,by rw [if_neg (by omega)]; exact if_neg (by omega)⟩)
 ·exact Or.inr (Or.inr ⟨h,by rw [if_neg (by omega)]; exact if_pos h⟩)
end Go.Ab
namespace Go.Ab
open Go Go.IntWalk
set_option maxRecDepth 4000
set_option maxHeartbeats 1000000
theorem ahO {a:List Int} (h2:sm a):∀ (k i:Nat),i+k=a.length→∀ (s:af) (h:aa),s 0=.sl 1 (aY a)→s 3=I (bi (a.take i))→s 4=I i →
  aI 0 [3] (aU (az R (ab false) aeX) [0,3,4] [] s h)=some (.normal,⟨upd (fun _=>.any) 3 (I (bi a)),fun _=>.dead⟩):=by
 intro k
 induction k with
 | zero =>
  intro i hi s h h0 h3 h4
  have e1:((i:Int) < a.length)=False:=ff (by omega)
  rw [List.take_of_length_le (by omega)] at h3
  rw [aB]
  simp only [aeX,go_sem,↓reduceIte,aee,h0,h3,h4,e1]
 | succ k ih =>
  intro i hi s h h0 h3 h4
  have hlt:i < a.length:=by omega
  obtain ⟨g1,g2⟩:=h2
  have e1:((i:Int) < a.length)=True:=tt (by omega)
  have e2:bH (aY a) (i:Int)=some (.ipt [I a[i]]):=qY rfl (List.getElem?_eq_getElem hlt)
  have e5:IntKind.i64.wrap ((i:Int)+1)=((i+1:Nat):Int):=wi (by omega) (by omega)
  have b1:=Sc (l:=a.take i) (fun x hx=>g2 x (List.mem_of_mem_take hx))
  have b2:=g2 a[i] (List.getElem_mem hlt)
  have b3:(a.take i).length≤1000:=by simp only [List.length_take]; omega
  have e6:IntKind.i64.wrap (bi (a.take i)+a[i])=bi (a.take (i+1)):=by
   rw [Oc hlt]
   exact i64_in _ ⟨by omega,by omega⟩
  have ih':=ih (i+1) (by omega)
  generalize a[i]=x at e2 e6 ⊢
  rw [aB]
  generalize aU _ _ _=L at ih' ⊢
  simp only [aeX,go_sem,↓reduceIte,aee,h0,h3,h4,e1,e2,e5,e6]
  exact ih' _ _ rfl rfl rfl
theorem agQ {a:List Int} (h2:sm a):R F.r23_sum [.sl 1 (aY a)] []=some (I (bi a),[]):=by
 refine aX ah5 ah4 (agG false) rfl ?_
 have h3:=ahO h2 a.length 0 (Nat.zero_add _)
 simp only [List.take_zero,bi,Int.natCast_zero] at h3
 simp only [afa,af1,go_sem,↓reduceIte,aee]
 rw [h3 _ _ rfl rfl rfl]
 simp only [go_sem,↓reduceIte]
theorem ahP {a b:List Int} (hl:a.length=b.length) (h2:a.length≤100000):∀ (k i:Nat),i+k=a.length→∀ (s:af) (h:aa),s 0=.sl 1 (aY a)→s 1=.sl 1 (aY b)→s 7=I i →
  ∃ hh,aI 0 [] (aU (az R (ab false) adG) [0,1,7] [] s h)=if gU (b.drop i) (a.drop i)=0 then some (.normal,⟨fun _=>.any,fun _=>.dead⟩) else some (.ret,⟨upd (fun _=>.any) 4 (I (gU (b.drop i) (a.drop i))),hh⟩):=by
 intro k
 induction k with
 | zero =>
  intro i hi s h h0 h1 h7
  have e1:((i:Int) < a.length)=False:=ff (by omega)
  rw [List.drop_eq_nil_of_le (by omega),List.drop_eq_nil_of_le (by omega),aB]
  refine ⟨fun _=>.dead,?_⟩
  show _=if (0:Int)=0 then _ else _
  rw [if_pos rfl]
  simp only [adG,go_sem,↓reduceIte,aee,h0,h1,h7,e1]
 | succ k ih =>
  intro i hi s h h0 h1 h7
  have hlt:i < a.length:=by omega
  have hlt2:i < b.length:=by omega
  have e1:((i:Int) < a.length)=True:=tt (by omega)
  have e2:bH (aY a) (i:Int)=some (.ipt [I a[i]]):=qY rfl (List.getElem?_eq_getElem hlt)
  have e3:bH (aY b) (i:Int)=some (.ipt [I b[i]]):=qY rfl (List.getElem?_eq_getElem hlt2)
  have e5:IntKind.i64.wrap ((i:Int)+1)=((i+1:Nat):Int):=wi (by omega) (by omega)
  rw [List.drop_eq_getElem_cons hlt,List.drop_eq_getElem_cons hlt2,aB]
  have ih':=ih (i+1) (by omega)
  generalize a[i]=x at e2 ⊢
  generalize b[i]=y at e3 ⊢
  generalize aU _ _ _=L at ih' ⊢
  unfold gU
  rcases kh y x with ⟨g,e⟩ | ⟨g,e⟩ | ⟨g,e⟩
  ·have e6:(y < x)=True:=tt g
   simp only [e,↓reduceIte,anY,Int.reduceNeg]
   refine ⟨?hh1,?_⟩
   rotate_left
   simp only [adG,go_sem,↓reduceIte,aee,h0,h1,h7,e1,e2,e3,e6]
   rfl
  ·have e6:(y < x)=False:=ff (by omega)
   have e7:(x < y)=False:=ff (by omega)
   simp only [e,↓reduceIte]
   simp only [adG,go_sem,↓reduceIte,aee,h0,h1,h7,e1,e2,e3,e5,e6,e7]
   exact ih' _ _ rfl rfl rfl
  ·have e6:(y < x)=False:=ff (by omega)
   have e7:(x < y)=True:=tt (by omega)
   simp only [e,↓reduceIte,anY]
   refine ⟨?hh2,?_⟩
   rotate_left
   simp only [adG,go_sem,↓reduceIte,aee,h0,h1,h7,e1,e2,e3,e6,e7]
   rfl
theorem afr {a b:List Int} (ha:sm a) (hb:sm b) (hl:a.length=b.length):R F.r23_Compare [.sl 1 (aY a),.sl 1 (aY b)] []=some (I (bt a b),[]):=by
 refine aX agf age (afE false) rfl ?_
 have d1:=agQ ha
 have d2:=agQ hb
 have h3:=ahP hl (by have:=ha.1; omega) a.length 0 (Nat.zero_add _)
 simp only [List.drop_zero,Int.natCast_zero] at h3
 unfold bt
 rcases kh (bi a) (bi b) with ⟨g,e⟩ | ⟨g,e⟩ | ⟨g,e⟩
 ·have e6:(bi a < bi b)=True:=tt g
  rw [e,if_neg (by decide)]
  simp only [adH,aeE,go_sem,↓reduceIte,aee,aeg,aef,d1,d2,e6]
 ·have e6:(bi a < bi b)=False:=ff (by omega)
  have e7:(bi b < bi a)=False:=ff (by omega)
  rw [e,if_pos rfl]
  by_cases hz:gU b a=0
  ·simp only [if_pos hz] at h3
   simp only [adH,aeE,go_sem,↓reduceIte,aee,aeg,aef,d1,d2,e6,e7]
   rw [(h3 _ _ rfl rfl rfl).choose_spec,hz]
   simp only [go_sem,↓reduceIte]
  ·simp only [if_neg hz] at h3
   simp only [adH,aeE,go_sem,↓reduceIte,aee,aeg,aef,d1,d2,e6,e7]
   rw [(h3 _ _ rfl rfl rfl).choose_spec]
   simp only [go_sem,↓reduceIte]
 ·have e6:(bi a < bi b)=False:=ff (by omega)
  have e7:(bi b < bi a)=True:=tt (by omega)
  rw [e,if_neg (by decide)]
  simp only [adH,aeE,go_sem,↓reduceIte,aee,aeg,aef,d1,d2,e6,e7]
theorem aif {t:Rt} (h2:t.exps.length≤1000):∀ (k i:Nat),i+k=t.exps.length→(∀ x ∈ t.exps.take i,0≤x∧x≤32)→∀ (s:af) (h:aa),s 3=.ref 3 none 0 0 0→s 5=I (bi (t.exps.take i))→s 6=I i→h 3=.bx (bv t) →
  ∃ hh,aI 0 [5] (aU (az R (ab false) adD) [3,5,6] [3] s h)=if (t.exps.drop i).any rM=true then some (.ret,⟨upd (fun _=>.any) 4 (B false),hh⟩) else some (.normal,⟨upd (fun _=>.any) 5 (I (bi t.exps)),hh⟩):=by
 intro k
 induction k with
 | zero =>
  intro i hi hg s h h3 h5 h6 k3
  have e1:((i:Int) < t.exps.length)=False:=ff (by omega)
  rw [List.take_of_length_le (by omega)] at h5
  rw [List.drop_eq_nil_of_le (by omega),aB]
  simp only [bv] at k3
  refine ⟨?hh,?_⟩
  rotate_left
  show _=if false=true then _ else _
  rw [if_neg Bool.false_ne_true]
  simp only [adD,go_sem,↓reduceIte,aee,aeg,aef,aei,h3,h5,h6,k3,e1]
  rfl
 | succ k ih =>
  intro i hi hg s h h3 h5 h6 k3
  have hlt:i < t.exps.length:=by omega
  have e1:((i:Int) < t.exps.length)=True:=tt (by omega)
  have e2:bH (aY t.exps) (i:Int)=some (.ipt [I t.exps[i]]):=qY rfl (List.getElem?_eq_getElem hlt)
  have e5:IntKind.i64.wrap ((i:Int)+1)=((i+1:Nat):Int):=wi (by omega) (by omega)
  have b1:=Sc hg
  have b3:(t.exps.take i).length≤1000:=by simp only [List.length_take]; omega
  have ih':=ih (i+1) (by omega)
  have htk:t.exps.take (i+1)=t.exps.take i++[t.exps[i]]:=by rw [List.take_add_one,List.getElem?_eq_getElem hlt]; rfl
  have hst:=Oc hlt
  rw [List.drop_eq_getElem_cons hlt,List.any_cons,aB]
  simp only [bv] at k3
  rw [hst] at ih'
  rw [htk] at ih'
  generalize t.exps[i]=x at e2 ih' ⊢
  generalize aU _ _ _=L at ih' ⊢
  unfold rM at ih' ⊢
  by_cases g1:x < 0
  ·have e6:(x < 0)=True:=tt g1
   simp only [decide_eq_true g1,Bool.true_or]
   refine ⟨?hh1,?_⟩
   rotate_left
   rw [if_pos trivial]
   simp only [adD,go_sem,↓reduceIte,aee,aeg,aef,aei,h3,h5,h6,k3,e1,e2,e6]
   rfl
  ·have e6:(x < 0)=False:=ff g1
   by_cases g2:32 < x
   ·have e7:(32 < x)=True:=tt g2
    simp only [decide_eq_false g1,decide_eq_true g2,Bool.false_or,Bool.true_or]
    refine ⟨?hh2,?_⟩
    rotate_left
    rw [if_pos trivial]
    simp only [adD,go_sem,↓reduceIte,aee,aeg,aef,aei,h3,h5,h6,k3,e1,e2,e6,e7]
    rfl
   ·have e7:(32 < x)=False:=ff g2
    simp only [decide_eq_false g1,decide_eq_false g2,Bool.false_or]
    have e8:IntKind.i64.wrap (bi (t.exps.take i)+x)=bi (t.exps.take i)+x:=i64_in _ ⟨by omega,by omega⟩
    simp only [adD,go_sem,↓reduceIte,aee,aeg,aef,aei,h3,h5,h6,k3,e1,e2,e5,e6,e7,e8]
    exact ih' (fun y hy=>by
     rcases List.mem_append.1 hy with h | h
     ·exact hg y h
     ·rw [List.mem_singleton.1 h]
      omega) _ _ rfl rfl rfl rfl
theorem aig {v:Int} {t:Rt} (ok:OkT t) (hv:v≤1000):R F.r23_term [I v,.agg (bv t)] []=some (B (Dh v t),[]):=by
 refine aX ahD ahC (agd false) rfl ?_
 have hvd:=ae5 ok.c
 simp only [aF,aW] at hvd
 unfold Dh
 by_cases c1:(t.exps.length:Int)=v
 ·have f1:((t.exps.length:Int)=v)=True:=tt c1
  rw [decide_eq_true c1,Bool.true_and]
  cases c2:vd t.c with
  | false =>
   rw [c2] at hvd
   rw [Bool.false_and]
   simp only [adO,aeO,bv,go_sem,↓reduceIte,aee,aeg,aef,aeh,f1,hvd]
  | true =>
   rw [c2] at hvd
   rw [Bool.true_and]
   by_cases c3:t.c.m.length=0
   ·have f3:((t.c.m.length:Int)=0)=True:=tt (by omega)
    rw [decide_eq_false (p:=t.c.m.length ≠ 0) (fun h=>h c3),Bool.false_and]
    simp only [adO,aeO,bv,go_sem,↓reduceIte,aee,aeg,aef,aeh,f1,hvd,f3]
   ·have f3:((t.c.m.length:Int)=0)=False:=ff (by omega)
    rw [decide_eq_true (p:=t.c.m.length ≠ 0) c3,Bool.true_and]
    have hL:=aif (t:=t) (by omega) t.exps.length 0 (Nat.zero_add _) (fun x hx=>by rw [List.take_zero] at hx; exact nomatch hx)
    simp only [List.drop_zero,List.take_zero,bi,Int.natCast_zero] at hL
    generalize hLL:aU (az R (ab false) adD) [3,5,6] [3]=L at hL
    have hX:∀ s h,az R (ab false) (.loop [3,5,6] [3] adD) s h=L s h:=fun s h=>by rw [← hLL]; rfl
    clear hLL
    have hL2:∀ (S:af) (H:aa) (X:Option (Ex × St)),aI 0 [5] (L S H)=X→S 3=.ref 3 none 0 0 0→S 5=I 0→S 6=I 0→H 3=.bx (bv t)→∃ hh,X=if t.exps.any rM=true then some (.ret,⟨upd (fun _=>.any) 4 (B false),hh⟩) else some (.normal,⟨upd (fun _=>.any) 5 (I (bi t.exps)),hh⟩):=fun S H X hX=>by
     rw [← hX]
     exact hL S H
    simp only [bv] at hL2
    cases c4:t.exps.any rM with
    | true =>
     simp only [c4] at hL2
     rw [Bool.not_true,Bool.false_and]
     simp only [adO,aeO,hX,bv,go_sem,↓reduceIte,aee,aeg,aef,aeh,f1,hvd,f3]
     generalize hB:aI 0 [5] (L _ _)=X
     obtain ⟨hh,g0⟩:=hL2 _ _ _ hB rfl rfl rfl rfl
     rw [g0]
     simp only [go_sem,↓reduceIte]
    | false =>
     simp only [c4,if_neg Bool.false_ne_true] at hL2
     rw [Bool.not_false,Bool.true_and]
     simp only [adO,aeO,hX,bv,go_sem,↓reduceIte,aee,aeg,aef,aeh,f1,hvd,f3]
     generalize hB:aI 0 [5] (L _ _)=X
     obtain ⟨hh,g0⟩:=hL2 _ _ _ hB rfl rfl rfl rfl
     rw [g0]
     simp only [go_sem,↓reduceIte]
 ·have f1:((t.exps.length:Int)=v)=False:=ff c1
  rw [decide_eq_false c1,Bool.false_and]
  simp only [adO,aeO,bv,go_sem,↓reduceIte,aee,aeg,aef,f1]
theorem aih {a:Rp} (ok:OkP a) (hv:a.vars≤8) (h2:a.terms.length≤500):∀ (k i:Nat),i+k=a.terms.length→∀ (pr:Option Rt),(i=0→pr=none)→(0 < i→∃ q,pr=some q∧a.terms[i - 1]?=some q∧Dh a.vars q=true) →
  ∀ (s:af) (h:aa),s 1=.ref 1 none 0 0 0→s 3=I i→h 1=.bx [I a.vars,.sl 4 (ax a.terms)] →
  ∃ hh,aI 0 [] (aU (az R (ab false) adF) [1,3] [1] s h)=if tP a.vars pr (a.terms.drop i)=true then some (.normal,⟨fun _=>.any,hh⟩) else some (.ret,⟨upd (fun _=>.any) 2 (B false),hh⟩):=by
 intro k
 induction k with
 | zero =>
  intro i hi pr p0 p1 s h h1 h3 k1
  have e1:((i:Int) < a.terms.length)=False:=ff (by omega)
  rw [List.drop_eq_nil_of_le (by omega),aB]
  refine ⟨?hh0,?_⟩
  rotate_left
  show _=if true=true then _ else _
  rw [if_pos rfl]
  simp only [adF,go_sem,↓reduceIte,aee,aeg,aef,aei,h1,h3,k1,e1]
  rfl
 | succ k ih =>
  intro i hi pr p0 p1 s h h1 h3 k1
  have hlt:i < a.terms.length:=by omega
  have e1:((i:Int) < a.terms.length)=True:=tt (by omega)
  have e2:bH (ax a.terms) (i:Int)=some (.ipt (bv a.terms[i])):=jt rfl (List.getElem?_eq_getElem hlt)
  have e5:IntKind.i64.wrap ((i:Int)+1)=((i+1:Nat):Int):=wi (by omega) (by omega)
  have okt:=ok.t a.terms[i] (List.getElem_mem hlt)
  have hnext:a.terms[i+1 - 1]?=some a.terms[i]:=List.getElem?_eq_getElem hlt
  rw [List.drop_eq_getElem_cons hlt,aB]
  have ih':=ih (i+1) (by omega) (some a.terms[i]) (fun h=>absurd h (Nat.succ_ne_zero _))
  generalize a.terms[i]=t at e2 okt ih' hnext ⊢
  generalize aU _ _ _=L at ih' ⊢
  have htm:=aig okt (v:=a.vars) (by omega)
  simp only [bv] at e2 htm
  unfold tP
  cases hb:Dh a.vars t with
  | false =>
   rw [hb] at htm
   simp only [Bool.false_and,if_neg Bool.false_ne_true]
   refine ⟨?hh2,?_⟩
   rotate_left
   simp only [adF,go_sem,↓reduceIte,aee,aeg,aef,aeh,aej,aei,h1,h3,k1,e1,e2,htm]
   rfl
  | true =>
   rw [hb] at htm
   obtain ⟨c1,c2,c3,c4,c5⟩:=Bz hb
   simp only [Bool.true_and]
   by_cases hi0:i=0
   ·have f6:(0 < (i:Int))=False:=ff (by omega)
    rw [p0 hi0]
    simp only [Hi,Bool.true_and]
    simp only [adF,go_sem,↓reduceIte,aee,aeg,aef,aeh,aej,aei,h1,h3,k1,e1,e2,htm,f6,e5]
    exact ih' (fun _=>⟨t,rfl,hnext,hb⟩) _ _ rfl rfl rfl
   ·have f6:(0 < (i:Int))=True:=tt (by omega)
    obtain ⟨q,q1,q2,q3⟩:=p1 (by omega)
    obtain ⟨d1,d2,d3,d4,d5⟩:=Bz q3
    rw [q1]
    have e7:IntKind.i64.wrap ((i:Int) - 1)=((i - 1:Nat):Int):=wi (by omega) (by omega)
    have e8:bH (ax a.terms) ((i - 1:Nat):Int)=some (.ipt (bv q)):=jt rfl q2
    simp only [bv] at e8
    have ho:=afr (a:=q.exps) (b:=t.exps) ⟨by omega,qZ d4⟩ ⟨by omega,qZ c4⟩ (by omega)
    simp only [Hi]
    by_cases c6:bt q.exps t.exps < 0
    ·have f7:(0≤bt q.exps t.exps)=False:=ff (by omega)
     simp only [decide_eq_true c6,Bool.true_and]
     simp only [adF,go_sem,↓reduceIte,aee,aeg,aef,aeh,aej,aei,h1,h3,k1,e1,e2,htm,f6,e5,e7,e8,ho,f7]
     exact ih' (fun _=>⟨t,rfl,hnext,hb⟩) _ _ rfl rfl rfl
    ·have f7:(0≤bt q.exps t.exps)=True:=tt (by omega)
     simp only [decide_eq_false c6,Bool.false_and,if_neg Bool.false_ne_true]
     refine ⟨?hh7,?_⟩
     rotate_left
     simp only [adF,go_sem,↓reduceIte,aee,aeg,aef,aeh,aej,aei,h1,h3,k1,e1,e2,htm,f6,e7,e8,ho,f7]
     rfl
theorem afQ {a:Rp} (ok:OkP a):R F.r23_Valid [aZ a] []=some (B (vp a),[]):=by
 refine aX ag4 ag3 (afS false) rfl ?_
 unfold vp
 by_cases c1:0≤a.vars
 ·have f1:(a.vars < 0)=False:=ff (by omega)
  rw [decide_eq_true c1,Bool.true_and]
  by_cases c2:a.vars≤8
  ·have f2:(8 < a.vars)=False:=ff (by omega)
   rw [decide_eq_true c2,Bool.true_and]
   by_cases c3:a.terms.length≤500
   ·have f3:(500 < (a.terms.length:Int))=False:=ff (by omega)
    rw [decide_eq_true c3,Bool.true_and]
    have h3:=aih ok c2 c3 a.terms.length 0 (Nat.zero_add _) none (fun _=>rfl) (fun h=>absurd h (Nat.lt_irrefl _))
    simp only [List.drop_zero,Int.natCast_zero] at h3
    cases hb:tP a.vars none a.terms with
    | true =>
     rw [hb] at h3
     simp only [] at h3
     simp only [adJ,aeF,aZ,go_sem,↓reduceIte,aee,aeg,aef,f1,f2,f3]
     rw [(h3 _ _ rfl rfl rfl).choose_spec]
     simp only [go_sem,↓reduceIte]
    | false =>
     rw [hb] at h3
     simp only [if_neg Bool.false_ne_true] at h3
     simp only [adJ,aeF,aZ,go_sem,↓reduceIte,aee,aeg,aef,f1,f2,f3]
     rw [(h3 _ _ rfl rfl rfl).choose_spec]
     simp only [go_sem,↓reduceIte]
   ·have f3:(500 < (a.terms.length:Int))=True:=tt (by omega)
    rw [decide_eq_false c3,Bool.false_and]
    simp only [adJ,aeF,aZ,go_sem,↓reduceIte,aee,aeg,aef,f1,f2,f3]
  ·have f2:(8 < a.vars)=True:=tt (by omega)
   rw [decide_eq_false c2,Bool.false_and]
   simp only [adJ,aeF,aZ,go_sem,↓reduceIte,aee,aeg,aef,f1,f2]
 ·have f1:(a.vars < 0)=True:=tt (by omega)
  rw [decide_eq_false c1,Bool.false_and]
  simp only [adJ,aeF,aZ,go_sem,↓reduceIte,aee,aeg,aef,f1]
end Go.Ab
namespace Go.Ab
open Go Go.IntWalk
set_option maxRecDepth 4000
set_option maxHeartbeats 1000000
end Go.Ab
namespace Go.Ab
open Go Go.IntWalk
set_option maxRecDepth 4000
set_option maxHeartbeats 1000000
structure Len1 (x:Ri):Prop where
 lo:Lb x.lo.m∧x.lo.m.length≤100000
 hi:Lb x.hi.m∧x.hi.m.length≤100000
def VI (x:Ri):Prop:=(vd x.lo=true∧Ok0 x.lo)∧(vd x.hi=true∧Ok0 x.hi)
theorem VI.len {x:Ri} (h:VI x):Len1 x:=⟨⟨h.1.2.1,Nat.le_trans (xq h.1.1 h.1.2.1) (by decide)⟩,⟨h.2.2.1,Nat.le_trans (xq h.2.1 h.2.2.1) (by decide)⟩⟩
end Go.Ab
namespace Go.Ab
open Go Go.IntWalk
set_option maxRecDepth 4000
set_option maxHeartbeats 1000000
def iM (a:Rp):Int:=if vp a=true then (match a.terms.getLast? with | none=>-1 | some t=>bi t.exps) else -1
theorem KA {a:Rp} (h:vp a=true):0≤a.vars∧a.vars≤8∧a.terms.length≤500∧tP a.vars none a.terms=true:=by
 simp only [vp,Bool.and_eq_true,decide_eq_true_eq] at h
 exact ⟨h.1,h.2.1,h.2.2.1,h.2.2.2⟩
theorem Ql {a:Rp} (h:vp a=true) {t:Rt} (ht:t ∈ a.terms):sm t.exps∧(t.exps.length:Int)=a.vars∧vd t.c=true∧t.c.m.length ≠ 0∧bi t.exps≤32:=by
 obtain ⟨v1,v2,v3,v4⟩:=KA h
 obtain ⟨c1,c2,c3,c4,c5⟩:=Bz (Qk _ _ v4 t ht)
 exact ⟨⟨by omega,qZ c4⟩,c1,c2,c3,c5⟩
theorem Di {a:Rp} (ok:OkP a):R F.poly_Degree [aZ a] []=some (I (iM a),[]):=by
 refine aX DI DH (yU false) rfl ?_
 have hv:=nQ ok
 unfold iM
 simp only [aZ] at hv
 cases hb:vp a with
 | false =>
  rw [hb] at hv
  rw [if_neg Bool.false_ne_true]
  simp only [gy,mS,aZ,go_sem,↓reduceIte,aee,aeg,aef,aeh,hv]
 | true =>
  rw [hb] at hv
  rw [if_pos rfl]
  obtain ⟨v1,v2,v3,v4⟩:=KA hb
  by_cases h0:a.terms.length=0
  ·have e1:((a.terms.length:Int)=0)=True:=tt (by omega)
   have e4:a.terms.getLast?=none:=by
    rw [List.length_eq_zero_iff.1 h0]
    rfl
   rw [e4]
   simp only [gy,mS,aZ,go_sem,↓reduceIte,aee,aeg,aef,aeh,hv,e1]
  ·have e1:((a.terms.length:Int)=0)=False:=ff (by omega)
   have e2:IntKind.i64.wrap ((a.terms.length:Int) - 1)=((a.terms.length - 1:Nat):Int):=by rw [i64_in] <;> omega
   have hlt:a.terms.length - 1 < a.terms.length:=by omega
   have e3:bH (ax a.terms) ((a.terms.length - 1:Nat):Int)=some (.ipt (bv a.terms[a.terms.length - 1])):=jt rfl (List.getElem?_eq_getElem hlt)
   have e4:a.terms.getLast?=some a.terms[a.terms.length - 1]:=by rw [List.getLast?_eq_getElem?,List.getElem?_eq_getElem hlt]
   obtain ⟨c1,c2,c3,c4,c5⟩:=Ql hb (List.getElem_mem hlt)
   rw [e4]
   generalize a.terms[a.terms.length - 1]=t at e3 c1 c2 c3 c4 c5 ⊢
   have hd:=qn c1
   simp only [bv] at e3
   simp only [gy,mS,aZ,go_sem,↓reduceIte,aee,aeg,aef,aeh,hv,e1,e2,e3,hd]
end Go.Ab
namespace Go.Ab
open Go Go.IntWalk
set_option maxRecDepth 4000
set_option maxHeartbeats 1000000
def rdE:Option Rd→List AV
 | none=>[B false,.emp,I 0]
 | some d=>aW d
def XP (l:List (Option Rd)):List (List AV):=l.map rdE
@[go_sem] theorem abP (l:List (Option Rd)):(XP l).length=l.length:=by simp [XP]
end Go.Ab
namespace Go.Ab
open Go Go.IntWalk
set_option maxRecDepth 4000
set_option maxHeartbeats 1000000
def iN (a b:Rd):Rd × Int:=if (vd a && vd b)=true then ew (gl (zI a+zI b) (-16384)) else (et,1)
theorem IX {z f:Int}:vd (ew (gl z f)).1=true∧Ok0 (ew (gl z f)).1:=by
 unfold ew gl
 by_cases h:sq (aq (ac (cB (decide (z < 0)) z.natAbs f).m)) (cB (decide (z < 0)) z.natAbs f).e=true
 ·rw [if_pos h]
  have hv:=Qi h
  have hb:=Cz (decide (z < 0)) z.natAbs f
  exact ⟨hv,hb,Nat.lt_of_le_of_lt (xq hv hb) (by decide)⟩
 ·rw [if_neg h]
  exact Hf
theorem Qm (a b:Rd):vd (iN a b).1=true∧Ok0 (iN a b).1:=by
 unfold iN
 split
 ·exact IX
 ·exact Hf
theorem xV {d:Rd} (h:vd d=true) (h0:d.m.length ≠ 0):ac d.m % 2=1:=by
 obtain ⟨h1,h2,h3,h4⟩:=rL h h0
 cases hm:d.m with
 | nil=>rw [hm] at h0; exact absurd rfl h0
 | cons x l =>
  rw [hm] at h2
  have h2':x % 2=1:=h2
  show (x+4294967296*ac l) % 2=1
  omega
end Go.Ab
namespace Go.Ab
open Go Go.IntWalk
set_option maxRecDepth 4000
set_option maxHeartbeats 1000000
end Go.Ab
namespace Go.Ab
open Go Go.IntWalk
set_option maxRecDepth 4000
end Go.Ab
namespace Go.Ab
open Go Go.IntWalk
set_option maxRecDepth 4000
set_option maxHeartbeats 1000000
end Go.Ab
namespace Go.Ab
open Go Go.IntWalk
set_option maxRecDepth 4000
set_option maxHeartbeats 1000000
end Go.Ab
namespace Go.Ab
open Go Go.IntWalk
set_option maxRecDepth 4000
set_option maxHeartbeats 1000000
end Go.Ab
namespace Go.Ab
open Go Go.IntWalk
set_option maxRecDepth 4000
set_option maxHeartbeats 1000000
theorem anG {a:Rp} (ok:OkP a):R F.r23_Degree [aZ a] []=some (I (iM a),[]):=by
 refine aX anE anD (anC false) rfl ?_
 have hv:=afQ ok
 unfold iM
 simp only [aZ] at hv
 cases hb:vp a with
 | false =>
  rw [hb] at hv
  rw [if_neg Bool.false_ne_true]
  simp only [amH,am6,aZ,go_sem,↓reduceIte,aee,aeg,aef,anZ,aeh,aej,anW,an0,anY,anX,aei,an1,hv]
 | true =>
  rw [hb] at hv
  rw [if_pos rfl]
  obtain ⟨v1,v2,v3,v4⟩:=KA hb
  by_cases h0:a.terms.length=0
  ·have e1:((a.terms.length:Int)=0)=True:=tt (by omega)
   have e4:a.terms.getLast?=none:=by
    rw [List.length_eq_zero_iff.1 h0]
    rfl
   rw [e4]
   simp only [amH,am6,aZ,go_sem,↓reduceIte,aee,aeg,aef,anZ,aeh,aej,anW,an0,anY,anX,aei,an1,hv,e1]
  ·have e1:((a.terms.length:Int)=0)=False:=ff (by omega)
   have e2:IntKind.i64.wrap ((a.terms.length:Int) - 1)=((a.terms.length - 1:Nat):Int):=by rw [i64_in] <;> omega
   have hlt:a.terms.length - 1 < a.terms.length:=by omega
   have e3:bH (ax a.terms) ((a.terms.length - 1:Nat):Int)=some (.ipt (bv a.terms[a.terms.length - 1])):=jt rfl (List.getElem?_eq_getElem hlt)
   have e4:a.terms.getLast?=some a.terms[a.terms.length - 1]:=by rw [List.getLast?_eq_getElem?,List.getElem?_eq_getElem hlt]
   obtain ⟨c1,c2,c3,c4,c5⟩:=Ql hb (List.getElem_mem hlt)
   rw [e4]
   generalize a.terms[a.terms.length - 1]=t at e3 c1 c2 c3 c4 c5 ⊢
   have hd:=agQ c1
   simp only [bv] at e3
   simp only [amH,am6,aZ,go_sem,↓reduceIte,aee,aeg,aef,anZ,aeh,aej,anW,an0,anY,anX,aei,an1,hv,e1,e2,e3,hd]
end Go.Ab
namespace Go.Ab
open Go Go.IntWalk
set_option maxRecDepth 4000
set_option maxHeartbeats 1000000
end Go.Ab
namespace Go.Ab
open Go Go.IntWalk
set_option maxRecDepth 4000
set_option maxHeartbeats 1000000
@[go_sem] theorem abQ (l:List Rd):(LT l).map (ce [.o 0 [],.o 2 [],.o 0 []])=LT l:=by
 refine qo fun x hx=>?_
 simp only [LT,List.mem_map] at hx
 obtain ⟨t,ht,rfl⟩:=hx
 simp only [aW,go_sem]
end Go.Ab
namespace Go.Ab
open Go Go.IntWalk
set_option maxRecDepth 4000
set_option maxHeartbeats 1000000
theorem Hk {d:Rd} (h:vd d=true):ew d=(d,0):=by
 unfold ew
 by_cases h0:d.m.length=0
 ·rw [xU h h0]
  rfl
 ·rw [if_pos (rL h h0).2.2.2]
theorem Dj {d:Rd} (ok:Ok0 d) (h:vd d=true):cB d.neg (ac d.m) d.e=d:=by
 have h1:=tT ok h
 obtain ⟨g1,g2,g3,g4⟩:=kg h ok.lb
 have hz:zI d=fT d.neg (mg d):=rfl
 rw [hz,← tQ] at h1
 unfold mg at h1
 rw [oO,show -16384+(((d.e+16384).toNat:Nat):Int)=d.e by omega] at h1
 exact h1
theorem IZ {N k:Nat} {neg:Bool} (ho:N % 2=1) (hb:4096 < aq N):ew (cB neg (N*2 ^ k) (-16384))=(et,9):=by
 have h0:N ≠ 0:=by omega
 rw [oO]
 obtain ⟨g1,g2,g3,g4⟩:=uY (neg:=neg) (e:=-16384+(k:Int)) h0
 have ht:=LW ho 0
 rw [Nat.pow_zero,Nat.mul_one] at ht
 unfold ew
 rw [if_neg]
 intro h2
 rw [g1,ht,Nat.pow_zero,Nat.div_one] at h2
 have h3:=(tM h2 (by omega)).1
 omega
theorem Hl {a b:Rd} (oa:Ok0 a) (ob:Ok0 b) (va:vd a=true) (vb:vd b=true) (na:a.m.length ≠ 0) (nb:b.m.length ≠ 0) {e:Int} (he:e=if b.e < a.e then b.e else a.e) (h:4097 < bm a - e) (hg:1 < bm a - bm b) :
  ew (gl (zI a+zI b) (-16384))=(et,9)∧ew (gl (zI b+zI a) (-16384))=(et,9):=by
 obtain ⟨a1,a2,a3,a4⟩:=kg va oa.lb
 obtain ⟨b1,b2,b3,b4⟩:=kg vb ob.lb
 have e1:=pG va na
 have e2:=pG vb nb
 have he1:-16384≤e∧e≤a.e∧e≤b.e∧(e=a.e∨e=b.e):=by
  rw [he]
  split <;> omega
 have hne:a.e ≠ b.e:=by omega
 have z1:zI a=fT a.neg (ac a.m*2 ^ (a.e - e).toNat*2 ^ (e+16384).toNat):=by
  rw [show zI a=fT a.neg (mg a) from rfl,pF he1.1 he1.2.1]
 have z2:zI b=fT b.neg (ac b.m*2 ^ (b.e - e).toNat*2 ^ (e+16384).toNat):=by
  rw [show zI b=fT b.neg (mg b) from rfl,pF he1.1 he1.2.2.1]
 have bx:(aq (ac a.m*2 ^ (a.e - e).toNat):Int)=bm a - e:=by
  rw [lH _ (iI va na)]
  omega
 have by':(aq (ac b.m*2 ^ (b.e - e).toNat):Int)=bm b - e:=by
  rw [lH _ (iI vb nb)]
  omega
 have oX:=xV va na
 have oY:=xV vb nb
 have odd:(ac a.m*2 ^ (a.e - e).toNat+ac b.m*2 ^ (b.e - e).toNat) % 2=1:=by
  rcases he1.2.2.2 with h1 | h1
  ·obtain ⟨k,hk⟩:∃ k,(b.e - e).toNat=k+1:=⟨(b.e - e).toNat - 1,by omega⟩
   rw [show (a.e - e).toNat=0 by omega,hk,Nat.pow_zero,Nat.mul_one,Nat.pow_succ,← Nat.mul_assoc]
   omega
  ·obtain ⟨k,hk⟩:∃ k,(a.e - e).toNat=k+1:=⟨(a.e - e).toNat - 1,by omega⟩
   rw [show (b.e - e).toNat=0 by omega,hk,Nat.pow_zero,Nat.mul_one,Nat.pow_succ,← Nat.mul_assoc]
   omega
 rw [Int.add_comm (zI b),and_self,z1,z2]
 generalize ac a.m*2 ^ (a.e - e).toNat=x at bx odd ⊢
 generalize ac b.m*2 ^ (b.e - e).toNat=y at by' odd ⊢
 generalize (e+16384).toNat=k
 have hx:2 ^ (aq x - 1)≤x:=kB.1 (by omega)
 have hy:y < 2 ^ (aq x - 2):=by
  have h3:y < 2 ^ aq y:=dm.1 (Nat.le_refl _)
  exact Nat.lt_of_lt_of_le h3 (Nat.pow_le_pow_right (by omega) (by omega))
 have hp:2 ^ (aq x - 1)=2 ^ (aq x - 2)*2:=by
  rw [← Nat.pow_succ]
  congr 1
  omega
 have hbig:∀ N:Nat,x - y≤N→4096 < aq N:=fun N hN=>by
  have h5:aq x - 2 < aq N:=kB.2 (by omega)
  omega
 have hsum:∀ (n:Bool) (z:Nat),gl (fT n (z*2 ^ k)) (-16384)=cB n (z*2 ^ k) (-16384):=fun n z=>tQ.symm
 have hmul:y*2 ^ k≤x*2 ^ k:=Nat.mul_le_mul_right _ (by omega)
 by_cases hs:a.neg=b.neg
 ·have hz:fT a.neg (x*2 ^ k)+fT b.neg (y*2 ^ k)=fT a.neg ((x+y)*2 ^ k):=by
   rw [← hs,Nat.add_mul]
   cases a.neg
   ·rw [ja,ja,ja]
    omega
   ·rw [i9,i9,i9]
    omega
  rw [hz,hsum]
  exact IZ odd (hbig _ (by omega))
 ·have hbn:b.neg=!a.neg:=by
   cases ha:a.neg <;> cases hb:b.neg <;> first | rfl | (rw [ha,hb] at hs; exact absurd rfl hs)
  have hz:fT a.neg (x*2 ^ k)+fT b.neg (y*2 ^ k)=fT a.neg ((x - y)*2 ^ k):=by
   rw [hbn,Nat.sub_mul]
   cases a.neg
   ·rw [Bool.not_false,ja,i9,ja]
    omega
   ·rw [Bool.not_true,ja,i9,i9]
    omega
  rw [hz,hsum]
  exact IZ (by omega) (hbig _ (Nat.le_refl _))
def ju:Cmd:=.seq (.dops [2,3,4,6,9,10] [fa 65 1 2,ld 66 1 65,fa 67 2 2,ld 68 1 67,cm 69 6,b2 70 .sub 68 69,ca 71 F.dyadic_shifted [.t 66,.t 70],fa 72 1 3,ld 73 1 72,fa 74 2 3,ld 75 1 74,cm 76 6,b2 77 .sub 75 76,ca 78 F.dyadic_shifted [.t 73,.t 77],cm 9 71,cm 10 78] [(6,8),(6,10)]) (.seq (.seq (.ops [2,3,4,6,9,10,83] [fa 79 0 2,ld 80 1 79,fa 81 0 3,ld 82 1 81,co 83 (.eqc false 0 (.t 80) (.t 82))]) (.cond (.t 83) (.seq (.ops [2,4,6,11] [cm 85 9,cm 86 10,ca 87 F.natural_Add [.t 85,.t 86],cm 84 87,co 88 (.ext 0 (.t 84)),co 89 (.ext 1 (.t 84)),cm 11 88,cm 12 89]) (.seq (.ops [4,5] [fa 90 0 2,ld 91 1 90,cm 92 11,cm 93 6,ca 94 F.dyadic_canonical [.t 91,.t 92,.t 93],ca 95 F.dyadic_checked [.t 94],co 96 (.ext 0 (.t 95)),co 97 (.ext 1 (.t 95)),sr 3 (.t 4) (.t 96),cm 5 97]) (.ret))) (.skip))) (.seq (.seq (.ops [2,3,4,6,9,10,101] [cm 98 9,cm 99 10,ca 100 F.natural_Cmp [.t 98,.t 99],co 101 (.bin .lss (.t 100) (.c (I 0)))]) (.cond (.t 101) (.ops [2,4,6,9,10] [la 102 3 3,cm 103 10,cm 104 9,sr 3 (.t 2) (.t 102),cm 9 103,cm 10 104]) (.skip))) (.seq (.ops [2,4,6,13] [cm 106 9,cm 107 10,ca 108 F.natural_Sub [.t 106,.t 107],cm 105 108,co 109 (.ext 0 (.t 105)),co 110 (.ext 1 (.t 105)),cm 13 109,cm 14 110]) (.seq (.ops [4,5] [fa 111 0 2,ld 112 1 111,cm 113 13,cm 114 6,ca 115 F.dyadic_canonical [.t 112,.t 113,.t 114],ca 116 F.dyadic_checked [.t 115],co 117 (.ext 0 (.t 116)),co 118 (.ext 1 (.t 116)),sr 3 (.t 4) (.t 117),cm 5 118]) (.ret)))))
theorem gZ:oD=.seq (.ops [2,3,4] [bx 2 3 (.t 0),bx 3 3 (.t 1),al 4 [B false,.emp,I 0],co 5 (.mv (.c (I 0)))]) (.seq (.seq (.ops [2,3,4,24] [fa 15 1 2,ld 16 1 15,co 17 (.len false (.t 16)),co 18 (.bin .eql (.t 17) (.c (I 0))),cm 19 18,cg 20 19 false (.fadr 1 (.t 3)),⟨(some 21),(some (19,false)),.load 1 false (.t 20)⟩,cg 22 19 false (.len false (.t 21)),cg 23 19 false (.bin .eql (.t 22) (.c (I 0))),co 24 (.pick (.t 19) (.c (B true)) (.t 23))]) (.cond (.t 24) (.seq (.seq (.ops [2,3,4,28] [fa 25 1 2,ld 26 1 25,co 27 (.len false (.t 26)),co 28 (.bin .eql (.t 27) (.c (I 0)))]) (.cond (.t 28) (.ops [2,4] [la 29 3 3,sr 3 (.t 2) (.t 29)]) (.skip))) (.seq (.ops [4,5] [fa 30 0 2,ld 31 1 30,fa 32 1 2,ld 33 1 32,fa 34 2 2,ld 35 1 34,ca 36 F.dyadic_canonical [.t 31,.t 33,.t 35],sr 3 (.t 4) (.t 36),co 5 (.mv (.c (I 0)))]) (.ret))) (.skip))) (.seq (.ops [2,3,4,6] [fa 37 2 2,ld 38 1 37,fa 39 2 3,ld 40 1 39,co 41 (.mnx true (.t 38) [.t 40]),cm 6 41]) (.seq (.dops [2,3,4,6,7,8] [la 42 3 2,ca 43 F.dyadic_Top [.t 42],la 44 3 3,ca 45 F.dyadic_Top [.t 44],cm 7 43,cm 8 45] [(1,2)]) (.seq (.seq (.ops [2,3,4,6,63] [cm 46 7,cm 47 8,co 48 (.mnx false (.t 46) [.t 47]),cm 49 6,b2 50 .sub 48 49,co 51 (.bin .gtr (.t 50) (.c (I 4097))),cm 52 51,cg 53 52 true (.mv (.t 7)),cg 54 52 true (.mv (.t 8)),cg 55 52 true (.bin .sub (.t 53) (.t 54)),cg 56 52 true (.bin .gtr (.t 55) (.c (I 1))),cg 57 52 true (.mv (.t 56)),cg 58 57 false (.mv (.t 8)),cg 59 57 false (.mv (.t 7)),cg 60 57 false (.bin .sub (.t 58) (.t 59)),cg 61 57 false (.bin .gtr (.t 60) (.c (I 1))),cg 62 52 true (.pick (.t 57) (.c (B true)) (.t 61)),co 63 (.pick (.t 52) (.t 62) (.c (B false)))]) (.cond (.t 63) (.seq (.ops [4,5] [co 64 (.build [B false,.emp,I 0] []),sr 3 (.t 4) (.t 64),co 5 (.mv (.c (I 9)))]) (.ret)) (.skip))) ju)))):=rfl
theorem Dk {a b:Rd} (oa:Ok0 a) (ob:Ok0 b) (va:vd a=true) (vb:vd b=true) (na:a.m.length ≠ 0) (nb:b.m.length ≠ 0) {e:Int} (he1:-16384≤e∧e≤a.e∧e≤b.e) (hX:bm a - e≤5000) (hY:bm b - e≤5000) (s:af)
  (h2:s 2=.ref 2 none 0 0 0) (h3:s 3=.ref 3 none 0 0 0) (h4:s 4=.ref 4 none 0 0 0) (h6:s 6=I e) :
  rk false [[.o 0 [],.o 2 [],.o 0 []],[]] [.cell 4 3 true,.t 5] 0 (az R (ab false) ju s (upd (upd (upd (fun _=>.dead) 2 (.bx (aW a))) 3 (.bx (aW b))) 4 (.bx [B false,.emp,I 0])))=some (rV (ew (gl (zI a+zI b) (-16384))),[]):=by
 obtain ⟨a1,a2,a3,a4⟩:=kg va oa.lb
 obtain ⟨b1,b2,b3,b4⟩:=kg vb ob.lb
 have e1:=pG va na
 have e2:=pG vb nb
 have w1:IntKind.i64.wrap (a.e - e)=(((a.e - e).toNat:Nat):Int):=wi (by omega) (by omega)
 have w2:IntKind.i64.wrap (b.e - e)=(((b.e - e).toNat:Nat):Int):=wi (by omega) (by omega)
 have z1:zI a=fT a.neg (ac a.m*2 ^ (a.e - e).toNat*2 ^ (e+16384).toNat):=by
  rw [show zI a=fT a.neg (mg a) from rfl,pF he1.1 he1.2.1]
 have z2:zI b=fT b.neg (ac b.m*2 ^ (b.e - e).toNat*2 ^ (e+16384).toNat):=by
  rw [show zI b=fT b.neg (mg b) from rfl,pF he1.1 he1.2.2]
 have bx:aq (ac a.m*2 ^ (a.e - e).toNat)≤5000:=by
  rw [lH _ (iI va na)]
  omega
 have by':aq (ac b.m*2 ^ (b.e - e).toNat)≤5000:=by
  rw [lH _ (iI vb nb)]
  omega
 have l1:=qR oa.lb a1 (k:=(a.e - e).toNat) (by omega) (Nat.le_trans (bF (k:=157) (by omega)) (by decide))
 have l2:=qR ob.lb b1 (k:=(b.e - e).toNat) (by omega) (Nat.le_trans (bF (k:=157) (by omega)) (by decide))
 rw [z1,z2]
 generalize ac a.m*2 ^ (a.e - e).toNat=x at l1 bx ⊢
 generalize ac b.m*2 ^ (b.e - e).toNat=y at l2 by' ⊢
 have hsum:∀ (n:Bool) (z:Nat),cB n z e=gl (fT n (z*2 ^ (e+16384).toNat)) (-16384):=fun n z=>by
  rw [← tQ,oO,show -16384+(((e+16384).toNat:Nat):Int)=e by omega]
 have lx:(av x).length≤157:=bF (by omega)
 have ly:(av y).length≤157:=bF (by omega)
 have hq:XL e:=⟨by omega,by omega⟩
 have hcp:=xj (cd x) (cd y) (by omega) (by omega)
 rw [bI,bI] at hcp
 have chk:∀ (n:Bool) (z:Nat),aq z≤5001→R F.dyadic_canonical [B n,lm (av z),I e] []=some (aF (cB n z e),[])∧R F.dyadic_checked [aF (cB n z e)] []=some (rV (ew (cB n z e)),[]):=fun n z hz=>by
  have hl:(av z).length≤157:=bF (by omega)
  have c1:=oN (neg:=n) (m:=av z) (e:=e) (cd z) (by omega) hq
  rw [bI] at c1
  refine ⟨c1,?_⟩
  rw [Bv (Cz n z e) (Nat.le_trans (Hd (k:=157) (by omega)) (by decide))]
  exact congrArg (fun v=>some (v,[])) (IV _)
 by_cases hs:a.neg=b.neg
 ·have p1:=Qh (x:=x) (y:=y) bx by'
  obtain ⟨c1,c2⟩:=chk a.neg (x+y) (He bx by')
  have hz:fT a.neg (x*2 ^ (e+16384).toNat)+fT b.neg (y*2 ^ (e+16384).toNat)=fT a.neg ((x+y)*2 ^ (e+16384).toNat):=by
   rw [← hs,Nat.add_mul]
   cases a.neg
   ·rw [ja,ja,ja]
    omega
   ·rw [i9,i9,i9]
    omega
  rw [hz,← hsum]
  generalize cB a.neg (x+y) e=r at c1 c2 ⊢
  generalize ew r=q at c2 ⊢
  obtain ⟨q1,q2⟩:=q
  have hs2:(a.neg == b.neg)=true:=by rw [hs]; exact beq_self_eq_true _
  have hs3:(false != (a.neg == b.neg))=true:=by rw [hs2]; rfl
  simp only [rV,aF,aW] at c1 c2
  simp only [ju,rV,aF,aW,go_sem,↓reduceIte,aee,aeg,aef,aeh,aej,aei,h2,h3,h4,h6,w1,w2,l1,l2,hs3,p1,c1,c2]
 ·have hs2:(a.neg == b.neg)=false:=by
   cases ha:a.neg <;> cases hb:b.neg <;> first | rfl | (rw [ha,hb] at hs; exact absurd rfl hs)
  have hs3:(false != (a.neg == b.neg))=false:=by rw [hs2]; rfl
  have hbn:b.neg=!a.neg:=by
   cases ha:a.neg <;> cases hb:b.neg <;> first | rfl | (rw [ha,hb] at hs; exact absurd rfl hs)
  have hb1:∀ u v:Nat,aq u≤5000→aq (u - v)≤5001:=fun u v hu=>LQ (Nat.sub_le u v) (Nat.le_trans hu (by decide))
  by_cases hlt:x < y
  ·have e5:(dk x y < 0)=True:=tt (by unfold dk; rw [if_pos hlt]; decide)
   have m1:=IW (x:=y) (y:=x) by' bx (by omega)
   obtain ⟨c1,c2⟩:=chk b.neg (y - x) (hb1 _ _ by')
   have hmul:x*2 ^ (e+16384).toNat≤y*2 ^ (e+16384).toNat:=Nat.mul_le_mul_right _ (by omega)
   have hz:fT a.neg (x*2 ^ (e+16384).toNat)+fT b.neg (y*2 ^ (e+16384).toNat)=fT b.neg ((y - x)*2 ^ (e+16384).toNat):=by
    rw [hbn,Nat.sub_mul]
    cases a.neg
    ·rw [Bool.not_false,ja,i9,i9]
     omega
    ·rw [Bool.not_true,ja,i9,ja]
     omega
   rw [hz,← hsum]
   generalize cB b.neg (y - x) e=r at c1 c2 ⊢
   generalize ew r=q at c2 ⊢
   obtain ⟨q1,q2⟩:=q
   simp only [rV,aF,aW] at c1 c2
   simp only [ju,rV,aF,aW,go_sem,↓reduceIte,aee,aeg,aef,aeh,aej,aei,h2,h3,h4,h6,w1,w2,l1,l2,hs3,hcp,e5,m1,c1,c2]
  ·have e5:(dk x y < 0)=False:=ff (by unfold dk; rw [if_neg hlt]; split <;> decide)
   have m1:=IW (x:=x) (y:=y) bx by' (by omega)
   obtain ⟨c1,c2⟩:=chk a.neg (x - y) (hb1 _ _ bx)
   have hmul:y*2 ^ (e+16384).toNat≤x*2 ^ (e+16384).toNat:=Nat.mul_le_mul_right _ (by omega)
   have hz:fT a.neg (x*2 ^ (e+16384).toNat)+fT b.neg (y*2 ^ (e+16384).toNat)=fT a.neg ((x - y)*2 ^ (e+16384).toNat):=by
    rw [hbn,Nat.sub_mul]
    cases a.neg
    ·rw [Bool.not_false,ja,i9,ja]
     omega
    ·rw [Bool.not_true,ja,i9,i9]
     omega
   rw [hz,← hsum]
   generalize cB a.neg (x - y) e=r at c1 c2 ⊢
   generalize ew r=q at c2 ⊢
   obtain ⟨q1,q2⟩:=q
   simp only [rV,aF,aW] at c1 c2
   simp only [ju,rV,aF,aW,go_sem,↓reduceIte,aee,aeg,aef,aeh,aej,aei,h2,h3,h4,h6,w1,w2,l1,l2,hs3,hcp,e5,m1,c1,c2]
theorem Qq {a b:Rd} (oa:Ok0 a) (ob:Ok0 b) (va:vd a=true) (vb:vd b=true):R F.dyadic_sum [aF a,aF b] []=some (rV (ew (gl (zI a+zI b) (-16384))),[]):=by
 refine aX GH GG (Bf false) rfl ?_
 by_cases a0:a.m.length=0
 ·have e1:((a.m.length:Int)=0)=True:=tt (by omega)
  have hz:=xU va a0
  obtain ⟨b1,b2,b3,b4⟩:=kg vb ob.lb
  have c1:=oN (neg:=b.neg) (m:=b.m) (e:=b.e) ob.lb (by omega) ⟨by omega,by omega⟩
  have hr:cB b.neg (ac b.m) b.e=b:=Dj ob vb
  have hk:ew (gl (zI a+zI b) (-16384))=(b,0):=by
   rw [qX a0,Int.zero_add,tT ob vb]
   exact Hk vb
  rw [hr] at c1
  rw [hk]
  simp only [aF,aW] at c1
  simp only [dF,oD,rV,aF,aW,go_sem,↓reduceIte,aee,aeg,aef,aeh,e1,c1]
 have e1:((a.m.length:Int)=0)=False:=ff (by omega)
 obtain ⟨a1,a2,a3,a4⟩:=kg va oa.lb
 by_cases b0:b.m.length=0
 ·have e2:((b.m.length:Int)=0)=True:=tt (by omega)
  have c1:=oN (neg:=a.neg) (m:=a.m) (e:=a.e) oa.lb (by omega) ⟨by omega,by omega⟩
  have hr:cB a.neg (ac a.m) a.e=a:=Dj oa va
  have hk:ew (gl (zI a+zI b) (-16384))=(a,0):=by
   rw [qX b0,Int.add_zero,tT oa va]
   exact Hk va
  rw [hr] at c1
  rw [hk]
  simp only [aF,aW] at c1
  simp only [dF,oD,rV,aF,aW,go_sem,↓reduceIte,aee,aeg,aef,aeh,e1,e2,c1]
 have e2:((b.m.length:Int)=0)=False:=ff (by omega)
 obtain ⟨b1,b2,b3,b4⟩:=kg vb ob.lb
 have ta:=Bw oa
 have tb:=Bw ob
 have q1:=pG va a0
 have q2:=pG vb b0
 have p1:=lG (iI va a0)
 have p2:=lG (iI vb b0)
 simp only [aF,aW] at ta tb
 have g1:=fun h2 h3=>(Hl oa ob va vb a0 b0 rfl h2 h3).1
 have g2:=fun h2 h3=>(Hl ob oa vb va b0 a0 rfl h2 h3).2
 obtain ⟨e,he⟩:∃ e,(if b.e < a.e then b.e else a.e)=e:=⟨_,rfl⟩
 have he2:(if a.e < b.e then a.e else b.e)=e:=by
  rw [← he]
  by_cases h:b.e < a.e
  ·rw [if_pos h,if_neg (by omega)]
  ·rw [if_neg h]
   by_cases h2:a.e < b.e
   ·rw [if_pos h2]
   ·rw [if_neg h2]
    omega
 rw [he] at g1
 rw [he2] at g2
 have he1:-16384≤e∧e≤a.e∧e≤b.e:=by
  split at he <;> omega
 obtain ⟨M,hM⟩:∃ M,(if bm a < bm b then bm b else bm a)=M:=⟨_,rfl⟩
 have hM1:bm a≤M∧bm b≤M∧(M=bm a∨M=bm b):=by
  split at hM <;> omega
 have w1:IntKind.i64.wrap (M - e)=M - e:=i64_in _ ⟨by omega,by omega⟩
 have w2:IntKind.i64.wrap (bm a - bm b)=bm a - bm b:=i64_in _ ⟨by omega,by omega⟩
 have w3:IntKind.i64.wrap (bm b - bm a)=bm b - bm a:=i64_in _ ⟨by omega,by omega⟩
 by_cases h1:4097 < M - e
 ·have f1:(4097 < M - e)=True:=tt h1
  by_cases h2:1 < bm a - bm b
  ·have f2:(1 < bm a - bm b)=True:=tt h2
   rw [g1 (by omega) h2]
   simp only [dF,gZ,rV,et,aF,aW,go_sem,↓reduceIte,aee,aeg,aef,aeh,aej,aei,e1,e2,he,ta,tb,hM,w1,w2,f1,f2]
  ·have f2:(1 < bm a - bm b)=False:=ff h2
   by_cases h3:1 < bm b - bm a
   ·have f3:(1 < bm b - bm a)=True:=tt h3
    rw [g2 (by omega) h3]
    simp only [dF,gZ,rV,et,aF,aW,go_sem,↓reduceIte,aee,aeg,aef,aeh,aej,aei,e1,e2,he,ta,tb,hM,w1,w2,w3,f1,f2,f3]
   ·have f3:(1 < bm b - bm a)=False:=ff h3
    simp only [dF,gZ,rV,aF,aW,go_sem,↓reduceIte,aee,aeg,aef,aeh,aej,aei,e1,e2,he,ta,tb,hM,w1,w2,w3,f1,f2,f3]
    exact Dk oa ob va vb a0 b0 he1 (by omega) (by omega) _ rfl rfl rfl rfl
 ·have f1:(4097 < M - e)=False:=ff h1
  simp only [dF,gZ,rV,aF,aW,go_sem,↓reduceIte,aee,aeg,aef,aeh,aej,aei,e1,e2,he,ta,tb,hM,w1,f1]
  exact Dk oa ob va vb a0 b0 he1 (by omega) (by omega) _ rfl rfl rfl rfl
theorem Qr {a b:Rd} (oa:Ok0 a) (ob:Ok0 b):R F.dyadic_Add [aF a,aF b] []=some (rV (iN a b),[]):=by
 refine aX Gu Gt (Bb false) rfl ?_
 have v1:=iL oa
 have v2:=iL ob
 simp only [aF,aW] at v1 v2
 unfold iN
 cases va:vd a with
 | false =>
  rw [va] at v1
  rw [Bool.false_and,if_neg Bool.false_ne_true]
  simp only [ic,oA,rV,et,aF,aW,go_sem,↓reduceIte,aee,aeg,aef,aeh,v1]
 | true =>
  rw [va] at v1
  cases vb:vd b with
  | false =>
   rw [vb] at v2
   rw [Bool.and_false,if_neg Bool.false_ne_true]
   simp only [ic,oA,rV,et,aF,aW,go_sem,↓reduceIte,aee,aeg,aef,aeh,v1,v2]
  | true =>
   rw [vb] at v2
   have hs:=Qq oa ob va vb
   rw [Bool.and_self,if_pos rfl]
   generalize ew (gl (zI a+zI b) (-16384))=q at hs ⊢
   obtain ⟨q1,q2⟩:=q
   simp only [rV,aF,aW] at hs
   simp only [ic,oA,rV,aF,aW,go_sem,↓reduceIte,aee,aeg,aef,aeh,v1,v2,hs]
end Go.Ab
namespace Go.Ab
open Go Go.IntWalk
theorem Dl:∀ a:List Int,gU a a=0
 | []=>rfl
 | x::a=>by
  unfold gU
  rw [if_pos (by unfold dM; simp),Dl a]
theorem I0:∀ {a b:List Int},a.length=b.length→gU a b=0→a=b
 | [],[],_,_=>rfl
 | x::a,y::b,h,h2=>by
  unfold gU at h2
  rcases kh x y with ⟨g,e⟩ | ⟨g,e⟩ | ⟨g,e⟩ <;> rw [e] at h2
  ·simp at h2
  ·rw [if_pos rfl] at h2
   rw [g,I0 (by simpa using h) h2]
  ·simp at h2
 | [],_::_,h,_=>by simp at h
 | _::_,[],h,_=>by simp at h
theorem Dm:∀ {a b:List Int},a.length=b.length→gU b a=- gU a b
 | [],[],_=>rfl
 | x::a,y::b,h=>by
  unfold gU
  rcases kh x y with ⟨g,e⟩ | ⟨g,e⟩ | ⟨g,e⟩ <;> rcases kh y x with ⟨g',e'⟩ | ⟨g',e'⟩ | ⟨g',e'⟩ <;> rw [e,e'] <;> first | omega | (simp; done) | skip
  rw [if_pos rfl,if_pos rfl]
  exact Dm (by simpa using h)
 | [],_::_,h=>by simp at h
 | _::_,[],h=>by simp at h
theorem I1:∀ {a b c:List Int},a.length=b.length→b.length=c.length→(gU a b≤0→gU b c < 0→gU a c < 0)∧(gU a b < 0→gU b c≤0→gU a c < 0)
 | [],[],[],_,_=>⟨fun _ h=>by simp [gU] at h,fun h _=>by simp [gU] at h⟩
 | x::a,y::b,z::c,h,h'=>by
  have ih:=I1 (a:=a) (b:=b) (c:=c) (by simpa using h) (by simpa using h')
  unfold gU
  rcases kh x y with ⟨g,e⟩ | ⟨g,e⟩ | ⟨g,e⟩ <;> rcases kh y z with ⟨g',e'⟩ | ⟨g',e'⟩ | ⟨g',e'⟩ <;> rcases kh x z with ⟨g2,e2⟩ | ⟨g2,e2⟩ | ⟨g2,e2⟩ <;> rw [e,e',e2] <;> first | omega | skip
  all_goals simp
  all_goals first | exact ih | omega
 | [],[],_::_,_,h=>by simp at h
 | [],_::_,_,h,_=>by simp at h
 | _::_,[],_,h,_=>by simp at h
 | _::_,_::_,[],_,h=>by simp at h
theorem LZ (a:List Int):bt a a=0:=by
 unfold bt
 rw [if_pos (by unfold dM; simp),Dl]
theorem I2 {a b:List Int} (h:a.length=b.length) (h2:bt a b=0):a=b:=by
 unfold bt at h2
 rcases kh (bi a) (bi b) with ⟨g,e⟩ | ⟨g,e⟩ | ⟨g,e⟩ <;> rw [e] at h2
 ·simp at h2
 ·rw [if_pos rfl] at h2
  exact (I0 h.symm h2).symm
 ·simp at h2
theorem su {a b:List Int} (h:a.length=b.length):bt b a=- bt a b:=by
 unfold bt
 rcases kh (bi a) (bi b) with ⟨g,e⟩ | ⟨g,e⟩ | ⟨g,e⟩ <;> rcases kh (bi b) (bi a) with ⟨g',e'⟩ | ⟨g',e'⟩ | ⟨g',e'⟩ <;> rw [e,e'] <;> first | omega | (simp; done) | skip
 rw [if_pos rfl,if_pos rfl]
 exact Dm h.symm
theorem tU {a b c:List Int} (h:a.length=b.length) (h':b.length=c.length):(bt a b≤0→bt b c < 0→bt a c < 0)∧(bt a b < 0→bt b c≤0→bt a c < 0):=by
 have ih:=I1 (a:=c) (b:=b) (c:=a) h'.symm h.symm
 unfold bt
 rcases kh (bi a) (bi b) with ⟨g,e⟩ | ⟨g,e⟩ | ⟨g,e⟩ <;> rcases kh (bi b) (bi c) with ⟨g',e'⟩ | ⟨g',e'⟩ | ⟨g',e'⟩ <;> rcases kh (bi a) (bi c) with ⟨g2,e2⟩ | ⟨g2,e2⟩ | ⟨g2,e2⟩ <;> rw [e,e',e2] <;> first | omega | skip
 all_goals simp
 all_goals first | exact ⟨fun x y=>ih.2 y x,fun x y=>ih.1 y x⟩ | omega
structure VT (v:Int) (t:Rt):Prop where
 c:Ok0 t.c
 len:(t.exps.length:Int)=v
 v8:v≤8
 vc:vd t.c=true
 nz:t.c.m.length ≠ 0
 b:∀ e ∈ t.exps,0≤e∧e≤32
 d:bi t.exps≤32
theorem VT.sm {v:Int} {t:Rt} (h:VT v t):sm t.exps:=⟨by have:=h.len; have:=h.v8; omega,h.b⟩
theorem VT.ok {v:Int} {t:Rt} (h:VT v t):OkT t:=⟨h.c,by have:=h.len; have:=h.v8; omega⟩
theorem VT.l2 {v:Int} {t q:Rt} (h:VT v t) (h2:VT v q):t.exps.length=q.exps.length:=by have:=h.len; have:=h2.len; omega
structure Cl (v:Int) (l:List Rt):Prop where
 t:∀ t ∈ l,VT v t
 s:l.Pairwise fun a b=>bt a.exps b.exps < 0
theorem Cl.nil (v:Int):Cl v []:=⟨(fun _ h=>nomatch h),List.Pairwise.nil⟩
theorem Cl.cons {v:Int} {q:Rt} {l:List Rt} (h:Cl v (q::l)):VT v q∧(∀ t ∈ l,bt q.exps t.exps < 0)∧Cl v l :=
 ⟨h.t q (by simp),(List.pairwise_cons.1 h.s).1,fun t ht=>h.t t (by simp [ht]),(List.pairwise_cons.1 h.s).2⟩
theorem Cl.mk' {v:Int} {q:Rt} {l:List Rt} (h1:VT v q) (h2:∀ t ∈ l,bt q.exps t.exps < 0) (h3:Cl v l):Cl v (q::l) :=
 ⟨fun t ht=>(List.mem_cons.1 ht).elim (fun e=>e ▸ h1) (h3.t t),List.pairwise_cons.2 ⟨h2,h3.s⟩⟩
theorem L4 {v:Int} (hv:v≤8):∀ (l:List Rt) (pr:Option Rt),(∀ t ∈ l,OkT t)→tP v pr l=true→Cl v l∧∀ q,pr=some q→(q.exps.length:Int)=v→∀ t ∈ l,bt q.exps t.exps < 0
 | [],pr,_,_=>⟨Cl.nil v,fun _ _ _ t ht=>by cases ht⟩
 | t::l,pr,ok,h=>by
  unfold tP at h
  simp only [Bool.and_eq_true] at h
  obtain ⟨h1,h2,h3⟩:=h
  obtain ⟨g1,g2⟩:=L4 hv l (some t) (fun x hx=>ok x (by simp [hx])) h3
  obtain ⟨k1,k2,k3,k4,k5⟩:=Bz h1
  have vt:VT v t:=⟨(ok t (by simp)).c,k1,hv,k2,k3,qZ k4,k5⟩
  have gt:=g2 t rfl k1
  refine ⟨Cl.mk' vt gt g1,fun q hq hl x hx=>?_⟩
  subst hq
  unfold Hi at h2
  have h4:=of_decide_eq_true h2
  rcases List.mem_cons.1 hx with rfl | hx
  ·exact h4
  ·exact (tU (by omega) (vt.l2 (g1.t x hx))).1 (by omega) (gt x hx)
theorem dH {a:Rp} (oa:OkP a) (h:vp a=true):Cl a.vars a.terms∧0≤a.vars∧a.vars≤8∧a.terms.length≤500:=by
 unfold vp at h
 simp only [Bool.and_eq_true,decide_eq_true_eq] at h
 exact ⟨(L4 h.2.1 _ none oa.t h.2.2.2).1,h.1,h.2.1,h.2.2.1⟩
def bd:List Rt→List Int→Nat
 | [],_=>0
 | q::l,x=>if bt q.exps x < 0 then bd l x+1 else 0
def nw:List Rt→Rt→Option (List Rt)
 | [],t=>some [t]
 | q::l,t=>if bt q.exps t.exps < 0 then (nw l t).map (q::·) else if bt q.exps t.exps=0 then (if (iN q.c t.c).2=0 then some (if (iN q.c t.c).1.m.length=0 then l else ⟨q.exps,(iN q.c t.c).1⟩::l) else none) else some (t::q::l)
theorem xW:∀ (l:List Rt) (x:List Int),bd l x≤l.length
 | [],x=>Nat.le_refl _
 | q::l,x=>by
  unfold bd
  split
  ·exact Nat.succ_le_succ (xW l x)
  ·exact Nat.zero_le _
theorem I3:∀ {l:List Rt} {x:List Int} {i:Nat} {q:Rt},i < bd l x→l[i]?=some q→bt q.exps x < 0
 | [],x,i,q,h,_=>by simp [bd] at h
 | p::l,x,i,q,h,hq=>by
  unfold bd at h
  split at h
  ·rename_i hc
   cases i with
   | zero=>cases hq; exact hc
   | succ i=>exact I3 (l:=l) (i:=i) (by omega) (by simpa using hq)
  ·omega
theorem CA:∀ {l:List Rt} {x:List Int} {q:Rt},l[bd l x]?=some q→0≤bt q.exps x
 | [],x,q,h=>by simp at h
 | p::l,x,q,h=>by
  unfold bd at h
  split at h
  ·exact CA (l:=l) (by simpa using h)
  ·rename_i hc
   cases h
   omega
theorem Qs {v:Int} {l:List Rt} {x:List Int} (c:Cl v l) (hx:(x.length:Int)=v) {i:Nat} {q:Rt} (hi:bd l x < i) (h:l[i]?=some q):0 < bt q.exps x:=by
 have hlt:=(List.getElem?_eq_some_iff.1 h).1
 have h1:l[bd l x]?=some l[bd l x]:=List.getElem?_eq_getElem (by omega)
 have h2:=CA h1
 have h3:=(List.getElem?_eq_some_iff.1 h).2
 have h4:bt (l[bd l x]).exps q.exps < 0:=by
  rw [← h3]
  exact List.pairwise_iff_getElem.1 c.s _ _ (by omega) hlt hi
 have v1:=c.t _ (List.getElem_mem (by omega:bd l x < l.length))
 have v2:=c.t q (List.mem_of_getElem? h)
 generalize l[bd l x]=p at *
 have l1:x.length=p.exps.length:=by have:=v1.len; omega
 have h5:=(tU l1 (v1.l2 v2)).1 (by rw [su l1.symm]; omega) h4
 rw [su (by have:=v2.len; omega:x.length=q.exps.length)]
 omega
theorem I4:∀ (l:List Rt) (t:Rt),nw l t=match l[bd l t.exps]? with
  | none=>some (l.take (bd l t.exps)++t::l.drop (bd l t.exps))
  | some q=>if bt q.exps t.exps=0 then (if (iN q.c t.c).2=0 then some (if (iN q.c t.c).1.m.length=0 then l.take (bd l t.exps)++l.drop (bd l t.exps+1) else l.set (bd l t.exps) ⟨q.exps,(iN q.c t.c).1⟩) else none) else some (l.take (bd l t.exps)++t::l.drop (bd l t.exps))
 | [],t=>rfl
 | q::l,t=>by
  unfold nw bd
  by_cases h:bt q.exps t.exps < 0
  ·simp only [if_pos h,List.getElem?_cons_succ]
   rw [I4 l t]
   cases l[bd l t.exps]? with
   | none=>rfl
   | some p =>
    simp only []
    split
    ·split
     ·split <;> rfl
     ·rfl
    ·rfl
  ·simp only [if_neg h,List.getElem?_cons_zero,List.take_zero,List.drop_zero,List.nil_append,List.set_cons_zero,Nat.zero_add,List.drop_one,List.tail_cons]
theorem xX {v:Int}:∀ {l l':List Rt} {t:Rt},Cl v l→VT v t→nw l t=some l'→Cl v l'∧∀ q:List Int,(q.length:Int)=v→(∀ x ∈ l,bt q x.exps < 0)→bt q t.exps < 0→∀ x ∈ l',bt q x.exps < 0
 | [],l',t,c,vt,h=>by
  cases h
  exact ⟨Cl.mk' vt (fun _ h=>by cases h) c,fun q _ _ h x hx=>by simp at hx; subst hx; exact h⟩
 | p::l,l',t,c,vt,h=>by
  obtain ⟨c1,c2,c3⟩:=c.cons
  unfold nw at h
  split at h
  ·rename_i h1
   rw [Option.map_eq_some_iff] at h
   obtain ⟨l2,h2,rfl⟩:=h
   obtain ⟨g1,g2⟩:=xX c3 vt h2
   refine ⟨Cl.mk' c1 (g2 p.exps c1.len c2 h1) g1,fun q hq k1 k2 x hx=>?_⟩
   rcases List.mem_cons.1 hx with rfl | hx
   ·exact k1 x (by simp)
   ·exact g2 q hq (fun y hy=>k1 y (by simp [hy])) k2 x hx
  ·split at h
   ·rename_i h1 h2
    split at h
    ·rename_i h3
     cases h
     split
     ·exact ⟨c3,fun q hq k1 k2 x hx=>k1 x (by simp [hx])⟩
     ·rename_i h4
      obtain ⟨a1,a2⟩:=Qm p.c t.c
      refine ⟨Cl.mk' ⟨a2,c1.len,c1.v8,a1,h4,c1.b,c1.d⟩ c2 c3,fun q hq k1 k2 x hx=>?_⟩
      rcases List.mem_cons.1 hx with rfl | hx
      ·exact k1 p (by simp)
      ·exact k1 x (by simp [hx])
    ·cases h
   ·rename_i h1 h2
    cases h
    have h3:bt t.exps p.exps < 0:=by
     rw [su (c1.l2 vt)]
     omega
    refine ⟨Cl.mk' vt (fun x hx=>?_) c,fun q hq k1 k2 x hx=>?_⟩
    ·rcases List.mem_cons.1 hx with rfl | hx
     ·exact h3
     ·exact (tU (vt.l2 c1) (c1.l2 (c3.t x hx))).1 (by omega) (c2 x hx)
    ·rcases List.mem_cons.1 hx with rfl | hx
     ·exact k2
     ·exact k1 x hx
theorem Ac:∀ {l l':List Rt} {t:Rt},nw l t=some l'→l'.length≤l.length+1
 | [],l',t,h=>by cases h; simp
 | p::l,l',t,h=>by
  unfold nw at h
  split at h
  ·rw [Option.map_eq_some_iff] at h
   obtain ⟨l2,h2,rfl⟩:=h
   simpa using Ac h2
  ·split at h
   ·split at h
    ·cases h
     split
     ·simp
      omega
     ·simp
    ·cases h
   ·cases h
    simp
def gV:List Rt→List Rt→Option (List Rt)
 | l,[]=>some l
 | l,t::ts=>(nw l t).bind fun l'=>gV l' ts
theorem Hm:∀ (ts us:List Rt) (l:List Rt),gV l (ts++us)=(gV l ts).bind fun l'=>gV l' us
 | [],us,l=>rfl
 | t::ts,us,l=>by
  show (nw l t).bind _=((nw l t).bind _).bind _
  cases nw l t with
  | none=>rfl
  | some l'=>exact Hm ts us l'
theorem nR {v:Int}:∀ {ts l l':List Rt},Cl v l→(∀ t ∈ ts,VT v t)→gV l ts=some l'→Cl v l'∧l'.length≤l.length+ts.length
 | [],l,l',c,_,h=>by cases h; exact ⟨c,Nat.le_refl _⟩
 | t::ts,l,l',c,vt,h=>by
  unfold gV at h
  rw [Option.bind_eq_some_iff] at h
  obtain ⟨l2,h2,h3⟩:=h
  obtain ⟨g1,g2⟩:=nR (xX c (vt t (by simp)) h2).1 (fun x hx=>vt x (by simp [hx])) h3
  have:=Ac h2
  exact ⟨g1,by simp; omega⟩
section
variable {call:cT} {md:Mode} {s:af} {h:aa}
@[go_sem] theorem abR (d k x y rest):am call md (⟨some d,none,.cpy k x y⟩::rest) s h=aK (bK md.nm s (some d) (BP h k (ev s x) (ev s y))) (am call md rest):=_root_.id rfl
@[go_sem] theorem Zs (d k x lo hi rest):am call md (⟨some d,none,.slcM k x lo hi⟩::rest) s h=aK (bK md.nm s (some d) (xG h k (ev s x) (evo s lo) (evo s hi))) (am call md rest):=_root_.id rfl
@[go_sem] theorem abS (d k z x rest):am call md (⟨d,none,.clr k z x⟩::rest) s h=aK (bK md.nm s d (BQ h k z (ev s x))) (am call md rest):=_root_.id rfl
@[go_sem] theorem Zt (d k b z x n rest):am call md (⟨some d,none,.appz k b z x n⟩::rest) s h=aK (bK md.nm s (some d) (rW h d k b z (ev s x) (ev s n))) (am call md rest):=_root_.id rfl
@[go_sem] theorem Zu (d x rest):am call md (⟨some d,none,.take x⟩::rest) s h=aK (bK md.nm s (some d) (Ap h d (ev s x))) (am call md rest):=_root_.id rfl
@[go_sem] theorem XQ (d f zas rest):am call md (⟨some d,none,.callC f zas⟩::rest) s h=aK (bK md.nm s (some d) ((ai call md h d (zas.map (ev s)) (ev s f)).bind (nZ d))) (am call md rest):=_root_.id rfl
@[go_sem] theorem Zv (ps acc d k x y rest):bA call md ps acc (⟨some d,none,.cpy k x y⟩::rest) s h=eA call md ps acc rest s (some d) (fun _=>none) (BP h k (ev s x) (ev s y)):=cH _ _ _ _ rfl
@[go_sem] theorem Zw (ps acc d k b x y rest):bA call md ps acc (⟨some d,none,.app k b x y⟩::rest) s h=eA call md ps acc rest s (some d) (fun _=>none) (yM h d k b (ev s x) (ev s y)):=cH _ _ _ _ rfl
@[go_sem] theorem U5 (ps acc d f zas rest):bA call md ps acc (⟨some d,none,.callC f zas⟩::rest) s h=eA call md ps acc rest s (some d) (fun _=>wo d h (il (zas.map (ev s)) (ev s f))) ((ai call md h d (zas.map (ev s)) (ev s f)).bind (nZ d)):=cH _ _ _ _ rfl
@[go_sem] theorem XR (d h l):wo d h l=if l.all dat=true then some ([],[2000+8*d]) else none:=_root_.id rfl
@[go_sem] theorem abT (d k r h ks):nZ d (.sl k r,h,ks)=some (.sl k r,h,ks):=_root_.id rfl
@[go_sem] theorem Zx (d h ks):nZ d (.emp,h,ks)=some (.emp,h,ks):=_root_.id rfl
@[go_sem] theorem Zy (d id k lo n h ks):nZ d (.rsl id none k lo n,h,ks)=if id=2000+8*d then (jf h id k lo n (h id)).map (fun q=>(q.1,q.2.1,ks++q.2.2)) else none:=_root_.id rfl
@[go_sem] theorem abU (h k id k' lo n y):BP h k (.rsl id none k' lo n) y=(Fb y).bind fun l=>(lN h k (Fa n y)).bind fun ys=>Fc h id k k' lo n l ys (h id):=_root_.id rfl
@[go_sem] theorem abV (k r):Fb (.sl k r)=some r.length:=_root_.id rfl
@[go_sem] theorem Zz (id sub k lo n):Fb (.rsl id sub k lo n)=some n:=_root_.id rfl
@[go_sem] theorem abW (m k r):Fa m (.sl k r)=.sl k (r.take m):=_root_.id rfl
@[go_sem] theorem ZA (m id sub k lo n):Fa m (.rsl id sub k lo n)=.rsl id sub k lo (min m n):=_root_.id rfl
@[go_sem] theorem abX (h id k lo n l ys r):Fc h id k k lo n l ys (.ar k r)=if lo≤r.length∧ys.length=min l n then some (.v (.int .i64 ys.length),upd h id (.ar k (r.take lo++ys++r.drop (lo+ys.length))),[]) else none:=by simp [Fc]
@[go_sem] theorem ZB (h k id l0 n lo hi):xG h k (.rsl id none k l0 n) lo hi=An h k id l0 lo hi (h id):=by simp [xG]
@[go_sem] theorem ZC (h k id l0 lo hi r):An h k id l0 lo hi (.ar k r)=if hi.isSome=true∧l0≤r.length then (hG (r.length - l0) lo hi none).map fun p=>(.rsl id none k (l0+p.1) (p.2 - p.1),h,[]) else none:=by simp [An]
@[go_sem] theorem abY (h k z id lo n):BQ h k z (.rsl id none k lo n)=Fd h k id lo n z (h id):=by simp [BQ]
@[go_sem] theorem abZ (h k id lo n z r):Fd h k id lo n z (.ar k r)=if lo+n≤r.length then some (.tup [],upd h id (.ar k (r.take lo++List.replicate n z++r.drop (lo+n))),[]) else none:=by simp [Fd]
@[go_sem] theorem ZD (h d k b z id i c m):rW h d k b z (.rsc id k 0 i c) (.v (.int .i64 m))=if 0 < m∧c < i+m.toNat then Ao h d k b id i m.toNat z (h id) else none:=by simp [rW]
@[go_sem] theorem ZE (h d k b id i m z r):Ao h d k b id i m z (.ar k r)=if i≤r.length∧(i+m)*b≤140737488355328 then bO h d k (r.take i++List.replicate m z) (i+m) [] else none:=by simp [Ao]
@[go_sem] theorem ab0 (id k lo n c):jd false (.rsc id k lo n c)=some (I n):=_root_.id rfl
@[go_sem] theorem ab1 (id k lo n c):BK (.rsc id k lo n c)=some (I c):=_root_.id rfl
@[go_sem] theorem ab2 (k id l0 n c lo hi mx):dJ k (.rsc id k l0 n c) lo hi mx=E4 k id l0 n c lo hi mx:=by simp [dJ]
@[go_sem] theorem ab3 (k id l0 n c x):E4 k id l0 n c none (some x) none=(gF n c (some x)).map fun r=>.rsc id k l0 r c:=_root_.id rfl
@[go_sem] theorem ab4 (k id l0 n c x hi):E4 k id l0 n c (some x) hi none=(hG n (some x) hi none).map fun p=>.rsl id none k (l0+p.1) (p.2 - p.1):=_root_.id rfl
@[go_sem] theorem ab5 (ks id k lo n c):mf ks (.rsc id k lo n c)=if dT ks id none=true then .any else .rsc id k lo n c:=_root_.id rfl
@[go_sem] theorem ZF (h d id k i j):Ap h d (.ref id none k i j)=EJ h d id (i*k+j) (h id):=_root_.id rfl
@[go_sem] theorem ZG (h d id p cs):EJ h d id p (.bx cs)=xH h d id p cs cs[p]?:=_root_.id rfl
@[go_sem] theorem XS (h d id p cs k r):xH h d id p cs (some (.osl k r))=bO (upd h id (.bx (cs.set p .any))) d k r r.length [(id,true)]:=_root_.id rfl
@[go_sem] theorem XT (h d id p cs):xH h d id p cs (some .emp)=some (.emp,h,[]):=_root_.id rfl
@[go_sem] theorem ZH (nm:Bool) (s h):pe nm [] s h=some ⟨s,h⟩:=_root_.id rfl
@[go_sem] theorem XU (nm:Bool) (i l s h):pe nm (i::l) s h=if 200000≤i then (BS (i - 200000) s h (s (i - 200000))).bind (fun r=>if jH nm r.2.2 then pe nm l r.1 r.2.1 else none) else if 100000≤i then pe nm l s (ut h (s (i - 100000))) else (Js i s h (s i)).bind fun r=>if jH nm r.2.2 then pe nm l r.1 r.2.1 else none:=_root_.id rfl
@[go_sem] theorem U6 (ks):jH false ks=true:=_root_.id rfl
@[go_sem] theorem ab6 (i s h id k lo n):BS i s h (.rsl id none k lo n)=wq i s h id k lo n (h id):=_root_.id rfl
@[go_sem] theorem ab7 (i s h id k lo n c):BS i s h (.rsc id k lo n c)=wq i s h id k lo n (h id):=_root_.id rfl
@[go_sem] theorem ab8 (i s h id k lo n r):wq i s h id k lo n (.ar k r)=if lo=0∧aG i=false∧cD (h i)=true then some (upd (eG [(id,false)] s) i (.rsl i none k 0 n),upd (upd h id .dead) i (.ar k r),[(id,false)]) else none:=by simp [wq]
@[go_sem] theorem ZI (h id k lo n):ut h (.rsl id none k lo n)=(match h id with | .ar k rows=>upd h id (.ar k (rows.take (lo+n))) | _=>h):=_root_.id rfl
@[go_sem] theorem ab9 (nm:Bool) (s h):kO nm 0 s h=some ⟨s,h⟩:=_root_.id rfl
@[go_sem] theorem aca (nm:Bool) (i s h):kO nm (i+1) s h=(CQ i s h (s i)).bind fun r=>if jH nm r.2.2 then some ⟨r.1,r.2.1⟩ else none:=_root_.id rfl
@[go_sem] theorem acb (i s h):CQ i s h .emp=some (s,h,[]):=_root_.id rfl
@[go_sem] theorem acd (i s h id p k lo n):CQ i s h (.rsl id (some p) k lo n)=if aG i=false then Ip i s h id p k lo n (h id) else none:=_root_.id rfl
@[go_sem] theorem adB (i s h id p k lo n cs):Ip i s h id p k lo n (.bx cs)=Au i s h id p k lo n cs cs[p]?:=_root_.id rfl
@[go_sem] theorem ace (i s h id p k lo n cs r):Au i s h id p k lo n cs (some (.osl k r))=if lo=0∧n=r.length∧cD (h i)=true then some (upd (eG [(id,true)] s) i (.rsl i none k 0 n),upd (upd h id (.bx (cs.set p .any))) i (.ar k r),[(id,true)]) else none:=by simp [Au]
@[go_sem] theorem acf (m g ps l):Ny call md m g ps l s h=aK (bA call md ps [] (l.take m) s h) fun s h=>aK (kO md.nm g s h) (am call md (l.drop m)):=_root_.id rfl
end
end Go.Ab
namespace Go.Ab
open Go Go.IntWalk
set_option maxRecDepth 4000
set_option maxHeartbeats 1000000
theorem I5 {t:Rt} {x:List Int} (ht:sm t.exps) (hx:sm x) (hl:t.exps.length=x.length):R F.poly_collector_add_1 [.agg (bv t),.sl 1 (aY x)] []=some (I (bt t.exps x),[]):=by
 refine aX sO sN (qM false) rfl ?_
 have ho:=Hh ht hx hl
 simp only [eB,mJ,bv,go_sem,↓reduceIte,aee,aeg,aef,ho]
theorem Qt {v:Int} {l:List Rt} {x:List Int} (c:Cl v l) (hx:sm x) (hl:(x.length:Int)=v) (h2:l.length≤1000000):∀ (k i j:Nat),j - i≤k→i≤bd l x→bd l x≤j→j≤l.length→∀ (s:af) (h:aa),s 0=.sl 4 (ax l)→s 1=.sl 1 (aY x)→s 2=.fn F.poly_collector_add_1 [] []→s 8=I l.length→s 9=I i→s 10=I j →
  aI 0 [0,1,2,8,9] (aU (az R (ab false) aS) [0,1,2,8,9,10] [] s h)=some (.normal,⟨upd (upd (upd (upd (upd (fun _=>.any) 9 (I (bd l x))) 8 (I l.length)) 2 (.fn F.poly_collector_add_1 [] [])) 1 (.sl 1 (aY x))) 0 (.sl 4 (ax l)),fun _=>.dead⟩):=by
 intro k
 induction k with
 | zero =>
  intro i j hk hi hj hn s h h0 h1 h2' h8 h9 h10
  have e1:((i:Int) < (j:Int))=False:=ff (by omega)
  obtain rfl:i=bd l x:=by omega
  rw [aB]
  simp only [aS,go_sem,↓reduceIte,aee,h0,h1,h2',h8,h9,h10,e1]
 | succ k ih =>
  intro i j hk hi hj hn s h h0 h1 h2' h8 h9 h10
  by_cases hij:i < j
  ·have e1:((i:Int) < (j:Int))=True:=tt (by omega)
   have e2:IntKind.i64.wrap ((i:Int)+(j:Int))=((i+j:Nat):Int):=wi (by omega) (by omega)
   have hlt:(i+j) / 2 < l.length:=by omega
   have g1:IntKind.u64.wrap (((i+j:Nat)):Int)=((i+j:Nat):Int):=ql rfl (by omega)
   have g2:((1:Int) < 0)=False:=ff (by decide)
   have g3:Int.fdiv ((i+j:Nat):Int) (2 ^ (min (Int.toNat 1) 64))=(((i+j) / 2:Nat):Int):=by
    rw [show (2:Int) ^ (min (Int.toNat 1) 64)=2 from rfl,Int.fdiv_eq_ediv_of_nonneg _ (by decide)]
    omega
   have g4:IntKind.i64.wrap (((i+j) / 2:Nat):Int)=(((i+j) / 2:Nat):Int):=wi (by omega) (by omega)
   have e3:bH (ax l) (((i+j) / 2:Nat):Int)=some (.ipt (bv l[(i+j) / 2])):=jt rfl (List.getElem?_eq_getElem hlt)
   have q:=c.t _ (List.getElem_mem hlt)
   have hc:=I5 q.sm hx (by have:=q.len; omega)
   have p1:bt (l[(i+j) / 2]).exps x < 0→(i+j) / 2 < bd l x:=fun ho=>by
    rcases Nat.lt_trichotomy ((i+j) / 2) (bd l x) with h | h | h
    ·exact h
    ·have:=CA (l:=l) (x:=x) (q:=l[(i+j) / 2]) (by rw [← h]; exact List.getElem?_eq_getElem hlt)
     omega
    ·have:=Qs c hl h (List.getElem?_eq_getElem hlt)
     omega
   have p2:¬ bt (l[(i+j) / 2]).exps x < 0→bd l x≤(i+j) / 2:=fun ho=>by
    rcases Nat.lt_or_ge ((i+j) / 2) (bd l x) with h | h
    ·exact absurd (I3 h (List.getElem?_eq_getElem hlt)) ho
    ·exact h
   have i1:=ih ((i+j) / 2+1) j (by omega)
   have i2:=ih i ((i+j) / 2) (by omega) hi
   generalize l[(i+j) / 2]=t at e3 q hc p1 p2
   rw [aB]
   generalize aU _ _ _=L at i1 i2 ⊢
   simp only [bv] at hc e3
   by_cases ho:bt t.exps x < 0
   ·have e4:(bt t.exps x < 0)=True:=tt ho
    have e5:IntKind.i64.wrap ((((i+j) / 2:Nat):Int)+1)=(((i+j) / 2+1:Nat):Int):=wi (by omega) (by omega)
    have:=p1 ho
    simp only [aS,go_sem,↓reduceIte,aee,aeg,aef,aeh,h0,h1,h2',h8,h9,h10,e1,e2,g1,g2,g3,g4,e3,hc,e4,e5]
    exact i1 (by omega) hj hn _ _ rfl rfl rfl rfl rfl rfl
   ·have e4:(bt t.exps x < 0)=False:=ff ho
    have:=p2 ho
    simp only [aS,go_sem,↓reduceIte,aee,aeg,aef,aeh,h0,h1,h2',h8,h9,h10,e1,e2,g1,g2,g3,g4,e3,hc,e4]
    exact i2 this (by omega) _ _ rfl rfl rfl rfl rfl rfl
  ·exact ih i j (by omega) hi hj hn s h h0 h1 h2' h8 h9 h10
def xt (l:List Rt) (x:List Int):Bool:=match l[bd l x]? with
 | some q=>decide (bt q.exps x=0)
 | none=>false
theorem KB {v:Int} {l:List Rt} {x:List Int} (c:Cl v l) (hx:sm x) (hl:(x.length:Int)=v) (h2:l.length≤1000000):R F.slices_BinarySearchFunc_api_Term_api_Term_Sint_ [.sl 4 (ax l),.sl 1 (aY x),.fn F.poly_collector_add_1 [] []] []=some (.tup [I (bd l x),B (xt l x)],[]):=by
 refine aX gE gD (cG false) rfl ?_
 have h3:=Qt c hx hl h2 l.length 0 l.length (by omega) (Nat.zero_le _) (xW l x) (Nat.le_refl _)
 simp only [Int.natCast_zero] at h3
 simp only [be,cV,go_sem,↓reduceIte,aee]
 rw [h3 _ _ rfl rfl rfl rfl rfl rfl]
 unfold xt
 cases hq:l[bd l x]? with
 | none =>
  have:l.length≤bd l x:=List.getElem?_eq_none_iff.1 hq
  have e1:((bd l x:Int) < (l.length:Int))=False:=ff (by omega)
  simp only [go_sem,↓reduceIte,aee,e1]
 | some q =>
  have hlt:=(List.getElem?_eq_some_iff.1 hq).1
  have e1:((bd l x:Int) < (l.length:Int))=True:=tt (by omega)
  have vq:=c.t q (List.mem_of_getElem? hq)
  have hc:=I5 vq.sm hx (by have:=vq.len; omega)
  have e3:bH (ax l) (bd l x:Int)=some (.ipt (bv q)):=jt rfl hq
  simp only [bv] at hc e3
  by_cases ho:bt q.exps x=0
  ·have e4:(bt q.exps x=0)=True:=tt ho
   simp only [go_sem,↓reduceIte,aee,aeg,aef,aeh,e1,e3,hc,e4,decide_true]
  ·have e4:(bt q.exps x=0)=False:=ff ho
   simp only [go_sem,↓reduceIte,aee,aeg,aef,aeh,e1,e3,hc,e4,decide_false]
end Go.Ab
namespace Go.Ab
open Go Go.IntWalk
set_option maxRecDepth 4000
set_option maxHeartbeats 1000000
theorem Dn {d:Rd} (hn:d.m.length ≠ 0) (h1:d.m.length≤100000):R F.poly_copied [aF d] []=some (aF d,[]):=by
 refine aX D4 D3 (zi false) rfl ?_
 have hc:=zZ (m:=d.m) (fun h=>hn (by rw [h]; rfl)) h1
 simp only [lV,vA,aF,aW,go_sem,↓reduceIte,aee,aeg,aef,aeh,hc]
theorem I6 {h:aa} {d id p n:Nat} {cs:List AV} {rows:List (List AV)} {x:AV} (hh:h id=.bx cs) (hp:cs[p]?=some (.osl 4 rows)) (hn:n=rows.length) (hx:∃ r,x=.sl 1 r) :
  ai R (ab false) h d [.rsl id (some p) 4 0 n,x,.fn F.poly_collector_add_1 [] []] (.fn F.slices_BinarySearchFunc_api_Term_api_Term_Sint_ [] [])=(R F.slices_BinarySearchFunc_api_Term_api_Term_Sint_ (aM [[.o 5 [.o 2 [],.o 0 [],.o 2 [],.o 0 []]],[.o 2 []],[]] [.sl 4 rows,x,.fn F.poly_collector_add_1 [] []]) []).bind (Fe h):=by
 obtain ⟨r,rfl⟩:=hx
 subst hn
 unfold ai
 rw [if_pos (by simp [jG,cW,Aq])]
 simp only [Ar,BR,Jr,nX,gx,hh,hp,m7,dN,List.nil_append,List.append_nil,cO]
 simp
theorem Hn (o:Ob):ae [o]=upd (fun _=>.dead) 1000 o:=by
 funext i
 unfold ae upd
 by_cases h:i=1000
 ·subst h
  rfl
 ·rw [if_neg h]
  split
  ·rw [List.getElem?_eq_none (by simp; omega)]
   rfl
  ·rfl
theorem sv {f:FuncId} {fd:FD} {args:List AV} {o:Ob} {r:AV × List Ob} (hE:au.E f=none) (hC:au.C f=some fd) (hk:au.md.keep f=false) (h1:args.length=fd.np)
  (hz:rk false fd.rs fd.res 1 (az R (ab false) fd.body (pf args) (upd (fun _=>.dead) 1000 o))=some r):R f args [o]=some r:=by
 refine Gd false hE hC hk h1 (by simp) ?_
 rw [Hn]
 exact hz
theorem EY {f:FuncId} {g:List AV→List Ob→Option (AV × List Ob)} {args:List AV} {hs:List Ob} (hE:au.E f=some g):R f args hs=g args hs:=uK hE
theorem Do:R F.slices_Clone_int_int_ [.sl 1 []] []=some (.sl 1 [],[]):=by
 rw [EY (g:=LD) (by kernel_rfl)]
 rfl
theorem Dp {x:Int} {l:List Int} (h:l.length≤1000000):R F.slices_Clone_int_int_ [.sl 1 (aY (x::l))] []=some (.osl 1 (aY (x::l)),[]):=by
 rw [EY (g:=LD) (by kernel_rfl)]
 show (if (((aY l).length+1)*8≤140737488355328) then _ else _)=_
 rw [if_pos (by rw [tN]; omega)]
 rfl
def mp (c:AV) (l:List Rt):Prop:=c=.osl 4 (ax l)∨(c=.emp∧l=[])
def t3 (v:Int) (c:AV) (e:Int):Ob:=.bx [I v,c,I e]
theorem tV {h:aa} {v e:Int} {c:AV} {l:List Rt} (hc:mp c l) (hh:h 1000=t3 v c e):n6 [] 1 h []=some (.tup [],[t3 v c e]):=by
 have hp:bS 1=[1000]:=rfl
 have h2:aA [1000] (t3 v c e)=true:=by
  rcases hc with rfl | ⟨rfl,_⟩ <;> rfl
 unfold n6
 rw [hp]
 simp [hh,h2,fm,lP,kP,aM]
theorem Ho {v e:Int} {c x:AV} {d:Rd} {l:List Rt} (hc:mp c l) (he:e ≠ 0):R F.poly_collector_add [.ref 1000 none 0 0 0,x,aF d] [t3 v c e]=some (.tup [],[t3 v c e]):=by
 refine sv gh gg (dt false) rfl ?_
 have e1:(e=0)=False:=ff he
 simp only [ck,dW,t3,aF,aW,go_sem,↓reduceIte,aee,aeg,aef,e1]
 exact tV hc rfl
theorem xY (h:aa) (i:Int) (b:Bool):Fe h (.tup [I i,B b],[])=some (.tup [I i,B b],h,[]):=rfl
theorem oP {h:aa} {id p id2 k n:Nat} {rows:List (List AV)} {cs:List AV} (h1:h id2=.ar k rows) (hn:n=rows.length) (h2:h id=.bx cs) (hne:id ≠ id2) (hp:p < cs.length) :
  mG h id p 1 [.rsl id2 none k 0 n]=some (upd (upd h id2 .dead) id (.bx (cs.set p (.osl k rows))),(id2,false)::(if cs[p]?.any aN then [(id,true)] else [])):=by
 have h3:upd h id2 .dead id=.bx cs:=by
  unfold upd
  rw [if_neg hne,h2]
 subst hn
 simp [mG,yj,h1,E7,E8,h3,hp,ui]
theorem Se {l:List Rt} {t:Rt} {n i:Nat} (hn:n=l.length) (hi:i≤n) (h2:n≤1000000):R F.slices_Insert_api_Term_api_Term_ [.rsl 1000 none 4 0 n,I i,.sl 4 [bv t]] [.ar 4 (ax l)]=some (.osl 4 (ax (l.take i++t::l.drop i)),[.dead]):=by
 rw [EY (g:=Gc 4 64) (by kernel_rfl)]
 show (if (4:Nat)=4∧(4:Nat)=4∧(4:Nat)=4∧n=(ax l).length∧(0:Int)≤(i:Int)∧(i:Int)≤(n:Int)∧(n+1)*64≤140737488355328 then some (AV.osl 4 ((ax l).take (i:Int).toNat++bv t::(ax l).drop (i:Int).toNat),[Ob.dead]) else none)=_
 rw [if_pos ⟨rfl,rfl,rfl,by rw [fD,hn],by omega,by omega,by omega⟩,Int.toNat_natCast]
 simp [ax,List.map_take,List.map_drop]
theorem Qu {t:Rt}:R F.slices_Insert_api_Term_api_Term_ [.emp,I 0,.sl 4 [bv t]] []=some (.osl 4 (ax [t]),[]):=by
 rw [EY (g:=Gc 4 64) (by kernel_rfl)]
 rfl
theorem L6 (t:Rt):nrmV [.o 5 [.o 2 [],.o 0 [],.o 2 [],.o 0 []]] (.sl 4 [bv t])=.sl 4 [bv t]:=by
 have:=tO [t]
 simp only [ax,List.map_cons,List.map_nil] at this
 simp only [nrmV,List.headD_cons,nrmL,List.map_cons,List.map_nil,this]
theorem Og {l:List Rt} {t:Rt} {h:aa} {d a b n i:Nat} (ha:h a=.ar 4 (ax l)) (hb:h b=.ar 4 [bv t]) (hab:a ≠ b) (_hda:2000+8*d ≠ a) (hdb:2000+8*d ≠ b) (hd:h (2000+8*d)=.dead) (hn:n=l.length) (hi:i≤n) (h2:n≤1000000) :
  ai R (ab false) h d [.rsl a none 4 0 n,.v (.int .i64 i),.rsl b none 4 0 1] (.fn F.slices_Insert_api_Term_api_Term_ [] []) =
   some (.rsl (2000+8*d) none 4 0 (l.length+1),upd (upd (upd h b (.fz 4 [bv t])) a .dead) (2000+8*d) (.ar 4 (ax (l.take i++t::l.drop i))),[(a,true),(a,false)]):=by
 have hm:=fR false
 have hs:=fA false
 have hk:=fe false
 have hf:=Se (t:=t) hn hi h2
 have hb':jG (ab false) [.rsl a none 4 0 n,.v (.int .i64 i),.rsl b none 4 0 1] (.fn F.slices_Insert_api_Term_api_Term_ [] [])=false:=by
  simp [jG,hm]
 have h1:ah h [2,0,0] [.rsl a none 4 0 n,.v (.int .i64 i),.rsl b none 4 0 1]=some ([.rsl a none 4 0 n,.v (.int .i64 i),.sl 4 [bv t]],upd h b (.fz 4 [bv t]),[]):=by
  simp [ah,bM,mE,du,ak,ha,hb,M4,jf,je]
 have g1:upd h b (.fz 4 [bv t]) a=.ar 4 (ax l):=by
  unfold upd
  rw [if_neg hab,ha]
 have g2:upd h b (.fz 4 [bv t]) (2000+8*d)=.dead:=by
  unfold upd
  rw [if_neg hdb,hd]
 have hr:bJ (upd h b (.fz 4 [bv t])) 40 [a] 0=[a]:=by
  simp [bJ,g1,uk,bo]
 have hp:bo [] ([AV.rsl a none 4 0 n,.v (.int .i64 i),.sl 4 [bv t]].flatMap bk)=[a]:=by
  simp [bk,cP,bo]
 have h3:aV [a] a=1000:=by simp [aV]
 have hnr:cf (.osl 4 (ax (l.take i++t::l.drop i)))=1:=rfl
 have hlen:(ax (l.take i++t::l.drop i)).length=l.length+1:=by
  rw [fD,List.length_append,List.length_take,List.length_cons,List.length_drop]
  omega
 have hnm:aM [[],[],[.o 5 [.o 2 [],.o 0 [],.o 2 [],.o 0 []]]] [.rsl a none 4 0 n,.v (.int .i64 i),.sl 4 [bv t]]=[.rsl a none 4 0 n,.v (.int .i64 i),.sl 4 [bv t]]:=by
  simp only [aM,L6]
  rfl
 unfold ai
 rw [if_neg (by rw [hb']; exact Bool.false_ne_true)]
 simp only [dq,hm,List.nil_append,List.append_nil,h1,Option.bind_some,hp,hr,hs,hnm]
 simp [jF,aJ,aO,g1,aA,cD,cQ,fV,h3,cC,hf,dZ,hnr,cx,g2,cU,bf,mP,uq,kN,cP,ey,cZ,rh,cz,mat,bU,dC,hk,uo,hm,hlen]
 exact ⟨by unfold bN; rw [if_neg (by omega)],by rw [tl]⟩
theorem Oh {h:aa} {d:Nat} {r:List (List AV)} {i:Int} {b:Bool} (hR:R F.slices_BinarySearchFunc_api_Term_api_Term_Sint_ [.sl 4 [],nrmV [.o 2 []] (.sl 1 r),.fn F.poly_collector_add_1 [] []] []=some (.tup [I i,B b],[])) (h0:h (2000+8*d)=.dead) (h1:h (2000+8*d+1)=.dead) :
  ai R (ab false) h d [.emp,.sl 1 r,.fn F.poly_collector_add_1 [] []] (.fn F.slices_BinarySearchFunc_api_Term_api_Term_Sint_ [] [])=some (.tup [I i,B b],h,[]):=by
 have hm:=cW false
 have hs:=cO false
 have hk:=cG false
 have hb':jG (ab false) [.emp,.sl 1 r,.fn F.poly_collector_add_1 [] []] (.fn F.slices_BinarySearchFunc_api_Term_api_Term_Sint_ [] [])=false:=by
  simp [jG,hm,Aq]
 have h3:ah h [3,0,0] [.emp,.sl 1 r,.fn F.poly_collector_add_1 [] []]=some ([.emp,.sl 1 r,.fn F.poly_collector_add_1 [] []],h,[]):=by
  simp [ah,bM,mE,du,ak]
 have hp:bo [] ([AV.emp,.sl 1 r,.fn F.poly_collector_add_1 [] []].flatMap bk)=[]:=by
  simp [bk,cP,bo]
 have hnm:aM [[.o 5 [.o 2 [],.o 0 [],.o 2 [],.o 0 []]],[.o 2 []],[]] [.emp,.sl 1 r,.fn F.poly_collector_add_1 [] []]=[.sl 4 [],nrmV [.o 2 []] (.sl 1 r),.fn F.poly_collector_add_1 [] []]:=by
  simp only [aM]
  rfl
 obtain ⟨q,hq⟩:∃ q,nrmV [.o 2 []] (.sl 1 r)=.sl 1 q:=⟨_,rfl⟩
 rw [hq] at hR hnm
 have hr:∀ n,bJ h n [] 0=[]:=fun n=>by cases n <;> rfl
 unfold ai
 rw [if_neg (by rw [hb']; exact Bool.false_ne_true)]
 simp only [dq,hm,List.nil_append,List.append_nil,h3,Option.bind_some,hp,hr,hs,hnm]
 simp [jF,aJ,aO,cQ,fV,hR,dZ,cf,cx,h0,h1,cD,cU,mP,uq,kN,ey,cZ,rh,cz,mat,bp,bU,dC,hk,uo,hm]
theorem L7 {t:Rt} {h:aa} {d b:Nat} (hb:h b=.ar 4 [bv t]) (hdb:2000+8*d ≠ b) (hd:h (2000+8*d)=.dead) :
  ai R (ab false) h d [.emp,.v (.int .i64 0),.rsl b none 4 0 1] (.fn F.slices_Insert_api_Term_api_Term_ [] [])=some (.rsl (2000+8*d) none 4 0 1,upd (upd h b (.fz 4 [bv t])) (2000+8*d) (.ar 4 (ax [t])),[]):=by
 have hm:=fR false
 have hs:=fA false
 have hk:=fe false
 have hf:=Qu (t:=t)
 have hb':jG (ab false) [.emp,.v (.int .i64 0),.rsl b none 4 0 1] (.fn F.slices_Insert_api_Term_api_Term_ [] [])=false:=by
  simp [jG,hm]
 have h1:ah h [2,0,0] [.emp,.v (.int .i64 0),.rsl b none 4 0 1]=some ([.emp,.v (.int .i64 0),.sl 4 [bv t]],upd h b (.fz 4 [bv t]),[]):=by
  simp [ah,bM,mE,du,ak,hb,jf,je]
 have g2:upd h b (.fz 4 [bv t]) (2000+8*d)=.dead:=by
  unfold upd
  rw [if_neg hdb,hd]
 have hp:bo [] ([AV.emp,.v (.int .i64 0),.sl 4 [bv t]].flatMap bk)=[]:=by
  simp [bk,cP,bo]
 have hnr:cf (.osl 4 (ax [t]))=1:=rfl
 have hnm:aM [[],[],[.o 5 [.o 2 [],.o 0 [],.o 2 [],.o 0 []]]] [.emp,.v (.int .i64 0),.sl 4 [bv t]]=[.emp,.v (.int .i64 0),.sl 4 [bv t]]:=by
  simp only [aM,L6]
  rfl
 have hr:∀ (h:aa) n,bJ h n [] 0=[]:=fun h n=>by cases n <;> rfl
 have hlen:(ax [t]).length=1:=rfl
 unfold ai
 rw [if_neg (by rw [hb']; exact Bool.false_ne_true)]
 simp only [dq,hm,List.nil_append,List.append_nil,h1,Option.bind_some,hp,hr,hs,hnm]
 simp [jF,aJ,aO,cQ,fV,hf,dZ,hnr,cx,g2,cD,cU,mP,uq,kN,cP,ey,cZ,rh,cz,mat,bU,dC,hk,uo,hm,hlen]
 unfold bN
 rw [if_neg (by omega)]
def ClE (x:List Int):Prop:=R F.slices_Clone_int_int_ [.sl 1 (aY x)] []=some (.osl 1 (aY x),[])∨R F.slices_Clone_int_int_ [.sl 1 (aY x)] []=some (.sl 1 (aY x),[])
theorem L8:∀ {x:List Int},x.length≤100000→ClE x
 | [],_=>.inr Do
 | x::l,h=>.inl (Dp (by simp at h; omega))
theorem Hp {v v':Int} {l:List Rt} {t:Rt} (c:Cl v l) (vt:VT v t) (hl:l.length≤1000000) (hf:xt l t.exps=false) :
  R F.poly_collector_add [.ref 1000 none 0 0 0,.sl 1 (aY t.exps),aF t.c] [t3 v' (.osl 4 (ax l)) 0]=some (.tup [],[t3 v' (.osl 4 (ax (l.take (bd l t.exps)++t::l.drop (bd l t.exps)))) 0]):=by
 refine sv gh gg (dt false) rfl ?_
 have hbs:=KB c vt.sm vt.len hl
 rw [hf] at hbs
 have hcp:=Dn vt.nz (Nat.le_trans (xq vt.vc vt.c.lb) (by decide))
 simp only [aF,aW] at hcp
 have k1:(aY t.exps).take t.exps.length=aY t.exps:=List.take_of_length_le (by rw [tN]; exact Nat.le_refl _)
 have k2:(ax l).take l.length=ax l:=List.take_of_length_le (by rw [fD]; exact Nat.le_refl _)
 have hlen:(l.take (bd l t.exps)++t::l.drop (bd l t.exps)).length=l.length+1:=by
  have:=xW l t.exps
  rw [List.length_append,List.length_take,List.length_cons,List.length_drop]
  omega
 have hp:=xW l t.exps
 simp only [ck,dW,t3,aF,aW,go_sem,↓reduceIte,aee,aeg,aef]
 rw [I6 rfl rfl (fD l).symm ⟨_,rfl⟩]
 rcases L8 vt.ok.len with hcv | hcv
 all_goals
  simp only [go_sem,↓reduceIte,aee,aeg,aef,aeh,aej,aei,hbs,xY,hcv,hcp,Nat.zero_add,Nat.le_refl,k1]
  rw [Og rfl rfl (by decide) (by decide) (by decide) rfl rfl hp hl]
  generalize l.take (bd l t.exps)++t::l.drop (bd l t.exps)=L at hlen ⊢
  simp only [go_sem,↓reduceIte,aee,aeg,aef,aeh,aei]
  rw [if_pos (by rfl),oP rfl (by rw [fD,hlen]) rfl (by decide) (Nat.lt_of_lt_of_le (by decide) (Nat.le_refl 3))]
  simp only [go_sem,↓reduceIte]
  exact tV (.inl rfl) rfl
theorem Oi {v':Int} {v:Int} {t:Rt} (vt:VT v t) :
  R F.poly_collector_add [.ref 1000 none 0 0 0,.sl 1 (aY t.exps),aF t.c] [t3 v' .emp 0]=some (.tup [],[t3 v' (.osl 4 (ax [t])) 0]):=by
 refine sv gh gg (dt false) rfl ?_
 have hbs:=KB (l:=[]) (Cl.nil v) vt.sm vt.len (Nat.zero_le _)
 rw [show bd [] t.exps=0 from rfl,show xt [] t.exps=false from rfl,Int.natCast_zero] at hbs
 have hcp:=Dn vt.nz (Nat.le_trans (xq vt.vc vt.c.lb) (by decide))
 simp only [aF,aW] at hcp
 have k1:(aY t.exps).take t.exps.length=aY t.exps:=List.take_of_length_le (by rw [tN]; exact Nat.le_refl _)
 have k2:nrmV [.o 2 []] (.sl 1 (aY t.exps))=.sl 1 (aY t.exps):=by
  simp only [go_sem]
 have hlen:[t].length=1:=rfl
 simp only [ck,dW,t3,aF,aW,go_sem,↓reduceIte,aee,aeg,aef]
 rw [Oh (by rw [k2]; exact hbs) rfl rfl]
 rcases L8 vt.ok.len with hcv | hcv
 all_goals
  simp only [go_sem,↓reduceIte,aee,aeg,aef,aeh,aej,hcv,hcp,Nat.zero_add,Nat.le_refl,k1]
  rw [L7 rfl (by decide) rfl]
  simp only [go_sem,↓reduceIte,aee,aeg,aef,aeh]
  rw [if_pos (by rfl),oP rfl (show 1=(ax [t]).length from rfl) rfl (by decide) (Nat.lt_of_lt_of_le (by decide) (Nat.le_refl 3))]
  simp only [go_sem,↓reduceIte]
  exact tV (.inl rfl) rfl
end Go.Ab
namespace Go.Ab
open Go Go.IntWalk
set_option maxRecDepth 4000
set_option maxHeartbeats 1000000
theorem xu {d n i:Nat} (h:i≤n):gF d n (some (I i))=some i:=by
 simp only [gF]
 rw [if_pos ⟨by omega,by omega⟩]
 rfl
theorem Sf {h:aa} {j k n:Nat} {rows:List (List AV)} (hj:aG j=false) (hh:h j=.ar k rows) (hn:n=rows.length) (hc:aA [1000] (h 1000)=true):n6 [[]] 1 h [.rsl j none k 0 n]=some (.osl k rows,[h 1000]):=by
 subst hn
 have hp:bS 1=[1000]:=rfl
 unfold n6
 rw [if_pos]
 ·simp [lP,ll,fX,hj,hh,qq,kP,aM,nrmV,nrmL,hp]
 ·simp [hp,hc,fm,bk,cP,hj]
theorem Sg {rows:List (List AV)} {n i:Nat} (hn:n=rows.length) (hi:i < n) (h2:n≤1000000):R F.slices_Delete_api_Term_api_Term_ [.rsl 1000 none 4 0 n,I i,I ((i+1:Nat):Int)] [.ar 4 rows]=some (.osl 4 (rows.take i++rows.drop (i+1)),[.dead]):=by
 refine sv mB mA (fg false) rfl ?_
 subst hn
 have b1:gF rows.length rows.length (some (I rows.length))=some rows.length:=xu (Nat.le_refl _)
 have b2:∀ d,gF d rows.length (some (I ((i+1:Nat):Int)))=some (i+1):=fun d=>xu (by omega)
 have b3:∀ d,gF d (i+1) (some (I i))=some i:=fun d=>xu (by omega)
 have b4:∀ d,gF d rows.length (some (I i))=some i:=fun d=>xu (by omega)
 have e1:((i:Int)=((i+1:Nat):Int))=False:=ff (by omega)
 have s1:dJ 4 (.rsl 1000 none 4 0 rows.length) (some (I i)) (some (I ((i+1:Nat):Int))) (some (I rows.length))=some .any:=by
  simp only [dJ,if_true,hG,b1,b2,b3,Option.bind_some,Option.map_some,Option.isNone_some,if_neg Bool.false_ne_true]
 have s2:dJ 4 (.rsl 1000 none 4 0 rows.length) none (some (I i)) none=some (.rsl 1000 none 4 0 i):=by
  simp only [dJ,if_true,hG,b4,zS,Option.bind_some,Option.map_some,Option.isNone_none,Nat.sub_zero,Nat.add_zero]
 have s3:dJ 4 (.rsl 1000 none 4 0 rows.length) (some (I ((i+1:Nat):Int))) none none=some (.rsl 1000 none 4 (i+1) (rows.length - (i+1))):=by
  simp only [dJ,if_true,hG,b2,zS,Option.bind_some,Option.map_some,Option.isNone_none,Nat.zero_add]
 have t1:(rows.drop (i+1)).take (rows.length - (i+1))=rows.drop (i+1):=List.take_of_length_le (by rw [List.length_drop]; omega)
 have t2:(i+1+(rows.length - (i+1))≤rows.length)=True:=eq_true (by omega)
 obtain ⟨m,hm⟩:∃ m,i+(rows.length - (i+1))=m:=⟨_,rfl⟩
 obtain ⟨D,hD⟩:∃ D,rows.take i++rows.drop (i+1)=D:=⟨_,rfl⟩
 have d1:D.length=m:=by
  rw [← hD,List.length_append,List.length_take,List.length_drop]
  omega
 obtain ⟨A,hA⟩:∃ A,D++rows.drop m=A:=⟨_,rfl⟩
 have a1:A.length=rows.length:=by
  rw [← hA,List.length_append,List.length_drop,d1]
  omega
 have a2:A.take m=D:=by rw [← hA,List.take_append_of_le_length (by omega),List.take_of_length_le (by omega)]
 have e5:∀ h,yL h 26 4 64 1000 4 0 i (rows.drop (i+1)) 4 rows=some (.rsl 1000 none 4 0 m,upd h 1000 (.ar 4 A),[]):=fun h=>by
  unfold yL
  rw [if_pos ⟨rfl,rfl,by rw [List.length_drop]; omega⟩,List.length_drop,Nat.zero_add,hm,hD,hA]
 have e7:(i=rows.length)=False:=eq_false (by omega)
 have b5:hG rows.length (some (I m)) (some (I rows.length)) none=some (m,rows.length):=by
  simp only [hG,b1,Option.bind_some]
  rw [xu (by omega)]
  rfl
 have c1:(m+(rows.length - m)≤rows.length)=True:=eq_true (by omega)
 have c2:∀ z,(D++List.replicate (rows.length - m) z++A.drop (m+(rows.length - m))).take m=D:=fun z=>by
  rw [List.append_assoc,List.take_append_of_le_length (by omega),List.take_of_length_le (by omega)]
 rw [hD]
 simp only [bZ,fO,go_sem,↓reduceIte,aee,aeh,aej,s1,s2,s3,e1,t1,t2,e5,e7,false_and,and_false,a1,a2,b5,c1,c2,Nat.sub_zero,Nat.zero_add,Nat.zero_le,anZ,decide_false]
 exact Sf (by rfl) (by rfl) d1.symm (by rfl)
theorem Oj {l:List Rt} {h:aa} {d a n i:Nat} (ha:h a=.ar 4 (ax l)) (_hda:2000+8*d ≠ a) (hd:h (2000+8*d)=.dead) (hn:n=l.length) (hi:i < n) (h2:n≤1000000) :
  ai R (ab false) h d [.rsl a none 4 0 n,.v (.int .i64 i),.v (.int .i64 ((i+1:Nat):Int))] (.fn F.slices_Delete_api_Term_api_Term_ [] []) =
   some (.rsl (2000+8*d) none 4 0 (l.length - 1),upd (upd h a .dead) (2000+8*d) (.ar 4 (ax (l.take i++l.drop (i+1)))),[(a,true),(a,false)]):=by
 have hm:=mC false
 have hs:=l7 false
 have hk:=fg false
 have hf:=Sg (rows:=ax l) (n:=n) (i:=i) (by rw [fD,hn]) hi h2
 have e1:(ax l).take i++(ax l).drop (i+1)=ax (l.take i++l.drop (i+1)):=by simp [ax,List.map_take,List.map_drop]
 rw [e1] at hf
 have hb':jG (ab false) [.rsl a none 4 0 n,.v (.int .i64 i),.v (.int .i64 ((i+1:Nat):Int))] (.fn F.slices_Delete_api_Term_api_Term_ [] [])=false:=by
  simp [jG,hm]
 have h1:ah h [2,0,0] [.rsl a none 4 0 n,.v (.int .i64 i),.v (.int .i64 ((i+1:Nat):Int))]=some ([.rsl a none 4 0 n,.v (.int .i64 i),.v (.int .i64 ((i+1:Nat):Int))],h,[]):=by
  simp [ah,bM,mE,du,ak,ha,M4]
 have hr:bJ h 40 [a] 0=[a]:=by
  simp [bJ,ha,uk,bo]
 have hp:bo [] ([AV.rsl a none 4 0 n,.v (.int .i64 i),.v (.int .i64 ((i+1:Nat):Int))].flatMap bk)=[a]:=by
  simp [bk,cP,bo]
 have h3:aV [a] a=1000:=by simp [aV]
 have hnr:cf (.osl 4 (ax (l.take i++l.drop (i+1))))=1:=rfl
 have hlen:(ax (l.take i++l.drop (i+1))).length=l.length - 1:=by
  rw [fD,List.length_append,List.length_take,List.length_drop]
  omega
 unfold ai
 rw [if_neg (by rw [hb']; exact Bool.false_ne_true)]
 simp only [dq,hm,List.nil_append,List.append_nil,h1,Option.bind_some,hp,hr,hs]
 simp only [Int.natCast_add,Int.natCast_one] at hf
 simp [jF,aM,aJ,aO,ha,aA,cD,cQ,fV,h3,cC,hf,dZ,hnr,cx,hd,cU,bf,mP,uq,kN,cP,ey,cZ,rh,cz,mat,bU,dC,hk,uo,hm,hlen]
 exact ⟨by unfold bN; rw [if_neg (by omega)],by rw [tl]⟩
theorem Qv (h:aa) (i:Nat) (xs:List AV) (a b:AV) (r:List (List AV)):xF h 3 1000 1 4 i 1 xs [] (.bx [a,.osl 4 r,b])=(wk 3 4 i 1 xs 4 r).map fun q=>(.und,upd h 1000 (.bx [a,.osl 4 q,b]),[]):=rfl
theorem xv (a b:AV) (k:Nat) (r:List (List AV)):gx 1 (.bx [a,.osl k r,b])=some (k,r):=rfl
theorem CB (h:aa) (n:Nat) (g:Bool) (i j:Nat) (r:List (List AV)):jE h n g 4 i j (some (4,r))=(r[i]?).bind fun row=>(ik n g row j).map fun a=>(a,h,[]):=rfl
theorem Ol {v v':Int} {l:List Rt} {t q:Rt} (c:Cl v l) (vt:VT v t) (hl:l.length≤1000000) (hq:l[bd l t.exps]?=some q) (ho:bt q.exps t.exps=0) :
  R F.poly_collector_add [.ref 1000 none 0 0 0,.sl 1 (aY t.exps),aF t.c] [t3 v' (.osl 4 (ax l)) 0]=some (.tup [],[if (iN q.c t.c).2=0 then (if (iN q.c t.c).1.m.length=0 then t3 v' (.osl 4 (ax (l.take (bd l t.exps)++l.drop (bd l t.exps+1)))) 0 else t3 v' (.osl 4 (ax (l.set (bd l t.exps) ⟨q.exps,(iN q.c t.c).1⟩))) 0) else t3 v' (.osl 4 (ax l)) 9]):=by
 refine sv gh gg (dt false) rfl ?_
 have hbs:=KB c vt.sm vt.len hl
 have hf:xt l t.exps=true:=by
  unfold xt
  rw [hq]
  exact decide_eq_true ho
 rw [hf] at hbs
 have vq:=c.t q (List.mem_of_getElem? hq)
 have hadd:=Qr vq.c vt.c
 have hlt:=(List.getElem?_eq_some_iff.1 hq).1
 have hrow:(ax l)[bd l t.exps]?=some (bv q):=by simp [ax,hq]
 have hi0:(0≤(bd l t.exps:Int)∧(bd l t.exps:Int) < (l.length:Int))=True:=eq_true ⟨by omega,by omega⟩
 have hw:IntKind.i64.wrap ((bd l t.exps:Int)+1)=((bd l t.exps+1:Nat):Int):=wi (by omega) (by omega)
 generalize iN q.c t.c=r at hadd ⊢
 obtain ⟨s,e⟩:=r
 simp only [rV,aF,aW] at hadd
 simp only [bv] at hrow
 simp only [ck,dW,t3,aF,aW,go_sem,↓reduceIte,aee,aeg,aef]
 rw [I6 rfl rfl (fD l).symm ⟨_,rfl⟩]
 by_cases he:e=0
 ·subst he
  by_cases hs:s.m.length=0
  ·have e1:((s.m.length:Int)=0)=True:=tt (by omega)
   have hlen:(l.take (bd l t.exps)++l.drop (bd l t.exps+1)).length=l.length - 1:=by
    rw [List.length_append,List.length_take,List.length_drop]
    omega
   simp only [go_sem,↓reduceIte,aee,aeg,aef,aeh,aej,aei,hbs,xY,hi0,hrow,hadd,hs,Int.toNat_natCast,Int.natCast_zero,Nat.zero_add,xv,CB,hw]
   rw [Oj rfl (by decide) rfl rfl hlt hl]
   generalize l.take (bd l t.exps)++l.drop (bd l t.exps+1)=L at hlen ⊢
   simp only [go_sem,↓reduceIte,aee,aeg,aef,aeh,aei]
   rw [oP rfl (by rw [fD,hlen]) rfl (by decide) (Nat.lt_of_lt_of_le (by decide) (Nat.le_refl 3))]
   simp only [go_sem,↓reduceIte]
   exact tV (.inl rfl) rfl
  ·have e1:((s.m.length:Int)=0)=False:=ff (by omega)
   have hset:(ax l).set (bd l t.exps) [.sl 1 (aY q.exps),B s.neg,lm s.m,I s.e]=ax (l.set (bd l t.exps) ⟨q.exps,s⟩):=by
    unfold ax
    rw [List.map_set]
    rfl
   simp only [go_sem,↓reduceIte,aee,aeg,aef,aeh,aej,aei,hbs,xY,hi0,hrow,hadd,hs,e1,Int.toNat_natCast,Nat.zero_add,xv,CB,hw,Qv,hset]
   exact tV (.inl rfl) rfl
 ·have e1:(e=0)=False:=ff he
  simp only [go_sem,↓reduceIte,aee,aeg,aef,aeh,aej,aei,hbs,xY,hi0,hrow,hadd,e1,Int.toNat_natCast,Nat.zero_add,xv,CB,hw]
  exact tV (.inl rfl) rfl
theorem I7 {v v':Int} {l:List Rt} {t:Rt} {cell:AV} (c:Cl v l) (vt:VT v t) (hl:l.length≤1000000) (hc:mp cell l) :
  ∃ cell' l' e',R F.poly_collector_add [.ref 1000 none 0 0 0,.sl 1 (aY t.exps),aF t.c] [t3 v' cell 0]=some (.tup [],[t3 v' cell' e'])∧mp cell' l'∧((e'=0∧nw l t=some l')∨(e'=9∧nw l t=none∧l'=l)):=by
 rcases hc with rfl | ⟨rfl,rfl⟩
 ·rw [I4]
  cases hq:l[bd l t.exps]? with
  | none =>
   exact ⟨_,_,_,Hp c vt hl (by unfold xt; rw [hq]),.inl rfl,.inl ⟨rfl,rfl⟩⟩
  | some q =>
   by_cases ho:bt q.exps t.exps=0
   ·have h1:=Ol (v':=v') c vt hl hq ho
    simp only [if_pos ho]
    by_cases he:(iN q.c t.c).2=0
    ·rw [if_pos he] at h1 ⊢
     by_cases hs:(iN q.c t.c).1.m.length=0
     ·rw [if_pos hs] at h1 ⊢
      exact ⟨_,_,_,h1,.inl rfl,.inl ⟨rfl,rfl⟩⟩
     ·rw [if_neg hs] at h1 ⊢
      exact ⟨_,_,_,h1,.inl rfl,.inl ⟨rfl,rfl⟩⟩
    ·rw [if_neg he] at h1 ⊢
     exact ⟨_,_,_,h1,.inl rfl,.inr ⟨rfl,rfl,rfl⟩⟩
   ·simp only [if_neg ho]
    exact ⟨_,_,_,Hp c vt hl (by unfold xt; rw [hq]; exact decide_eq_false ho),.inl rfl,.inl ⟨rfl,rfl⟩⟩
 ·exact ⟨_,_,_,Oi vt,.inl rfl,.inl ⟨rfl,rfl⟩⟩
end Go.Ab
namespace Go.Ab
open Go Go.IntWalk
end Go.Ab
