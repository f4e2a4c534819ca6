/-
  PolySums holds at every input that the statement speaks of, under the conditions that its card names. Part E1.
-/
import Derived.KernelRfl
import Derived.IntWalk
import Derived.Test.YtaffadijdjgmdaaGreatDoorD1
open Nat renaming reduceEqDiff → adx, reduceAdd → ady, reduceMul → adz, reduceLeDiff → adA, reduceLT → adB, reduceBEq → adC, reduceSub → adE, reduceMod → adI
open Int renaming reduceLT → adD, reduceToNat → adF, reduceEq → adG, reduceLE → adH
namespace Go.Ab
open Go
def am:Env:=⟨fun f=>QA.lookup f,fun f=>NH.lookup f,⟨fun f=>(mdL.lookup f).getD [],fun f=>(shL.lookup f).getD [],fun f=>keepL.contains f,false⟩⟩
def ab (b:Bool):Mode:={ am.md with nm:=b }
noncomputable def R:cI:=dc am
theorem J9 {f:FuncId} {fd:FD} {args:List AV} {hs:List Ob} {r:AV × List Ob} (b:Bool) (hE:am.E f=none) (hC:am.C f=some fd) (hk:am.md.keep f=b) (h1:args.length=fd.np) (h2:hs.length≤1000)
  (hz:oT b fd.rs fd.res hs.length (au R (ab b) fd.body (oU args) (ae hs))=some r):R f args hs=some r:=by
 refine uF hE hC ?_
 unfold DS
 rw [if_pos ⟨h1,h2⟩]
 subst hk
 exact hz
@[go_sem] theorem acK (b:Bool):(ab b).nm=b:=_root_.id rfl
theorem zM:am.C F.l23_PolySums=some gO:=by kernel_rfl
theorem zN:am.E F.l23_PolySums=none:=by kernel_rfl
@[go_sem] theorem NJ (b):(ab b).sh F.l23_PolySums=[[.o 0 [],.o 5 [.o 2 [],.o 0 [],.o 2 [],.o 0 []]],[.o 0 [],.o 5 [.o 2 [],.o 0 [],.o 2 [],.o 0 []]]]:=_root_.id (by kernel_rfl)
@[go_sem] theorem zO (b):(ab b).m F.l23_PolySums=[]:=_root_.id (by kernel_rfl)
@[go_sem] theorem Lu (b h d zas):aj R (ab b) h d zas (.fn F.l23_PolySums [] [])=(ag h [] zas).bind (aA R (ab b) d F.l23_PolySums):=ah d (zO b)
@[go_sem] theorem vV (b):(ab b).keep F.l23_PolySums=false:=_root_.id (by kernel_rfl)
@[go_sem] theorem QB (b):(ab b).sh F.l23_awake=[]:=_root_.id (by kernel_rfl)
@[go_sem] theorem Gb (b):(ab b).m F.l23_awake=[]:=_root_.id (by kernel_rfl)
@[go_sem] theorem Ou (b h d zas):aj R (ab b) h d zas (.fn F.l23_awake [] [])=(ag h [] zas).bind (aA R (ab b) d F.l23_awake):=ah d (Gb b)
@[go_sem] theorem Ov (b):(ab b).keep F.l23_awake=false:=_root_.id (by kernel_rfl)
theorem Gc:am.C F.l23_great=some mP:=by kernel_rfl
theorem Gd:am.E F.l23_great=none:=by kernel_rfl
@[go_sem] theorem QC (b):(ab b).sh F.l23_great=[[.o 3 [.o 0 [],.o 5 [.o 2 [],.o 0 [],.o 0 [],.o 0 []]]]]:=_root_.id (by kernel_rfl)
@[go_sem] theorem Ge (b):(ab b).m F.l23_great=[]:=_root_.id (by kernel_rfl)
@[go_sem] theorem Ow (b h d zas):aj R (ab b) h d zas (.fn F.l23_great [] [])=(ag h [] zas).bind (aA R (ab b) d F.l23_great):=ah d (Ge b)
@[go_sem] theorem zP (b):(ab b).keep F.l23_great=false:=_root_.id (by kernel_rfl)
theorem Iv:am.C F.poly_Add=some lD:=by kernel_rfl
theorem Iw:am.E F.poly_Add=none:=by kernel_rfl
@[go_sem] theorem Tf (b):(ab b).sh F.poly_Add=[[.o 0 [],.o 5 [.o 2 [],.o 0 [],.o 2 [],.o 0 []]],[.o 0 [],.o 5 [.o 2 [],.o 0 [],.o 2 [],.o 0 []]]]:=_root_.id (by kernel_rfl)
@[go_sem] theorem Ix (b):(ab b).m F.poly_Add=[]:=_root_.id (by kernel_rfl)
@[go_sem] theorem PI (b h d zas):aj R (ab b) h d zas (.fn F.poly_Add [] [])=(ag h [] zas).bind (aA R (ab b) d F.poly_Add):=ah d (Ix b)
@[go_sem] theorem BF (b):(ab b).keep F.poly_Add=false:=_root_.id (by kernel_rfl)
theorem Ka:am.C F.r23_Add=some iU:=by kernel_rfl
theorem Kb:am.E F.r23_Add=none:=by kernel_rfl
@[go_sem] theorem Ul (b):(ab b).sh F.r23_Add=[[.o 0 [],.o 5 [.o 2 [],.o 0 [],.o 2 [],.o 0 []]],[.o 0 [],.o 5 [.o 2 [],.o 0 [],.o 2 [],.o 0 []]],[]]:=_root_.id (by kernel_rfl)
@[go_sem] theorem Kc (b):(ab b).m F.r23_Add=[]:=_root_.id (by kernel_rfl)
@[go_sem] theorem QD (b h d zas):aj R (ab b) h d zas (.fn F.r23_Add [] [])=(ag h [] zas).bind (aA R (ab b) d F.r23_Add):=ah d (Kc b)
@[go_sem] theorem D7 (b):(ab b).keep F.r23_Add=false:=_root_.id (by kernel_rfl)
theorem Iy:am.C F.poly_Sub=some lE:=by kernel_rfl
theorem Iz:am.E F.poly_Sub=none:=by kernel_rfl
@[go_sem] theorem Tg (b):(ab b).sh F.poly_Sub=[[.o 0 [],.o 5 [.o 2 [],.o 0 [],.o 2 [],.o 0 []]],[.o 0 [],.o 5 [.o 2 [],.o 0 [],.o 2 [],.o 0 []]]]:=_root_.id (by kernel_rfl)
@[go_sem] theorem IA (b):(ab b).m F.poly_Sub=[]:=_root_.id (by kernel_rfl)
@[go_sem] theorem PJ (b h d zas):aj R (ab b) h d zas (.fn F.poly_Sub [] [])=(ag h [] zas).bind (aA R (ab b) d F.poly_Sub):=ah d (IA b)
@[go_sem] theorem BG (b):(ab b).keep F.poly_Sub=false:=_root_.id (by kernel_rfl)
theorem Mk:am.C F.l23_is=some oE:=by kernel_rfl
theorem Ml:am.E F.l23_is=none:=by kernel_rfl
@[go_sem] theorem W7 (b):(ab b).sh F.l23_is=[[.o 0 [],.o 5 [.o 2 [],.o 0 [],.o 2 [],.o 0 []]],[],[.o 0 [],.o 5 [.o 2 [],.o 0 [],.o 2 [],.o 0 []]],[]]:=_root_.id (by kernel_rfl)
@[go_sem] theorem Mm (b):(ab b).m F.l23_is=[]:=_root_.id (by kernel_rfl)
@[go_sem] theorem Th (b h d zas):aj R (ab b) h d zas (.fn F.l23_is [] [])=(ag h [] zas).bind (aA R (ab b) d F.l23_is):=ah d (Mm b)
@[go_sem] theorem Gf (b):(ab b).keep F.l23_is=false:=_root_.id (by kernel_rfl)
theorem Gg:am.C F.r23_Valid=some eJ:=by kernel_rfl
theorem Gh:am.E F.r23_Valid=none:=by kernel_rfl
@[go_sem] theorem QE (b):(ab b).sh F.r23_Valid=[[.o 0 [],.o 5 [.o 2 [],.o 0 [],.o 2 [],.o 0 []]]]:=_root_.id (by kernel_rfl)
@[go_sem] theorem Gi (b):(ab b).m F.r23_Valid=[]:=_root_.id (by kernel_rfl)
@[go_sem] theorem Ox (b h d zas):aj R (ab b) h d zas (.fn F.r23_Valid [] [])=(ag h [] zas).bind (aA R (ab b) d F.r23_Valid):=ah d (Gi b)
@[go_sem] theorem zQ (b):(ab b).keep F.r23_Valid=false:=_root_.id (by kernel_rfl)
theorem D8:am.C F.poly_Valid=some dR:=by kernel_rfl
theorem D9:am.E F.poly_Valid=none:=by kernel_rfl
@[go_sem] theorem PK (b):(ab b).sh F.poly_Valid=[[.o 0 [],.o 5 [.o 2 [],.o 0 [],.o 2 [],.o 0 []]]]:=_root_.id (by kernel_rfl)
@[go_sem] theorem Ea (b):(ab b).m F.poly_Valid=[]:=_root_.id (by kernel_rfl)
@[go_sem] theorem NK (b h d zas):aj R (ab b) h d zas (.fn F.poly_Valid [] [])=(ag h [] zas).bind (aA R (ab b) d F.poly_Valid):=ah d (Ea b)
@[go_sem] theorem yH (b):(ab b).keep F.poly_Valid=false:=_root_.id (by kernel_rfl)
theorem IB:am.C F.r23_Same=some jx:=by kernel_rfl
theorem IC:am.E F.r23_Same=none:=by kernel_rfl
@[go_sem] theorem Ti (b):(ab b).sh F.r23_Same=[[.o 0 [],.o 5 [.o 2 [],.o 0 [],.o 2 [],.o 0 []]],[.o 0 [],.o 5 [.o 2 [],.o 0 [],.o 2 [],.o 0 []]]]:=_root_.id (by kernel_rfl)
@[go_sem] theorem ID (b):(ab b).m F.r23_Same=[]:=_root_.id (by kernel_rfl)
@[go_sem] theorem PL (b h d zas):aj R (ab b) h d zas (.fn F.r23_Same [] [])=(ag h [] zas).bind (aA R (ab b) d F.r23_Same):=ah d (ID b)
@[go_sem] theorem BH (b):(ab b).keep F.r23_Same=false:=_root_.id (by kernel_rfl)
theorem i7:am.C F.slices_ContainsFunc_api_Poly_api_Poly_=some bZ:=by kernel_rfl
theorem i8:am.E F.slices_ContainsFunc_api_Poly_api_Poly_=none:=by kernel_rfl
@[go_sem] theorem r4 (b):(ab b).sh F.slices_ContainsFunc_api_Poly_api_Poly_=[[.o 3 [.o 0 [],.o 5 [.o 2 [],.o 0 [],.o 0 [],.o 0 []]]],[]]:=_root_.id (by kernel_rfl)
@[go_sem] theorem i9 (b):(ab b).m F.slices_ContainsFunc_api_Poly_api_Poly_=[]:=_root_.id (by kernel_rfl)
@[go_sem] theorem rh (b h d zas):aj R (ab b) h d zas (.fn F.slices_ContainsFunc_api_Poly_api_Poly_ [] [])=(ag h [] zas).bind (aA R (ab b) d F.slices_ContainsFunc_api_Poly_api_Poly_):=ah d (i9 b)
@[go_sem] theorem ib (b):(ab b).keep F.slices_ContainsFunc_api_Poly_api_Poly_=false:=_root_.id (by kernel_rfl)
theorem BI:am.C F.l23_great_1=some fN:=by kernel_rfl
theorem BJ:am.E F.l23_great_1=none:=by kernel_rfl
@[go_sem] theorem Oy (b):(ab b).sh F.l23_great_1=[[.o 0 [],.o 5 [.o 2 [],.o 0 [],.o 2 [],.o 0 []]]]:=_root_.id (by kernel_rfl)
@[go_sem] theorem tq (b):(ab b).m F.l23_great_1=[]:=_root_.id (by kernel_rfl)
@[go_sem] theorem Mn (b h d zas):aj R (ab b) h d zas (.fn F.l23_great_1 [] [])=(ag h [] zas).bind (aA R (ab b) d F.l23_great_1):=ah d (tq b)
@[go_sem] theorem wZ (b):(ab b).keep F.l23_great_1=false:=_root_.id (by kernel_rfl)
theorem ja:am.C F.slices_ContainsFunc_api_Term_api_Term_=some b7:=by kernel_rfl
theorem jc:am.E F.slices_ContainsFunc_api_Term_api_Term_=none:=by kernel_rfl
@[go_sem] theorem r5 (b):(ab b).sh F.slices_ContainsFunc_api_Term_api_Term_=[[.o 5 [.o 2 [],.o 0 [],.o 2 [],.o 0 []]],[]]:=_root_.id (by kernel_rfl)
@[go_sem] theorem jd (b):(ab b).m F.slices_ContainsFunc_api_Term_api_Term_=[]:=_root_.id (by kernel_rfl)
@[go_sem] theorem ri (b h d zas):aj R (ab b) h d zas (.fn F.slices_ContainsFunc_api_Term_api_Term_ [] [])=(ag h [] zas).bind (aA R (ab b) d F.slices_ContainsFunc_api_Term_api_Term_):=ah d (jd b)
@[go_sem] theorem ic (b):(ab b).keep F.slices_ContainsFunc_api_Term_api_Term_=false:=_root_.id (by kernel_rfl)
theorem yI:am.C F.l23_great_1_1=some fZ:=by kernel_rfl
theorem yJ:am.E F.l23_great_1_1=none:=by kernel_rfl
@[go_sem] theorem Mo (b):(ab b).sh F.l23_great_1_1=[[.o 2 [],.o 0 [],.o 2 [],.o 0 []]]:=_root_.id (by kernel_rfl)
@[go_sem] theorem qC (b):(ab b).m F.l23_great_1_1=[]:=_root_.id (by kernel_rfl)
@[go_sem] theorem Kd (b h d zas):aj R (ab b) h d zas (.fn F.l23_great_1_1 [] [])=(ag h [] zas).bind (aA R (ab b) d F.l23_great_1_1):=ah d (qC b)
@[go_sem] theorem uT (b):(ab b).keep F.l23_great_1_1=false:=_root_.id (by kernel_rfl)
theorem Gj:am.C F.poly_pair=some iu:=by kernel_rfl
theorem Gk:am.E F.poly_pair=none:=by kernel_rfl
@[go_sem] theorem QF (b):(ab b).sh F.poly_pair=[[.o 0 [],.o 5 [.o 2 [],.o 0 [],.o 2 [],.o 0 []]],[.o 0 [],.o 5 [.o 2 [],.o 0 [],.o 2 [],.o 0 []]]]:=_root_.id (by kernel_rfl)
@[go_sem] theorem Gl (b):(ab b).m F.poly_pair=[]:=_root_.id (by kernel_rfl)
@[go_sem] theorem Oz (b h d zas):aj R (ab b) h d zas (.fn F.poly_pair [] [])=(ag h [] zas).bind (aA R (ab b) d F.poly_pair):=ah d (Gl b)
@[go_sem] theorem zR (b):(ab b).keep F.poly_pair=false:=_root_.id (by kernel_rfl)
theorem Eb:am.C F.poly_empty=some lP:=by kernel_rfl
theorem Ec:am.E F.poly_empty=none:=by kernel_rfl
@[go_sem] theorem PM (b):(ab b).sh F.poly_empty=[]:=_root_.id (by kernel_rfl)
@[go_sem] theorem Ed (b):(ab b).m F.poly_empty=[]:=_root_.id (by kernel_rfl)
@[go_sem] theorem NL (b h d zas):aj R (ab b) h d zas (.fn F.poly_empty [] [])=(ag h [] zas).bind (aA R (ab b) d F.poly_empty):=ah d (Ed b)
@[go_sem] theorem yK (b):(ab b).keep F.poly_empty=false:=_root_.id (by kernel_rfl)
theorem lp:am.C F.slices_Concat_api_Term_api_Term_=some bN:=by kernel_rfl
theorem lq:am.E F.slices_Concat_api_Term_api_Term_=none:=by kernel_rfl
@[go_sem] theorem vH (b):(ab b).sh F.slices_Concat_api_Term_api_Term_=[[.o 2 [.o 5 [.o 2 [],.o 0 [],.o 2 [],.o 0 []]]]]:=_root_.id (by kernel_rfl)
@[go_sem] theorem lr (b):(ab b).m F.slices_Concat_api_Term_api_Term_=[]:=_root_.id (by kernel_rfl)
@[go_sem] theorem tL (b h d zas):aj R (ab b) h d zas (.fn F.slices_Concat_api_Term_api_Term_ [] [])=(ag h [] zas).bind (aA R (ab b) d F.slices_Concat_api_Term_api_Term_):=ah d (lr b)
@[go_sem] theorem j4 (b):(ab b).keep F.slices_Concat_api_Term_api_Term_=false:=_root_.id (by kernel_rfl)
theorem fE:am.C F.poly_collector_add=some bT:=by kernel_rfl
theorem fF:am.E F.poly_collector_add=none:=by kernel_rfl
@[go_sem] theorem rG (b):(ab b).sh F.poly_collector_add=[[],[.o 2 []],[.o 0 [],.o 2 [],.o 0 []]]:=_root_.id (by kernel_rfl)
@[go_sem] theorem je (b):(ab b).m F.poly_collector_add=[]:=_root_.id (by kernel_rfl)
@[go_sem] theorem FL (b h d zas):aj R (ab b) h d zas (.fn F.poly_collector_add [] [])=(ag h [] zas).bind (aA R (ab b) d F.poly_collector_add):=ah d (je b)
@[go_sem] theorem cZ (b):(ab b).keep F.poly_collector_add=false:=_root_.id (by kernel_rfl)
theorem iC:am.C F.poly_collector_done=some bM:=by kernel_rfl
theorem iD:am.E F.poly_collector_done=none:=by kernel_rfl
@[go_sem] theorem qX (b):(ab b).sh F.poly_collector_done=[]:=_root_.id (by kernel_rfl)
@[go_sem] theorem iE (b):(ab b).m F.poly_collector_done=[]:=_root_.id (by kernel_rfl)
@[go_sem] theorem Ee (b h d zas):aj R (ab b) h d zas (.fn F.poly_collector_done [] [])=(ag h [] zas).bind (aA R (ab b) d F.poly_collector_done):=ah d (iE b)
@[go_sem] theorem dP (b):(ab b).keep F.poly_collector_done=false:=_root_.id (by kernel_rfl)
theorem Ke:am.C F.r02_Neg=some mR:=by kernel_rfl
theorem Kf:am.E F.r02_Neg=none:=by kernel_rfl
@[go_sem] theorem Um (b):(ab b).sh F.r02_Neg=[[.o 0 [],.o 2 [],.o 0 []]]:=_root_.id (by kernel_rfl)
@[go_sem] theorem Kg (b):(ab b).m F.r02_Neg=[]:=_root_.id (by kernel_rfl)
@[go_sem] theorem QG (b h d zas):aj R (ab b) h d zas (.fn F.r02_Neg [] [])=(ag h [] zas).bind (aA R (ab b) d F.r02_Neg):=ah d (Kg b)
@[go_sem] theorem Ef (b):(ab b).keep F.r02_Neg=false:=_root_.id (by kernel_rfl)
theorem BK:am.C F.r23_Collect=some kI:=by kernel_rfl
theorem BL:am.E F.r23_Collect=none:=by kernel_rfl
@[go_sem] theorem OA (b):(ab b).sh F.r23_Collect=[[.o 5 [.o 2 [],.o 0 [],.o 2 [],.o 0 []]],[.o 2 [],.o 0 [],.o 2 [],.o 0 []]]:=_root_.id (by kernel_rfl)
@[go_sem] theorem BM (b):(ab b).m F.r23_Collect=[]:=_root_.id (by kernel_rfl)
@[go_sem] theorem Mp (b h d zas):aj R (ab b) h d zas (.fn F.r23_Collect [] [])=(ag h [] zas).bind (aA R (ab b) d F.r23_Collect):=ah d (BM b)
@[go_sem] theorem w6 (b):(ab b).keep F.r23_Collect=false:=_root_.id (by kernel_rfl)
theorem Eg:am.C F.r23_finish=some jp:=by kernel_rfl
theorem Eh:am.E F.r23_finish=none:=by kernel_rfl
@[go_sem] theorem PN (b):(ab b).sh F.r23_finish=[[],[.o 5 [.o 2 [],.o 0 [],.o 2 [],.o 0 []]]]:=_root_.id (by kernel_rfl)
@[go_sem] theorem Ei (b):(ab b).m F.r23_finish=[]:=_root_.id (by kernel_rfl)
@[go_sem] theorem NM (b h d zas):aj R (ab b) h d zas (.fn F.r23_finish [] [])=(ag h [] zas).bind (aA R (ab b) d F.r23_finish):=ah d (Ei b)
@[go_sem] theorem yL (b):(ab b).keep F.r23_finish=false:=_root_.id (by kernel_rfl)
theorem Ej:am.C F.dyadic_Neg=some gC:=by kernel_rfl
theorem Ek:am.E F.dyadic_Neg=none:=by kernel_rfl
@[go_sem] theorem PO (b):(ab b).sh F.dyadic_Neg=[[.o 0 [],.o 2 [],.o 0 []]]:=_root_.id (by kernel_rfl)
@[go_sem] theorem El (b):(ab b).m F.dyadic_Neg=[]:=_root_.id (by kernel_rfl)
@[go_sem] theorem NN (b h d zas):aj R (ab b) h d zas (.fn F.dyadic_Neg [] [])=(ag h [] zas).bind (aA R (ab b) d F.dyadic_Neg):=ah d (El b)
@[go_sem] theorem yM (b):(ab b).keep F.dyadic_Neg=false:=_root_.id (by kernel_rfl)
theorem IE:am.C F.l23_zero=some jy:=by kernel_rfl
theorem IF:am.E F.l23_zero=none:=by kernel_rfl
@[go_sem] theorem Tj (b):(ab b).sh F.l23_zero=[[.o 0 [],.o 5 [.o 2 [],.o 0 [],.o 2 [],.o 0 []]]]:=_root_.id (by kernel_rfl)
@[go_sem] theorem IG (b):(ab b).m F.l23_zero=[]:=_root_.id (by kernel_rfl)
@[go_sem] theorem PP (b h d zas):aj R (ab b) h d zas (.fn F.l23_zero [] [])=(ag h [] zas).bind (aA R (ab b) d F.l23_zero):=ah d (IG b)
@[go_sem] theorem BN (b):(ab b).keep F.l23_zero=false:=_root_.id (by kernel_rfl)
@[go_sem] theorem Em (b):(ab b).sh F.slices_Clone_int_int_=[[.o 2 []]]:=_root_.id (by kernel_rfl)
@[go_sem] theorem qn (b):(ab b).m F.slices_Clone_int_int_=[]:=_root_.id (by kernel_rfl)
@[go_sem] theorem BO (b h d zas):aj R (ab b) h d zas (.fn F.slices_Clone_int_int_ [] [])=(ag h [] zas).bind (aA R (ab b) d F.slices_Clone_int_int_):=ah d (qn b)
@[go_sem] theorem BP (b):(ab b).keep F.slices_Clone_int_int_=false:=_root_.id (by kernel_rfl)
theorem zS:am.C F.dyadic_Valid=some cE:=by kernel_rfl
theorem zT:am.E F.dyadic_Valid=none:=by kernel_rfl
@[go_sem] theorem NO (b):(ab b).sh F.dyadic_Valid=[[.o 0 [],.o 2 [],.o 0 []]]:=_root_.id (by kernel_rfl)
@[go_sem] theorem zU (b):(ab b).m F.dyadic_Valid=[]:=_root_.id (by kernel_rfl)
@[go_sem] theorem Lv (b h d zas):aj R (ab b) h d zas (.fn F.dyadic_Valid [] [])=(ag h [] zas).bind (aA R (ab b) d F.dyadic_Valid):=ah d (zU b)
@[go_sem] theorem vW (b):(ab b).keep F.dyadic_Valid=false:=_root_.id (by kernel_rfl)
theorem Gm:am.C F.r02_Valid=some ce:=by kernel_rfl
theorem Gn:am.E F.r02_Valid=none:=by kernel_rfl
@[go_sem] theorem QH (b):(ab b).sh F.r02_Valid=[[.o 0 [],.o 2 [],.o 0 []]]:=_root_.id (by kernel_rfl)
@[go_sem] theorem Gp (b):(ab b).m F.r02_Valid=[]:=_root_.id (by kernel_rfl)
@[go_sem] theorem OB (b h d zas):aj R (ab b) h d zas (.fn F.r02_Valid [] [])=(ag h [] zas).bind (aA R (ab b) d F.r02_Valid):=ah d (Gp b)
@[go_sem] theorem zV (b):(ab b).keep F.r02_Valid=false:=_root_.id (by kernel_rfl)
theorem En:am.C F.dyadic_Add=some gD:=by kernel_rfl
theorem Eo:am.E F.dyadic_Add=none:=by kernel_rfl
@[go_sem] theorem PQ (b):(ab b).sh F.dyadic_Add=[[.o 0 [],.o 2 [],.o 0 []],[.o 0 [],.o 2 [],.o 0 []]]:=_root_.id (by kernel_rfl)
@[go_sem] theorem Ep (b):(ab b).m F.dyadic_Add=[]:=_root_.id (by kernel_rfl)
@[go_sem] theorem NP (b h d zas):aj R (ab b) h d zas (.fn F.dyadic_Add [] [])=(ag h [] zas).bind (aA R (ab b) d F.dyadic_Add):=ah d (Ep b)
@[go_sem] theorem yN (b):(ab b).keep F.dyadic_Add=false:=_root_.id (by kernel_rfl)
theorem Kh:am.C F.r02_Add=some kJ:=by kernel_rfl
theorem Ki:am.E F.r02_Add=none:=by kernel_rfl
@[go_sem] theorem Un (b):(ab b).sh F.r02_Add=[[.o 0 [],.o 2 [],.o 0 []],[.o 0 [],.o 2 [],.o 0 []]]:=_root_.id (by kernel_rfl)
@[go_sem] theorem Kj (b):(ab b).m F.r02_Add=[]:=_root_.id (by kernel_rfl)
@[go_sem] theorem QI (b h d zas):aj R (ab b) h d zas (.fn F.r02_Add [] [])=(ag h [] zas).bind (aA R (ab b) d F.r02_Add):=ah d (Kj b)
@[go_sem] theorem Er (b):(ab b).keep F.r02_Add=false:=_root_.id (by kernel_rfl)
theorem IH:am.C F.r23_term=some fI:=by kernel_rfl
theorem II:am.E F.r23_term=none:=by kernel_rfl
@[go_sem] theorem Tk (b):(ab b).sh F.r23_term=[[],[.o 2 [],.o 0 [],.o 2 [],.o 0 []]]:=_root_.id (by kernel_rfl)
@[go_sem] theorem IJ (b):(ab b).m F.r23_term=[]:=_root_.id (by kernel_rfl)
@[go_sem] theorem PR (b h d zas):aj R (ab b) h d zas (.fn F.r23_term [] [])=(ag h [] zas).bind (aA R (ab b) d F.r23_term):=ah d (IJ b)
@[go_sem] theorem BQ (b):(ab b).keep F.r23_term=false:=_root_.id (by kernel_rfl)
theorem BR:am.C F.r23_Compare=some eg:=by kernel_rfl
theorem BS:am.E F.r23_Compare=none:=by kernel_rfl
@[go_sem] theorem OD (b):(ab b).sh F.r23_Compare=[[.o 2 []],[.o 2 []]]:=_root_.id (by kernel_rfl)
@[go_sem] theorem BT (b):(ab b).m F.r23_Compare=[]:=_root_.id (by kernel_rfl)
@[go_sem] theorem Mq (b h d zas):aj R (ab b) h d zas (.fn F.r23_Compare [] [])=(ag h [] zas).bind (aA R (ab b) d F.r23_Compare):=ah d (BT b)
@[go_sem] theorem w7 (b):(ab b).keep F.r23_Compare=false:=_root_.id (by kernel_rfl)
theorem m8:am.C F.slices_ContainsFunc_int_int_=some dE:=by kernel_rfl
theorem m9:am.E F.slices_ContainsFunc_int_int_=none:=by kernel_rfl
@[go_sem] theorem xX (b):(ab b).sh F.slices_ContainsFunc_int_int_=[[.o 2 []],[]]:=_root_.id (by kernel_rfl)
@[go_sem] theorem nc (b):(ab b).m F.slices_ContainsFunc_int_int_=[]:=_root_.id (by kernel_rfl)
@[go_sem] theorem wH (b h d zas):aj R (ab b) h d zas (.fn F.slices_ContainsFunc_int_int_ [] [])=(ag h [] zas).bind (aA R (ab b) d F.slices_ContainsFunc_int_int_):=ah d (nc b)
@[go_sem] theorem lJ (b):(ab b).keep F.slices_ContainsFunc_int_int_=false:=_root_.id (by kernel_rfl)
theorem zW:am.C F.poly_Valid_1=some gP:=by kernel_rfl
theorem zX:am.E F.poly_Valid_1=none:=by kernel_rfl
@[go_sem] theorem NQ (b):(ab b).sh F.poly_Valid_1=[]:=_root_.id (by kernel_rfl)
@[go_sem] theorem rH (b):(ab b).m F.poly_Valid_1=[]:=_root_.id (by kernel_rfl)
@[go_sem] theorem Lw (b h d zas):aj R (ab b) h d zas (.fn F.poly_Valid_1 [] [])=(ag h [] zas).bind (aA R (ab b) d F.poly_Valid_1):=ah d (rH b)
@[go_sem] theorem vX (b):(ab b).keep F.poly_Valid_1=false:=_root_.id (by kernel_rfl)
theorem BU:am.C F.poly_degree=some kL:=by kernel_rfl
theorem BV:am.E F.poly_degree=none:=by kernel_rfl
@[go_sem] theorem OE (b):(ab b).sh F.poly_degree=[[.o 2 []]]:=_root_.id (by kernel_rfl)
@[go_sem] theorem BW (b):(ab b).m F.poly_degree=[]:=_root_.id (by kernel_rfl)
@[go_sem] theorem Mr (b h d zas):aj R (ab b) h d zas (.fn F.poly_degree [] [])=(ag h [] zas).bind (aA R (ab b) d F.poly_degree):=ah d (BW b)
@[go_sem] theorem w9 (b):(ab b).keep F.poly_degree=false:=_root_.id (by kernel_rfl)
theorem Es:am.C F.poly_order=some jr:=by kernel_rfl
theorem Et:am.E F.poly_order=none:=by kernel_rfl
@[go_sem] theorem PS (b):(ab b).sh F.poly_order=[[.o 2 []],[.o 2 []]]:=_root_.id (by kernel_rfl)
@[go_sem] theorem Eu (b):(ab b).m F.poly_order=[]:=_root_.id (by kernel_rfl)
@[go_sem] theorem NR (b h d zas):aj R (ab b) h d zas (.fn F.poly_order [] [])=(ag h [] zas).bind (aA R (ab b) d F.poly_order):=ah d (Eu b)
@[go_sem] theorem yO (b):(ab b).keep F.poly_order=false:=_root_.id (by kernel_rfl)
theorem Kk:am.C F.r23_sum=some pl:=by kernel_rfl
theorem Kl:am.E F.r23_sum=none:=by kernel_rfl
@[go_sem] theorem Uo (b):(ab b).sh F.r23_sum=[[.o 2 []]]:=_root_.id (by kernel_rfl)
@[go_sem] theorem Km (b):(ab b).m F.r23_sum=[]:=_root_.id (by kernel_rfl)
@[go_sem] theorem QJ (b h d zas):aj R (ab b) h d zas (.fn F.r23_sum [] [])=(ag h [] zas).bind (aA R (ab b) d F.r23_sum):=ah d (Km b)
@[go_sem] theorem Ew (b):(ab b).keep F.r23_sum=false:=_root_.id (by kernel_rfl)
theorem Ey:am.C F.r23_number=some eZ:=by kernel_rfl
theorem Ez:am.E F.r23_number=none:=by kernel_rfl
@[go_sem] theorem PT (b):(ab b).sh F.r23_number=[[.o 0 [],.o 2 [],.o 0 []],[.o 0 [],.o 2 [],.o 0 []]]:=_root_.id (by kernel_rfl)
@[go_sem] theorem EA (b):(ab b).m F.r23_number=[]:=_root_.id (by kernel_rfl)
@[go_sem] theorem NS (b h d zas):aj R (ab b) h d zas (.fn F.r23_number [] [])=(ag h [] zas).bind (aA R (ab b) d F.r23_number):=ah d (EA b)
@[go_sem] theorem yP (b):(ab b).keep F.r23_number=false:=_root_.id (by kernel_rfl)
theorem j5:am.C F.slices_IndexFunc_api_Poly_api_Poly_=some cB:=by kernel_rfl
theorem j6:am.E F.slices_IndexFunc_api_Poly_api_Poly_=none:=by kernel_rfl
@[go_sem] theorem jI (b):(ab b).sh F.slices_IndexFunc_api_Poly_api_Poly_=[[.o 3 [.o 0 [],.o 5 [.o 2 [],.o 0 [],.o 0 [],.o 0 []]]],[]]:=_root_.id (by kernel_rfl)
@[go_sem] theorem et (b):(ab b).m F.slices_IndexFunc_api_Poly_api_Poly_=[]:=_root_.id (by kernel_rfl)
@[go_sem] theorem sG (b h d zas):aj R (ab b) h d zas (.fn F.slices_IndexFunc_api_Poly_api_Poly_ [] [])=(ag h [] zas).bind (aA R (ab b) d F.slices_IndexFunc_api_Poly_api_Poly_):=ah d (et b)
@[go_sem] theorem jf (b):(ab b).keep F.slices_IndexFunc_api_Poly_api_Poly_=false:=_root_.id (by kernel_rfl)
theorem j7:am.C F.slices_IndexFunc_api_Term_api_Term_=some cC:=by kernel_rfl
theorem j8:am.E F.slices_IndexFunc_api_Term_api_Term_=none:=by kernel_rfl
@[go_sem] theorem jJ (b):(ab b).sh F.slices_IndexFunc_api_Term_api_Term_=[[.o 5 [.o 2 [],.o 0 [],.o 2 [],.o 0 []]],[]]:=_root_.id (by kernel_rfl)
@[go_sem] theorem eu (b):(ab b).m F.slices_IndexFunc_api_Term_api_Term_=[]:=_root_.id (by kernel_rfl)
@[go_sem] theorem sH (b h d zas):aj R (ab b) h d zas (.fn F.slices_IndexFunc_api_Term_api_Term_ [] [])=(ag h [] zas).bind (aA R (ab b) d F.slices_IndexFunc_api_Term_api_Term_):=ah d (eu b)
@[go_sem] theorem jg (b):(ab b).keep F.slices_IndexFunc_api_Term_api_Term_=false:=_root_.id (by kernel_rfl)
theorem gl:am.C F.slices_Grow_api_Term_api_Term_=some bA:=by kernel_rfl
theorem gn:am.E F.slices_Grow_api_Term_api_Term_=none:=by kernel_rfl
@[go_sem] theorem wI (b):(ab b).sh F.slices_Grow_api_Term_api_Term_=[]:=_root_.id (by kernel_rfl)
@[go_sem] theorem ma (b):(ab b).m F.slices_Grow_api_Term_api_Term_=[]:=_root_.id (by kernel_rfl)
@[go_sem] theorem vI (b h d zas):aj R (ab b) h d zas (.fn F.slices_Grow_api_Term_api_Term_ [] [])=(ag h [] zas).bind (aA R (ab b) d F.slices_Grow_api_Term_api_Term_):=ah d (ma b)
@[go_sem] theorem eQ (b):(ab b).keep F.slices_Grow_api_Term_api_Term_=false:=_root_.id (by kernel_rfl)
theorem fR:am.C F.slices_BinarySearchFunc_api_Term_api_Term_Sint_=some bd:=by kernel_rfl
theorem fS:am.E F.slices_BinarySearchFunc_api_Term_api_Term_Sint_=none:=by kernel_rfl
@[go_sem] theorem cG (b):(ab b).sh F.slices_BinarySearchFunc_api_Term_api_Term_Sint_=[[.o 5 [.o 2 [],.o 0 [],.o 2 [],.o 0 []]],[.o 2 []],[]]:=_root_.id (by kernel_rfl)
@[go_sem] theorem cK (b):(ab b).m F.slices_BinarySearchFunc_api_Term_api_Term_Sint_=[3,0,0]:=_root_.id (by kernel_rfl)
@[go_sem] theorem cj (b):(ab b).keep F.slices_BinarySearchFunc_api_Term_api_Term_Sint_=false:=_root_.id (by kernel_rfl)
theorem qY:am.C F.poly_collector_add_1=some dW:=by kernel_rfl
theorem qZ:am.E F.poly_collector_add_1=none:=by kernel_rfl
@[go_sem] theorem FM (b):(ab b).sh F.poly_collector_add_1=[[.o 2 [],.o 0 [],.o 2 [],.o 0 []],[.o 2 []]]:=_root_.id (by kernel_rfl)
@[go_sem] theorem q9 (b):(ab b).m F.poly_collector_add_1=[]:=_root_.id (by kernel_rfl)
@[go_sem] theorem CS (b h d zas):aj R (ab b) h d zas (.fn F.poly_collector_add_1 [] [])=(ag h [] zas).bind (aA R (ab b) d F.poly_collector_add_1):=ah d (q9 b)
@[go_sem] theorem pm (b):(ab b).keep F.poly_collector_add_1=false:=_root_.id (by kernel_rfl)
@[go_sem] theorem eR (b):(ab b).sh F.slices_Insert_api_Term_api_Term_=[[],[],[.o 5 [.o 2 [],.o 0 [],.o 2 [],.o 0 []]]]:=_root_.id (by kernel_rfl)
@[go_sem] theorem fu (b):(ab b).m F.slices_Insert_api_Term_api_Term_=[2,0,0]:=_root_.id (by kernel_rfl)
@[go_sem] theorem ew (b):(ab b).keep F.slices_Insert_api_Term_api_Term_=false:=_root_.id (by kernel_rfl)
theorem BX:am.C F.poly_copied=some kM:=by kernel_rfl
theorem BY:am.E F.poly_copied=none:=by kernel_rfl
@[go_sem] theorem OF (b):(ab b).sh F.poly_copied=[[.o 0 [],.o 2 [],.o 0 []]]:=_root_.id (by kernel_rfl)
@[go_sem] theorem BZ (b):(ab b).m F.poly_copied=[]:=_root_.id (by kernel_rfl)
@[go_sem] theorem Ms (b h d zas):aj R (ab b) h d zas (.fn F.poly_copied [] [])=(ag h [] zas).bind (aA R (ab b) d F.poly_copied):=ah d (BZ b)
@[go_sem] theorem xc (b):(ab b).keep F.poly_copied=false:=_root_.id (by kernel_rfl)
theorem ls:am.C F.slices_Delete_api_Term_api_Term_=some bO:=by kernel_rfl
theorem lu:am.E F.slices_Delete_api_Term_api_Term_=none:=by kernel_rfl
@[go_sem] theorem kU (b):(ab b).sh F.slices_Delete_api_Term_api_Term_=[]:=_root_.id (by kernel_rfl)
@[go_sem] theorem lv (b):(ab b).m F.slices_Delete_api_Term_api_Term_=[2,0,0]:=_root_.id (by kernel_rfl)
@[go_sem] theorem ey (b):(ab b).keep F.slices_Delete_api_Term_api_Term_=false:=_root_.id (by kernel_rfl)
theorem nw:am.C F.slices_Clone_uint32_uint32_=some cF:=by kernel_rfl
theorem ny:am.E F.slices_Clone_uint32_uint32_=none:=by kernel_rfl
@[go_sem] theorem yQ (b):(ab b).sh F.slices_Clone_uint32_uint32_=[[.o 2 []]]:=_root_.id (by kernel_rfl)
@[go_sem] theorem nA (b):(ab b).m F.slices_Clone_uint32_uint32_=[]:=_root_.id (by kernel_rfl)
@[go_sem] theorem xd (b h d zas):aj R (ab b) h d zas (.fn F.slices_Clone_uint32_uint32_ [] [])=(ag h [] zas).bind (aA R (ab b) d F.slices_Clone_uint32_uint32_):=ah d (nA b)
@[go_sem] theorem mb (b):(ab b).keep F.slices_Clone_uint32_uint32_=false:=_root_.id (by kernel_rfl)
theorem B0:am.C F.dyadic_size=some kN:=by kernel_rfl
theorem B1:am.E F.dyadic_size=none:=by kernel_rfl
@[go_sem] theorem OG (b):(ab b).sh F.dyadic_size=[[.o 2 []]]:=_root_.id (by kernel_rfl)
@[go_sem] theorem B2 (b):(ab b).m F.dyadic_size=[]:=_root_.id (by kernel_rfl)
@[go_sem] theorem Mt (b h d zas):aj R (ab b) h d zas (.fn F.dyadic_size [] [])=(ag h [] zas).bind (aA R (ab b) d F.dyadic_size):=ah d (B2 b)
@[go_sem] theorem xe (b):(ab b).keep F.dyadic_size=false:=_root_.id (by kernel_rfl)
theorem xf:am.C F.dyadic_checked=some fp:=by kernel_rfl
theorem xg:am.E F.dyadic_checked=none:=by kernel_rfl
@[go_sem] theorem Lx (b):(ab b).sh F.dyadic_checked=[[.o 0 [],.o 2 [],.o 0 []]]:=_root_.id (by kernel_rfl)
@[go_sem] theorem xh (b):(ab b).m F.dyadic_checked=[]:=_root_.id (by kernel_rfl)
@[go_sem] theorem Jn (b h d zas):aj R (ab b) h d zas (.fn F.dyadic_checked [] [])=(ag h [] zas).bind (aA R (ab b) d F.dyadic_checked):=ah d (xh b)
@[go_sem] theorem tE (b):(ab b).keep F.dyadic_checked=false:=_root_.id (by kernel_rfl)
theorem uU:am.C F.dyadic_canonical=some dX:=by kernel_rfl
theorem uV:am.E F.dyadic_canonical=none:=by kernel_rfl
@[go_sem] theorem Jo (b):(ab b).sh F.dyadic_canonical=[[],[.o 2 []],[]]:=_root_.id (by kernel_rfl)
@[go_sem] theorem uW (b):(ab b).m F.dyadic_canonical=[]:=_root_.id (by kernel_rfl)
@[go_sem] theorem G0 (b h d zas):aj R (ab b) h d zas (.fn F.dyadic_canonical [] [])=(ag h [] zas).bind (aA R (ab b) d F.dyadic_canonical):=ah d (uW b)
@[go_sem] theorem rI (b):(ab b).keep F.dyadic_canonical=false:=_root_.id (by kernel_rfl)
theorem B3:am.C F.r02_Checked=some iv:=by kernel_rfl
theorem B4:am.E F.r02_Checked=none:=by kernel_rfl
@[go_sem] theorem OH (b):(ab b).sh F.r02_Checked=[[.o 0 [],.o 2 [],.o 0 []]]:=_root_.id (by kernel_rfl)
@[go_sem] theorem B5 (b):(ab b).m F.r02_Checked=[]:=_root_.id (by kernel_rfl)
@[go_sem] theorem Mu (b h d zas):aj R (ab b) h d zas (.fn F.r02_Checked [] [])=(ag h [] zas).bind (aA R (ab b) d F.r02_Checked):=ah d (B5 b)
@[go_sem] theorem xi (b):(ab b).keep F.r02_Checked=false:=_root_.id (by kernel_rfl)
theorem xj:am.C F.dyadic_inRange=some cw:=by kernel_rfl
theorem xk:am.E F.dyadic_inRange=none:=by kernel_rfl
@[go_sem] theorem Ly (b):(ab b).sh F.dyadic_inRange=[[.o 0 [],.o 2 [],.o 0 []]]:=_root_.id (by kernel_rfl)
@[go_sem] theorem xn (b):(ab b).m F.dyadic_inRange=[]:=_root_.id (by kernel_rfl)
@[go_sem] theorem Jp (b h d zas):aj R (ab b) h d zas (.fn F.dyadic_inRange [] [])=(ag h [] zas).bind (aA R (ab b) d F.dyadic_inRange):=ah d (xn b)
@[go_sem] theorem tF (b):(ab b).keep F.dyadic_inRange=false:=_root_.id (by kernel_rfl)
theorem IK:am.C F.r02_bits=some lG:=by kernel_rfl
theorem IL:am.E F.r02_bits=none:=by kernel_rfl
@[go_sem] theorem Tl (b):(ab b).sh F.r02_bits=[[.o 2 []]]:=_root_.id (by kernel_rfl)
@[go_sem] theorem IM (b):(ab b).m F.r02_bits=[]:=_root_.id (by kernel_rfl)
@[go_sem] theorem PU (b h d zas):aj R (ab b) h d zas (.fn F.r02_bits [] [])=(ag h [] zas).bind (aA R (ab b) d F.r02_bits):=ah d (IM b)
@[go_sem] theorem B6 (b):(ab b).keep F.r02_bits=false:=_root_.id (by kernel_rfl)
theorem Mv:am.C F.r02_Of=some oF:=by kernel_rfl
theorem Mw:am.E F.r02_Of=none:=by kernel_rfl
@[go_sem] theorem W8 (b):(ab b).sh F.r02_Of=[[],[.o 2 []],[]]:=_root_.id (by kernel_rfl)
@[go_sem] theorem Mx (b):(ab b).m F.r02_Of=[]:=_root_.id (by kernel_rfl)
@[go_sem] theorem Tm (b h d zas):aj R (ab b) h d zas (.fn F.r02_Of [] [])=(ag h [] zas).bind (aA R (ab b) d F.r02_Of):=ah d (Mx b)
@[go_sem] theorem Gq (b):(ab b).keep F.r02_Of=false:=_root_.id (by kernel_rfl)
theorem EB:am.C F.dyadic_sum=some dp:=by kernel_rfl
theorem EC:am.E F.dyadic_sum=none:=by kernel_rfl
@[go_sem] theorem PV (b):(ab b).sh F.dyadic_sum=[[.o 0 [],.o 2 [],.o 0 []],[.o 0 [],.o 2 [],.o 0 []]]:=_root_.id (by kernel_rfl)
@[go_sem] theorem ED (b):(ab b).m F.dyadic_sum=[]:=_root_.id (by kernel_rfl)
@[go_sem] theorem NT (b h d zas):aj R (ab b) h d zas (.fn F.dyadic_sum [] [])=(ag h [] zas).bind (aA R (ab b) d F.dyadic_sum):=ah d (ED b)
@[go_sem] theorem yR (b):(ab b).keep F.dyadic_sum=false:=_root_.id (by kernel_rfl)
theorem Kn:am.C F.r02_Sum=some gQ:=by kernel_rfl
theorem Ko:am.E F.r02_Sum=none:=by kernel_rfl
@[go_sem] theorem Up (b):(ab b).sh F.r02_Sum=[[.o 0 [],.o 2 [],.o 0 []],[.o 0 [],.o 2 [],.o 0 []]]:=_root_.id (by kernel_rfl)
@[go_sem] theorem Kp (b):(ab b).m F.r02_Sum=[]:=_root_.id (by kernel_rfl)
@[go_sem] theorem QK (b h d zas):aj R (ab b) h d zas (.fn F.r02_Sum [] [])=(ag h [] zas).bind (aA R (ab b) d F.r02_Sum):=ah d (Kp b)
@[go_sem] theorem EE (b):(ab b).keep F.r02_Sum=false:=_root_.id (by kernel_rfl)
theorem oJ:am.C F.slices_IndexFunc_int_int_=some ei:=by kernel_rfl
theorem oK:am.E F.slices_IndexFunc_int_int_=none:=by kernel_rfl
@[go_sem] theorem nR (b):(ab b).sh F.slices_IndexFunc_int_int_=[[.o 2 []],[]]:=_root_.id (by kernel_rfl)
@[go_sem] theorem iK (b):(ab b).m F.slices_IndexFunc_int_int_=[]:=_root_.id (by kernel_rfl)
@[go_sem] theorem yS (b h d zas):aj R (ab b) h d zas (.fn F.slices_IndexFunc_int_int_ [] [])=(ag h [] zas).bind (aA R (ab b) d F.slices_IndexFunc_int_int_):=ah d (iK b)
@[go_sem] theorem nf (b):(ab b).keep F.slices_IndexFunc_int_int_=false:=_root_.id (by kernel_rfl)
theorem uX:am.C F.cmp_Compare_int_=some df:=by kernel_rfl
theorem uY:am.E F.cmp_Compare_int_=none:=by kernel_rfl
@[go_sem] theorem Jq (b):(ab b).sh F.cmp_Compare_int_=[]:=_root_.id (by kernel_rfl)
@[go_sem] theorem uZ (b):(ab b).m F.cmp_Compare_int_=[]:=_root_.id (by kernel_rfl)
@[go_sem] theorem G1 (b h d zas):aj R (ab b) h d zas (.fn F.cmp_Compare_int_ [] [])=(ag h [] zas).bind (aA R (ab b) d F.cmp_Compare_int_):=ah d (uZ b)
@[go_sem] theorem rJ (b):(ab b).keep F.cmp_Compare_int_=false:=_root_.id (by kernel_rfl)
theorem pn:am.C F.slices_Compare_int_int_=some cf:=by kernel_rfl
theorem po:am.E F.slices_Compare_int_int_=none:=by kernel_rfl
@[go_sem] theorem B7 (b):(ab b).sh F.slices_Compare_int_int_=[[.o 2 []],[.o 2 []]]:=_root_.id (by kernel_rfl)
@[go_sem] theorem pp (b):(ab b).m F.slices_Compare_int_int_=[]:=_root_.id (by kernel_rfl)
@[go_sem] theorem zY (b h d zas):aj R (ab b) h d zas (.fn F.slices_Compare_int_int_ [] [])=(ag h [] zas).bind (aA R (ab b) d F.slices_Compare_int_int_):=ah d (pp b)
@[go_sem] theorem nS (b):(ab b).keep F.slices_Compare_int_int_=false:=_root_.id (by kernel_rfl)
theorem zZ:am.C F.natural_Bits=some gT:=by kernel_rfl
theorem z6:am.E F.natural_Bits=none:=by kernel_rfl
@[go_sem] theorem NU (b):(ab b).sh F.natural_Bits=[[.o 2 []]]:=_root_.id (by kernel_rfl)
@[go_sem] theorem z7 (b):(ab b).m F.natural_Bits=[]:=_root_.id (by kernel_rfl)
@[go_sem] theorem Lz (b h d zas):aj R (ab b) h d zas (.fn F.natural_Bits [] [])=(ag h [] zas).bind (aA R (ab b) d F.natural_Bits):=ah d (z7 b)
@[go_sem] theorem vY (b):(ab b).keep F.natural_Bits=false:=_root_.id (by kernel_rfl)
theorem z8:am.C F.natural_long=some jU:=by kernel_rfl
theorem Aa:am.E F.natural_long=none:=by kernel_rfl
@[go_sem] theorem NV (b):(ab b).sh F.natural_long=[[.o 2 [.o 2 []]]]:=_root_.id (by kernel_rfl)
@[go_sem] theorem Ac (b):(ab b).m F.natural_long=[]:=_root_.id (by kernel_rfl)
@[go_sem] theorem LA (b h d zas):aj R (ab b) h d zas (.fn F.natural_long [] [])=(ag h [] zas).bind (aA R (ab b) d F.natural_long):=ah d (Ac b)
@[go_sem] theorem vZ (b):(ab b).keep F.natural_long=false:=_root_.id (by kernel_rfl)
theorem Ad:am.C F.natural_done=some gU:=by kernel_rfl
theorem Ae:am.E F.natural_done=none:=by kernel_rfl
@[go_sem] theorem NW (b):(ab b).sh F.natural_done=[[.o 2 []]]:=_root_.id (by kernel_rfl)
@[go_sem] theorem Af (b):(ab b).m F.natural_done=[]:=_root_.id (by kernel_rfl)
@[go_sem] theorem LB (b h d zas):aj R (ab b) h d zas (.fn F.natural_done [] [])=(ag h [] zas).bind (aA R (ab b) d F.natural_done):=ah d (Af b)
@[go_sem] theorem v6 (b):(ab b).keep F.natural_done=false:=_root_.id (by kernel_rfl)
theorem Ag:am.C F.natural_trim=some jV:=by kernel_rfl
theorem Ah:am.E F.natural_trim=none:=by kernel_rfl
@[go_sem] theorem NX (b):(ab b).sh F.natural_trim=[[.o 2 []]]:=_root_.id (by kernel_rfl)
@[go_sem] theorem Ai (b):(ab b).m F.natural_trim=[]:=_root_.id (by kernel_rfl)
@[go_sem] theorem LC (b h d zas):aj R (ab b) h d zas (.fn F.natural_trim [] [])=(ag h [] zas).bind (aA R (ab b) d F.natural_trim):=ah d (Ai b)
@[go_sem] theorem v7 (b):(ab b).keep F.natural_trim=false:=_root_.id (by kernel_rfl)
theorem xp:am.C F.dyadic_trimmed=some ij:=by kernel_rfl
theorem xq:am.E F.dyadic_trimmed=none:=by kernel_rfl
@[go_sem] theorem LD (b):(ab b).sh F.dyadic_trimmed=[[.o 2 []]]:=_root_.id (by kernel_rfl)
@[go_sem] theorem xr (b):(ab b).m F.dyadic_trimmed=[]:=_root_.id (by kernel_rfl)
@[go_sem] theorem Jr (b h d zas):aj R (ab b) h d zas (.fn F.dyadic_trimmed [] [])=(ag h [] zas).bind (aA R (ab b) d F.dyadic_trimmed):=ah d (xr b)
@[go_sem] theorem tG (b):(ab b).keep F.dyadic_trimmed=false:=_root_.id (by kernel_rfl)
theorem EF:am.C F.dyadic_low=some lR:=by kernel_rfl
theorem EG:am.E F.dyadic_low=none:=by kernel_rfl
@[go_sem] theorem PW (b):(ab b).sh F.dyadic_low=[[.o 2 []]]:=_root_.id (by kernel_rfl)
@[go_sem] theorem EH (b):(ab b).m F.dyadic_low=[]:=_root_.id (by kernel_rfl)
@[go_sem] theorem NY (b h d zas):aj R (ab b) h d zas (.fn F.dyadic_low [] [])=(ag h [] zas).bind (aA R (ab b) d F.dyadic_low):=ah d (EH b)
@[go_sem] theorem yT (b):(ab b).keep F.dyadic_low=false:=_root_.id (by kernel_rfl)
theorem B8:am.C F.natural_Shr=some fO:=by kernel_rfl
theorem B9:am.E F.natural_Shr=none:=by kernel_rfl
@[go_sem] theorem OI (b):(ab b).sh F.natural_Shr=[[.o 2 []],[]]:=_root_.id (by kernel_rfl)
@[go_sem] theorem Ca (b):(ab b).m F.natural_Shr=[]:=_root_.id (by kernel_rfl)
@[go_sem] theorem My (b h d zas):aj R (ab b) h d zas (.fn F.natural_Shr [] [])=(ag h [] zas).bind (aA R (ab b) d F.natural_Shr):=ah d (Ca b)
@[go_sem] theorem xt (b):(ab b).keep F.natural_Shr=false:=_root_.id (by kernel_rfl)
theorem nT:am.C F.slices_Clip_uint32_uint32_=some cO:=by kernel_rfl
theorem nU:am.E F.slices_Clip_uint32_uint32_=none:=by kernel_rfl
@[go_sem] theorem zj (b):(ab b).sh F.slices_Clip_uint32_uint32_=[[.o 2 []]]:=_root_.id (by kernel_rfl)
@[go_sem] theorem nV (b):(ab b).m F.slices_Clip_uint32_uint32_=[]:=_root_.id (by kernel_rfl)
@[go_sem] theorem xY (b h d zas):aj R (ab b) h d zas (.fn F.slices_Clip_uint32_uint32_ [] [])=(ag h [] zas).bind (aA R (ab b) d F.slices_Clip_uint32_uint32_):=ah d (nV b)
@[go_sem] theorem mA (b):(ab b).keep F.slices_Clip_uint32_uint32_=false:=_root_.id (by kernel_rfl)
theorem IN:am.C F.r02_trim=some om:=by kernel_rfl
theorem IP:am.E F.r02_trim=none:=by kernel_rfl
@[go_sem] theorem Tn (b):(ab b).sh F.r02_trim=[[.o 2 []]]:=_root_.id (by kernel_rfl)
@[go_sem] theorem IQ (b):(ab b).m F.r02_trim=[]:=_root_.id (by kernel_rfl)
@[go_sem] theorem PX (b h d zas):aj R (ab b) h d zas (.fn F.r02_trim [] [])=(ag h [] zas).bind (aA R (ab b) d F.r02_trim):=ah d (IQ b)
@[go_sem] theorem Cb (b):(ab b).keep F.r02_trim=false:=_root_.id (by kernel_rfl)
theorem Gr:am.C F.r02_zeros=some mZ:=by kernel_rfl
theorem Gs:am.E F.r02_zeros=none:=by kernel_rfl
@[go_sem] theorem QL (b):(ab b).sh F.r02_zeros=[[.o 2 []]]:=_root_.id (by kernel_rfl)
@[go_sem] theorem Gt (b):(ab b).m F.r02_zeros=[]:=_root_.id (by kernel_rfl)
@[go_sem] theorem OJ (b h d zas):aj R (ab b) h d zas (.fn F.r02_zeros [] [])=(ag h [] zas).bind (aA R (ab b) d F.r02_zeros):=ah d (Gt b)
@[go_sem] theorem Aj (b):(ab b).keep F.r02_zeros=false:=_root_.id (by kernel_rfl)
theorem Gu:am.C F.r02_right=some kr:=by kernel_rfl
theorem Gv:am.E F.r02_right=none:=by kernel_rfl
@[go_sem] theorem QM (b):(ab b).sh F.r02_right=[[.o 2 []],[]]:=_root_.id (by kernel_rfl)
@[go_sem] theorem Gw (b):(ab b).m F.r02_right=[]:=_root_.id (by kernel_rfl)
@[go_sem] theorem OK (b h d zas):aj R (ab b) h d zas (.fn F.r02_right [] [])=(ag h [] zas).bind (aA R (ab b) d F.r02_right):=ah d (Gw b)
@[go_sem] theorem Ak (b):(ab b).keep F.r02_right=false:=_root_.id (by kernel_rfl)
theorem EI:am.C F.dyadic_Top=some gE:=by kernel_rfl
theorem EJ:am.E F.dyadic_Top=none:=by kernel_rfl
@[go_sem] theorem PY (b):(ab b).sh F.dyadic_Top=[[.o 0 [],.o 2 [],.o 0 []]]:=_root_.id (by kernel_rfl)
@[go_sem] theorem EK (b):(ab b).m F.dyadic_Top=[]:=_root_.id (by kernel_rfl)
@[go_sem] theorem NZ (b h d zas):aj R (ab b) h d zas (.fn F.dyadic_Top [] [])=(ag h [] zas).bind (aA R (ab b) d F.dyadic_Top):=ah d (EK b)
@[go_sem] theorem yU (b):(ab b).keep F.dyadic_Top=false:=_root_.id (by kernel_rfl)
theorem xu:am.C F.dyadic_shifted=some ik:=by kernel_rfl
theorem xv:am.E F.dyadic_shifted=none:=by kernel_rfl
@[go_sem] theorem LE (b):(ab b).sh F.dyadic_shifted=[[.o 2 []],[]]:=_root_.id (by kernel_rfl)
@[go_sem] theorem xw (b):(ab b).m F.dyadic_shifted=[]:=_root_.id (by kernel_rfl)
@[go_sem] theorem Js (b h d zas):aj R (ab b) h d zas (.fn F.dyadic_shifted [] [])=(ag h [] zas).bind (aA R (ab b) d F.dyadic_shifted):=ah d (xw b)
@[go_sem] theorem tH (b):(ab b).keep F.dyadic_shifted=false:=_root_.id (by kernel_rfl)
theorem Cc:am.C F.natural_Add=some ix:=by kernel_rfl
theorem Cd:am.E F.natural_Add=none:=by kernel_rfl
@[go_sem] theorem OL (b):(ab b).sh F.natural_Add=[[.o 2 []],[.o 2 []]]:=_root_.id (by kernel_rfl)
@[go_sem] theorem Ce (b):(ab b).m F.natural_Add=[]:=_root_.id (by kernel_rfl)
@[go_sem] theorem Mz (b h d zas):aj R (ab b) h d zas (.fn F.natural_Add [] [])=(ag h [] zas).bind (aA R (ab b) d F.natural_Add):=ah d (Ce b)
@[go_sem] theorem xx (b):(ab b).keep F.natural_Add=false:=_root_.id (by kernel_rfl)
theorem Cf:am.C F.natural_Cmp=some fP:=by kernel_rfl
theorem Cg:am.E F.natural_Cmp=none:=by kernel_rfl
@[go_sem] theorem OM (b):(ab b).sh F.natural_Cmp=[[.o 2 []],[.o 2 []]]:=_root_.id (by kernel_rfl)
@[go_sem] theorem Ch (b):(ab b).m F.natural_Cmp=[]:=_root_.id (by kernel_rfl)
@[go_sem] theorem MA (b h d zas):aj R (ab b) h d zas (.fn F.natural_Cmp [] [])=(ag h [] zas).bind (aA R (ab b) d F.natural_Cmp):=ah d (Ch b)
@[go_sem] theorem xy (b):(ab b).keep F.natural_Cmp=false:=_root_.id (by kernel_rfl)
theorem Ci:am.C F.natural_Sub=some fQ:=by kernel_rfl
theorem Cj:am.E F.natural_Sub=none:=by kernel_rfl
@[go_sem] theorem ON (b):(ab b).sh F.natural_Sub=[[.o 2 []],[.o 2 []]]:=_root_.id (by kernel_rfl)
@[go_sem] theorem Ck (b):(ab b).m F.natural_Sub=[]:=_root_.id (by kernel_rfl)
@[go_sem] theorem MB (b h d zas):aj R (ab b) h d zas (.fn F.natural_Sub [] [])=(ag h [] zas).bind (aA R (ab b) d F.natural_Sub):=ah d (Ck b)
@[go_sem] theorem xz (b):(ab b).keep F.natural_Sub=false:=_root_.id (by kernel_rfl)
theorem IR:am.C F.r02_left=some oo:=by kernel_rfl
theorem IS:am.E F.r02_left=none:=by kernel_rfl
@[go_sem] theorem To (b):(ab b).sh F.r02_left=[[.o 2 []],[]]:=_root_.id (by kernel_rfl)
@[go_sem] theorem IT (b):(ab b).m F.r02_left=[]:=_root_.id (by kernel_rfl)
@[go_sem] theorem PZ (b h d zas):aj R (ab b) h d zas (.fn F.r02_left [] [])=(ag h [] zas).bind (aA R (ab b) d F.r02_left):=ah d (IT b)
@[go_sem] theorem Cm (b):(ab b).keep F.r02_left=false:=_root_.id (by kernel_rfl)
theorem IU:am.C F.r02_plus=some oq:=by kernel_rfl
theorem IV:am.E F.r02_plus=none:=by kernel_rfl
@[go_sem] theorem Tp (b):(ab b).sh F.r02_plus=[[.o 2 []],[.o 2 []]]:=_root_.id (by kernel_rfl)
@[go_sem] theorem IW (b):(ab b).m F.r02_plus=[]:=_root_.id (by kernel_rfl)
@[go_sem] theorem P0 (b h d zas):aj R (ab b) h d zas (.fn F.r02_plus [] [])=(ag h [] zas).bind (aA R (ab b) d F.r02_plus):=ah d (IW b)
@[go_sem] theorem Cn (b):(ab b).keep F.r02_plus=false:=_root_.id (by kernel_rfl)
theorem Co:am.C F.r02_compare=some iy:=by kernel_rfl
theorem Cp:am.E F.r02_compare=none:=by kernel_rfl
@[go_sem] theorem OO (b):(ab b).sh F.r02_compare=[[.o 2 []],[.o 2 []]]:=_root_.id (by kernel_rfl)
@[go_sem] theorem Cq (b):(ab b).m F.r02_compare=[]:=_root_.id (by kernel_rfl)
@[go_sem] theorem MC (b h d zas):aj R (ab b) h d zas (.fn F.r02_compare [] [])=(ag h [] zas).bind (aA R (ab b) d F.r02_compare):=ah d (Cq b)
@[go_sem] theorem xA (b):(ab b).keep F.r02_compare=false:=_root_.id (by kernel_rfl)
theorem Gx:am.C F.r02_minus=some m5:=by kernel_rfl
theorem Gy:am.E F.r02_minus=none:=by kernel_rfl
@[go_sem] theorem QN (b):(ab b).sh F.r02_minus=[[.o 2 []],[.o 2 []]]:=_root_.id (by kernel_rfl)
@[go_sem] theorem Gz (b):(ab b).m F.r02_minus=[]:=_root_.id (by kernel_rfl)
@[go_sem] theorem OP (b h d zas):aj R (ab b) h d zas (.fn F.r02_minus [] [])=(ag h [] zas).bind (aA R (ab b) d F.r02_minus):=ah d (Gz b)
@[go_sem] theorem Al (b):(ab b).keep F.r02_minus=false:=_root_.id (by kernel_rfl)
theorem xB:am.C F.cmp_isNaN_int_=some il:=by kernel_rfl
theorem xC:am.E F.cmp_isNaN_int_=none:=by kernel_rfl
@[go_sem] theorem LF (b):(ab b).sh F.cmp_isNaN_int_=[]:=_root_.id (by kernel_rfl)
@[go_sem] theorem xD (b):(ab b).m F.cmp_isNaN_int_=[]:=_root_.id (by kernel_rfl)
@[go_sem] theorem Jt (b h d zas):aj R (ab b) h d zas (.fn F.cmp_isNaN_int_ [] [])=(ag h [] zas).bind (aA R (ab b) d F.cmp_isNaN_int_):=ah d (xD b)
@[go_sem] theorem tI (b):(ab b).keep F.cmp_isNaN_int_=false:=_root_.id (by kernel_rfl)
theorem EL:am.C F.bits_Len32=some fe:=by kernel_rfl
theorem EM:am.E F.bits_Len32=none:=by kernel_rfl
@[go_sem] theorem P1 (b):(ab b).sh F.bits_Len32=[]:=_root_.id (by kernel_rfl)
@[go_sem] theorem EN (b):(ab b).m F.bits_Len32=[]:=_root_.id (by kernel_rfl)
@[go_sem] theorem N0 (b h d zas):aj R (ab b) h d zas (.fn F.bits_Len32 [] [])=(ag h [] zas).bind (aA R (ab b) d F.bits_Len32):=ah d (EN b)
@[go_sem] theorem yV (b):(ab b).keep F.bits_Len32=false:=_root_.id (by kernel_rfl)
theorem jK:am.C F.slices_ContainsFunc_Suint32_Suint32_=some ch:=by kernel_rfl
theorem jL:am.E F.slices_ContainsFunc_Suint32_Suint32_=none:=by kernel_rfl
@[go_sem] theorem tr (b):(ab b).sh F.slices_ContainsFunc_Suint32_Suint32_=[[.o 2 [.o 2 []]],[]]:=_root_.id (by kernel_rfl)
@[go_sem] theorem dZ (b):(ab b).m F.slices_ContainsFunc_Suint32_Suint32_=[]:=_root_.id (by kernel_rfl)
@[go_sem] theorem r6 (b h d zas):aj R (ab b) h d zas (.fn F.slices_ContainsFunc_Suint32_Suint32_ [] [])=(ag h [] zas).bind (aA R (ab b) d F.slices_ContainsFunc_Suint32_Suint32_):=ah d (dZ b)
@[go_sem] theorem iH (b):(ab b).keep F.slices_ContainsFunc_Suint32_Suint32_=false:=_root_.id (by kernel_rfl)
theorem xE:am.C F.natural_long_1=some im:=by kernel_rfl
theorem xF:am.E F.natural_long_1=none:=by kernel_rfl
@[go_sem] theorem LG (b):(ab b).sh F.natural_long_1=[[.o 2 []]]:=_root_.id (by kernel_rfl)
@[go_sem] theorem p8 (b):(ab b).m F.natural_long_1=[]:=_root_.id (by kernel_rfl)
@[go_sem] theorem Ju (b h d zas):aj R (ab b) h d zas (.fn F.natural_long_1 [] [])=(ag h [] zas).bind (aA R (ab b) d F.natural_long_1):=ah d (p8 b)
@[go_sem] theorem tJ (b):(ab b).keep F.natural_long_1=false:=_root_.id (by kernel_rfl)
@[go_sem] theorem FN (b):(ab b).sh F.bits_TrailingZeros32=[]:=_root_.id (by kernel_rfl)
@[go_sem] theorem re (b):(ab b).m F.bits_TrailingZeros32=[]:=_root_.id (by kernel_rfl)
@[go_sem] theorem CT (b h d zas):aj R (ab b) h d zas (.fn F.bits_TrailingZeros32 [] [])=(ag h [] zas).bind (aA R (ab b) d F.bits_TrailingZeros32):=ah d (re b)
@[go_sem] theorem CU (b):(ab b).keep F.bits_TrailingZeros32=false:=_root_.id (by kernel_rfl)
theorem Cr:am.C F.natural_shr=some iA:=by kernel_rfl
theorem Cs:am.E F.natural_shr=none:=by kernel_rfl
@[go_sem] theorem OQ (b):(ab b).sh F.natural_shr=[[.o 2 []],[]]:=_root_.id (by kernel_rfl)
@[go_sem] theorem Ct (b):(ab b).m F.natural_shr=[]:=_root_.id (by kernel_rfl)
@[go_sem] theorem MD (b h d zas):aj R (ab b) h d zas (.fn F.natural_shr [] [])=(ag h [] zas).bind (aA R (ab b) d F.natural_shr):=ah d (Ct b)
@[go_sem] theorem xG (b):(ab b).keep F.natural_shr=false:=_root_.id (by kernel_rfl)
theorem Cu:am.C F.natural_Shl=some ej:=by kernel_rfl
theorem Cv:am.E F.natural_Shl=none:=by kernel_rfl
@[go_sem] theorem OR (b):(ab b).sh F.natural_Shl=[[.o 2 []],[]]:=_root_.id (by kernel_rfl)
@[go_sem] theorem Cw (b):(ab b).m F.natural_Shl=[]:=_root_.id (by kernel_rfl)
@[go_sem] theorem ME (b h d zas):aj R (ab b) h d zas (.fn F.natural_Shl [] [])=(ag h [] zas).bind (aA R (ab b) d F.natural_Shl):=ah d (Cw b)
@[go_sem] theorem xH (b):(ab b).keep F.natural_Shl=false:=_root_.id (by kernel_rfl)
theorem Cx:am.C F.natural_add=some iB:=by kernel_rfl
theorem Cy:am.E F.natural_add=none:=by kernel_rfl
@[go_sem] theorem OS (b):(ab b).sh F.natural_add=[[.o 2 []],[.o 2 []]]:=_root_.id (by kernel_rfl)
@[go_sem] theorem Cz (b):(ab b).m F.natural_add=[]:=_root_.id (by kernel_rfl)
@[go_sem] theorem MF (b h d zas):aj R (ab b) h d zas (.fn F.natural_add [] [])=(ag h [] zas).bind (aA R (ab b) d F.natural_add):=ah d (Cz b)
@[go_sem] theorem xI (b):(ab b).keep F.natural_add=false:=_root_.id (by kernel_rfl)
theorem CA:am.C F.natural_sub=some kP:=by kernel_rfl
theorem CB:am.E F.natural_sub=none:=by kernel_rfl
@[go_sem] theorem OT (b):(ab b).sh F.natural_sub=[[.o 2 []],[.o 2 []]]:=_root_.id (by kernel_rfl)
@[go_sem] theorem CC (b):(ab b).m F.natural_sub=[]:=_root_.id (by kernel_rfl)
@[go_sem] theorem MG (b h d zas):aj R (ab b) h d zas (.fn F.natural_sub [] [])=(ag h [] zas).bind (aA R (ab b) d F.natural_sub):=ah d (CC b)
@[go_sem] theorem xJ (b):(ab b).keep F.natural_sub=false:=_root_.id (by kernel_rfl)
theorem kV:am.C F.slices_IndexFunc_Suint32_Suint32_=some cS:=by kernel_rfl
theorem kW:am.E F.slices_IndexFunc_Suint32_Suint32_=none:=by kernel_rfl
@[go_sem] theorem kt (b):(ab b).sh F.slices_IndexFunc_Suint32_Suint32_=[[.o 2 [.o 2 []]],[]]:=_root_.id (by kernel_rfl)
@[go_sem] theorem eS (b):(ab b).m F.slices_IndexFunc_Suint32_Suint32_=[]:=_root_.id (by kernel_rfl)
@[go_sem] theorem tK (b h d zas):aj R (ab b) h d zas (.fn F.slices_IndexFunc_Suint32_Suint32_ [] [])=(ag h [] zas).bind (aA R (ab b) d F.slices_IndexFunc_Suint32_Suint32_):=ah d (eS b)
@[go_sem] theorem jM (b):(ab b).keep F.slices_IndexFunc_Suint32_Suint32_=false:=_root_.id (by kernel_rfl)
theorem CD:am.C F.natural_shl=some kS:=by kernel_rfl
theorem CE:am.E F.natural_shl=none:=by kernel_rfl
@[go_sem] theorem OU (b):(ab b).sh F.natural_shl=[[.o 2 []],[]]:=_root_.id (by kernel_rfl)
@[go_sem] theorem CF (b):(ab b).m F.natural_shl=[]:=_root_.id (by kernel_rfl)
@[go_sem] theorem MH (b h d zas):aj R (ab b) h d zas (.fn F.natural_shl [] [])=(ag h [] zas).bind (aA R (ab b) d F.natural_shl):=ah d (CF b)
@[go_sem] theorem xK (b):(ab b).keep F.natural_shl=false:=_root_.id (by kernel_rfl)
theorem EO:am.C F.bits_Add32=some lV:=by kernel_rfl
theorem EP:am.E F.bits_Add32=none:=by kernel_rfl
@[go_sem] theorem P2 (b):(ab b).sh F.bits_Add32=[]:=_root_.id (by kernel_rfl)
@[go_sem] theorem EQ (b):(ab b).m F.bits_Add32=[]:=_root_.id (by kernel_rfl)
@[go_sem] theorem N1 (b h d zas):aj R (ab b) h d zas (.fn F.bits_Add32 [] [])=(ag h [] zas).bind (aA R (ab b) d F.bits_Add32):=ah d (EQ b)
@[go_sem] theorem yW (b):(ab b).keep F.bits_Add32=false:=_root_.id (by kernel_rfl)
theorem ER:am.C F.bits_Sub32=some lW:=by kernel_rfl
theorem ES:am.E F.bits_Sub32=none:=by kernel_rfl
@[go_sem] theorem P3 (b):(ab b).sh F.bits_Sub32=[]:=_root_.id (by kernel_rfl)
@[go_sem] theorem ET (b):(ab b).m F.bits_Sub32=[]:=_root_.id (by kernel_rfl)
@[go_sem] theorem N2 (b h d zas):aj R (ab b) h d zas (.fn F.bits_Sub32 [] [])=(ag h [] zas).bind (aA R (ab b) d F.bits_Sub32):=ah d (ET b)
@[go_sem] theorem yX (b):(ab b).keep F.bits_Sub32=false:=_root_.id (by kernel_rfl)
end Go.Ab
namespace Go.Ab
open Go Go.IntWalk
def aG (m:List Nat):List (List AV):=m.map fun (x:Nat)=>[U (x:Int)]
def lm (m:List Nat):AV:=.sl 1 (aG m)
theorem sI (m:List Nat):(aG m).length=m.length:=by simp [aG]
@[go_sem] theorem p9 (l:List (List AV)):l.map (bQ [])=l:=(List.map_congr_left (g:=fun c=>c) fun c _=>Mf c).trans (List.map_id' _)
@[go_sem] theorem Yx (hs m):eB hs (lm m)=lm m:=_root_.id rfl
@[go_sem] theorem W9 (hs m):knownL hs (lm m)=true:=_root_.id rfl
@[go_sem] theorem Uq (hs m):d7 hs (lm m)=true:=_root_.id rfl
@[go_sem] theorem acL (ks m):k7 ks (lm m)=lm m:=_root_.id rfl
@[go_sem] theorem aaT (ks m):iL ks (lm m)=false:=_root_.id rfl
@[go_sem] theorem aaU (ks m):qL ks (lm m)=false:=_root_.id rfl
@[go_sem] theorem acM (m):io false (lm m)=some (I (m.length:Nat)):=by simp [lm,io,aG]
@[go_sem] theorem aaV (m k i):lz 1 (lm m) (.v (.int k i))=aX (aG m) i:=by simp [lm,lz]
@[go_sem] theorem OV (k ss m):nrmV (.o (k+1) []::ss) (lm m)=lm m:=by simp [lm,nrmV,nrmL,p9]
@[go_sem] theorem Yy (k cs ss m):nrmV (.o (k+1) [.o 0 cs]::ss) (lm m)=lm m:=by
 have:(aG m).map (bQ [.o 0 cs])=aG m:=by
  refine (List.map_congr_left (g:=fun c=>c) fun c _=>?_).trans (List.map_id' _)
  cases c with
  | nil=>simp [bQ]
  | cons a l=>simp [bQ,nrmL]
 simp [lm,nrmV,nrmL,this]
@[go_sem] theorem aaW (k m):nrmL (.o (k+1) []) (lm m)=lm m:=by simp [lm,nrmL,p9]
@[go_sem] theorem aaX (h m):kd h (lm m)=some (lm m):=_root_.id rfl
@[go_sem] theorem Yz (h m l):fA h (lm m::l)=(fA h l).bind fun q=>some (lm m::q):=_root_.id rfl
@[go_sem] theorem aaY (m):bh (lm m)=[]:=_root_.id rfl
@[go_sem] theorem aaZ (m):cz (lm m)=[]:=_root_.id rfl
@[go_sem] theorem acN (m):dat (lm m)=true:=_root_.id rfl
@[go_sem] theorem aa0 (m):ak (lm m)=true:=_root_.id rfl
@[go_sem] theorem YA (m):aL (lm m)=false:=_root_.id rfl
@[go_sem] theorem YB (m):dg (lm m)=some [lm m]:=_root_.id rfl
@[go_sem] theorem aa1 (h m):c9 h (lm m)=some (lm m,h,[]):=_root_.id rfl
@[go_sem] theorem YC (h m):bD h 0 (lm m)=some (lm m,h,[]):=_root_.id rfl
@[go_sem] theorem YD (id p m):n9 id p (lm m)=lm m:=_root_.id rfl
@[go_sem] theorem YE (h d m):gp h d (some (lm m,[]))=if cN h (2000+8*d) 1=true then some (lm m,h,[]) else none:=Mh h d 1 (aG m)
@[go_sem] theorem acO (m:List Nat):AV.sl 1 (aG m)=lm m:=_root_.id rfl
@[go_sem] theorem YF (p:Nat→Bool) (a:Nat):eF (List.filter p [a])=true:=by
 simp only [List.filter]
 split <;> rfl
@[go_sem] theorem Am (m:List Nat):(aG m).length=m.length:=by simp [aG]
@[go_sem] theorem acP:AV.sl 1 []=lm []:=_root_.id rfl
@[go_sem] theorem Xa (cs ss):nrmV (.o 2 cs::ss) .emp=lm []:=by simp [nrmV,nrmL,lm,aG]
@[go_sem] theorem Xb (cs):nrmL (.o 2 cs) .emp=lm []:=by simp [nrmL,lm,aG]
@[go_sem] theorem aa2 (k ss m):nrmV (.o (k+1) []::ss) (.sl 1 (aG m))=lm m:=OV k ss m
@[go_sem] theorem YG (k ss m):nrmV (.o (k+1) []::ss) (.osl 1 (aG m))=lm m:=by simp [lm,nrmV,nrmL,p9]
theorem ba {m:List Nat} {i:Int} {n:Nat} (hi:i=n) (h:n < m.length):aX (aG m) i=some (.ipt [U (m.getD n 0:Nat)]):=by
 subst hi
 simp [aX,aG,h]
theorem vJ {m:List Nat} {n:Nat} (h:n < m.length):(aG m)[n]?=some [U (m.getD n 0:Nat)]:=by
 simp [aG,h]
theorem EU (m:List Nat) (n:Nat):(aG m).take n=aG (m.take n):=by simp [aG,List.map_take]
theorem MI (m:List Nat) (n:Nat):(aG m).drop n=aG (m.drop n):=by simp [aG,List.map_drop]
theorem pq (m l:List Nat):aG m++aG l=aG (m++l):=by simp [aG]
theorem vK (m:List Nat) (n x:Nat):(aG m).set n [U (x:Nat)]=aG (m.set n x):=by simp [aG,List.map_set]
theorem rK (n:Nat):List.replicate n [AV.v (.int .u32 0)]=aG (List.replicate n 0):=by simp [aG]
theorem u2 {m:List Nat} {lo hi:Option AV} {a b:Nat} (hlo:fT 0 b lo=some a) (hhi:fT m.length m.length hi=some b) (hb:b≤m.length):cx 1 (lm m) lo hi none=some (lm ((m.drop a).take (b - a))):=by
 simp only [lm,cx,fv,sI,if_true,hhi,hlo,Option.bind_some,Option.map_some,rj,Bool.false_eq_true,if_false,EU,MI]
theorem qa (d n:Nat):fT d n none=some d:=_root_.id rfl
theorem nW {d n:Nat} {k:IntKind} {i:Int} {a:Nat} (hi:i=a) (h:a≤n):fT d n (some (.v (.int k i)))=some a:=by
 subst hi
 simp [fT,h]
theorem aO {f:FuncId} {fd:FD} {args:List AV} {r:AV × List Ob} (hE:am.E f=none) (hC:am.C f=some fd) (hk:am.md.keep f=false) (h1:args.length=fd.np)
  (hz:oT false fd.rs fd.res 0 (au R (ab false) fd.body (oU args) (fun _=>.dead))=some r):R f args []=some r:=by
 refine J9 false hE hC hk h1 (Nat.zero_le _) ?_
 rw [Iq]
 exact hz
end Go.Ab
namespace Go.Ab
open Go Go.IntWalk
set_option maxRecDepth 4000
def vL (k:Nat) (g:Bool):Cmd:=.seq (.ops [0,1,7,8,9] [co 9 (.bin .lss (.t 8) (.t 7))]) (.seq (.cond (.t 9) (.skip) (.exit 0)) (.seq (.block 1 [0,1,7,8] (.seq (.ops [0,1,5,7,8] [cm 10 8,cm 5 10]) (.seq (.ops [0,1,5,7,8,16] [cm 11 1,cm 12 0,cm 13 5,co 14 (.iadrS k (.t 12) (.t 13)),⟨(some 15),none,.load k g (.t 14)⟩,⟨(some 16),none,.call (.t 11) [(.t 15)]⟩]) (.cond (.t 16) (.seq (.ops [4] [cm 17 5,cm 4 17]) (.ret)) (.skip))))) (.ops [0,1,7,8] [co 18 (.bin .add (.t 8) (.c (.v (.int .i64 1)))),cm 8 18])))
def An:Cmd:=.seq (.ops [4] [co 4 (.mv (.c (.v (.int .i64 (-1)))))]) (.ret)
def u3 {α:Type} (p:α→Bool):List α→Nat→Int
 | [],_=>-1
 | r::rs,n=>if p r=true then n else u3 p rs (n+1)
theorem EV {α:Type} (p:α→Bool):∀ (l:List α) (n:Nat),decide (0≤u3 p l n)=l.any p
 | [],n=>rfl
 | r::rs,n=>by
  simp only [u3,List.any_cons]
  by_cases h:p r=true
  ·simp [h]
  ·simp [h,EV p rs (n+1)]
theorem MJ {k:Nat} {g:Bool} {f:FuncId} {rows:List (List AV)} {p:List AV→Bool} (hm:(ab false).m f=[]) (hl:rows.length < 4611686018427387904)
  (hf:∀ row ∈ rows,∃ a,gF k g row 0=some a∧dat a=true∧R f (aM ((ab false).sh f) [a]) []=some (B (p row),[])):∀ (rest:List (List AV)) (n:Nat),rows.drop n=rest→n≤rows.length →
  ∀ (s:af) (h:aa),s 0=.sl k rows→s 1=.fn f [] []→s 7=I rows.length→s 8=I n →
   cp (aB 0 [] (aD (au R (ab false) (vL k g)) [0,1,7,8] [] s h)) (au R (ab false) An)=some (.ret,⟨upd (fun _=>.any) 4 (I (u3 p rest n)),fun _=>.dead⟩):=by
 intro rest
 induction rest with
 | nil =>
  intro n hd hn s h h0 h1 h7 h8
  have e:n=rows.length:=by
   have:=congrArg List.length hd
   simp at this
   omega
  subst e
  rw [av]
  generalize aD _ _ _=L
  simp only [vL,An,go_sem,h0,h1,h7,h8,↓reduceIte,adx,Int.lt_irrefl,u3]
 | cons r rest ih =>
  intro n hd hn s h h0 h1 h7 h8
  have hlt:n < rows.length:=by
   have:=congrArg List.length hd
   simp at this
   omega
  have hr:rows[n]?=some r:=by
   have:=congrArg (·[0]?) hd
   simpa using this
  obtain ⟨a,ha,hda,hc⟩:=hf r (List.mem_of_getElem? hr)
  have ih':=ih (n+1) (by rw [← List.drop_drop,hd]; rfl) hlt
  have e1:((n:Int) < (rows.length:Int))=True:=eq_true (by omega)
  have e2:aX rows (n:Int)=some (.ipt r):=by simp [aX,hr]
  have e3:IntKind.i64.wrap ((n:Int)+1)=((n+1:Nat):Int):=by rw [i64_in] <;> omega
  rw [av]
  generalize aD _ _ _=L at ih' ⊢
  simp only [vL,go_sem,h0,h1,h7,h8,↓reduceIte,adx,e1,e2,ha,qv _ hm,hda,hc,adz,ady,u3]
  cases hp:p r with
  | true=>simp only [go_sem,↓reduceIte]
  | false =>
   simp only [go_sem,↓reduceIte,adx,e3]
   exact ih' _ _ rfl rfl rfl rfl
theorem yY {fi:FuncId} {fd:FD} {k:Nat} {g:Bool} (hE:am.E fi=none) (hC:am.C fi=some fd) (hk:am.md.keep fi=false)
  (hfd:fd=⟨2,[[]],[.t 4],.seq (.ops [0,1] [co 4 (.mv (.c (.v (.int .i64 0))))]) (.seq (.seq (.ops [0,1,7,8] [cm 6 0,co 7 (.len false (.t 6)),co 8 (.mv (.c (.v (.int .i64 0))))]) (.block 0 [] (.loop [0,1,7,8] [] (vL k g)))) An)⟩)
  {f:FuncId} {rows:List (List AV)} {p:List AV→Bool} (hm:(ab false).m f=[]) (hl:rows.length < 4611686018427387904)
  (hf:∀ row ∈ rows,∃ a,gF k g row 0=some a∧dat a=true∧R f (aM ((ab false).sh f) [a]) []=some (B (p row),[])):R fi [.sl k rows,.fn f [] []] []=some (I (u3 p rows 0),[]):=by
 subst hfd
 refine aO hE hC hk rfl ?_
 have hL:=MJ (k:=k) (g:=g) hm hl hf rows 0 rfl (Nat.zero_le _)
 simp only [go_sem,↓reduceIte,adx,Tt]
 rw [hL _ _ (by simp only [go_sem,↓reduceIte]) (by simp only [go_sem,↓reduceIte,adx]) (by simp only [go_sem,↓reduceIte,adx]) (by simp only [go_sem,↓reduceIte,adx]; rfl)]
 simp only [go_sem,↓reduceIte]
def Kq (fi:FuncId):FD:=⟨2,[[]],[.t 4],.seq (.ops [0,1] [co 4 (.mv (.c (.v (.bool false))))]) (.seq (.ops [4] [cm 5 0,cm 6 1,⟨(some 7),none,.call (.c (.fn fi [] [])) [(.t 5),(.t 6)]⟩,co 8 (.bin .geq (.t 7) (.c (.v (.int .i64 0)))),cm 4 8]) (.ret))⟩
theorem vM {ci fi:FuncId} {fd:FD} {k:Nat} (hE:am.E ci=none) (hC:am.C ci=some fd) (hk:am.md.keep ci=false) (hfd:fd=Kq fi) (hm:(ab false).m fi=[]) {cs:List Sh} (hsh:(ab false).sh fi=[[.o (k+1) cs],[]])
  {rows:List (List AV)} {f:FuncId} {p:List AV→Bool} (hr:rows.map (bQ cs)=rows) (h:R fi [.sl k rows,.fn f [] []] []=some (I (u3 p rows 0),[])):R ci [.sl k rows,.fn f [] []] []=some (B (rows.any p),[]):=by
 subst hfd
 refine aO hE hC hk rfl ?_
 simp only [Kq,go_sem,↓reduceIte,adx,qv _ hm,hsh,hr,h,Me,EV]
end Go.Ab
namespace Go.Ab
open Go Go.IntWalk
set_option maxRecDepth 4000
theorem gu {i:Int} {n:Nat} (h:i=n) (hn:n < 18446744073709551616):IntKind.u64.wrap i=n:=by rw [u64_in] <;> omega
theorem wJ {i:Int} {n:Nat} (h:i=n) (hn:n < 4294967296):IntKind.u32.wrap i=n:=by rw [u32_in] <;> omega
theorem wi {i:Int} {n:Nat} (h:i=n) (hn:n < 9223372036854775808):IntKind.i64.wrap i=n:=by rw [i64_in] <;> omega
theorem IX {i:Int} {n:Nat} (h:i=n):IntKind.u32.wrap i=((n % 4294967296:Nat):Int):=by rw [IntKind.wrap_u32]; omega
theorem pt {i:Int} {n k:Nat} {kk:IntKind} {j:Int} (h:i=n) (hj:j=k) (hk:k≤64):c8 .shr (.v (.int .u64 i)) (.v (.int kk j))=some (.v (.int .u64 ((n / 2 ^ k:Nat):Int))):=by
 subst h hj
 rw [zD,if_neg (by omega)]
 have:min (k:Int).toNat IntKind.u64.bits=k:=by simp [IntKind.bits]; omega
 rw [this]
 simp only [Option.some.injEq,AV.v.injEq,Value.int.injEq,true_and]
 rw [Int.fdiv_eq_ediv_of_nonneg _ (Int.pow_nonneg (by omega))]
 simp
theorem EW {x y c:Nat} (hx:x < 4294967296) (hy:y < 4294967296) (hc:c≤1):R F.bits_Add32 [U x,U y,U c] []=some (.tup [U (((x+y+c) % 4294967296:Nat)),U (((x+y+c) / 4294967296:Nat))],[]):=by
 refine aO EP EO (yW false) rfl ?_
 have e1:IntKind.u64.wrap (x:Int)=x:=gu rfl (by omega)
 have e2:IntKind.u64.wrap (y:Int)=y:=gu rfl (by omega)
 have e3:IntKind.u64.wrap (c:Int)=c:=gu rfl (by omega)
 have e4:IntKind.u64.wrap ((x:Int)+y)=((x+y:Nat):Int):=gu (by omega) (by omega)
 have e5:IntKind.u64.wrap (((x+y:Nat):Int)+c)=((x+y+c:Nat):Int):=gu (by omega) (by omega)
 have e6:IntKind.u32.wrap ((x+y+c:Nat):Int)=(((x+y+c) % 4294967296:Nat):Int):=IX rfl
 have e7:=pt (n:=x+y+c) (k:=32) (kk:=.u64) (j:=32) rfl rfl (by omega)
 have e8:IntKind.u32.wrap (((x+y+c) / 2 ^ 32:Nat):Int)=(((x+y+c) / 4294967296:Nat):Int):=wJ rfl (by omega)
 simp only [lV,uO,go_sem,↓reduceIte,adx,e1,e2,e3,e4,e5,e6,e7,e8]
theorem OW {k:IntKind} {n:Int} (h:n ≠ 0):rj (some (.v (.int k n)))=false:=by
 unfold rj
 split
 ·rename_i h2; simp at h2; exact absurd h2.2 h
 ·rfl
theorem OX {m:List Nat} (h:m.length ≠ 0):cx 1 (lm m) none (some (I (m.length:Nat))) (some (I (m.length:Nat)))=some (lm m):=by
 have hz:rj (some (I (m.length:Nat)))=false:=OW (by omega)
 have h1:fT m.length m.length (some (I (m.length:Nat)))=some m.length:=nW rfl (Nat.le_refl _)
 simp only [cx,lm,sI,fv,h1,qa,hz,if_true,Option.bind_some,Option.map_some,Bool.false_eq_true,if_false,List.drop_zero,Nat.sub_zero,EU,List.take_length]
theorem G2 (m:List Nat):R F.slices_Clip_uint32_uint32_ [lm m] []=some (lm m,[]):=by
 refine aO nU nT (mA false) rfl ?_
 by_cases h:m.length=0
 ·have:m=[]:=List.length_eq_zero_iff.1 h
  subst this
  rfl
 ·simp only [cO,iw,go_sem,↓reduceIte,adx,OX h]
theorem Bc (m:List Nat) (h2:m.length < 4611686018427387904):∀ (n:Nat),n≤m.length→∀ (s:af) (h:aa),s 0=lm m→s 3=I n →
  aB 0 [0,3] (aD (au R (ab false) ft) [0,3] [] s h)=some (.normal,⟨upd (upd (fun _=>.any) 3 (I (fL m n))) 0 (lm m),fun _=>.dead⟩):=by
 intro n
 induction n with
 | zero =>
  intro h1 s h h3 h4
  rw [av]
  simp only [ft,go_sem,h3,h4,fL,↓reduceIte,adx,Int.natCast_zero,Int.lt_irrefl]
 | succ n ih =>
  intro h1 s h h3 h4
  have hn:n < m.length:=h1
  have e3:IntKind.i64.wrap ((n:Int)+1 - 1)=n:=wi (by omega) (by omega)
  have e1:aX (aG m) (n:Int)=some (.ipt [U (m.getD n 0:Nat)]):=ba rfl hn
  have e2:((0:Int) < (n:Int)+1)=True:=eq_true (by omega)
  have ih':=ih (by omega)
  rw [av]
  generalize aD _ _ _=L at ih' ⊢
  by_cases hz:m.getD n 0=0
  ·simp only [ft,go_sem,h3,h4,fL,↓reduceIte,adx,Int.natCast_add,Int.natCast_one,e3,e1,e2,hz,Int.natCast_zero]
   exact ih' _ _ rfl rfl
  ·simp only [ft,go_sem,h3,h4,fL,↓reduceIte,adx,Int.natCast_add,Int.natCast_one,e3,e1,e2,hz,Int.natCast_eq_zero]
theorem el {m:List Nat} (hb:Lb m) (h:m.length < 4611686018427387904):R F.natural_trim [lm m] []=some (lm (ao (ac m)),[]):=by
 refine aO Ah Ag (v7 false) rfl ?_
 have h1:cx 1 (lm m) none (some (I (fL m m.length:Nat))) none=some (lm (ao (ac m))):=by
  rw [u2 (a:=0) (b:=fL m m.length) rfl (nW rfl (oI _ _)) (oI _ _),List.drop_zero,Nat.sub_zero,wY hb]
 simp only [jV,rC,go_sem,↓reduceIte,adx,Bc m h m.length (Nat.le_refl _),h1]
def N3 (l:List (List Nat)):AV:=.sl 1 (l.map fun m=>[lm m])
theorem OY (l:List (List Nat)) (cs:List Sh):(l.map fun m=>[lm m]).map (bQ [.o 2 cs])=l.map fun m=>[nrmL (.o 2 cs) (lm m)]:=by
 simp [List.map_map,bQ]
theorem Kr (m:List Nat):R F.natural_long_1 [lm m] []=some (B (decide (256 < m.length)),[]):=by
 refine aO xF xE (tJ false) rfl ?_
 have e:decide ((256:Int) < (m.length:Int))=decide (256 < m.length):=by rw [decide_eq_decide]; omega
 simp only [im,p6,go_sem,↓reduceIte,adx,e]
theorem G3 {l:List (List Nat)} (hl:l.length < 4611686018427387904):R F.natural_long [N3 l] []=some (B (l.any fun m=>decide (256 < m.length)),[]):=by
 refine aO Aa z8 (vZ false) rfl ?_
 let p:List AV→Bool:=fun row=>match row with | [.sl _ rows]=>decide (256 < rows.length) | _=>false
 have hp:∀ m:List Nat,p [lm m]=decide (256 < m.length):=fun m=>by simp [p,lm,sI]
 have hn:(l.map fun m=>[lm m]).map (bQ [.o 2 []])=l.map fun m=>[lm m]:=by
  rw [OY]
  simp only [go_sem]
 have h1:=yY (k:=1) (g:=false) (f:=F.natural_long_1) (rows:=l.map fun m=>[lm m]) (p:=p) kW kV (jM false) rfl (p8 false) (by simpa using hl) (fun row hr=>by
  simp only [List.mem_map] at hr
  obtain ⟨m,hm,rfl⟩:=hr
  refine ⟨lm m,rfl,rfl,?_⟩
  simp only [go_sem,Kr,hp])
 have h2:=vM (k:=1) jL jK (iH false) rfl (eS false) (kt false) hn h1
 have h3:(l.map fun m=>[lm m]).any p=l.any fun m=>decide (256 < m.length):=by
  rw [List.any_map]
  congr 1
  funext m
  exact hp m
 rw [h3] at h2
 simp only [jU,rA,N3,go_sem,↓reduceIte,adx,qv _ (dZ false),hn,h2]
end Go.Ab
namespace Go.Ab
open Go Go.IntWalk
set_option maxRecDepth 4000
theorem tt {p:Prop} (h:p):p=True:=eq_true h
theorem ff {p:Prop} (h:¬ p):p=False:=eq_false h
theorem jh (a:List Nat):R F.natural_long [.sl 1 [[lm a]]] []=some (B (decide (256 < a.length)),[]):=by
 have:=G3 (l:=[a]) (by simp)
 simpa [N3] using this
theorem qb (a b:List Nat):R F.natural_long [.sl 1 [[lm a],[lm b]]] []=some (B (decide (256 < a.length) || decide (256 < b.length)),[]):=by
 have:=G3 (l:=[a,b]) (by simp)
 simpa [N3] using this
def kX (n:Nat):AV:=if 256 < (ao n).length then .tup [lm [],I 9] else .tup [lm (ao n),I 0]
theorem vN {m:List Nat} (hb:Lb m) (h:m.length < 4611686018427387904):R F.natural_done [lm m] []=some (kX (ac m),[]):=by
 refine aO Ae Ad (v6 false) rfl ?_
 by_cases hl:256 < (ao (ac m)).length
 ·simp only [gU,nK,kX,go_sem,↓reduceIte,adx,adz,ady,adA,adB,el hb h,jh,hl]
 ·simp only [gU,nK,kX,go_sem,↓reduceIte,adx,adz,ady,adA,adB,el hb h,jh,hl,G2]
theorem tu {a:List Nat} {i:Nat} (h:i < a.length):ac (a.take (i+1))=ac (a.take i)+4294967296 ^ i*a.getD i 0:=by
 rw [List.take_add_one,gZ]
 have:a[i]?.toList=[a.getD i 0]:=by simp [h]
 rw [this,List.length_take,Nat.min_eq_left (by omega)]
 simp [ac]
theorem GA {a:List Nat} {i:Nat} (h:a.length≤i):ac (a.take (i+1))=ac (a.take i)+4294967296 ^ i*a.getD i 0:=by
 rw [List.take_of_length_le (by omega),List.take_of_length_le h]
 simp [List.getD_eq_getElem?_getD,List.getElem?_eq_none h]
theorem g8 (a:List Nat) (i:Nat):ac (a.take (i+1))=ac (a.take i)+4294967296 ^ i*a.getD i 0:=by
 rcases Nat.lt_or_ge i a.length with h | h
 ·exact tu h
 ·exact GA h
def G4 (n i:Nat):Nat:=n / 4294967296 ^ i % 4294967296
theorem MK {k n i:Nat} (h:i < k):(de k n)[i]?=some (G4 n i):=by
 induction k generalizing n i with
 | zero=>omega
 | succ k ih =>
  cases i with
  | zero=>simp [de,G4]
  | succ i =>
   simp only [de,List.getElem?_cons_succ]
   rw [ih (by omega)]
   simp only [G4,Nat.pow_succ,Nat.mul_comm _ 4294967296,Nat.div_div_eq_div_mul]
theorem EX {k n:Nat} {l:List Nat} (hl:l.length=k) (h:∀ i,i < k→l.getD i 0=G4 n i):l=de k n:=by
 refine List.ext_getElem? fun i=>?_
 rcases Nat.lt_or_ge i k with hi | hi
 ·rw [MK hi]
  have:=h i hi
  rw [List.getD_eq_getElem?_getD,List.getElem?_eq_getElem (by omega)] at this
  rw [List.getElem?_eq_getElem (by omega)]
  exact congrArg some this
 ·rw [List.getElem?_eq_none (by omega),List.getElem?_eq_none (by rw [ct]; omega)]
def dB (a b:List Nat):Nat→Nat
 | 0=>0
 | i+1=>(a.getD i 0+b.getD i 0+dB a b i) / 4294967296
def qc (a b:List Nat) (i:Nat):Nat:=(a.getD i 0+b.getD i 0+dB a b i) % 4294967296
theorem rL {a b:List Nat} (ha:Lb a) (hb:Lb b):∀ i,dB a b i≤1
 | 0=>by simp [dB]
 | i+1=>by
  have h1:=bP ha i
  have h2:=bP hb i
  have h3:=rL ha hb i
  simp only [dB]
  omega
def cT (a b:List Nat) (i:Nat):List Nat:=(List.range i).map (qc a b)
theorem qd (f:Nat→Nat) (i:Nat):ac ((List.range (i+1)).map f)=ac ((List.range i).map f)+4294967296 ^ i*f i:=by
 rw [List.range_succ,List.map_append,gZ]
 simp [ac]
theorem xL (a b:List Nat):∀ i,ac (cT a b i)+4294967296 ^ i*dB a b i=ac (a.take i)+ac (b.take i)
 | 0=>by simp [cT,dB,ac]
 | i+1=>by
  have ih:=xL a b i
  rw [g8 a i,g8 b i]
  simp only [cT] at ih ⊢
  rw [qd,Nat.pow_succ]
  have e:dB a b (i+1)*4294967296+qc a b i=a.getD i 0+b.getD i 0+dB a b i:=by
   simp only [dB,qc]
   omega
  have h1:4294967296 ^ i*4294967296*dB a b (i+1)+4294967296 ^ i*qc a b i=4294967296 ^ i*(a.getD i 0+b.getD i 0+dB a b i):=by
   rw [← e,Nat.mul_add,Nat.mul_assoc,Nat.mul_comm 4294967296]
  simp only [Nat.mul_add] at h1
  omega
theorem dk (a b:List Nat) (i:Nat):(cT a b i).length=i:=by simp [cT]
theorem G5 (a b:List Nat) (i:Nat):Lb (cT a b i):=fun x hx=>by
 simp only [cT,List.mem_map] at hx
 obtain ⟨j,_,rfl⟩:=hx
 simp only [qc]
 omega
theorem ML {a b:List Nat} (ha:Lb a) (hb:Lb b) (hl:b.length≤a.length):cT a b a.length++[dB a b a.length]=de (a.length+1) (ac a+ac b):=by
 have h:=xL a b a.length
 rw [List.take_length,List.take_of_length_le hl] at h
 have h1:Lb (cT a b a.length++[dB a b a.length]):=qB.2 ⟨G5 _ _ _,nO.2 ⟨by have:=rL ha hb a.length; omega,yE⟩⟩
 have h2:ac (cT a b a.length++[dB a b a.length])=ac a+ac b:=by
  rw [gZ,dk]
  simp only [ac]
  omega
 rw [← h2]
 have:=wX h1
 simpa [dk] using this.symm
theorem sJ {α:Type} (l:List α) (n:Nat) (x z:α) (h:0 < n):(l++List.replicate n z).set l.length x=(l++[x])++List.replicate (n - 1) z:=by
 obtain ⟨n,rfl⟩:∃ m,n=m+1:=⟨n - 1,by omega⟩
 rw [List.replicate_succ,List.set_append_right _ _ (Nat.le_refl _)]
 simp
theorem MM {a b:List Nat} (ha:Lb a) (hb:Lb b) (hl:b.length≤a.length) (h2:a.length < 4611686018427387904):∀ (k i:Nat),i+k=a.length→∀ (s:af) (h:aa),s 0=lm a→s 1=lm b→s 5=.rsl 20 none 1 0 (a.length+1)→s 6=U (dB a b i:Nat) →
  s 21=lm a→s 22=I (a.length:Nat)→s 23=I i→h 20=.ar 1 (aG (cT a b i++List.replicate (k+1) 0)) →
  aB 0 [0,5,6] (aD (au R (ab false) ek) [0,1,5,6,21,22,23] [20] s h) =
   some (.normal,⟨upd (upd (upd (fun _=>.any) 6 (U (dB a b a.length:Nat))) 5 (.rsl 20 none 1 0 (a.length+1))) 0 (lm a),upd (fun _=>.dead) 20 (.ar 1 (aG (cT a b a.length++[0])))⟩):=by
 intro k
 induction k with
 | zero =>
  intro i hi s h h0 h1 h5 h6 h21 h22 h23 hh
  have:i=a.length:=by omega
  subst this
  rw [av]
  simp only [ek,go_sem,↓reduceIte,adx,ady,h0,h1,h5,h6,h21,h22,h23,hh,Int.lt_irrefl,List.contains_cons,BEq.rfl,Bool.true_or]
 | succ k ih =>
  intro i hi s h h0 h1 h5 h6 h21 h22 h23 hh
  have ih':=ih (i+1) (by omega)
  have e1:((i:Int) < (a.length:Int))=True:=tt (by omega)
  have e2:aX (aG a) (i:Int)=some (.ipt [U (a.getD i 0:Nat)]):=ba rfl (by omega)
  have e3:IntKind.i64.wrap ((i:Int)+1)=((i+1:Nat):Int):=wi (by omega) (by omega)
  have e4:(0≤(i:Int))=True:=tt (by omega)
  have e5:((i:Int) < ((a.length+1:Nat):Int))=True:=tt (by omega)
  have e6:=EW (bP ha i) (bP hb i) (rL ha hb i)
  have e7:(aG (cT a b i++List.replicate (k+1+1) 0))[i]?=some [U (0:Nat)]:=by
   rw [vJ (by simp [dk])]
   simp [List.getD_eq_getElem?_getD,dk]
  have e8:(aG (cT a b i++List.replicate (k+1+1) 0)).set i [U ((a.getD i 0+b.getD i 0+dB a b i) % 4294967296:Nat)]=aG (cT a b (i+1)++List.replicate (k+1) 0):=by
   rw [vK]
   have:=sJ (cT a b i) (k+1+1) (qc a b i) 0 (by omega)
   rw [dk] at this
   rw [show (a.getD i 0+b.getD i 0+dB a b i) % 4294967296=qc a b i from rfl,this]
   simp [cT,List.range_succ]
  rw [av]
  generalize aD _ _ _=L at ih' ⊢
  by_cases hb':i < b.length
  ·have e9:((i:Int) < (b.length:Int))=True:=tt (by omega)
   have e10:aX (aG b) (i:Int)=some (.ipt [U (b.getD i 0:Nat)]):=ba rfl hb'
   simp only [ek,go_sem,↓reduceIte,adx,adz,ady,adA,h0,h1,h5,h6,h21,h22,h23,hh,List.contains_cons,BEq.rfl,Bool.true_or,e1,e2,e3,e4,e5,e6,e7,e8,e9,e10,Int.toNat_natCast,Nat.zero_add]
   exact ih' _ _ rfl rfl rfl rfl rfl rfl rfl rfl
  ·have e9:((i:Int) < (b.length:Int))=False:=ff (by omega)
   have e10:b.getD i 0=0:=by simp [List.getD_eq_getElem?_getD,List.getElem?_eq_none (show b.length≤i from by omega)]
   have e6':=EW (bP ha i) (y:=0) (by omega) (rL ha hb i)
   simp only [Int.natCast_zero] at e6'
   have e8':(aG (cT a b i++List.replicate (k+1+1) 0)).set i [U ((a.getD i 0+0+dB a b i) % 4294967296:Nat)]=aG (cT a b (i+1)++List.replicate (k+1) 0):=by
    have e8':=e8
    rw [e10] at e8'
    exact e8'
   simp only [ek,go_sem,↓reduceIte,adx,adz,ady,adA,h0,h1,h5,h6,h21,h22,h23,hh,List.contains_cons,BEq.rfl,Bool.true_or,e1,e2,e3,e4,e5,e7,e8',e9,Int.toNat_natCast,Nat.zero_add,e6']
   refine ih' _ _ rfl rfl rfl ?_ rfl rfl rfl rfl
   simp only [dB,e10]
   rfl
theorem oL {i j:Int} {l c:Nat} (hi:i=l) (hj:j=c) (h:l≤c) (hc:c < 9223372036854775808):r9 (I i) (I j)=some (l,c):=by
 subst hi hj
 simp only [r9]
 rw [if_pos (by omega)]
 simp
def xM:Cmd:=.seq (.ops [0,1,5] [cm 17 0,co 18 (.len false (.t 17)),co 19 (.bin .add (.t 18) (.c (.v (.int .i64 1)))),⟨(some 20),none,.mkSl 1 [(.v (.int .u32 0))] 4 (.t 19) (.t 19)⟩,cm 5 20]) (.seq (.ops [0,1,5,6] [co 6 (.mv (.c (.v (.int .u32 0))))]) (.seq (.seq (.ops [0,1,5,6,21,22,23] [cm 21 0,co 22 (.len false (.t 21)),co 23 (.mv (.c (.v (.int .i64 0))))]) (.block 0 [0,5,6] (.loop [0,1,5,6,21,22,23] [20] ek))) (.seq (.ops [5] [cm 47 5,cm 48 0,co 49 (.len false (.t 48)),cm 50 6,co 51 (.iadrS 1 (.t 47) (.t 49)),⟨none,none,.store 1 (.t 51) (.t 50)⟩]) (.seq (.ops [4] [cm 52 5,cm 4 52]) (.ret)))))
theorem EY {a b:List Nat} (ha:Lb a) (hb:Lb b) (hl:b.length≤a.length) (h2:a.length≤100000):∀ (s:af),s 0=lm a→s 1=lm b →
  au R (ab false) xM s (fun _=>.dead)=some (.ret,⟨upd (fun _=>.any) 4 (.rsl 20 none 1 0 (a.length+1)),upd (upd (fun _=>.dead) 20 (.ar 1 (aG (cT a b a.length++[0])))) 20 (.ar 1 (aG (de (a.length+1) (ac a+ac b))))⟩):=by
 intro s h0 h1
 have e1:IntKind.i64.wrap ((a.length:Int)+1)=((a.length+1:Nat):Int):=wi (by omega) (by omega)
 have e2:=oL (i:=((a.length+1:Nat):Int)) (j:=((a.length+1:Nat):Int)) (l:=a.length+1) (c:=a.length+1) rfl rfl (Nat.le_refl _) (by omega)
 have e3:((a.length+1)*4≤140737488355328)=True:=tt (by omega)
 have e4:=MM ha hb hl (by omega) a.length 0 (by omega)
 have e5:aG (List.replicate (a.length+1) 0)=aG (cT a b 0++List.replicate (a.length+1) 0):=rfl
 have e6:(0≤(a.length:Int))=True:=tt (by omega)
 have e7:((a.length:Int) < ((a.length+1:Nat):Int))=True:=tt (by omega)
 have e8:(aG (cT a b a.length++[0]))[a.length]?=some [U (0:Nat)]:=by
  rw [vJ (by simp [dk])]
  simp [List.getD_eq_getElem?_getD,dk]
 have e9:(aG (cT a b a.length++[0])).set a.length [U (dB a b a.length:Nat)]=aG (de (a.length+1) (ac a+ac b)):=by
  rw [vK]
  have:=sJ (cT a b a.length) 1 (dB a b a.length) 0 (by omega)
  rw [dk] at this
  rw [show [0]=List.replicate 1 0 from rfl,this]
  simp only [Nat.sub_self,List.replicate_zero,List.append_nil]
  rw [ML ha hb hl]
 simp only [xM,go_sem,↓reduceIte,adx,h0,h1,e1,e2,e3,rK,e5]
 rw [e4 _ _ rfl rfl rfl rfl rfl rfl rfl rfl]
 simp only [go_sem,↓reduceIte,adx,adA,e6,e7,e8,e9,Int.toNat_natCast,Nat.zero_add]
theorem EZ:te=.seq (.ops [0,1] [co 4 (.mv (.c .emp))]) (.seq (.seq (.ops [0,1,14] [cm 10 0,co 11 (.len false (.t 10)),cm 12 1,co 13 (.len false (.t 12)),co 14 (.bin .lss (.t 11) (.t 13))]) (.cond (.t 14) (.ops [0,1] [cm 15 1,cm 16 0,cm 0 15,cm 1 16]) (.skip))) xM):=rfl
theorem Ks {a b:List Nat} (ha:Lb a) (hb:Lb b) (h1:a.length≤100000) (h2:b.length≤100000):R F.natural_add [lm a,lm b] []=some (lm (de (max a.length b.length+1) (ac a+ac b)),[]):=by
 refine aO Cy Cx (xI false) rfl ?_
 by_cases h:a.length < b.length
 ·have e1:((a.length:Int) < (b.length:Int))=True:=tt (by omega)
  have e2:=EY hb ha (by omega) h2
  simp only [iB,EZ,go_sem,↓reduceIte,adx,e1]
  rw [e2 _ rfl rfl]
  simp only [go_sem,↓reduceIte,adA,ct,Nat.zero_add,Nat.le_refl]
  rw [Nat.max_eq_right (by omega),Nat.add_comm (ac a)]
 ·have e1:((a.length:Int) < (b.length:Int))=False:=ff (by omega)
  have e2:=EY ha hb (by omega) h1
  simp only [iB,EZ,go_sem,↓reduceIte,adx,e1]
  rw [e2 _ rfl rfl]
  simp only [go_sem,↓reduceIte,adA,ct,Nat.zero_add,Nat.le_refl]
  rw [Nat.max_eq_left (by omega)]
theorem QO {a b:List Nat} (ha:Lb a) (hb:Lb b) (h1:a.length≤256) (h2:b.length≤256):R F.natural_Add [lm a,lm b] []=some (kX (ac a+ac b),[]):=by
 refine aO Cd Cc (xx false) rfl ?_
 have e1:(256 < a.length)=False:=ff (by omega)
 have e2:(256 < b.length)=False:=ff (by omega)
 have e3:ac (de (max a.length b.length+1) (ac a+ac b))=ac a+ac b:=by
  rw [l9,Nat.mod_eq_of_lt]
  have h1:=dO ha
  have h2:=dO hb
  have h3:4294967296 ^ a.length≤4294967296 ^ max a.length b.length:=Nat.pow_le_pow_right (by omega) (by omega)
  have h4:4294967296 ^ b.length≤4294967296 ^ max a.length b.length:=Nat.pow_le_pow_right (by omega) (by omega)
  rw [Nat.pow_succ]
  omega
 have e4:=vN (pz (max a.length b.length+1) (ac a+ac b)) (by rw [ct]; omega)
 rw [e3] at e4
 unfold kX at e4 ⊢
 by_cases hl:256 < (ao (ac a+ac b)).length
 ·simp only [hl,if_true] at e4 ⊢
  simp only [ix,o5,go_sem,↓reduceIte,adx,adz,ady,adA,adB,e1,e2,qb,Ks ha hb (by omega) (by omega),e4]
 ·simp only [hl,if_false] at e4 ⊢
  simp only [ix,o5,go_sem,↓reduceIte,adx,adz,ady,adA,adB,e1,e2,qb,Ks ha hb (by omega) (by omega),e4]
end Go.Ab
namespace Go.Ab
open Go Go.IntWalk
set_option maxRecDepth 4000
def bV (x y:Nat):Int:=if x < y then -1 else if y < x then 1 else 0
theorem kY {x y:Nat} (h:(ao x).length < (ao y).length):x < y:=by
 have h1:=lY x
 have hy:y ≠ 0:=by rintro rfl; rw [dN] at h; simp at h
 have h2:=J7 hy
 have h3:4294967296 ^ (ao x).length≤4294967296 ^ ((ao y).length - 1):=Nat.pow_le_pow_right (by omega) (by omega)
 omega
def jA:Cmd:=.seq (.ops [4] [co 4 (.mv (.c (.v (.int .i64 0))))]) (.ret)
theorem MN {a b:List Nat} (ha:Lb a) (hb:Lb b) (hl:a.length=b.length) (h2:a.length≤100000):∀ (k:Nat),k≤a.length→∀ (s:af) (h:aa),s 0=lm a→s 1=lm b→s 5=I ((k:Int) - 1) →
  cp (aB 0 [] (aD (au R (ab false) dx) [0,1,5] [] s h)) (au R (ab false) jA)=some (.ret,⟨upd (fun _=>.any) 4 (I (bV (ac (a.take k)) (ac (b.take k)))),fun _=>.dead⟩):=by
 intro k
 induction k with
 | zero =>
  intro hk s h h0 h1 h5
  rw [av]
  generalize aD _ _ _=L
  have e1:(0≤((0:Nat):Int) - 1)=False:=ff (by omega)
  have e2:bV (ac []) (ac [])=0:=rfl
  simp only [dx,jA,go_sem,↓reduceIte,adx,h0,h1,h5,e1,e2]
 | succ k ih =>
  intro hk s h h0 h1 h5
  have ih':=ih (by omega)
  have e1:(0≤((k+1:Nat):Int) - 1)=True:=tt (by omega)
  have e2:aX (aG a) (((k+1:Nat):Int) - 1)=some (.ipt [U (a.getD k 0:Nat)]):=ba (by omega) (by omega)
  have e3:aX (aG b) (((k+1:Nat):Int) - 1)=some (.ipt [U (b.getD k 0:Nat)]):=ba (by omega) (by omega)
  have e4:IntKind.i64.wrap (((k+1:Nat):Int) - 1 - 1)=(k:Int) - 1:=by rw [i64_in] <;> omega
  have va:=g8 a k
  have vb:=g8 b k
  have la:=dO (py ha k)
  have lb:=dO (py hb k)
  rw [List.length_take,Nat.min_eq_left (by omega)] at la lb
  rw [av]
  generalize aD _ _ _=L at ih' ⊢
  rcases Nat.lt_trichotomy (a.getD k 0) (b.getD k 0) with hlt | heq | hgt
  ·have e5:((a.getD k 0:Int) < (b.getD k 0:Int))=True:=tt (by omega)
   have e6:bV (ac (a.take (k+1))) (ac (b.take (k+1)))=-1:=by
    have:4294967296 ^ k*(a.getD k 0+1)≤4294967296 ^ k*b.getD k 0:=Nat.mul_le_mul_left _ hlt
    rw [Nat.mul_add] at this
    simp only [bV]
    rw [if_pos (by omega)]
   simp only [dx,jA,go_sem,↓reduceIte,adx,h0,h1,h5,e1,e2,e3,e5,e6]
  ·have e5:((a.getD k 0:Int) < (b.getD k 0:Int))=False:=ff (by omega)
   have e7:((b.getD k 0:Int) < (a.getD k 0:Int))=False:=ff (by omega)
   have e6:bV (ac (a.take (k+1))) (ac (b.take (k+1)))=bV (ac (a.take k)) (ac (b.take k)):=by
    rw [va,vb,heq]
    simp only [bV]
    repeat' split
    all_goals first | rfl | omega
   simp only [dx,go_sem,↓reduceIte,adx,h0,h1,h5,e1,e2,e3,e5,e6,e7,e4]
   exact ih' _ _ rfl rfl rfl
  ·have e5:((a.getD k 0:Int) < (b.getD k 0:Int))=False:=ff (by omega)
   have e7:((b.getD k 0:Int) < (a.getD k 0:Int))=True:=tt (by omega)
   have e6:bV (ac (a.take (k+1))) (ac (b.take (k+1)))=1:=by
    have:4294967296 ^ k*(b.getD k 0+1)≤4294967296 ^ k*a.getD k 0:=Nat.mul_le_mul_left _ hgt
    rw [Nat.mul_add] at this
    simp only [bV]
    rw [if_neg (by omega),if_pos (by omega)]
   simp only [dx,jA,go_sem,↓reduceIte,adx,h0,h1,h5,e1,e2,e3,e5,e6,e7]
theorem xN:td=.seq (.ops [0,1] [co 4 (.mv (.c (.v (.int .i64 0))))]) (.seq (.ops [0,1] [cm 6 0,⟨(some 7),none,.call (.c (.fn F.natural_trim [] [])) [(.t 6)]⟩,cm 8 1,⟨(some 9),none,.call (.c (.fn F.natural_trim [] [])) [(.t 8)]⟩,cm 0 7,cm 1 9]) (.seq (.seq (.ops [0,1,14] [cm 10 0,co 11 (.len false (.t 10)),cm 12 1,co 13 (.len false (.t 12)),co 14 (.bin .neq (.t 11) (.t 13))]) (.cond (.t 14) (.seq (.seq (.ops [19] [cm 15 0,co 16 (.len false (.t 15)),cm 17 1,co 18 (.len false (.t 17)),co 19 (.bin .lss (.t 16) (.t 18))]) (.cond (.t 19) (.seq (.ops [4] [co 4 (.mv (.c (.v (.int .i64 (-1)))))]) (.ret)) (.skip))) (.seq (.ops [4] [co 4 (.mv (.c (.v (.int .i64 1))))]) (.ret))) (.skip))) (.seq (.seq (.ops [0,1,5] [cm 20 0,co 21 (.len false (.t 20)),co 22 (.bin .sub (.t 21) (.c (.v (.int .i64 1)))),cm 5 22]) (.block 0 [] (.loop [0,1,5] [] dx))) jA))):=rfl
theorem dq (m:List Nat) (h:Lb m):(ao (ac m)).length≤m.length:=lX (dO h)
theorem yZ {a b:List Nat} (ha:Lb a) (hb:Lb b) (h1:a.length≤100000) (h2:b.length≤100000):R F.natural_Cmp [lm a,lm b] []=some (I (bV (ac a) (ac b)),[]):=by
 refine aO Cg Cf (xy false) rfl ?_
 have la:=dq a ha
 have lb:=dq b hb
 rcases Nat.lt_trichotomy (ao (ac a)).length (ao (ac b)).length with hlt | heq | hgt
 ·have e1:((ao (ac a)).length:Int)=((ao (ac b)).length:Int)↔False:=⟨fun h=>by omega,False.elim⟩
  have e2:(((ao (ac a)).length:Int) < ((ao (ac b)).length:Int))=True:=tt (by omega)
  have e3:bV (ac a) (ac b)=-1:=by simp [bV,kY hlt]
  simp only [fP,xN,go_sem,↓reduceIte,adx,adz,ady,el ha (by omega),el hb (by omega),e1,e2,e3]
 ·have e1:(((ao (ac a)).length:Int)=((ao (ac b)).length:Int))=True:=tt (by omega)
  have e2:IntKind.i64.wrap (((ao (ac b)).length:Int) - 1)=((ao (ac b)).length:Int) - 1:=by rw [i64_in] <;> omega
  have e3:=MN (bk (ac a)) (bk (ac b)) heq (by omega) (ao (ac a)).length (Nat.le_refl _)
  rw [List.take_length,heq,List.take_length,aV,aV] at e3
  simp only [fP,xN,go_sem,↓reduceIte,adx,adz,ady,el ha (by omega),el hb (by omega),heq,e2]
  rw [e3 _ _ rfl rfl rfl]
  simp only [go_sem,↓reduceIte]
 ·have e1:((ao (ac a)).length:Int)=((ao (ac b)).length:Int)↔False:=⟨fun h=>by omega,False.elim⟩
  have e2:(((ao (ac a)).length:Int) < ((ao (ac b)).length:Int))=False:=ff (by omega)
  have e3:bV (ac a) (ac b)=1:=by
   have:=kY hgt
   simp only [bV]
   rw [if_neg (by omega),if_pos this]
  simp only [fP,xN,go_sem,↓reduceIte,adx,adz,ady,el ha (by omega),el hb (by omega),e1,e2,e3]
theorem OZ (v:BitVec 32):v.toNat / 2147483648=if v.msb=true then 1 else 0:=by
 have h:=v.isLt
 rw [BitVec.msb_eq_decide]
 split <;> rename_i h1 <;> simp at h1 <;> omega
theorem IY {x y c:Nat} (hx:x < 4294967296) (hy:y < 4294967296) (hc:c≤1) (D:BitVec 32) (hD:D.toNat=(x+4294967296 - y - c) % 4294967296) :
  ((~~~(BitVec.ofNat 32 x) &&& BitVec.ofNat 32 y) ||| (~~~(BitVec.ofNat 32 x ^^^ BitVec.ofNat 32 y) &&& D)).toNat / 2147483648=if x < y+c then 1 else 0:=by
 rw [OZ]
 have h1:(BitVec.ofNat 32 x).msb=decide (2147483648≤x):=by rw [BitVec.msb_eq_decide]; simp; omega
 have h2:(BitVec.ofNat 32 y).msb=decide (2147483648≤y):=by rw [BitVec.msb_eq_decide]; simp; omega
 have h3:D.msb=decide (2147483648≤(x+4294967296 - y - c) % 4294967296):=by rw [BitVec.msb_eq_decide,hD]
 rw [BitVec.msb_or,BitVec.msb_and,BitVec.msb_and,BitVec.msb_not,BitVec.msb_not,BitVec.msb_xor,h1,h2,h3]
 by_cases a1:2147483648≤x <;> by_cases a2:2147483648≤y <;> by_cases a3:x < y+c <;> simp [a1,a2,a3] <;> omega
theorem ofI (n:Nat):BitVec.ofInt 32 (n:Int)=BitVec.ofNat 32 n:=by simp
theorem YH (v:BitVec 32):IntKind.u32.wrap (v.toNat:Int)=(v.toNat:Int):=by
 have:=v.isLt
 rw [IntKind.wrap_u32]
 omega
theorem E0 {x y c:Nat} (hx:x < 4294967296) (hy:y < 4294967296) (hc:c≤1):R F.bits_Sub32 [U x,U y,U c] []=some (.tup [U (((x+4294967296 - y - c) % 4294967296:Nat)),U ((if x < y+c then 1 else 0:Nat))],[]):=by
 refine aO ES ER (yX false) rfl ?_
 have e1:IntKind.u32.wrap ((x:Int) - y)=(((x+4294967296 - y) % 4294967296:Nat):Int):=by rw [IntKind.wrap_u32]; omega
 have e2:IntKind.u32.wrap ((((x+4294967296 - y) % 4294967296:Nat):Int) - c)=(((x+4294967296 - y - c) % 4294967296:Nat):Int):=by rw [IntKind.wrap_u32]; omega
 have b:IntKind.u32.bits=32:=rfl
 have e3:BitVec.ofInt 32 (if IntKind.u32.signed=true then (-1:Int) else IntKind.u32.max)=BitVec.allOnes 32:=by decide
 have e4:∀ v:BitVec 32,BitVec.allOnes 32 ^^^ v = ~~~v:=fun v=>BitVec.not_def.symm
 have e5:∀ v:BitVec 32,BitVec.ofNat 32 v.toNat=v:=fun v=>by simp
 have key:=IY hx hy hc (BitVec.ofNat 32 ((x+4294967296 - y - c) % 4294967296)) (by simp)
 have sh:∀ v:BitVec 32,c8 .shr (.v (.int .u32 (v.toNat:Int))) (.v (.int .u64 31))=some (.v (.int .u32 ((v.toNat / 2147483648:Nat):Int))):=fun v=>by
  rw [zD,if_neg (by decide)]
  simp only [b,show min (31:Int).toNat 32=31 from rfl,Option.some.injEq,AV.v.injEq,Value.int.injEq,true_and]
  rw [Int.fdiv_eq_ediv_of_nonneg _ (by decide)]
  omega
 simp only [lW,uP,go_sem,↓reduceIte,adx,e1,e2,ofI,e3,e5,YH,sh]
 rw [← e4,← e4] at key
 exact congrArg (fun n:Nat=>some (AV.tup [AV.v (Value.int IntKind.u32 ((x+4294967296 - y - c) % 4294967296:Nat)),U (n:Int)],([]:List Ob))) key
def eU (a b:List Nat):Nat→Nat
 | 0=>0
 | i+1=>if a.getD i 0 < b.getD i 0+eU a b i then 1 else 0
def qe (a b:List Nat) (i:Nat):Nat:=(a.getD i 0+4294967296 - b.getD i 0 - eU a b i) % 4294967296
def dF (a b:List Nat) (i:Nat):List Nat:=(List.range i).map (qe a b)
theorem rM (a b:List Nat) (i:Nat):eU a b i≤1:=by
 cases i with
 | zero=>simp [eU]
 | succ i=>simp only [eU]; split <;> omega
theorem E1 {a b:List Nat} (ha:Lb a) (hb:Lb b):∀ i,ac (dF a b i)+ac (b.take i)=ac (a.take i)+4294967296 ^ i*eU a b i
 | 0=>by simp [dF,eU,ac]
 | i+1=>by
  have ih:=E1 ha hb i
  rw [g8 a i,g8 b i]
  simp only [dF] at ih ⊢
  rw [qd,Nat.pow_succ]
  have h1:=bP ha i
  have h2:=bP hb i
  have h3:=rM a b i
  have e:qe a b i+b.getD i 0+eU a b i=a.getD i 0+4294967296*eU a b (i+1):=by
   simp only [qe,eU]
   split <;> omega
  have h4:4294967296 ^ i*(qe a b i+b.getD i 0+eU a b i)=4294967296 ^ i*(a.getD i 0+4294967296*eU a b (i+1)):=by rw [e]
  simp only [Nat.mul_add] at h4
  rw [← Nat.mul_assoc] at h4
  omega
theorem hG (a b:List Nat) (i:Nat):(dF a b i).length=i:=by simp [dF]
theorem Ao (a b:List Nat) (i:Nat):Lb (dF a b i):=fun x hx=>by
 simp only [dF,List.mem_map] at hx
 obtain ⟨j,_,rfl⟩:=hx
 simp only [qe]
 omega
theorem E2 {a b:List Nat} (ha:Lb a) (hb:Lb b) (hl:b.length≤a.length) (hv:ac b≤ac a):dF a b a.length=de a.length (ac a - ac b):=by
 have h:=E1 ha hb a.length
 rw [List.take_length,List.take_of_length_le hl] at h
 have h1:=dO (Ao a b a.length)
 rw [hG] at h1
 have hz:eU a b a.length=0:=by
  have:=rM a b a.length
  rcases Nat.eq_zero_or_pos (eU a b a.length) with h0 | h0
  ·exact h0
  ·have:eU a b a.length=1:=by omega
   rw [this] at h
   omega
 rw [hz] at h
 have h2:=wX (Ao a b a.length)
 rw [hG,show ac (dF a b a.length)=ac a - ac b from by omega] at h2
 exact h2.symm
theorem MO {a b:List Nat} (ha:Lb a) (hb:Lb b) (h2:a.length≤100000):∀ (k i:Nat),i+k=a.length→∀ (s:af) (h:aa),s 1=lm b→s 5=.rsl 16 none 1 0 a.length→s 6=U (eU a b i:Nat) →
  s 17=lm a→s 18=I (a.length:Nat)→s 19=I i→h 16=.ar 1 (aG (dF a b i++List.replicate k 0)) →
  aB 0 [5] (aD (au R (ab false) gh) [1,5,6,17,18,19] [16] s h) =
   some (.normal,⟨upd (fun _=>.any) 5 (.rsl 16 none 1 0 a.length),upd (fun _=>.dead) 16 (.ar 1 (aG (dF a b a.length)))⟩):=by
 intro k
 induction k with
 | zero =>
  intro i hi s h h1 h5 h6 h17 h18 h19 hh
  have:i=a.length:=by omega
  subst this
  rw [av]
  simp only [List.replicate_zero,List.append_nil] at hh
  simp only [gh,go_sem,↓reduceIte,adx,adC,h1,h5,h6,h17,h18,h19,hh,Int.lt_irrefl]
 | succ k ih =>
  intro i hi s h h1 h5 h6 h17 h18 h19 hh
  have ih':=ih (i+1) (by omega)
  have e1:((i:Int) < (a.length:Int))=True:=tt (by omega)
  have e2:aX (aG a) (i:Int)=some (.ipt [U (a.getD i 0:Nat)]):=ba rfl (by omega)
  have e3:IntKind.i64.wrap ((i:Int)+1)=((i+1:Nat):Int):=wi (by omega) (by omega)
  have e4:(0≤(i:Int))=True:=tt (by omega)
  have e7:(aG (dF a b i++List.replicate (k+1) 0))[i]?=some [U (0:Nat)]:=by
   rw [vJ (by simp [hG])]
   simp [List.getD_eq_getElem?_getD,hG]
  have e8:(aG (dF a b i++List.replicate (k+1) 0)).set i [U ((a.getD i 0+4294967296 - b.getD i 0 - eU a b i) % 4294967296:Nat)]=aG (dF a b (i+1)++List.replicate k 0):=by
   rw [vK]
   have:=sJ (dF a b i) (k+1) (qe a b i) 0 (by omega)
   rw [hG] at this
   rw [show (a.getD i 0+4294967296 - b.getD i 0 - eU a b i) % 4294967296=qe a b i from rfl,this]
   simp [dF,List.range_succ]
  rw [av]
  generalize aD _ _ _=L at ih' ⊢
  by_cases hb':i < b.length
  ·have e6:=E0 (bP ha i) (bP hb i) (rM a b i)
   have e9:((i:Int) < (b.length:Int))=True:=tt (by omega)
   have e10:aX (aG b) (i:Int)=some (.ipt [U (b.getD i 0:Nat)]):=ba rfl hb'
   simp only [gh,go_sem,↓reduceIte,adx,adz,ady,adA,adC,h1,h5,h6,h17,h18,h19,hh,e1,e2,e3,e4,e6,e7,e8,e9,e10,Int.toNat_natCast,Nat.zero_add]
   exact ih' _ _ rfl rfl rfl rfl rfl rfl rfl
  ·have e9:((i:Int) < (b.length:Int))=False:=ff (by omega)
   have e10:b.getD i 0=0:=by simp [List.getD_eq_getElem?_getD,List.getElem?_eq_none (show b.length≤i from by omega)]
   have e6':=E0 (bP ha i) (y:=0) (by omega) (rM a b i)
   simp only [Int.natCast_zero] at e6'
   have e8':(aG (dF a b i++List.replicate (k+1) 0)).set i [U ((a.getD i 0+4294967296 - 0 - eU a b i) % 4294967296:Nat)]=aG (dF a b (i+1)++List.replicate k 0):=by
    have e8':=e8
    rw [e10] at e8'
    exact e8'
   simp only [gh,go_sem,↓reduceIte,adx,adz,ady,adA,adC,h1,h5,h6,h17,h18,h19,hh,e1,e2,e3,e4,e6',e7,e8',e9,Int.toNat_natCast,Nat.zero_add]
   refine ih' _ _ rfl rfl ?_ rfl rfl rfl rfl
   simp only [eU,e10,Nat.zero_add]
   rfl
theorem Kt {a b:List Nat} (ha:Lb a) (hb:Lb b) (h1:a.length≤100000) (h2:b.length≤100000) (hv:ac b≤ac a):R F.natural_sub [lm a,lm b] []=some (lm (de (ao (ac a)).length (ac a - ac b)),[]):=by
 refine aO CB CA (xJ false) rfl ?_
 have la:=dq a ha
 have lb:(ao (ac b)).length≤(ao (ac a)).length:=by
  rcases Nat.lt_or_ge (ao (ac a)).length (ao (ac b)).length with h | h
  ·have:=kY h; omega
  ·exact h
 have e2:=oL (i:=((ao (ac a)).length:Int)) (j:=((ao (ac a)).length:Int)) rfl rfl (Nat.le_refl _) (by omega)
 have e3:((ao (ac a)).length*4≤140737488355328)=True:=tt (by omega)
 have e4:=MO (bk (ac a)) (bk (ac b)) (by omega) (ao (ac a)).length 0 (by omega)
 have e5:aG (List.replicate (ao (ac a)).length 0)=aG (dF (ao (ac a)) (ao (ac b)) 0++List.replicate (ao (ac a)).length 0):=rfl
 have e6:=E2 (bk (ac a)) (bk (ac b)) lb (by rw [aV,aV]; exact hv)
 rw [aV,aV] at e6
 simp only [kP,th,go_sem,↓reduceIte,adx,adz,ady,el ha (by omega),el hb (by omega),e2,e3,rK,e5]
 rw [e4 _ _ rfl rfl rfl rfl rfl rfl rfl]
 simp only [go_sem,↓reduceIte,adA,adB,e6,ct,Nat.zero_add,Nat.le_refl]
theorem QP {a b:List Nat} (ha:Lb a) (hb:Lb b) (h1:a.length≤256) (h2:b.length≤256):R F.natural_Sub [lm a,lm b] []=some (if ac a < ac b then .tup [lm [],I 2] else kX (ac a - ac b),[]):=by
 refine aO Cj Ci (xz false) rfl ?_
 have e1:(256 < a.length)=False:=ff (by omega)
 have e2:(256 < b.length)=False:=ff (by omega)
 by_cases hv:ac a < ac b
 ·have e3:bV (ac a) (ac b)=-1:=by simp [bV,hv]
  simp only [fQ,lT,go_sem,↓reduceIte,adx,adz,ady,adA,adB,adD,e1,e2,qb,yZ ha hb (by omega) (by omega),e3,hv]
 ·have e3:(bV (ac a) (ac b) < 0)=False:=ff (by simp only [bV]; split <;> (try split) <;> omega)
  have e5:ac (de (ao (ac a)).length (ac a - ac b))=ac a - ac b:=by
   rw [l9,Nat.mod_eq_of_lt]
   have:=lY (ac a)
   omega
  have e4:=vN (pz (ao (ac a)).length (ac a - ac b)) (by rw [ct]; have:=dq a ha; omega)
  rw [e5] at e4
  unfold kX at e4 ⊢
  by_cases hl:256 < (ao (ac a - ac b)).length
  ·simp only [hl,if_true] at e4 ⊢
   simp only [fQ,lT,go_sem,↓reduceIte,adx,adz,ady,adA,adB,e1,e2,qb,yZ ha hb (by omega) (by omega),e3,hv,Kt ha hb (by omega) (by omega) (by omega),e4]
  ·simp only [hl,if_false] at e4 ⊢
   simp only [fQ,lT,go_sem,↓reduceIte,adx,adz,ady,adA,adB,e1,e2,qb,yZ ha hb (by omega) (by omega),e3,hv,Kt ha hb (by omega) (by omega) (by omega),e4]
end Go.Ab
namespace Go.Ab
open Go Go.IntWalk
set_option maxRecDepth 4000
end Go.Ab
namespace Go.Ab
open Go Go.IntWalk
set_option maxRecDepth 4000
theorem pA {n m:Nat} {i j:Int} (hi:i=n) (hj:j=m) (hm:m ≠ 0):c8 .rem (.v (.int .i64 i)) (.v (.int .i64 j))=some (.v (.int .i64 ((n % m:Nat):Int))):=by
 subst hi hj
 rw [GU,if_neg (by omega),Int.tmod_eq_emod_of_nonneg (by omega)]
 rfl
theorem pB {n m:Nat} {i j:Int} (hi:i=n) (hj:j=m) (hm:m ≠ 0) (hn:n < 9223372036854775808):c8 .quo (.v (.int .i64 i)) (.v (.int .i64 j))=some (.v (.int .i64 ((n / m:Nat):Int))):=by
 subst hi hj
 rw [On,if_neg (by omega),Int.tdiv_eq_ediv_of_nonneg (by omega)]
 have:n / m≤n:=Nat.div_le_self _ _
 rw [wi (n:=n / m) (by simp) (by omega)]
theorem CV {n k:Nat} {i:Int} {kk:IntKind} {j:Int} (hi:i=n) (hj:j=k) (hk:k≤64) (h:n*2 ^ k < 18446744073709551616):c8 .shl (.v (.int .u64 i)) (.v (.int kk j))=some (.v (.int .u64 ((n*2 ^ k:Nat):Int))):=by
 subst hi hj
 rw [Oo,if_neg (by omega)]
 have:min (k:Int).toNat IntKind.u64.bits=k:=by simp [IntKind.bits]; omega
 rw [this,gu (n:=n*2 ^ k) (by simp) h]
theorem IZ {m n:Nat} {i j:Int} (hi:i=m) (hj:j=n) (hm:m < 18446744073709551616) (hn:n < 18446744073709551616):c8 .or (.v (.int .u64 i)) (.v (.int .u64 j))=some (.v (.int .u64 ((m ||| n:Nat):Int))):=by
 subst hi hj
 rw [Qo]
 have e:(BitVec.ofInt IntKind.u64.bits (m:Int) ||| BitVec.ofInt IntKind.u64.bits (n:Int)).toNat=m ||| n:=by
  show (BitVec.ofInt 64 (m:Int) ||| BitVec.ofInt 64 (n:Int)).toNat=m ||| n
  rw [BitVec.toNat_or]
  simp
  rw [Nat.mod_eq_of_lt hm,Nat.mod_eq_of_lt hn]
 rw [e]
 rw [gu rfl (Nat.or_lt_two_pow (n:=64) hm hn)]
theorem y5 {x c k:Nat} (hc:c < 2 ^ k):x*2 ^ k ||| c=x*2 ^ k+c:=by
 have:=Nat.shiftLeft_add_eq_or_of_lt hc x
 rw [Nat.shiftLeft_eq] at this
 exact this.symm
def cL (a:List Nat) (r:Nat):Nat→Nat
 | 0=>0
 | i+1=>(a.getD i 0*2 ^ r+cL a r i) / 4294967296
def gw (a:List Nat) (r i:Nat):List Nat:=(List.range i).map fun j=>(a.getD j 0*2 ^ r+cL a r j) % 4294967296
theorem rN {a:List Nat} (ha:Lb a) {r:Nat}:∀ i,cL a r i < 2 ^ r
 | 0=>by simp only [cL]; exact Nat.two_pow_pos r
 | i+1=>by
  have ih:=rN ha (r:=r) i
  have:=bP ha i
  simp only [cL]
  rw [Nat.div_lt_iff_lt_mul (by omega)]
  have h1:a.getD i 0*2 ^ r+2 ^ r≤4294967296*2 ^ r:=by
   rw [← Nat.succ_mul]
   exact Nat.mul_le_mul_right _ (by omega)
  rw [Nat.mul_comm 4294967296] at h1
  omega
theorem kZ (a:List Nat) (r i:Nat):(gw a r i).length=i:=by simp [gw]
theorem QQ (a:List Nat) (r i:Nat):Lb (gw a r i):=fun x hx=>by
 simp only [gw,List.mem_map] at hx
 obtain ⟨j,_,rfl⟩:=hx
 omega
theorem G6 (a:List Nat) (r:Nat):∀ i,ac (gw a r i)+4294967296 ^ i*cL a r i=ac (a.take i)*2 ^ r
 | 0=>by simp [gw,cL,ac]
 | i+1=>by
  have ih:=G6 a r i
  rw [g8 a i]
  simp only [gw] at ih ⊢
  rw [qd,Nat.pow_succ]
  have e:cL a r (i+1)*4294967296+(a.getD i 0*2 ^ r+cL a r i) % 4294967296=a.getD i 0*2 ^ r+cL a r i:=by
   simp only [cL]
   omega
  have h1:4294967296 ^ i*(cL a r (i+1)*4294967296+(a.getD i 0*2 ^ r+cL a r i) % 4294967296)=4294967296 ^ i*(a.getD i 0*2 ^ r+cL a r i):=by rw [e]
  simp only [Nat.mul_add] at h1
  have h2:4294967296 ^ i*4294967296*cL a r (i+1)=4294967296 ^ i*(cL a r (i+1)*4294967296):=by rw [Nat.mul_assoc,Nat.mul_comm 4294967296]
  have h3:(ac (a.take i)+4294967296 ^ i*a.getD i 0)*2 ^ r=ac (a.take i)*2 ^ r+4294967296 ^ i*(a.getD i 0*2 ^ r):=by rw [Nat.add_mul,Nat.mul_assoc]
  omega
theorem MP {a:List Nat} (ha:Lb a) {n q:Nat} (h1:a.length≤100000) (hq:q≤100000):∀ (k i:Nat),i+k=a.length→∀ (s:af) (h:aa),s 1=I (n:Nat)→s 5=.rsl 20 none 1 0 (q+i)→s 6=W (cL a (n % 32) i:Nat)→s 21=lm a→s 22=I (a.length:Nat)→s 23=I i →
  h 20=.ar 1 (aG (List.replicate q 0++gw a (n % 32) i))→h 38=.dead →
  aB 0 [5,6] (aD (au R (ab false) i6) [1,5,6,21,22,23] [20,38] s h) =
   some (.normal,⟨upd (upd (fun _=>.any) 6 (W (cL a (n % 32) a.length:Nat))) 5 (.rsl 20 none 1 0 (q+a.length)),upd (upd (fun _=>.dead) 38 .dead) 20 (.ar 1 (aG (List.replicate q 0++gw a (n % 32) a.length)))⟩):=by
 intro k
 induction k with
 | zero =>
  intro i hi s h g1 h5 h6 h21 h22 h23 hh hh2
  have:i=a.length:=by omega
  subst this
  rw [av]
  simp only [i6,go_sem,↓reduceIte,adx,adC,g1,h5,h6,h21,h22,h23,hh,hh2,Int.lt_irrefl]
 | succ k ih =>
  intro i hi s h g1 h5 h6 h21 h22 h23 hh hh2
  have ih':=ih (i+1) (by omega)
  have hx:=bP ha i
  have hr:n % 32 < 32:=Nat.mod_lt _ (by omega)
  have hc:=rN ha (r:=n % 32) i
  have hp:2 ^ (n % 32)≤2 ^ 31:=Nat.pow_le_pow_right (by omega) (by omega)
  have hxp:a.getD i 0*2 ^ (n % 32)≤4294967295*2 ^ 31:=Nat.mul_le_mul (by omega) hp
  have e1:((i:Int) < (a.length:Int))=True:=tt (by omega)
  have e2:aX (aG a) (i:Int)=some (.ipt [U (a.getD i 0:Nat)]):=ba rfl (by omega)
  have e3:IntKind.i64.wrap ((i:Int)+1)=((i+1:Nat):Int):=wi (by omega) (by omega)
  have e4:IntKind.u64.wrap (a.getD i 0:Int)=(a.getD i 0:Int):=gu rfl (by omega)
  have e5:=pA (n:=n) (m:=32) (j:=32) rfl rfl (by omega)
  have e6:=CV (n:=a.getD i 0) (k:=n % 32) (kk:=.i64) rfl rfl (by omega) (by omega)
  have e7:=IZ (m:=a.getD i 0*2 ^ (n % 32)) (n:=cL a (n % 32) i) rfl rfl (by omega) (by omega)
  rw [y5 hc] at e7
  have e8:IntKind.u32.wrap ((a.getD i 0*2 ^ (n % 32)+cL a (n % 32) i:Nat):Int)=(((a.getD i 0*2 ^ (n % 32)+cL a (n % 32) i) % 4294967296:Nat):Int):=IX rfl
  have e9:=pt (n:=a.getD i 0*2 ^ (n % 32)+cL a (n % 32) i) (k:=32) (kk:=.u64) (j:=32) rfl rfl (by omega)
  have f1:aG (List.replicate q 0++gw a (n % 32) i)++[[U ((a.getD i 0*2 ^ (n % 32)+cL a (n % 32) i) % 4294967296:Nat)]]=aG (List.replicate q 0++gw a (n % 32) (i+1)):=by
   rw [show [[U ((a.getD i 0*2 ^ (n % 32)+cL a (n % 32) i) % 4294967296:Nat)]]=aG [(a.getD i 0*2 ^ (n % 32)+cL a (n % 32) i) % 4294967296] from rfl,pq,List.append_assoc]
   simp [gw,List.range_succ]
  have f2:(q+i=(List.replicate q 0++gw a (n % 32) i).length)=True:=tt (by simp [kZ])
  have f3:((q+i+1)*4≤140737488355328)=True:=tt (by omega)
  rw [av]
  generalize aD _ _ _=L at ih' ⊢
  simp only [i6,go_sem,↓reduceIte,adx,adA,adB,adC,g1,h5,h6,h21,h22,h23,hh,hh2,e1,e2,e3,e4,e5,e6,e7,e8,e9,f1,f2,f3,true_or,Nat.zero_add,Nat.le_refl]
  exact ih' _ _ rfl rfl rfl rfl rfl rfl rfl rfl
theorem mu (n:Nat):4294967296 ^ (n / 32)*2 ^ (n % 32)=2 ^ n:=by
 rw [show (4294967296:Nat)=2 ^ 32 from rfl,← Nat.pow_mul,← Nat.pow_add]
 congr 1
 omega
theorem G7 {a:List Nat} (ha:Lb a) (n:Nat):List.replicate (n / 32) 0++gw a (n % 32) a.length++[cL a (n % 32) a.length]=de (n / 32+a.length+1) (ac a*2 ^ n):=by
 have hr:n % 32 < 32:=Nat.mod_lt _ (by omega)
 have hc:=rN ha (r:=n % 32) a.length
 have hp:2 ^ (n % 32)≤2 ^ 31:=Nat.pow_le_pow_right (by omega) (by omega)
 have h:=G6 a (n % 32) a.length
 rw [List.take_length] at h
 have hLb:Lb (List.replicate (n / 32) 0++gw a (n % 32) a.length++[cL a (n % 32) a.length]) :=
  qB.2 ⟨qB.2 ⟨fun y hy=>by rw [List.eq_of_mem_replicate hy]; omega,QQ _ _ _⟩,nO.2 ⟨by omega,yE⟩⟩
 have hv:ac (List.replicate (n / 32) 0++gw a (n % 32) a.length++[cL a (n % 32) a.length])=ac a*2 ^ n:=by
  rw [List.append_assoc,gZ,Ba,gZ,kZ,List.length_replicate]
  simp only [ac,Nat.mul_zero,Nat.add_zero,Nat.zero_add]
  rw [h,← mu n,Nat.mul_left_comm]
 have:=wX hLb
 rw [hv] at this
 rw [← this]
 congr 1
 simp [kZ]
 omega
theorem Ku {a:List Nat} (ha:Lb a) {n:Nat} (h1:a.length≤100000) (hn:n≤65536):R F.natural_shl [lm a,I n] []=some (lm (de (n / 32+(ao (ac a)).length+1) (ac a*2 ^ n)),[]):=by
 refine aO CE CD (xK false) rfl ?_
 have la:=dq a ha
 have hc:=rN (bk (ac a)) (r:=n % 32) (ao (ac a)).length
 have hp:2 ^ (n % 32)≤2 ^ 31:=Nat.pow_le_pow_right (by omega) (by have:n % 32 < 32:=Nat.mod_lt _ (by omega); omega)
 have e1:=pB (n:=n) (m:=32) (j:=32) rfl rfl (by omega) (by omega)
 have e2:IntKind.i64.wrap (((n / 32:Nat):Int)+((ao (ac a)).length:Int))=((n / 32+(ao (ac a)).length:Nat):Int):=wi (by omega) (by omega)
 have e3:IntKind.i64.wrap (((n / 32+(ao (ac a)).length:Nat):Int)+1)=((n / 32+(ao (ac a)).length+1:Nat):Int):=wi (by omega) (by omega)
 have e4:=oL (i:=((n / 32:Nat):Int)) (j:=((n / 32+(ao (ac a)).length+1:Nat):Int)) rfl rfl (by omega) (by omega)
 have e5:((n / 32+(ao (ac a)).length+1)*4≤140737488355328)=True:=tt (by omega)
 have e6:=MP (bk (ac a)) (n:=n) (q:=n / 32) (by omega) (by omega) (ao (ac a)).length 0 (by omega)
 have e7:aG (List.replicate (n / 32) 0)=aG (List.replicate (n / 32) 0++gw (ao (ac a)) (n % 32) 0):=by simp [gw]
 have e8:IntKind.u32.wrap ((cL (ao (ac a)) (n % 32) (ao (ac a)).length:Nat):Int)=((cL (ao (ac a)) (n % 32) (ao (ac a)).length:Nat):Int):=wJ rfl (by omega)
 have f1:aG (List.replicate (n / 32) 0++gw (ao (ac a)) (n % 32) (ao (ac a)).length)++[[U (cL (ao (ac a)) (n % 32) (ao (ac a)).length:Nat)]]=aG (de (n / 32+(ao (ac a)).length+1) (ac a*2 ^ n)):=by
  have:=G7 (bk (ac a)) n
  rw [aV] at this
  rw [← this,show [[U (cL (ao (ac a)) (n % 32) (ao (ac a)).length:Nat)]]=aG [cL (ao (ac a)) (n % 32) (ao (ac a)).length] from rfl,pq]
 have f2:(n / 32+(ao (ac a)).length=(List.replicate (n / 32) 0++gw (ao (ac a)) (n % 32) (ao (ac a)).length).length)=True:=tt (by simp [kZ])
 simp only [kS,tj,go_sem,↓reduceIte,adx,adz,ady,el ha (by omega),e1,e2,e3,e4,e5,rK,e7]
 rw [e6 _ _ rfl rfl rfl rfl rfl rfl rfl rfl]
 simp only [go_sem,↓reduceIte,adx,adA,adB,e8,f1,f2,e5,true_or,Nat.zero_add,Nat.le_refl,ct]
theorem QR {a:List Nat} (ha:Lb a) {n:Int} (h1:a.length≤256):R F.natural_Shl [lm a,I n] []=some (if n < 0∨65536 < n then .tup [lm [],I 2] else kX (ac a*2 ^ n.toNat),[]):=by
 refine aO Cv Cu (xH false) rfl ?_
 have e1:(256 < a.length)=False:=ff (by omega)
 by_cases hn:n < 0
 ·simp only [ej,jt,go_sem,↓reduceIte,adx,adz,ady,adA,adB,e1,jh,hn,true_or]
 by_cases hn2:65536 < n
 ·simp only [ej,jt,go_sem,↓reduceIte,adx,adz,ady,adA,adB,e1,jh,hn,hn2,or_true]
 obtain ⟨m,rfl⟩:=Int.eq_ofNat_of_zero_le (show 0≤n by omega)
 have la:=dq a ha
 have e3:ac (de (m / 32+(ao (ac a)).length+1) (ac a*2 ^ m))=ac a*2 ^ m:=by
  rw [l9,Nat.mod_eq_of_lt]
  have h:=lY (ac a)
  have h2:2 ^ m≤4294967296 ^ (m / 32+1):=by
   rw [show (4294967296:Nat)=2 ^ 32 from rfl,← Nat.pow_mul]
   exact Nat.pow_le_pow_right (by omega) (by omega)
  rw [show m / 32+(ao (ac a)).length+1=(ao (ac a)).length+(m / 32+1) from by omega,Nat.pow_add]
  exact Nat.mul_lt_mul_of_lt_of_le h h2 (Nat.pow_pos (by omega))
 have e4:=vN (pz (m / 32+(ao (ac a)).length+1) (ac a*2 ^ m)) (by rw [ct]; omega)
 rw [e3] at e4
 unfold kX at e4 ⊢
 by_cases hl:256 < (ao (ac a*2 ^ m)).length
 ·simp only [hl,if_true] at e4
  simp only [ej,jt,go_sem,↓reduceIte,adx,adz,ady,adA,adB,e1,jh,hn,hn2,Ku ha (n:=m) (by omega) (by omega),e4,or_false,Int.toNat_natCast,hl]
 ·simp only [hl,if_false] at e4
  simp only [ej,jt,go_sem,↓reduceIte,adx,adz,ady,adA,adB,e1,jh,hn,hn2,Ku ha (n:=m) (by omega) (by omega),e4,or_false,Int.toNat_natCast,hl]
theorem qf {l:List Nat} (h:Lb l) (i:Nat):ac (l.drop i)=ac l / 4294967296 ^ i:=by
 rcases Nat.lt_or_ge l.length i with hi | hi
 ·rw [List.drop_of_length_le (by omega)]
  have:=dO h
  have h2:4294967296 ^ l.length≤4294967296 ^ i:=Nat.pow_le_pow_right (by omega) (by omega)
  rw [Nat.div_eq_of_lt (by omega)]
  rfl
 ·have h1:ac l=ac (l.take i)+4294967296 ^ i*ac (l.drop i):=by
   conv=>lhs; rw [← List.take_append_drop i l]
   rw [gZ,List.length_take,Nat.min_eq_left hi]
  have h2:=dO (py h i)
  rw [List.length_take,Nat.min_eq_left hi] at h2
  rw [h1,Nat.add_mul_div_left _ _ (Nat.pow_pos (by omega)),Nat.div_eq_of_lt h2]
  omega
theorem dt (l:List Nat) (i:Nat):ac (l.drop i)=l.getD i 0+4294967296*ac (l.drop (i+1)):=by
 rcases Nat.lt_or_ge i l.length with hi | hi
 ·rw [List.drop_eq_getElem_cons hi,ac]
  simp [List.getD_eq_getElem?_getD,hi]
 ·rw [List.drop_of_length_le hi,List.drop_of_length_le (by omega)]
  simp [List.getD_eq_getElem?_getD,List.getElem?_eq_none hi,ac]
def ku (a:List Nat) (r i:Nat):Nat:=(a.getD i 0+4294967296*a.getD (i+1) 0) / 2 ^ r % 4294967296
theorem O0 {a:List Nat} (ha:Lb a) {r:Nat} (hr:r≤32) (i:Nat):ku a r i=G4 (ac a / 2 ^ r) i:=by
 unfold ku G4
 have e0:ac a / 2 ^ r / 4294967296 ^ i=ac (a.drop i) / 2 ^ r:=by rw [Nat.div_div_eq_div_mul,Nat.mul_comm,← Nat.div_div_eq_div_mul,← qf ha]
 rw [e0,dt a i,dt a (i+1)]
 generalize ac (a.drop (i+1+1))=w
 have e:(4294967296:Nat)=2 ^ r*2 ^ (32 - r):=by rw [← Nat.pow_add,show r+(32 - r)=32 from by omega]
 have h1:a.getD i 0+4294967296*(a.getD (i+1) 0+4294967296*w)=(a.getD i 0+4294967296*a.getD (i+1) 0)+2 ^ r*(2 ^ (32 - r)*4294967296*w):=by
  have:2 ^ r*(2 ^ (32 - r)*4294967296*w)=4294967296*4294967296*w:=by
   rw [← Nat.mul_assoc,← Nat.mul_assoc,← e]
  rw [this,Nat.mul_add]
  omega
 rw [h1,Nat.add_mul_div_left _ _ (Nat.two_pow_pos r),Nat.mul_assoc,Nat.mul_left_comm,Nat.add_mul_mod_self_left]
def fg (a:List Nat) (r i:Nat):List Nat:=(List.range i).map (ku a r)
theorem jB (a:List Nat) (r i:Nat):(fg a r i).length=i:=by simp [fg]
theorem E3 {a:List Nat} (ha:Lb a) {r:Nat} (hr:r≤32):fg a r a.length=de a.length (ac a / 2 ^ r):=by
 refine EX (jB _ _ _) fun i hi=>?_
 rw [← O0 ha hr]
 simp [fg,hi]
theorem MQ {a:List Nat} (ha:Lb a) {n:Nat} (h1:a.length≤100000):∀ (k i:Nat),i+k=a.length→∀ (s:af) (h:aa),s 0=lm a→s 1=I (n:Nat)→s 5=.rsl 22 none 1 0 a.length→s 23=lm a→s 24=I (a.length:Nat)→s 25=I i →
  h 22=.ar 1 (aG (fg a (n % 32) i++List.replicate k 0)) →
  aB 0 [5] (aD (au R (ab false) gg) [0,1,5,23,24,25] [22] s h) =
   some (.normal,⟨upd (fun _=>.any) 5 (.rsl 22 none 1 0 a.length),upd (fun _=>.dead) 22 (.ar 1 (aG (fg a (n % 32) a.length)))⟩):=by
 intro k
 induction k with
 | zero =>
  intro i hi s h h0 g1 h5 h23 h24 h25 hh
  have:i=a.length:=by omega
  subst this
  rw [av]
  simp only [List.replicate_zero,List.append_nil] at hh
  simp only [gg,go_sem,↓reduceIte,adx,adC,h0,g1,h5,h23,h24,h25,hh,Int.lt_irrefl]
 | succ k ih =>
  intro i hi s h h0 g1 h5 h23 h24 h25 hh
  have ih':=ih (i+1) (by omega)
  have hx:=bP ha i
  have hy:=bP ha (i+1)
  have hr:n % 32 < 32:=Nat.mod_lt _ (by omega)
  have e1:((i:Int) < (a.length:Int))=True:=tt (by omega)
  have e2:aX (aG a) (i:Int)=some (.ipt [U (a.getD i 0:Nat)]):=ba rfl (by omega)
  have e3:IntKind.i64.wrap ((i:Int)+1)=((i+1:Nat):Int):=wi (by omega) (by omega)
  have e4:IntKind.u64.wrap (a.getD i 0:Int)=(a.getD i 0:Int):=gu rfl (by omega)
  have e5:=pA (n:=n) (m:=32) (j:=32) rfl rfl (by omega)
  have e6:(0≤(i:Int))=True:=tt (by omega)
  have e7:(aG (fg a (n % 32) i++List.replicate (k+1) 0))[i]?=some [U (0:Nat)]:=by
   rw [vJ (by simp [jB])]
   simp [List.getD_eq_getElem?_getD,jB]
  have e8:(aG (fg a (n % 32) i++List.replicate (k+1) 0)).set i [U (ku a (n % 32) i:Nat)]=aG (fg a (n % 32) (i+1)++List.replicate k 0):=by
   rw [vK]
   have:=sJ (fg a (n % 32) i) (k+1) (ku a (n % 32) i) 0 (by omega)
   rw [jB] at this
   rw [this]
   simp [fg,List.range_succ]
  rw [av]
  generalize aD _ _ _=L at ih' ⊢
  by_cases hl:i+1 < a.length
  ·have f1:(((i+1:Nat):Int) < (a.length:Int))=True:=tt (by omega)
   have f2:aX (aG a) ((i+1:Nat):Int)=some (.ipt [U (a.getD (i+1) 0:Nat)]):=ba rfl hl
   have f3:IntKind.u64.wrap (a.getD (i+1) 0:Int)=(a.getD (i+1) 0:Int):=gu rfl (by omega)
   have f4:=CV (n:=a.getD (i+1) 0) (k:=32) (kk:=.u64) (j:=32) rfl rfl (by omega) (by omega)
   have f5:=IZ (m:=a.getD i 0) (n:=a.getD (i+1) 0*2 ^ 32) rfl rfl (by omega) (by omega)
   rw [Nat.or_comm,y5 (show a.getD i 0 < 2 ^ 32 from by omega)] at f5
   have f6:=pt (n:=a.getD (i+1) 0*2 ^ 32+a.getD i 0) (k:=n % 32) (kk:=.i64) rfl rfl (by omega)
   have f7:IntKind.u32.wrap (((a.getD (i+1) 0*2 ^ 32+a.getD i 0) / 2 ^ (n % 32):Nat):Int)=((ku a (n % 32) i:Nat):Int):=by
    rw [IX rfl]
    unfold ku
    rw [show a.getD (i+1) 0*2 ^ 32+a.getD i 0=a.getD i 0+4294967296*a.getD (i+1) 0 from by omega]
   simp only [gg,go_sem,↓reduceIte,adx,adA,adC,h0,g1,h5,h23,h24,h25,hh,e1,e2,e3,e4,e5,e6,e7,e8,f1,f2,f3,f4,f5,f6,f7,Int.toNat_natCast,Nat.zero_add]
   exact ih' _ _ rfl rfl rfl rfl rfl rfl rfl
  ·have f1:(((i+1:Nat):Int) < (a.length:Int))=False:=ff (by omega)
   have f2:a.getD (i+1) 0=0:=by simp [List.getD_eq_getElem?_getD,List.getElem?_eq_none (show a.length≤i+1 from by omega)]
   have f6:=pt (n:=a.getD i 0) (k:=n % 32) (kk:=.i64) rfl rfl (by omega)
   have f7:IntKind.u32.wrap ((a.getD i 0 / 2 ^ (n % 32):Nat):Int)=((ku a (n % 32) i:Nat):Int):=by
    rw [IX rfl]
    unfold ku
    rw [f2]
    rfl
   simp only [gg,go_sem,↓reduceIte,adx,adA,adC,h0,g1,h5,h23,h24,h25,hh,e1,e2,e3,e4,e5,e6,e7,e8,f1,f6,f7,Int.toNat_natCast,Nat.zero_add]
   exact ih' _ _ rfl rfl rfl rfl rfl rfl rfl
theorem QS {a:List Nat} (ha:Lb a) {n:Nat} (h1:a.length≤100000) (hn:n≤100000000):R F.natural_shr [lm a,I n] []=some (lm (de ((ao (ac a)).length - n / 32) (ac a / 2 ^ n)),[]):=by
 refine aO Cs Cr (xG false) rfl ?_
 have la:=dq a ha
 have e1:=pB (n:=n) (m:=32) (j:=32) rfl rfl (by omega) (by omega)
 by_cases hl:(ao (ac a)).length≤n / 32
 ·have e2:(((ao (ac a)).length:Int)≤((n / 32:Nat):Int))=True:=tt (by omega)
  have e3:de ((ao (ac a)).length - n / 32) (ac a / 2 ^ n)=[]:=by rw [show (ao (ac a)).length - n / 32=0 from by omega]; rfl
  simp only [iA,o6,go_sem,↓reduceIte,adx,adz,ady,el ha (by omega),e1,e2,e3]
 ·have e2:(((ao (ac a)).length:Int)≤((n / 32:Nat):Int))=False:=ff (by omega)
  have hD:((ao (ac a)).drop (n / 32)).length=(ao (ac a)).length - n / 32:=by simp
  have hLD:Lb ((ao (ac a)).drop (n / 32)):=GX (bk _) _
  have e3:cx 1 (lm (ao (ac a))) (some (I (n / 32:Nat))) none none=some (lm ((ao (ac a)).drop (n / 32))):=by
   rw [u2 (a:=n / 32) (b:=(ao (ac a)).length) (nW rfl (by omega)) rfl (Nat.le_refl _),List.take_of_length_le (by omega)]
  have hv:ac ((ao (ac a)).drop (n / 32)) / 2 ^ (n % 32)=ac a / 2 ^ n:=by
   rw [qf (bk _),aV,Nat.div_div_eq_div_mul,mu]
  have e6:=E3 hLD (r:=n % 32) (by omega)
  rw [hv,hD] at e6
  generalize (ao (ac a)).drop (n / 32)=D at *
  have e4:=oL (i:=(D.length:Int)) (j:=(D.length:Int)) rfl rfl (Nat.le_refl _) (by omega)
  have e5:(D.length*4≤140737488355328)=True:=tt (by omega)
  have e7:=MQ hLD (n:=n) (by omega) D.length 0 (by omega)
  have e8:aG (List.replicate D.length 0)=aG (fg D (n % 32) 0++List.replicate D.length 0):=by simp [fg]
  rw [← hD] at e6 ⊢
  simp only [iA,o6,go_sem,↓reduceIte,adx,adz,ady,el ha (by omega),e1,e2,e3,e4,e5,rK,e8]
  rw [e7 _ _ rfl rfl rfl rfl rfl rfl rfl]
  simp only [go_sem,↓reduceIte,adA,adB,e6,ct,Nat.zero_add,Nat.le_refl]
theorem QT {a:List Nat} (ha:Lb a) {n:Int} (h1:a.length≤256):R F.natural_Shr [lm a,I n] []=some (if n < 0∨65536 < n then .tup [lm [],I 2] else .tup [lm (ao (ac a / 2 ^ n.toNat)),I 0],[]):=by
 refine aO B9 B8 (xt false) rfl ?_
 have e1:(256 < a.length)=False:=ff (by omega)
 by_cases hn:n < 0
 ·simp only [fO,lS,go_sem,↓reduceIte,adx,adz,ady,adA,adB,e1,jh,hn,true_or]
 by_cases hn2:65536 < n
 ·simp only [fO,lS,go_sem,↓reduceIte,adx,adz,ady,adA,adB,e1,jh,hn,hn2,or_true]
 obtain ⟨m,rfl⟩:=Int.eq_ofNat_of_zero_le (show 0≤n by omega)
 have la:=dq a ha
 have hlt:=lY (ac a)
 have h32:ac a / 2 ^ m < 4294967296 ^ ((ao (ac a)).length - m / 32):=by
  rw [Nat.div_lt_iff_lt_mul (Nat.two_pow_pos m),← mu m]
  refine Nat.lt_of_lt_of_le hlt ?_
  rw [← Nat.mul_assoc,← Nat.pow_add]
  refine Nat.le_trans (Nat.pow_le_pow_right (by omega) (show (ao (ac a)).length≤(ao (ac a)).length - m / 32+m / 32 by omega)) (Nat.le_mul_of_pos_right _ (Nat.two_pow_pos _))
 have e3:ac (de ((ao (ac a)).length - m / 32) (ac a / 2 ^ m))=ac a / 2 ^ m:=by
  rw [l9,Nat.mod_eq_of_lt h32]
 have e4:=vN (pz ((ao (ac a)).length - m / 32) (ac a / 2 ^ m)) (by rw [ct]; omega)
 rw [e3] at e4
 have hl:¬ 256 < (ao (ac a / 2 ^ m)).length:=by
  have:=lX h32
  omega
 unfold kX at e4
 simp only [hl,if_false] at e4
 simp only [fO,lS,go_sem,↓reduceIte,adx,adz,ady,adA,adB,e1,jh,hn,hn2,QS ha (n:=m) (by omega) (by omega),e4,or_false,Int.toNat_natCast]
end Go.Ab
namespace Go.Ab
open Go Go.IntWalk
set_option maxRecDepth 4000
def ax (n:Nat):Nat:=if n=0 then 0 else n.log2+1
theorem cW {n k:Nat}:ax n≤k↔n < 2 ^ k:=by
 unfold ax
 split
 ·rename_i h
  subst h
  exact ⟨fun _=>Nat.two_pow_pos k,fun _=>Nat.zero_le _⟩
 ·rename_i h
  rw [Nat.succ_le_iff]
  exact Nat.log2_lt h
theorem Kv {x y k:Nat} (h:x≤y) (h2:ax y≤k):ax x≤k:=cW.2 (Nat.lt_of_le_of_lt h (cW.1 h2))
theorem pC {n k:Nat}:k < ax n↔2 ^ k≤n:=by
 have:=@cW n k
 omega
theorem u4:ax 0=0:=rfl
theorem nX {n:Nat} (h:n ≠ 0):0 < ax n:=by
 rw [pC]
 omega
theorem sK (n k:Nat):ax (n / 2 ^ k)=ax n - k:=by
 have h:∀ j,ax (n / 2 ^ k)≤j↔ax n - k≤j:=fun j=>by
  rw [cW,Nat.div_lt_iff_lt_mul (Nat.two_pow_pos k),← Nat.pow_add,← cW]
  omega
 have h1:=(h _).1 (Nat.le_refl _)
 have h2:=(h _).2 (Nat.le_refl _)
 omega
theorem kv {n:Nat} (k:Nat) (hn:n ≠ 0):ax (n*2 ^ k)=ax n+k:=by
 have h:=sK (n*2 ^ k) k
 rw [Nat.mul_div_cancel _ (Nat.two_pow_pos k)] at h
 have h2:k < ax (n*2 ^ k):=by
  rw [pC]
  exact Nat.le_mul_of_pos_left _ (by omega)
 omega
def CW:ByteArray:=⟨#[0,1,2,2,3,3,3,3,4,4,4,4,4,4,4,4,5,5,5,5,5,5,5,5,5,5,5,5,5,5,5,5,6,6,6,6,6,6,6,6,6,6,6,6,6,6,6,6,6,6,6,6,6,6,6,6,6,6,6,6,6,6,6,6,7,7,7,7,7,7,7,7,7,7,7,7,7,7,7,7,7,7,7,7,7,7,7,7,7,7,7,7,7,7,7,7,7,7,7,7,7,7,7,7,7,7,7,7,7,7,7,7,7,7,7,7,7,7,7,7,7,7,7,7,7,7,7,7,8,8,8,8,8,8,8,8,8,8,8,8,8,8,8,8,8,8,8,8,8,8,8,8,8,8,8,8,8,8,8,8,8,8,8,8,8,8,8,8,8,8,8,8,8,8,8,8,8,8,8,8,8,8,8,8,8,8,8,8,8,8,8,8,8,8,8,8,8,8,8,8,8,8,8,8,8,8,8,8,8,8,8,8,8,8,8,8,8,8,8,8,8,8,8,8,8,8,8,8,8,8,8,8,8,8,8,8,8,8,8,8,8,8,8,8,8,8,8,8,8,8,8,8,8,8,8,8]⟩
theorem MR:((List.range 256).all fun x=>(CW[x]?).map (·.toNat) == some (ax x))=true:=by decide +kernel
theorem I0 {x:Nat} (h:x < 256):vo (.v (.string CW)) (.v (.int .u8 x))=some (.v (.int .u8 (ax x:Nat))):=by
 have:=List.all_eq_true.1 MR x (List.mem_range.2 h)
 simp only [beq_iff_eq] at this
 simp only [vo]
 rw [if_pos (by omega),Int.toNat_natCast]
 cases hq:CW[x]? with
 | none=>rw [hq] at this; cases this
 | some y =>
  rw [hq] at this
  simp only [Option.map_some,Option.some.injEq] at this ⊢
  rw [this]
theorem sL:uN=.seq (.ops [0,2] [co 2 (.mv (.c (.v (.int .i64 0))))]) (.seq (.seq (.ops [0,2,4] [cm 3 0,co 4 (.bin .geq (.t 3) (.c (.v (.int .u32 65536))))]) (.cond (.t 4) (.seq (.ops [0] [cm 5 0,co 6 (.bin .shr (.t 5) (.c (.v (.int .u64 16)))),cm 0 6]) (.ops [0,2] [co 2 (.mv (.c (.v (.int .i64 16))))])) (.skip))) (.seq (.seq (.ops [0,2,8] [cm 7 0,co 8 (.bin .geq (.t 7) (.c (.v (.int .u32 256))))]) (.cond (.t 8) (.seq (.ops [0,2] [cm 9 0,co 10 (.bin .shr (.t 9) (.c (.v (.int .u64 8)))),cm 0 10]) (.ops [0,2] [cm 11 2,co 12 (.bin .add (.t 11) (.c (.v (.int .i64 8)))),cm 2 12])) (.skip))) (.seq (.ops [2] [cm 13 2,cm 14 0,co 15 (.cv .u8 (.t 14)),co 16 (.idxS (.c (.v (.string CW))) (.t 15)),co 17 (.cv .i64 (.t 16)),co 18 (.bin .add (.t 13) (.t 17)),cm 2 18]) (.ret)))):=rfl
theorem w8 {i:Int} {n:Nat} (h:i=n) (hn:n < 256):IntKind.u8.wrap i=n:=by rw [IntKind.wrap_u8]; omega
theorem vO {n k:Nat} {i:Int} {kk:IntKind} {j:Int} (hi:i=n) (hj:j=k) (hk:k≤32):c8 .shr (.v (.int .u32 i)) (.v (.int kk j))=some (.v (.int .u32 ((n / 2 ^ k:Nat):Int))):=by
 subst hi hj
 rw [zD,if_neg (by omega)]
 have:min (k:Int).toNat IntKind.u32.bits=k:=by simp [IntKind.bits]; omega
 rw [this]
 simp only [Option.some.injEq,AV.v.injEq,Value.int.injEq,true_and]
 rw [Int.fdiv_eq_ediv_of_nonneg _ (Int.pow_nonneg (by omega))]
 simp
theorem qD {x:Nat} (k:Nat) (h:2 ^ k≤x):ax x=k+ax (x / 2 ^ k):=by
 have:=sK x k
 have:=pC.2 h
 omega
theorem MS {x:Nat} (hx:x < 4294967296):R F.bits_Len32 [U x] []=some (I (ax x:Nat),[]):=by
 refine aO EM EL (yV false) rfl ?_
 have fin:∀ {y:Nat},y < 256→∀ {n:Nat},n≤24→IntKind.u8.wrap (y:Int)=y∧IntKind.i64.wrap (ax y:Int)=(ax y:Int)∧IntKind.i64.wrap ((n:Int)+(ax y:Int))=((n+ax y:Nat):Int):=fun {y} hy {n} hn=>by
  have:ax y≤8:=cW.2 hy
  exact ⟨w8 rfl hy,wi rfl (by omega),wi (by omega) (by omega)⟩
 have s16:=vO (n:=x) (k:=16) (kk:=.u64) (j:=16) rfl rfl (by omega)
 by_cases h1:65536≤x
 ·have e1:((65536:Int)≤(x:Int))=True:=tt (by omega)
  have b1:=qD 16 h1
  have s8:=vO (n:=x / 2 ^ 16) (k:=8) (kk:=.u64) (j:=8) rfl rfl (by omega)
  by_cases h2:256≤x / 2 ^ 16
  ·have e2:((256:Int)≤((x / 2 ^ 16:Nat):Int))=True:=tt (by omega)
   have b2:=qD 8 h2
   have hy:x / 2 ^ 16 / 2 ^ 8 < 256:=by omega
   obtain ⟨f1,f2,f3⟩:=fin hy (n:=24) (by omega)
   have g:IntKind.i64.wrap (24:Int)=24:=by rw [i64_in] <;> omega
   have f3':IntKind.i64.wrap ((24:Int)+(ax (x / 2 ^ 16 / 2 ^ 8):Int))=((ax x:Nat):Int):=by rw [b1,b2]; rw [wi (n:=24+ax (x / 2 ^ 16 / 2 ^ 8)) (by omega) (by have:=(cW (k:=8)).2 hy; omega)]; omega
   simp only [fe,sL,go_sem,↓reduceIte,adx,e1,s16,e2,s8,g,f1,I0 hy,f2,f3',Int.reduceAdd]
  ·have e2:((256:Int)≤((x / 2 ^ 16:Nat):Int))=False:=ff (by omega)
   have hy:x / 2 ^ 16 < 256:=by omega
   obtain ⟨f1,f2,f3⟩:=fin hy (n:=16) (by omega)
   have f3':IntKind.i64.wrap ((16:Int)+(ax (x / 2 ^ 16):Int))=((ax x:Nat):Int):=by rw [b1]; rw [wi (n:=16+ax (x / 2 ^ 16)) (by omega) (by have:=(cW (k:=8)).2 hy; omega)]
   simp only [fe,sL,go_sem,↓reduceIte,adx,adD,adF,e1,s16,e2,f1,I0 hy,f2,f3']
 ·have e1:((65536:Int)≤(x:Int))=False:=ff (by omega)
  have s8:=vO (n:=x) (k:=8) (kk:=.u64) (j:=8) rfl rfl (by omega)
  by_cases h2:256≤x
  ·have e2:((256:Int)≤(x:Int))=True:=tt (by omega)
   have b2:=qD 8 h2
   have hy:x / 2 ^ 8 < 256:=by omega
   obtain ⟨f1,f2,f3⟩:=fin hy (n:=8) (by omega)
   have g:IntKind.i64.wrap (8:Int)=8:=by rw [i64_in] <;> omega
   have f3':IntKind.i64.wrap ((8:Int)+(ax (x / 2 ^ 8):Int))=((ax x:Nat):Int):=by rw [b2]; rw [wi (n:=8+ax (x / 2 ^ 8)) (by omega) (by have:=(cW (k:=8)).2 hy; omega)]
   simp only [fe,sL,go_sem,↓reduceIte,adx,adD,adF,e1,e2,s8,g,f1,I0 hy,f2,f3',Int.reduceAdd]
  ·have e2:((256:Int)≤(x:Int))=False:=ff (by omega)
   have hy:x < 256:=by omega
   obtain ⟨f1,f2,f3⟩:=fin hy (n:=0) (by omega)
   have f3':IntKind.i64.wrap ((0:Int)+(ax x:Int))=((ax x:Nat):Int):=by rw [wi (n:=ax x) (by omega) (by have:=(cW (k:=8)).2 hy; omega)]
   simp only [fe,sL,go_sem,↓reduceIte,adx,adD,adF,e1,e2,f1,I0 hy,f2,f3']
theorem E4 {n:Nat} (h:n ≠ 0):ax n=32*((ao n).length - 1)+ax ((ao n).getD ((ao n).length - 1) 0):=by
 induction n using Nat.strongRecOn with
 | ind n ih =>
  rw [kT h,List.length_cons,Nat.add_sub_cancel]
  by_cases h0:n / 4294967296=0
  ·rw [h0,dN]
   simp
   congr 1
   omega
  ·have h1:=ih _ (by omega) h0
   have h2:(ao (n / 4294967296)).length ≠ 0:=by
    intro e
    exact h0 (jz.1 (List.length_eq_zero_iff.1 e))
   obtain ⟨k,hk⟩:∃ k,(ao (n / 4294967296)).length=k+1:=⟨_,(Nat.succ_pred_eq_of_pos (by omega)).symm⟩
   rw [hk] at h1 ⊢
   rw [nP]
   simp only [Nat.add_sub_cancel] at h1
   have h3:=qD (x:=n) 32 (by omega)
   rw [show (2:Nat) ^ 32=4294967296 from rfl,h1] at h3
   omega
theorem O1 {m:List Nat} (hb:Lb m) (h1:m.length≤100000):R F.natural_Bits [lm m] []=some (I (ax (ac m):Nat),[]):=by
 refine aO z6 zZ (vY false) rfl ?_
 have la:=dq m hb
 by_cases h:ac m=0
 ·have e1:((0:Nat):Int)=0:=rfl
  simp only [gT,nJ,go_sem,↓reduceIte,adx,adz,ady,el hb (by omega),h,dN,e1,u4]
 ·have hne:(ao (ac m)).length ≠ 0:=fun e=>h (jz.1 (List.length_eq_zero_iff.1 e))
  have e1:(((ao (ac m)).length:Int)=0)=False:=ff (by omega)
  have e2:IntKind.i64.wrap (((ao (ac m)).length:Int) - 1)=(((ao (ac m)).length - 1:Nat):Int):=wi (by omega) (by omega)
  have e3:IntKind.i64.wrap (32*(((ao (ac m)).length - 1:Nat):Int))=((32*((ao (ac m)).length - 1):Nat):Int):=wi (by omega) (by omega)
  have e4:aX (aG (ao (ac m))) (((ao (ac m)).length - 1:Nat):Int)=some (.ipt [U ((ao (ac m)).getD ((ao (ac m)).length - 1) 0:Nat)]):=ba rfl (by omega)
  have e5:=MS (bP (bk (ac m)) ((ao (ac m)).length - 1))
  have e6:ax ((ao (ac m)).getD ((ao (ac m)).length - 1) 0)≤32:=cW.2 (bP (bk (ac m)) _)
  have e7:IntKind.i64.wrap (((32*((ao (ac m)).length - 1):Nat):Int)+(ax ((ao (ac m)).getD ((ao (ac m)).length - 1) 0):Int))=((ax (ac m):Nat):Int):=by
   rw [E4 h]
   exact wi (by omega) (by omega)
  simp only [gT,nJ,go_sem,↓reduceIte,adx,adz,ady,el hb (by omega),e1,e2,e3,e4,e5,e7]
end Go.Ab
namespace Go.Ab
open Go Go.IntWalk
set_option maxRecDepth 4000
structure Rd where
 neg:Bool
 m:List Nat
 e:Int
def aP (d:Rd):List AV:=[B d.neg,lm d.m,I d.e]
def aC (d:Rd):AV:=.agg (aP d)
def ez:Rd:=⟨false,[],0⟩
def qE (n:Nat) (e:Int):Bool:=decide (n=0) || (decide (n≤4096) && (decide (-16384≤e) && (decide (e≤16384) && decide ((n:Int)+e≤16384))))
def vd (d:Rd):Bool:=if d.m.length=0 then !d.neg && decide (d.e=0) else decide (d.m.length≤256) && (decide (d.m.getD 0 0 % 2=1) && (decide (d.m.getD (d.m.length - 1) 0 ≠ 0) && qE (ax (ac d.m)) d.e))
theorem pD {m:List Nat} (hb:Lb m) (h1:m.length≤100000):R F.dyadic_size [lm m] []=some (I (ax (ac m):Nat),[]):=by
 refine aO B1 B0 (xe false) rfl ?_
 simp only [kN,s7,go_sem,↓reduceIte,adx,adz,ady,O1 hb h1]
theorem y6 {d:Rd} (hb:Lb d.m) (h1:d.m.length≤100000):R F.dyadic_inRange [aC d] []=some (B (qE (ax (ac d.m)) d.e),[]):=by
 refine aO xk xj (tF false) rfl ?_
 unfold qE
 have hn:ax (ac d.m)=0↔((ax (ac d.m):Nat):Int)=0:=by omega
 by_cases a1:ax (ac d.m)=0
 ·have e9:=pD hb h1
  rw [a1,Int.natCast_zero] at e9
  simp only [cw,eh,aC,aP,go_sem,↓reduceIte,adx,adz,ady,adA,e9,a1]
 have e1:(((ax (ac d.m):Nat):Int)=0)=False:=ff (by omega)
 by_cases a2:¬ (ax (ac d.m)≤4096)
 ·have e2:(((ax (ac d.m):Nat):Int)≤4096)=False:=ff (by omega)
  simp only [cw,eh,aC,aP,go_sem,↓reduceIte,adx,adz,ady,pD hb h1,e1,a1,e2,a2]
 replace a2:=Decidable.not_not.1 a2
 have e2:(((ax (ac d.m):Nat):Int)≤4096)=True:=tt (by omega)
 by_cases a3:¬ (-16384≤d.e)
 ·simp only [cw,eh,aC,aP,go_sem,↓reduceIte,adx,adz,ady,pD hb h1,e1,a1,e2,a2,a3]
 replace a3:=Decidable.not_not.1 a3
 by_cases a4:¬ (d.e≤16384)
 ·simp only [cw,eh,aC,aP,go_sem,↓reduceIte,adx,adz,ady,pD hb h1,e1,a1,e2,a2,a3,a4]
 replace a4:=Decidable.not_not.1 a4
 have e3:IntKind.i64.wrap (((ax (ac d.m):Nat):Int)+d.e)=((ax (ac d.m):Nat):Int)+d.e:=by rw [i64_in]; omega
 simp only [cw,eh,aC,aP,go_sem,↓reduceIte,adx,adz,ady,pD hb h1,e1,a1,e2,a2,a3,a4,e3]
structure Ok0 (d:Rd):Prop where
 lb:Lb d.m
 len:d.m.length < 4611686018427387904
theorem qg {d:Rd} (ok:Ok0 d):R F.dyadic_Valid [aC d] []=some (B (vd d),[]):=by
 refine aO zT zS (vW false) rfl ?_
 unfold vd
 have hl:=ok.len
 by_cases a0:d.m.length=0
 ·rw [if_pos a0]
  have e1:((d.m.length:Int)=0)=True:=tt (by omega)
  cases hn:d.neg with
  | true=>simp only [cE,ed,aC,aP,hn,go_sem,↓reduceIte,adx,adz,ady,e1]
  | false=>simp only [cE,ed,aC,aP,hn,go_sem,↓reduceIte,adx,adz,ady,e1]
 rw [if_neg a0]
 have e1:((d.m.length:Int)=0)=False:=ff (by omega)
 by_cases a1:¬ d.m.length≤256
 ·have e2:((d.m.length:Int)≤256)=False:=ff (by omega)
  rw [decide_eq_false a1,Bool.false_and]
  simp only [cE,ed,aC,aP,go_sem,↓reduceIte,adx,adz,ady,adA,e1,e2]
 replace a1:=Decidable.not_not.1 a1
 have e2:((d.m.length:Int)≤256)=True:=tt (by omega)
 have e3:aX (aG d.m) 0=some (.ipt [U (d.m.getD 0 0:Nat)]):=ba rfl (by omega)
 have e4:c8 .rem (.v (.int .u32 (d.m.getD 0 0:Nat))) (.v (.int .u32 2))=some (.v (.int .u32 ((d.m.getD 0 0 % 2:Nat):Int))):=by
  rw [GU,if_neg (by decide),Int.tmod_eq_emod_of_nonneg (by omega)]
  rfl
 rw [decide_eq_true a1,Bool.true_and]
 by_cases a2:¬ d.m.getD 0 0 % 2=1
 ·have e5:(((d.m.getD 0 0 % 2:Nat):Int)=1)=False:=ff (by omega)
  rw [decide_eq_false a2,Bool.false_and]
  simp only [cE,ed,aC,aP,go_sem,↓reduceIte,adx,adz,ady,adA,e1,e2,e3,e4,e5]
 replace a2:=Decidable.not_not.1 a2
 have e5:(((d.m.getD 0 0 % 2:Nat):Int)=1)=True:=tt (by omega)
 rw [decide_eq_true a2,Bool.true_and]
 have e6:IntKind.i64.wrap ((d.m.length:Int) - 1)=((d.m.length - 1:Nat):Int):=wi (by omega) (by omega)
 have e7:aX (aG d.m) ((d.m.length - 1:Nat):Int)=some (.ipt [U (d.m.getD (d.m.length - 1) 0:Nat)]):=ba rfl (by omega)
 by_cases a3:d.m.getD (d.m.length - 1) 0=0
 ·have e8:((d.m.getD (d.m.length - 1) 0:Int)=0)=True:=tt (by omega)
  rw [decide_eq_false (p:=d.m.getD (d.m.length - 1) 0 ≠ 0) (fun h=>h a3),Bool.false_and]
  simp only [cE,ed,aC,aP,go_sem,↓reduceIte,adx,adz,ady,adA,e1,e2,e3,e4,e5,e6,e7,e8]
 have e8:((d.m.getD (d.m.length - 1) 0:Int)=0)=False:=ff (by omega)
 rw [decide_eq_true (p:=d.m.getD (d.m.length - 1) 0 ≠ 0) a3,Bool.true_and]
 have e9:=y6 (d:=d) ok.lb (by omega)
 simp only [aC,aP] at e9
 simp only [cE,ed,aC,aP,go_sem,↓reduceIte,adx,adz,ady,adA,e1,e2,e3,e4,e5,e6,e7,e8,e9]
end Go.Ab
namespace Go.Ab
open Go Go.IntWalk
set_option maxRecDepth 4000
theorem I1 (m:List Nat) (h2:m.length < 4611686018427387904):∀ (n:Nat),n≤m.length→∀ (s:af) (h:aa),s 0=lm m→s 3=I n →
  aB 0 [0,3] (aD (au R (ab false) dY) [0,3] [] s h)=some (.normal,⟨upd (upd (fun _=>.any) 3 (I (fL m n))) 0 (lm m),fun _=>.dead⟩):=by
 intro n
 induction n with
 | zero =>
  intro h1 s h h3 h4
  rw [av]
  simp only [dY,go_sem,h3,h4,fL,↓reduceIte,adx,Int.natCast_zero,Int.lt_irrefl]
 | succ n ih =>
  intro h1 s h h3 h4
  have hn:n < m.length:=h1
  have e3:IntKind.i64.wrap ((n:Int)+1 - 1)=n:=wi (by omega) (by omega)
  have e1:aX (aG m) (n:Int)=some (.ipt [U (m.getD n 0:Nat)]):=ba rfl hn
  have e2:((0:Int) < (n:Int)+1)=True:=eq_true (by omega)
  have ih':=ih (by omega)
  rw [av]
  generalize aD _ _ _=L at ih' ⊢
  by_cases hz:m.getD n 0=0
  ·simp only [dY,go_sem,h3,h4,fL,↓reduceIte,adx,Int.natCast_add,Int.natCast_one,e3,e1,e2,hz,Int.natCast_zero]
   exact ih' _ _ rfl rfl
  ·simp only [dY,go_sem,h3,h4,fL,↓reduceIte,adx,Int.natCast_add,Int.natCast_one,e3,e1,e2,hz,Int.natCast_eq_zero]
theorem E5 {m:List Nat} (hb:Lb m) (h:m.length < 4611686018427387904):R F.dyadic_trimmed [lm m] []=some (lm (ao (ac m)),[]):=by
 refine aO xq xp (tG false) rfl ?_
 have h1:cx 1 (lm m) none (some (I (fL m m.length:Nat))) none=some (lm (ao (ac m))):=by
  rw [u2 (a:=0) (b:=fL m m.length) rfl (nW rfl (oI _ _)) (oI _ _),List.drop_zero,Nat.sub_zero,wY hb]
 simp only [ij,pX,go_sem,↓reduceIte,adx,I1 m h m.length (Nat.le_refl _),h1]
theorem I2 {d:Rd} (hb:Lb d.m) (h1:d.m.length≤100000):R F.dyadic_checked [aC d] []=some (if qE (ax (ac d.m)) d.e=true then .tup [aC d,I 0] else .tup [aC ez,I 9],[]):=by
 refine aO xg xf (tE false) rfl ?_
 have e9:=y6 hb h1
 simp only [aC,aP] at e9
 cases hv:qE (ax (ac d.m)) d.e with
 | false =>
  rw [hv] at e9
  rw [if_neg (fun h=>nomatch h)]
  simp only [fp,l4,aC,aP,ez,go_sem,↓reduceIte,adx,adz,ady,adA,e9]
 | true =>
  rw [hv] at e9
  rw [if_pos rfl]
  simp only [fp,l4,aC,aP,go_sem,↓reduceIte,adx,adz,ady,adA,e9]
theorem E6 (h:aa) (m:List Nat):kD h 1 (lm m)=some (aG m):=Mj h 1 _
theorem xO {m:List Nat} (h0:m ≠ []) (h1:m.length≤100000):R F.slices_Clone_uint32_uint32_ [lm m] []=some (lm m,[]):=by
 refine aO ny nw (mb false) rfl ?_
 have e1:vn false (lm m)=some (B false):=by
  cases m with
  | nil=>exact absurd rfl h0
  | cons x m=>rfl
 have e2:((True∨False)∧(0+m.length)*4≤140737488355328)=True:=eq_true ⟨Or.inl trivial,by omega⟩
 have e3:(0+(0+m.length)≤m.length)=True:=eq_true (by omega)
 have e4:(0+m.length=m.length)=True:=eq_true (by omega)
 simp only [cF,hJ,go_sem,↓reduceIte,adx,adA,adB,e1,E6,e2,e3,e4]
end Go.Ab
namespace Go.Ab
open Go Go.IntWalk
set_option maxRecDepth 4000
theorem rf:am.E F.bits_TrailingZeros32=some NI:=by kernel_rfl
theorem u5 {x:Nat} (h:x ≠ 0) (hx:x < 4294967296):R F.bits_TrailingZeros32 [U x] []=some (I (tz x:Nat),[]):=by
 unfold R
 rw [sA rf]
 show (if 0 < (x:Int)∧(x:Int) < 4294967296∧([]:List Ob)=[] then some (I (Bb 32 (x:Int).toNat:Nat),([]:List Ob)) else none)=_
 rw [if_pos ⟨by omega,by omega,rfl⟩,Int.toNat_natCast,Qy 32 x h (by omega)]
theorem MT (m:List Nat) (hb:Lb m) (h2:m.length≤100000):∀ (k i:Nat),i+k=m.length→ac (m.drop i) ≠ 0→∀ (s:af) (h:aa),s 6=lm m→s 7=I m.length→s 8=I i→s 3=I (32*i:Nat) →
  aB 0 [3] (aD (au R (ab false) jW) [3,6,7,8] [] s h)=some (.ret,⟨upd (fun _=>.any) 2 (I (32*i+tz (ac (m.drop i)):Nat)),fun _=>.dead⟩):=by
 intro k
 induction k with
 | zero =>
  intro i hi hv
  rw [List.drop_eq_nil_of_le (by omega)] at hv
  exact absurd rfl hv
 | succ k ih =>
  intro i hi hv s h h6 h7 h8 h3
  have e1:((i:Int) < m.length)=True:=tt (by omega)
  have e2:aX (aG m) (i:Int)=some (.ipt [U (m.getD i 0:Nat)]):=ba rfl (by omega)
  have hx:m.getD i 0 < 4294967296:=bP hb i
  rw [dt] at hv
  rw [av]
  have e4:IntKind.i64.wrap (((32*i:Nat):Int)+32)=((32*(i+1):Nat):Int):=wi (by omega) (by omega)
  have e5:IntKind.i64.wrap ((i:Int)+1)=((i+1:Nat):Int):=wi (by omega) (by omega)
  by_cases hz:m.getD i 0=0
  ·have e3:((m.getD i 0:Int)=0)=True:=tt (by omega)
   have hv':ac (m.drop (i+1)) ≠ 0:=by
    intro h0
    rw [hz,h0] at hv
    exact hv rfl
   have ih':=ih (i+1) (by omega) hv'
   have e6:tz (ac (m.drop i))=32+tz (ac (m.drop (i+1))):=by
    rw [dt,hz,Nat.zero_add]
    exact yG 32 hv'
   have e7:32*i+tz (ac (m.drop i))=32*(i+1)+tz (ac (m.drop (i+1))):=by omega
   rw [e7]
   generalize aD _ _ _=L at ih' ⊢
   simp only [jW,go_sem,↓reduceIte,adx,h3,h6,h7,h8,e1,e2,e3,e4,e5]
   exact ih' _ _ rfl rfl rfl rfl
  ·have e3:((m.getD i 0:Int)=0)=False:=ff (by omega)
   have e6:tz (ac (m.drop i))=tz (m.getD i 0):=by
    rw [dt]
    exact Qx (k:=32) _ hz hx
   have e8:tz (m.getD i 0) < 32:=CQ (k:=32) hz hx
   have e7:IntKind.i64.wrap (((32*i:Nat):Int)+(tz (m.getD i 0):Nat))=((32*i+tz (m.getD i 0):Nat):Int):=wi (by omega) (by omega)
   rw [e6]
   simp only [jW,go_sem,↓reduceIte,adx,adz,ady,h3,h6,h7,h8,e1,e2,e3,u5 hz hx,e7]
theorem QU {m:List Nat} (hb:Lb m) (h1:m.length≤100000) (hv:ac m ≠ 0):R F.dyadic_low [lm m] []=some (I (tz (ac m):Nat),[]):=by
 refine aO EG EF (yT false) rfl ?_
 have h3:=MT m hb h1 m.length 0 (Nat.zero_add _) hv
 simp only [Nat.mul_zero,Nat.zero_add,List.drop_zero,Int.natCast_zero] at h3
 simp only [lR,uK,go_sem,↓reduceIte,adx]
 rw [h3 _ _ rfl rfl rfl rfl]
 simp only [go_sem,↓reduceIte]
def cD (neg:Bool) (M:Nat) (e:Int):Rd:=if M=0 then ez else ⟨neg,ao (M / 2 ^ tz M),e+tz M⟩
def Xc (e:Int):Prop:=-1000000≤e∧e≤1000000
theorem qh {neg:Bool} {m:List Nat} {e:Int} (hb:Lb m) (h1:m.length≤256) (he:Xc e):R F.dyadic_canonical [B neg,lm m,I e] []=some (aC (cD neg (ac m) e),[]):=by
 refine aO uV uU (rI false) rfl ?_
 obtain ⟨he1,he2⟩:=he
 unfold cD
 by_cases h0:ac m=0
 ·have hd:R F.dyadic_trimmed [lm m] []=some (lm [],[]):=by
   rw [E5 hb (by omega),h0,dN]
  have e0:(([]:List Nat).length:Int)=0:=rfl
  rw [if_pos h0]
  simp only [dX,kn,aC,aP,ez,go_sem,↓reduceIte,adx,adz,ady,adA,hd,List.length_nil,Int.natCast_zero]
 have hn:ao (ac m) ≠ []:=fun h=>h0 (jz.1 h)
 have hl:0 < (ao (ac m)).length:=by
  cases h:ao (ac m) with
  | nil=>exact absurd h hn
  | cons x l=>exact Nat.succ_pos _
 have hl2:(ao (ac m)).length≤256:=Nat.le_trans (dq m hb) h1
 have hdb:Lb (ao (ac m)):=bk _
 have e1:(((ao (ac m)).length:Int)=0)=False:=ff (by omega)
 have ht:tz (ac m) < 32*256:=CQ (k:=32*256) h0 (by
  have:=dO hb
  have h3:4294967296 ^ m.length≤4294967296 ^ 256:=Nat.pow_le_pow_right (by decide) h1
  have h4:(2:Nat) ^ (32*256)=4294967296 ^ 256:=Nat.pow_mul 2 32 256
  rw [h4]
  exact Nat.lt_of_lt_of_le this h3)
 have hlow:=QU hdb (by omega) (by rw [aV]; exact h0)
 rw [aV] at hlow
 have hs:=QT (n:=(tz (ac m):Nat)) hdb hl2
 rw [if_neg (by omega),aV,Int.toNat_natCast] at hs
 have hq:ao (ac m / 2 ^ tz (ac m)) ≠ []:=by
  intro h
  have:=(rF h0).2
  rw [jz.1 h] at this
  exact absurd this (by decide)
 have hq2:(ao (ac m / 2 ^ tz (ac m))).length≤100000:=by
  have h5:(ao (ac m / 2 ^ tz (ac m))).length≤m.length:=lX (Nat.lt_of_le_of_lt (Nat.div_le_self _ _) (dO hb))
  omega
 have hc:=xO hq hq2
 have e2:IntKind.i64.wrap (e+(tz (ac m):Nat))=e+(tz (ac m):Nat):=by rw [i64_in]; omega
 rw [if_neg h0]
 simp only [dX,kn,aC,aP,go_sem,↓reduceIte,adx,adz,ady,adA,E5 hb (Nat.lt_of_le_of_lt h1 (by decide)),e1,hlow,hs,hc,G2,e2]
end Go.Ab
namespace Go.Ab
open Go Go.IntWalk
set_option maxRecDepth 4000
theorem oM {d:Rd} (h:vd d=true) (h0:d.m.length ≠ 0):d.m.length≤256∧d.m.getD 0 0 % 2=1∧d.m.getD (d.m.length - 1) 0 ≠ 0∧qE (ax (ac d.m)) d.e=true:=by
 unfold vd at h
 rw [if_neg h0] at h
 simp only [Bool.and_eq_true,decide_eq_true_eq] at h
 exact h
theorem rO {d:Rd} (h:vd d=true) (h0:d.m.length=0):d=ez:=by
 unfold vd at h
 rw [if_pos h0] at h
 simp only [Bool.and_eq_true,decide_eq_true_eq,Bool.not_eq_true'] at h
 obtain ⟨n,m,e⟩:=d
 obtain ⟨h1,h2⟩:=h
 simp only at h1 h2 h0
 rw [ez,h1,h2,List.length_eq_zero_iff.1 h0]
theorem Ap {n:Nat} {e:Int} (h:qE n e=true) (h0:n ≠ 0):n≤4096∧-16384≤e∧e≤16384∧(n:Int)+e≤16384:=by
 unfold qE at h
 simp only [Bool.or_eq_true,Bool.and_eq_true,decide_eq_true_eq] at h
 exact h.resolve_left h0
theorem lw {d:Rd} (h:vd d=true) (hb:Lb d.m):d.m.length≤256∧-16384≤d.e∧d.e≤16384∧ax (ac d.m)≤4096:=by
 by_cases h0:d.m.length=0
 ·rw [rO h h0]
  exact ⟨by decide,by decide,by decide,by decide⟩
 obtain ⟨h1,h2,h3,h4⟩:=oM h h0
 have hv:ac d.m ≠ 0:=by
  intro hz
  have:=dt d.m 0
  rw [List.drop_zero] at this
  omega
 have hn:ax (ac d.m) ≠ 0:=by
  have:=nX hv
  omega
 obtain ⟨h5,h6,h7,h8⟩:=Ap h4 hn
 exact ⟨h1,h6,h7,h5⟩
def bW (d:Rd):Int:=if vd d=false∨d.m.length=0 then 0 else (ax (ac d.m):Nat)+d.e
theorem Kw {d:Rd} (ok:Ok0 d):R F.dyadic_Top [aC d] []=some (I (bW d),[]):=by
 refine aO EJ EI (yU false) rfl ?_
 have hl:=ok.len
 have e9:=qg ok
 simp only [aC,aP] at e9
 unfold bW
 cases hv:vd d with
 | false =>
  rw [hv] at e9
  rw [if_pos (Or.inl rfl)]
  simp only [gE,m0,aC,aP,go_sem,↓reduceIte,adx,adz,ady,adA,e9]
 | true =>
  rw [hv] at e9
  by_cases a0:d.m.length=0
  ·have e1:((d.m.length:Int)=0)=True:=tt (by omega)
   rw [if_pos (Or.inr a0)]
   simp only [gE,m0,aC,aP,go_sem,↓reduceIte,adx,adz,ady,adA,e9,e1]
  ·have e1:((d.m.length:Int)=0)=False:=ff (by omega)
   rw [if_neg (fun h=>h.elim (fun h=>nomatch h) a0)]
   obtain ⟨h1,h2,h3,h4⟩:=lw hv ok.lb
   have e2:IntKind.i64.wrap (((ax (ac d.m):Nat):Int)+d.e)=((ax (ac d.m):Nat):Int)+d.e:=by rw [i64_in]; omega
   simp only [gE,m0,aC,aP,go_sem,↓reduceIte,adx,adz,ady,adA,adB,adC,e9,e1,pD ok.lb (Nat.le_trans h1 (by decide)),e2]
theorem QV {d:Rd} (ok:Ok0 d):R F.dyadic_Neg [aC d] []=some (aC (if vd d=false∨d.m.length=0 then ez else ⟨!d.neg,d.m,d.e⟩),[]):=by
 refine aO Ek Ej (yM false) rfl ?_
 have hl:=ok.len
 have e9:=qg ok
 simp only [aC,aP] at e9
 cases hv:vd d with
 | false =>
  rw [hv] at e9
  rw [if_pos (Or.inl rfl)]
  simp only [gC,mS,aC,aP,ez,go_sem,↓reduceIte,adx,adz,ady,adA,e9]
 | true =>
  rw [hv] at e9
  by_cases a0:d.m.length=0
  ·have e1:((d.m.length:Int)=0)=True:=tt (by omega)
   rw [if_pos (Or.inr a0)]
   simp only [gC,mS,aC,aP,ez,go_sem,↓reduceIte,adx,adz,ady,adA,e9,e1]
  ·have e1:((d.m.length:Int)=0)=False:=ff (by omega)
   rw [if_neg (fun h=>h.elim (fun h=>nomatch h) a0)]
   obtain ⟨h1,h2,h3,h4⟩:=lw hv ok.lb
   have hc:=xO (m:=d.m) (fun h=>a0 (by rw [h]; rfl)) (Nat.le_trans h1 (by decide))
   simp only [gC,mS,aC,aP,go_sem,↓reduceIte,adx,adz,ady,adA,adB,adC,e9,e1,hc]
end Go.Ab
namespace Go.Ab
open Go Go.IntWalk
set_option maxRecDepth 4000
theorem y7 {m:List Nat} (hb:Lb m) (h1:m.length≤256) {k:Nat} (hk:k≤65536) (hl:(ao (ac m*2 ^ k)).length≤256):R F.dyadic_shifted [lm m,I k] []=some (lm (ao (ac m*2 ^ k)),[]):=by
 refine aO xv xu (tH false) rfl ?_
 have hs:=QR (n:=(k:Nat)) hb h1
 rw [if_neg (by omega),Int.toNat_natCast,kX,if_neg (by omega)] at hs
 simp only [ik,pY,go_sem,↓reduceIte,adx,adz,ady,adA,hs]
def mg (d:Rd):Nat:=ac d.m*2 ^ (d.e+16384).toNat
def zI (d:Rd):Int:=if d.neg=true then -(mg d:Int) else mg d
theorem lK {d:Rd} (h:vd d=true) (h0:d.m.length ≠ 0):ac d.m ≠ 0:=by
 obtain ⟨h1,h2,h3,h4⟩:=oM h h0
 intro hz
 have:=dt d.m 0
 rw [List.drop_zero] at this
 omega
theorem O2 {d:Rd} (h:vd d=true) (hb:Lb d.m) (h0:d.m.length ≠ 0):(ax (mg d):Int)=bW d+16384:=by
 obtain ⟨h1,h2,h3,h4⟩:=lw h hb
 unfold mg bW
 rw [kv _ (lK h h0),if_neg (fun h'=>h'.elim (fun h''=>by rw [h] at h''; exact nomatch h'') h0)]
 omega
theorem nY {d:Rd} {e:Int} (h1:-16384≤e) (h2:e≤d.e):mg d=ac d.m*2 ^ (d.e - e).toNat*2 ^ (e+16384).toNat:=by
 unfold mg
 rw [Nat.mul_assoc,← Nat.pow_add]
 congr 2
 omega
theorem bv {n k:Nat} (h:ax n≤32*k):(ao n).length≤k:=by
 refine lX ?_
 have:=cW.1 h
 rw [Nat.pow_mul] at this
 exact this
end Go.Ab
namespace Go.Ab
open Go Go.IntWalk
set_option maxRecDepth 4000
def jN (x y:Int):Int:=if x < y then -1 else if y < x then 1 else 0
theorem G8 {d:Rd} (h0:d.m.length=0):mg d=0:=by
 unfold mg
 rw [List.length_eq_zero_iff.1 h0]
 exact Nat.zero_mul _
end Go.Ab
namespace Go.Ab
open Go Go.IntWalk
set_option maxRecDepth 4000
theorem Aq (neg:Bool) (M:Nat) (e:Int):Lb (cD neg M e).m:=by
 unfold cD
 split
 ·exact fun x hx=>nomatch hx
 ·exact bk _
theorem E7 {neg:Bool} {M:Nat} {e:Int} {k:Nat} (h:ax M≤32*k):(cD neg M e).m.length≤k:=by
 unfold cD
 split
 ·exact Nat.zero_le _
 ·refine bv ?_
  rw [sK]
  omega
def QW (d:Rd):AV:=if qE (ax (ac d.m)) d.e=true then .tup [aC d,I 0] else .tup [aC ez,I 9]
end Go.Ab
namespace Go.Ab
open Go Go.IntWalk
set_option maxRecDepth 4000
theorem MU {m:List Nat} (hb:Lb m):ax (ac m)≤32*m.length:=by
 rw [cW,Nat.pow_mul]
 exact dO hb
end Go.Ab
namespace Go.Ab
open Go Go.IntWalk
set_option maxRecDepth 4000
def Kx (l:List Rd):List (List AV):=l.map aP
@[go_sem] theorem aa3 (l:List Rd):(Kx l).length=l.length:=by simp [Kx]
def y8 (p:Int) (l:List Rd):Int:=if l.all vd=true then (if 8≤p∧p≤512 then 0 else 2) else 1
end Go.Ab
namespace Go.Ab
open Go Go.IntWalk
set_option maxRecDepth 4000
def N4 (M:Nat) (e:Int) (p:Int):Int:=if e+(ax M:Nat) - p < -16384 then -16384 else e+(ax M:Nat) - p
def YI (M:Nat) (e:Int) (more:Bool) (u:Int):Nat × Bool:=if u≤e then (M*2 ^ (e - u).toNat,more) else (M / 2 ^ (u - e).toNat,more || decide (M % 2 ^ (u - e).toNat ≠ 0))
def upQ (up:Bool) (q:Nat × Bool):Nat:=if (up && q.2)=true then q.1+1 else q.1
end Go.Ab
namespace Go.Ab
open Go Go.IntWalk
set_option maxRecDepth 4000
def eL (d:Rd):Rd × Int:=if qE (ax (ac d.m)) d.e=true then (d,0) else (ez,9)
def YJ (p:Int) (up:Bool) (q:Nat) (u:Int):Rd × Int:=if 16384 < (ax q:Nat)+u then (if up=true then (ez,9) else eL (cD false (2 ^ p.toNat - 1) (16384 - p))) else eL (cD false q u)
def rV (r:Rd × Int):AV:=.tup [aC r.1,I r.2]
theorem O3 (d:Rd):QW d=rV (eL d):=by
 unfold QW eL
 split <;> rfl
def YK (d:Rd):Rd:=if vd d=false∨d.m.length=0 then ez else ⟨!d.neg,d.m,d.e⟩
def YL (M:Nat) (e:Int) (more:Bool) (p:Int) (up:Bool):Rd × Int:=YJ p up (upQ up (YI M e more (N4 M e p))) (N4 M e p)
def YM (neg:Bool) (r:Rd × Int):Rd × Int:=if r.2=0∧neg=true then (YK r.1,r.2) else r
end Go.Ab
namespace Go.Ab
open Go Go.IntWalk
set_option maxRecDepth 4000
theorem rP {d:Rd} (h:vd d=true) (hb:Lb d.m):d.m.length≤128:=by
 obtain ⟨h1,h2,h3,h4⟩:=lw h hb
 by_cases h0:d.m.length=0
 ·omega
 obtain ⟨g1,g2,g3,g4⟩:=oM h h0
 have h5:4294967296 ^ (d.m.length - 1)≤ac d.m:=by
  have h6:=tu (a:=d.m) (i:=d.m.length - 1) (by omega)
  rw [show d.m.length - 1+1=d.m.length by omega,List.take_length] at h6
  rw [h6]
  exact Nat.le_trans (Nat.le_mul_of_pos_right _ (Nat.pos_of_ne_zero g3)) (Nat.le_add_left _ _)
 have h7:32*(d.m.length - 1) < ax (ac d.m):=by
  rw [pC,Nat.pow_mul]
  exact h5
 omega
end Go.Ab
namespace Go.Ab
open Go Go.IntWalk
set_option maxRecDepth 4000
end Go.Ab
namespace Go.Ab
open Go Go.IntWalk
set_option maxRecDepth 4000
end Go.Ab
namespace Go.Ab
open Go Go.IntWalk
set_option maxRecDepth 4000
theorem mc {d:Rd} (h:vd d=true) (h0:d.m.length ≠ 0):bW d=(ax (ac d.m):Nat)+d.e:=by
 rw [bW,if_neg (fun h'=>h'.elim (fun h''=>by rw [h] at h''; exact nomatch h'') h0)]
end Go.Ab
namespace Go.Ab
open Go Go.IntWalk
set_option maxRecDepth 4000
theorem sM {x y k:Nat} (hx:ax x≤k) (hy:ax y≤k):ax (x+y)≤k+1:=by
 rw [cW] at hx hy ⊢
 rw [Nat.pow_succ]
 omega
theorem O4 {x y:Nat} (hx:ax x≤5000) (hy:ax y≤5000):R F.natural_Add [lm (ao x),lm (ao y)] []=some (.tup [lm (ao (x+y)),I 0],[]):=by
 have h1:(ao x).length≤200:=bv (by omega)
 have h2:(ao y).length≤200:=bv (by omega)
 have h3:=sM hx hy
 have h4:(ao (x+y)).length≤200:=bv (by omega)
 rw [QO (bk x) (bk y) (by omega) (by omega),aV,aV,kX,if_neg (by omega)]
theorem G9 {x y:Nat} (hx:ax x≤5000) (hy:ax y≤5000) (h:y≤x):R F.natural_Sub [lm (ao x),lm (ao y)] []=some (.tup [lm (ao (x - y)),I 0],[]):=by
 have h1:(ao x).length≤200:=bv (by omega)
 have h2:(ao y).length≤200:=bv (by omega)
 have h3:ax (x - y)≤5000:=by
  rw [cW] at hx ⊢
  omega
 have h4:(ao (x - y)).length≤200:=bv (by omega)
 rw [QP (bk x) (bk y) (by omega) (by omega),aV,aV,if_neg (by omega),kX,if_neg (by omega)]
end Go.Ab
namespace Go.Ab
open Go Go.IntWalk
set_option maxRecDepth 4000
end Go.Ab
namespace Go.Ab
open Go Go.IntWalk
set_option maxRecDepth 4000
end Go.Ab
namespace Go.Ab
open Go Go.IntWalk
set_option maxRecDepth 4000
def Xd (z f p:Int) (up:Bool):Rd × Int:=if z=0 then (ez,0) else YM (decide (z < 0)) (YL z.natAbs f false p (up != decide (z < 0)))
end Go.Ab
namespace Go.Ab
open Go Go.IntWalk
set_option maxRecDepth 4000
def cM (neg:Bool) (n:Nat):Int:=if neg=true then -(n:Int) else n
theorem du (n:Nat):cM true n=-(n:Int):=rfl
theorem dv (n:Nat):cM false n=(n:Int):=rfl
end Go.Ab
namespace Go.Ab
open Go Go.IntWalk
set_option maxRecDepth 4000
def YN (a b:Rd) (p:Int) (up:Bool):Rd × Int:=if y8 p [a,b]=0 then Xd (zI a*zI b) (-32768) p up else (ez,y8 p [a,b])
theorem rQ {d:Rd} (h:d.m.length=0):zI d=0:=by
 unfold zI
 rw [G8 h]
 split <;> rfl
end Go.Ab
namespace Go.Ab
open Go Go.IntWalk
set_option maxRecDepth 4000
theorem me {neg:Bool} {M:Nat} {e:Int} (h:M ≠ 0):cD neg M e=⟨neg,ao (M / 2 ^ tz M),e+tz M⟩:=by
 unfold cD
 rw [if_neg h]
theorem kw {neg:Bool} {e:Int}:cD neg 0 e=ez:=by
 unfold cD
 rw [if_pos rfl]
theorem ng {neg:Bool} {M k:Nat} {e:Int}:cD neg (M*2 ^ k) e=cD neg M (e+k):=by
 by_cases h:M=0
 ·rw [h,Nat.zero_mul,kw,kw]
 ·have h2:M*2 ^ k ≠ 0:=Nat.mul_ne_zero h (Nat.pos_iff_ne_zero.1 (Nat.two_pow_pos k))
  rw [me h,me h2,Nat.mul_comm M,yG k h,Nat.pow_add,Nat.mul_div_mul_left _ _ (Nat.two_pow_pos k)]
  rw [show e+((k+tz M:Nat):Int)=e+k+tz M by omega]
theorem E8 {neg:Bool} {M:Nat} {e:Int} (h:M ≠ 0):ac (cD neg M e).m=M / 2 ^ tz M∧(cD neg M e).e=e+tz M∧M / 2 ^ tz M % 2=1∧ax (M / 2 ^ tz M)+tz M=ax M:=by
 obtain ⟨h1,h2⟩:=rF h
 refine ⟨?_,?_,h2,?_⟩
 ·rw [me h]
  exact aV _
 ·rw [me h]
 ·have h3:=kv (n:=M / 2 ^ tz M) (tz M) (by omega)
  rw [Nat.mul_comm,← h1] at h3
  exact h3.symm
theorem Ha {neg:Bool} {M:Nat} {e:Int} (h:qE (ax (ac (cD neg M e).m)) (cD neg M e).e=true):vd (cD neg M e)=true:=by
 by_cases h0:M=0
 ·subst h0
  rw [kw]
  rfl
 ·obtain ⟨g1,g2,g3,g4⟩:=E8 (neg:=neg) (e:=e) h0
  have hn:M / 2 ^ tz M ≠ 0:=by omega
  rw [g1] at h
  have hb:=(Ap h (Nat.pos_iff_ne_zero.1 (nX hn))).1
  rw [me h0] at h ⊢
  unfold vd
  have hl:(ao (M / 2 ^ tz M)).length≤128:=bv (by omega)
  have hl0:(ao (M / 2 ^ tz M)).length ≠ 0:=fun h5=>hn (jz.1 (List.length_eq_zero_iff.1 h5))
  have ht:(ao (M / 2 ^ tz M)).getD ((ao (M / 2 ^ tz M)).length - 1) 0 ≠ 0:=(uR _).resolve_left (fun h5=>hn (jz.1 h5))
  have ho:(ao (M / 2 ^ tz M)).getD 0 0 % 2=1:=by
   rw [kT hn]
   show (M / 2 ^ tz M) % 4294967296 % 2=1
   omega
  rw [aV,if_neg hl0,decide_eq_true (p:=(ao (M / 2 ^ tz M)).length≤256) (by omega),decide_eq_true ho,decide_eq_true ht]
  exact h
end Go.Ab
namespace Go.Ab
open Go Go.IntWalk
set_option maxRecDepth 4000
def YO (d:Rd) (p:Int) (up:Bool):Rd × Int:=if y8 p [d]=0 then Xd (zI d) (-16384) p up else (ez,y8 p [d])
end Go.Ab
namespace Go.Ab
open Go Go.IntWalk
set_option maxRecDepth 4000
structure Ri where
 lo:Rd
 hi:Rd
 all:Bool
def Xe (x:Ri):List AV:=[B x.lo.neg,lm x.lo.m,I x.lo.e,B x.hi.neg,lm x.hi.m,I x.hi.e,B x.all]
structure OkI (x:Ri):Prop where
 lo:Ok0 x.lo
 hi:Ok0 x.hi
def z0 (d:Rd):Bool:=!d.neg && (decide (d.m.length=0) && decide (d.e=0))
end Go.Ab
namespace Go.Ab
open Go Go.IntWalk
set_option maxRecDepth 4000
def Ky (l:List Ri):List (List AV):=l.map Xe
@[go_sem] theorem aa4 (l:List Ri):(Ky l).length=l.length:=by simp [Ky]
end Go.Ab
namespace Go.Ab
open Go Go.IntWalk
set_option maxRecDepth 4000
theorem Kz:vd ez=true∧Ok0 ez:=⟨rfl,⟨fun x hx=>(nomatch hx),by decide⟩⟩
end Go.Ab
namespace Go.Ab
open Go Go.IntWalk
set_option maxRecDepth 4000
set_option maxHeartbeats 1000000
end Go.Ab
namespace Go.Ab
open Go Go.IntWalk
set_option maxRecDepth 4000
set_option maxHeartbeats 1000000
def Xf (d:Rd) (p:Int) (up:Bool):Nat→Rd × Int→Rd × Int
 | 0,r=>r
 | k+1,r=>if r.2=0 then Xf d p up k (YN r.1 d p up) else r
def pw (d:Rd) (n:Nat) (p:Int) (up:Bool):Rd × Int:=Xf d p up (n - 1) (YO d p up)
end Go.Ab
namespace Go.Ab
open Go Go.IntWalk
set_option maxRecDepth 4000
set_option maxHeartbeats 1000000
def sS (d:Rd):Int:=if vd d=false∨d.m.length=0 then 0 else if d.neg=true then -1 else 1
def one:Rd:=⟨false,[1],0⟩
end Go.Ab
namespace Go.Ab
open Go Go.IntWalk
set_option maxRecDepth 4000
set_option maxHeartbeats 1000000
def bo (l:List Int):List (List AV):=l.map fun (n:Int)=>[I n]
@[go_sem] theorem vP (l:List Int):(bo l).length=l.length:=by simp [bo]
theorem nZ {l:List Int} {i:Int} {n:Nat} {d:Int} (hi:i=n) (h:l[n]?=some d):aX (bo l) i=some (.ipt [I d]):=by
 subst hi
 simp [aX,bo,h]
theorem E9 {x:Int}:R F.cmp_isNaN_int_ [I x] []=some (B false,[]):=by
 refine aO xC xB (tI false) rfl ?_
 simp only [il,pZ,go_sem,↓reduceIte,adx]
theorem KA {x y:Int}:R F.cmp_Compare_int_ [I x,I y] []=some (I (jN x y),[]):=by
 refine aO uY uX (rJ false) rfl ?_
 have h1:=E9 (x:=x)
 have h2:=E9 (x:=y)
 unfold jN
 by_cases e1:x < y
 ·have f1:(x < y)=True:=tt e1
  rw [if_pos e1]
  simp only [df,gR,go_sem,↓reduceIte,adx,adz,ady,h1,h2,f1]
 ·have f1:(x < y)=False:=ff e1
  rw [if_neg e1]
  by_cases e2:y < x
  ·have f2:(y < x)=True:=tt e2
   rw [if_pos e2]
   simp only [df,gR,go_sem,↓reduceIte,adx,adz,ady,h1,h2,f1,f2]
  ·have f2:(y < x)=False:=ff e2
   rw [if_neg e2]
   simp only [df,gR,go_sem,↓reduceIte,adx,adz,ady,h1,h2,f1,f2]
def en:List Int→List Int→Int
 | [],[]=>0
 | [],_::_=>-1
 | _::_,[]=>1
 | x::xs,y::ys=>if jN x y=0 then en xs ys else jN x y
theorem MV {a b:List Int} (hl:a.length=b.length) (h2:a.length≤100000):∀ (k i:Nat),i+k=a.length→∀ (s:af) (h:aa),s 0=.sl 1 (bo a)→s 1=.sl 1 (bo b)→s 9=.sl 1 (bo a)→s 10=I a.length→s 11=I i →
  ∃ hh,aB 0 [0,1] (aD (au R (ab false) bU) [0,1,9,10,11] [] s h)=if en (a.drop i) (b.drop i)=0 then some (.normal,⟨upd (upd (fun _=>.any) 1 (.sl 1 (bo b))) 0 (.sl 1 (bo a)),fun _=>.dead⟩) else some (.ret,⟨upd (fun _=>.any) 4 (I (en (a.drop i) (b.drop i))),hh⟩):=by
 intro k
 induction k with
 | zero =>
  intro i hi s h h0 h1 h9 h10 h11
  have e1:((i:Int) < a.length)=False:=ff (by omega)
  rw [List.drop_eq_nil_of_le (by omega),List.drop_eq_nil_of_le (by omega),av]
  refine ⟨fun _=>.dead,?_⟩
  show _=if (0:Int)=0 then _ else _
  rw [if_pos rfl]
  simp only [bU,go_sem,↓reduceIte,adx,h0,h1,h9,h10,h11,e1]
 | succ k ih =>
  intro i hi s h h0 h1 h9 h10 h11
  have hlt:i < a.length:=by omega
  have hlt2:i < b.length:=by omega
  have e1:((i:Int) < a.length)=True:=tt (by omega)
  have e4:((b.length:Int)≤(i:Int))=False:=ff (by omega)
  have e2:aX (bo a) (i:Int)=some (.ipt [I a[i]]):=nZ rfl (List.getElem?_eq_getElem hlt)
  have e3:aX (bo b) (i:Int)=some (.ipt [I b[i]]):=nZ rfl (List.getElem?_eq_getElem hlt2)
  have e5:IntKind.i64.wrap ((i:Int)+1)=((i+1:Nat):Int):=wi (by omega) (by omega)
  rw [List.drop_eq_getElem_cons hlt,List.drop_eq_getElem_cons hlt2,av]
  have ih':=ih (i+1) (by omega)
  have hc:=KA (x:=a[i]) (y:=b[i])
  generalize a[i]=x at e2 hc ⊢
  generalize b[i]=y at e3 hc ⊢
  generalize aD _ _ _=L at ih' ⊢
  unfold en
  by_cases hz:jN x y=0
  ·have e6:(jN x y=0)=True:=tt hz
   simp only [if_pos hz]
   simp only [bU,go_sem,↓reduceIte,adx,adz,ady,h0,h1,h9,h10,h11,e1,e2,e3,e4,e5,hc,e6]
   exact ih' _ _ rfl rfl rfl rfl rfl
  ·have e6:(jN x y=0)=False:=ff hz
   simp only [if_neg hz]
   refine ⟨?hh,?_⟩
   rotate_left
   simp only [bU,go_sem,↓reduceIte,adx,adz,ady,h0,h1,h9,h10,h11,e1,e2,e3,e4,hc,e6]
   rfl
theorem I3 {a b:List Int} (hl:a.length=b.length) (h2:a.length≤100000):R F.slices_Compare_int_int_ [.sl 1 (bo a),.sl 1 (bo b)] []=some (I (en a b),[]):=by
 refine aO po pn (nS false) rfl ?_
 have h3:=MV hl h2 a.length 0 (Nat.zero_add _)
 simp only [List.drop_zero,Int.natCast_zero] at h3
 by_cases hz:en a b=0
 ·simp only [if_pos hz] at h3
  have e1:((a.length:Int) < b.length)=False:=ff (by omega)
  simp only [cf,fD,go_sem,↓reduceIte,adx]
  rw [(h3 _ _ rfl rfl rfl rfl rfl).choose_spec,hz]
  simp only [go_sem,↓reduceIte,adx,e1]
 ·simp only [if_neg hz] at h3
  simp only [cf,fD,go_sem,↓reduceIte,adx]
  rw [(h3 _ _ rfl rfl rfl rfl rfl).choose_spec]
  simp only [go_sem,↓reduceIte]
def bw:List Int→Int
 | []=>0
 | x::l=>x+bw l
def sm (l:List Int):Prop:=l.length≤1000∧∀ x ∈ l,0≤x∧x≤32
theorem xP {l:List Int} {i:Nat} (h:i < l.length):bw (l.take (i+1))=bw (l.take i)+l[i]:=by
 induction l generalizing i with
 | nil=>exact absurd h (Nat.not_lt_zero _)
 | cons a l ih =>
  cases i with
  | zero=>simp [bw]
  | succ i =>
   have:=ih (i:=i) (by simpa using h)
   simp only [List.take_succ_cons,bw,List.getElem_cons_succ]
   rw [this]
   omega
theorem Fa {l:List Int} (h:∀ x ∈ l,0≤x∧x≤32):0≤bw l∧bw l≤32*l.length:=by
 induction l with
 | nil=>exact ⟨Int.le_refl _,Int.le_refl _⟩
 | cons a l ih =>
  have h1:=h a (List.mem_cons_self ..)
  have h2:=ih (fun x hx=>h x (List.mem_cons_of_mem _ hx))
  simp only [bw,List.length_cons]
  omega
theorem MW {a:List Int} (h2:sm a):∀ (k i:Nat),i+k=a.length→∀ (s:af) (h:aa),s 3=I (bw (a.take i))→s 6=.sl 1 (bo a)→s 7=I a.length→s 8=I i →
  aB 0 [3] (aD (au R (ab false) iX) [3,6,7,8] [] s h)=some (.normal,⟨upd (fun _=>.any) 3 (I (bw a)),fun _=>.dead⟩):=by
 intro k
 induction k with
 | zero =>
  intro i hi s h h3 h6 h7 h8
  have e1:((i:Int) < a.length)=False:=ff (by omega)
  rw [List.take_of_length_le (by omega)] at h3
  rw [av]
  simp only [iX,go_sem,↓reduceIte,adx,h3,h6,h7,h8,e1]
 | succ k ih =>
  intro i hi s h h3 h6 h7 h8
  have hlt:i < a.length:=by omega
  obtain ⟨g1,g2⟩:=h2
  have e1:((i:Int) < a.length)=True:=tt (by omega)
  have e2:aX (bo a) (i:Int)=some (.ipt [I a[i]]):=nZ rfl (List.getElem?_eq_getElem hlt)
  have e5:IntKind.i64.wrap ((i:Int)+1)=((i+1:Nat):Int):=wi (by omega) (by omega)
  have b1:=Fa (l:=a.take i) (fun x hx=>g2 x (List.mem_of_mem_take hx))
  have b2:=g2 a[i] (List.getElem_mem hlt)
  have b3:(a.take i).length≤1000:=by simp only [List.length_take]; omega
  have e6:IntKind.i64.wrap (bw (a.take i)+a[i])=bw (a.take (i+1)):=by
   rw [xP hlt]
   exact i64_in _ ⟨by omega,by omega⟩
  have ih':=ih (i+1) (by omega)
  generalize a[i]=x at e2 e6 ⊢
  rw [av]
  generalize aD _ _ _=L at ih' ⊢
  simp only [iX,go_sem,↓reduceIte,adx,h3,h6,h7,h8,e1,e2,e5,e6]
  exact ih' _ _ rfl rfl rfl rfl
theorem qF {a:List Int} (h2:sm a):R F.poly_degree [.sl 1 (bo a)] []=some (I (bw a),[]):=by
 refine aO BV BU (w9 false) rfl ?_
 have h3:=MW h2 a.length 0 (Nat.zero_add _)
 simp only [List.take_zero,bw,Int.natCast_zero] at h3
 simp only [kL,s5,go_sem,↓reduceIte,adx]
 rw [h3 _ _ rfl rfl rfl rfl]
 simp only [go_sem,↓reduceIte]
def aZ (a b:List Int):Int:=if jN (bw a) (bw b)=0 then en b a else jN (bw a) (bw b)
theorem Fb {a b:List Int} (ha:sm a) (hb:sm b) (hl:a.length=b.length):R F.poly_order [.sl 1 (bo a),.sl 1 (bo b)] []=some (I (aZ a b),[]):=by
 refine aO Et Es (yO false) rfl ?_
 have d1:=qF ha
 have d2:=qF hb
 have d3:=KA (x:=bw a) (y:=bw b)
 have d4:=I3 hl.symm (by have:=hb.1; omega)
 unfold aZ
 by_cases hz:jN (bw a) (bw b)=0
 ·have e6:(jN (bw a) (bw b)=0)=True:=tt hz
  rw [if_pos hz]
  simp only [jr,pU,go_sem,↓reduceIte,adx,adz,ady,d1,d2,d3,d4,e6]
 ·have e6:(jN (bw a) (bw b)=0)=False:=ff hz
  rw [if_neg hz]
  simp only [jr,pU,go_sem,↓reduceIte,adx,adz,ady,d1,d2,d3,e6]
end Go.Ab
namespace Go.Ab
open Go Go.IntWalk
set_option maxRecDepth 4000
set_option maxHeartbeats 1000000
structure Rt where
 exps:List Int
 c:Rd
structure Rp where
 vars:Int
 terms:List Rt
def aW (t:Rt):List AV:=[.sl 1 (bo t.exps),B t.c.neg,lm t.c.m,I t.c.e]
def az (l:List Rt):List (List AV):=l.map aW
def bm (a:Rp):AV:=.agg [I a.vars,.sl 4 (az a.terms)]
@[go_sem] theorem dQ (l:List Rt):(az l).length=l.length:=by simp [az]
theorem eW {l:List Rt} {i:Int} {n:Nat} {d:Rt} (hi:i=n) (h:l[n]?=some d):aX (az l) i=some (.ipt (aW d)):=by
 subst hi
 simp [aX,az,h]
theorem oN {α:Type} {f:α→α} {l:List α} (h:∀ x ∈ l,f x=x):l.map f=l:=(List.map_congr_left (g:=fun c=>c) h).trans (List.map_id' _)
@[go_sem] theorem rR (l:List Rt):(az l).map (bQ [.o 2 [],.o 0 [],.o 2 [],.o 0 []])=az l:=by
 refine oN fun x hx=>?_
 simp only [az,List.mem_map] at hx
 obtain ⟨t,ht,rfl⟩:=hx
 simp only [aW,go_sem]
structure OkT (t:Rt):Prop where
 c:Ok0 t.c
 len:t.exps.length≤100000
structure OkP (a:Rp):Prop where
 t:∀ t ∈ a.terms,OkT t
def mf (e:Int):Bool:=decide (e < 0) || decide (32 < e)
theorem QX {e:Int}:R F.poly_Valid_1 [I e] []=some (B (mf e),[]):=by
 refine aO zX zW (vX false) rfl ?_
 unfold mf
 by_cases h:e < 0
 ·have e1:(e < 0)=True:=tt h
  simp only [gP,nI,go_sem,↓reduceIte,adx,e1,decide_true,Bool.true_or]
 ·have e1:(e < 0)=False:=ff h
  simp only [gP,nI,go_sem,↓reduceIte,adx,e1,decide_false,Bool.false_or]
theorem MX {l:List Int} (h2:l.length≤100000):R F.slices_ContainsFunc_int_int_ [.sl 1 (bo l),.fn F.poly_Valid_1 [] []] []=some (B (l.any mf),[]):=by
 let p:List AV→Bool:=fun row=>match row with | [.v (.int _ e)]=>mf e | _=>false
 have h1:=yY (k:=1) (g:=false) (f:=F.poly_Valid_1) (rows:=bo l) (p:=p) oK oJ (nf false) rfl (rH false) (by rw [vP]; omega) (fun row hr=>by
  simp only [bo,List.mem_map] at hr
  obtain ⟨e,he,rfl⟩:=hr
  refine ⟨I e,rfl,rfl,?_⟩
  simp only [go_sem,QX,p])
 have h2:=vM (k:=1) m9 m8 (lJ false) rfl (iK false) (nR false) (by simp only [go_sem]) h1
 have h3:(bo l).any p=l.any mf:=by
  unfold bo
  rw [List.any_map]
  rfl
 rw [h3] at h2
 exact h2
def u6 (v:Int) (t:Rt):Bool:=decide ((t.exps.length:Int)=v) && (vd t.c && (decide (t.c.m.length ≠ 0) && (!(t.exps.any mf) && decide (bw t.exps≤32))))
def xQ:Option Rt→Rt→Bool
 | none,_=>true
 | some q,t=>decide (aZ q.exps t.exps < 0)
def rS (v:Int):Option Rt→List Rt→Bool
 | _,[]=>true
 | pr,t::l=>u6 v t && (xQ pr t && rS v (some t) l)
theorem u7 {v:Int} {t:Rt} (h:u6 v t=true):(t.exps.length:Int)=v∧vd t.c=true∧t.c.m.length ≠ 0∧t.exps.any mf=false∧bw t.exps≤32:=by
 unfold u6 at h
 simpa using h
theorem n4 {l:List Int} (h:l.any mf=false):∀ x ∈ l,0≤x∧x≤32:=by
 intro x hx
 have h1:=List.any_eq_false.1 h x hx
 unfold mf at h1
 simp only [Bool.or_eq_true,decide_eq_true_eq,not_or] at h1
 omega
theorem O5 {a:Rp} (ok:OkP a) (hv:a.vars≤8) (h2:a.terms.length≤500):∀ (k i:Nat),i+k=a.terms.length→∀ (pr:Option Rt),(i=0→pr=none)→(0 < i→∃ q,pr=some q∧a.terms[i - 1]?=some q∧u6 a.vars q=true) →
  ∀ (s:af) (h:aa),s 1=.ref 1 none 0 0 0→s 20=.sl 4 (az a.terms)→s 21=I a.terms.length→s 22=I i→h 1=.bx [I a.vars,.sl 4 (az a.terms)] →
  ∃ hh,aB 0 [] (aD (au R (ab false) bL) [1,20,21,22] [1] s h)=if rS a.vars pr (a.terms.drop i)=true then some (.normal,⟨fun _=>.any,hh⟩) else some (.ret,⟨upd (fun _=>.any) 2 (B false),hh⟩):=by
 intro k
 induction k with
 | zero =>
  intro i hi pr p0 p1 s h h1 h20 h21 h22 k1
  have e1:((i:Int) < a.terms.length)=False:=ff (by omega)
  rw [List.drop_eq_nil_of_le (by omega),av]
  refine ⟨?hh0,?_⟩
  rotate_left
  show _=if true=true then _ else _
  rw [if_pos rfl]
  simp only [bL,go_sem,↓reduceIte,adx,adC,h1,h20,h21,h22,k1,e1]
  rfl
 | succ k ih =>
  intro i hi pr p0 p1 s h h1 h20 h21 h22 k1
  have hlt:i < a.terms.length:=by omega
  have e1:((i:Int) < a.terms.length)=True:=tt (by omega)
  have e2:aX (az a.terms) (i:Int)=some (.ipt (aW a.terms[i])):=eW rfl (List.getElem?_eq_getElem hlt)
  have e5:IntKind.i64.wrap ((i:Int)+1)=((i+1:Nat):Int):=wi (by omega) (by omega)
  have okt:=ok.t a.terms[i] (List.getElem_mem hlt)
  have hnext:a.terms[i+1 - 1]?=some a.terms[i]:=List.getElem?_eq_getElem hlt
  rw [List.drop_eq_getElem_cons hlt,av]
  have ih':=ih (i+1) (by omega) (some a.terms[i]) (fun h=>absurd h (Nat.succ_ne_zero _))
  generalize a.terms[i]=t at e2 okt ih' hnext ⊢
  generalize aD _ _ _=L at ih' ⊢
  have hvd:=qg okt.c
  have hct:=MX okt.len
  simp only [aW] at e2
  simp only [aC,aP] at hvd
  unfold rS
  cases hb:u6 a.vars t with
  | false =>
   simp only [Bool.false_and,if_neg Bool.false_ne_true]
   unfold u6 at hb
   by_cases c1:(t.exps.length:Int)=a.vars
   ·have f1:((t.exps.length:Int)=a.vars)=True:=tt c1
    rw [decide_eq_true c1,Bool.true_and] at hb
    cases c2:vd t.c with
    | false =>
     rw [c2] at hvd
     refine ⟨?hh2,?_⟩
     rotate_left
     simp only [bL,go_sem,↓reduceIte,adx,adz,ady,adA,adC,h1,h20,h21,h22,k1,e1,e2,f1,hvd]
     rfl
    | true =>
     rw [c2] at hvd hb
     rw [Bool.true_and] at hb
     by_cases c3:t.c.m.length=0
     ·have f3:((t.c.m.length:Int)=0)=True:=tt (by omega)
      refine ⟨?hh3,?_⟩
      rotate_left
      simp only [bL,go_sem,↓reduceIte,adx,adz,ady,adA,adC,h1,h20,h21,h22,k1,e1,e2,f1,hvd,f3]
      rfl
     ·have f3:((t.c.m.length:Int)=0)=False:=ff (by omega)
      rw [decide_eq_true c3,Bool.true_and] at hb
      cases c4:t.exps.any mf with
      | true =>
       rw [c4] at hct
       refine ⟨?hh4,?_⟩
       rotate_left
       simp only [bL,go_sem,↓reduceIte,adx,adz,ady,adA,adC,h1,h20,h21,h22,k1,e1,e2,f1,hvd,f3,hct]
       rfl
      | false =>
       rw [c4] at hct hb
       rw [Bool.not_false,Bool.true_and] at hb
       have hdg:=qF (a:=t.exps) ⟨by omega,n4 c4⟩
       have f5:(32 < bw t.exps)=True:=tt (by have:=of_decide_eq_false hb; omega)
       refine ⟨?hh5,?_⟩
       rotate_left
       simp only [bL,go_sem,↓reduceIte,adx,adz,ady,adA,adC,h1,h20,h21,h22,k1,e1,e2,f1,hvd,f3,hct,hdg,f5]
       rfl
   ·have f1:((t.exps.length:Int)=a.vars)=False:=ff c1
    refine ⟨?hh1,?_⟩
    rotate_left
    simp only [bL,go_sem,↓reduceIte,adx,adz,ady,adA,adC,h1,h20,h21,h22,k1,e1,e2,f1]
    rfl
  | true =>
   obtain ⟨c1,c2,c3,c4,c5⟩:=u7 hb
   have f1:((t.exps.length:Int)=a.vars)=True:=tt c1
   rw [c2] at hvd
   have f3:((t.c.m.length:Int)=0)=False:=ff (by omega)
   rw [c4] at hct
   have hdg:=qF (a:=t.exps) ⟨by omega,n4 c4⟩
   have f5:(32 < bw t.exps)=False:=ff (by omega)
   simp only [Bool.true_and]
   by_cases hi0:i=0
   ·have f6:(0 < (i:Int))=False:=ff (by omega)
    rw [p0 hi0]
    simp only [xQ,Bool.true_and]
    simp only [bL,go_sem,↓reduceIte,adx,adz,ady,adA,adC,h1,h20,h21,h22,k1,e1,e2,f1,hvd,f3,hct,hdg,f5,f6,e5]
    exact ih' (fun _=>⟨t,rfl,hnext,hb⟩) _ _ rfl rfl rfl rfl rfl
   ·have f6:(0 < (i:Int))=True:=tt (by omega)
    obtain ⟨q,q1,q2,q3⟩:=p1 (by omega)
    obtain ⟨d1,d2,d3,d4,d5⟩:=u7 q3
    rw [q1]
    have e7:IntKind.i64.wrap ((i:Int) - 1)=((i - 1:Nat):Int):=wi (by omega) (by omega)
    have e8:aX (az a.terms) ((i - 1:Nat):Int)=some (.ipt (aW q)):=eW rfl q2
    simp only [aW] at e8
    have ho:=Fb (a:=q.exps) (b:=t.exps) ⟨by omega,n4 d4⟩ ⟨by omega,n4 c4⟩ (by omega)
    simp only [xQ]
    by_cases c6:aZ q.exps t.exps < 0
    ·have f7:(0≤aZ q.exps t.exps)=False:=ff (by omega)
     simp only [decide_eq_true c6,Bool.true_and]
     simp only [bL,go_sem,↓reduceIte,adx,adz,ady,adA,adB,adC,h1,h20,h21,h22,k1,e1,e2,f1,hvd,f3,hct,hdg,f5,f6,e5,e7,e8,ho,f7]
     exact ih' (fun _=>⟨t,rfl,hnext,hb⟩) _ _ rfl rfl rfl rfl rfl
    ·have f7:(0≤aZ q.exps t.exps)=True:=tt (by omega)
     simp only [decide_eq_false c6,Bool.false_and,if_neg Bool.false_ne_true]
     refine ⟨?hh7,?_⟩
     rotate_left
     simp only [bL,go_sem,↓reduceIte,adx,adz,ady,adA,adB,adC,h1,h20,h21,h22,k1,e1,e2,f1,hvd,f3,hct,hdg,f5,f6,e7,e8,ho,f7]
     rfl
def vp (a:Rp):Bool:=decide (0≤a.vars) && (decide (a.vars≤8) && (decide (a.terms.length≤500) && rS a.vars none a.terms))
theorem Bd {a:Rp} (ok:OkP a):R F.poly_Valid [bm a] []=some (B (vp a),[]):=by
 refine aO D9 D8 (yH false) rfl ?_
 unfold vp
 by_cases c1:0≤a.vars
 ·have f1:(a.vars < 0)=False:=ff (by omega)
  rw [decide_eq_true c1,Bool.true_and]
  by_cases c2:a.vars≤8
  ·have f2:(8 < a.vars)=False:=ff (by omega)
   rw [decide_eq_true c2,Bool.true_and]
   by_cases c3:a.terms.length≤500
   ·have f3:(500 < (a.terms.length:Int))=False:=ff (by omega)
    rw [decide_eq_true c3,Bool.true_and]
    have h3:=O5 ok c2 c3 a.terms.length 0 (Nat.zero_add _) none (fun _=>rfl) (fun h=>absurd h (Nat.lt_irrefl _))
    simp only [List.drop_zero,Int.natCast_zero] at h3
    cases hb:rS a.vars none a.terms with
    | true =>
     rw [hb] at h3
     simp only [] at h3
     simp only [dR,it,bm,go_sem,↓reduceIte,adx,adz,ady,f1,f2,f3]
     rw [(h3 _ _ rfl rfl rfl rfl rfl).choose_spec]
     simp only [go_sem,↓reduceIte]
    | false =>
     rw [hb] at h3
     simp only [if_neg Bool.false_ne_true] at h3
     simp only [dR,it,bm,go_sem,↓reduceIte,adx,adz,ady,f1,f2,f3]
     rw [(h3 _ _ rfl rfl rfl rfl rfl).choose_spec]
     simp only [go_sem,↓reduceIte]
   ·have f3:(500 < (a.terms.length:Int))=True:=tt (by omega)
    rw [decide_eq_false c3,Bool.false_and]
    simp only [dR,it,bm,go_sem,↓reduceIte,adx,adz,ady,f1,f2,f3]
  ·have f2:(8 < a.vars)=True:=tt (by omega)
   rw [decide_eq_false c2,Bool.false_and]
   simp only [dR,it,bm,go_sem,↓reduceIte,adx,adz,ady,f1,f2]
 ·have f1:(a.vars < 0)=True:=tt (by omega)
  rw [decide_eq_false c1,Bool.false_and]
  simp only [dR,it,bm,go_sem,↓reduceIte,adx,adz,ady,f1]
end Go.Ab
namespace Go.Ab
open Go Go.IntWalk
set_option maxRecDepth 4000
set_option maxHeartbeats 1000000
@[go_sem] theorem aa5 (l:List Ri):(Ky l).map (bQ [.o 0 [],.o 2 [],.o 0 [],.o 0 [],.o 2 [],.o 0 [],.o 0 []])=Ky l:=by
 refine oN fun x hx=>?_
 simp only [Ky,List.mem_map] at hx
 obtain ⟨t,ht,rfl⟩:=hx
 simp only [Xe,go_sem]
end Go.Ab
namespace Go.Ab
open Go Go.IntWalk
set_option maxRecDepth 4000
set_option maxHeartbeats 1000000
end Go.Ab
namespace Go.Ab
open Go Go.IntWalk
set_option maxRecDepth 4000
set_option maxHeartbeats 1000000
theorem u9 {n:Nat} {i:Int} (hi:i=n) (hn:n < 18446744073709551616):c8 .and (.v (.int .u64 i)) (.v (.int .u64 4294967295))=some (.v (.int .u64 ((n % 4294967296:Nat):Int))):=by
 subst hi
 rw [GV]
 have e:(BitVec.ofInt IntKind.u64.bits (n:Int) &&& BitVec.ofInt IntKind.u64.bits 4294967295).toNat=n % 4294967296:=by
  show (BitVec.ofInt 64 (n:Int) &&& BitVec.ofInt 64 4294967295).toNat=n % 4294967296
  rw [BitVec.toNat_and]
  have e2:(BitVec.ofInt 64 (n:Int)).toNat=n:=by
   simp
   omega
  rw [e2,show (BitVec.ofInt 64 4294967295).toNat=2 ^ 32 - 1 from by decide,Nat.and_two_pow_sub_one_eq_mod]
 rw [e]
 rw [gu rfl (by omega)]
theorem Fc {n:Nat} {i:Int} (hi:i=n) (hn:n < 4294967296):c8 .and (.v (.int .u32 i)) (.v (.int .u32 1))=some (.v (.int .u32 ((n % 2:Nat):Int))):=by
 subst hi
 rw [GV]
 have e:(BitVec.ofInt IntKind.u32.bits (n:Int) &&& BitVec.ofInt IntKind.u32.bits 1).toNat=n % 2:=by
  show (BitVec.ofInt 32 (n:Int) &&& BitVec.ofInt 32 1).toNat=n % 2
  rw [BitVec.toNat_and]
  have e2:(BitVec.ofInt 32 (n:Int)).toNat=n:=by
   simp
   omega
  rw [e2,show (BitVec.ofInt 32 1).toNat=2 ^ 1 - 1 from by decide,Nat.and_two_pow_sub_one_eq_mod]
 rw [e]
 rw [wJ rfl (by omega)]
theorem I4 (m:List Nat) (h2:m.length < 4611686018427387904):∀ (n:Nat),n≤m.length→∀ (s:af) (h:aa),s 0=lm m→s 3=I n →
  aB 0 [0,3] (aD (au R (ab false) s9) [0,3] [] s h)=some (.normal,⟨upd (upd (fun _=>.any) 3 (I (fL m n))) 0 (lm m),fun _=>.dead⟩):=Bc m h2
theorem qi {m:List Nat} (hb:Lb m) (h:m.length≤10000000):R F.r02_trim [lm m] []=some (lm (ao (ac m)),[]):=by
 refine aO IP IN (Cb false) rfl ?_
 have h1:cx 1 (lm m) none (some (I (fL m m.length:Nat))) none=some (lm (ao (ac m))):=by
  rw [u2 (a:=0) (b:=fL m m.length) rfl (nW rfl (oI _ _)) (oI _ _),List.drop_zero,Nat.sub_zero,wY hb]
 have hl:=dq m hb
 have e1:((ao (ac m)).length*4≤140737488355328)=True:=tt (by omega)
 simp only [om,yA,go_sem,↓reduceIte,adx,adA,adB,I4 m (by omega) m.length (Nat.le_refl _),h1,E6,e1,List.nil_append,List.length_nil,true_or,Nat.zero_add,Nat.le_refl,List.replicate_zero]
theorem KB:∀ (x b:Nat),x < 4294967296→b+ax x≤100000000→∀ (s:af) (h:aa),s 3=I b→s 4=U x →
  aB 0 [3] (aD (au R (ab false) lQ) [3,4] [] s h)=some (.normal,⟨upd (fun _=>.any) 3 (I (b+ax x:Nat)),fun _=>.dead⟩):=by
 intro x
 induction x using Nat.strongRecOn with
 | ind x ih =>
  intro b hx hb s h h3 h4
  rw [av]
  by_cases h0:x=0
  ·have e1:(0 < (x:Int))=False:=ff (by omega)
   rw [h0,u4,Nat.add_zero]
   rw [h0] at e1 h4
   simp only [lQ,go_sem,↓reduceIte,adx,h3,h4,e1]
  ·have e1:(0 < (x:Int))=True:=tt (by omega)
   have e2:=vO (n:=x) (k:=1) (kk:=.u64) (j:=1) rfl rfl (by omega)
   have e3:IntKind.i64.wrap ((b:Int)+1)=((b+1:Nat):Int):=wi (by omega) (by omega)
   have e4:ax x=1+ax (x / 2 ^ 1):=by
    have h5:=sK x 1
    have h6:=nX h0
    omega
   have ih':=ih (x / 2 ^ 1) (by omega) (b+1) (by omega) (by omega)
   rw [show b+ax x=b+1+ax (x / 2 ^ 1) by omega]
   generalize aD _ _ _=L at ih' ⊢
   simp only [lQ,go_sem,↓reduceIte,adx,h3,h4,e1,e2,e3]
   exact ih' _ _ rfl rfl
theorem MY {m:List Nat} (hb:Lb m) (h:m.length≤1000000) (hc:ot m):R F.r02_bits [lm m] []=some (I (ax (ac m):Nat),[]):=by
 refine aO IL IK (B6 false) rfl ?_
 by_cases h0:m.length=0
 ·have:m=[]:=List.length_eq_zero_iff.1 h0
  subst this
  simp only [lG,sD,go_sem,↓reduceIte,adx,List.length_nil,Int.natCast_zero,ac,u4]
 ·have e1:((m.length:Int)=0)=False:=ff (by omega)
  have e2:IntKind.i64.wrap ((m.length:Int) - 1)=((m.length - 1:Nat):Int):=wi (by omega) (by omega)
  have e3:IntKind.i64.wrap (32*((m.length - 1:Nat):Int))=((32*(m.length - 1):Nat):Int):=wi (by omega) (by omega)
  have e4:aX (aG m) ((m.length - 1:Nat):Int)=some (.ipt [U (m.getD (m.length - 1) 0:Nat)]):=ba rfl (by omega)
  have hx:=bP hb (m.length - 1)
  have e5:=KB (m.getD (m.length - 1) 0) (32*(m.length - 1)) hx (by have:=(cW (k:=32)).2 hx; omega)
  have e6:32*(m.length - 1)+ax (m.getD (m.length - 1) 0)=ax (ac m):=by
   have hne:m ≠ []:=fun h=>h0 (by rw [h]; rfl)
   have h7:=E4 (uQ hc hne)
   rw [nQ hb hc] at h7
   exact h7.symm
  rw [e6] at e5
  simp only [lG,sD,go_sem,↓reduceIte,adx,e1,e2,e3,e4]
  rw [e5 _ _ rfl rfl]
  simp only [go_sem,↓reduceIte]
theorem Fd {m:List Nat} (hb:Lb m) (n:Nat):m.getD (n / 32) 0 / 2 ^ (n % 32) % 2=ac m / 2 ^ n % 2:=by
 have h1:ac m / 2 ^ n=ac (m.drop (n / 32)) / 2 ^ (n % 32):=by
  rw [qf hb,Nat.div_div_eq_div_mul,mu]
 rw [h1,dt]
 have hr:n % 32 < 32:=Nat.mod_lt _ (by omega)
 have e:(4294967296:Nat)=2 ^ (n % 32)*(2*2 ^ (31 - n % 32)):=by
  rw [← Nat.pow_succ',← Nat.pow_add,show n % 32+(31 - n % 32+1)=32 by omega]
 generalize ac (m.drop (n / 32+1))=w
 rw [show 4294967296*w=2 ^ (n % 32)*(2*(2 ^ (31 - n % 32)*w)) by
  conv=>lhs; rw [e]
  rw [Nat.mul_assoc,Nat.mul_assoc],Nat.add_mul_div_left _ _ (Nat.two_pow_pos _),Nat.add_mul_mod_self_left]
theorem KC {n:Nat} (h:n ≠ 0) {k:Nat} (hk:k≤tz n):n / 2 ^ k % 2=if k=tz n then 1 else 0:=by
 obtain ⟨h1,h2⟩:=rF h
 by_cases hh:k=tz n
 ·rw [if_pos hh,hh]
  exact h2
 ·rw [if_neg hh]
  obtain ⟨j,hj⟩:∃ j,tz n=k+(j+1):=⟨tz n - k - 1,by omega⟩
  have h3:n=2 ^ k*(2*(2 ^ j*(n / 2 ^ tz n))):=by
   conv=>lhs; rw [h1,hj]
   rw [Nat.pow_add,Nat.pow_succ,hj,Nat.pow_add,Nat.pow_succ]
   ac_rfl
  rw [h3,Nat.mul_div_cancel_left _ (Nat.two_pow_pos k),Nat.mul_mod_right]
theorem I5 {m:List Nat} (hb:Lb m) (h:m.length≤1000000) (hv:ac m ≠ 0):∀ (k i:Nat),i+k=tz (ac m)→∀ (s:af) (h:aa),s 0=lm m→s 3=I i →
  aB 0 [3] (aD (au R (ab false) kO) [0,3] [] s h)=some (.normal,⟨upd (fun _=>.any) 3 (I (tz (ac m):Nat)),fun _=>.dead⟩):=by
 have htz:tz (ac m) < 32*m.length:=by
  refine CQ hv ?_
  have:=dO hb
  rw [Nat.pow_mul]
  exact this
 intro k
 induction k with
 | zero =>
  intro i hi s h h0 h3
  have hi':i=tz (ac m):=by omega
  have e1:=pB (n:=i) (m:=32) (j:=32) rfl rfl (by omega) (by omega)
  have e2:=pA (n:=i) (m:=32) (j:=32) rfl rfl (by omega)
  have e3:aX (aG m) ((i / 32:Nat):Int)=some (.ipt [U (m.getD (i / 32) 0:Nat)]):=ba rfl (by omega)
  have hx:=bP hb (i / 32)
  have e4:IntKind.u64.wrap ((i % 32:Nat):Int)=((i % 32:Nat):Int):=gu rfl (by omega)
  have e5:=vO (n:=m.getD (i / 32) 0) (k:=i % 32) (kk:=.u64) (j:=((i % 32:Nat):Int)) rfl rfl (by omega)
  have e6:=Fc (n:=m.getD (i / 32) 0 / 2 ^ (i % 32)) rfl (Nat.lt_of_le_of_lt (Nat.div_le_self _ _) hx)
  have e7:=Fd hb i
  rw [KC hv (by omega),if_pos hi'] at e7
  rw [e7] at e6
  rw [av]
  rw [← hi']
  simp only [kO,go_sem,↓reduceIte,adx,adG,h0,h3,e1,e2,e3,e4,e5,e6,Int.natCast_one]
 | succ k ih =>
  intro i hi s h h0 h3
  have e1:=pB (n:=i) (m:=32) (j:=32) rfl rfl (by omega) (by omega)
  have e2:=pA (n:=i) (m:=32) (j:=32) rfl rfl (by omega)
  have e3:aX (aG m) ((i / 32:Nat):Int)=some (.ipt [U (m.getD (i / 32) 0:Nat)]):=ba rfl (by omega)
  have hx:=bP hb (i / 32)
  have e4:IntKind.u64.wrap ((i % 32:Nat):Int)=((i % 32:Nat):Int):=gu rfl (by omega)
  have e5:=vO (n:=m.getD (i / 32) 0) (k:=i % 32) (kk:=.u64) (j:=((i % 32:Nat):Int)) rfl rfl (by omega)
  have e6:=Fc (n:=m.getD (i / 32) 0 / 2 ^ (i % 32)) rfl (Nat.lt_of_le_of_lt (Nat.div_le_self _ _) hx)
  have e7:=Fd hb i
  rw [KC hv (by omega),if_neg (by omega)] at e7
  rw [e7] at e6
  have e8:IntKind.i64.wrap ((i:Int)+1)=((i+1:Nat):Int):=wi (by omega) (by omega)
  have ih':=ih (i+1) (by omega)
  rw [av]
  generalize aD _ _ _=L at ih' ⊢
  simp only [kO,go_sem,↓reduceIte,adx,h0,h3,e1,e2,e3,e4,e5,e6,e8,Int.natCast_zero]
  exact ih' _ _ rfl rfl
theorem KD {m:List Nat} (hb:Lb m) (h:m.length≤1000000) (hv:ac m ≠ 0):R F.r02_zeros [lm m] []=some (I (tz (ac m):Nat),[]):=by
 refine aO Gs Gr (Aj false) rfl ?_
 have h3:=I5 hb h hv (tz (ac m)) 0 (Nat.zero_add _)
 simp only [Int.natCast_zero] at h3
 simp only [mZ,wE,go_sem,↓reduceIte,adx]
 rw [h3 _ _ rfl rfl]
 simp only [go_sem,↓reduceIte]
end Go.Ab
namespace Go.Ab
open Go Go.IntWalk
set_option maxRecDepth 4000
set_option maxHeartbeats 1000000
theorem KE {a:List Nat} (ha:Lb a) {n q:Nat} (h1:a.length≤100000) (hq:q≤100000):∀ (k i:Nat),i+k=a.length→∀ (s:af) (h:aa),s 0=lm a→s 1=I (n:Nat)→s 5=.rsl 11 none 1 0 (q+i)→s 6=W (cL a (n % 32) i:Nat)→s 7=I i →
  h 11=.ar 1 (aG (List.replicate q 0++gw a (n % 32) i))→h 34=.dead →
  aB 0 [5,6] (aD (au R (ab false) lU) [0,1,5,6,7] [11,34] s h) =
   some (.normal,⟨upd (upd (fun _=>.any) 6 (W (cL a (n % 32) a.length:Nat))) 5 (.rsl 11 none 1 0 (q+a.length)),upd (upd (fun _=>.dead) 34 .dead) 11 (.ar 1 (aG (List.replicate q 0++gw a (n % 32) a.length)))⟩):=by
 intro k
 induction k with
 | zero =>
  intro i hi s h h0 g1 h5 h6 h7 hh hh2
  have:i=a.length:=by omega
  subst this
  rw [av]
  simp only [lU,go_sem,↓reduceIte,adx,adC,h0,g1,h5,h6,h7,hh,hh2,Int.lt_irrefl]
 | succ k ih =>
  intro i hi s h h0 g1 h5 h6 h7 hh hh2
  have ih':=ih (i+1) (by omega)
  have hx:=bP ha i
  have hr:n % 32 < 32:=Nat.mod_lt _ (by omega)
  have hc:=rN ha (r:=n % 32) i
  have hp:2 ^ (n % 32)≤2 ^ 31:=Nat.pow_le_pow_right (by omega) (by omega)
  have hxp:a.getD i 0*2 ^ (n % 32)≤4294967295*2 ^ 31:=Nat.mul_le_mul (by omega) hp
  have e1:((i:Int) < (a.length:Int))=True:=tt (by omega)
  have e2:aX (aG a) (i:Int)=some (.ipt [U (a.getD i 0:Nat)]):=ba rfl (by omega)
  have e3:IntKind.i64.wrap ((i:Int)+1)=((i+1:Nat):Int):=wi (by omega) (by omega)
  have e4:IntKind.u64.wrap (a.getD i 0:Int)=(a.getD i 0:Int):=gu rfl (by omega)
  have e5:=pA (n:=n) (m:=32) (j:=32) rfl rfl (by omega)
  have e5':IntKind.u64.wrap ((n % 32:Nat):Int)=((n % 32:Nat):Int):=gu rfl (by omega)
  have e6:=CV (n:=a.getD i 0) (k:=n % 32) (kk:=.u64) (j:=((n % 32:Nat):Int)) rfl rfl (by omega) (by omega)
  have e7:=IZ (m:=a.getD i 0*2 ^ (n % 32)) (n:=cL a (n % 32) i) rfl rfl (by omega) (by omega)
  rw [y5 hc] at e7
  have e10:=u9 (n:=a.getD i 0*2 ^ (n % 32)+cL a (n % 32) i) rfl (by omega)
  have e8:IntKind.u32.wrap (((a.getD i 0*2 ^ (n % 32)+cL a (n % 32) i) % 4294967296:Nat):Int)=(((a.getD i 0*2 ^ (n % 32)+cL a (n % 32) i) % 4294967296:Nat):Int):=wJ rfl (by omega)
  have e9:=pt (n:=a.getD i 0*2 ^ (n % 32)+cL a (n % 32) i) (k:=32) (kk:=.u64) (j:=32) rfl rfl (by omega)
  have f1:aG (List.replicate q 0++gw a (n % 32) i)++[[U ((a.getD i 0*2 ^ (n % 32)+cL a (n % 32) i) % 4294967296:Nat)]]=aG (List.replicate q 0++gw a (n % 32) (i+1)):=by
   rw [show [[U ((a.getD i 0*2 ^ (n % 32)+cL a (n % 32) i) % 4294967296:Nat)]]=aG [(a.getD i 0*2 ^ (n % 32)+cL a (n % 32) i) % 4294967296] from rfl,pq,List.append_assoc]
   simp [gw,List.range_succ]
  have f2:(q+i=(List.replicate q 0++gw a (n % 32) i).length)=True:=tt (by simp [kZ])
  have f3:((q+i+1)*4≤140737488355328)=True:=tt (by omega)
  rw [av]
  generalize aD _ _ _=L at ih' ⊢
  simp only [lU,go_sem,↓reduceIte,adx,adA,adB,adC,h0,g1,h5,h6,h7,hh,hh2,e1,e2,e3,e4,e5,e5',e6,e7,e8,e9,e10,f1,f2,f3,true_or,Nat.zero_add,Nat.le_refl]
  exact ih' _ _ rfl rfl rfl rfl rfl rfl rfl
theorem Fe {a:List Nat} (ha:Lb a) {n:Nat} (h1:a.length≤10000) (hn:n≤100000):R F.r02_left [lm a,I n] []=some (lm (ao (ac a*2 ^ n)),[]):=by
 refine aO IS IR (Cm false) rfl ?_
 have hc:=rN ha (r:=n % 32) a.length
 have hp:2 ^ (n % 32)≤2 ^ 31:=Nat.pow_le_pow_right (by omega) (by have:n % 32 < 32:=Nat.mod_lt _ (by omega); omega)
 have e1:=pB (n:=n) (m:=32) (j:=32) rfl rfl (by omega) (by omega)
 have e4:=oL (i:=((n / 32:Nat):Int)) (j:=((n / 32:Nat):Int)) rfl rfl (Nat.le_refl _) (by omega)
 have e5:(n / 32*4≤140737488355328)=True:=tt (by omega)
 have e6:=KE ha (n:=n) (q:=n / 32) (by omega) (by omega) a.length 0 (by omega)
 have e7:aG (List.replicate (n / 32) 0)=aG (List.replicate (n / 32) 0++gw a (n % 32) 0):=by simp [gw]
 have e8:IntKind.u32.wrap ((cL a (n % 32) a.length:Nat):Int)=((cL a (n % 32) a.length:Nat):Int):=wJ rfl (by omega)
 have hall:=G7 ha n
 have f1:aG (List.replicate (n / 32) 0++gw a (n % 32) a.length)++[[U (cL a (n % 32) a.length:Nat)]]=aG (de (n / 32+a.length+1) (ac a*2 ^ n)):=by
  rw [← hall,show [[U (cL a (n % 32) a.length:Nat)]]=aG [cL a (n % 32) a.length] from rfl,pq]
 have f2:(n / 32+a.length=(List.replicate (n / 32) 0++gw a (n % 32) a.length).length)=True:=tt (by simp [kZ])
 have f3:((n / 32+a.length+1)*4≤140737488355328)=True:=tt (by omega)
 have ht:=qi (pz (n / 32+a.length+1) (ac a*2 ^ n)) (by rw [ct]; omega)
 have hv:ac (de (n / 32+a.length+1) (ac a*2 ^ n))=ac a*2 ^ n:=by
  rw [l9,Nat.mod_eq_of_lt]
  have h:=dO ha
  have h2:2 ^ n≤4294967296 ^ (n / 32+1):=by
   rw [show (4294967296:Nat)=2 ^ 32 from rfl,← Nat.pow_mul]
   exact Nat.pow_le_pow_right (by omega) (by omega)
  rw [show n / 32+a.length+1=a.length+(n / 32+1) from by omega,Nat.pow_add]
  exact Nat.mul_lt_mul_of_lt_of_le h h2 (Nat.pow_pos (by omega))
 rw [hv] at ht
 have f4:(aG (de (n / 32+a.length+1) (ac a*2 ^ n))).take (n / 32+a.length+1)=aG (de (n / 32+a.length+1) (ac a*2 ^ n)):=by
  rw [List.take_of_length_le]
  rw [Am,ct]
  exact Nat.le_refl _
 simp only [oo,yB,go_sem,↓reduceIte,adx,e1,e4,e5,rK,e7]
 rw [e6 _ _ rfl rfl rfl rfl rfl rfl rfl]
 simp only [go_sem,↓reduceIte,adx,adz,ady,adA,adB,e8,f1,f2,f3,f4,true_or,Nat.zero_add,Nat.le_refl,ct,ht]
def qG (d:Nat) (out:List Nat) (x:AV) (o:Ob):Prop:=(out=[]∧x=.emp∧o=.dead)∨(0 < out.length∧x=.rsl d none 1 0 out.length∧o=.ar 1 (aG out))
theorem n5 {d v:Nat}:qG d ([]++[v]) (.rsl d none 1 0 1) (.ar 1 [[U (v:Nat)]]):=Or.inr ⟨by simp,rfl,rfl⟩
theorem mh {d v:Nat} {out:List Nat}:qG d (out++[v]) (.rsl d none 1 0 (out.length+1)) (.ar 1 (aG (out++[v]))):=Or.inr ⟨by simp,by rw [List.length_append]; rfl,rfl⟩
theorem kx (out:List Nat) (v:Nat):aG out++[[U (v:Nat)]]=aG (out++[v]):=by simp [aG]
theorem KF (a:List Nat) (r i:Nat):fg a r (i+1)=fg a r i++[ku a r i]:=by simp [fg,List.range_succ]
theorem I6 {a:List Nat} (ha:Lb a) {n:Nat} (h1:a.length≤100000):∀ (k i:Nat),i+k=a.length→∀ (s:af) (h:aa),s 0=lm a→s 1=I (n:Nat)→s 6=I i→qG 51 (fg a (n % 32) i) (s 5) (h 51) →
  ∃ x hh,aB 0 [5] (aD (au R (ab false) cq) [0,1,5,6] [51] s h)=some (.normal,⟨upd (fun _=>.any) 5 x,hh⟩)∧qG 51 (fg a (n % 32) a.length) x (hh 51)∧∀ a,a ≠ 51→hh a=.dead:=by
 intro k
 induction k with
 | zero =>
  intro i hi s h h0 g1 h6 hacc
  have:i=a.length:=by omega
  subst this
  rw [av]
  rcases hacc with ⟨g2,h5,hh⟩ | ⟨g2,h5,hh⟩
  ·refine ⟨.emp,?hh0,?_,Or.inl ⟨g2,rfl,?_⟩,?_⟩
   rotate_left
   ·simp only [cq,go_sem,↓reduceIte,adx,h0,g1,h5,h6,hh,Int.lt_irrefl]
    rfl
   ·rfl
   ·intro b hb
    simp only [gz,hb,if_false]
  ·refine ⟨.rsl 51 none 1 0 (fg a (n % 32) a.length).length,?hh1,?_,Or.inr ⟨g2,rfl,?_⟩,?_⟩
   rotate_left
   ·simp only [cq,go_sem,↓reduceIte,adx,adC,h0,g1,h5,h6,hh,Int.lt_irrefl]
    rfl
   ·rfl
   ·intro b hb
    simp only [gz,hb,if_false]
 | succ k ih =>
  intro i hi s h h0 g1 h6 hacc
  have ih':=ih (i+1) (by omega)
  have hx:=bP ha i
  have hy:=bP ha (i+1)
  have hr:n % 32 < 32:=Nat.mod_lt _ (by omega)
  have e1:((i:Int) < (a.length:Int))=True:=tt (by omega)
  have e2:aX (aG a) (i:Int)=some (.ipt [U (a.getD i 0:Nat)]):=ba rfl (by omega)
  have e3:IntKind.i64.wrap ((i:Int)+1)=((i+1:Nat):Int):=wi (by omega) (by omega)
  have e4:IntKind.u64.wrap (a.getD i 0:Int)=(a.getD i 0:Int):=gu rfl (by omega)
  have e5:=pA (n:=n) (m:=32) (j:=32) rfl rfl (by omega)
  have e5':IntKind.u64.wrap ((n % 32:Nat):Int)=((n % 32:Nat):Int):=gu rfl (by omega)
  have q1:((fg a (n % 32) i).length+1)*4≤140737488355328:=by rw [jB]; omega
  have f3:=tt q1
  have hlt:∀ w:Nat,w < 18446744073709551616→w / 2 ^ (n % 32) < 18446744073709551616:=fun w hw=>Nat.lt_of_le_of_lt (Nat.div_le_self _ _) hw
  rw [av]
  rw [KF] at ih'
  generalize aD _ _ _=L at ih' ⊢
  by_cases hl:i+1 < a.length
  ·have f1:(((i+1:Nat):Int) < (a.length:Int))=True:=tt (by omega)
   have f2:aX (aG a) ((i+1:Nat):Int)=some (.ipt [U (a.getD (i+1) 0:Nat)]):=ba rfl hl
   have f5:IntKind.u64.wrap (a.getD (i+1) 0:Int)=(a.getD (i+1) 0:Int):=gu rfl (by omega)
   have f6:=CV (n:=a.getD (i+1) 0) (k:=32) (kk:=.u64) (j:=32) rfl rfl (by omega) (by omega)
   have f7:=IZ (m:=a.getD i 0) (n:=a.getD (i+1) 0*2 ^ 32) rfl rfl (by omega) (by omega)
   rw [Nat.or_comm,y5 hx,show a.getD (i+1) 0*2 ^ 32+a.getD i 0=a.getD i 0+4294967296*a.getD (i+1) 0 by omega] at f7
   have f8:=pt (n:=a.getD i 0+4294967296*a.getD (i+1) 0) (k:=n % 32) (kk:=.u64) (j:=((n % 32:Nat):Int)) rfl rfl (by omega)
   have f9:=u9 (n:=(a.getD i 0+4294967296*a.getD (i+1) 0) / 2 ^ (n % 32)) rfl (hlt _ (by omega))
   rw [show (a.getD i 0+4294967296*a.getD (i+1) 0) / 2 ^ (n % 32) % 4294967296=ku a (n % 32) i from rfl] at f9
   have f10:IntKind.u32.wrap ((ku a (n % 32) i:Nat):Int)=((ku a (n % 32) i:Nat):Int):=wJ rfl (Nat.mod_lt _ (by omega))
   rcases hacc with ⟨g2,h5,hh⟩ | ⟨g2,h5,hh⟩
   ·simp only [cq,go_sem,↓reduceIte,adx,adz,ady,adA,adB,h0,g1,h5,h6,hh,e1,e2,e3,e4,e5,e5',f1,f2,f5,f6,f7,f8,f9,f10]
    rw [g2] at ih'
    exact ih' _ _ rfl rfl rfl n5
   ·simp only [cq,go_sem,↓reduceIte,adx,adA,adB,adC,h0,g1,h5,h6,hh,e1,e2,e3,e4,e5,e5',f1,f2,f3,f5,f6,f7,f8,f9,f10,true_or,Nat.zero_add,Nat.le_refl,kx]
    exact ih' _ _ rfl rfl rfl mh
  ·have f1:(((i+1:Nat):Int) < (a.length:Int))=False:=ff (by omega)
   have hz:a.getD (i+1) 0=0:=by
    rw [List.getD_eq_getElem?_getD,List.getElem?_eq_none (by omega)]
    rfl
   have f8:=pt (n:=a.getD i 0) (k:=n % 32) (kk:=.u64) (j:=((n % 32:Nat):Int)) rfl rfl (by omega)
   have f9:=u9 (n:=a.getD i 0 / 2 ^ (n % 32)) rfl (hlt _ (by omega))
   rw [show a.getD i 0 / 2 ^ (n % 32) % 4294967296=ku a (n % 32) i by unfold ku; rw [hz,Nat.mul_zero,Nat.add_zero]] at f9
   have f10:IntKind.u32.wrap ((ku a (n % 32) i:Nat):Int)=((ku a (n % 32) i:Nat):Int):=wJ rfl (Nat.mod_lt _ (by omega))
   rcases hacc with ⟨g2,h5,hh⟩ | ⟨g2,h5,hh⟩
   ·simp only [cq,go_sem,↓reduceIte,adx,adz,ady,adA,adB,h0,g1,h5,h6,hh,e1,e2,e3,e4,e5,e5',f1,f8,f9,f10]
    rw [g2] at ih'
    exact ih' _ _ rfl rfl rfl n5
   ·simp only [cq,go_sem,↓reduceIte,adx,adA,adB,adC,h0,g1,h5,h6,hh,e1,e2,e3,e4,e5,e5',f1,f3,f8,f9,f10,true_or,Nat.zero_add,Nat.le_refl,kx]
    exact ih' _ _ rfl rfl rfl mh
theorem xR (m:List Nat):(aG m).take m.length=aG m:=by
 rw [List.take_of_length_le]
 rw [Am]
 exact Nat.le_refl _
theorem KG {a:List Nat} (ha:Lb a) {n:Nat} (h1:a.length≤10000) (hn:n≤1000000):R F.r02_right [lm a,I n] []=some (lm (ao (ac a / 2 ^ n)),[]):=by
 refine aO Gv Gu (Ak false) rfl ?_
 have e1:=pB (n:=n) (m:=32) (j:=32) rfl rfl (by omega) (by omega)
 by_cases hq:a.length≤n / 32
 ·have e2:((a.length:Int)≤((n / 32:Nat):Int))=True:=tt (by omega)
  have hz:ac a / 2 ^ n=0:=by
   rw [← mu n,← Nat.div_div_eq_div_mul,← qf ha,List.drop_of_length_le hq]
   exact Nat.zero_div _
  rw [hz,dN]
  simp only [kr,qT,go_sem,↓reduceIte,adx,e1,e2]
 ·have e2:((a.length:Int)≤((n / 32:Nat):Int))=False:=ff (by omega)
  have e3:cx 1 (lm a) (some (I (n / 32:Nat))) none none=some (lm (a.drop (n / 32))):=by
   rw [u2 (a:=n / 32) (b:=a.length) (nW rfl (by omega)) rfl (Nat.le_refl _),List.take_of_length_le (by rw [List.length_drop]; omega)]
  have hd:=GX ha (n / 32)
  have hl:(a.drop (n / 32)).length≤10000:=by rw [List.length_drop]; omega
  have hv:ac a / 2 ^ n=ac (a.drop (n / 32)) / 2 ^ (n % 32):=by
   rw [qf ha,Nat.div_div_eq_div_mul,mu]
  rw [hv]
  have hr:=I6 hd (n:=n) (by omega) (a.drop (n / 32)).length 0 (Nat.zero_add _)
  simp only [Int.natCast_zero] at hr
  have hall:=E3 hd (r:=n % 32) (by have:n % 32 < 32:=Nat.mod_lt _ (by omega); omega)
  have hL:=jB (a.drop (n / 32)) (n % 32) (a.drop (n / 32)).length
  have hLb:Lb (fg (a.drop (n / 32)) (n % 32) (a.drop (n / 32)).length):=by
   rw [hall]
   exact pz _ _
  have hvv:ac (fg (a.drop (n / 32)) (n % 32) (a.drop (n / 32)).length)=ac (a.drop (n / 32)) / 2 ^ (n % 32):=by
   rw [hall,l9,Nat.mod_eq_of_lt]
   exact Nat.lt_of_le_of_lt (Nat.div_le_self _ _) (dO hd)
  generalize a.drop (n / 32)=m at e3 hd hl hr hall hL hLb hvv ⊢
  have ht:=qi hLb (by rw [hL]; omega)
  rw [hvv] at ht
  have q0:qG 51 (fg m (n % 32) 0) .emp .dead:=Or.inl ⟨rfl,rfl,rfl⟩
  generalize hLL:aD (au R (ab false) cq) [0,1,5,6] [51]=L at hr
  have hX:∀ s h,au R (ab false) (.loop [0,1,5,6] [51] cq) s h=L s h:=fun s h=>by rw [← hLL]; rfl
  clear hLL
  generalize fg m (n % 32) 0=o0 at hr q0
  generalize fg m (n % 32) m.length=out at hr hall hL hLb hvv ht
  generalize ao (ac m / 2 ^ (n % 32))=res at ht ⊢
  have hr2:∀ (S:af) (H:aa) (X:Option (Ex × St)),aB 0 [5] (L S H)=X→S 0=lm m→S 1=I n→S 6=I 0→S 5=.emp→H 51=.dead→∃ x hh,X=some (.normal,⟨upd (fun _=>.any) 5 x,hh⟩)∧qG 51 out x (hh 51)∧∀ a,a ≠ 51→hh a=.dead:=fun S H X hX a0 a1 a6 a5 b=>by
   rw [← hX]
   exact hr S H a0 a1 a6 (by rw [a5,b]; exact q0)
  simp only [kr,qT,hX,go_sem,↓reduceIte,adx,e1,e2,e3]
  generalize hB:aB 0 [5] (L _ _)=X
  obtain ⟨x,hh,g0,hacc,gd⟩:=hr2 _ _ _ hB rfl rfl rfl rfl rfl
  rw [g0]
  rcases hacc with ⟨c1,c2,c3⟩ | ⟨c1,c2,c3⟩
  ·rw [c1] at ht
   simp only [go_sem,↓reduceIte,adx,adz,ady,c2,ht,ne_eq,not_false_eq_true,gd]
  ·simp only [go_sem,↓reduceIte,adx,adz,ady,c2,c3,ht,ne_eq,not_false_eq_true,gd,xR,Nat.zero_add,Nat.le_refl]
end Go.Ab
namespace Go.Ab
open Go Go.IntWalk
set_option maxRecDepth 4000
set_option maxHeartbeats 1000000
theorem Ar {m:List Nat} {i:Nat} (h:m.length≤i):m.getD i 0=0:=by
 rw [List.getD_eq_getElem?_getD,List.getElem?_eq_none h]
 rfl
theorem KH (a b:List Nat) (i:Nat):cT a b (i+1)=cT a b i++[qc a b i]:=by simp [cT,List.range_succ]
theorem KI (a b:List Nat) (i:Nat):dF a b (i+1)=dF a b i++[qe a b i]:=by simp [dF,List.range_succ]
theorem KJ {a b:List Nat} (ha:Lb a) (hb:Lb b) (h1:a.length≤100000) (h2:b.length≤100000):∀ (k i:Nat),i+k=max a.length b.length→∀ (s:af) (h:aa),s 0=lm a→s 1=lm b→s 6=W (dB a b i:Nat)→s 7=I i→qG 49 (cT a b i) (s 5) (h 49) →
  ∃ x hh,aB 0 [5,6] (aD (au R (ab false) bS) [0,1,5,6,7] [49] s h)=some (.normal,⟨upd (upd (fun _=>.any) 6 (W (dB a b (max a.length b.length):Nat))) 5 x,hh⟩)∧qG 49 (cT a b (max a.length b.length)) x (hh 49)∧∀ a,a ≠ 49→hh a=.dead:=by
 intro k
 induction k with
 | zero =>
  intro i hi s h h0 g1 h6 h7 hacc
  have e1:((i:Int) < (a.length:Int))=False:=ff (by omega)
  have e2:((i:Int) < (b.length:Int))=False:=ff (by omega)
  have:i=max a.length b.length:=by omega
  rw [← this]
  rw [av]
  rcases hacc with ⟨g2,h5,hh⟩ | ⟨g2,h5,hh⟩
  ·refine ⟨.emp,?hh0,?_,Or.inl ⟨g2,rfl,?_⟩,?_⟩
   rotate_left
   ·simp only [bS,go_sem,↓reduceIte,adx,h0,g1,h5,h6,h7,hh,e1,e2]
    rfl
   ·rfl
   ·intro b hb
    simp only [gz,hb,if_false]
  ·refine ⟨.rsl 49 none 1 0 (cT a b i).length,?hh1,?_,Or.inr ⟨g2,rfl,?_⟩,?_⟩
   rotate_left
   ·simp only [bS,go_sem,↓reduceIte,adx,adC,h0,g1,h5,h6,h7,hh,e1,e2]
    rfl
   ·rfl
   ·intro b hb
    simp only [gz,hb,if_false]
 | succ k ih =>
  intro i hi s h h0 g1 h6 h7 hacc
  have ih':=ih (i+1) (by omega)
  have hx:=bP ha i
  have hy:=bP hb i
  have hc:=rL ha hb i
  have e3:IntKind.i64.wrap ((i:Int)+1)=((i+1:Nat):Int):=wi (by omega) (by omega)
  have q1:((cT a b i).length+1)*4≤140737488355328:=by rw [dk]; omega
  have f3:=tt q1
  have e4:IntKind.u64.wrap (a.getD i 0:Int)=(a.getD i 0:Int):=gu rfl (by omega)
  have e5:IntKind.u64.wrap (b.getD i 0:Int)=(b.getD i 0:Int):=gu rfl (by omega)
  have f8:=pt (n:=a.getD i 0+b.getD i 0+dB a b i) (k:=32) (kk:=.u64) (j:=32) rfl rfl (by omega)
  rw [show (a.getD i 0+b.getD i 0+dB a b i) / 2 ^ 32=dB a b (i+1) from rfl] at f8
  have f9:=u9 (n:=a.getD i 0+b.getD i 0+dB a b i) rfl (by omega)
  rw [show (a.getD i 0+b.getD i 0+dB a b i) % 4294967296=qc a b i from rfl] at f9
  have f10:IntKind.u32.wrap ((qc a b i:Nat):Int)=((qc a b i:Nat):Int):=wJ rfl (Nat.mod_lt _ (by omega))
  rw [av]
  rw [KH] at ih'
  generalize aD _ _ _=L at ih' ⊢
  by_cases hla:i < a.length
  ·have e1:((i:Int) < (a.length:Int))=True:=tt (by omega)
   have e2:aX (aG a) (i:Int)=some (.ipt [U (a.getD i 0:Nat)]):=ba rfl hla
   have w1:IntKind.u64.wrap ((dB a b i:Int)+(a.getD i 0:Int))=((a.getD i 0+dB a b i:Nat):Int):=gu (by omega) (by omega)
   by_cases hlb:i < b.length
   ·have e6:((i:Int) < (b.length:Int))=True:=tt (by omega)
    have e7:aX (aG b) (i:Int)=some (.ipt [U (b.getD i 0:Nat)]):=ba rfl hlb
    have w2:IntKind.u64.wrap (((a.getD i 0+dB a b i:Nat):Int)+(b.getD i 0:Int))=((a.getD i 0+b.getD i 0+dB a b i:Nat):Int):=gu (by omega) (by omega)
    rcases hacc with ⟨g2,h5,hh⟩ | ⟨g2,h5,hh⟩
    ·simp only [bS,go_sem,↓reduceIte,adx,adz,ady,adA,adB,h0,g1,h5,h6,h7,hh,e1,e2,e3,e4,e5,e6,e7,w1,w2,f8,f9,f10]
     rw [g2] at ih'
     exact ih' _ _ rfl rfl rfl rfl n5
    ·simp only [bS,go_sem,↓reduceIte,adx,adA,adB,adC,h0,g1,h5,h6,h7,hh,e1,e2,e3,e4,e5,e6,e7,w1,w2,f3,f8,f9,f10,true_or,Nat.zero_add,Nat.le_refl,kx]
     exact ih' _ _ rfl rfl rfl rfl mh
   ·have e6:((i:Int) < (b.length:Int))=False:=ff (by omega)
    have hz:=Ar (m:=b) (i:=i) (by omega)
    have w2:((a.getD i 0+dB a b i:Nat):Int)=((a.getD i 0+b.getD i 0+dB a b i:Nat):Int):=by omega
    rw [w2] at w1
    rcases hacc with ⟨g2,h5,hh⟩ | ⟨g2,h5,hh⟩
    ·simp only [bS,go_sem,↓reduceIte,adx,adz,ady,adA,adB,h0,g1,h5,h6,h7,hh,e1,e2,e3,e4,e6,w1,f8,f9,f10]
     rw [g2] at ih'
     exact ih' _ _ rfl rfl rfl rfl n5
    ·simp only [bS,go_sem,↓reduceIte,adx,adA,adB,adC,h0,g1,h5,h6,h7,hh,e1,e2,e3,e4,e6,w1,f3,f8,f9,f10,true_or,Nat.zero_add,Nat.le_refl,kx]
     exact ih' _ _ rfl rfl rfl rfl mh
  ·have e1:((i:Int) < (a.length:Int))=False:=ff (by omega)
   have hlb:i < b.length:=by omega
   have e6:((i:Int) < (b.length:Int))=True:=tt (by omega)
   have e7:aX (aG b) (i:Int)=some (.ipt [U (b.getD i 0:Nat)]):=ba rfl hlb
   have hz:=Ar (m:=a) (i:=i) (by omega)
   have w2:IntKind.u64.wrap ((dB a b i:Int)+(b.getD i 0:Int))=((a.getD i 0+b.getD i 0+dB a b i:Nat):Int):=gu (by omega) (by omega)
   rcases hacc with ⟨g2,h5,hh⟩ | ⟨g2,h5,hh⟩
   ·simp only [bS,go_sem,↓reduceIte,adx,adz,ady,adA,adB,h0,g1,h5,h6,h7,hh,e1,e3,e5,e6,e7,w2,f8,f9,f10]
    rw [g2] at ih'
    exact ih' _ _ rfl rfl rfl rfl n5
   ·simp only [bS,go_sem,↓reduceIte,adx,adA,adB,adC,h0,g1,h5,h6,h7,hh,e1,e3,e5,e6,e7,w2,f3,f8,f9,f10,true_or,Nat.zero_add,Nat.le_refl,kx]
    exact ih' _ _ rfl rfl rfl rfl mh
theorem MZ {a b:List Nat} (ha:Lb a) (hb:Lb b) {L:Nat} (h1:a.length≤L) (h2:b.length≤L):ac (cT a b L++[dB a b L])=ac a+ac b:=by
 have h:=xL a b L
 rw [List.take_of_length_le h1,List.take_of_length_le h2] at h
 rw [gZ,dk,← h]
 simp [ac]
theorem M0 {a b:List Nat} (ha:Lb a) (hb:Lb b) (h1:a.length≤10000) (h2:b.length≤10000):R F.r02_plus [lm a,lm b] []=some (lm (ao (ac a+ac b)),[]):=by
 refine aO IV IU (Cn false) rfl ?_
 obtain ⟨M,hM⟩:∃ M,max a.length b.length=M:=⟨_,rfl⟩
 have hr:=KJ ha hb (by omega) (by omega) M 0 (by omega)
 simp only [Int.natCast_zero] at hr
 rw [hM] at hr
 have hsv:=MZ ha hb (L:=M) (by omega) (by omega)
 have hc:=rL ha hb M
 have hL:=dk a b M
 have hLb:=G5 a b M
 have q0:qG 49 (cT a b 0) .emp .dead:=Or.inl ⟨rfl,rfl,rfl⟩
 have c0:dB a b 0=0:=rfl
 rw [c0] at hr
 simp only [Int.natCast_zero] at hr
 generalize cT a b 0=o0 at hr q0
 generalize cT a b M=out at hr hsv hL hLb
 generalize dB a b M=c at hr hsv hc
 have ht:=qi (m:=out++[c]) (qB.2 ⟨hLb,nO.2 ⟨by omega,yE⟩⟩) (by rw [List.length_append]; simp; omega)
 rw [hsv] at ht
 have e8:IntKind.u32.wrap (c:Int)=(c:Int):=wJ rfl (by omega)
 have q1:(out.length+1)*4≤140737488355328:=by omega
 have f3:=tt q1
 have f4:=xR (out++[c])
 rw [show (out++[c]).length=out.length+1 by simp] at f4
 generalize ao (ac a+ac b)=res at ht ⊢
 generalize hLL:aD (au R (ab false) bS) [0,1,5,6,7] [49]=L at hr
 have hX:∀ s h,au R (ab false) (.loop [0,1,5,6,7] [49] bS) s h=L s h:=fun s h=>by rw [← hLL]; rfl
 clear hLL
 have hr2:∀ (S:af) (H:aa) (X:Option (Ex × St)),aB 0 [5,6] (L S H)=X→S 0=lm a→S 1=lm b→S 6=W 0→S 7=I 0→S 5=.emp→H 49=.dead→∃ x hh,X=some (.normal,⟨upd (upd (fun _=>.any) 6 (W c)) 5 x,hh⟩)∧qG 49 out x (hh 49)∧∀ a,a ≠ 49→hh a=.dead:=fun S H X hX a0 a1 a6 a7 a5 b=>by
  rw [← hX]
  exact hr S H a0 a1 a6 a7 (by rw [a5,b]; exact q0)
 simp only [oq,yC,hX,go_sem,↓reduceIte,adx]
 generalize hB:aB 0 [5,6] (L _ _)=X
 obtain ⟨x,hh,g0,hacc,gd⟩:=hr2 _ _ _ hB rfl rfl rfl rfl rfl rfl
 rw [g0]
 rcases hacc with ⟨c1,c2,c3⟩ | ⟨c1,c2,c3⟩
 ·rw [c1] at ht
  have ht':R F.r02_trim [.sl 1 [[U c]]] []=some (lm res,[]):=ht
  simp only [go_sem,↓reduceIte,adx,adz,ady,adA,adB,c2,e8,ht',ne_eq,not_false_eq_true,gd]
 ·simp only [go_sem,↓reduceIte,adx,adz,ady,adA,adB,c2,c3,e8,f3,f4,ht,ne_eq,not_false_eq_true,gd,kx,true_or,Nat.zero_add,Nat.le_refl,List.length_singleton,Am,List.length_append]
theorem I7 {a b:List Nat} (ha:Lb a) (hb:Lb b) (h1:a.length≤100000):∀ (k i:Nat),i+k=a.length→∀ (s:af) (h:aa),s 0=lm a→s 1=lm b→s 6=W (eU a b i:Nat)→s 7=I i→qG 41 (dF a b i) (s 5) (h 41) →
  ∃ x hh,aB 0 [5] (aD (au R (ab false) cr) [0,1,5,6,7] [41] s h)=some (.normal,⟨upd (fun _=>.any) 5 x,hh⟩)∧qG 41 (dF a b a.length) x (hh 41)∧∀ a,a ≠ 41→hh a=.dead:=by
 intro k
 induction k with
 | zero =>
  intro i hi s h h0 g1 h6 h7 hacc
  have e1:((i:Int) < (a.length:Int))=False:=ff (by omega)
  have:i=a.length:=by omega
  rw [← this]
  rw [av]
  rcases hacc with ⟨g2,h5,hh⟩ | ⟨g2,h5,hh⟩
  ·refine ⟨.emp,?hh0,?_,Or.inl ⟨g2,rfl,?_⟩,?_⟩
   rotate_left
   ·simp only [cr,go_sem,↓reduceIte,adx,h0,g1,h5,h6,h7,hh,e1]
    rfl
   ·rfl
   ·intro b hb
    simp only [gz,hb,if_false]
  ·refine ⟨.rsl 41 none 1 0 (dF a b i).length,?hh1,?_,Or.inr ⟨g2,rfl,?_⟩,?_⟩
   rotate_left
   ·simp only [cr,go_sem,↓reduceIte,adx,adC,h0,g1,h5,h6,h7,hh,e1]
    rfl
   ·rfl
   ·intro b hb
    simp only [gz,hb,if_false]
 | succ k ih =>
  intro i hi s h h0 g1 h6 h7 hacc
  have ih':=ih (i+1) (by omega)
  have hx:=bP ha i
  have hy:=bP hb i
  have hc:=rM a b i
  have hla:i < a.length:=by omega
  have e1:((i:Int) < (a.length:Int))=True:=tt (by omega)
  have e2:aX (aG a) (i:Int)=some (.ipt [U (a.getD i 0:Nat)]):=ba rfl hla
  have e3:IntKind.i64.wrap ((i:Int)+1)=((i+1:Nat):Int):=wi (by omega) (by omega)
  have q1:((dF a b i).length+1)*4≤140737488355328:=by rw [hG]; omega
  have f3:=tt q1
  have e4:IntKind.u64.wrap (a.getD i 0:Int)=(a.getD i 0:Int):=gu rfl (by omega)
  have e5:IntKind.u64.wrap (b.getD i 0:Int)=(b.getD i 0:Int):=gu rfl (by omega)
  have w3:IntKind.u64.wrap ((a.getD i 0:Int)+4294967296)=((a.getD i 0+4294967296:Nat):Int):=gu (by omega) (by omega)
  have w4:IntKind.u64.wrap (((a.getD i 0+4294967296:Nat):Int) - ((b.getD i 0+eU a b i:Nat):Int))=((a.getD i 0+4294967296 - b.getD i 0 - eU a b i:Nat):Int):=gu (by omega) (by omega)
  have f8:=pt (n:=a.getD i 0+4294967296 - b.getD i 0 - eU a b i) (k:=32) (kk:=.u64) (j:=32) rfl rfl (by omega)
  have w5:IntKind.u64.wrap (1 - (((a.getD i 0+4294967296 - b.getD i 0 - eU a b i) / 2 ^ 32:Nat):Int))=((eU a b (i+1):Nat):Int):=by
   refine gu ?_ (by have:=rM a b (i+1); omega)
   show _=(((if a.getD i 0 < b.getD i 0+eU a b i then 1 else 0:Nat)):Int)
   split <;> omega
  have f9:=u9 (n:=a.getD i 0+4294967296 - b.getD i 0 - eU a b i) rfl (by omega)
  rw [show (a.getD i 0+4294967296 - b.getD i 0 - eU a b i) % 4294967296=qe a b i from rfl] at f9
  have f10:IntKind.u32.wrap ((qe a b i:Nat):Int)=((qe a b i:Nat):Int):=wJ rfl (Nat.mod_lt _ (by omega))
  rw [av]
  rw [KI] at ih'
  generalize aD _ _ _=L at ih' ⊢
  by_cases hlb:i < b.length
  ·have e6:((i:Int) < (b.length:Int))=True:=tt (by omega)
   have e7:aX (aG b) (i:Int)=some (.ipt [U (b.getD i 0:Nat)]):=ba rfl hlb
   have w2:IntKind.u64.wrap ((eU a b i:Int)+(b.getD i 0:Int))=((b.getD i 0+eU a b i:Nat):Int):=gu (by omega) (by omega)
   rcases hacc with ⟨g2,h5,hh⟩ | ⟨g2,h5,hh⟩
   ·simp only [cr,go_sem,↓reduceIte,adx,adz,ady,adA,adB,h0,g1,h5,h6,h7,hh,e1,e2,e3,e4,e5,e6,e7,w2,w3,w4,w5,f8,f9,f10]
    rw [g2] at ih'
    exact ih' _ _ rfl rfl rfl rfl n5
   ·simp only [cr,go_sem,↓reduceIte,adx,adA,adB,adC,h0,g1,h5,h6,h7,hh,e1,e2,e3,e4,e5,e6,e7,w2,w3,w4,w5,f3,f8,f9,f10,true_or,Nat.zero_add,Nat.le_refl,kx]
    exact ih' _ _ rfl rfl rfl rfl mh
  ·have e6:((i:Int) < (b.length:Int))=False:=ff (by omega)
   have hz:=Ar (m:=b) (i:=i) (by omega)
   have w2:((b.getD i 0+eU a b i:Nat):Int)=(eU a b i:Int):=by omega
   rw [w2] at w4
   rcases hacc with ⟨g2,h5,hh⟩ | ⟨g2,h5,hh⟩
   ·simp only [cr,go_sem,↓reduceIte,adx,adz,ady,adA,adB,h0,g1,h5,h6,h7,hh,e1,e2,e3,e4,e6,w3,w4,w5,f8,f9,f10]
    rw [g2] at ih'
    exact ih' _ _ rfl rfl rfl rfl n5
   ·simp only [cr,go_sem,↓reduceIte,adx,adA,adB,adC,h0,g1,h5,h6,h7,hh,e1,e2,e3,e4,e6,w3,w4,w5,f3,f8,f9,f10,true_or,Nat.zero_add,Nat.le_refl,kx]
    exact ih' _ _ rfl rfl rfl rfl mh
theorem Be {a b:List Nat} (ha:Lb a) (hb:Lb b) (h1:a.length≤10000) (h2:b.length≤a.length) (hv:ac b≤ac a):R F.r02_minus [lm a,lm b] []=some (lm (ao (ac a - ac b)),[]):=by
 refine aO Gy Gx (Al false) rfl ?_
 have hr:=I7 ha hb (by omega) a.length 0 (by omega)
 simp only [Int.natCast_zero] at hr
 have hall:=E2 ha hb h2 hv
 have hsv:ac (dF a b a.length)=ac a - ac b:=by
  rw [hall,l9,Nat.mod_eq_of_lt]
  exact Nat.lt_of_le_of_lt (Nat.sub_le _ _) (dO ha)
 have hL:=hG a b a.length
 have hLb:=Ao a b a.length
 have q0:qG 41 (dF a b 0) .emp .dead:=Or.inl ⟨rfl,rfl,rfl⟩
 have c0:eU a b 0=0:=rfl
 rw [c0] at hr
 simp only [Int.natCast_zero] at hr
 clear hall
 generalize dF a b 0=o0 at hr q0
 generalize dF a b a.length=out at hr hsv hL hLb
 have ht:=qi (m:=out) hLb (by omega)
 rw [hsv] at ht
 generalize ao (ac a - ac b)=res at ht ⊢
 generalize hLL:aD (au R (ab false) cr) [0,1,5,6,7] [41]=L at hr
 have hX:∀ s h,au R (ab false) (.loop [0,1,5,6,7] [41] cr) s h=L s h:=fun s h=>by rw [← hLL]; rfl
 clear hLL
 have hr2:∀ (S:af) (H:aa) (X:Option (Ex × St)),aB 0 [5] (L S H)=X→S 0=lm a→S 1=lm b→S 6=W 0→S 7=I 0→S 5=.emp→H 41=.dead→∃ x hh,X=some (.normal,⟨upd (fun _=>.any) 5 x,hh⟩)∧qG 41 out x (hh 41)∧∀ a,a ≠ 41→hh a=.dead:=fun S H X hX a0 a1 a6 a7 a5 b=>by
  rw [← hX]
  exact hr S H a0 a1 a6 a7 (by rw [a5,b]; exact q0)
 simp only [m5,wF,hX,go_sem,↓reduceIte,adx]
 generalize hB:aB 0 [5] (L _ _)=X
 obtain ⟨x,hh,g0,hacc,gd⟩:=hr2 _ _ _ hB rfl rfl rfl rfl rfl rfl
 rw [g0]
 rcases hacc with ⟨c1,c2,c3⟩ | ⟨c1,c2,c3⟩
 ·rw [c1] at ht
  simp only [go_sem,↓reduceIte,adx,adz,ady,c2,ht,ne_eq,not_false_eq_true,gd]
 ·simp only [go_sem,↓reduceIte,adx,adz,ady,c2,c3,ht,ne_eq,not_false_eq_true,gd,xR,Nat.zero_add,Nat.le_refl]
end Go.Ab
namespace Go.Ab
open Go Go.IntWalk
set_option maxRecDepth 4000
set_option maxHeartbeats 1000000
theorem KK {a b:List Nat} (ha:Lb a) (hb:Lb b) (hl:a.length=b.length) (h2:a.length≤100000):∀ (k:Nat),k≤a.length→∀ (s:af) (h:aa),s 0=lm a→s 1=lm b→s 5=I ((k:Int) - 1) →
  cp (aB 0 [] (aD (au R (ab false) cd) [0,1,5] [] s h)) (au R (ab false) jA)=some (.ret,⟨upd (fun _=>.any) 4 (I (bV (ac (a.take k)) (ac (b.take k)))),fun _=>.dead⟩):=by
 intro k
 induction k with
 | zero =>
  intro hk s h h0 h1 h5
  rw [av]
  generalize aD _ _ _=L
  have e1:(0≤((0:Nat):Int) - 1)=False:=ff (by omega)
  have e2:bV (ac []) (ac [])=0:=rfl
  simp only [cd,jA,go_sem,↓reduceIte,adx,h0,h1,h5,e1,e2]
 | succ k ih =>
  intro hk s h h0 h1 h5
  have ih':=ih (by omega)
  have e1:(0≤((k+1:Nat):Int) - 1)=True:=tt (by omega)
  have e2:aX (aG a) (((k+1:Nat):Int) - 1)=some (.ipt [U (a.getD k 0:Nat)]):=ba (by omega) (by omega)
  have e3:aX (aG b) (((k+1:Nat):Int) - 1)=some (.ipt [U (b.getD k 0:Nat)]):=ba (by omega) (by omega)
  have e4:IntKind.i64.wrap (((k+1:Nat):Int) - 1 - 1)=(k:Int) - 1:=by rw [i64_in] <;> omega
  have va:=g8 a k
  have vb:=g8 b k
  have la:=dO (py ha k)
  have lb:=dO (py hb k)
  rw [List.length_take,Nat.min_eq_left (by omega)] at la lb
  rw [av]
  generalize aD _ _ _=L at ih' ⊢
  rcases Nat.lt_trichotomy (a.getD k 0) (b.getD k 0) with hlt | heq | hgt
  ·have e5:((a.getD k 0:Int) < (b.getD k 0:Int))=True:=tt (by omega)
   have e6:bV (ac (a.take (k+1))) (ac (b.take (k+1)))=-1:=by
    have:4294967296 ^ k*(a.getD k 0+1)≤4294967296 ^ k*b.getD k 0:=Nat.mul_le_mul_left _ hlt
    rw [Nat.mul_add] at this
    simp only [bV]
    rw [if_pos (by omega)]
   simp only [cd,jA,go_sem,↓reduceIte,adx,h0,h1,h5,e1,e2,e3,e5,e6]
  ·have e5:((a.getD k 0:Int) < (b.getD k 0:Int))=False:=ff (by omega)
   have e7:((b.getD k 0:Int) < (a.getD k 0:Int))=False:=ff (by omega)
   have e6:bV (ac (a.take (k+1))) (ac (b.take (k+1)))=bV (ac (a.take k)) (ac (b.take k)):=by
    rw [va,vb,heq]
    simp only [bV]
    repeat' split
    all_goals first | rfl | omega
   simp only [cd,go_sem,↓reduceIte,adx,h0,h1,h5,e1,e2,e3,e5,e6,e7,e4]
   exact ih' _ _ rfl rfl rfl
  ·have e5:((a.getD k 0:Int) < (b.getD k 0:Int))=False:=ff (by omega)
   have e7:((b.getD k 0:Int) < (a.getD k 0:Int))=True:=tt (by omega)
   have e6:bV (ac (a.take (k+1))) (ac (b.take (k+1)))=1:=by
    have:4294967296 ^ k*(b.getD k 0+1)≤4294967296 ^ k*a.getD k 0:=Nat.mul_le_mul_left _ hgt
    rw [Nat.mul_add] at this
    simp only [bV]
    rw [if_neg (by omega),if_pos (by omega)]
   simp only [cd,jA,go_sem,↓reduceIte,adx,h0,h1,h5,e1,e2,e3,e5,e6,e7]
theorem GB {a b:List Nat} (ha:Lb a) (hb:Lb b) (h1:a.length≤100000) (h2:b.length≤100000) (hc:a.length=b.length∨(ot a∧ot b)):R F.r02_compare [lm a,lm b] []=some (I (bV (ac a) (ac b)),[]):=by
 refine aO Cp Co (xA false) rfl ?_
 by_cases hl:a.length=b.length
 ·have e1:((a.length:Int)=(b.length:Int))=True:=tt (by omega)
  have e2:IntKind.i64.wrap ((b.length:Int) - 1)=(b.length:Int) - 1:=i64_in _ ⟨by omega,by omega⟩
  have e3:IntKind.i64.wrap ((a.length:Int) - 1)=(a.length:Int) - 1:=i64_in _ ⟨by omega,by omega⟩
  have hL:=KK ha hb hl h1 a.length (Nat.le_refl _)
  rw [List.take_length,hl,List.take_length,← hl] at hL
  generalize hLL:aD (au R (ab false) cd) [0,1,5] []=L at hL
  have hX:∀ s h,au R (ab false) (.loop [0,1,5] [] cd) s h=L s h:=fun s h=>by rw [← hLL]; rfl
  have hL2:∀ s h,s 0=lm a→s 1=lm b→s 5=I ((a.length:Int) - 1)→oT false [[]] [.t 4] 0 (cp (aB 0 [] (L s h)) (au R (ab false) (.seq (.ops [4] [co 4 (.mv (.c (.v (.int .i64 0))))]) (.ret))))=some (I (bV (ac a) (ac b)),[]):=fun s h a0 a1 a5=>by
   rw [show (.seq (.ops [4] [co 4 (.mv (.c (.v (.int .i64 0))))]) (.ret):Cmd)=jA from rfl,hL s h a0 a1 a5]
   simp only [go_sem,↓reduceIte]
  show oT false [[]] [.t 4] 0 (au R (ab false) js _ _)=_
  unfold js
  show oT false [[]] [.t 4] 0 (cp (au R (ab false) (.ops [0,1] [co 4 (.mv (.c (.v (.int .i64 0))))]) _ _) fun s h=>cp (au R (ab false) (.seq (.ops [0,1,10] [cm 6 0,co 7 (.len false (.t 6)),cm 8 1,co 9 (.len false (.t 8)),co 10 (.bin .neq (.t 7) (.t 9))]) (.cond (.t 10) (.seq (.seq (.ops [15] [cm 11 0,co 12 (.len false (.t 11)),cm 13 1,co 14 (.len false (.t 13)),co 15 (.bin .lss (.t 12) (.t 14))]) (.cond (.t 15) (.seq (.ops [4] [co 4 (.mv (.c (.v (.int .i64 (-1)))))]) (.ret)) (.skip))) (.seq (.ops [4] [co 4 (.mv (.c (.v (.int .i64 1))))]) (.ret))) (.skip))) s h) fun s h=>cp (cp (au R (ab false) (.ops [0,1,5] [cm 16 0,co 17 (.len false (.t 16)),co 18 (.bin .sub (.t 17) (.c (.v (.int .i64 1)))),cm 5 18]) s h) fun s h=>aB 0 [] (au R (ab false) (.loop [0,1,5] [] cd) s h)) (au R (ab false) (.seq (.ops [4] [co 4 (.mv (.c (.v (.int .i64 0))))]) (.ret))))=_
  simp only [hX]
  generalize hT:au R (ab false) (.seq (.ops [4] [co 4 (.mv (.c (.v (.int .i64 0))))]) (.ret))=T at hL2 ⊢
  simp only [go_sem,↓reduceIte,adx,e1,e3]
  exact hL2 _ _ rfl rfl rfl
 ·have e1:((a.length:Int)=(b.length:Int))=False:=ff (by omega)
  obtain ⟨ca,cb⟩:=hc.resolve_left hl
  by_cases hlt:a.length < b.length
  ·have e2:((a.length:Int) < (b.length:Int))=True:=tt (by omega)
   have e3:bV (ac a) (ac b)=-1:=by
    have:=kY (x:=ac a) (y:=ac b) (by rw [nQ ha ca,nQ hb cb]; exact hlt)
    unfold bV
    rw [if_pos this]
   rw [e3]
   simp only [iy,js,go_sem,↓reduceIte,adx,e1,e2]
  ·have e2:((a.length:Int) < (b.length:Int))=False:=ff (by omega)
   have e3:bV (ac a) (ac b)=1:=by
    have:=kY (x:=ac b) (y:=ac a) (by rw [nQ ha ca,nQ hb cb]; omega)
    unfold bV
    rw [if_neg (by omega),if_pos this]
   rw [e3]
   simp only [iy,js,go_sem,↓reduceIte,adx,e1,e2]
end Go.Ab
namespace Go.Ab
open Go Go.IntWalk
set_option maxRecDepth 4000
set_option maxHeartbeats 1000000
end Go.Ab
namespace Go.Ab
open Go Go.IntWalk
set_option maxRecDepth 4000
set_option maxHeartbeats 1000000
end Go.Ab
namespace Go.Ab
open Go Go.IntWalk
set_option maxRecDepth 4000
set_option maxHeartbeats 1000000
end Go.Ab
namespace Go.Ab
open Go Go.IntWalk
set_option maxRecDepth 4000
set_option maxHeartbeats 1000000
theorem qH {d:Rd} (ok:Ok0 d):R F.r02_Valid [aC d] []=some (B (vd d),[]):=by
 refine aO Gn Gm (zV false) rfl ?_
 unfold vd
 have hl:=ok.len
 by_cases a0:d.m.length=0
 ·rw [if_pos a0]
  have e1:((d.m.length:Int)=0)=True:=tt (by omega)
  cases hn:d.neg with
  | true=>simp only [ce,dH,aC,aP,hn,go_sem,↓reduceIte,adx,adz,ady,e1,Bool.not_true,Bool.false_and]
  | false=>simp only [ce,dH,aC,aP,hn,go_sem,↓reduceIte,adx,adz,ady,e1,Bool.not_false,Bool.true_and]
 rw [if_neg a0]
 have e1:((d.m.length:Int)=0)=False:=ff (by omega)
 by_cases a1:¬ d.m.length≤256
 ·have e2:(256 < (d.m.length:Int))=True:=tt (by omega)
  rw [decide_eq_false a1,Bool.false_and]
  simp only [ce,dH,aC,aP,go_sem,↓reduceIte,adx,adz,ady,e1,e2]
 replace a1:=Decidable.not_not.1 a1
 have e2:(256 < (d.m.length:Int))=False:=ff (by omega)
 have e3:aX (aG d.m) 0=some (.ipt [U (d.m.getD 0 0:Nat)]):=ba rfl (by omega)
 have e6:IntKind.i64.wrap ((d.m.length:Int) - 1)=((d.m.length - 1:Nat):Int):=wi (by omega) (by omega)
 have e7:aX (aG d.m) ((d.m.length - 1:Nat):Int)=some (.ipt [U (d.m.getD (d.m.length - 1) 0:Nat)]):=ba rfl (by omega)
 have hx:=bP ok.lb 0
 rw [decide_eq_true a1,Bool.true_and]
 by_cases a3:d.m.getD (d.m.length - 1) 0=0
 ·have e8:((d.m.getD (d.m.length - 1) 0:Int)=0)=True:=tt (by omega)
  rw [decide_eq_false (p:=d.m.getD (d.m.length - 1) 0 ≠ 0) (fun h=>h a3),Bool.false_and,Bool.and_false]
  simp only [ce,dH,aC,aP,go_sem,↓reduceIte,adx,adz,ady,e1,e2,e6,e7,e8]
 have e8:((d.m.getD (d.m.length - 1) 0:Int)=0)=False:=ff (by omega)
 rw [decide_eq_true (p:=d.m.getD (d.m.length - 1) 0 ≠ 0) a3,Bool.true_and]
 have e4:=Fc (n:=d.m.getD 0 0) rfl hx
 by_cases a2:¬ d.m.getD 0 0 % 2=1
 ·have e5:(((d.m.getD 0 0 % 2:Nat):Int)=0)=True:=tt (by omega)
  rw [decide_eq_false a2,Bool.false_and]
  simp only [ce,dH,aC,aP,go_sem,↓reduceIte,adx,adz,ady,e1,e2,e3,e4,e5,e6,e7,e8]
 replace a2:=Decidable.not_not.1 a2
 have e5:(((d.m.getD 0 0 % 2:Nat):Int)=0)=False:=ff (by omega)
 rw [decide_eq_true a2,Bool.true_and]
 have hv:ac d.m ≠ 0:=uQ (Or.inr a3) (fun h=>a0 (by rw [h]; rfl))
 have hbp:=nX hv
 unfold qE
 rw [decide_eq_false (p:=ax (ac d.m)=0) (by omega),Bool.false_or]
 by_cases a4:d.e < -16384
 ·have f1:(d.e < -16384)=True:=tt a4
  rw [decide_eq_false (p:=-16384≤d.e) (by omega),Bool.false_and,Bool.and_false]
  simp only [ce,dH,aC,aP,go_sem,↓reduceIte,adx,adz,ady,e1,e2,e3,e4,e5,e6,e7,e8,f1]
 have f1:(d.e < -16384)=False:=ff a4
 rw [decide_eq_true (p:=-16384≤d.e) (by omega),Bool.true_and]
 by_cases a5:16384 < d.e
 ·have f2:(16384 < d.e)=True:=tt a5
  rw [decide_eq_false (p:=d.e≤16384) (by omega),Bool.false_and,Bool.and_false]
  simp only [ce,dH,aC,aP,go_sem,↓reduceIte,adx,adz,ady,e1,e2,e3,e4,e5,e6,e7,e8,f1,f2]
 have f2:(16384 < d.e)=False:=ff a5
 rw [decide_eq_true (p:=d.e≤16384) (by omega),Bool.true_and]
 have hb:=MY ok.lb (by omega) (Or.inr a3)
 have hbl:=MU ok.lb
 have w1:IntKind.i64.wrap (((ax (ac d.m):Nat):Int)+d.e)=((ax (ac d.m):Nat):Int)+d.e:=i64_in _ ⟨by omega,by omega⟩
 by_cases a6:ax (ac d.m)≤4096
 ·have f3:(((ax (ac d.m):Nat):Int)≤4096)=True:=tt (by omega)
  rw [decide_eq_true a6,Bool.true_and]
  simp only [ce,dH,aC,aP,go_sem,↓reduceIte,adx,adz,ady,e1,e2,e3,e4,e5,e6,e7,e8,f1,f2,hb,f3,w1]
 ·have f3:(((ax (ac d.m):Nat):Int)≤4096)=False:=ff (by omega)
  rw [decide_eq_false a6,Bool.false_and]
  simp only [ce,dH,aC,aP,go_sem,↓reduceIte,adx,adz,ady,e1,e2,e3,e4,e5,e6,e7,e8,f1,f2,hb,f3]
theorem Ff {neg:Bool} {m:List Nat} {e:Int} (hb:Lb m) (h1:m.length≤9000) (he:-1000000≤e∧e≤1000000):R F.r02_Of [B neg,lm m,I e] []=some (aC (cD neg (ac m) e),[]):=by
 refine aO Mw Mv (Gq false) rfl ?_
 have ht:=qi hb (by omega)
 have la:=dq m hb
 obtain ⟨M,hM⟩:∃ M,ac m=M:=⟨_,rfl⟩
 rw [hM] at ht la ⊢
 by_cases h0:M=0
 ·have e1:(((ao M).length:Int)=0)=True:=tt (by rw [h0,dN]; rfl)
  rw [h0,kw]
  rw [h0] at ht e1
  simp only [oF,wT,aC,aP,ez,go_sem,↓reduceIte,adx,adz,ady,adA,ht,e1]
 ·have e1:(((ao M).length:Int)=0)=False:=ff (fun h=>h0 (jz.1 (List.length_eq_zero_iff.1 (by omega))))
  have hz:=KD (bk M) (by omega) (by rw [aV]; exact h0)
  rw [aV] at hz
  have htz:tz M < 32*(ao M).length:=by
   refine CQ h0 ?_
   have:=dO (bk M)
   rw [aV] at this
   rw [Nat.pow_mul]
   exact this
  have hr:=KG (bk M) (n:=tz M) (by omega) (by omega)
  rw [aV] at hr
  have w1:IntKind.i64.wrap (e+((tz M:Nat):Int))=e+((tz M:Nat):Int):=i64_in _ ⟨by omega,by omega⟩
  rw [me h0]
  simp only [oF,wT,aC,aP,go_sem,↓reduceIte,adx,adz,ady,adA,ht,e1,hz,hr,w1]
def I8 (d:Rd):Rd:=⟨!d.neg && decide (0 < d.m.length),d.m,d.e⟩
theorem O6 {d:Rd}:R F.r02_Neg [aC d] []=some (aC (I8 d),[]):=by
 refine aO Kf Ke (Ef false) rfl ?_
 unfold I8
 cases hn:d.neg with
 | true=>simp only [mR,uJ,aC,aP,go_sem,↓reduceIte,adx,adz,ady,adA,hn,Bool.not_true,Bool.false_and]
 | false =>
  have e:decide (0 < (d.m.length:Int))=decide (0 < d.m.length):=by rw [decide_eq_decide]; omega
  simp only [mR,uJ,aC,aP,go_sem,↓reduceIte,adx,adz,ady,adA,hn,Bool.not_false,Bool.true_and,e]
theorem M1 {d:Rd} (h:vd d=true):ot d.m:=by
 by_cases h0:d.m.length=0
 ·exact Or.inl (List.length_eq_zero_iff.1 h0)
 ·exact Or.inr (oM h h0).2.2.1
def dm (z f:Int):Rd:=cD (decide (z < 0)) z.natAbs f
theorem rT {neg:Bool} {n:Nat} {f:Int}:cD neg n f=dm (cM neg n) f:=by
 unfold dm
 by_cases h0:n=0
 ·subst h0
  rw [kw]
  cases neg <;> exact kw.symm
 ·cases neg with
  | false =>
   rw [dv,Int.natAbs_natCast,decide_eq_false (by omega)]
  | true =>
   rw [du,Int.natAbs_neg,Int.natAbs_natCast,decide_eq_true (by omega)]
theorem QY {n:Nat} (h:n % 2=1) (k:Nat):tz (n*2 ^ k)=k:=by
 rw [Nat.mul_comm,yG k (by omega),uS h,Nat.add_zero]
theorem rU {d:Rd} (ok:Ok0 d) (h:vd d=true):dm (zI d) (-16384)=d:=by
 by_cases h0:d.m.length=0
 ·rw [rQ h0]
  have:=rO h h0
  subst this
  exact kw
 ·obtain ⟨h1,h2,h3,h4⟩:=oM h h0
  obtain ⟨g1,g2,g3,g4⟩:=lw h ok.lb
  have hz:zI d=cM d.neg (mg d):=by
   unfold zI cM
   rfl
  rw [hz,← rT]
  unfold mg
  rw [ng,me (lK h h0)]
  have ho:ac d.m % 2=1:=by
   have:=dt d.m 0
   rw [List.drop_zero] at this
   omega
  rw [uS ho,Nat.pow_zero,Nat.div_one,nQ ok.lb (M1 h)]
  obtain ⟨n,m,e⟩:=d
  show (⟨n,m,-16384+(((e+16384).toNat:Nat):Int)+((0:Nat):Int)⟩:Rd)=_
  rw [show -16384+(((e+16384).toNat:Nat):Int)+((0:Nat):Int)=e by have:-16384≤e:=g2; omega]
theorem nh {x y:Nat} (h:x≤y):(ao x).length≤(ao y).length:=Nat.not_lt.1 fun h2=>by
 have:=kY h2
 omega
theorem O7 {a b:Rd} (oa:Ok0 a) (ob:Ok0 b) (va:vd a=true) (vb:vd b=true):R F.r02_Sum [aC a,aC b] []=some (aC (dm (zI a+zI b) (-16384)),[]):=by
 refine aO Ko Kn (EE false) rfl ?_
 by_cases a0:a.m.length=0
 ·have e1:((a.m.length:Int)=0)=True:=tt (by omega)
  rw [rQ a0,Int.zero_add,rU ob vb]
  simp only [gQ,mp,aC,aP,go_sem,↓reduceIte,adx,adz,ady,adA,e1]
 have e1:((a.m.length:Int)=0)=False:=ff (by omega)
 by_cases b0:b.m.length=0
 ·have e2:((b.m.length:Int)=0)=True:=tt (by omega)
  rw [rQ b0,Int.add_zero,rU oa va]
  simp only [gQ,mp,aC,aP,go_sem,↓reduceIte,adx,adz,ady,adA,e1,e2]
 have e2:((b.m.length:Int)=0)=False:=ff (by omega)
 obtain ⟨a1,a2,a3,a4⟩:=lw va oa.lb
 obtain ⟨b1,b2,b3,b4⟩:=lw vb ob.lb
 obtain ⟨e,he⟩:∃ e,(if b.e < a.e then b.e else a.e)=e:=⟨_,rfl⟩
 have he1:-16384≤e∧e≤a.e∧e≤b.e:=by
  split at he <;> omega
 have w1:IntKind.i64.wrap (a.e - e)=(((a.e - e).toNat:Nat):Int):=wi (by omega) (by omega)
 have w2:IntKind.i64.wrap (b.e - e)=(((b.e - e).toNat:Nat):Int):=wi (by omega) (by omega)
 have l1:=Fe oa.lb (n:=(a.e - e).toNat) (by omega) (by omega)
 have l2:=Fe ob.lb (n:=(b.e - e).toNat) (by omega) (by omega)
 have z1:zI a=cM a.neg (ac a.m*2 ^ (a.e - e).toNat*2 ^ (e+16384).toNat):=by
  rw [show zI a=cM a.neg (mg a) from rfl,nY he1.1 he1.2.1]
 have z2:zI b=cM b.neg (ac b.m*2 ^ (b.e - e).toNat*2 ^ (e+16384).toNat):=by
  rw [show zI b=cM b.neg (mg b) from rfl,nY he1.1 he1.2.2]
 have bx:ax (ac a.m*2 ^ (a.e - e).toNat)≤36864:=by
  rw [kv _ (lK va a0)]
  omega
 have by':ax (ac b.m*2 ^ (b.e - e).toNat)≤36864:=by
  rw [kv _ (lK vb b0)]
  omega
 rw [z1,z2]
 generalize ac a.m*2 ^ (a.e - e).toNat=x at l1 bx ⊢
 generalize ac b.m*2 ^ (b.e - e).toNat=y at l2 by' ⊢
 have lx:(ao x).length≤1152:=bv (by omega)
 have ly:(ao y).length≤1152:=bv (by omega)
 have hsum:∀ (n:Bool) (z:Nat),cD n z e=dm (cM n (z*2 ^ (e+16384).toNat)) (-16384):=fun n z=>by
  rw [← rT,ng,show -16384+(((e+16384).toNat:Nat):Int)=e by omega]
 have hcp:=GB (bk x) (bk y) (by omega) (by omega) (Or.inr ⟨uR x,uR y⟩)
 rw [aV,aV] at hcp
 by_cases hs:a.neg=b.neg
 ·have p1:=M0 (bk x) (bk y) (by omega) (by omega)
  rw [aV,aV] at p1
  have bz:ax (x+y)≤36865:=sM bx by'
  have o1:=Ff (neg:=a.neg) (m:=ao (x+y)) (e:=e) (bk _) (Nat.le_trans (bv (k:=1153) (by omega)) (by decide)) ⟨by omega,by omega⟩
  rw [aV,hsum] at o1
  have hz:cM a.neg (x*2 ^ (e+16384).toNat)+cM b.neg (y*2 ^ (e+16384).toNat)=cM a.neg ((x+y)*2 ^ (e+16384).toNat):=by
   rw [← hs,Nat.add_mul]
   cases a.neg
   ·rw [dv,dv,dv]
    omega
   ·rw [du,du,du]
    omega
  rw [hz]
  generalize dm (cM a.neg ((x+y)*2 ^ (e+16384).toNat)) (-16384)=r at o1 ⊢
  have hs2:(a.neg == b.neg)=true:=by rw [hs]; exact beq_self_eq_true _
  have hs3:(false != (a.neg == b.neg))=true:=by rw [hs2]; rfl
  simp only [aC,aP] at o1
  simp only [gQ,mp,aC,aP,go_sem,↓reduceIte,adx,adz,ady,adA,adB,adC,e1,e2,he,w1,w2,l1,l2,hs3,p1,o1]
 ·have hs2:(a.neg == b.neg)=false:=by
   cases ha:a.neg <;> cases hb:b.neg <;> first | rfl | (rw [ha,hb] at hs; exact absurd rfl hs)
  have hs3:(false != (a.neg == b.neg))=false:=by rw [hs2]; rfl
  have hbn:b.neg=!a.neg:=by
   cases ha:a.neg <;> cases hb:b.neg <;> first | rfl | (rw [ha,hb] at hs; exact absurd rfl hs)
  by_cases hlt:x < y
  ·have e5:(0≤bV x y)=False:=ff (by unfold bV; rw [if_pos hlt]; decide)
   have m1:=Be (bk y) (bk x) (by omega) (nh (by omega)) (by rw [aV,aV]; omega)
   rw [aV,aV] at m1
   have o1:=Ff (neg:=b.neg) (m:=ao (y - x)) (e:=e) (bk _) (Nat.le_trans (nh (Nat.sub_le _ _)) (by omega)) ⟨by omega,by omega⟩
   rw [aV,hsum] at o1
   have hmul:x*2 ^ (e+16384).toNat≤y*2 ^ (e+16384).toNat:=Nat.mul_le_mul_right _ (by omega)
   have hz:cM a.neg (x*2 ^ (e+16384).toNat)+cM b.neg (y*2 ^ (e+16384).toNat)=cM b.neg ((y - x)*2 ^ (e+16384).toNat):=by
    rw [hbn,Nat.sub_mul]
    cases a.neg
    ·rw [Bool.not_false,dv,du,du]
     omega
    ·rw [Bool.not_true,dv,du,dv]
     omega
   rw [hz]
   generalize dm (cM b.neg ((y - x)*2 ^ (e+16384).toNat)) (-16384)=r at o1 ⊢
   simp only [aC,aP] at o1
   simp only [gQ,mp,aC,aP,go_sem,↓reduceIte,adx,adz,ady,adA,adB,adC,e1,e2,he,w1,w2,l1,l2,hs3,hcp,e5,m1,o1]
  ·have e5:(0≤bV x y)=True:=tt (by unfold bV; rw [if_neg hlt]; split <;> decide)
   have m1:=Be (bk x) (bk y) (by omega) (nh (by omega)) (by rw [aV,aV]; omega)
   rw [aV,aV] at m1
   have o1:=Ff (neg:=a.neg) (m:=ao (x - y)) (e:=e) (bk _) (Nat.le_trans (nh (Nat.sub_le _ _)) (by omega)) ⟨by omega,by omega⟩
   rw [aV,hsum] at o1
   have hmul:y*2 ^ (e+16384).toNat≤x*2 ^ (e+16384).toNat:=Nat.mul_le_mul_right _ (by omega)
   have hz:cM a.neg (x*2 ^ (e+16384).toNat)+cM b.neg (y*2 ^ (e+16384).toNat)=cM a.neg ((x - y)*2 ^ (e+16384).toNat):=by
    rw [hbn,Nat.sub_mul]
    cases a.neg
    ·rw [Bool.not_false,dv,du,dv]
     omega
    ·rw [Bool.not_true,dv,du,du]
     omega
   rw [hz]
   generalize dm (cM a.neg ((x - y)*2 ^ (e+16384).toNat)) (-16384)=r at o1 ⊢
   simp only [aC,aP] at o1
   simp only [gQ,mp,aC,aP,go_sem,↓reduceIte,adx,adz,ady,adA,adB,adC,e1,e2,he,w1,w2,l1,l2,hs3,hcp,e5,m1,o1]
end Go.Ab
namespace Go.Ab
open Go Go.IntWalk
set_option maxRecDepth 4000
set_option maxHeartbeats 1000000
end Go.Ab
namespace Go.Ab
open Go Go.IntWalk
set_option maxRecDepth 4000
set_option maxHeartbeats 1000000
theorem y9 {x y:Int} {k:Nat} (hx:ax x.natAbs≤k) (hy:ax y.natAbs≤k):ax (x+y).natAbs≤k+1:=by
 have:=sM hx hy
 refine Nat.le_trans ?_ this
 have h2:(x+y).natAbs≤x.natAbs+y.natAbs:=Int.natAbs_add_le _ _
 exact cW.2 (Nat.lt_of_le_of_lt h2 (cW.1 (Nat.le_refl _)))
theorem Hb {d:Rd} (ok:Ok0 d) (h:vd d=true):ax (zI d).natAbs≤36864:=by
 obtain ⟨h1,h2,h3,h4⟩:=lw h ok.lb
 have:(zI d).natAbs=mg d:=by
  unfold zI
  split <;> omega
 rw [this]
 by_cases h0:d.m.length=0
 ·rw [G8 h0]
  decide
 ·have:=O2 h ok.lb h0
  rw [mc h h0] at this
  omega
end Go.Ab
namespace Go.Ab
open Go Go.IntWalk
set_option maxRecDepth 4000
set_option maxHeartbeats 2000000
end Go.Ab
namespace Go.Ab
open Go Go.IntWalk
set_option maxRecDepth 4000
set_option maxHeartbeats 1000000
end Go.Ab
namespace Go.Ab
open Go Go.IntWalk
set_option maxRecDepth 4000
set_option maxHeartbeats 1000000
theorem jY (x y:Int):(x < y∧jN x y=-1)∨(x=y∧jN x y=0)∨(y < x∧jN x y=1):=by
 unfold jN
 rcases Int.lt_trichotomy x y with h | h | h
 ·exact Or.inl ⟨h,if_pos h⟩
 ·exact Or.inr (Or.inl ⟨h,by rw [if_neg (by omega)]; exact if_neg (by omega)⟩)
 ·exact Or.inr (Or.inr ⟨h,by rw [if_neg (by omega)]; exact if_pos h⟩)
end Go.Ab
namespace Go.Ab
open Go Go.IntWalk
set_option maxRecDepth 4000
set_option maxHeartbeats 1000000
theorem I9 {a:List Int} (h2:sm a):∀ (k i:Nat),i+k=a.length→∀ (s:af) (h:aa),s 0=.sl 1 (bo a)→s 3=I (bw (a.take i))→s 4=I i →
  aB 0 [3] (aD (au R (ab false) mV) [0,3,4] [] s h)=some (.normal,⟨upd (fun _=>.any) 3 (I (bw a)),fun _=>.dead⟩):=by
 intro k
 induction k with
 | zero =>
  intro i hi s h h0 h3 h4
  have e1:((i:Int) < a.length)=False:=ff (by omega)
  rw [List.take_of_length_le (by omega)] at h3
  rw [av]
  simp only [mV,go_sem,↓reduceIte,adx,h0,h3,h4,e1]
 | succ k ih =>
  intro i hi s h h0 h3 h4
  have hlt:i < a.length:=by omega
  obtain ⟨g1,g2⟩:=h2
  have e1:((i:Int) < a.length)=True:=tt (by omega)
  have e2:aX (bo a) (i:Int)=some (.ipt [I a[i]]):=nZ rfl (List.getElem?_eq_getElem hlt)
  have e5:IntKind.i64.wrap ((i:Int)+1)=((i+1:Nat):Int):=wi (by omega) (by omega)
  have b1:=Fa (l:=a.take i) (fun x hx=>g2 x (List.mem_of_mem_take hx))
  have b2:=g2 a[i] (List.getElem_mem hlt)
  have b3:(a.take i).length≤1000:=by simp only [List.length_take]; omega
  have e6:IntKind.i64.wrap (bw (a.take i)+a[i])=bw (a.take (i+1)):=by
   rw [xP hlt]
   exact i64_in _ ⟨by omega,by omega⟩
  have ih':=ih (i+1) (by omega)
  generalize a[i]=x at e2 e6 ⊢
  rw [av]
  generalize aD _ _ _=L at ih' ⊢
  simp only [mV,go_sem,↓reduceIte,adx,h0,h3,h4,e1,e2,e5,e6]
  exact ih' _ _ rfl rfl rfl
theorem Fg {a:List Int} (h2:sm a):R F.r23_sum [.sl 1 (bo a)] []=some (I (bw a),[]):=by
 refine aO Kl Kk (Ew false) rfl ?_
 have h3:=I9 h2 a.length 0 (Nat.zero_add _)
 simp only [List.take_zero,bw,Int.natCast_zero] at h3
 simp only [pl,A9,go_sem,↓reduceIte,adx]
 rw [h3 _ _ rfl rfl rfl]
 simp only [go_sem,↓reduceIte]
theorem Ja {a b:List Int} (hl:a.length=b.length) (h2:a.length≤100000):∀ (k i:Nat),i+k=a.length→∀ (s:af) (h:aa),s 0=.sl 1 (bo a)→s 1=.sl 1 (bo b)→s 7=I i →
  ∃ hh,aB 0 [] (aD (au R (ab false) ef) [0,1,7] [] s h)=if en (b.drop i) (a.drop i)=0 then some (.normal,⟨fun _=>.any,fun _=>.dead⟩) else some (.ret,⟨upd (fun _=>.any) 4 (I (en (b.drop i) (a.drop i))),hh⟩):=by
 intro k
 induction k with
 | zero =>
  intro i hi s h h0 h1 h7
  have e1:((i:Int) < a.length)=False:=ff (by omega)
  rw [List.drop_eq_nil_of_le (by omega),List.drop_eq_nil_of_le (by omega),av]
  refine ⟨fun _=>.dead,?_⟩
  show _=if (0:Int)=0 then _ else _
  rw [if_pos rfl]
  simp only [ef,go_sem,↓reduceIte,adx,h0,h1,h7,e1]
 | succ k ih =>
  intro i hi s h h0 h1 h7
  have hlt:i < a.length:=by omega
  have hlt2:i < b.length:=by omega
  have e1:((i:Int) < a.length)=True:=tt (by omega)
  have e2:aX (bo a) (i:Int)=some (.ipt [I a[i]]):=nZ rfl (List.getElem?_eq_getElem hlt)
  have e3:aX (bo b) (i:Int)=some (.ipt [I b[i]]):=nZ rfl (List.getElem?_eq_getElem hlt2)
  have e5:IntKind.i64.wrap ((i:Int)+1)=((i+1:Nat):Int):=wi (by omega) (by omega)
  rw [List.drop_eq_getElem_cons hlt,List.drop_eq_getElem_cons hlt2,av]
  have ih':=ih (i+1) (by omega)
  generalize a[i]=x at e2 ⊢
  generalize b[i]=y at e3 ⊢
  generalize aD _ _ _=L at ih' ⊢
  unfold en
  rcases jY y x with ⟨g,e⟩ | ⟨g,e⟩ | ⟨g,e⟩
  ·have e6:(y < x)=True:=tt g
   simp only [e,↓reduceIte,adG,Int.reduceNeg]
   refine ⟨?hh1,?_⟩
   rotate_left
   simp only [ef,go_sem,↓reduceIte,adx,h0,h1,h7,e1,e2,e3,e6]
   rfl
  ·have e6:(y < x)=False:=ff (by omega)
   have e7:(x < y)=False:=ff (by omega)
   simp only [e,↓reduceIte]
   simp only [ef,go_sem,↓reduceIte,adx,h0,h1,h7,e1,e2,e3,e5,e6,e7]
   exact ih' _ _ rfl rfl rfl
  ·have e6:(y < x)=False:=ff (by omega)
   have e7:(x < y)=True:=tt (by omega)
   simp only [e,↓reduceIte,adG]
   refine ⟨?hh2,?_⟩
   rotate_left
   simp only [ef,go_sem,↓reduceIte,adx,h0,h1,h7,e1,e2,e3,e6,e7]
   rfl
theorem ve {a b:List Int} (ha:sm a) (hb:sm b) (hl:a.length=b.length):R F.r23_Compare [.sl 1 (bo a),.sl 1 (bo b)] []=some (I (aZ a b),[]):=by
 refine aO BS BR (w7 false) rfl ?_
 have d1:=Fg ha
 have d2:=Fg hb
 have h3:=Ja hl (by have:=ha.1; omega) a.length 0 (Nat.zero_add _)
 simp only [List.drop_zero,Int.natCast_zero] at h3
 unfold aZ
 rcases jY (bw a) (bw b) with ⟨g,e⟩ | ⟨g,e⟩ | ⟨g,e⟩
 ·have e6:(bw a < bw b)=True:=tt g
  rw [e,if_neg (by decide)]
  simp only [eg,jq,go_sem,↓reduceIte,adx,adz,ady,d1,d2,e6]
 ·have e6:(bw a < bw b)=False:=ff (by omega)
  have e7:(bw b < bw a)=False:=ff (by omega)
  rw [e,if_pos rfl]
  by_cases hz:en b a=0
  ·simp only [if_pos hz] at h3
   simp only [eg,jq,go_sem,↓reduceIte,adx,adz,ady,d1,d2,e6,e7]
   rw [(h3 _ _ rfl rfl rfl).choose_spec,hz]
   simp only [go_sem,↓reduceIte]
  ·simp only [if_neg hz] at h3
   simp only [eg,jq,go_sem,↓reduceIte,adx,adz,ady,d1,d2,e6,e7]
   rw [(h3 _ _ rfl rfl rfl).choose_spec]
   simp only [go_sem,↓reduceIte]
 ·have e6:(bw a < bw b)=False:=ff (by omega)
  have e7:(bw b < bw a)=True:=tt (by omega)
  rw [e,if_neg (by decide)]
  simp only [eg,jq,go_sem,↓reduceIte,adx,adz,ady,d1,d2,e6,e7]
theorem KL {t:Rt} (h2:t.exps.length≤1000):∀ (k i:Nat),i+k=t.exps.length→(∀ x ∈ t.exps.take i,0≤x∧x≤32)→∀ (s:af) (h:aa),s 3=.ref 3 none 0 0 0→s 5=I (bw (t.exps.take i))→s 6=I i→h 3=.bx (aW t) →
  ∃ hh,aB 0 [5] (aD (au R (ab false) dS) [3,5,6] [3] s h)=if (t.exps.drop i).any mf=true then some (.ret,⟨upd (fun _=>.any) 4 (B false),hh⟩) else some (.normal,⟨upd (fun _=>.any) 5 (I (bw t.exps)),hh⟩):=by
 intro k
 induction k with
 | zero =>
  intro i hi hg s h h3 h5 h6 k3
  have e1:((i:Int) < t.exps.length)=False:=ff (by omega)
  rw [List.take_of_length_le (by omega)] at h5
  rw [List.drop_eq_nil_of_le (by omega),av]
  simp only [aW] at k3
  refine ⟨?hh,?_⟩
  rotate_left
  show _=if false=true then _ else _
  rw [if_neg Bool.false_ne_true]
  simp only [dS,go_sem,↓reduceIte,adx,adz,ady,adC,h3,h5,h6,k3,e1]
  rfl
 | succ k ih =>
  intro i hi hg s h h3 h5 h6 k3
  have hlt:i < t.exps.length:=by omega
  have e1:((i:Int) < t.exps.length)=True:=tt (by omega)
  have e2:aX (bo t.exps) (i:Int)=some (.ipt [I t.exps[i]]):=nZ rfl (List.getElem?_eq_getElem hlt)
  have e5:IntKind.i64.wrap ((i:Int)+1)=((i+1:Nat):Int):=wi (by omega) (by omega)
  have b1:=Fa hg
  have b3:(t.exps.take i).length≤1000:=by simp only [List.length_take]; omega
  have ih':=ih (i+1) (by omega)
  have htk:t.exps.take (i+1)=t.exps.take i++[t.exps[i]]:=by rw [List.take_add_one,List.getElem?_eq_getElem hlt]; rfl
  have hst:=xP hlt
  rw [List.drop_eq_getElem_cons hlt,List.any_cons,av]
  simp only [aW] at k3
  rw [hst] at ih'
  rw [htk] at ih'
  generalize t.exps[i]=x at e2 ih' ⊢
  generalize aD _ _ _=L at ih' ⊢
  unfold mf at ih' ⊢
  by_cases g1:x < 0
  ·have e6:(x < 0)=True:=tt g1
   simp only [decide_eq_true g1,Bool.true_or]
   refine ⟨?hh1,?_⟩
   rotate_left
   rw [if_pos trivial]
   simp only [dS,go_sem,↓reduceIte,adx,adz,ady,adC,h3,h5,h6,k3,e1,e2,e6]
   rfl
  ·have e6:(x < 0)=False:=ff g1
   by_cases g2:32 < x
   ·have e7:(32 < x)=True:=tt g2
    simp only [decide_eq_false g1,decide_eq_true g2,Bool.false_or,Bool.true_or]
    refine ⟨?hh2,?_⟩
    rotate_left
    rw [if_pos trivial]
    simp only [dS,go_sem,↓reduceIte,adx,adz,ady,adC,h3,h5,h6,k3,e1,e2,e6,e7]
    rfl
   ·have e7:(32 < x)=False:=ff g2
    simp only [decide_eq_false g1,decide_eq_false g2,Bool.false_or]
    have e8:IntKind.i64.wrap (bw (t.exps.take i)+x)=bw (t.exps.take i)+x:=i64_in _ ⟨by omega,by omega⟩
    simp only [dS,go_sem,↓reduceIte,adx,adz,ady,adC,h3,h5,h6,k3,e1,e2,e5,e6,e7,e8]
    exact ih' (fun y hy=>by
     rcases List.mem_append.1 hy with h | h
     ·exact hg y h
     ·rw [List.mem_singleton.1 h]
      omega) _ _ rfl rfl rfl rfl
theorem KM {v:Int} {t:Rt} (ok:OkT t) (hv:v≤1000):R F.r23_term [I v,.agg (aW t)] []=some (B (u6 v t),[]):=by
 refine aO II IH (BQ false) rfl ?_
 have hvd:=qH ok.c
 simp only [aC,aP] at hvd
 unfold u6
 by_cases c1:(t.exps.length:Int)=v
 ·have f1:((t.exps.length:Int)=v)=True:=tt c1
  rw [decide_eq_true c1,Bool.true_and]
  cases c2:vd t.c with
  | false =>
   rw [c2] at hvd
   rw [Bool.false_and]
   simp only [fI,kK,aW,go_sem,↓reduceIte,adx,adz,ady,adA,f1,hvd]
  | true =>
   rw [c2] at hvd
   rw [Bool.true_and]
   by_cases c3:t.c.m.length=0
   ·have f3:((t.c.m.length:Int)=0)=True:=tt (by omega)
    rw [decide_eq_false (p:=t.c.m.length ≠ 0) (fun h=>h c3),Bool.false_and]
    simp only [fI,kK,aW,go_sem,↓reduceIte,adx,adz,ady,adA,f1,hvd,f3]
   ·have f3:((t.c.m.length:Int)=0)=False:=ff (by omega)
    rw [decide_eq_true (p:=t.c.m.length ≠ 0) c3,Bool.true_and]
    have hL:=KL (t:=t) (by omega) t.exps.length 0 (Nat.zero_add _) (fun x hx=>by rw [List.take_zero] at hx; exact nomatch hx)
    simp only [List.drop_zero,List.take_zero,bw,Int.natCast_zero] at hL
    generalize hLL:aD (au R (ab false) dS) [3,5,6] [3]=L at hL
    have hX:∀ s h,au R (ab false) (.loop [3,5,6] [3] dS) s h=L s h:=fun s h=>by rw [← hLL]; rfl
    clear hLL
    have hL2:∀ (S:af) (H:aa) (X:Option (Ex × St)),aB 0 [5] (L S H)=X→S 3=.ref 3 none 0 0 0→S 5=I 0→S 6=I 0→H 3=.bx (aW t)→∃ hh,X=if t.exps.any mf=true then some (.ret,⟨upd (fun _=>.any) 4 (B false),hh⟩) else some (.normal,⟨upd (fun _=>.any) 5 (I (bw t.exps)),hh⟩):=fun S H X hX=>by
     rw [← hX]
     exact hL S H
    simp only [aW] at hL2
    cases c4:t.exps.any mf with
    | true =>
     simp only [c4] at hL2
     rw [Bool.not_true,Bool.false_and]
     simp only [fI,kK,hX,aW,go_sem,↓reduceIte,adx,adz,ady,adA,f1,hvd,f3]
     generalize hB:aB 0 [5] (L _ _)=X
     obtain ⟨hh,g0⟩:=hL2 _ _ _ hB rfl rfl rfl rfl
     rw [g0]
     simp only [go_sem,↓reduceIte]
    | false =>
     simp only [c4,if_neg Bool.false_ne_true] at hL2
     rw [Bool.not_false,Bool.true_and]
     simp only [fI,kK,hX,aW,go_sem,↓reduceIte,adx,adz,ady,adA,f1,hvd,f3]
     generalize hB:aB 0 [5] (L _ _)=X
     obtain ⟨hh,g0⟩:=hL2 _ _ _ hB rfl rfl rfl rfl
     rw [g0]
     simp only [go_sem,↓reduceIte]
 ·have f1:((t.exps.length:Int)=v)=False:=ff c1
  rw [decide_eq_false c1,Bool.false_and]
  simp only [fI,kK,aW,go_sem,↓reduceIte,adx,adz,ady,f1]
theorem KN {a:Rp} (ok:OkP a) (hv:a.vars≤8) (h2:a.terms.length≤500):∀ (k i:Nat),i+k=a.terms.length→∀ (pr:Option Rt),(i=0→pr=none)→(0 < i→∃ q,pr=some q∧a.terms[i - 1]?=some q∧u6 a.vars q=true) →
  ∀ (s:af) (h:aa),s 1=.ref 1 none 0 0 0→s 3=I i→h 1=.bx [I a.vars,.sl 4 (az a.terms)] →
  ∃ hh,aB 0 [] (aD (au R (ab false) d9) [1,3] [1] s h)=if rS a.vars pr (a.terms.drop i)=true then some (.normal,⟨fun _=>.any,hh⟩) else some (.ret,⟨upd (fun _=>.any) 2 (B false),hh⟩):=by
 intro k
 induction k with
 | zero =>
  intro i hi pr p0 p1 s h h1 h3 k1
  have e1:((i:Int) < a.terms.length)=False:=ff (by omega)
  rw [List.drop_eq_nil_of_le (by omega),av]
  refine ⟨?hh0,?_⟩
  rotate_left
  show _=if true=true then _ else _
  rw [if_pos rfl]
  simp only [d9,go_sem,↓reduceIte,adx,adz,ady,adC,h1,h3,k1,e1]
  rfl
 | succ k ih =>
  intro i hi pr p0 p1 s h h1 h3 k1
  have hlt:i < a.terms.length:=by omega
  have e1:((i:Int) < a.terms.length)=True:=tt (by omega)
  have e2:aX (az a.terms) (i:Int)=some (.ipt (aW a.terms[i])):=eW rfl (List.getElem?_eq_getElem hlt)
  have e5:IntKind.i64.wrap ((i:Int)+1)=((i+1:Nat):Int):=wi (by omega) (by omega)
  have okt:=ok.t a.terms[i] (List.getElem_mem hlt)
  have hnext:a.terms[i+1 - 1]?=some a.terms[i]:=List.getElem?_eq_getElem hlt
  rw [List.drop_eq_getElem_cons hlt,av]
  have ih':=ih (i+1) (by omega) (some a.terms[i]) (fun h=>absurd h (Nat.succ_ne_zero _))
  generalize a.terms[i]=t at e2 okt ih' hnext ⊢
  generalize aD _ _ _=L at ih' ⊢
  have htm:=KM okt (v:=a.vars) (by omega)
  simp only [aW] at e2 htm
  unfold rS
  cases hb:u6 a.vars t with
  | false =>
   rw [hb] at htm
   simp only [Bool.false_and,if_neg Bool.false_ne_true]
   refine ⟨?hh2,?_⟩
   rotate_left
   simp only [d9,go_sem,↓reduceIte,adx,adz,ady,adA,adB,adC,h1,h3,k1,e1,e2,htm]
   rfl
  | true =>
   rw [hb] at htm
   obtain ⟨c1,c2,c3,c4,c5⟩:=u7 hb
   simp only [Bool.true_and]
   by_cases hi0:i=0
   ·have f6:(0 < (i:Int))=False:=ff (by omega)
    rw [p0 hi0]
    simp only [xQ,Bool.true_and]
    simp only [d9,go_sem,↓reduceIte,adx,adz,ady,adA,adB,adC,h1,h3,k1,e1,e2,htm,f6,e5]
    exact ih' (fun _=>⟨t,rfl,hnext,hb⟩) _ _ rfl rfl rfl
   ·have f6:(0 < (i:Int))=True:=tt (by omega)
    obtain ⟨q,q1,q2,q3⟩:=p1 (by omega)
    obtain ⟨d1,d2,d3,d4,d5⟩:=u7 q3
    rw [q1]
    have e7:IntKind.i64.wrap ((i:Int) - 1)=((i - 1:Nat):Int):=wi (by omega) (by omega)
    have e8:aX (az a.terms) ((i - 1:Nat):Int)=some (.ipt (aW q)):=eW rfl q2
    simp only [aW] at e8
    have ho:=ve (a:=q.exps) (b:=t.exps) ⟨by omega,n4 d4⟩ ⟨by omega,n4 c4⟩ (by omega)
    simp only [xQ]
    by_cases c6:aZ q.exps t.exps < 0
    ·have f7:(0≤aZ q.exps t.exps)=False:=ff (by omega)
     simp only [decide_eq_true c6,Bool.true_and]
     simp only [d9,go_sem,↓reduceIte,adx,adz,ady,adA,adB,adC,h1,h3,k1,e1,e2,htm,f6,e5,e7,e8,ho,f7]
     exact ih' (fun _=>⟨t,rfl,hnext,hb⟩) _ _ rfl rfl rfl
    ·have f7:(0≤aZ q.exps t.exps)=True:=tt (by omega)
     simp only [decide_eq_false c6,Bool.false_and,if_neg Bool.false_ne_true]
     refine ⟨?hh7,?_⟩
     rotate_left
     simp only [d9,go_sem,↓reduceIte,adx,adz,ady,adA,adB,adC,h1,h3,k1,e1,e2,htm,f6,e7,e8,ho,f7]
     rfl
theorem za {a:Rp} (ok:OkP a):R F.r23_Valid [bm a] []=some (B (vp a),[]):=by
 refine aO Gh Gg (zQ false) rfl ?_
 unfold vp
 by_cases c1:0≤a.vars
 ·have f1:(a.vars < 0)=False:=ff (by omega)
  rw [decide_eq_true c1,Bool.true_and]
  by_cases c2:a.vars≤8
  ·have f2:(8 < a.vars)=False:=ff (by omega)
   rw [decide_eq_true c2,Bool.true_and]
   by_cases c3:a.terms.length≤500
   ·have f3:(500 < (a.terms.length:Int))=False:=ff (by omega)
    rw [decide_eq_true c3,Bool.true_and]
    have h3:=KN ok c2 c3 a.terms.length 0 (Nat.zero_add _) none (fun _=>rfl) (fun h=>absurd h (Nat.lt_irrefl _))
    simp only [List.drop_zero,Int.natCast_zero] at h3
    cases hb:rS a.vars none a.terms with
    | true =>
     rw [hb] at h3
     simp only [] at h3
     simp only [eJ,jw,bm,go_sem,↓reduceIte,adx,adz,ady,f1,f2,f3]
     rw [(h3 _ _ rfl rfl rfl).choose_spec]
     simp only [go_sem,↓reduceIte]
    | false =>
     rw [hb] at h3
     simp only [if_neg Bool.false_ne_true] at h3
     simp only [eJ,jw,bm,go_sem,↓reduceIte,adx,adz,ady,f1,f2,f3]
     rw [(h3 _ _ rfl rfl rfl).choose_spec]
     simp only [go_sem,↓reduceIte]
   ·have f3:(500 < (a.terms.length:Int))=True:=tt (by omega)
    rw [decide_eq_false c3,Bool.false_and]
    simp only [eJ,jw,bm,go_sem,↓reduceIte,adx,adz,ady,f1,f2,f3]
  ·have f2:(8 < a.vars)=True:=tt (by omega)
   rw [decide_eq_false c2,Bool.false_and]
   simp only [eJ,jw,bm,go_sem,↓reduceIte,adx,adz,ady,f1,f2]
 ·have f1:(a.vars < 0)=True:=tt (by omega)
  rw [decide_eq_false c1,Bool.false_and]
  simp only [eJ,jw,bm,go_sem,↓reduceIte,adx,adz,ady,f1]
end Go.Ab
namespace Go.Ab
open Go Go.IntWalk
set_option maxRecDepth 4000
set_option maxHeartbeats 1000000
end Go.Ab
namespace Go.Ab
open Go Go.IntWalk
set_option maxRecDepth 4000
set_option maxHeartbeats 1000000
structure Len1 (x:Ri):Prop where
 lo:Lb x.lo.m∧x.lo.m.length≤100000
 hi:Lb x.hi.m∧x.hi.m.length≤100000
def VI (x:Ri):Prop:=(vd x.lo=true∧Ok0 x.lo)∧(vd x.hi=true∧Ok0 x.hi)
theorem VI.len {x:Ri} (h:VI x):Len1 x:=⟨⟨h.1.2.1,Nat.le_trans (rP h.1.1 h.1.2.1) (by decide)⟩,⟨h.2.2.1,Nat.le_trans (rP h.2.1 h.2.2.1) (by decide)⟩⟩
end Go.Ab
namespace Go.Ab
open Go Go.IntWalk
set_option maxRecDepth 4000
set_option maxHeartbeats 1000000
end Go.Ab
namespace Go.Ab
open Go Go.IntWalk
set_option maxRecDepth 4000
set_option maxHeartbeats 1000000
def rdE:Option Rd→List AV
 | none=>[B false,.emp,I 0]
 | some d=>aP d
def Xg (l:List (Option Rd)):List (List AV):=l.map rdE
@[go_sem] theorem aa6 (l:List (Option Rd)):(Xg l).length=l.length:=by simp [Xg]
end Go.Ab
namespace Go.Ab
open Go Go.IntWalk
set_option maxRecDepth 4000
set_option maxHeartbeats 1000000
def iF (a b:Rd):Rd × Int:=if (vd a && vd b)=true then eL (dm (zI a+zI b) (-16384)) else (ez,1)
theorem O8 {z f:Int}:vd (eL (dm z f)).1=true∧Ok0 (eL (dm z f)).1:=by
 unfold eL dm
 by_cases h:qE (ax (ac (cD (decide (z < 0)) z.natAbs f).m)) (cD (decide (z < 0)) z.natAbs f).e=true
 ·rw [if_pos h]
  have hv:=Ha h
  have hb:=Aq (decide (z < 0)) z.natAbs f
  exact ⟨hv,hb,Nat.lt_of_le_of_lt (rP hv hb) (by decide)⟩
 ·rw [if_neg h]
  exact Kz
theorem O9 (a b:Rd):vd (iF a b).1=true∧Ok0 (iF a b).1:=by
 unfold iF
 split
 ·exact O8
 ·exact Kz
theorem Hc {d:Rd} (h:vd d=true) (h0:d.m.length ≠ 0):ac d.m % 2=1:=by
 obtain ⟨h1,h2,h3,h4⟩:=oM h h0
 cases hm:d.m with
 | nil=>rw [hm] at h0; exact absurd rfl h0
 | cons x l =>
  rw [hm] at h2
  have h2':x % 2=1:=h2
  show (x+4294967296*ac l) % 2=1
  omega
end Go.Ab
namespace Go.Ab
open Go Go.IntWalk
set_option maxRecDepth 4000
set_option maxHeartbeats 1000000
end Go.Ab
namespace Go.Ab
open Go Go.IntWalk
set_option maxRecDepth 4000
end Go.Ab
namespace Go.Ab
open Go Go.IntWalk
set_option maxRecDepth 4000
set_option maxHeartbeats 1000000
theorem GC {d:Rd} (ok:Ok0 d):R F.r02_Checked [aC d] []=some (rV (if vd d=true then (d,0) else (ez,9)),[]):=by
 refine aO B4 B3 (xi false) rfl ?_
 have hv:=qH ok
 simp only [aC,aP] at hv
 cases hb:vd d with
 | false =>
  rw [hb] at hv
  rw [if_neg Bool.false_ne_true]
  simp only [iv,o4,rV,aC,aP,ez,go_sem,↓reduceIte,adx,adz,ady,adA,hv]
 | true =>
  rw [hb] at hv
  rw [if_pos rfl]
  simp only [iv,o4,rV,aC,aP,go_sem,↓reduceIte,adx,adz,ady,adA,hv]
theorem M2 (z f:Int):(if vd (dm z f)=true then (dm z f,(0:Int)) else (ez,9))=eL (dm z f):=by
 unfold eL
 by_cases h:qE (ax (ac (dm z f).m)) (dm z f).e=true
 ·rw [if_pos h,if_pos (show vd (dm z f)=true from Ha h)]
 ·rw [if_neg h,if_neg]
  intro h2
  by_cases h0:(dm z f).m.length=0
  ·rw [rO h2 h0] at h
   exact h (by decide)
  ·exact h (oM h2 h0).2.2.2
theorem Pa {z f:Int} {k:Nat} (h:ax z.natAbs≤32*k) (hk:k≤100000):Ok0 (dm z f) :=
 ⟨Aq _ _ _,Nat.lt_of_le_of_lt (E7 (k:=k) h) (by omega)⟩
theorem Pb {a b:Rd} (oa:Ok0 a) (ob:Ok0 b):R F.r02_Add [aC a,aC b] []=some (rV (iF a b),[]):=by
 refine aO Ki Kh (Er false) rfl ?_
 have ha:=qH oa
 have hb:=qH ob
 unfold iF
 simp only [aC,aP] at ha hb
 cases va:vd a with
 | false =>
  rw [va] at ha
  rw [Bool.false_and,if_neg Bool.false_ne_true]
  simp only [kJ,qx,rV,aC,aP,ez,go_sem,↓reduceIte,adx,adz,ady,adA,ha]
 | true =>
  rw [va] at ha
  cases vb:vd b with
  | false =>
   rw [vb] at hb
   rw [Bool.true_and,if_neg Bool.false_ne_true]
   simp only [kJ,qx,rV,aC,aP,ez,go_sem,↓reduceIte,adx,adz,ady,adA,ha,hb]
  | true =>
   rw [vb] at hb
   rw [Bool.true_and,if_pos rfl]
   have hp:=O7 oa ob va vb
   have hl:Ok0 (dm (zI a+zI b) (-16384)):=Pa (k:=2000) (Nat.le_trans (y9 (Hb oa va) (Hb ob vb)) (by decide)) (by decide)
   have hc:=GC hl
   rw [M2] at hc
   generalize eL (dm (zI a+zI b) (-16384))=r at hc ⊢
   generalize dm (zI a+zI b) (-16384)=d at hp hc
   simp only [rV,aC,aP] at hp hc
   simp only [kJ,qx,rV,aC,aP,go_sem,↓reduceIte,adx,adz,ady,adA,ha,hb,hp,hc]
end Go.Ab
namespace Go.Ab
open Go Go.IntWalk
set_option maxRecDepth 4000
set_option maxHeartbeats 1000000
end Go.Ab
namespace Go.Ab
open Go Go.IntWalk
set_option maxRecDepth 4000
set_option maxHeartbeats 1000000
end Go.Ab
namespace Go.Ab
open Go Go.IntWalk
set_option maxRecDepth 4000
set_option maxHeartbeats 1000000
end Go.Ab
namespace Go.Ab
open Go Go.IntWalk
set_option maxRecDepth 4000
set_option maxHeartbeats 1000000
end Go.Ab
namespace Go.Ab
open Go Go.IntWalk
set_option maxRecDepth 4000
set_option maxHeartbeats 1000000
@[go_sem] theorem aa7 (l:List Rd):(Kx l).map (bQ [.o 0 [],.o 2 [],.o 0 []])=Kx l:=by
 refine oN fun x hx=>?_
 simp only [Kx,List.mem_map] at hx
 obtain ⟨t,ht,rfl⟩:=hx
 simp only [aP,go_sem]
end Go.Ab
namespace Go.Ab
open Go Go.IntWalk
set_option maxRecDepth 4000
set_option maxHeartbeats 1000000
theorem Fh {d:Rd} (h:vd d=true):eL d=(d,0):=by
 unfold eL
 by_cases h0:d.m.length=0
 ·rw [rO h h0]
  rfl
 ·rw [if_pos (oM h h0).2.2.2]
theorem Bf {d:Rd} (ok:Ok0 d) (h:vd d=true):cD d.neg (ac d.m) d.e=d:=by
 have h1:=rU ok h
 obtain ⟨g1,g2,g3,g4⟩:=lw h ok.lb
 have hz:zI d=cM d.neg (mg d):=rfl
 rw [hz,← rT] at h1
 unfold mg at h1
 rw [ng,show -16384+(((d.e+16384).toNat:Nat):Int)=d.e by omega] at h1
 exact h1
theorem Hd {N k:Nat} {neg:Bool} (ho:N % 2=1) (hb:4096 < ax N):eL (cD neg (N*2 ^ k) (-16384))=(ez,9):=by
 have h0:N ≠ 0:=by omega
 rw [ng]
 obtain ⟨g1,g2,g3,g4⟩:=E8 (neg:=neg) (e:=-16384+(k:Int)) h0
 have ht:=QY ho 0
 rw [Nat.pow_zero,Nat.mul_one] at ht
 unfold eL
 rw [if_neg]
 intro h2
 rw [g1,ht,Nat.pow_zero,Nat.div_one] at h2
 have h3:=(Ap h2 (by omega)).1
 omega
theorem Fi {a b:Rd} (oa:Ok0 a) (ob:Ok0 b) (va:vd a=true) (vb:vd b=true) (na:a.m.length ≠ 0) (nb:b.m.length ≠ 0) {e:Int} (he:e=if b.e < a.e then b.e else a.e) (h:4097 < bW a - e) (hg:1 < bW a - bW b) :
  eL (dm (zI a+zI b) (-16384))=(ez,9)∧eL (dm (zI b+zI a) (-16384))=(ez,9):=by
 obtain ⟨a1,a2,a3,a4⟩:=lw va oa.lb
 obtain ⟨b1,b2,b3,b4⟩:=lw vb ob.lb
 have e1:=mc va na
 have e2:=mc vb nb
 have he1:-16384≤e∧e≤a.e∧e≤b.e∧(e=a.e∨e=b.e):=by
  rw [he]
  split <;> omega
 have hne:a.e ≠ b.e:=by omega
 have z1:zI a=cM a.neg (ac a.m*2 ^ (a.e - e).toNat*2 ^ (e+16384).toNat):=by
  rw [show zI a=cM a.neg (mg a) from rfl,nY he1.1 he1.2.1]
 have z2:zI b=cM b.neg (ac b.m*2 ^ (b.e - e).toNat*2 ^ (e+16384).toNat):=by
  rw [show zI b=cM b.neg (mg b) from rfl,nY he1.1 he1.2.2.1]
 have bx:(ax (ac a.m*2 ^ (a.e - e).toNat):Int)=bW a - e:=by
  rw [kv _ (lK va na)]
  omega
 have by':(ax (ac b.m*2 ^ (b.e - e).toNat):Int)=bW b - e:=by
  rw [kv _ (lK vb nb)]
  omega
 have oX:=Hc va na
 have oY:=Hc vb nb
 have odd:(ac a.m*2 ^ (a.e - e).toNat+ac b.m*2 ^ (b.e - e).toNat) % 2=1:=by
  rcases he1.2.2.2 with h1 | h1
  ·obtain ⟨k,hk⟩:∃ k,(b.e - e).toNat=k+1:=⟨(b.e - e).toNat - 1,by omega⟩
   rw [show (a.e - e).toNat=0 by omega,hk,Nat.pow_zero,Nat.mul_one,Nat.pow_succ,← Nat.mul_assoc]
   omega
  ·obtain ⟨k,hk⟩:∃ k,(a.e - e).toNat=k+1:=⟨(a.e - e).toNat - 1,by omega⟩
   rw [show (b.e - e).toNat=0 by omega,hk,Nat.pow_zero,Nat.mul_one,Nat.pow_succ,← Nat.mul_assoc]
   omega
 rw [Int.add_comm (zI b),and_self,z1,z2]
 generalize ac a.m*2 ^ (a.e - e).toNat=x at bx odd ⊢
 generalize ac b.m*2 ^ (b.e - e).toNat=y at by' odd ⊢
 generalize (e+16384).toNat=k
 have hx:2 ^ (ax x - 1)≤x:=pC.1 (by omega)
 have hy:y < 2 ^ (ax x - 2):=by
  have h3:y < 2 ^ ax y:=cW.1 (Nat.le_refl _)
  exact Nat.lt_of_lt_of_le h3 (Nat.pow_le_pow_right (by omega) (by omega))
 have hp:2 ^ (ax x - 1)=2 ^ (ax x - 2)*2:=by
  rw [← Nat.pow_succ]
  congr 1
  omega
 have hbig:∀ N:Nat,x - y≤N→4096 < ax N:=fun N hN=>by
  have h5:ax x - 2 < ax N:=pC.2 (by omega)
  omega
 have hsum:∀ (n:Bool) (z:Nat),dm (cM n (z*2 ^ k)) (-16384)=cD n (z*2 ^ k) (-16384):=fun n z=>rT.symm
 have hmul:y*2 ^ k≤x*2 ^ k:=Nat.mul_le_mul_right _ (by omega)
 by_cases hs:a.neg=b.neg
 ·have hz:cM a.neg (x*2 ^ k)+cM b.neg (y*2 ^ k)=cM a.neg ((x+y)*2 ^ k):=by
   rw [← hs,Nat.add_mul]
   cases a.neg
   ·rw [dv,dv,dv]
    omega
   ·rw [du,du,du]
    omega
  rw [hz,hsum]
  exact Hd odd (hbig _ (by omega))
 ·have hbn:b.neg=!a.neg:=by
   cases ha:a.neg <;> cases hb:b.neg <;> first | rfl | (rw [ha,hb] at hs; exact absurd rfl hs)
  have hz:cM a.neg (x*2 ^ k)+cM b.neg (y*2 ^ k)=cM a.neg ((x - y)*2 ^ k):=by
   rw [hbn,Nat.sub_mul]
   cases a.neg
   ·rw [Bool.not_false,dv,du,dv]
    omega
   ·rw [Bool.not_true,dv,du,du]
    omega
  rw [hz,hsum]
  exact Hd (by omega) (hbig _ (Nat.le_refl _))
def iG:Cmd:=.seq (.dops [2,3,4,6,9,10] [fa 65 1 2,ld 66 1 65,fa 67 2 2,ld 68 1 67,cm 69 6,b2 70 .sub 68 69,ca 71 F.dyadic_shifted [.t 66,.t 70],fa 72 1 3,ld 73 1 72,fa 74 2 3,ld 75 1 74,cm 76 6,b2 77 .sub 75 76,ca 78 F.dyadic_shifted [.t 73,.t 77],cm 9 71,cm 10 78] [(6,8),(6,10)]) (.seq (.seq (.ops [2,3,4,6,9,10,83] [fa 79 0 2,ld 80 1 79,fa 81 0 3,ld 82 1 81,co 83 (.eqc false 0 (.t 80) (.t 82))]) (.cond (.t 83) (.seq (.ops [2,4,6,11] [cm 85 9,cm 86 10,ca 87 F.natural_Add [.t 85,.t 86],cm 84 87,co 88 (.ext 0 (.t 84)),co 89 (.ext 1 (.t 84)),cm 11 88,cm 12 89]) (.seq (.ops [4,5] [fa 90 0 2,ld 91 1 90,cm 92 11,cm 93 6,ca 94 F.dyadic_canonical [.t 91,.t 92,.t 93],ca 95 F.dyadic_checked [.t 94],co 96 (.ext 0 (.t 95)),co 97 (.ext 1 (.t 95)),sr 3 (.t 4) (.t 96),cm 5 97]) (.ret))) (.skip))) (.seq (.seq (.ops [2,3,4,6,9,10,101] [cm 98 9,cm 99 10,ca 100 F.natural_Cmp [.t 98,.t 99],co 101 (.bin .lss (.t 100) (.c (I 0)))]) (.cond (.t 101) (.ops [2,4,6,9,10] [la 102 3 3,cm 103 10,cm 104 9,sr 3 (.t 2) (.t 102),cm 9 103,cm 10 104]) (.skip))) (.seq (.ops [2,4,6,13] [cm 106 9,cm 107 10,ca 108 F.natural_Sub [.t 106,.t 107],cm 105 108,co 109 (.ext 0 (.t 105)),co 110 (.ext 1 (.t 105)),cm 13 109,cm 14 110]) (.seq (.ops [4,5] [fa 111 0 2,ld 112 1 111,cm 113 13,cm 114 6,ca 115 F.dyadic_canonical [.t 112,.t 113,.t 114],ca 116 F.dyadic_checked [.t 115],co 117 (.ext 0 (.t 116)),co 118 (.ext 1 (.t 116)),sr 3 (.t 4) (.t 117),cm 5 118]) (.ret)))))
theorem gq:mW=.seq (.ops [2,3,4] [bx 2 3 (.t 0),bx 3 3 (.t 1),al 4 [B false,.emp,I 0],co 5 (.mv (.c (I 0)))]) (.seq (.seq (.ops [2,3,4,24] [fa 15 1 2,ld 16 1 15,co 17 (.len false (.t 16)),co 18 (.bin .eql (.t 17) (.c (I 0))),cm 19 18,cg 20 19 false (.fadr 1 (.t 3)),⟨(some 21),(some (19,false)),.load 1 false (.t 20)⟩,cg 22 19 false (.len false (.t 21)),cg 23 19 false (.bin .eql (.t 22) (.c (I 0))),co 24 (.pick (.t 19) (.c (B true)) (.t 23))]) (.cond (.t 24) (.seq (.seq (.ops [2,3,4,28] [fa 25 1 2,ld 26 1 25,co 27 (.len false (.t 26)),co 28 (.bin .eql (.t 27) (.c (I 0)))]) (.cond (.t 28) (.ops [2,4] [la 29 3 3,sr 3 (.t 2) (.t 29)]) (.skip))) (.seq (.ops [4,5] [fa 30 0 2,ld 31 1 30,fa 32 1 2,ld 33 1 32,fa 34 2 2,ld 35 1 34,ca 36 F.dyadic_canonical [.t 31,.t 33,.t 35],sr 3 (.t 4) (.t 36),co 5 (.mv (.c (I 0)))]) (.ret))) (.skip))) (.seq (.ops [2,3,4,6] [fa 37 2 2,ld 38 1 37,fa 39 2 3,ld 40 1 39,co 41 (.mnx true (.t 38) [.t 40]),cm 6 41]) (.seq (.dops [2,3,4,6,7,8] [la 42 3 2,ca 43 F.dyadic_Top [.t 42],la 44 3 3,ca 45 F.dyadic_Top [.t 44],cm 7 43,cm 8 45] [(1,2)]) (.seq (.seq (.ops [2,3,4,6,63] [cm 46 7,cm 47 8,co 48 (.mnx false (.t 46) [.t 47]),cm 49 6,b2 50 .sub 48 49,co 51 (.bin .gtr (.t 50) (.c (I 4097))),cm 52 51,cg 53 52 true (.mv (.t 7)),cg 54 52 true (.mv (.t 8)),cg 55 52 true (.bin .sub (.t 53) (.t 54)),cg 56 52 true (.bin .gtr (.t 55) (.c (I 1))),cg 57 52 true (.mv (.t 56)),cg 58 57 false (.mv (.t 8)),cg 59 57 false (.mv (.t 7)),cg 60 57 false (.bin .sub (.t 58) (.t 59)),cg 61 57 false (.bin .gtr (.t 60) (.c (I 1))),cg 62 52 true (.pick (.t 57) (.c (B true)) (.t 61)),co 63 (.pick (.t 52) (.t 62) (.c (B false)))]) (.cond (.t 63) (.seq (.ops [4,5] [co 64 (.build [B false,.emp,I 0] []),sr 3 (.t 4) (.t 64),co 5 (.mv (.c (I 9)))]) (.ret)) (.skip))) iG)))):=rfl
theorem Bg {a b:Rd} (oa:Ok0 a) (ob:Ok0 b) (va:vd a=true) (vb:vd b=true) (na:a.m.length ≠ 0) (nb:b.m.length ≠ 0) {e:Int} (he1:-16384≤e∧e≤a.e∧e≤b.e) (hX:bW a - e≤5000) (hY:bW b - e≤5000) (s:af)
  (h2:s 2=.ref 2 none 0 0 0) (h3:s 3=.ref 3 none 0 0 0) (h4:s 4=.ref 4 none 0 0 0) (h6:s 6=I e) :
  oT false [[.o 0 [],.o 2 [],.o 0 []],[]] [.cell 4 3 true,.t 5] 0 (au R (ab false) iG s (upd (upd (upd (fun _=>.dead) 2 (.bx (aP a))) 3 (.bx (aP b))) 4 (.bx [B false,.emp,I 0])))=some (rV (eL (dm (zI a+zI b) (-16384))),[]):=by
 obtain ⟨a1,a2,a3,a4⟩:=lw va oa.lb
 obtain ⟨b1,b2,b3,b4⟩:=lw vb ob.lb
 have e1:=mc va na
 have e2:=mc vb nb
 have w1:IntKind.i64.wrap (a.e - e)=(((a.e - e).toNat:Nat):Int):=wi (by omega) (by omega)
 have w2:IntKind.i64.wrap (b.e - e)=(((b.e - e).toNat:Nat):Int):=wi (by omega) (by omega)
 have z1:zI a=cM a.neg (ac a.m*2 ^ (a.e - e).toNat*2 ^ (e+16384).toNat):=by
  rw [show zI a=cM a.neg (mg a) from rfl,nY he1.1 he1.2.1]
 have z2:zI b=cM b.neg (ac b.m*2 ^ (b.e - e).toNat*2 ^ (e+16384).toNat):=by
  rw [show zI b=cM b.neg (mg b) from rfl,nY he1.1 he1.2.2]
 have bx:ax (ac a.m*2 ^ (a.e - e).toNat)≤5000:=by
  rw [kv _ (lK va na)]
  omega
 have by':ax (ac b.m*2 ^ (b.e - e).toNat)≤5000:=by
  rw [kv _ (lK vb nb)]
  omega
 have l1:=y7 oa.lb a1 (k:=(a.e - e).toNat) (by omega) (Nat.le_trans (bv (k:=157) (by omega)) (by decide))
 have l2:=y7 ob.lb b1 (k:=(b.e - e).toNat) (by omega) (Nat.le_trans (bv (k:=157) (by omega)) (by decide))
 rw [z1,z2]
 generalize ac a.m*2 ^ (a.e - e).toNat=x at l1 bx ⊢
 generalize ac b.m*2 ^ (b.e - e).toNat=y at l2 by' ⊢
 have hsum:∀ (n:Bool) (z:Nat),cD n z e=dm (cM n (z*2 ^ (e+16384).toNat)) (-16384):=fun n z=>by
  rw [← rT,ng,show -16384+(((e+16384).toNat:Nat):Int)=e by omega]
 have lx:(ao x).length≤157:=bv (by omega)
 have ly:(ao y).length≤157:=bv (by omega)
 have hq:Xc e:=⟨by omega,by omega⟩
 have hcp:=yZ (bk x) (bk y) (by omega) (by omega)
 rw [aV,aV] at hcp
 have chk:∀ (n:Bool) (z:Nat),ax z≤5001→R F.dyadic_canonical [B n,lm (ao z),I e] []=some (aC (cD n z e),[])∧R F.dyadic_checked [aC (cD n z e)] []=some (rV (eL (cD n z e)),[]):=fun n z hz=>by
  have hl:(ao z).length≤157:=bv (by omega)
  have c1:=qh (neg:=n) (m:=ao z) (e:=e) (bk z) (by omega) hq
  rw [aV] at c1
  refine ⟨c1,?_⟩
  rw [I2 (Aq n z e) (Nat.le_trans (E7 (k:=157) (by omega)) (by decide))]
  exact congrArg (fun v=>some (v,[])) (O3 _)
 by_cases hs:a.neg=b.neg
 ·have p1:=O4 (x:=x) (y:=y) bx by'
  obtain ⟨c1,c2⟩:=chk a.neg (x+y) (sM bx by')
  have hz:cM a.neg (x*2 ^ (e+16384).toNat)+cM b.neg (y*2 ^ (e+16384).toNat)=cM a.neg ((x+y)*2 ^ (e+16384).toNat):=by
   rw [← hs,Nat.add_mul]
   cases a.neg
   ·rw [dv,dv,dv]
    omega
   ·rw [du,du,du]
    omega
  rw [hz,← hsum]
  generalize cD a.neg (x+y) e=r at c1 c2 ⊢
  generalize eL r=q at c2 ⊢
  obtain ⟨q1,q2⟩:=q
  have hs2:(a.neg == b.neg)=true:=by rw [hs]; exact beq_self_eq_true _
  have hs3:(false != (a.neg == b.neg))=true:=by rw [hs2]; rfl
  simp only [rV,aC,aP] at c1 c2
  simp only [iG,rV,aC,aP,go_sem,↓reduceIte,adx,adz,ady,adA,adB,adC,h2,h3,h4,h6,w1,w2,l1,l2,hs3,p1,c1,c2]
 ·have hs2:(a.neg == b.neg)=false:=by
   cases ha:a.neg <;> cases hb:b.neg <;> first | rfl | (rw [ha,hb] at hs; exact absurd rfl hs)
  have hs3:(false != (a.neg == b.neg))=false:=by rw [hs2]; rfl
  have hbn:b.neg=!a.neg:=by
   cases ha:a.neg <;> cases hb:b.neg <;> first | rfl | (rw [ha,hb] at hs; exact absurd rfl hs)
  have hb1:∀ u v:Nat,ax u≤5000→ax (u - v)≤5001:=fun u v hu=>Kv (Nat.sub_le u v) (Nat.le_trans hu (by decide))
  by_cases hlt:x < y
  ·have e5:(bV x y < 0)=True:=tt (by unfold bV; rw [if_pos hlt]; decide)
   have m1:=G9 (x:=y) (y:=x) by' bx (by omega)
   obtain ⟨c1,c2⟩:=chk b.neg (y - x) (hb1 _ _ by')
   have hmul:x*2 ^ (e+16384).toNat≤y*2 ^ (e+16384).toNat:=Nat.mul_le_mul_right _ (by omega)
   have hz:cM a.neg (x*2 ^ (e+16384).toNat)+cM b.neg (y*2 ^ (e+16384).toNat)=cM b.neg ((y - x)*2 ^ (e+16384).toNat):=by
    rw [hbn,Nat.sub_mul]
    cases a.neg
    ·rw [Bool.not_false,dv,du,du]
     omega
    ·rw [Bool.not_true,dv,du,dv]
     omega
   rw [hz,← hsum]
   generalize cD b.neg (y - x) e=r at c1 c2 ⊢
   generalize eL r=q at c2 ⊢
   obtain ⟨q1,q2⟩:=q
   simp only [rV,aC,aP] at c1 c2
   simp only [iG,rV,aC,aP,go_sem,↓reduceIte,adx,adz,ady,adA,adB,adC,h2,h3,h4,h6,w1,w2,l1,l2,hs3,hcp,e5,m1,c1,c2]
  ·have e5:(bV x y < 0)=False:=ff (by unfold bV; rw [if_neg hlt]; split <;> decide)
   have m1:=G9 (x:=x) (y:=y) bx by' (by omega)
   obtain ⟨c1,c2⟩:=chk a.neg (x - y) (hb1 _ _ bx)
   have hmul:y*2 ^ (e+16384).toNat≤x*2 ^ (e+16384).toNat:=Nat.mul_le_mul_right _ (by omega)
   have hz:cM a.neg (x*2 ^ (e+16384).toNat)+cM b.neg (y*2 ^ (e+16384).toNat)=cM a.neg ((x - y)*2 ^ (e+16384).toNat):=by
    rw [hbn,Nat.sub_mul]
    cases a.neg
    ·rw [Bool.not_false,dv,du,dv]
     omega
    ·rw [Bool.not_true,dv,du,du]
     omega
   rw [hz,← hsum]
   generalize cD a.neg (x - y) e=r at c1 c2 ⊢
   generalize eL r=q at c2 ⊢
   obtain ⟨q1,q2⟩:=q
   simp only [rV,aC,aP] at c1 c2
   simp only [iG,rV,aC,aP,go_sem,↓reduceIte,adx,adz,ady,adA,adB,adC,h2,h3,h4,h6,w1,w2,l1,l2,hs3,hcp,e5,m1,c1,c2]
theorem Pc {a b:Rd} (oa:Ok0 a) (ob:Ok0 b) (va:vd a=true) (vb:vd b=true):R F.dyadic_sum [aC a,aC b] []=some (rV (eL (dm (zI a+zI b) (-16384))),[]):=by
 refine aO EC EB (yR false) rfl ?_
 by_cases a0:a.m.length=0
 ·have e1:((a.m.length:Int)=0)=True:=tt (by omega)
  have hz:=rO va a0
  obtain ⟨b1,b2,b3,b4⟩:=lw vb ob.lb
  have c1:=qh (neg:=b.neg) (m:=b.m) (e:=b.e) ob.lb (by omega) ⟨by omega,by omega⟩
  have hr:cD b.neg (ac b.m) b.e=b:=Bf ob vb
  have hk:eL (dm (zI a+zI b) (-16384))=(b,0):=by
   rw [rQ a0,Int.zero_add,rU ob vb]
   exact Fh vb
  rw [hr] at c1
  rw [hk]
  simp only [aC,aP] at c1
  simp only [dp,mW,rV,aC,aP,go_sem,↓reduceIte,adx,adz,ady,adA,e1,c1]
 have e1:((a.m.length:Int)=0)=False:=ff (by omega)
 obtain ⟨a1,a2,a3,a4⟩:=lw va oa.lb
 by_cases b0:b.m.length=0
 ·have e2:((b.m.length:Int)=0)=True:=tt (by omega)
  have c1:=qh (neg:=a.neg) (m:=a.m) (e:=a.e) oa.lb (by omega) ⟨by omega,by omega⟩
  have hr:cD a.neg (ac a.m) a.e=a:=Bf oa va
  have hk:eL (dm (zI a+zI b) (-16384))=(a,0):=by
   rw [rQ b0,Int.add_zero,rU oa va]
   exact Fh va
  rw [hr] at c1
  rw [hk]
  simp only [aC,aP] at c1
  simp only [dp,mW,rV,aC,aP,go_sem,↓reduceIte,adx,adz,ady,adA,e1,e2,c1]
 have e2:((b.m.length:Int)=0)=False:=ff (by omega)
 obtain ⟨b1,b2,b3,b4⟩:=lw vb ob.lb
 have ta:=Kw oa
 have tb:=Kw ob
 have q1:=mc va a0
 have q2:=mc vb b0
 have p1:=nX (lK va a0)
 have p2:=nX (lK vb b0)
 simp only [aC,aP] at ta tb
 have g1:=fun h2 h3=>(Fi oa ob va vb a0 b0 rfl h2 h3).1
 have g2:=fun h2 h3=>(Fi ob oa vb va b0 a0 rfl h2 h3).2
 obtain ⟨e,he⟩:∃ e,(if b.e < a.e then b.e else a.e)=e:=⟨_,rfl⟩
 have he2:(if a.e < b.e then a.e else b.e)=e:=by
  rw [← he]
  by_cases h:b.e < a.e
  ·rw [if_pos h,if_neg (by omega)]
  ·rw [if_neg h]
   by_cases h2:a.e < b.e
   ·rw [if_pos h2]
   ·rw [if_neg h2]
    omega
 rw [he] at g1
 rw [he2] at g2
 have he1:-16384≤e∧e≤a.e∧e≤b.e:=by
  split at he <;> omega
 obtain ⟨M,hM⟩:∃ M,(if bW a < bW b then bW b else bW a)=M:=⟨_,rfl⟩
 have hM1:bW a≤M∧bW b≤M∧(M=bW a∨M=bW b):=by
  split at hM <;> omega
 have w1:IntKind.i64.wrap (M - e)=M - e:=i64_in _ ⟨by omega,by omega⟩
 have w2:IntKind.i64.wrap (bW a - bW b)=bW a - bW b:=i64_in _ ⟨by omega,by omega⟩
 have w3:IntKind.i64.wrap (bW b - bW a)=bW b - bW a:=i64_in _ ⟨by omega,by omega⟩
 by_cases h1:4097 < M - e
 ·have f1:(4097 < M - e)=True:=tt h1
  by_cases h2:1 < bW a - bW b
  ·have f2:(1 < bW a - bW b)=True:=tt h2
   rw [g1 (by omega) h2]
   simp only [dp,gq,rV,ez,aC,aP,go_sem,↓reduceIte,adx,adz,ady,adA,adB,adC,e1,e2,he,ta,tb,hM,w1,w2,f1,f2]
  ·have f2:(1 < bW a - bW b)=False:=ff h2
   by_cases h3:1 < bW b - bW a
   ·have f3:(1 < bW b - bW a)=True:=tt h3
    rw [g2 (by omega) h3]
    simp only [dp,gq,rV,ez,aC,aP,go_sem,↓reduceIte,adx,adz,ady,adA,adB,adC,e1,e2,he,ta,tb,hM,w1,w2,w3,f1,f2,f3]
   ·have f3:(1 < bW b - bW a)=False:=ff h3
    simp only [dp,gq,rV,aC,aP,go_sem,↓reduceIte,adx,adz,ady,adA,adB,adC,e1,e2,he,ta,tb,hM,w1,w2,w3,f1,f2,f3]
    exact Bg oa ob va vb a0 b0 he1 (by omega) (by omega) _ rfl rfl rfl rfl
 ·have f1:(4097 < M - e)=False:=ff h1
  simp only [dp,gq,rV,aC,aP,go_sem,↓reduceIte,adx,adz,ady,adA,adB,adC,e1,e2,he,ta,tb,hM,w1,f1]
  exact Bg oa ob va vb a0 b0 he1 (by omega) (by omega) _ rfl rfl rfl rfl
theorem Pd {a b:Rd} (oa:Ok0 a) (ob:Ok0 b):R F.dyadic_Add [aC a,aC b] []=some (rV (iF a b),[]):=by
 refine aO Eo En (yN false) rfl ?_
 have v1:=qg oa
 have v2:=qg ob
 simp only [aC,aP] at v1 v2
 unfold iF
 cases va:vd a with
 | false =>
  rw [va] at v1
  rw [Bool.false_and,if_neg Bool.false_ne_true]
  simp only [gD,mT,rV,ez,aC,aP,go_sem,↓reduceIte,adx,adz,ady,adA,v1]
 | true =>
  rw [va] at v1
  cases vb:vd b with
  | false =>
   rw [vb] at v2
   rw [Bool.and_false,if_neg Bool.false_ne_true]
   simp only [gD,mT,rV,ez,aC,aP,go_sem,↓reduceIte,adx,adz,ady,adA,v1,v2]
  | true =>
   rw [vb] at v2
   have hs:=Pc oa ob va vb
   rw [Bool.and_self,if_pos rfl]
   generalize eL (dm (zI a+zI b) (-16384))=q at hs ⊢
   obtain ⟨q1,q2⟩:=q
   simp only [rV,aC,aP] at hs
   simp only [gD,mT,rV,aC,aP,go_sem,↓reduceIte,adx,adz,ady,adA,v1,v2,hs]
end Go.Ab
