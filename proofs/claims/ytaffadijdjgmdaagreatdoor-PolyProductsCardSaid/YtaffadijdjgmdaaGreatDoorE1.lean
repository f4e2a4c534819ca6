/-
  A law of polynomials holds at every input that the statement speaks of, under the conditions that its card names. Part E1.
-/
import Derived.KernelRfl
import Derived.IntWalk
import Derived.Test.YtaffadijdjgmdaaGreatDoorD1
open Nat renaming reduceEqDiff → ad7, reduceAdd → ad8, reduceMul → ad9, reduceLeDiff → aea, reduceBEq → aeb, reduceLT → aec
open Int renaming reduceLT → aed, reduceToNat → aef, reduceEq → akF
namespace Go.Ab
open Go
def au:Env:=⟨fun f=>RH.lookup f,fun f=>ON.lookup f,⟨fun f=>(mdL.lookup f).getD [],fun f=>(shL.lookup f).getD [],fun f=>keepL.contains f,false⟩⟩
def ab (b:Bool):Mode:={ au.md with nm:=b }
noncomputable def R:cT:=cR au
theorem F6 {f:FuncId} {fd:FD} {args:List AV} {hs:List Ob} {r:AV × List Ob} (b:Bool) (hE:au.E f=none) (hC:au.C f=some fd) (hk:au.md.keep f=b) (h1:args.length=fd.np) (h2:hs.length≤1000)
  (hz:rg b fd.rs fd.res hs.length (az R (ab b) fd.body (o6 args) (ae hs))=some r):R f args hs=some r:=by
 refine wM hE hC ?_
 unfold FQ
 rw [if_pos ⟨h1,h2⟩]
 subst hk
 exact hz
@[go_sem] theorem adm (b:Bool):(ab b).nm=b:=_root_.id rfl
theorem an6:au.C F.l23_PolyProducts=some anO:=by kernel_rfl
theorem an7:au.E F.l23_PolyProducts=none:=by kernel_rfl
@[go_sem] theorem aou (b):(ab b).sh F.l23_PolyProducts=[[.o 0 [],.o 5 [.o 2 [],.o 0 [],.o 2 [],.o 0 []]],[.o 0 [],.o 5 [.o 2 [],.o 0 [],.o 2 [],.o 0 []]]]:=_root_.id (by kernel_rfl)
@[go_sem] theorem an8 (b):(ab b).m F.l23_PolyProducts=[]:=_root_.id (by kernel_rfl)
@[go_sem] theorem aom (b h d zas):ai R (ab b) h d zas (.fn F.l23_PolyProducts [] [])=(ah h [] zas).bind (aD R (ab b) d F.l23_PolyProducts):=aj d (an8 b)
@[go_sem] theorem an3 (b):(ab b).keep F.l23_PolyProducts=false:=_root_.id (by kernel_rfl)
@[go_sem] theorem RI (b):(ab b).sh F.l23_awake=[]:=_root_.id (by kernel_rfl)
@[go_sem] theorem H4 (b):(ab b).m F.l23_awake=[]:=_root_.id (by kernel_rfl)
@[go_sem] theorem PC (b h d zas):ai R (ab b) h d zas (.fn F.l23_awake [] [])=(ah h [] zas).bind (aD R (ab b) d F.l23_awake):=aj d (H4 b)
@[go_sem] theorem PD (b):(ab b).keep F.l23_awake=false:=_root_.id (by kernel_rfl)
theorem H5:au.C F.l23_great=some og:=by kernel_rfl
theorem H6:au.E F.l23_great=none:=by kernel_rfl
@[go_sem] theorem RJ (b):(ab b).sh F.l23_great=[[.o 3 [.o 0 [],.o 5 [.o 2 [],.o 0 [],.o 0 [],.o 0 []]]]]:=_root_.id (by kernel_rfl)
@[go_sem] theorem H7 (b):(ab b).m F.l23_great=[]:=_root_.id (by kernel_rfl)
@[go_sem] theorem PF (b h d zas):ai R (ab b) h d zas (.fn F.l23_great [] [])=(ah h [] zas).bind (aD R (ab b) d F.l23_great):=aj d (H7 b)
@[go_sem] theorem B3 (b):(ab b).keep F.l23_great=false:=_root_.id (by kernel_rfl)
theorem aim:au.C F.l23_is=some aeZ:=by kernel_rfl
theorem ain:au.E F.l23_is=none:=by kernel_rfl
@[go_sem] theorem akd (b):(ab b).sh F.l23_is=[[.o 0 [],.o 5 [.o 2 [],.o 0 [],.o 2 [],.o 0 []]],[],[.o 0 [],.o 5 [.o 2 [],.o 0 [],.o 2 [],.o 0 []]],[]]:=_root_.id (by kernel_rfl)
@[go_sem] theorem aio (b):(ab b).m F.l23_is=[]:=_root_.id (by kernel_rfl)
@[go_sem] theorem ajD (b h d zas):ai R (ab b) h d zas (.fn F.l23_is [] [])=(ah h [] zas).bind (aD R (ab b) d F.l23_is):=aj d (aio b)
@[go_sem] theorem agV (b):(ab b).keep F.l23_is=false:=_root_.id (by kernel_rfl)
theorem Kj:au.C F.poly_Mul=some gn:=by kernel_rfl
theorem Kk:au.E F.poly_Mul=none:=by kernel_rfl
@[go_sem] theorem Ia (b):(ab b).sh F.poly_Mul=[[.o 0 [],.o 5 [.o 2 [],.o 0 [],.o 2 [],.o 0 []]],[.o 0 [],.o 5 [.o 2 [],.o 0 [],.o 2 [],.o 0 []]]]:=_root_.id (by kernel_rfl)
@[go_sem] theorem AT (b):(ab b).m F.poly_Mul=[]:=_root_.id (by kernel_rfl)
@[go_sem] theorem DC (b h d zas):ai R (ab b) h d zas (.fn F.poly_Mul [] [])=(ah h [] zas).bind (aD R (ab b) d F.poly_Mul):=aj d (AT b)
@[go_sem] theorem vI (b):(ab b).keep F.poly_Mul=false:=_root_.id (by kernel_rfl)
theorem aov:au.C F.r23_Mul=some anP:=by kernel_rfl
theorem aow:au.E F.r23_Mul=none:=by kernel_rfl
@[go_sem] theorem aoR (b):(ab b).sh F.r23_Mul=[[.o 0 [],.o 5 [.o 2 [],.o 0 [],.o 2 [],.o 0 []]],[.o 0 [],.o 5 [.o 2 [],.o 0 [],.o 2 [],.o 0 []]]]:=_root_.id (by kernel_rfl)
@[go_sem] theorem aox (b):(ab b).m F.r23_Mul=[]:=_root_.id (by kernel_rfl)
@[go_sem] theorem aoP (b h d zas):ai R (ab b) h d zas (.fn F.r23_Mul [] [])=(ah h [] zas).bind (aD R (ab b) d F.r23_Mul):=aj d (aox b)
@[go_sem] theorem aog (b):(ab b).keep F.r23_Mul=false:=_root_.id (by kernel_rfl)
theorem agZ:au.C F.r23_Valid=some adC:=by kernel_rfl
theorem ag0:au.E F.r23_Valid=none:=by kernel_rfl
@[go_sem] theorem ajl (b):(ab b).sh F.r23_Valid=[[.o 0 [],.o 5 [.o 2 [],.o 0 [],.o 2 [],.o 0 []]]]:=_root_.id (by kernel_rfl)
@[go_sem] theorem ag1 (b):(ab b).m F.r23_Valid=[]:=_root_.id (by kernel_rfl)
@[go_sem] theorem aiU (b h d zas):ai R (ab b) h d zas (.fn F.r23_Valid [] [])=(ah h [] zas).bind (aD R (ab b) d F.r23_Valid):=aj d (ag1 b)
@[go_sem] theorem afO (b):(ab b).keep F.r23_Valid=false:=_root_.id (by kernel_rfl)
theorem F7:au.C F.poly_Valid=some eh:=by kernel_rfl
theorem F8:au.E F.poly_Valid=none:=by kernel_rfl
@[go_sem] theorem QQ (b):(ab b).sh F.poly_Valid=[[.o 0 [],.o 5 [.o 2 [],.o 0 [],.o 2 [],.o 0 []]]]:=_root_.id (by kernel_rfl)
@[go_sem] theorem F9 (b):(ab b).m F.poly_Valid=[]:=_root_.id (by kernel_rfl)
@[go_sem] theorem OR (b h d zas):ai R (ab b) h d zas (.fn F.poly_Valid [] [])=(ah h [] zas).bind (aD R (ab b) d F.poly_Valid):=aj d (F9 b)
@[go_sem] theorem AU (b):(ab b).keep F.poly_Valid=false:=_root_.id (by kernel_rfl)
theorem DD:au.C F.poly_Degree=some gu:=by kernel_rfl
theorem DE:au.E F.poly_Degree=none:=by kernel_rfl
@[go_sem] theorem PG (b):(ab b).sh F.poly_Degree=[[.o 0 [],.o 5 [.o 2 [],.o 0 [],.o 2 [],.o 0 []]]]:=_root_.id (by kernel_rfl)
@[go_sem] theorem DF (b):(ab b).m F.poly_Degree=[]:=_root_.id (by kernel_rfl)
@[go_sem] theorem Nt (b h d zas):ai R (ab b) h d zas (.fn F.poly_Degree [] [])=(ah h [] zas).bind (aD R (ab b) d F.poly_Degree):=aj d (DF b)
@[go_sem] theorem yQ (b):(ab b).keep F.poly_Degree=false:=_root_.id (by kernel_rfl)
theorem anC:au.C F.r23_Degree=some amG:=by kernel_rfl
theorem anD:au.E F.r23_Degree=none:=by kernel_rfl
@[go_sem] theorem anL (b):(ab b).sh F.r23_Degree=[[.o 0 [],.o 5 [.o 2 [],.o 0 [],.o 2 [],.o 0 []]]]:=_root_.id (by kernel_rfl)
@[go_sem] theorem anE (b):(ab b).m F.r23_Degree=[]:=_root_.id (by kernel_rfl)
@[go_sem] theorem anJ (b h d zas):ai R (ab b) h d zas (.fn F.r23_Degree [] [])=(ah h [] zas).bind (aD R (ab b) d F.r23_Degree):=aj d (anE b)
@[go_sem] theorem anB (b):(ab b).keep F.r23_Degree=false:=_root_.id (by kernel_rfl)
theorem ahs:au.C F.r23_Same=some aeC:=by kernel_rfl
theorem aht:au.E F.r23_Same=none:=by kernel_rfl
@[go_sem] theorem ajF (b):(ab b).sh F.r23_Same=[[.o 0 [],.o 5 [.o 2 [],.o 0 [],.o 2 [],.o 0 []]],[.o 0 [],.o 5 [.o 2 [],.o 0 [],.o 2 [],.o 0 []]]]:=_root_.id (by kernel_rfl)
@[go_sem] theorem ahu (b):(ab b).m F.r23_Same=[]:=_root_.id (by kernel_rfl)
@[go_sem] theorem ajd (b h d zas):ai R (ab b) h d zas (.fn F.r23_Same [] [])=(ah h [] zas).bind (aD R (ab b) d F.r23_Same):=aj d (ahu b)
@[go_sem] theorem af6 (b):(ab b).keep F.r23_Same=false:=_root_.id (by kernel_rfl)
theorem jV:au.C F.slices_ContainsFunc_api_Poly_api_Poly_=some ct:=by kernel_rfl
theorem jW:au.E F.slices_ContainsFunc_api_Poly_api_Poly_=none:=by kernel_rfl
@[go_sem] theorem tW (b):(ab b).sh F.slices_ContainsFunc_api_Poly_api_Poly_=[[.o 3 [.o 0 [],.o 5 [.o 2 [],.o 0 [],.o 0 [],.o 0 []]]],[]]:=_root_.id (by kernel_rfl)
@[go_sem] theorem jX (b):(ab b).m F.slices_ContainsFunc_api_Poly_api_Poly_=[]:=_root_.id (by kernel_rfl)
@[go_sem] theorem sQ (b h d zas):ai R (ab b) h d zas (.fn F.slices_ContainsFunc_api_Poly_api_Poly_ [] [])=(ah h [] zas).bind (aD R (ab b) d F.slices_ContainsFunc_api_Poly_api_Poly_):=aj d (jX b)
@[go_sem] theorem iR (b):(ab b).keep F.slices_ContainsFunc_api_Poly_api_Poly_=false:=_root_.id (by kernel_rfl)
theorem DG:au.C F.l23_great_1=some gw:=by kernel_rfl
theorem DH:au.E F.l23_great_1=none:=by kernel_rfl
@[go_sem] theorem PH (b):(ab b).sh F.l23_great_1=[[.o 0 [],.o 5 [.o 2 [],.o 0 [],.o 2 [],.o 0 []]]]:=_root_.id (by kernel_rfl)
@[go_sem] theorem vJ (b):(ab b).m F.l23_great_1=[]:=_root_.id (by kernel_rfl)
@[go_sem] theorem Nu (b h d zas):ai R (ab b) h d zas (.fn F.l23_great_1 [] [])=(ah h [] zas).bind (aD R (ab b) d F.l23_great_1):=aj d (vJ b)
@[go_sem] theorem yT (b):(ab b).keep F.l23_great_1=false:=_root_.id (by kernel_rfl)
theorem jY:au.C F.slices_ContainsFunc_api_Term_api_Term_=some cu:=by kernel_rfl
theorem jZ:au.E F.slices_ContainsFunc_api_Term_api_Term_=none:=by kernel_rfl
@[go_sem] theorem tX (b):(ab b).sh F.slices_ContainsFunc_api_Term_api_Term_=[[.o 5 [.o 2 [],.o 0 [],.o 2 [],.o 0 []]],[]]:=_root_.id (by kernel_rfl)
@[go_sem] theorem j1 (b):(ab b).m F.slices_ContainsFunc_api_Term_api_Term_=[]:=_root_.id (by kernel_rfl)
@[go_sem] theorem sR (b h d zas):ai R (ab b) h d zas (.fn F.slices_ContainsFunc_api_Term_api_Term_ [] [])=(ah h [] zas).bind (aD R (ab b) d F.slices_ContainsFunc_api_Term_api_Term_):=aj d (j1 b)
@[go_sem] theorem iS (b):(ab b).keep F.slices_ContainsFunc_api_Term_api_Term_=false:=_root_.id (by kernel_rfl)
theorem AX:au.C F.l23_great_1_1=some gI:=by kernel_rfl
theorem AY:au.E F.l23_great_1_1=none:=by kernel_rfl
@[go_sem] theorem Nv (b):(ab b).sh F.l23_great_1_1=[[.o 2 [],.o 0 [],.o 2 [],.o 0 []]]:=_root_.id (by kernel_rfl)
@[go_sem] theorem si (b):(ab b).m F.l23_great_1_1=[]:=_root_.id (by kernel_rfl)
@[go_sem] theorem Lx (b h d zas):ai R (ab b) h d zas (.fn F.l23_great_1_1 [] [])=(ah h [] zas).bind (aD R (ab b) d F.l23_great_1_1):=aj d (si b)
@[go_sem] theorem wX (b):(ab b).keep F.l23_great_1_1=false:=_root_.id (by kernel_rfl)
theorem Ib:au.C F.poly_pair=some jg:=by kernel_rfl
theorem Ic:au.E F.poly_pair=none:=by kernel_rfl
@[go_sem] theorem RK (b):(ab b).sh F.poly_pair=[[.o 0 [],.o 5 [.o 2 [],.o 0 [],.o 2 [],.o 0 []]],[.o 0 [],.o 5 [.o 2 [],.o 0 [],.o 2 [],.o 0 []]]]:=_root_.id (by kernel_rfl)
@[go_sem] theorem Ie (b):(ab b).m F.poly_pair=[]:=_root_.id (by kernel_rfl)
@[go_sem] theorem PI (b h d zas):ai R (ab b) h d zas (.fn F.poly_pair [] [])=(ah h [] zas).bind (aD R (ab b) d F.poly_pair):=aj d (Ie b)
@[go_sem] theorem B4 (b):(ab b).keep F.poly_pair=false:=_root_.id (by kernel_rfl)
theorem Gd:au.C F.poly_empty=some mR:=by kernel_rfl
theorem Ge:au.E F.poly_empty=none:=by kernel_rfl
@[go_sem] theorem QS (b):(ab b).sh F.poly_empty=[]:=_root_.id (by kernel_rfl)
@[go_sem] theorem Gf (b):(ab b).m F.poly_empty=[]:=_root_.id (by kernel_rfl)
@[go_sem] theorem OT (b h d zas):ai R (ab b) h d zas (.fn F.poly_empty [] [])=(ah h [] zas).bind (aD R (ab b) d F.poly_empty):=aj d (Gf b)
@[go_sem] theorem AZ (b):(ab b).keep F.poly_empty=false:=_root_.id (by kernel_rfl)
theorem gb:au.C F.poly_collector_add=some ck:=by kernel_rfl
theorem ge:au.E F.poly_collector_add=none:=by kernel_rfl
@[go_sem] theorem tw (b):(ab b).sh F.poly_collector_add=[[],[.o 2 []],[.o 0 [],.o 2 [],.o 0 []]]:=_root_.id (by kernel_rfl)
@[go_sem] theorem gg (b):(ab b).m F.poly_collector_add=[]:=_root_.id (by kernel_rfl)
@[go_sem] theorem HF (b h d zas):ai R (ab b) h d zas (.fn F.poly_collector_add [] [])=(ah h [] zas).bind (aD R (ab b) d F.poly_collector_add):=aj d (gg b)
@[go_sem] theorem dt (b):(ab b).keep F.poly_collector_add=false:=_root_.id (by kernel_rfl)
theorem jo:au.C F.poly_collector_done=some bW:=by kernel_rfl
theorem jp:au.E F.poly_collector_done=none:=by kernel_rfl
@[go_sem] theorem sI (b):(ab b).sh F.poly_collector_done=[]:=_root_.id (by kernel_rfl)
@[go_sem] theorem fw (b):(ab b).m F.poly_collector_done=[]:=_root_.id (by kernel_rfl)
@[go_sem] theorem Gg (b h d zas):ai R (ab b) h d zas (.fn F.poly_collector_done [] [])=(ah h [] zas).bind (aD R (ab b) d F.poly_collector_done):=aj d (fw b)
@[go_sem] theorem dY (b):(ab b).keep F.poly_collector_done=false:=_root_.id (by kernel_rfl)
theorem aod:au.C F.r23_Collect=some anX:=by kernel_rfl
theorem aoe:au.E F.r23_Collect=none:=by kernel_rfl
@[go_sem] theorem aoJ (b):(ab b).sh F.r23_Collect=[[.o 5 [.o 2 [],.o 0 [],.o 2 [],.o 0 []]],[.o 2 [],.o 0 [],.o 2 [],.o 0 []]]:=_root_.id (by kernel_rfl)
@[go_sem] theorem aof (b):(ab b).m F.r23_Collect=[]:=_root_.id (by kernel_rfl)
@[go_sem] theorem aoA (b h d zas):ai R (ab b) h d zas (.fn F.r23_Collect [] [])=(ah h [] zas).bind (aD R (ab b) d F.r23_Collect):=aj d (aof b)
@[go_sem] theorem an9 (b):(ab b).keep F.r23_Collect=false:=_root_.id (by kernel_rfl)
theorem aoh:au.C F.r23_finish=some anT:=by kernel_rfl
theorem aoi:au.E F.r23_finish=none:=by kernel_rfl
@[go_sem] theorem aoO (b):(ab b).sh F.r23_finish=[[],[.o 5 [.o 2 [],.o 0 [],.o 2 [],.o 0 []]]]:=_root_.id (by kernel_rfl)
@[go_sem] theorem aoj (b):(ab b).m F.r23_finish=[]:=_root_.id (by kernel_rfl)
@[go_sem] theorem aoI (b h d zas):ai R (ab b) h d zas (.fn F.r23_finish [] [])=(ah h [] zas).bind (aD R (ab b) d F.r23_finish):=aj d (aoj b)
@[go_sem] theorem aob (b):(ab b).keep F.r23_finish=false:=_root_.id (by kernel_rfl)
theorem ahv:au.C F.l23_zero=some aeD:=by kernel_rfl
theorem ahw:au.E F.l23_zero=none:=by kernel_rfl
@[go_sem] theorem ajG (b):(ab b).sh F.l23_zero=[[.o 0 [],.o 5 [.o 2 [],.o 0 [],.o 2 [],.o 0 []]]]:=_root_.id (by kernel_rfl)
@[go_sem] theorem ahx (b):(ab b).m F.l23_zero=[]:=_root_.id (by kernel_rfl)
@[go_sem] theorem aje (b h d zas):ai R (ab b) h d zas (.fn F.l23_zero [] [])=(ah h [] zas).bind (aD R (ab b) d F.l23_zero):=aj d (ahx b)
@[go_sem] theorem af7 (b):(ab b).keep F.l23_zero=false:=_root_.id (by kernel_rfl)
theorem Gk:au.C F.dyadic_Mul=some df:=by kernel_rfl
theorem Gl:au.E F.dyadic_Mul=none:=by kernel_rfl
@[go_sem] theorem QU (b):(ab b).sh F.dyadic_Mul=[[.o 0 [],.o 2 [],.o 0 []],[.o 0 [],.o 2 [],.o 0 []]]:=_root_.id (by kernel_rfl)
@[go_sem] theorem Gm (b):(ab b).m F.dyadic_Mul=[]:=_root_.id (by kernel_rfl)
@[go_sem] theorem OV (b h d zas):ai R (ab b) h d zas (.fn F.dyadic_Mul [] [])=(ah h [] zas).bind (aD R (ab b) d F.dyadic_Mul):=aj d (Gm b)
@[go_sem] theorem A4 (b):(ab b).keep F.dyadic_Mul=false:=_root_.id (by kernel_rfl)
@[go_sem] theorem Gn (b):(ab b).sh F.slices_Clone_int_int_=[[.o 2 []]]:=_root_.id (by kernel_rfl)
@[go_sem] theorem rN (b):(ab b).m F.slices_Clone_int_int_=[]:=_root_.id (by kernel_rfl)
@[go_sem] theorem DI (b h d zas):ai R (ab b) h d zas (.fn F.slices_Clone_int_int_ [] [])=(ah h [] zas).bind (aD R (ab b) d F.slices_Clone_int_int_):=aj d (rN b)
@[go_sem] theorem DJ (b):(ab b).keep F.slices_Clone_int_int_=false:=_root_.id (by kernel_rfl)
theorem ahU:au.C F.r02_Mul=some aeJ:=by kernel_rfl
theorem ahV:au.E F.r02_Mul=none:=by kernel_rfl
@[go_sem] theorem ajL (b):(ab b).sh F.r02_Mul=[[.o 0 [],.o 2 [],.o 0 []],[.o 0 [],.o 2 [],.o 0 []]]:=_root_.id (by kernel_rfl)
@[go_sem] theorem ahW (b):(ab b).m F.r02_Mul=[]:=_root_.id (by kernel_rfl)
@[go_sem] theorem ajm (b h d zas):ai R (ab b) h d zas (.fn F.r02_Mul [] [])=(ah h [] zas).bind (aD R (ab b) d F.r02_Mul):=aj d (ahW b)
@[go_sem] theorem agv (b):(ab b).keep F.r02_Mul=false:=_root_.id (by kernel_rfl)
theorem B5:au.C F.dyadic_Valid=some cM:=by kernel_rfl
theorem B6:au.E F.dyadic_Valid=none:=by kernel_rfl
@[go_sem] theorem OW (b):(ab b).sh F.dyadic_Valid=[[.o 0 [],.o 2 [],.o 0 []]]:=_root_.id (by kernel_rfl)
@[go_sem] theorem B7 (b):(ab b).m F.dyadic_Valid=[]:=_root_.id (by kernel_rfl)
@[go_sem] theorem ME (b h d zas):ai R (ab b) h d zas (.fn F.dyadic_Valid [] [])=(ah h [] zas).bind (aD R (ab b) d F.dyadic_Valid):=aj d (B7 b)
@[go_sem] theorem x8 (b):(ab b).keep F.dyadic_Valid=false:=_root_.id (by kernel_rfl)
theorem ag2:au.C F.r02_Valid=some adk:=by kernel_rfl
theorem ag3:au.E F.r02_Valid=none:=by kernel_rfl
@[go_sem] theorem ajn (b):(ab b).sh F.r02_Valid=[[.o 0 [],.o 2 [],.o 0 []]]:=_root_.id (by kernel_rfl)
@[go_sem] theorem ag4 (b):(ab b).m F.r02_Valid=[]:=_root_.id (by kernel_rfl)
@[go_sem] theorem aiV (b h d zas):ai R (ab b) h d zas (.fn F.r02_Valid [] [])=(ah h [] zas).bind (aD R (ab b) d F.r02_Valid):=aj d (ag4 b)
@[go_sem] theorem afP (b):(ab b).keep F.r02_Valid=false:=_root_.id (by kernel_rfl)
theorem Gp:au.C F.dyadic_Add=some ia:=by kernel_rfl
theorem Gq:au.E F.dyadic_Add=none:=by kernel_rfl
@[go_sem] theorem QV (b):(ab b).sh F.dyadic_Add=[[.o 0 [],.o 2 [],.o 0 []],[.o 0 [],.o 2 [],.o 0 []]]:=_root_.id (by kernel_rfl)
@[go_sem] theorem Gr (b):(ab b).m F.dyadic_Add=[]:=_root_.id (by kernel_rfl)
@[go_sem] theorem OX (b h d zas):ai R (ab b) h d zas (.fn F.dyadic_Add [] [])=(ah h [] zas).bind (aD R (ab b) d F.dyadic_Add):=aj d (Gr b)
@[go_sem] theorem A5 (b):(ab b).keep F.dyadic_Add=false:=_root_.id (by kernel_rfl)
theorem amd:au.C F.r02_Add=some akC:=by kernel_rfl
theorem ame:au.E F.r02_Add=none:=by kernel_rfl
@[go_sem] theorem ang (b):(ab b).sh F.r02_Add=[[.o 0 [],.o 2 [],.o 0 []],[.o 0 [],.o 2 [],.o 0 []]]:=_root_.id (by kernel_rfl)
@[go_sem] theorem amf (b):(ab b).m F.r02_Add=[]:=_root_.id (by kernel_rfl)
@[go_sem] theorem amY (b h d zas):ai R (ab b) h d zas (.fn F.r02_Add [] [])=(ah h [] zas).bind (aD R (ab b) d F.r02_Add):=aj d (amf b)
@[go_sem] theorem alJ (b):(ab b).keep F.r02_Add=false:=_root_.id (by kernel_rfl)
theorem ahy:au.C F.r23_term=some adH:=by kernel_rfl
theorem ahz:au.E F.r23_term=none:=by kernel_rfl
@[go_sem] theorem ajH (b):(ab b).sh F.r23_term=[[],[.o 2 [],.o 0 [],.o 2 [],.o 0 []]]:=_root_.id (by kernel_rfl)
@[go_sem] theorem ahA (b):(ab b).m F.r23_term=[]:=_root_.id (by kernel_rfl)
@[go_sem] theorem ajg (b h d zas):ai R (ab b) h d zas (.fn F.r23_term [] [])=(ah h [] zas).bind (aD R (ab b) d F.r23_term):=aj d (ahA b)
@[go_sem] theorem af9 (b):(ab b).keep F.r23_term=false:=_root_.id (by kernel_rfl)
theorem aga:au.C F.r23_Compare=some adA:=by kernel_rfl
theorem agb:au.E F.r23_Compare=none:=by kernel_rfl
@[go_sem] theorem aiW (b):(ab b).sh F.r23_Compare=[[.o 2 []],[.o 2 []]]:=_root_.id (by kernel_rfl)
@[go_sem] theorem agc (b):(ab b).m F.r23_Compare=[]:=_root_.id (by kernel_rfl)
@[go_sem] theorem aiq (b h d zas):ai R (ab b) h d zas (.fn F.r23_Compare [] [])=(ah h [] zas).bind (aD R (ab b) d F.r23_Compare):=aj d (agc b)
@[go_sem] theorem afA (b):(ab b).keep F.r23_Compare=false:=_root_.id (by kernel_rfl)
theorem oF:au.C F.slices_ContainsFunc_int_int_=some dS:=by kernel_rfl
theorem oG:au.E F.slices_ContainsFunc_int_int_=none:=by kernel_rfl
@[go_sem] theorem Ae (b):(ab b).sh F.slices_ContainsFunc_int_int_=[[.o 2 []],[]]:=_root_.id (by kernel_rfl)
@[go_sem] theorem oH (b):(ab b).m F.slices_ContainsFunc_int_int_=[]:=_root_.id (by kernel_rfl)
@[go_sem] theorem yE (b h d zas):ai R (ab b) h d zas (.fn F.slices_ContainsFunc_int_int_ [] [])=(ah h [] zas).bind (aD R (ab b) d F.slices_ContainsFunc_int_int_):=aj d (oH b)
@[go_sem] theorem mJ (b):(ab b).keep F.slices_ContainsFunc_int_int_=false:=_root_.id (by kernel_rfl)
theorem B8:au.C F.poly_Valid_1=some ir:=by kernel_rfl
theorem B9:au.E F.poly_Valid_1=none:=by kernel_rfl
@[go_sem] theorem OY (b):(ab b).sh F.poly_Valid_1=[]:=_root_.id (by kernel_rfl)
@[go_sem] theorem tC (b):(ab b).m F.poly_Valid_1=[]:=_root_.id (by kernel_rfl)
@[go_sem] theorem MF (b h d zas):ai R (ab b) h d zas (.fn F.poly_Valid_1 [] [])=(ah h [] zas).bind (aD R (ab b) d F.poly_Valid_1):=aj d (tC b)
@[go_sem] theorem x9 (b):(ab b).keep F.poly_Valid_1=false:=_root_.id (by kernel_rfl)
theorem DK:au.C F.poly_degree=some lQ:=by kernel_rfl
theorem DL:au.E F.poly_degree=none:=by kernel_rfl
@[go_sem] theorem PJ (b):(ab b).sh F.poly_degree=[[.o 2 []]]:=_root_.id (by kernel_rfl)
@[go_sem] theorem DM (b):(ab b).m F.poly_degree=[]:=_root_.id (by kernel_rfl)
@[go_sem] theorem Nw (b h d zas):ai R (ab b) h d zas (.fn F.poly_degree [] [])=(ah h [] zas).bind (aD R (ab b) d F.poly_degree):=aj d (DM b)
@[go_sem] theorem yU (b):(ab b).keep F.poly_degree=false:=_root_.id (by kernel_rfl)
theorem Gs:au.C F.poly_order=some kq:=by kernel_rfl
theorem Gt:au.E F.poly_order=none:=by kernel_rfl
@[go_sem] theorem QW (b):(ab b).sh F.poly_order=[[.o 2 []],[.o 2 []]]:=_root_.id (by kernel_rfl)
@[go_sem] theorem Gu (b):(ab b).m F.poly_order=[]:=_root_.id (by kernel_rfl)
@[go_sem] theorem OZ (b h d zas):ai R (ab b) h d zas (.fn F.poly_order [] [])=(ah h [] zas).bind (aD R (ab b) d F.poly_order):=aj d (Gu b)
@[go_sem] theorem A6 (b):(ab b).keep F.poly_order=false:=_root_.id (by kernel_rfl)
theorem ah0:au.C F.r23_sum=some ae6:=by kernel_rfl
theorem ah1:au.E F.r23_sum=none:=by kernel_rfl
@[go_sem] theorem ajN (b):(ab b).sh F.r23_sum=[[.o 2 []]]:=_root_.id (by kernel_rfl)
@[go_sem] theorem ah2 (b):(ab b).m F.r23_sum=[]:=_root_.id (by kernel_rfl)
@[go_sem] theorem ajp (b h d zas):ai R (ab b) h d zas (.fn F.r23_sum [] [])=(ah h [] zas).bind (aD R (ab b) d F.r23_sum):=aj d (ah2 b)
@[go_sem] theorem agC (b):(ab b).keep F.r23_sum=false:=_root_.id (by kernel_rfl)
theorem agD:au.C F.r23_number=some adG:=by kernel_rfl
theorem agE:au.E F.r23_number=none:=by kernel_rfl
@[go_sem] theorem ajh (b):(ab b).sh F.r23_number=[[.o 0 [],.o 2 [],.o 0 []],[.o 0 [],.o 2 [],.o 0 []]]:=_root_.id (by kernel_rfl)
@[go_sem] theorem agF (b):(ab b).m F.r23_number=[]:=_root_.id (by kernel_rfl)
@[go_sem] theorem aiP (b h d zas):ai R (ab b) h d zas (.fn F.r23_number [] [])=(ah h [] zas).bind (aD R (ab b) d F.r23_number):=aj d (agF b)
@[go_sem] theorem afL (b):(ab b).keep F.r23_number=false:=_root_.id (by kernel_rfl)
theorem kV:au.C F.slices_IndexFunc_api_Poly_api_Poly_=some cJ:=by kernel_rfl
theorem kW:au.E F.slices_IndexFunc_api_Poly_api_Poly_=none:=by kernel_rfl
@[go_sem] theorem kE (b):(ab b).sh F.slices_IndexFunc_api_Poly_api_Poly_=[[.o 3 [.o 0 [],.o 5 [.o 2 [],.o 0 [],.o 0 [],.o 0 []]]],[]]:=_root_.id (by kernel_rfl)
@[go_sem] theorem eW (b):(ab b).m F.slices_IndexFunc_api_Poly_api_Poly_=[]:=_root_.id (by kernel_rfl)
@[go_sem] theorem uN (b h d zas):ai R (ab b) h d zas (.fn F.slices_IndexFunc_api_Poly_api_Poly_ [] [])=(ah h [] zas).bind (aD R (ab b) d F.slices_IndexFunc_api_Poly_api_Poly_):=aj d (eW b)
@[go_sem] theorem j3 (b):(ab b).keep F.slices_IndexFunc_api_Poly_api_Poly_=false:=_root_.id (by kernel_rfl)
theorem kX:au.C F.slices_IndexFunc_api_Term_api_Term_=some cK:=by kernel_rfl
theorem kY:au.E F.slices_IndexFunc_api_Term_api_Term_=none:=by kernel_rfl
@[go_sem] theorem kF (b):(ab b).sh F.slices_IndexFunc_api_Term_api_Term_=[[.o 5 [.o 2 [],.o 0 [],.o 2 [],.o 0 []]],[]]:=_root_.id (by kernel_rfl)
@[go_sem] theorem eX (b):(ab b).m F.slices_IndexFunc_api_Term_api_Term_=[]:=_root_.id (by kernel_rfl)
@[go_sem] theorem uO (b h d zas):ai R (ab b) h d zas (.fn F.slices_IndexFunc_api_Term_api_Term_ [] [])=(ah h [] zas).bind (aD R (ab b) d F.slices_IndexFunc_api_Term_api_Term_):=aj d (eX b)
@[go_sem] theorem j5 (b):(ab b).keep F.slices_IndexFunc_api_Term_api_Term_=false:=_root_.id (by kernel_rfl)
theorem gA:au.C F.slices_BinarySearchFunc_api_Term_api_Term_Sint_=some be:=by kernel_rfl
theorem gB:au.E F.slices_BinarySearchFunc_api_Term_api_Term_Sint_=none:=by kernel_rfl
@[go_sem] theorem cO (b):(ab b).sh F.slices_BinarySearchFunc_api_Term_api_Term_Sint_=[[.o 5 [.o 2 [],.o 0 [],.o 2 [],.o 0 []]],[.o 2 []],[]]:=_root_.id (by kernel_rfl)
@[go_sem] theorem cW (b):(ab b).m F.slices_BinarySearchFunc_api_Term_api_Term_Sint_=[3,0,0]:=_root_.id (by kernel_rfl)
@[go_sem] theorem cG (b):(ab b).keep F.slices_BinarySearchFunc_api_Term_api_Term_Sint_=false:=_root_.id (by kernel_rfl)
theorem sJ:au.C F.poly_collector_add_1=some ez:=by kernel_rfl
theorem sK:au.E F.poly_collector_add_1=none:=by kernel_rfl
@[go_sem] theorem HG (b):(ab b).sh F.poly_collector_add_1=[[.o 2 [],.o 0 [],.o 2 [],.o 0 []],[.o 2 []]]:=_root_.id (by kernel_rfl)
@[go_sem] theorem sL (b):(ab b).m F.poly_collector_add_1=[]:=_root_.id (by kernel_rfl)
@[go_sem] theorem EL (b h d zas):ai R (ab b) h d zas (.fn F.poly_collector_add_1 [] [])=(ah h [] zas).bind (aD R (ab b) d F.poly_collector_add_1):=aj d (sL b)
@[go_sem] theorem qI (b):(ab b).keep F.poly_collector_add_1=false:=_root_.id (by kernel_rfl)
@[go_sem] theorem fy (b):(ab b).sh F.slices_Insert_api_Term_api_Term_=[[],[],[.o 5 [.o 2 [],.o 0 [],.o 2 [],.o 0 []]]]:=_root_.id (by kernel_rfl)
@[go_sem] theorem fP (b):(ab b).m F.slices_Insert_api_Term_api_Term_=[2,0,0]:=_root_.id (by kernel_rfl)
@[go_sem] theorem eY (b):(ab b).keep F.slices_Insert_api_Term_api_Term_=false:=_root_.id (by kernel_rfl)
theorem DO:au.C F.poly_copied=some lR:=by kernel_rfl
theorem DP:au.E F.poly_copied=none:=by kernel_rfl
@[go_sem] theorem PK (b):(ab b).sh F.poly_copied=[[.o 0 [],.o 2 [],.o 0 []]]:=_root_.id (by kernel_rfl)
@[go_sem] theorem DQ (b):(ab b).m F.poly_copied=[]:=_root_.id (by kernel_rfl)
@[go_sem] theorem Nx (b h d zas):ai R (ab b) h d zas (.fn F.poly_copied [] [])=(ah h [] zas).bind (aD R (ab b) d F.poly_copied):=aj d (DQ b)
@[go_sem] theorem yV (b):(ab b).keep F.poly_copied=false:=_root_.id (by kernel_rfl)
theorem mw:au.C F.slices_Delete_api_Term_api_Term_=some bZ:=by kernel_rfl
theorem my:au.E F.slices_Delete_api_Term_api_Term_=none:=by kernel_rfl
@[go_sem] theorem l4 (b):(ab b).sh F.slices_Delete_api_Term_api_Term_=[]:=_root_.id (by kernel_rfl)
@[go_sem] theorem mz (b):(ab b).m F.slices_Delete_api_Term_api_Term_=[2,0,0]:=_root_.id (by kernel_rfl)
@[go_sem] theorem eZ (b):(ab b).keep F.slices_Delete_api_Term_api_Term_=false:=_root_.id (by kernel_rfl)
theorem oT:au.C F.slices_Clone_uint32_uint32_=some cN:=by kernel_rfl
theorem oU:au.E F.slices_Clone_uint32_uint32_=none:=by kernel_rfl
@[go_sem] theorem A8 (b):(ab b).sh F.slices_Clone_uint32_uint32_=[[.o 2 []]]:=_root_.id (by kernel_rfl)
@[go_sem] theorem oV (b):(ab b).m F.slices_Clone_uint32_uint32_=[]:=_root_.id (by kernel_rfl)
@[go_sem] theorem yW (b h d zas):ai R (ab b) h d zas (.fn F.slices_Clone_uint32_uint32_ [] [])=(ah h [] zas).bind (aD R (ab b) d F.slices_Clone_uint32_uint32_):=aj d (oV b)
@[go_sem] theorem ng (b):(ab b).keep F.slices_Clone_uint32_uint32_=false:=_root_.id (by kernel_rfl)
theorem DR:au.C F.dyadic_size=some lS:=by kernel_rfl
theorem DS:au.E F.dyadic_size=none:=by kernel_rfl
@[go_sem] theorem PL (b):(ab b).sh F.dyadic_size=[[.o 2 []]]:=_root_.id (by kernel_rfl)
@[go_sem] theorem DT (b):(ab b).m F.dyadic_size=[]:=_root_.id (by kernel_rfl)
@[go_sem] theorem Ny (b h d zas):ai R (ab b) h d zas (.fn F.dyadic_size [] [])=(ah h [] zas).bind (aD R (ab b) d F.dyadic_size):=aj d (DT b)
@[go_sem] theorem yX (b):(ab b).keep F.dyadic_size=false:=_root_.id (by kernel_rfl)
theorem DU:au.C F.natural_Mul=some jh:=by kernel_rfl
theorem DV:au.E F.natural_Mul=none:=by kernel_rfl
@[go_sem] theorem PM (b):(ab b).sh F.natural_Mul=[[.o 2 []],[.o 2 []]]:=_root_.id (by kernel_rfl)
@[go_sem] theorem DW (b):(ab b).m F.natural_Mul=[]:=_root_.id (by kernel_rfl)
@[go_sem] theorem Nz (b h d zas):ai R (ab b) h d zas (.fn F.natural_Mul [] [])=(ah h [] zas).bind (aD R (ab b) d F.natural_Mul):=aj d (DW b)
@[go_sem] theorem yY (b):(ab b).keep F.natural_Mul=false:=_root_.id (by kernel_rfl)
theorem y5:au.C F.dyadic_checked=some fM:=by kernel_rfl
theorem y6:au.E F.dyadic_checked=none:=by kernel_rfl
@[go_sem] theorem MH (b):(ab b).sh F.dyadic_checked=[[.o 0 [],.o 2 [],.o 0 []]]:=_root_.id (by kernel_rfl)
@[go_sem] theorem y7 (b):(ab b).m F.dyadic_checked=[]:=_root_.id (by kernel_rfl)
@[go_sem] theorem KF (b h d zas):ai R (ab b) h d zas (.fn F.dyadic_checked [] [])=(ah h [] zas).bind (aD R (ab b) d F.dyadic_checked):=aj d (y7 b)
@[go_sem] theorem vQ (b):(ab b).keep F.dyadic_checked=false:=_root_.id (by kernel_rfl)
theorem wY:au.C F.dyadic_canonical=some eA:=by kernel_rfl
theorem wZ:au.E F.dyadic_canonical=none:=by kernel_rfl
@[go_sem] theorem KG (b):(ab b).sh F.dyadic_canonical=[[],[.o 2 []],[]]:=_root_.id (by kernel_rfl)
@[go_sem] theorem w7 (b):(ab b).m F.dyadic_canonical=[]:=_root_.id (by kernel_rfl)
@[go_sem] theorem IC (b h d zas):ai R (ab b) h d zas (.fn F.dyadic_canonical [] [])=(ah h [] zas).bind (aD R (ab b) d F.dyadic_canonical):=aj d (w7 b)
@[go_sem] theorem tD (b):(ab b).keep F.dyadic_canonical=false:=_root_.id (by kernel_rfl)
theorem agd:au.C F.r02_Checked=some aeq:=by kernel_rfl
theorem age:au.E F.r02_Checked=none:=by kernel_rfl
@[go_sem] theorem aiX (b):(ab b).sh F.r02_Checked=[[.o 0 [],.o 2 [],.o 0 []]]:=_root_.id (by kernel_rfl)
@[go_sem] theorem agf (b):(ab b).m F.r02_Checked=[]:=_root_.id (by kernel_rfl)
@[go_sem] theorem air (b h d zas):ai R (ab b) h d zas (.fn F.r02_Checked [] [])=(ah h [] zas).bind (aD R (ab b) d F.r02_Checked):=aj d (agf b)
@[go_sem] theorem afB (b):(ab b).keep F.r02_Checked=false:=_root_.id (by kernel_rfl)
theorem agh:au.C F.r02_Product=some aeL:=by kernel_rfl
theorem agi:au.E F.r02_Product=none:=by kernel_rfl
@[go_sem] theorem aiY (b):(ab b).sh F.r02_Product=[[.o 0 [],.o 2 [],.o 0 []],[.o 0 [],.o 2 [],.o 0 []]]:=_root_.id (by kernel_rfl)
@[go_sem] theorem agj (b):(ab b).m F.r02_Product=[]:=_root_.id (by kernel_rfl)
@[go_sem] theorem ais (b h d zas):ai R (ab b) h d zas (.fn F.r02_Product [] [])=(ah h [] zas).bind (aD R (ab b) d F.r02_Product):=aj d (agj b)
@[go_sem] theorem afC (b):(ab b).keep F.r02_Product=false:=_root_.id (by kernel_rfl)
theorem y8:au.C F.dyadic_inRange=some cI:=by kernel_rfl
theorem y9:au.E F.dyadic_inRange=none:=by kernel_rfl
@[go_sem] theorem MI (b):(ab b).sh F.dyadic_inRange=[[.o 0 [],.o 2 [],.o 0 []]]:=_root_.id (by kernel_rfl)
@[go_sem] theorem zd (b):(ab b).m F.dyadic_inRange=[]:=_root_.id (by kernel_rfl)
@[go_sem] theorem KH (b h d zas):ai R (ab b) h d zas (.fn F.dyadic_inRange [] [])=(ah h [] zas).bind (aD R (ab b) d F.dyadic_inRange):=aj d (zd b)
@[go_sem] theorem vR (b):(ab b).keep F.dyadic_inRange=false:=_root_.id (by kernel_rfl)
theorem ahB:au.C F.r02_bits=some aeP:=by kernel_rfl
theorem ahC:au.E F.r02_bits=none:=by kernel_rfl
@[go_sem] theorem ajI (b):(ab b).sh F.r02_bits=[[.o 2 []]]:=_root_.id (by kernel_rfl)
@[go_sem] theorem ahD (b):(ab b).m F.r02_bits=[]:=_root_.id (by kernel_rfl)
@[go_sem] theorem aji (b h d zas):ai R (ab b) h d zas (.fn F.r02_bits [] [])=(ah h [] zas).bind (aD R (ab b) d F.r02_bits):=aj d (ahD b)
@[go_sem] theorem agk (b):(ab b).keep F.r02_bits=false:=_root_.id (by kernel_rfl)
theorem ait:au.C F.r02_Of=some ae0:=by kernel_rfl
theorem aiu:au.E F.r02_Of=none:=by kernel_rfl
@[go_sem] theorem ake (b):(ab b).sh F.r02_Of=[[],[.o 2 []],[]]:=_root_.id (by kernel_rfl)
@[go_sem] theorem aiv (b):(ab b).m F.r02_Of=[]:=_root_.id (by kernel_rfl)
@[go_sem] theorem ajJ (b h d zas):ai R (ab b) h d zas (.fn F.r02_Of [] [])=(ah h [] zas).bind (aD R (ab b) d F.r02_Of):=aj d (aiv b)
@[go_sem] theorem ag5 (b):(ab b).keep F.r02_Of=false:=_root_.id (by kernel_rfl)
theorem Gz:au.C F.dyadic_sum=some dF:=by kernel_rfl
theorem GA:au.E F.dyadic_sum=none:=by kernel_rfl
@[go_sem] theorem QY (b):(ab b).sh F.dyadic_sum=[[.o 0 [],.o 2 [],.o 0 []],[.o 0 [],.o 2 [],.o 0 []]]:=_root_.id (by kernel_rfl)
@[go_sem] theorem GB (b):(ab b).m F.dyadic_sum=[]:=_root_.id (by kernel_rfl)
@[go_sem] theorem O2 (b h d zas):ai R (ab b) h d zas (.fn F.dyadic_sum [] [])=(ah h [] zas).bind (aD R (ab b) d F.dyadic_sum):=aj d (GB b)
@[go_sem] theorem A9 (b):(ab b).keep F.dyadic_sum=false:=_root_.id (by kernel_rfl)
theorem amg:au.C F.r02_Sum=some akt:=by kernel_rfl
theorem amh:au.E F.r02_Sum=none:=by kernel_rfl
@[go_sem] theorem anh (b):(ab b).sh F.r02_Sum=[[.o 0 [],.o 2 [],.o 0 []],[.o 0 [],.o 2 [],.o 0 []]]:=_root_.id (by kernel_rfl)
@[go_sem] theorem ami (b):(ab b).m F.r02_Sum=[]:=_root_.id (by kernel_rfl)
@[go_sem] theorem amZ (b h d zas):ai R (ab b) h d zas (.fn F.r02_Sum [] [])=(ah h [] zas).bind (aD R (ab b) d F.r02_Sum):=aj d (ami b)
@[go_sem] theorem alK (b):(ab b).keep F.r02_Sum=false:=_root_.id (by kernel_rfl)
theorem qf:au.C F.slices_IndexFunc_int_int_=some eK:=by kernel_rfl
theorem qg:au.E F.slices_IndexFunc_int_int_=none:=by kernel_rfl
@[go_sem] theorem pu (b):(ab b).sh F.slices_IndexFunc_int_int_=[[.o 2 []],[]]:=_root_.id (by kernel_rfl)
@[go_sem] theorem jv (b):(ab b).m F.slices_IndexFunc_int_int_=[]:=_root_.id (by kernel_rfl)
@[go_sem] theorem Ba (b h d zas):ai R (ab b) h d zas (.fn F.slices_IndexFunc_int_int_ [] [])=(ah h [] zas).bind (aD R (ab b) d F.slices_IndexFunc_int_int_):=aj d (jv b)
@[go_sem] theorem oI (b):(ab b).keep F.slices_IndexFunc_int_int_=false:=_root_.id (by kernel_rfl)
theorem w9:au.C F.cmp_Compare_int_=some dx:=by kernel_rfl
theorem xc:au.E F.cmp_Compare_int_=none:=by kernel_rfl
@[go_sem] theorem KI (b):(ab b).sh F.cmp_Compare_int_=[]:=_root_.id (by kernel_rfl)
@[go_sem] theorem xd (b):(ab b).m F.cmp_Compare_int_=[]:=_root_.id (by kernel_rfl)
@[go_sem] theorem ID (b h d zas):ai R (ab b) h d zas (.fn F.cmp_Compare_int_ [] [])=(ah h [] zas).bind (aD R (ab b) d F.cmp_Compare_int_):=aj d (xd b)
@[go_sem] theorem tE (b):(ab b).keep F.cmp_Compare_int_=false:=_root_.id (by kernel_rfl)
theorem qJ:au.C F.slices_Compare_int_int_=some cE:=by kernel_rfl
theorem qK:au.E F.slices_Compare_int_int_=none:=by kernel_rfl
@[go_sem] theorem DX (b):(ab b).sh F.slices_Compare_int_int_=[[.o 2 []],[.o 2 []]]:=_root_.id (by kernel_rfl)
@[go_sem] theorem qL (b):(ab b).m F.slices_Compare_int_int_=[]:=_root_.id (by kernel_rfl)
@[go_sem] theorem Cd (b h d zas):ai R (ab b) h d zas (.fn F.slices_Compare_int_int_ [] [])=(ah h [] zas).bind (aD R (ab b) d F.slices_Compare_int_int_):=aj d (qL b)
@[go_sem] theorem pv (b):(ab b).keep F.slices_Compare_int_int_=false:=_root_.id (by kernel_rfl)
theorem Ce:au.C F.natural_Bits=some iw:=by kernel_rfl
theorem Cf:au.E F.natural_Bits=none:=by kernel_rfl
@[go_sem] theorem O3 (b):(ab b).sh F.natural_Bits=[[.o 2 []]]:=_root_.id (by kernel_rfl)
@[go_sem] theorem Cg (b):(ab b).m F.natural_Bits=[]:=_root_.id (by kernel_rfl)
@[go_sem] theorem MK (b h d zas):ai R (ab b) h d zas (.fn F.natural_Bits [] [])=(ah h [] zas).bind (aD R (ab b) d F.natural_Bits):=aj d (Cg b)
@[go_sem] theorem yb (b):(ab b).keep F.natural_Bits=false:=_root_.id (by kernel_rfl)
theorem Ch:au.C F.natural_long=some kO:=by kernel_rfl
theorem Ci:au.E F.natural_long=none:=by kernel_rfl
@[go_sem] theorem O4 (b):(ab b).sh F.natural_long=[[.o 2 [.o 2 []]]]:=_root_.id (by kernel_rfl)
@[go_sem] theorem Cj (b):(ab b).m F.natural_long=[]:=_root_.id (by kernel_rfl)
@[go_sem] theorem ML (b h d zas):ai R (ab b) h d zas (.fn F.natural_long [] [])=(ah h [] zas).bind (aD R (ab b) d F.natural_long):=aj d (Cj b)
@[go_sem] theorem yc (b):(ab b).keep F.natural_long=false:=_root_.id (by kernel_rfl)
theorem Ck:au.C F.natural_done=some ix:=by kernel_rfl
theorem Cm:au.E F.natural_done=none:=by kernel_rfl
@[go_sem] theorem O5 (b):(ab b).sh F.natural_done=[[.o 2 []]]:=_root_.id (by kernel_rfl)
@[go_sem] theorem Cn (b):(ab b).m F.natural_done=[]:=_root_.id (by kernel_rfl)
@[go_sem] theorem MM (b h d zas):ai R (ab b) h d zas (.fn F.natural_done [] [])=(ah h [] zas).bind (aD R (ab b) d F.natural_done):=aj d (Cn b)
@[go_sem] theorem yd (b):(ab b).keep F.natural_done=false:=_root_.id (by kernel_rfl)
theorem D3:au.C F.natural_mul=some lT:=by kernel_rfl
theorem D4:au.E F.natural_mul=none:=by kernel_rfl
@[go_sem] theorem PO (b):(ab b).sh F.natural_mul=[[.o 2 []],[.o 2 []]]:=_root_.id (by kernel_rfl)
@[go_sem] theorem D5 (b):(ab b).m F.natural_mul=[]:=_root_.id (by kernel_rfl)
@[go_sem] theorem NB (b h d zas):ai R (ab b) h d zas (.fn F.natural_mul [] [])=(ah h [] zas).bind (aD R (ab b) d F.natural_mul):=aj d (D5 b)
@[go_sem] theorem zj (b):(ab b).keep F.natural_mul=false:=_root_.id (by kernel_rfl)
theorem Co:au.C F.natural_trim=some kP:=by kernel_rfl
theorem Cp:au.E F.natural_trim=none:=by kernel_rfl
@[go_sem] theorem O6 (b):(ab b).sh F.natural_trim=[[.o 2 []]]:=_root_.id (by kernel_rfl)
@[go_sem] theorem Cq (b):(ab b).m F.natural_trim=[]:=_root_.id (by kernel_rfl)
@[go_sem] theorem MN (b h d zas):ai R (ab b) h d zas (.fn F.natural_trim [] [])=(ah h [] zas).bind (aD R (ab b) d F.natural_trim):=aj d (Cq b)
@[go_sem] theorem ye (b):(ab b).keep F.natural_trim=false:=_root_.id (by kernel_rfl)
theorem zk:au.C F.dyadic_trimmed=some iV:=by kernel_rfl
theorem zm:au.E F.dyadic_trimmed=none:=by kernel_rfl
@[go_sem] theorem MO (b):(ab b).sh F.dyadic_trimmed=[[.o 2 []]]:=_root_.id (by kernel_rfl)
@[go_sem] theorem zo (b):(ab b).m F.dyadic_trimmed=[]:=_root_.id (by kernel_rfl)
@[go_sem] theorem KL (b h d zas):ai R (ab b) h d zas (.fn F.dyadic_trimmed [] [])=(ah h [] zas).bind (aD R (ab b) d F.dyadic_trimmed):=aj d (zo b)
@[go_sem] theorem vT (b):(ab b).keep F.dyadic_trimmed=false:=_root_.id (by kernel_rfl)
theorem GC:au.C F.dyadic_low=some mS:=by kernel_rfl
theorem GD:au.E F.dyadic_low=none:=by kernel_rfl
@[go_sem] theorem QZ (b):(ab b).sh F.dyadic_low=[[.o 2 []]]:=_root_.id (by kernel_rfl)
@[go_sem] theorem GE (b):(ab b).m F.dyadic_low=[]:=_root_.id (by kernel_rfl)
@[go_sem] theorem O7 (b h d zas):ai R (ab b) h d zas (.fn F.dyadic_low [] [])=(ah h [] zas).bind (aD R (ab b) d F.dyadic_low):=aj d (GE b)
@[go_sem] theorem Bb (b):(ab b).keep F.dyadic_low=false:=_root_.id (by kernel_rfl)
theorem D6:au.C F.natural_Shr=some gx:=by kernel_rfl
theorem D7:au.E F.natural_Shr=none:=by kernel_rfl
@[go_sem] theorem PP (b):(ab b).sh F.natural_Shr=[[.o 2 []],[]]:=_root_.id (by kernel_rfl)
@[go_sem] theorem D8 (b):(ab b).m F.natural_Shr=[]:=_root_.id (by kernel_rfl)
@[go_sem] theorem NC (b h d zas):ai R (ab b) h d zas (.fn F.natural_Shr [] [])=(ah h [] zas).bind (aD R (ab b) d F.natural_Shr):=aj d (D8 b)
@[go_sem] theorem zp (b):(ab b).keep F.natural_Shr=false:=_root_.id (by kernel_rfl)
theorem px:au.C F.slices_Clip_uint32_uint32_=some cX:=by kernel_rfl
theorem py:au.E F.slices_Clip_uint32_uint32_=none:=by kernel_rfl
@[go_sem] theorem BC (b):(ab b).sh F.slices_Clip_uint32_uint32_=[[.o 2 []]]:=_root_.id (by kernel_rfl)
@[go_sem] theorem pz (b):(ab b).m F.slices_Clip_uint32_uint32_=[]:=_root_.id (by kernel_rfl)
@[go_sem] theorem Af (b h d zas):ai R (ab b) h d zas (.fn F.slices_Clip_uint32_uint32_ [] [])=(ah h [] zas).bind (aD R (ab b) d F.slices_Clip_uint32_uint32_):=aj d (pz b)
@[go_sem] theorem nR (b):(ab b).keep F.slices_Clip_uint32_uint32_=false:=_root_.id (by kernel_rfl)
theorem ag6:au.C F.r02_times=some aeU:=by kernel_rfl
theorem ag7:au.E F.r02_times=none:=by kernel_rfl
@[go_sem] theorem ajq (b):(ab b).sh F.r02_times=[[.o 2 []],[.o 2 []]]:=_root_.id (by kernel_rfl)
@[go_sem] theorem ag8 (b):(ab b).m F.r02_times=[]:=_root_.id (by kernel_rfl)
@[go_sem] theorem aiZ (b h d zas):ai R (ab b) h d zas (.fn F.r02_times [] [])=(ah h [] zas).bind (aD R (ab b) d F.r02_times):=aj d (ag8 b)
@[go_sem] theorem afQ (b):(ab b).keep F.r02_times=false:=_root_.id (by kernel_rfl)
theorem ahE:au.C F.r02_trim=some aeY:=by kernel_rfl
theorem ahF:au.E F.r02_trim=none:=by kernel_rfl
@[go_sem] theorem ajK (b):(ab b).sh F.r02_trim=[[.o 2 []]]:=_root_.id (by kernel_rfl)
@[go_sem] theorem ahG (b):(ab b).m F.r02_trim=[]:=_root_.id (by kernel_rfl)
@[go_sem] theorem ajj (b h d zas):ai R (ab b) h d zas (.fn F.r02_trim [] [])=(ah h [] zas).bind (aD R (ab b) d F.r02_trim):=aj d (ahG b)
@[go_sem] theorem agl (b):(ab b).keep F.r02_trim=false:=_root_.id (by kernel_rfl)
theorem ag9:au.C F.r02_zeros=some aeV:=by kernel_rfl
theorem aha:au.E F.r02_zeros=none:=by kernel_rfl
@[go_sem] theorem ajr (b):(ab b).sh F.r02_zeros=[[.o 2 []]]:=_root_.id (by kernel_rfl)
@[go_sem] theorem ahb (b):(ab b).m F.r02_zeros=[]:=_root_.id (by kernel_rfl)
@[go_sem] theorem ai0 (b h d zas):ai R (ab b) h d zas (.fn F.r02_zeros [] [])=(ah h [] zas).bind (aD R (ab b) d F.r02_zeros):=aj d (ahb b)
@[go_sem] theorem afR (b):(ab b).keep F.r02_zeros=false:=_root_.id (by kernel_rfl)
theorem ahc:au.C F.r02_right=some aeH:=by kernel_rfl
theorem ahd:au.E F.r02_right=none:=by kernel_rfl
@[go_sem] theorem ajs (b):(ab b).sh F.r02_right=[[.o 2 []],[]]:=_root_.id (by kernel_rfl)
@[go_sem] theorem ahe (b):(ab b).m F.r02_right=[]:=_root_.id (by kernel_rfl)
@[go_sem] theorem ai1 (b h d zas):ai R (ab b) h d zas (.fn F.r02_right [] [])=(ah h [] zas).bind (aD R (ab b) d F.r02_right):=aj d (ahe b)
@[go_sem] theorem afS (b):(ab b).keep F.r02_right=false:=_root_.id (by kernel_rfl)
theorem GF:au.C F.dyadic_Top=some ib:=by kernel_rfl
theorem GG:au.E F.dyadic_Top=none:=by kernel_rfl
@[go_sem] theorem Q0 (b):(ab b).sh F.dyadic_Top=[[.o 0 [],.o 2 [],.o 0 []]]:=_root_.id (by kernel_rfl)
@[go_sem] theorem GH (b):(ab b).m F.dyadic_Top=[]:=_root_.id (by kernel_rfl)
@[go_sem] theorem O8 (b h d zas):ai R (ab b) h d zas (.fn F.dyadic_Top [] [])=(ah h [] zas).bind (aD R (ab b) d F.dyadic_Top):=aj d (GH b)
@[go_sem] theorem Bc (b):(ab b).keep F.dyadic_Top=false:=_root_.id (by kernel_rfl)
theorem zq:au.C F.dyadic_shifted=some iW:=by kernel_rfl
theorem zt:au.E F.dyadic_shifted=none:=by kernel_rfl
@[go_sem] theorem MP (b):(ab b).sh F.dyadic_shifted=[[.o 2 []],[]]:=_root_.id (by kernel_rfl)
@[go_sem] theorem zu (b):(ab b).m F.dyadic_shifted=[]:=_root_.id (by kernel_rfl)
@[go_sem] theorem KM (b h d zas):ai R (ab b) h d zas (.fn F.dyadic_shifted [] [])=(ah h [] zas).bind (aD R (ab b) d F.dyadic_shifted):=aj d (zu b)
@[go_sem] theorem vU (b):(ab b).keep F.dyadic_shifted=false:=_root_.id (by kernel_rfl)
theorem D9:au.C F.natural_Add=some jj:=by kernel_rfl
theorem Ea:au.E F.natural_Add=none:=by kernel_rfl
@[go_sem] theorem PQ (b):(ab b).sh F.natural_Add=[[.o 2 []],[.o 2 []]]:=_root_.id (by kernel_rfl)
@[go_sem] theorem Eb (b):(ab b).m F.natural_Add=[]:=_root_.id (by kernel_rfl)
@[go_sem] theorem ND (b h d zas):ai R (ab b) h d zas (.fn F.natural_Add [] [])=(ah h [] zas).bind (aD R (ab b) d F.natural_Add):=aj d (Eb b)
@[go_sem] theorem zx (b):(ab b).keep F.natural_Add=false:=_root_.id (by kernel_rfl)
theorem Ec:au.C F.natural_Cmp=some gy:=by kernel_rfl
theorem Ed:au.E F.natural_Cmp=none:=by kernel_rfl
@[go_sem] theorem PR (b):(ab b).sh F.natural_Cmp=[[.o 2 []],[.o 2 []]]:=_root_.id (by kernel_rfl)
@[go_sem] theorem Ee (b):(ab b).m F.natural_Cmp=[]:=_root_.id (by kernel_rfl)
@[go_sem] theorem NE (b h d zas):ai R (ab b) h d zas (.fn F.natural_Cmp [] [])=(ah h [] zas).bind (aD R (ab b) d F.natural_Cmp):=aj d (Ee b)
@[go_sem] theorem zy (b):(ab b).keep F.natural_Cmp=false:=_root_.id (by kernel_rfl)
theorem Ef:au.C F.natural_Sub=some gz:=by kernel_rfl
theorem Eg:au.E F.natural_Sub=none:=by kernel_rfl
@[go_sem] theorem PS (b):(ab b).sh F.natural_Sub=[[.o 2 []],[.o 2 []]]:=_root_.id (by kernel_rfl)
@[go_sem] theorem Eh (b):(ab b).m F.natural_Sub=[]:=_root_.id (by kernel_rfl)
@[go_sem] theorem NF (b h d zas):ai R (ab b) h d zas (.fn F.natural_Sub [] [])=(ah h [] zas).bind (aD R (ab b) d F.natural_Sub):=aj d (Eh b)
@[go_sem] theorem zz (b):(ab b).keep F.natural_Sub=false:=_root_.id (by kernel_rfl)
theorem al3:au.C F.r02_left=some akS:=by kernel_rfl
theorem al4:au.E F.r02_left=none:=by kernel_rfl
@[go_sem] theorem ane (b):(ab b).sh F.r02_left=[[.o 2 []],[]]:=_root_.id (by kernel_rfl)
@[go_sem] theorem al5 (b):(ab b).m F.r02_left=[]:=_root_.id (by kernel_rfl)
@[go_sem] theorem amU (b h d zas):ai R (ab b) h d zas (.fn F.r02_left [] [])=(ah h [] zas).bind (aD R (ab b) d F.r02_left):=aj d (al5 b)
@[go_sem] theorem aly (b):(ab b).keep F.r02_left=false:=_root_.id (by kernel_rfl)
theorem al6:au.C F.r02_plus=some akT:=by kernel_rfl
theorem al7:au.E F.r02_plus=none:=by kernel_rfl
@[go_sem] theorem anf (b):(ab b).sh F.r02_plus=[[.o 2 []],[.o 2 []]]:=_root_.id (by kernel_rfl)
@[go_sem] theorem al8 (b):(ab b).m F.r02_plus=[]:=_root_.id (by kernel_rfl)
@[go_sem] theorem amV (b h d zas):ai R (ab b) h d zas (.fn F.r02_plus [] [])=(ah h [] zas).bind (aD R (ab b) d F.r02_plus):=aj d (al8 b)
@[go_sem] theorem alz (b):(ab b).keep F.r02_plus=false:=_root_.id (by kernel_rfl)
theorem alA:au.C F.r02_compare=some akw:=by kernel_rfl
theorem alB:au.E F.r02_compare=none:=by kernel_rfl
@[go_sem] theorem amJ (b):(ab b).sh F.r02_compare=[[.o 2 []],[.o 2 []]]:=_root_.id (by kernel_rfl)
@[go_sem] theorem alC (b):(ab b).m F.r02_compare=[]:=_root_.id (by kernel_rfl)
@[go_sem] theorem amt (b h d zas):ai R (ab b) h d zas (.fn F.r02_compare [] [])=(ah h [] zas).bind (aD R (ab b) d F.r02_compare):=aj d (alC b)
@[go_sem] theorem ald (b):(ab b).keep F.r02_compare=false:=_root_.id (by kernel_rfl)
theorem alU:au.C F.r02_minus=some akN:=by kernel_rfl
theorem alV:au.E F.r02_minus=none:=by kernel_rfl
@[go_sem] theorem am0 (b):(ab b).sh F.r02_minus=[[.o 2 []],[.o 2 []]]:=_root_.id (by kernel_rfl)
@[go_sem] theorem alW (b):(ab b).m F.r02_minus=[]:=_root_.id (by kernel_rfl)
@[go_sem] theorem amK (b h d zas):ai R (ab b) h d zas (.fn F.r02_minus [] [])=(ah h [] zas).bind (aD R (ab b) d F.r02_minus):=aj d (alW b)
@[go_sem] theorem alp (b):(ab b).keep F.r02_minus=false:=_root_.id (by kernel_rfl)
theorem zA:au.C F.cmp_isNaN_int_=some iX:=by kernel_rfl
theorem zB:au.E F.cmp_isNaN_int_=none:=by kernel_rfl
@[go_sem] theorem MQ (b):(ab b).sh F.cmp_isNaN_int_=[]:=_root_.id (by kernel_rfl)
@[go_sem] theorem zC (b):(ab b).m F.cmp_isNaN_int_=[]:=_root_.id (by kernel_rfl)
@[go_sem] theorem KN (b h d zas):ai R (ab b) h d zas (.fn F.cmp_isNaN_int_ [] [])=(ah h [] zas).bind (aD R (ab b) d F.cmp_isNaN_int_):=aj d (zC b)
@[go_sem] theorem vV (b):(ab b).keep F.cmp_isNaN_int_=false:=_root_.id (by kernel_rfl)
theorem GI:au.C F.bits_Len32=some fF:=by kernel_rfl
theorem GJ:au.E F.bits_Len32=none:=by kernel_rfl
@[go_sem] theorem Q1 (b):(ab b).sh F.bits_Len32=[]:=_root_.id (by kernel_rfl)
@[go_sem] theorem GK (b):(ab b).m F.bits_Len32=[]:=_root_.id (by kernel_rfl)
@[go_sem] theorem O9 (b h d zas):ai R (ab b) h d zas (.fn F.bits_Len32 [] [])=(ah h [] zas).bind (aD R (ab b) d F.bits_Len32):=aj d (GK b)
@[go_sem] theorem Bd (b):(ab b).keep F.bits_Len32=false:=_root_.id (by kernel_rfl)
theorem kG:au.C F.slices_ContainsFunc_Suint32_Suint32_=some cF:=by kernel_rfl
theorem kH:au.E F.slices_ContainsFunc_Suint32_Suint32_=none:=by kernel_rfl
@[go_sem] theorem vK (b):(ab b).sh F.slices_ContainsFunc_Suint32_Suint32_=[[.o 2 [.o 2 []]],[]]:=_root_.id (by kernel_rfl)
@[go_sem] theorem eC (b):(ab b).m F.slices_ContainsFunc_Suint32_Suint32_=[]:=_root_.id (by kernel_rfl)
@[go_sem] theorem tY (b h d zas):ai R (ab b) h d zas (.fn F.slices_ContainsFunc_Suint32_Suint32_ [] [])=(ah h [] zas).bind (aD R (ab b) d F.slices_ContainsFunc_Suint32_Suint32_):=aj d (eC b)
@[go_sem] theorem js (b):(ab b).keep F.slices_ContainsFunc_Suint32_Suint32_=false:=_root_.id (by kernel_rfl)
theorem zD:au.C F.natural_long_1=some iY:=by kernel_rfl
theorem zE:au.E F.natural_long_1=none:=by kernel_rfl
@[go_sem] theorem MR (b):(ab b).sh F.natural_long_1=[[.o 2 []]]:=_root_.id (by kernel_rfl)
@[go_sem] theorem rC (b):(ab b).m F.natural_long_1=[]:=_root_.id (by kernel_rfl)
@[go_sem] theorem KO (b h d zas):ai R (ab b) h d zas (.fn F.natural_long_1 [] [])=(ah h [] zas).bind (aD R (ab b) d F.natural_long_1):=aj d (rC b)
@[go_sem] theorem vW (b):(ab b).keep F.natural_long_1=false:=_root_.id (by kernel_rfl)
@[go_sem] theorem HH (b):(ab b).sh F.bits_TrailingZeros32=[]:=_root_.id (by kernel_rfl)
@[go_sem] theorem sM (b):(ab b).m F.bits_TrailingZeros32=[]:=_root_.id (by kernel_rfl)
@[go_sem] theorem EM (b h d zas):ai R (ab b) h d zas (.fn F.bits_TrailingZeros32 [] [])=(ah h [] zas).bind (aD R (ab b) d F.bits_TrailingZeros32):=aj d (sM b)
@[go_sem] theorem EN (b):(ab b).keep F.bits_TrailingZeros32=false:=_root_.id (by kernel_rfl)
theorem Ei:au.C F.natural_shr=some jl:=by kernel_rfl
theorem Ej:au.E F.natural_shr=none:=by kernel_rfl
@[go_sem] theorem PT (b):(ab b).sh F.natural_shr=[[.o 2 []],[]]:=_root_.id (by kernel_rfl)
@[go_sem] theorem Ek (b):(ab b).m F.natural_shr=[]:=_root_.id (by kernel_rfl)
@[go_sem] theorem NG (b h d zas):ai R (ab b) h d zas (.fn F.natural_shr [] [])=(ah h [] zas).bind (aD R (ab b) d F.natural_shr):=aj d (Ek b)
@[go_sem] theorem zF (b):(ab b).keep F.natural_shr=false:=_root_.id (by kernel_rfl)
theorem El:au.C F.natural_Shl=some eM:=by kernel_rfl
theorem Em:au.E F.natural_Shl=none:=by kernel_rfl
@[go_sem] theorem PU (b):(ab b).sh F.natural_Shl=[[.o 2 []],[]]:=_root_.id (by kernel_rfl)
@[go_sem] theorem En (b):(ab b).m F.natural_Shl=[]:=_root_.id (by kernel_rfl)
@[go_sem] theorem NH (b h d zas):ai R (ab b) h d zas (.fn F.natural_Shl [] [])=(ah h [] zas).bind (aD R (ab b) d F.natural_Shl):=aj d (En b)
@[go_sem] theorem zG (b):(ab b).keep F.natural_Shl=false:=_root_.id (by kernel_rfl)
theorem Eo:au.C F.natural_add=some jm:=by kernel_rfl
theorem Ep:au.E F.natural_add=none:=by kernel_rfl
@[go_sem] theorem PV (b):(ab b).sh F.natural_add=[[.o 2 []],[.o 2 []]]:=_root_.id (by kernel_rfl)
@[go_sem] theorem Er (b):(ab b).m F.natural_add=[]:=_root_.id (by kernel_rfl)
@[go_sem] theorem NI (b h d zas):ai R (ab b) h d zas (.fn F.natural_add [] [])=(ah h [] zas).bind (aD R (ab b) d F.natural_add):=aj d (Er b)
@[go_sem] theorem zH (b):(ab b).keep F.natural_add=false:=_root_.id (by kernel_rfl)
theorem Es:au.C F.natural_sub=some lU:=by kernel_rfl
theorem Et:au.E F.natural_sub=none:=by kernel_rfl
@[go_sem] theorem PW (b):(ab b).sh F.natural_sub=[[.o 2 []],[.o 2 []]]:=_root_.id (by kernel_rfl)
@[go_sem] theorem Eu (b):(ab b).m F.natural_sub=[]:=_root_.id (by kernel_rfl)
@[go_sem] theorem NJ (b h d zas):ai R (ab b) h d zas (.fn F.natural_sub [] [])=(ah h [] zas).bind (aD R (ab b) d F.natural_sub):=aj d (Eu b)
@[go_sem] theorem zJ (b):(ab b).keep F.natural_sub=false:=_root_.id (by kernel_rfl)
theorem l5:au.C F.slices_IndexFunc_Suint32_Suint32_=some dc:=by kernel_rfl
theorem l6:au.E F.slices_IndexFunc_Suint32_Suint32_=none:=by kernel_rfl
@[go_sem] theorem lB (b):(ab b).sh F.slices_IndexFunc_Suint32_Suint32_=[[.o 2 [.o 2 []]],[]]:=_root_.id (by kernel_rfl)
@[go_sem] theorem fA (b):(ab b).m F.slices_IndexFunc_Suint32_Suint32_=[]:=_root_.id (by kernel_rfl)
@[go_sem] theorem vX (b h d zas):ai R (ab b) h d zas (.fn F.slices_IndexFunc_Suint32_Suint32_ [] [])=(ah h [] zas).bind (aD R (ab b) d F.slices_IndexFunc_Suint32_Suint32_):=aj d (fA b)
@[go_sem] theorem kJ (b):(ab b).keep F.slices_IndexFunc_Suint32_Suint32_=false:=_root_.id (by kernel_rfl)
theorem Ew:au.C F.natural_shl=some lX:=by kernel_rfl
theorem Ey:au.E F.natural_shl=none:=by kernel_rfl
@[go_sem] theorem PX (b):(ab b).sh F.natural_shl=[[.o 2 []],[]]:=_root_.id (by kernel_rfl)
@[go_sem] theorem Ez (b):(ab b).m F.natural_shl=[]:=_root_.id (by kernel_rfl)
@[go_sem] theorem NK (b h d zas):ai R (ab b) h d zas (.fn F.natural_shl [] [])=(ah h [] zas).bind (aD R (ab b) d F.natural_shl):=aj d (Ez b)
@[go_sem] theorem zK (b):(ab b).keep F.natural_shl=false:=_root_.id (by kernel_rfl)
theorem GL:au.C F.bits_Add32=some mV:=by kernel_rfl
theorem GM:au.E F.bits_Add32=none:=by kernel_rfl
@[go_sem] theorem Q2 (b):(ab b).sh F.bits_Add32=[]:=_root_.id (by kernel_rfl)
@[go_sem] theorem GN (b):(ab b).m F.bits_Add32=[]:=_root_.id (by kernel_rfl)
@[go_sem] theorem Pa (b h d zas):ai R (ab b) h d zas (.fn F.bits_Add32 [] [])=(ah h [] zas).bind (aD R (ab b) d F.bits_Add32):=aj d (GN b)
@[go_sem] theorem Be (b):(ab b).keep F.bits_Add32=false:=_root_.id (by kernel_rfl)
theorem GO:au.C F.bits_Sub32=some mW:=by kernel_rfl
theorem GP:au.E F.bits_Sub32=none:=by kernel_rfl
@[go_sem] theorem Q3 (b):(ab b).sh F.bits_Sub32=[]:=_root_.id (by kernel_rfl)
@[go_sem] theorem GQ (b):(ab b).m F.bits_Sub32=[]:=_root_.id (by kernel_rfl)
@[go_sem] theorem Pb (b h d zas):ai R (ab b) h d zas (.fn F.bits_Sub32 [] [])=(ah h [] zas).bind (aD R (ab b) d F.bits_Sub32):=aj d (GQ b)
@[go_sem] theorem Bf (b):(ab b).keep F.bits_Sub32=false:=_root_.id (by kernel_rfl)
end Go.Ab
namespace Go.Ab
open Go Go.IntWalk
def aP (m:List Nat):List (List AV):=m.map fun (x:Nat)=>[U (x:Int)]
def lm (m:List Nat):AV:=.sl 1 (aP m)
theorem uP (m:List Nat):(aP m).length=m.length:=by simp [aP]
@[go_sem] theorem rD (l:List (List AV)):l.map (ce [])=l:=(List.map_congr_left (g:=fun c=>c) fun c _=>No c).trans (List.map_id' _)
@[go_sem] theorem Y4 (hs m):ew hs (lm m)=lm m:=_root_.id rfl
@[go_sem] theorem XC (hs m):knownL hs (lm m)=true:=_root_.id rfl
@[go_sem] theorem U3 (hs m):eF hs (lm m)=true:=_root_.id rfl
@[go_sem] theorem adn (ks m):l8 ks (lm m)=lm m:=_root_.id rfl
@[go_sem] theorem abu (ks m):jA ks (lm m)=false:=_root_.id rfl
@[go_sem] theorem abv (ks m):sx ks (lm m)=false:=_root_.id rfl
@[go_sem] theorem ado (m):i9 false (lm m)=some (I (m.length:Nat)):=by simp [lm,i9,aP]
@[go_sem] theorem abw (m k i):mA 1 (lm m) (.v (.int k i))=bH (aP m) i:=by simp [lm,mA]
@[go_sem] theorem PY (k ss m):nrmV (.o (k+1) []::ss) (lm m)=lm m:=by simp [lm,nrmV,nrmL,rD]
@[go_sem] theorem Y5 (k cs ss m):nrmV (.o (k+1) [.o 0 cs]::ss) (lm m)=lm m:=by
 have:(aP m).map (ce [.o 0 cs])=aP m:=by
  refine (List.map_congr_left (g:=fun c=>c) fun c _=>?_).trans (List.map_id' _)
  cases c with
  | nil=>simp [ce]
  | cons a l=>simp [ce,nrmL]
 simp [lm,nrmV,nrmL,this]
@[go_sem] theorem abx (k m):nrmL (.o (k+1) []) (lm m)=lm m:=by simp [lm,nrmL,rD]
@[go_sem] theorem aby (h m):lh h (lm m)=some (lm m):=_root_.id rfl
@[go_sem] theorem Y6 (h m l):fW h (lm m::l)=(fW h l).bind fun q=>some (lm m::q):=_root_.id rfl
@[go_sem] theorem abz (m):bk (lm m)=[]:=_root_.id rfl
@[go_sem] theorem abA (m):cP (lm m)=[]:=_root_.id rfl
@[go_sem] theorem adp (m):dat (lm m)=true:=_root_.id rfl
@[go_sem] theorem abB (m):ak (lm m)=true:=_root_.id rfl
@[go_sem] theorem Y7 (m):aN (lm m)=false:=_root_.id rfl
@[go_sem] theorem Y8 (m):dy (lm m)=some [lm m]:=_root_.id rfl
@[go_sem] theorem abC (h m):du h (lm m)=some (lm m,h,[]):=_root_.id rfl
@[go_sem] theorem Y9 (h m):bM h 0 (lm m)=some (lm m,h,[]):=_root_.id rfl
@[go_sem] theorem Za (id p m):pJ id p (lm m)=lm m:=_root_.id rfl
@[go_sem] theorem Zb (h d m):gV h d (some (lm m,[]))=if cx h (2000+8*d) 1=true then some (lm m,h,[]) else none:=Nq h d 1 (aP m)
@[go_sem] theorem adq (m:List Nat):AV.sl 1 (aP m)=lm m:=_root_.id rfl
@[go_sem] theorem Zc (p:Nat→Bool) (a:Nat):fk (List.filter p [a])=true:=by
 simp only [List.filter]
 split <;> rfl
@[go_sem] theorem abD (m:List Nat):(aP m).length=m.length:=by simp [aP]
@[go_sem] theorem RL:AV.sl 1 []=lm []:=_root_.id rfl
@[go_sem] theorem XD (cs ss):nrmV (.o 2 cs::ss) .emp=lm []:=by simp [nrmV,nrmL,lm,aP]
@[go_sem] theorem XE (cs):nrmL (.o 2 cs) .emp=lm []:=by simp [nrmL,lm,aP]
@[go_sem] theorem abE (k ss m):nrmV (.o (k+1) []::ss) (.sl 1 (aP m))=lm m:=PY k ss m
@[go_sem] theorem Zd (k ss m):nrmV (.o (k+1) []::ss) (.osl 1 (aP m))=lm m:=by simp [lm,nrmV,nrmL,rD]
theorem de {m:List Nat} {i:Int} {n:Nat} (hi:i=n) (h:n < m.length):bH (aP m) i=some (.ipt [U (m.getD n 0:Nat)]):=by
 subst hi
 simp [bH,aP,h]
theorem qR {m:List Nat} {n:Nat} (h:n < m.length):(aP m)[n]?=some [U (m.getD n 0:Nat)]:=by
 simp [aP,h]
theorem GR (m:List Nat) (n:Nat):(aP m).take n=aP (m.take n):=by simp [aP,List.map_take]
theorem NL (m:List Nat) (n:Nat):(aP m).drop n=aP (m.drop n):=by simp [aP,List.map_drop]
theorem Bg (m l:List Nat):aP m++aP l=aP (m++l):=by simp [aP]
theorem qS (m:List Nat) (n x:Nat):(aP m).set n [U (x:Nat)]=aP (m.set n x):=by simp [aP,List.map_set]
theorem tF (n:Nat):List.replicate n [AV.v (.int .u32 0)]=aP (List.replicate n 0):=by simp [aP]
theorem GS {m:List Nat} {lo hi:Option AV} {a b:Nat} (hlo:gC 0 b lo=some a) (hhi:gC m.length m.length hi=some b) (_hb:b≤m.length):dJ 1 (lm m) lo hi none=some (lm ((m.drop a).take (b - a))):=by
 simp only [lm,dJ,gY,uP,if_true,hhi,hlo,Option.bind_some,Option.map_some,wc,Bool.false_eq_true,if_false,GR,NL]
theorem zL (d n:Nat):gC d n none=some d:=_root_.id rfl
theorem uQ {d n:Nat} {k:IntKind} {i:Int} {a:Nat} (hi:i=a) (h:a≤n):gC d n (some (.v (.int k i)))=some a:=by
 subst hi
 simp [gC,h]
theorem aX {f:FuncId} {fd:FD} {args:List AV} {r:AV × List Ob} (hE:au.E f=none) (hC:au.C f=some fd) (hk:au.md.keep f=false) (h1:args.length=fd.np)
  (hz:rg false fd.rs fd.res 0 (az R (ab false) fd.body (o6 args) (fun _=>.dead))=some r):R f args []=some r:=by
 refine F6 false hE hC hk h1 (Nat.zero_le _) ?_
 rw [Kb]
 exact hz
end Go.Ab
namespace Go.Ab
open Go Go.IntWalk
set_option maxRecDepth 4000
def xO (k:Nat) (g:Bool):Cmd:=.seq (.ops [0,1,7,8,9] [co 9 (.bin .lss (.t 8) (.t 7))]) (.seq (.cond (.t 9) (.skip) (.exit 0)) (.seq (.block 1 [0,1,7,8] (.seq (.ops [0,1,5,7,8] [cm 10 8,cm 5 10]) (.seq (.ops [0,1,5,7,8,16] [cm 11 1,cm 12 0,cm 13 5,co 14 (.iadrS k (.t 12) (.t 13)),⟨(some 15),none,.load k g (.t 14)⟩,⟨(some 16),none,.call (.t 11) [(.t 15)]⟩]) (.cond (.t 16) (.seq (.ops [4] [cm 17 5,cm 4 17]) (.ret)) (.skip))))) (.ops [0,1,7,8] [co 18 (.bin .add (.t 8) (.c (.v (.int .i64 1)))),cm 8 18])))
def Cr:Cmd:=.seq (.ops [4] [co 4 (.mv (.c (.v (.int .i64 (-1)))))]) (.ret)
def xe {α:Type} (p:α→Bool):List α→Nat→Int
 | [],_=>-1
 | r::rs,n=>if p r=true then n else xe p rs (n+1)
theorem GT {α:Type} (p:α→Bool):∀ (l:List α) (n:Nat),decide (0≤xe p l n)=l.any p
 | [],n=>rfl
 | r::rs,n=>by
  simp only [xe,List.any_cons]
  by_cases h:p r=true
  ·simp [h]
  ·simp [h,GT p rs (n+1)]
theorem NM {k:Nat} {g:Bool} {f:FuncId} {rows:List (List AV)} {p:List AV→Bool} (hm:(ab false).m f=[]) (hl:rows.length < 4611686018427387904)
  (hf:∀ row ∈ rows,∃ a,ie k g row 0=some a∧dat a=true∧R f (aM ((ab false).sh f) [a]) []=some (B (p row),[])):∀ (rest:List (List AV)) (n:Nat),rows.drop n=rest→n≤rows.length →
  ∀ (s:af) (h:aa),s 0=.sl k rows→s 1=.fn f [] []→s 7=I rows.length→s 8=I n →
   dD (aI 0 [] (aU (az R (ab false) (xO k g)) [0,1,7,8] [] s h)) (az R (ab false) Cr)=some (.ret,⟨upd (fun _=>.any) 4 (I (xe p rest n)),fun _=>.dead⟩):=by
 intro rest
 induction rest with
 | nil =>
  intro n hd hn s h h0 h1 h7 h8
  have e:n=rows.length:=by
   have:=congrArg List.length hd
   simp at this
   omega
  subst e
  rw [aB]
  generalize aU _ _ _=L
  simp only [xO,Cr,go_sem,h0,h1,h7,h8,↓reduceIte,ad7,Int.lt_irrefl,xe]
 | cons r rest ih =>
  intro n hd hn s h h0 h1 h7 h8
  have hlt:n < rows.length:=by
   have:=congrArg List.length hd
   simp at this
   omega
  have hr:rows[n]?=some r:=by
   have:=congrArg (·[0]?) hd
   simpa using this
  obtain ⟨a,ha,hda,hc⟩:=hf r (List.mem_of_getElem? hr)
  have ih':=ih (n+1) (by rw [← List.drop_drop,hd]; rfl) hlt
  have e1:((n:Int) < (rows.length:Int))=True:=eq_true (by omega)
  have e2:bH rows (n:Int)=some (.ipt r):=by simp [bH,hr]
  have e3:IntKind.i64.wrap ((n:Int)+1)=((n+1:Nat):Int):=by rw [i64_in] <;> omega
  rw [aB]
  generalize aU _ _ _=L at ih' ⊢
  simp only [xO,go_sem,h0,h1,h7,h8,↓reduceIte,ad7,e1,e2,ha,rZ _ hm,hda,hc,ad9,ad8,xe]
  cases hp:p r with
  | true=>simp only [go_sem,↓reduceIte]
  | false =>
   simp only [go_sem,↓reduceIte,ad7,e3]
   exact ih' _ _ rfl rfl rfl rfl
theorem Bh {fi:FuncId} {fd:FD} {k:Nat} {g:Bool} (hE:au.E fi=none) (hC:au.C fi=some fd) (hk:au.md.keep fi=false)
  (hfd:fd=⟨2,[[]],[.t 4],.seq (.ops [0,1] [co 4 (.mv (.c (.v (.int .i64 0))))]) (.seq (.seq (.ops [0,1,7,8] [cm 6 0,co 7 (.len false (.t 6)),co 8 (.mv (.c (.v (.int .i64 0))))]) (.block 0 [] (.loop [0,1,7,8] [] (xO k g)))) Cr)⟩)
  {f:FuncId} {rows:List (List AV)} {p:List AV→Bool} (hm:(ab false).m f=[]) (hl:rows.length < 4611686018427387904)
  (hf:∀ row ∈ rows,∃ a,ie k g row 0=some a∧dat a=true∧R f (aM ((ab false).sh f) [a]) []=some (B (p row),[])):R fi [.sl k rows,.fn f [] []] []=some (I (xe p rows 0),[]):=by
 subst hfd
 refine aX hE hC hk rfl ?_
 have hL:=NM (k:=k) (g:=g) hm hl hf rows 0 rfl (Nat.zero_le _)
 simp only [go_sem,↓reduceIte,ad7,Uc]
 rw [hL _ _ (by simp only [go_sem,↓reduceIte]) (by simp only [go_sem,↓reduceIte,ad7]) (by simp only [go_sem,↓reduceIte,ad7]) (by simp only [go_sem,↓reduceIte,ad7]; rfl)]
 simp only [go_sem,↓reduceIte]
def Ly (fi:FuncId):FD:=⟨2,[[]],[.t 4],.seq (.ops [0,1] [co 4 (.mv (.c (.v (.bool false))))]) (.seq (.ops [4] [cm 5 0,cm 6 1,⟨(some 7),none,.call (.c (.fn fi [] [])) [(.t 5),(.t 6)]⟩,co 8 (.bin .geq (.t 7) (.c (.v (.int .i64 0)))),cm 4 8]) (.ret))⟩
theorem xP {ci fi:FuncId} {fd:FD} {k:Nat} (hE:au.E ci=none) (hC:au.C ci=some fd) (hk:au.md.keep ci=false) (hfd:fd=Ly fi) (hm:(ab false).m fi=[]) {cs:List Sh} (hsh:(ab false).sh fi=[[.o (k+1) cs],[]])
  {rows:List (List AV)} {f:FuncId} {p:List AV→Bool} (hr:rows.map (ce cs)=rows) (h:R fi [.sl k rows,.fn f [] []] []=some (I (xe p rows 0),[])):R ci [.sl k rows,.fn f [] []] []=some (B (rows.any p),[]):=by
 subst hfd
 refine aX hE hC hk rfl ?_
 simp only [Ly,go_sem,↓reduceIte,ad7,rZ _ hm,hsh,hr,h,Nn,GT]
end Go.Ab
namespace Go.Ab
open Go Go.IntWalk
set_option maxRecDepth 4000
theorem qh {i:Int} {n:Nat} (h:i=n) (hn:n < 18446744073709551616):IntKind.u64.wrap i=n:=by rw [u64_in] <;> omega
theorem RM {i:Int} {n:Nat} (h:i=n) (hn:n < 4294967296):IntKind.u32.wrap i=n:=by rw [u32_in] <;> omega
theorem wi {i:Int} {n:Nat} (h:i=n) (hn:n < 9223372036854775808):IntKind.i64.wrap i=n:=by rw [i64_in] <;> omega
theorem GU {i:Int} {n:Nat} (h:i=n):IntKind.u32.wrap i=((n % 4294967296:Nat):Int):=by rw [IntKind.wrap_u32]; omega
theorem Bi {i:Int} {n k:Nat} {kk:IntKind} {j:Int} (h:i=n) (hj:j=k) (hk:k≤64):dI .shr (.v (.int .u64 i)) (.v (.int kk j))=some (.v (.int .u64 ((n / 2 ^ k:Nat):Int))):=by
 subst h hj
 rw [BS,if_neg (by omega)]
 have:min (k:Int).toNat IntKind.u64.bits=k:=by simp [IntKind.bits]; omega
 rw [this]
 simp only [Option.some.injEq,AV.v.injEq,Value.int.injEq,true_and]
 rw [Int.fdiv_eq_ediv_of_nonneg _ (Int.pow_nonneg (by omega))]
 simp
theorem GV {x y c:Nat} (hx:x < 4294967296) (hy:y < 4294967296) (hc:c≤1):R F.bits_Add32 [U x,U y,U c] []=some (.tup [U (((x+y+c) % 4294967296:Nat)),U (((x+y+c) / 4294967296:Nat))],[]):=by
 refine aX GM GL (Be false) rfl ?_
 have e1:IntKind.u64.wrap (x:Int)=x:=qh rfl (by omega)
 have e2:IntKind.u64.wrap (y:Int)=y:=qh rfl (by omega)
 have e3:IntKind.u64.wrap (c:Int)=c:=qh rfl (by omega)
 have e4:IntKind.u64.wrap ((x:Int)+y)=((x+y:Nat):Int):=qh (by omega) (by omega)
 have e5:IntKind.u64.wrap (((x+y:Nat):Int)+c)=((x+y+c:Nat):Int):=qh (by omega) (by omega)
 have e6:IntKind.u32.wrap ((x+y+c:Nat):Int)=(((x+y+c) % 4294967296:Nat):Int):=GU rfl
 have e7:=Bi (n:=x+y+c) (k:=32) (kk:=.u64) (j:=32) rfl rfl (by omega)
 have e8:IntKind.u32.wrap (((x+y+c) / 2 ^ 32:Nat):Int)=(((x+y+c) / 4294967296:Nat):Int):=RM rfl (by omega)
 simp only [mV,wU,go_sem,↓reduceIte,ad7,e1,e2,e3,e4,e5,e6,e7,e8]
theorem PZ {k:IntKind} {n:Int} (h:n ≠ 0):wc (some (.v (.int k n)))=false:=by
 unfold wc
 split
 ·rename_i h2; simp at h2; exact absurd h2.2 h
 ·rfl
theorem P0 {m:List Nat} (h:m.length ≠ 0):dJ 1 (lm m) none (some (I (m.length:Nat))) (some (I (m.length:Nat)))=some (lm m):=by
 have hz:wc (some (I (m.length:Nat)))=false:=PZ (by omega)
 have h1:gC m.length m.length (some (I (m.length:Nat)))=some m.length:=uQ rfl (Nat.le_refl _)
 simp only [dJ,lm,uP,gY,h1,zL,hz,if_true,Option.bind_some,Option.map_some,Bool.false_eq_true,if_false,List.drop_zero,Nat.sub_zero,GR,List.take_length]
theorem IE (m:List Nat):R F.slices_Clip_uint32_uint32_ [lm m] []=some (lm m,[]):=by
 refine aX py px (nR false) rfl ?_
 by_cases h:m.length=0
 ·have:m=[]:=List.length_eq_zero_iff.1 h
  subst this
  rfl
 ·simp only [cX,ji,go_sem,↓reduceIte,ad7,P0 h]
theorem Lz (m:List Nat) (h2:m.length < 4611686018427387904):∀ (n:Nat),n≤m.length→∀ (s:af) (h:aa),s 0=lm m→s 3=I n →
  aI 0 [0,3] (aU (az R (ab false) fO) [0,3] [] s h)=some (.normal,⟨upd (upd (fun _=>.any) 3 (I (iE m n))) 0 (lm m),fun _=>.dead⟩):=by
 intro n
 induction n with
 | zero =>
  intro h1 s h h3 h4
  rw [aB]
  simp only [fO,go_sem,h3,h4,iE,↓reduceIte,ad7,Int.natCast_zero,Int.lt_irrefl]
 | succ n ih =>
  intro h1 s h h3 h4
  have hn:n < m.length:=h1
  have e3:IntKind.i64.wrap ((n:Int)+1 - 1)=n:=wi (by omega) (by omega)
  have e1:bH (aP m) (n:Int)=some (.ipt [U (m.getD n 0:Nat)]):=de rfl hn
  have e2:((0:Int) < (n:Int)+1)=True:=eq_true (by omega)
  have ih':=ih (by omega)
  rw [aB]
  generalize aU _ _ _=L at ih' ⊢
  by_cases hz:m.getD n 0=0
  ·simp only [fO,go_sem,h3,h4,iE,↓reduceIte,ad7,Int.natCast_add,Int.natCast_one,e3,e1,e2,hz,Int.natCast_zero]
   exact ih' _ _ rfl rfl
  ·simp only [fO,go_sem,h3,h4,iE,↓reduceIte,ad7,Int.natCast_add,Int.natCast_one,e3,e1,e2,hz,Int.natCast_eq_zero]
theorem dj {m:List Nat} (hb:Lb m) (h:m.length < 4611686018427387904):R F.natural_trim [lm m] []=some (lm (av (ac m)),[]):=by
 refine aX Cp Co (ye false) rfl ?_
 have h1:dJ 1 (lm m) none (some (I (iE m m.length:Nat))) none=some (lm (av (ac m))):=by
  rw [GS (a:=0) (b:=iE m m.length) rfl (uQ rfl (tu _ _)) (tu _ _),List.drop_zero,Nat.sub_zero,F3 hb]
 simp only [kP,tp,go_sem,↓reduceIte,ad7,Lz m h m.length (Nat.le_refl _),h1]
def Pc (l:List (List Nat)):AV:=.sl 1 (l.map fun m=>[lm m])
theorem P1 (l:List (List Nat)) (cs:List Sh):(l.map fun m=>[lm m]).map (ce [.o 2 cs])=l.map fun m=>[nrmL (.o 2 cs) (lm m)]:=by
 simp [List.map_map,ce]
theorem LA (m:List Nat):R F.natural_long_1 [lm m] []=some (B (decide (256 < m.length)),[]):=by
 refine aX zE zD (vW false) rfl ?_
 have e:decide ((256:Int) < (m.length:Int))=decide (256 < m.length):=by rw [decide_eq_decide]; omega
 simp only [iY,rz,go_sem,↓reduceIte,ad7,e]
theorem IF {l:List (List Nat)} (hl:l.length < 4611686018427387904):R F.natural_long [Pc l] []=some (B (l.any fun m=>decide (256 < m.length)),[]):=by
 refine aX Ci Ch (yc false) rfl ?_
 let p:List AV→Bool:=fun row=>match row with | [.sl _ rows]=>decide (256 < rows.length) | _=>false
 have hp:∀ m:List Nat,p [lm m]=decide (256 < m.length):=fun m=>by simp [p,lm,uP]
 have hn:(l.map fun m=>[lm m]).map (ce [.o 2 []])=l.map fun m=>[lm m]:=by
  rw [P1]
  simp only [go_sem]
 have h1:=Bh (k:=1) (g:=false) (f:=F.natural_long_1) (rows:=l.map fun m=>[lm m]) (p:=p) l6 l5 (kJ false) rfl (rC false) (by simpa using hl) (fun row hr=>by
  simp only [List.mem_map] at hr
  obtain ⟨m,hm,rfl⟩:=hr
  refine ⟨lm m,rfl,rfl,?_⟩
  simp only [go_sem,LA,hp])
 have h2:=xP (k:=1) kH kG (js false) rfl (fA false) (lB false) hn h1
 have h3:(l.map fun m=>[lm m]).any p=l.any fun m=>decide (256 < m.length):=by
  rw [List.any_map]
  congr 1
  funext m
  exact hp m
 rw [h3] at h2
 simp only [kO,tl,Pc,go_sem,↓reduceIte,ad7,rZ _ (eC false),hn,h2]
end Go.Ab
namespace Go.Ab
open Go Go.IntWalk
set_option maxRecDepth 4000
theorem tt {p:Prop} (h:p):p=True:=eq_true h
theorem ff {p:Prop} (h:¬ p):p=False:=eq_false h
theorem j6 (a:List Nat):R F.natural_long [.sl 1 [[lm a]]] []=some (B (decide (256 < a.length)),[]):=by
 have:=IF (l:=[a]) (by simp)
 simpa [Pc] using this
theorem ni (a b:List Nat):R F.natural_long [.sl 1 [[lm a],[lm b]]] []=some (B (decide (256 < a.length) || decide (256 < b.length)),[]):=by
 have:=IF (l:=[a,b]) (by simp)
 simpa [Pc] using this
def iZ (n:Nat):AV:=if 256 < (av n).length then .tup [lm [],I 9] else .tup [lm (av n),I 0]
theorem tG {m:List Nat} (hb:Lb m) (h:m.length < 4611686018427387904):R F.natural_done [lm m] []=some (iZ (ac m),[]):=by
 refine aX Cm Ck (yd false) rfl ?_
 by_cases hl:256 < (av (ac m)).length
 ·simp only [ix,pl,iZ,go_sem,↓reduceIte,ad7,ad9,ad8,aea,aec,dj hb h,j6,hl]
 ·simp only [ix,pl,iZ,go_sem,↓reduceIte,ad7,ad9,ad8,aea,aec,dj hb h,j6,hl,IE]
theorem vL {a:List Nat} {i:Nat} (h:i < a.length):ac (a.take (i+1))=ac (a.take i)+4294967296 ^ i*a.getD i 0:=by
 rw [List.take_add_one,fh]
 have:a[i]?.toList=[a.getD i 0]:=by simp [h]
 rw [this,List.length_take,Nat.min_eq_left (by omega)]
 simp [ac]
theorem If {a:List Nat} {i:Nat} (h:a.length≤i):ac (a.take (i+1))=ac (a.take i)+4294967296 ^ i*a.getD i 0:=by
 rw [List.take_of_length_le (by omega),List.take_of_length_le h]
 simp [List.getD_eq_getElem?_getD,List.getElem?_eq_none h]
theorem jw (a:List Nat) (i:Nat):ac (a.take (i+1))=ac (a.take i)+4294967296 ^ i*a.getD i 0:=by
 rcases Nat.lt_or_ge i a.length with h | h
 ·exact vL h
 ·exact If h
def IG (n i:Nat):Nat:=n / 4294967296 ^ i % 4294967296
theorem NN {k n i:Nat} (h:i < k):(di k n)[i]?=some (IG n i):=by
 induction k generalizing n i with
 | zero=>omega
 | succ k ih =>
  cases i with
  | zero=>simp [di,IG]
  | succ i =>
   simp only [di,List.getElem?_cons_succ]
   rw [ih (by omega)]
   simp only [IG,Nat.pow_succ,Nat.mul_comm _ 4294967296,Nat.div_div_eq_div_mul]
theorem GW {k n:Nat} {l:List Nat} (hl:l.length=k) (h:∀ i,i < k→l.getD i 0=IG n i):l=di k n:=by
 refine List.ext_getElem? fun i=>?_
 rcases Nat.lt_or_ge i k with hi | hi
 ·rw [NN hi]
  have:=h i hi
  rw [List.getD_eq_getElem?_getD,List.getElem?_eq_getElem (by omega)] at this
  rw [List.getElem?_eq_getElem (by omega)]
  exact congrArg some this
 ·rw [List.getElem?_eq_none (by omega),List.getElem?_eq_none (by rw [cq]; omega)]
def lC (a b:List Nat):Nat→Nat
 | 0=>0
 | i+1=>(a.getD i 0+b.getD i 0+lC a b i) / 4294967296
def zM (a b:List Nat) (i:Nat):Nat:=(a.getD i 0+b.getD i 0+lC a b i) % 4294967296
theorem Bj {a b:List Nat} (ha:Lb a) (hb:Lb b):∀ i,lC a b i≤1
 | 0=>by simp [lC]
 | i+1=>by
  have h1:=dQ ha i
  have h2:=dQ hb i
  have h3:=Bj ha hb i
  simp only [lC]
  omega
def gh (a b:List Nat) (i:Nat):List Nat:=(List.range i).map (zM a b)
theorem rF (f:Nat→Nat) (i:Nat):ac ((List.range (i+1)).map f)=ac ((List.range i).map f)+4294967296 ^ i*f i:=by
 rw [List.range_succ,List.map_append,fh]
 simp [ac]
theorem GX (a b:List Nat):∀ i,ac (gh a b i)+4294967296 ^ i*lC a b i=ac (a.take i)+ac (b.take i)
 | 0=>by simp [gh,lC,ac]
 | i+1=>by
  have ih:=GX a b i
  rw [jw a i,jw b i]
  simp only [gh] at ih ⊢
  rw [rF,Nat.pow_succ]
  have e:lC a b (i+1)*4294967296+zM a b i=a.getD i 0+b.getD i 0+lC a b i:=by
   simp only [lC,zM]
   omega
  have h1:4294967296 ^ i*4294967296*lC a b (i+1)+4294967296 ^ i*zM a b i=4294967296 ^ i*(a.getD i 0+b.getD i 0+lC a b i):=by
   rw [← e,Nat.mul_add,Nat.mul_assoc,Nat.mul_comm 4294967296]
  simp only [Nat.mul_add] at h1
  omega
theorem gq (a b:List Nat) (i:Nat):(gh a b i).length=i:=by simp [gh]
theorem P2 (a b:List Nat) (i:Nat):Lb (gh a b i):=fun x hx=>by
 simp only [gh,List.mem_map] at hx
 obtain ⟨j,_,rfl⟩:=hx
 simp only [zM]
 omega
theorem NO {a b:List Nat} (ha:Lb a) (hb:Lb b) (hl:b.length≤a.length):gh a b a.length++[lC a b a.length]=di (a.length+1) (ac a+ac b):=by
 have h:=GX a b a.length
 rw [List.take_length,List.take_of_length_le hl] at h
 have h1:Lb (gh a b a.length++[lC a b a.length]):=nI.2 ⟨P2 _ _ _,eO.2 ⟨by have:=Bj ha hb a.length; omega,AO⟩⟩
 have h2:ac (gh a b a.length++[lC a b a.length])=ac a+ac b:=by
  rw [fh,gq]
  simp only [ac]
  omega
 rw [← h2]
 have:=uL h1
 simpa [gq] using this.symm
theorem rG {α:Type} (l:List α) (n:Nat) (x z:α) (h:0 < n):(l++List.replicate n z).set l.length x=(l++[x])++List.replicate (n - 1) z:=by
 obtain ⟨n,rfl⟩:∃ m,n=m+1:=⟨n - 1,by omega⟩
 rw [List.replicate_succ,List.set_append_right _ _ (Nat.le_refl _)]
 simp
theorem NP {a b:List Nat} (ha:Lb a) (hb:Lb b) (_hl:b.length≤a.length) (h2:a.length < 4611686018427387904):∀ (k i:Nat),i+k=a.length→∀ (s:af) (h:aa),s 0=lm a→s 1=lm b→s 5=.rsl 20 none 1 0 (a.length+1)→s 6=U (lC a b i:Nat) →
  s 21=lm a→s 22=I (a.length:Nat)→s 23=I i→h 20=.ar 1 (aP (gh a b i++List.replicate (k+1) 0)) →
  aI 0 [0,5,6] (aU (az R (ab false) eN) [0,1,5,6,21,22,23] [20] s h) =
   some (.normal,⟨upd (upd (upd (fun _=>.any) 6 (U (lC a b a.length:Nat))) 5 (.rsl 20 none 1 0 (a.length+1))) 0 (lm a),upd (fun _=>.dead) 20 (.ar 1 (aP (gh a b a.length++[0])))⟩):=by
 intro k
 induction k with
 | zero =>
  intro i hi s h h0 h1 h5 h6 h21 h22 h23 hh
  have:i=a.length:=by omega
  subst this
  rw [aB]
  simp only [eN,go_sem,↓reduceIte,ad7,ad8,h0,h1,h5,h6,h21,h22,h23,hh,Int.lt_irrefl,List.contains_cons,BEq.rfl,Bool.true_or]
 | succ k ih =>
  intro i hi s h h0 h1 h5 h6 h21 h22 h23 hh
  have ih':=ih (i+1) (by omega)
  have e1:((i:Int) < (a.length:Int))=True:=tt (by omega)
  have e2:bH (aP a) (i:Int)=some (.ipt [U (a.getD i 0:Nat)]):=de rfl (by omega)
  have e3:IntKind.i64.wrap ((i:Int)+1)=((i+1:Nat):Int):=wi (by omega) (by omega)
  have e4:(0≤(i:Int))=True:=tt (by omega)
  have e5:((i:Int) < ((a.length+1:Nat):Int))=True:=tt (by omega)
  have e6:=GV (dQ ha i) (dQ hb i) (Bj ha hb i)
  have e7:(aP (gh a b i++List.replicate (k+1+1) 0))[i]?=some [U (0:Nat)]:=by
   rw [qR (by simp [gq])]
   simp [List.getD_eq_getElem?_getD,gq]
  have e8:(aP (gh a b i++List.replicate (k+1+1) 0)).set i [U ((a.getD i 0+b.getD i 0+lC a b i) % 4294967296:Nat)]=aP (gh a b (i+1)++List.replicate (k+1) 0):=by
   rw [qS]
   have:=rG (gh a b i) (k+1+1) (zM a b i) 0 (by omega)
   rw [gq] at this
   rw [show (a.getD i 0+b.getD i 0+lC a b i) % 4294967296=zM a b i from rfl,this]
   simp [gh,List.range_succ]
  rw [aB]
  generalize aU _ _ _=L at ih' ⊢
  by_cases hb':i < b.length
  ·have e9:((i:Int) < (b.length:Int))=True:=tt (by omega)
   have e10:bH (aP b) (i:Int)=some (.ipt [U (b.getD i 0:Nat)]):=de rfl hb'
   simp only [eN,go_sem,↓reduceIte,ad7,ad9,ad8,aea,h0,h1,h5,h6,h21,h22,h23,hh,List.contains_cons,BEq.rfl,Bool.true_or,e1,e2,e3,e4,e5,e6,e7,e8,e9,e10,Int.toNat_natCast,Nat.zero_add]
   exact ih' _ _ rfl rfl rfl rfl rfl rfl rfl rfl
  ·have e9:((i:Int) < (b.length:Int))=False:=ff (by omega)
   have e10:b.getD i 0=0:=by simp [List.getD_eq_getElem?_getD,List.getElem?_eq_none (show b.length≤i from by omega)]
   have e6':=GV (dQ ha i) (y:=0) (by omega) (Bj ha hb i)
   simp only [Int.natCast_zero] at e6'
   have e8':(aP (gh a b i++List.replicate (k+1+1) 0)).set i [U ((a.getD i 0+0+lC a b i) % 4294967296:Nat)]=aP (gh a b (i+1)++List.replicate (k+1) 0):=by
    have e8':=e8
    rw [e10] at e8'
    exact e8'
   simp only [eN,go_sem,↓reduceIte,ad7,ad9,ad8,aea,h0,h1,h5,h6,h21,h22,h23,hh,List.contains_cons,BEq.rfl,Bool.true_or,e1,e2,e3,e4,e5,e7,e8',e9,Int.toNat_natCast,Nat.zero_add,e6']
   refine ih' _ _ rfl rfl rfl ?_ rfl rfl rfl rfl
   simp only [lC,e10]
   rfl
theorem qi {i j:Int} {l c:Nat} (hi:i=l) (hj:j=c) (h:l≤c) (hc:c < 9223372036854775808):ud (I i) (I j)=some (l,c):=by
 subst hi hj
 simp only [ud]
 rw [if_pos (by omega)]
 simp
def zN:Cmd:=.seq (.ops [0,1,5] [cm 17 0,co 18 (.len false (.t 17)),co 19 (.bin .add (.t 18) (.c (.v (.int .i64 1)))),⟨(some 20),none,.mkSl 1 [(.v (.int .u32 0))] 4 (.t 19) (.t 19)⟩,cm 5 20]) (.seq (.ops [0,1,5,6] [co 6 (.mv (.c (.v (.int .u32 0))))]) (.seq (.seq (.ops [0,1,5,6,21,22,23] [cm 21 0,co 22 (.len false (.t 21)),co 23 (.mv (.c (.v (.int .i64 0))))]) (.block 0 [0,5,6] (.loop [0,1,5,6,21,22,23] [20] eN))) (.seq (.ops [5] [cm 47 5,cm 48 0,co 49 (.len false (.t 48)),cm 50 6,co 51 (.iadrS 1 (.t 47) (.t 49)),⟨none,none,.store 1 (.t 51) (.t 50)⟩]) (.seq (.ops [4] [cm 52 5,cm 4 52]) (.ret)))))
theorem GY {a b:List Nat} (ha:Lb a) (hb:Lb b) (hl:b.length≤a.length) (h2:a.length≤100000):∀ (s:af),s 0=lm a→s 1=lm b →
  az R (ab false) zN s (fun _=>.dead)=some (.ret,⟨upd (fun _=>.any) 4 (.rsl 20 none 1 0 (a.length+1)),upd (upd (fun _=>.dead) 20 (.ar 1 (aP (gh a b a.length++[0])))) 20 (.ar 1 (aP (di (a.length+1) (ac a+ac b))))⟩):=by
 intro s h0 h1
 have e1:IntKind.i64.wrap ((a.length:Int)+1)=((a.length+1:Nat):Int):=wi (by omega) (by omega)
 have e2:=qi (i:=((a.length+1:Nat):Int)) (j:=((a.length+1:Nat):Int)) (l:=a.length+1) (c:=a.length+1) rfl rfl (Nat.le_refl _) (by omega)
 have e3:((a.length+1)*4≤140737488355328)=True:=tt (by omega)
 have e4:=NP ha hb hl (by omega) a.length 0 (by omega)
 have e5:aP (List.replicate (a.length+1) 0)=aP (gh a b 0++List.replicate (a.length+1) 0):=rfl
 have e6:(0≤(a.length:Int))=True:=tt (by omega)
 have e7:((a.length:Int) < ((a.length+1:Nat):Int))=True:=tt (by omega)
 have e8:(aP (gh a b a.length++[0]))[a.length]?=some [U (0:Nat)]:=by
  rw [qR (by simp [gq])]
  simp [List.getD_eq_getElem?_getD,gq]
 have e9:(aP (gh a b a.length++[0])).set a.length [U (lC a b a.length:Nat)]=aP (di (a.length+1) (ac a+ac b)):=by
  rw [qS]
  have:=rG (gh a b a.length) 1 (lC a b a.length) 0 (by omega)
  rw [gq] at this
  rw [show [0]=List.replicate 1 0 from rfl,this]
  simp only [Nat.sub_self,List.replicate_zero,List.append_nil]
  rw [NO ha hb hl]
 simp only [zN,go_sem,↓reduceIte,ad7,h0,h1,e1,e2,e3,tF,e5]
 rw [e4 _ _ rfl rfl rfl rfl rfl rfl rfl rfl]
 simp only [go_sem,↓reduceIte,ad7,aea,e6,e7,e8,e9,Int.toNat_natCast,Nat.zero_add]
theorem GZ:vz=.seq (.ops [0,1] [co 4 (.mv (.c .emp))]) (.seq (.seq (.ops [0,1,14] [cm 10 0,co 11 (.len false (.t 10)),cm 12 1,co 13 (.len false (.t 12)),co 14 (.bin .lss (.t 11) (.t 13))]) (.cond (.t 14) (.ops [0,1] [cm 15 1,cm 16 0,cm 0 15,cm 1 16]) (.skip))) zN):=rfl
theorem LB {a b:List Nat} (ha:Lb a) (hb:Lb b) (h1:a.length≤100000) (h2:b.length≤100000):R F.natural_add [lm a,lm b] []=some (lm (di (max a.length b.length+1) (ac a+ac b)),[]):=by
 refine aX Ep Eo (zH false) rfl ?_
 by_cases h:a.length < b.length
 ·have e1:((a.length:Int) < (b.length:Int))=True:=tt (by omega)
  have e2:=GY hb ha (by omega) h2
  simp only [jm,GZ,go_sem,↓reduceIte,ad7,e1]
  rw [e2 _ rfl rfl]
  simp only [go_sem,↓reduceIte,aea,cq,Nat.zero_add,Nat.le_refl]
  rw [Nat.max_eq_right (by omega),Nat.add_comm (ac a)]
 ·have e1:((a.length:Int) < (b.length:Int))=False:=ff (by omega)
  have e2:=GY ha hb (by omega) h1
  simp only [jm,GZ,go_sem,↓reduceIte,ad7,e1]
  rw [e2 _ rfl rfl]
  simp only [go_sem,↓reduceIte,aea,cq,Nat.zero_add,Nat.le_refl]
  rw [Nat.max_eq_left (by omega)]
theorem RN {a b:List Nat} (ha:Lb a) (hb:Lb b) (h1:a.length≤256) (h2:b.length≤256):R F.natural_Add [lm a,lm b] []=some (iZ (ac a+ac b),[]):=by
 refine aX Ea D9 (zx false) rfl ?_
 have e1:(256 < a.length)=False:=ff (by omega)
 have e2:(256 < b.length)=False:=ff (by omega)
 have e3:ac (di (max a.length b.length+1) (ac a+ac b))=ac a+ac b:=by
  rw [pq,Nat.mod_eq_of_lt]
  have h1:=jn ha
  have h2:=jn hb
  have h3:4294967296 ^ a.length≤4294967296 ^ max a.length b.length:=Nat.pow_le_pow_right (by omega) (by omega)
  have h4:4294967296 ^ b.length≤4294967296 ^ max a.length b.length:=Nat.pow_le_pow_right (by omega) (by omega)
  rw [Nat.pow_succ]
  omega
 have e4:=tG (pp (max a.length b.length+1) (ac a+ac b)) (by rw [cq]; omega)
 rw [e3] at e4
 unfold iZ at e4 ⊢
 by_cases hl:256 < (av (ac a+ac b)).length
 ·simp only [hl,if_true] at e4 ⊢
  simp only [jj,qu,go_sem,↓reduceIte,ad7,ad9,ad8,aea,aec,e1,e2,ni,LB ha hb (by omega) (by omega),e4]
 ·simp only [hl,if_false] at e4 ⊢
  simp only [jj,qu,go_sem,↓reduceIte,ad7,ad9,ad8,aea,aec,e1,e2,ni,LB ha hb (by omega) (by omega),e4]
end Go.Ab
namespace Go.Ab
open Go Go.IntWalk
set_option maxRecDepth 4000
def dk (x y:Nat):Int:=if x < y then -1 else if y < x then 1 else 0
theorem uR {x y:Nat} (h:(av x).length < (av y).length):x < y:=by
 have h1:=ic x
 have hy:y ≠ 0:=by rintro rfl; rw [fG] at h; simp at h
 have h2:=Lv hy
 have h3:4294967296 ^ (av x).length≤4294967296 ^ ((av y).length - 1):=Nat.pow_le_pow_right (by omega) (by omega)
 omega
def tH:Cmd:=.seq (.ops [4] [co 4 (.mv (.c (.v (.int .i64 0))))]) (.ret)
theorem NQ {a b:List Nat} (ha:Lb a) (hb:Lb b) (hl:a.length=b.length) (h2:a.length≤100000):∀ (k:Nat),k≤a.length→∀ (s:af) (h:aa),s 0=lm a→s 1=lm b→s 5=I ((k:Int) - 1) →
  dD (aI 0 [] (aU (az R (ab false) dL) [0,1,5] [] s h)) (az R (ab false) tH)=some (.ret,⟨upd (fun _=>.any) 4 (I (dk (ac (a.take k)) (ac (b.take k)))),fun _=>.dead⟩):=by
 intro k
 induction k with
 | zero =>
  intro hk s h h0 h1 h5
  rw [aB]
  generalize aU _ _ _=L
  have e1:(0≤((0:Nat):Int) - 1)=False:=ff (by omega)
  have e2:dk (ac []) (ac [])=0:=rfl
  simp only [dL,tH,go_sem,↓reduceIte,ad7,h0,h1,h5,e1,e2]
 | succ k ih =>
  intro hk s h h0 h1 h5
  have ih':=ih (by omega)
  have e1:(0≤((k+1:Nat):Int) - 1)=True:=tt (by omega)
  have e2:bH (aP a) (((k+1:Nat):Int) - 1)=some (.ipt [U (a.getD k 0:Nat)]):=de (by omega) (by omega)
  have e3:bH (aP b) (((k+1:Nat):Int) - 1)=some (.ipt [U (b.getD k 0:Nat)]):=de (by omega) (by omega)
  have e4:IntKind.i64.wrap (((k+1:Nat):Int) - 1 - 1)=(k:Int) - 1:=by rw [i64_in] <;> omega
  have va:=jw a k
  have vb:=jw b k
  have la:=jn (qQ ha k)
  have lb:=jn (qQ hb k)
  rw [List.length_take,Nat.min_eq_left (by omega)] at la lb
  rw [aB]
  generalize aU _ _ _=L at ih' ⊢
  rcases Nat.lt_trichotomy (a.getD k 0) (b.getD k 0) with hlt | heq | hgt
  ·have e5:((a.getD k 0:Int) < (b.getD k 0:Int))=True:=tt (by omega)
   have e6:dk (ac (a.take (k+1))) (ac (b.take (k+1)))=-1:=by
    have:4294967296 ^ k*(a.getD k 0+1)≤4294967296 ^ k*b.getD k 0:=Nat.mul_le_mul_left _ hlt
    rw [Nat.mul_add] at this
    simp only [dk]
    rw [if_pos (by omega)]
   simp only [dL,tH,go_sem,↓reduceIte,ad7,h0,h1,h5,e1,e2,e3,e5,e6]
  ·have e5:((a.getD k 0:Int) < (b.getD k 0:Int))=False:=ff (by omega)
   have e7:((b.getD k 0:Int) < (a.getD k 0:Int))=False:=ff (by omega)
   have e6:dk (ac (a.take (k+1))) (ac (b.take (k+1)))=dk (ac (a.take k)) (ac (b.take k)):=by
    rw [va,vb,heq]
    simp only [dk]
    repeat' split
    all_goals first | rfl | omega
   simp only [dL,go_sem,↓reduceIte,ad7,h0,h1,h5,e1,e2,e3,e5,e6,e7,e4]
   exact ih' _ _ rfl rfl rfl
  ·have e5:((a.getD k 0:Int) < (b.getD k 0:Int))=False:=ff (by omega)
   have e7:((b.getD k 0:Int) < (a.getD k 0:Int))=True:=tt (by omega)
   have e6:dk (ac (a.take (k+1))) (ac (b.take (k+1)))=1:=by
    have:4294967296 ^ k*(b.getD k 0+1)≤4294967296 ^ k*a.getD k 0:=Nat.mul_le_mul_left _ hgt
    rw [Nat.mul_add] at this
    simp only [dk]
    rw [if_neg (by omega),if_pos (by omega)]
   simp only [dL,tH,go_sem,↓reduceIte,ad7,h0,h1,h5,e1,e2,e3,e5,e6,e7]
theorem zO:vw=.seq (.ops [0,1] [co 4 (.mv (.c (.v (.int .i64 0))))]) (.seq (.ops [0,1] [cm 6 0,⟨(some 7),none,.call (.c (.fn F.natural_trim [] [])) [(.t 6)]⟩,cm 8 1,⟨(some 9),none,.call (.c (.fn F.natural_trim [] [])) [(.t 8)]⟩,cm 0 7,cm 1 9]) (.seq (.seq (.ops [0,1,14] [cm 10 0,co 11 (.len false (.t 10)),cm 12 1,co 13 (.len false (.t 12)),co 14 (.bin .neq (.t 11) (.t 13))]) (.cond (.t 14) (.seq (.seq (.ops [19] [cm 15 0,co 16 (.len false (.t 15)),cm 17 1,co 18 (.len false (.t 17)),co 19 (.bin .lss (.t 16) (.t 18))]) (.cond (.t 19) (.seq (.ops [4] [co 4 (.mv (.c (.v (.int .i64 (-1)))))]) (.ret)) (.skip))) (.seq (.ops [4] [co 4 (.mv (.c (.v (.int .i64 1))))]) (.ret))) (.skip))) (.seq (.seq (.ops [0,1,5] [cm 20 0,co 21 (.len false (.t 20)),co 22 (.bin .sub (.t 21) (.c (.v (.int .i64 1)))),cm 5 22]) (.block 0 [] (.loop [0,1,5] [] dL))) tH))):=rfl
theorem dG (m:List Nat) (h:Lb m):(av (ac m)).length≤m.length:=mX (jn h)
theorem xf {a b:List Nat} (ha:Lb a) (hb:Lb b) (h1:a.length≤100000) (h2:b.length≤100000):R F.natural_Cmp [lm a,lm b] []=some (I (dk (ac a) (ac b)),[]):=by
 refine aX Ed Ec (zy false) rfl ?_
 have la:=dG a ha
 have lb:=dG b hb
 rcases Nat.lt_trichotomy (av (ac a)).length (av (ac b)).length with hlt | heq | hgt
 ·have e1:((av (ac a)).length:Int)=((av (ac b)).length:Int)↔False:=⟨fun h=>by omega,False.elim⟩
  have e2:(((av (ac a)).length:Int) < ((av (ac b)).length:Int))=True:=tt (by omega)
  have e3:dk (ac a) (ac b)=-1:=by simp [dk,uR hlt]
  simp only [gy,zO,go_sem,↓reduceIte,ad7,ad9,ad8,dj ha (by omega),dj hb (by omega),e1,e2,e3]
 ·have e1:(((av (ac a)).length:Int)=((av (ac b)).length:Int))=True:=tt (by omega)
  have e2:IntKind.i64.wrap (((av (ac b)).length:Int) - 1)=((av (ac b)).length:Int) - 1:=by rw [i64_in] <;> omega
  have e3:=NQ (cd (ac a)) (cd (ac b)) heq (by omega) (av (ac a)).length (Nat.le_refl _)
  rw [List.take_length,heq,List.take_length,bI,bI] at e3
  simp only [gy,zO,go_sem,↓reduceIte,ad7,ad9,ad8,dj ha (by omega),dj hb (by omega),heq,e2]
  rw [e3 _ _ rfl rfl rfl]
  simp only [go_sem,↓reduceIte]
 ·have e1:((av (ac a)).length:Int)=((av (ac b)).length:Int)↔False:=⟨fun h=>by omega,False.elim⟩
  have e2:(((av (ac a)).length:Int) < ((av (ac b)).length:Int))=False:=ff (by omega)
  have e3:dk (ac a) (ac b)=1:=by
   have:=uR hgt
   simp only [dk]
   rw [if_neg (by omega),if_pos this]
  simp only [gy,zO,go_sem,↓reduceIte,ad7,ad9,ad8,dj ha (by omega),dj hb (by omega),e1,e2,e3]
theorem P3 (v:BitVec 32):v.toNat / 2147483648=if v.msb=true then 1 else 0:=by
 have h:=v.isLt
 rw [BitVec.msb_eq_decide]
 split <;> rename_i h1 <;> simp at h1 <;> omega
theorem Kl {x y c:Nat} (hx:x < 4294967296) (hy:y < 4294967296) (hc:c≤1) (D:BitVec 32) (hD:D.toNat=(x+4294967296 - y - c) % 4294967296) :
  ((~~~(BitVec.ofNat 32 x) &&& BitVec.ofNat 32 y) ||| (~~~(BitVec.ofNat 32 x ^^^ BitVec.ofNat 32 y) &&& D)).toNat / 2147483648=if x < y+c then 1 else 0:=by
 rw [P3]
 have h1:(BitVec.ofNat 32 x).msb=decide (2147483648≤x):=by rw [BitVec.msb_eq_decide]; simp; omega
 have h2:(BitVec.ofNat 32 y).msb=decide (2147483648≤y):=by rw [BitVec.msb_eq_decide]; simp; omega
 have h3:D.msb=decide (2147483648≤(x+4294967296 - y - c) % 4294967296):=by rw [BitVec.msb_eq_decide,hD]
 rw [BitVec.msb_or,BitVec.msb_and,BitVec.msb_and,BitVec.msb_not,BitVec.msb_not,BitVec.msb_xor,h1,h2,h3]
 by_cases a1:2147483648≤x <;> by_cases a2:2147483648≤y <;> by_cases a3:x < y+c <;> simp [a1,a2,a3] <;> omega
theorem ofI (n:Nat):BitVec.ofInt 32 (n:Int)=BitVec.ofNat 32 n:=by simp
theorem Ze (v:BitVec 32):IntKind.u32.wrap (v.toNat:Int)=(v.toNat:Int):=by
 have:=v.isLt
 rw [IntKind.wrap_u32]
 omega
theorem G0 {x y c:Nat} (hx:x < 4294967296) (hy:y < 4294967296) (hc:c≤1):R F.bits_Sub32 [U x,U y,U c] []=some (.tup [U (((x+4294967296 - y - c) % 4294967296:Nat)),U ((if x < y+c then 1 else 0:Nat))],[]):=by
 refine aX GP GO (Bf false) rfl ?_
 have e1:IntKind.u32.wrap ((x:Int) - y)=(((x+4294967296 - y) % 4294967296:Nat):Int):=by rw [IntKind.wrap_u32]; omega
 have e2:IntKind.u32.wrap ((((x+4294967296 - y) % 4294967296:Nat):Int) - c)=(((x+4294967296 - y - c) % 4294967296:Nat):Int):=by rw [IntKind.wrap_u32]; omega
 have b:IntKind.u32.bits=32:=rfl
 have e3:BitVec.ofInt 32 (if IntKind.u32.signed=true then (-1:Int) else IntKind.u32.max)=BitVec.allOnes 32:=by decide
 have e4:∀ v:BitVec 32,BitVec.allOnes 32 ^^^ v = ~~~v:=fun v=>BitVec.not_def.symm
 have e5:∀ v:BitVec 32,BitVec.ofNat 32 v.toNat=v:=fun v=>by simp
 have key:=Kl hx hy hc (BitVec.ofNat 32 ((x+4294967296 - y - c) % 4294967296)) (by simp)
 have sh:∀ v:BitVec 32,dI .shr (.v (.int .u32 (v.toNat:Int))) (.v (.int .u64 31))=some (.v (.int .u32 ((v.toNat / 2147483648:Nat):Int))):=fun v=>by
  rw [BS,if_neg (by decide)]
  simp only [b,show min (31:Int).toNat 32=31 from rfl,Option.some.injEq,AV.v.injEq,Value.int.injEq,true_and]
  rw [Int.fdiv_eq_ediv_of_nonneg _ (by decide)]
  omega
 simp only [mW,wV,go_sem,↓reduceIte,ad7,e1,e2,ofI,e3,e5,Ze,sh]
 rw [← e4,← e4] at key
 exact congrArg (fun n:Nat=>some (AV.tup [AV.v (Value.int IntKind.u32 ((x+4294967296 - y - c) % 4294967296:Nat)),U (n:Int)],([]:List Ob))) key
def nJ (a b:List Nat):Nat→Nat
 | 0=>0
 | i+1=>if a.getD i 0 < b.getD i 0+nJ a b i then 1 else 0
def zP (a b:List Nat) (i:Nat):Nat:=(a.getD i 0+4294967296 - b.getD i 0 - nJ a b i) % 4294967296
def j7 (a b:List Nat) (i:Nat):List Nat:=(List.range i).map (zP a b)
theorem Bk (a b:List Nat) (i:Nat):nJ a b i≤1:=by
 cases i with
 | zero=>simp [nJ]
 | succ i=>simp only [nJ]; split <;> omega
theorem G1 {a b:List Nat} (ha:Lb a) (hb:Lb b):∀ i,ac (j7 a b i)+ac (b.take i)=ac (a.take i)+4294967296 ^ i*nJ a b i
 | 0=>by simp [j7,nJ,ac]
 | i+1=>by
  have ih:=G1 ha hb i
  rw [jw a i,jw b i]
  simp only [j7] at ih ⊢
  rw [rF,Nat.pow_succ]
  have h1:=dQ ha i
  have h2:=dQ hb i
  have h3:=Bk a b i
  have e:zP a b i+b.getD i 0+nJ a b i=a.getD i 0+4294967296*nJ a b (i+1):=by
   simp only [zP,nJ]
   split <;> omega
  have h4:4294967296 ^ i*(zP a b i+b.getD i 0+nJ a b i)=4294967296 ^ i*(a.getD i 0+4294967296*nJ a b (i+1)):=by rw [e]
  simp only [Nat.mul_add] at h4
  rw [← Nat.mul_assoc] at h4
  omega
theorem mK (a b:List Nat) (i:Nat):(j7 a b i).length=i:=by simp [j7]
theorem IH (a b:List Nat) (i:Nat):Lb (j7 a b i):=fun x hx=>by
 simp only [j7,List.mem_map] at hx
 obtain ⟨j,_,rfl⟩:=hx
 simp only [zP]
 omega
theorem NR {a b:List Nat} (ha:Lb a) (hb:Lb b) (hl:b.length≤a.length) (hv:ac b≤ac a):j7 a b a.length=di a.length (ac a - ac b):=by
 have h:=G1 ha hb a.length
 rw [List.take_length,List.take_of_length_le hl] at h
 have h1:=jn (IH a b a.length)
 rw [mK] at h1
 have hz:nJ a b a.length=0:=by
  have:=Bk a b a.length
  rcases Nat.eq_zero_or_pos (nJ a b a.length) with h0 | h0
  ·exact h0
  ·have:nJ a b a.length=1:=by omega
   rw [this] at h
   omega
 rw [hz] at h
 have h2:=uL (IH a b a.length)
 rw [mK,show ac (j7 a b a.length)=ac a - ac b from by omega] at h2
 exact h2.symm
theorem NS {a b:List Nat} (ha:Lb a) (hb:Lb b) (h2:a.length≤100000):∀ (k i:Nat),i+k=a.length→∀ (s:af) (h:aa),s 1=lm b→s 5=.rsl 16 none 1 0 a.length→s 6=U (nJ a b i:Nat) →
  s 17=lm a→s 18=I (a.length:Nat)→s 19=I i→h 16=.ar 1 (aP (j7 a b i++List.replicate k 0)) →
  aI 0 [5] (aU (az R (ab false) gM) [1,5,6,17,18,19] [16] s h) =
   some (.normal,⟨upd (fun _=>.any) 5 (.rsl 16 none 1 0 a.length),upd (fun _=>.dead) 16 (.ar 1 (aP (j7 a b a.length)))⟩):=by
 intro k
 induction k with
 | zero =>
  intro i hi s h h1 h5 h6 h17 h18 h19 hh
  have:i=a.length:=by omega
  subst this
  rw [aB]
  simp only [List.replicate_zero,List.append_nil] at hh
  simp only [gM,go_sem,↓reduceIte,ad7,aeb,h1,h5,h6,h17,h18,h19,hh,Int.lt_irrefl]
 | succ k ih =>
  intro i hi s h h1 h5 h6 h17 h18 h19 hh
  have ih':=ih (i+1) (by omega)
  have e1:((i:Int) < (a.length:Int))=True:=tt (by omega)
  have e2:bH (aP a) (i:Int)=some (.ipt [U (a.getD i 0:Nat)]):=de rfl (by omega)
  have e3:IntKind.i64.wrap ((i:Int)+1)=((i+1:Nat):Int):=wi (by omega) (by omega)
  have e4:(0≤(i:Int))=True:=tt (by omega)
  have e7:(aP (j7 a b i++List.replicate (k+1) 0))[i]?=some [U (0:Nat)]:=by
   rw [qR (by simp [mK])]
   simp [List.getD_eq_getElem?_getD,mK]
  have e8:(aP (j7 a b i++List.replicate (k+1) 0)).set i [U ((a.getD i 0+4294967296 - b.getD i 0 - nJ a b i) % 4294967296:Nat)]=aP (j7 a b (i+1)++List.replicate k 0):=by
   rw [qS]
   have:=rG (j7 a b i) (k+1) (zP a b i) 0 (by omega)
   rw [mK] at this
   rw [show (a.getD i 0+4294967296 - b.getD i 0 - nJ a b i) % 4294967296=zP a b i from rfl,this]
   simp [j7,List.range_succ]
  rw [aB]
  generalize aU _ _ _=L at ih' ⊢
  by_cases hb':i < b.length
  ·have e6:=G0 (dQ ha i) (dQ hb i) (Bk a b i)
   have e9:((i:Int) < (b.length:Int))=True:=tt (by omega)
   have e10:bH (aP b) (i:Int)=some (.ipt [U (b.getD i 0:Nat)]):=de rfl hb'
   simp only [gM,go_sem,↓reduceIte,ad7,ad9,ad8,aea,aeb,h1,h5,h6,h17,h18,h19,hh,e1,e2,e3,e4,e6,e7,e8,e9,e10,Int.toNat_natCast,Nat.zero_add]
   exact ih' _ _ rfl rfl rfl rfl rfl rfl rfl
  ·have e9:((i:Int) < (b.length:Int))=False:=ff (by omega)
   have e10:b.getD i 0=0:=by simp [List.getD_eq_getElem?_getD,List.getElem?_eq_none (show b.length≤i from by omega)]
   have e6':=G0 (dQ ha i) (y:=0) (by omega) (Bk a b i)
   simp only [Int.natCast_zero] at e6'
   have e8':(aP (j7 a b i++List.replicate (k+1) 0)).set i [U ((a.getD i 0+4294967296 - 0 - nJ a b i) % 4294967296:Nat)]=aP (j7 a b (i+1)++List.replicate k 0):=by
    have e8':=e8
    rw [e10] at e8'
    exact e8'
   simp only [gM,go_sem,↓reduceIte,ad7,ad9,ad8,aea,aeb,h1,h5,h6,h17,h18,h19,hh,e1,e2,e3,e4,e6',e7,e8',e9,Int.toNat_natCast,Nat.zero_add]
   refine ih' _ _ rfl rfl ?_ rfl rfl rfl rfl
   simp only [nJ,e10,Nat.zero_add]
   rfl
theorem LC {a b:List Nat} (ha:Lb a) (hb:Lb b) (h1:a.length≤100000) (h2:b.length≤100000) (hv:ac b≤ac a):R F.natural_sub [lm a,lm b] []=some (lm (di (av (ac a)).length (ac a - ac b)),[]):=by
 refine aX Et Es (zJ false) rfl ?_
 have la:=dG a ha
 have lb:(av (ac b)).length≤(av (ac a)).length:=by
  rcases Nat.lt_or_ge (av (ac a)).length (av (ac b)).length with h | h
  ·have:=uR h; omega
  ·exact h
 have e2:=qi (i:=((av (ac a)).length:Int)) (j:=((av (ac a)).length:Int)) rfl rfl (Nat.le_refl _) (by omega)
 have e3:((av (ac a)).length*4≤140737488355328)=True:=tt (by omega)
 have e4:=NS (cd (ac a)) (cd (ac b)) (by omega) (av (ac a)).length 0 (by omega)
 have e5:aP (List.replicate (av (ac a)).length 0)=aP (j7 (av (ac a)) (av (ac b)) 0++List.replicate (av (ac a)).length 0):=rfl
 have e6:=NR (cd (ac a)) (cd (ac b)) lb (by rw [bI,bI]; exact hv)
 rw [bI,bI] at e6
 simp only [lU,vA,go_sem,↓reduceIte,ad7,ad9,ad8,dj ha (by omega),dj hb (by omega),e2,e3,tF,e5]
 rw [e4 _ _ rfl rfl rfl rfl rfl rfl rfl]
 simp only [go_sem,↓reduceIte,aea,aec,e6,cq,Nat.zero_add,Nat.le_refl]
theorem RP {a b:List Nat} (ha:Lb a) (hb:Lb b) (h1:a.length≤256) (h2:b.length≤256):R F.natural_Sub [lm a,lm b] []=some (if ac a < ac b then .tup [lm [],I 2] else iZ (ac a - ac b),[]):=by
 refine aX Eg Ef (zz false) rfl ?_
 have e1:(256 < a.length)=False:=ff (by omega)
 have e2:(256 < b.length)=False:=ff (by omega)
 by_cases hv:ac a < ac b
 ·have e3:dk (ac a) (ac b)=-1:=by simp [dk,hv]
  simp only [gz,mU,go_sem,↓reduceIte,ad7,ad9,ad8,aea,aec,aed,e1,e2,ni,xf ha hb (by omega) (by omega),e3,hv]
 ·have e3:(dk (ac a) (ac b) < 0)=False:=ff (by simp only [dk]; split <;> (try split) <;> omega)
  have e5:ac (di (av (ac a)).length (ac a - ac b))=ac a - ac b:=by
   rw [pq,Nat.mod_eq_of_lt]
   have:=ic (ac a)
   omega
  have e4:=tG (pp (av (ac a)).length (ac a - ac b)) (by rw [cq]; have:=dG a ha; omega)
  rw [e5] at e4
  unfold iZ at e4 ⊢
  by_cases hl:256 < (av (ac a - ac b)).length
  ·simp only [hl,if_true] at e4 ⊢
   simp only [gz,mU,go_sem,↓reduceIte,ad7,ad9,ad8,aea,aec,e1,e2,ni,xf ha hb (by omega) (by omega),e3,hv,LC ha hb (by omega) (by omega) (by omega),e4]
  ·simp only [hl,if_false] at e4 ⊢
   simp only [gz,mU,go_sem,↓reduceIte,ad7,ad9,ad8,aea,aec,e1,e2,ni,xf ha hb (by omega) (by omega),e3,hv,LC ha hb (by omega) (by omega) (by omega),e4]
end Go.Ab
namespace Go.Ab
open Go Go.IntWalk
set_option maxRecDepth 4000
def mi (x:Nat):Nat→List Nat→List Nat→List Nat × Nat
 | c,y::bs,o::s=>(((x*y+o+c) % 4294967296)::(mi x ((x*y+o+c) / 4294967296) bs s).1,(mi x ((x*y+o+c) / 4294967296) bs s).2)
 | c,_,s=>(s,c)
theorem LD (x:Nat):∀ (bs s r:List Nat) (c:Nat),bs.length≤s.length→mi x c bs (s++r)=((mi x c bs s).1++r,(mi x c bs s).2)
 | [],s,r,c,_=>by simp [mi]
 | y::bs,[],r,c,h=>by simp at h
 | y::bs,o::s,r,c,h=>by
  have ih:=LD x bs s r ((x*y+o+c) / 4294967296) (by simpa using h)
  simp only [List.cons_append,mi,ih]
theorem xg (x:Nat):∀ (bs s:List Nat) (c:Nat),(mi x c bs s).1.length=s.length
 | [],s,c=>by simp [mi]
 | y::bs,[],c=>by simp [mi]
 | y::bs,o::s,c=>by simp [mi,xg x bs s]
theorem Pd (x:Nat):∀ (bs s:List Nat) (c:Nat),Lb s→Lb (mi x c bs s).1
 | [],s,c,h=>by simpa [mi] using h
 | y::bs,[],c,h=>by simpa [mi] using h
 | y::bs,o::s,c,h=>by
  simp only [mi]
  exact eO.2 ⟨by omega,Pd x bs s _ (eO.1 h).2⟩
theorem LE {x y o c:Nat} (hx:x < 4294967296) (hy:y < 4294967296) (ho:o < 4294967296) (hc:c < 4294967296):x*y+o+c < 18446744073709551616:=by
 have:x*y≤4294967295*4294967295:=Nat.mul_le_mul (by omega) (by omega)
 omega
theorem zQ {x:Nat} (hx:x < 4294967296):∀ (bs s:List Nat) (c:Nat),Lb bs→Lb s→c < 4294967296→(mi x c bs s).2 < 4294967296
 | [],s,c,_,_,hc=>by simpa [mi] using hc
 | y::bs,[],c,_,_,hc=>by simpa [mi] using hc
 | y::bs,o::s,c,hb,hs,hc=>by
  simp only [mi]
  have:=LE hx (eO.1 hb).1 (eO.1 hs).1 hc
  exact zQ hx bs s _ (eO.1 hb).2 (eO.1 hs).2 (by omega)
theorem LF (x:Nat):∀ (bs s:List Nat) (c:Nat),bs.length=s.length→ac (mi x c bs s).1+4294967296 ^ s.length*(mi x c bs s).2=ac s+x*ac bs+c
 | [],[],c,_=>by simp [mi,ac]
 | [],o::s,c,h=>by simp at h
 | y::bs,[],c,h=>by simp at h
 | y::bs,o::s,c,h=>by
  have ih:=LF x bs s ((x*y+o+c) / 4294967296) (by simpa using h)
  simp only [mi,ac,List.length_cons,Nat.pow_succ]
  have e1:4294967296 ^ s.length*4294967296*(mi x ((x*y+o+c) / 4294967296) bs s).2=4294967296*(4294967296 ^ s.length*(mi x ((x*y+o+c) / 4294967296) bs s).2):=by
   rw [Nat.mul_comm (4294967296 ^ s.length) 4294967296,Nat.mul_assoc]
  have e2:x*(y+4294967296*ac bs)=x*y+4294967296*(x*ac bs):=by
   rw [Nat.mul_add]
   congr 1
   rw [← Nat.mul_assoc,Nat.mul_comm x,Nat.mul_assoc]
  rw [e1,e2]
  omega
theorem Km {a b:List Nat} (hb:Lb b) {x i n:Nat} (hx:x < 4294967296) (h2:b.length≤100000) (hi:i≤100000):∀ (bs:List Nat) (k:Nat) (D S:List Nat) (c:Nat),b.drop k=bs→k≤b.length→D.length=i+k→bs.length≤S.length→(D++S).length=n→Lb S→c < 4294967296 →
  ∀ (s:af) (h:aa),s 18=lm a→s 19=I (a.length:Nat)→s 20=I i→s 1=lm b→s 5=.rsl 17 none 1 0 n→s 6=I i→s 7=U x→s 8=W c→s 25=lm b→s 26=I (b.length:Nat)→s 27=I k→h 17=.ar 1 (aP (D++S)) →
  aI 2 [1,5,6,8,18,19,20] (aU (az R (ab false) jS) [1,5,6,7,8,18,19,20,25,26,27] [17] s h) =
   some (.normal,⟨upd (upd (upd (upd (upd (upd (upd (fun _=>.any) 20 (I i)) 19 (I (a.length:Nat))) 18 (lm a)) 8 (W ((mi x c bs S).2:Nat))) 6 (I i)) 5 (.rsl 17 none 1 0 n)) 1 (lm b),upd (fun _=>.dead) 17 (.ar 1 (aP (D++(mi x c bs S).1)))⟩):=by
 intro bs
 induction bs with
 | nil =>
  intro k D S c hd hk hD hS hn hLS hc s h h18 h19 h20 h1 h5 h6 h7 h8 h25 h26 h27 hh
  have:k=b.length:=by
   have:=congrArg List.length hd
   simp at this
   omega
  subst this
  rw [aB]
  simp only [jS,go_sem,↓reduceIte,ad7,aeb,h18,h19,h20,h1,h5,h6,h7,h8,h25,h26,h27,hh,Int.lt_irrefl,mi]
 | cons y bs ih =>
  intro k D S c hd hk hD hS hn hLS hc s h h18 h19 h20 h1 h5 h6 h7 h8 h25 h26 h27 hh
  obtain ⟨o,S,rfl⟩:∃ o S',S=o::S':=by
   cases S with
   | nil=>simp at hS
   | cons o S=>exact ⟨o,S,rfl⟩
  have hlt:k < b.length:=by
   have:=congrArg List.length hd
   simp at this
   omega
  have hy:b.getD k 0=y:=by
   have:=congrArg (·[0]?) hd
   simp only [List.getElem?_drop,Nat.add_zero,List.getElem?_cons_zero] at this
   rw [List.getD_eq_getElem?_getD,this]
   rfl
  have hyb:y < 4294967296:=by rw [← hy]; exact dQ hb k
  have hob:o < 4294967296:=(eO.1 hLS).1
  have hml:=LE hx hyb hob hc
  have hxy:x*y < 18446744073709551616:=by omega
  have ih':=ih (k+1) (D++[(x*y+o+c) % 4294967296]) S ((x*y+o+c) / 4294967296) (by rw [← List.drop_drop,hd]; rfl) hlt (by simp [hD]; omega) (by simpa using hS) (by simpa using hn) (eO.1 hLS).2 (by omega)
  have e1:((k:Int) < (b.length:Int))=True:=tt (by omega)
  have e2:bH (aP b) (k:Int)=some (.ipt [U (y:Nat)]):=by rw [de rfl hlt,hy]
  have e3:IntKind.i64.wrap ((k:Int)+1)=((k+1:Nat):Int):=wi (by omega) (by omega)
  have e4:IntKind.i64.wrap ((i:Int)+(k:Int))=((i+k:Nat):Int):=wi (by omega) (by omega)
  have e5:(0≤((i+k:Nat):Int))=True:=tt (by omega)
  have hin:i+k < n:=by rw [← hn]; simp [hD]
  have e6:(((i+k:Nat):Int) < (n:Int))=True:=tt (by omega)
  have e7:(aP (D++o::S))[i+k]?=some [U (o:Nat)]:=by
   rw [qR (by simp [hD])]
   simp [List.getD_eq_getElem?_getD,hD]
  have f1:IntKind.u64.wrap (x:Int)=x:=qh rfl (by omega)
  have f2:IntKind.u64.wrap (y:Int)=y:=qh rfl (by omega)
  have f3:IntKind.u64.wrap ((x:Int)*(y:Int))=((x*y:Nat):Int):=qh (by simp) hxy
  have f4:IntKind.u64.wrap (o:Int)=o:=qh rfl (by omega)
  have f5:IntKind.u64.wrap (((x*y:Nat):Int)+(o:Int))=((x*y+o:Nat):Int):=qh (by omega) (by omega)
  have f6:IntKind.u64.wrap (((x*y+o:Nat):Int)+(c:Int))=((x*y+o+c:Nat):Int):=qh (by omega) (by omega)
  have f7:IntKind.u32.wrap ((x*y+o+c:Nat):Int)=(((x*y+o+c) % 4294967296:Nat):Int):=GU rfl
  have f8:=Bi (n:=x*y+o+c) (k:=32) (kk:=.u64) (j:=32) rfl rfl (by omega)
  have f9:(aP (D++o::S)).set (i+k) [U ((x*y+o+c) % 4294967296:Nat)]=aP (D++[(x*y+o+c) % 4294967296]++S):=by
   rw [qS,← hD,List.set_append_right _ _ (Nat.le_refl _)]
   simp
  rw [aB]
  generalize aU _ _ _=L at ih' ⊢
  simp only [jS,go_sem,↓reduceIte,ad7,aea,aeb,h18,h19,h20,h1,h5,h6,h7,h8,h25,h26,h27,hh,e1,e2,e3,e4,e5,e6,e7,f1,f2,f3,f4,f5,f6,f7,f8,f9,Int.toNat_natCast,Nat.zero_add,mi]
  rw [ih' _ _ rfl rfl rfl rfl rfl rfl rfl rfl rfl rfl rfl rfl]
  simp only [List.append_assoc,List.singleton_append]
def bE (a b:List Nat) (i:Nat):List Nat:=di (i+b.length) (ac (a.take i)*ac b)
theorem LG {a b:List Nat} (ha:Lb a) (hb:Lb b) {i:Nat} (hi:i < a.length) :
  (bE a b i).take i++((mi (a.getD i 0) 0 b ((bE a b i).drop i)).1++[(mi (a.getD i 0) 0 b ((bE a b i).drop i)).2])=bE a b (i+1):=by
 have hx:=dQ ha i
 have hP:(bE a b i).length=i+b.length:=cq _ _
 have hLP:Lb (bE a b i):=pp _ _
 have hS:((bE a b i).drop i).length=b.length:=by simp [hP]
 have h1:=LF (a.getD i 0) b ((bE a b i).drop i) 0 hS.symm
 have h2:=zQ hx b ((bE a b i).drop i) 0 hb (tr hLP i) (by omega)
 have h3:=Pd (a.getD i 0) b ((bE a b i).drop i) 0 (tr hLP i)
 have h4:=xg (a.getD i 0) b ((bE a b i).drop i) 0
 have hvP:ac (bE a b i)=ac (a.take i)*ac b:=by
  unfold bE
  rw [pq,Nat.mod_eq_of_lt]
  have e1:=jn (qQ ha i)
  have e2:=jn hb
  rw [List.length_take,Nat.min_eq_left (by omega)] at e1
  rw [Nat.pow_add]
  exact Nat.mul_lt_mul'' e1 e2
 have hsplit:ac (bE a b i)=ac ((bE a b i).take i)+4294967296 ^ i*ac ((bE a b i).drop i):=by
  conv=>lhs; rw [← List.take_append_drop i (bE a b i)]
  rw [fh,List.length_take,hP,Nat.min_eq_left (by omega)]
 have hLb:Lb ((bE a b i).take i++((mi (a.getD i 0) 0 b ((bE a b i).drop i)).1++[(mi (a.getD i 0) 0 b ((bE a b i).drop i)).2])) :=
  nI.2 ⟨qQ hLP i,nI.2 ⟨h3,eO.2 ⟨h2,AO⟩⟩⟩
 have hval:ac ((bE a b i).take i++((mi (a.getD i 0) 0 b ((bE a b i).drop i)).1++[(mi (a.getD i 0) 0 b ((bE a b i).drop i)).2]))=ac (a.take (i+1))*ac b:=by
  rw [fh,fh,List.length_take,hP,Nat.min_eq_left (by omega),h4,jw a i,Nat.add_mul,← hvP,hsplit]
  simp only [ac,Nat.mul_zero,Nat.add_zero] at h1 ⊢
  rw [h1,Nat.mul_add,Nat.mul_assoc]
  omega
 have hlen:((bE a b i).take i++((mi (a.getD i 0) 0 b ((bE a b i).drop i)).1++[(mi (a.getD i 0) 0 b ((bE a b i).drop i)).2])).length=i+1+b.length:=by
  simp only [List.length_append,List.length_take,hP,h4,hS,List.length_cons,List.length_nil]
  omega
 have:=uL hLb
 rw [hlen,hval] at this
 exact this.symm
theorem NT {a b:List Nat} (ha:Lb a) (hb:Lb b) (h1:a.length≤100000) (h2:b.length≤100000):∀ (k i:Nat),i+k=a.length→∀ (s:af) (h:aa),s 1=lm b→s 5=.rsl 17 none 1 0 (a.length+b.length) →
  s 18=lm a→s 19=I (a.length:Nat)→s 20=I i→h 17=.ar 1 (aP (bE a b i++List.replicate k 0)) →
  aI 0 [5] (aU (az R (ab false) jT) [1,5,18,19,20] [17] s h) =
   some (.normal,⟨upd (fun _=>.any) 5 (.rsl 17 none 1 0 (a.length+b.length)),upd (fun _=>.dead) 17 (.ar 1 (aP (bE a b a.length)))⟩):=by
 intro k
 induction k with
 | zero =>
  intro i hi s h h1 h5 h18 h19 h20 hh
  have:i=a.length:=by omega
  subst this
  rw [aB]
  simp only [List.replicate_zero,List.append_nil] at hh
  simp only [jT,go_sem,↓reduceIte,ad7,aeb,h1,h5,h18,h19,h20,hh,Int.lt_irrefl]
 | succ k ih =>
  intro i hi s h g1 h5 h18 h19 h20 hh
  have ih':=ih (i+1) (by omega)
  have hx:=dQ ha i
  have hP:(bE a b i).length=i+b.length:=cq _ _
  have hLP:Lb (bE a b i):=pp _ _
  have hsp:bE a b i++List.replicate (k+1) 0=(bE a b i).take i++((bE a b i).drop i++List.replicate (k+1) 0):=by rw [← List.append_assoc,List.take_append_drop]
  have e1:((i:Int) < (a.length:Int))=True:=tt (by omega)
  have e2:bH (aP a) (i:Int)=some (.ipt [U (a.getD i 0:Nat)]):=de rfl (by omega)
  have e3:IntKind.i64.wrap ((i:Int)+1)=((i+1:Nat):Int):=wi (by omega) (by omega)
  have e4:IntKind.i64.wrap ((i:Int)+(b.length:Int))=((i+b.length:Nat):Int):=wi (by omega) (by omega)
  have e5:(0≤((i+b.length:Nat):Int))=True:=tt (by omega)
  have e6:(((i+b.length:Nat):Int) < ((a.length+b.length:Nat):Int))=True:=tt (by omega)
  have lp:=Km (a:=a) hb (x:=a.getD i 0) (i:=i) (n:=a.length+b.length) hx h2 (by omega) b 0 ((bE a b i).take i) ((bE a b i).drop i++List.replicate (k+1) 0) 0 rfl (Nat.zero_le _) (by simp [hP]) (by simp [hP]) (by simp [hP]; omega)
   (nI.2 ⟨tr hLP i,fun y hy=>by rw [List.eq_of_mem_replicate hy]; omega⟩) (by omega)
  rw [LD _ _ _ _ _ (by simp [hP])] at lp
  have ml:(mi (a.getD i 0) 0 b ((bE a b i).drop i)).1.length=b.length:=by rw [xg]; simp [hP]
  have mc:=zQ hx b ((bE a b i).drop i) 0 hb (tr hLP i) (by omega)
  have ps:=LG ha hb (show i < a.length from by omega)
  rw [hsp] at hh
  generalize mi (a.getD i 0) 0 b ((bE a b i).drop i)=r at *
  have f1:IntKind.u32.wrap (r.2:Int)=(r.2:Int):=RM rfl mc
  have hlen:((bE a b i).take i++r.1).length=i+b.length:=by simp [hP,ml]
  have e7:(aP ((bE a b i).take i++(r.1++List.replicate (k+1) 0)))[i+b.length]?=some [U (0:Nat)]:=by
   rw [← List.append_assoc,qR (by simp [hP,ml]),List.getD_eq_getElem?_getD,List.getElem?_append_right (by omega)]
   simp [hlen]
  have e8:(aP ((bE a b i).take i++(r.1++List.replicate (k+1) 0))).set (i+b.length) [U (r.2:Nat)]=aP (bE a b (i+1)++List.replicate k 0):=by
   rw [← List.append_assoc,qS]
   have:=rG ((bE a b i).take i++r.1) (k+1) r.2 0 (by omega)
   rw [hlen] at this
   have e:(bE a b i).take i++r.1++[r.2]=bE a b (i+1):=by rw [List.append_assoc]; exact ps
   rw [this,e]
   rfl
  rw [aB]
  generalize aU _ _ _=L at ih' ⊢
  simp only [jT,go_sem,↓reduceIte,ad7,aeb,g1,h5,h18,h19,h20,hh,e1,e2]
  rw [lp _ _ rfl rfl rfl rfl rfl rfl rfl rfl rfl rfl rfl rfl]
  simp only [go_sem,↓reduceIte,ad7,aea,e3,e4,e5,e6,e7,e8,f1,Int.toNat_natCast,Nat.zero_add]
  exact ih' _ _ rfl rfl rfl rfl rfl rfl
theorem RQ {a b:List Nat} (ha:Lb a) (hb:Lb b) (h1:a.length≤100000) (h2:b.length≤100000):R F.natural_mul [lm a,lm b] []=some (lm (di (a.length+b.length) (ac a*ac b)),[]):=by
 refine aX D4 D3 (zj false) rfl ?_
 have e1:IntKind.i64.wrap ((a.length:Int)+(b.length:Int))=((a.length+b.length:Nat):Int):=wi (by omega) (by omega)
 have e2:=qi (i:=((a.length+b.length:Nat):Int)) (j:=((a.length+b.length:Nat):Int)) rfl rfl (Nat.le_refl _) (by omega)
 have e3:((a.length+b.length)*4≤140737488355328)=True:=tt (by omega)
 have e4:=NT ha hb h1 h2 a.length 0 (by omega)
 have e0:bE a b 0=List.replicate b.length 0:=by
  have:∀ n,di n 0=List.replicate n 0:=fun n=>by
   induction n with
   | zero=>rfl
   | succ n ih=>simp [di,ih,List.replicate_succ]
  simp [bE,ac,this]
 have e5:aP (List.replicate (a.length+b.length) 0)=aP (bE a b 0++List.replicate a.length 0):=by
  rw [e0,List.replicate_append_replicate,Nat.add_comm]
 have e6:bE a b a.length=di (a.length+b.length) (ac a*ac b):=by rw [bE,List.take_length]
 simp only [lT,vr,go_sem,↓reduceIte,ad7,e1,e2,e3,tF,e5]
 rw [e4 _ _ rfl rfl rfl rfl rfl rfl]
 simp only [go_sem,↓reduceIte,aea,aec,e6,cq,Nat.zero_add,Nat.le_refl]
theorem RR {a b:List Nat} (ha:Lb a) (hb:Lb b) (h1:a.length≤256) (h2:b.length≤256):R F.natural_Mul [lm a,lm b] []=some (iZ (ac a*ac b),[]):=by
 refine aX DV DU (yY false) rfl ?_
 have e1:(256 < a.length)=False:=ff (by omega)
 have e2:(256 < b.length)=False:=ff (by omega)
 have la:=dG a ha
 have lb:=dG b hb
 have e3:=RQ (cd (ac a)) (cd (ac b)) (by omega) (by omega)
 rw [bI,bI] at e3
 have e4:=tG (pp ((av (ac a)).length+(av (ac b)).length) (ac a*ac b)) (by rw [cq]; omega)
 rw [pq,Nat.mod_eq_of_lt (by rw [Nat.pow_add]; exact Nat.mul_lt_mul'' (ic _) (ic _))] at e4
 unfold iZ at e4 ⊢
 by_cases hl:256 < (av (ac a*ac b)).length
 ·simp only [hl,if_true] at e4 ⊢
  simp only [jh,qt,go_sem,↓reduceIte,ad7,ad9,ad8,aea,aec,e1,e2,ni,dj ha (by omega),dj hb (by omega),e3,e4]
 ·simp only [hl,if_false] at e4 ⊢
  simp only [jh,qt,go_sem,↓reduceIte,ad7,ad9,ad8,aea,aec,e1,e2,ni,dj ha (by omega),dj hb (by omega),e3,e4]
end Go.Ab
namespace Go.Ab
open Go Go.IntWalk
set_option maxRecDepth 4000
theorem II {n m:Nat} {i j:Int} (hi:i=n) (hj:j=m) (hm:m ≠ 0):dI .rem (.v (.int .i64 i)) (.v (.int .i64 j))=some (.v (.int .i64 ((n % m:Nat):Int))):=by
 subst hi hj
 rw [Ix,if_neg (by omega),Int.tmod_eq_emod_of_nonneg (by omega)]
 rfl
theorem IJ {n m:Nat} {i j:Int} (hi:i=n) (hj:j=m) (hm:m ≠ 0) (hn:n < 9223372036854775808):dI .quo (.v (.int .i64 i)) (.v (.int .i64 j))=some (.v (.int .i64 ((n / m:Nat):Int))):=by
 subst hi hj
 rw [Py,if_neg (by omega),Int.tdiv_eq_ediv_of_nonneg (by omega)]
 have:n / m≤n:=Nat.div_le_self _ _
 rw [wi (n:=n / m) (by simp) (by omega)]
theorem Pe {n k:Nat} {i:Int} {kk:IntKind} {j:Int} (hi:i=n) (hj:j=k) (hk:k≤64) (h:n*2 ^ k < 18446744073709551616):dI .shl (.v (.int .u64 i)) (.v (.int kk j))=some (.v (.int .u64 ((n*2 ^ k:Nat):Int))):=by
 subst hi hj
 rw [Pz,if_neg (by omega)]
 have:min (k:Int).toNat IntKind.u64.bits=k:=by simp [IntKind.bits]; omega
 rw [this,qh (n:=n*2 ^ k) (by simp) h]
theorem RU {m n:Nat} {i j:Int} (hi:i=m) (hj:j=n) (hm:m < 18446744073709551616) (hn:n < 18446744073709551616):dI .or (.v (.int .u64 i)) (.v (.int .u64 j))=some (.v (.int .u64 ((m ||| n:Nat):Int))):=by
 subst hi hj
 rw [Rr]
 have e:(BitVec.ofInt IntKind.u64.bits (m:Int) ||| BitVec.ofInt IntKind.u64.bits (n:Int)).toNat=m ||| n:=by
  show (BitVec.ofInt 64 (m:Int) ||| BitVec.ofInt 64 (n:Int)).toNat=m ||| n
  rw [BitVec.toNat_or]
  simp
  rw [Nat.mod_eq_of_lt hm,Nat.mod_eq_of_lt hn]
 rw [e]
 rw [qh rfl (Nat.or_lt_two_pow (n:=64) hm hn)]
theorem LH {x c k:Nat} (hc:c < 2 ^ k):x*2 ^ k ||| c=x*2 ^ k+c:=by
 have:=Nat.shiftLeft_add_eq_or_of_lt hc x
 rw [Nat.shiftLeft_eq] at this
 exact this.symm
def fQ (a:List Nat) (r:Nat):Nat→Nat
 | 0=>0
 | i+1=>(a.getD i 0*2 ^ r+fQ a r i) / 4294967296
def nK (a:List Nat) (r i:Nat):List Nat:=(List.range i).map fun j=>(a.getD j 0*2 ^ r+fQ a r j) % 4294967296
theorem Bl {a:List Nat} (ha:Lb a) {r:Nat}:∀ i,fQ a r i < 2 ^ r
 | 0=>by simp only [fQ]; exact Nat.two_pow_pos r
 | i+1=>by
  have ih:=Bl ha (r:=r) i
  have:=dQ ha i
  simp only [fQ]
  rw [Nat.div_lt_iff_lt_mul (by omega)]
  have h1:a.getD i 0*2 ^ r+2 ^ r≤4294967296*2 ^ r:=by
   rw [← Nat.succ_mul]
   exact Nat.mul_le_mul_right _ (by omega)
  rw [Nat.mul_comm 4294967296] at h1
  omega
theorem qM (a:List Nat) (r i:Nat):(nK a r i).length=i:=by simp [nK]
theorem RW (a:List Nat) (r i:Nat):Lb (nK a r i):=fun x hx=>by
 simp only [nK,List.mem_map] at hx
 obtain ⟨j,_,rfl⟩:=hx
 omega
theorem IK (a:List Nat) (r:Nat):∀ i,ac (nK a r i)+4294967296 ^ i*fQ a r i=ac (a.take i)*2 ^ r
 | 0=>by simp [nK,fQ,ac]
 | i+1=>by
  have ih:=IK a r i
  rw [jw a i]
  simp only [nK] at ih ⊢
  rw [rF,Nat.pow_succ]
  have e:fQ a r (i+1)*4294967296+(a.getD i 0*2 ^ r+fQ a r i) % 4294967296=a.getD i 0*2 ^ r+fQ a r i:=by
   simp only [fQ]
   omega
  have h1:4294967296 ^ i*(fQ a r (i+1)*4294967296+(a.getD i 0*2 ^ r+fQ a r i) % 4294967296)=4294967296 ^ i*(a.getD i 0*2 ^ r+fQ a r i):=by rw [e]
  simp only [Nat.mul_add] at h1
  have h2:4294967296 ^ i*4294967296*fQ a r (i+1)=4294967296 ^ i*(fQ a r (i+1)*4294967296):=by rw [Nat.mul_assoc,Nat.mul_comm 4294967296]
  have h3:(ac (a.take i)+4294967296 ^ i*a.getD i 0)*2 ^ r=ac (a.take i)*2 ^ r+4294967296 ^ i*(a.getD i 0*2 ^ r):=by rw [Nat.add_mul,Nat.mul_assoc]
  omega
theorem NU {a:List Nat} (ha:Lb a) {n q:Nat} (h1:a.length≤100000) (hq:q≤100000):∀ (k i:Nat),i+k=a.length→∀ (s:af) (h:aa),s 1=I (n:Nat)→s 5=.rsl 20 none 1 0 (q+i)→s 6=W (fQ a (n % 32) i:Nat)→s 21=lm a→s 22=I (a.length:Nat)→s 23=I i →
  h 20=.ar 1 (aP (List.replicate q 0++nK a (n % 32) i))→h 38=.dead →
  aI 0 [5,6] (aU (az R (ab false) jU) [1,5,6,21,22,23] [20,38] s h) =
   some (.normal,⟨upd (upd (fun _=>.any) 6 (W (fQ a (n % 32) a.length:Nat))) 5 (.rsl 20 none 1 0 (q+a.length)),upd (upd (fun _=>.dead) 38 .dead) 20 (.ar 1 (aP (List.replicate q 0++nK a (n % 32) a.length)))⟩):=by
 intro k
 induction k with
 | zero =>
  intro i hi s h g1 h5 h6 h21 h22 h23 hh hh2
  have:i=a.length:=by omega
  subst this
  rw [aB]
  simp only [jU,go_sem,↓reduceIte,ad7,aeb,g1,h5,h6,h21,h22,h23,hh,hh2,Int.lt_irrefl]
 | succ k ih =>
  intro i hi s h g1 h5 h6 h21 h22 h23 hh hh2
  have ih':=ih (i+1) (by omega)
  have hx:=dQ ha i
  have hr:n % 32 < 32:=Nat.mod_lt _ (by omega)
  have hc:=Bl ha (r:=n % 32) i
  have hp:2 ^ (n % 32)≤2 ^ 31:=Nat.pow_le_pow_right (by omega) (by omega)
  have hxp:a.getD i 0*2 ^ (n % 32)≤4294967295*2 ^ 31:=Nat.mul_le_mul (by omega) hp
  have e1:((i:Int) < (a.length:Int))=True:=tt (by omega)
  have e2:bH (aP a) (i:Int)=some (.ipt [U (a.getD i 0:Nat)]):=de rfl (by omega)
  have e3:IntKind.i64.wrap ((i:Int)+1)=((i+1:Nat):Int):=wi (by omega) (by omega)
  have e4:IntKind.u64.wrap (a.getD i 0:Int)=(a.getD i 0:Int):=qh rfl (by omega)
  have e5:=II (n:=n) (m:=32) (j:=32) rfl rfl (by omega)
  have e6:=Pe (n:=a.getD i 0) (k:=n % 32) (kk:=.i64) rfl rfl (by omega) (by omega)
  have e7:=RU (m:=a.getD i 0*2 ^ (n % 32)) (n:=fQ a (n % 32) i) rfl rfl (by omega) (by omega)
  rw [LH hc] at e7
  have e8:IntKind.u32.wrap ((a.getD i 0*2 ^ (n % 32)+fQ a (n % 32) i:Nat):Int)=(((a.getD i 0*2 ^ (n % 32)+fQ a (n % 32) i) % 4294967296:Nat):Int):=GU rfl
  have e9:=Bi (n:=a.getD i 0*2 ^ (n % 32)+fQ a (n % 32) i) (k:=32) (kk:=.u64) (j:=32) rfl rfl (by omega)
  have f1:aP (List.replicate q 0++nK a (n % 32) i)++[[U ((a.getD i 0*2 ^ (n % 32)+fQ a (n % 32) i) % 4294967296:Nat)]]=aP (List.replicate q 0++nK a (n % 32) (i+1)):=by
   rw [show [[U ((a.getD i 0*2 ^ (n % 32)+fQ a (n % 32) i) % 4294967296:Nat)]]=aP [(a.getD i 0*2 ^ (n % 32)+fQ a (n % 32) i) % 4294967296] from rfl,Bg,List.append_assoc]
   simp [nK,List.range_succ]
  have f2:(q+i=(List.replicate q 0++nK a (n % 32) i).length)=True:=tt (by simp [qM])
  have f3:((q+i+1)*4≤140737488355328)=True:=tt (by omega)
  rw [aB]
  generalize aU _ _ _=L at ih' ⊢
  simp only [jU,go_sem,↓reduceIte,ad7,aea,aec,aeb,g1,h5,h6,h21,h22,h23,hh,hh2,e1,e2,e3,e4,e5,e6,e7,e8,e9,f1,f2,f3,true_or,Nat.zero_add,Nat.le_refl]
  exact ih' _ _ rfl rfl rfl rfl rfl rfl rfl rfl
theorem xh (n:Nat):4294967296 ^ (n / 32)*2 ^ (n % 32)=2 ^ n:=by
 rw [show (4294967296:Nat)=2 ^ 32 from rfl,← Nat.pow_mul,← Nat.pow_add]
 congr 1
 omega
theorem P4 {a:List Nat} (ha:Lb a) (n:Nat):List.replicate (n / 32) 0++nK a (n % 32) a.length++[fQ a (n % 32) a.length]=di (n / 32+a.length+1) (ac a*2 ^ n):=by
 have hr:n % 32 < 32:=Nat.mod_lt _ (by omega)
 have hc:=Bl ha (r:=n % 32) a.length
 have hp:2 ^ (n % 32)≤2 ^ 31:=Nat.pow_le_pow_right (by omega) (by omega)
 have h:=IK a (n % 32) a.length
 rw [List.take_length] at h
 have hLb:Lb (List.replicate (n / 32) 0++nK a (n % 32) a.length++[fQ a (n % 32) a.length]) :=
  nI.2 ⟨nI.2 ⟨fun y hy=>by rw [List.eq_of_mem_replicate hy]; omega,RW _ _ _⟩,eO.2 ⟨by omega,AO⟩⟩
 have hv:ac (List.replicate (n / 32) 0++nK a (n % 32) a.length++[fQ a (n % 32) a.length])=ac a*2 ^ n:=by
  rw [List.append_assoc,fh,C8,fh,qM,List.length_replicate]
  simp only [ac,Nat.mul_zero,Nat.add_zero,Nat.zero_add]
  rw [h,← xh n,Nat.mul_left_comm]
 have:=uL hLb
 rw [hv] at this
 rw [← this]
 congr 1
 simp [qM]
 omega
theorem LI {a:List Nat} (ha:Lb a) {n:Nat} (h1:a.length≤100000) (hn:n≤65536):R F.natural_shl [lm a,I n] []=some (lm (di (n / 32+(av (ac a)).length+1) (ac a*2 ^ n)),[]):=by
 refine aX Ey Ew (zK false) rfl ?_
 have la:=dG a ha
 have hc:=Bl (cd (ac a)) (r:=n % 32) (av (ac a)).length
 have hp:2 ^ (n % 32)≤2 ^ 31:=Nat.pow_le_pow_right (by omega) (by have:n % 32 < 32:=Nat.mod_lt _ (by omega); omega)
 have e1:=IJ (n:=n) (m:=32) (j:=32) rfl rfl (by omega) (by omega)
 have e2:IntKind.i64.wrap (((n / 32:Nat):Int)+((av (ac a)).length:Int))=((n / 32+(av (ac a)).length:Nat):Int):=wi (by omega) (by omega)
 have e3:IntKind.i64.wrap (((n / 32+(av (ac a)).length:Nat):Int)+1)=((n / 32+(av (ac a)).length+1:Nat):Int):=wi (by omega) (by omega)
 have e4:=qi (i:=((n / 32:Nat):Int)) (j:=((n / 32+(av (ac a)).length+1:Nat):Int)) rfl rfl (by omega) (by omega)
 have e5:((n / 32+(av (ac a)).length+1)*4≤140737488355328)=True:=tt (by omega)
 have e6:=NU (cd (ac a)) (n:=n) (q:=n / 32) (by omega) (by omega) (av (ac a)).length 0 (by omega)
 have e7:aP (List.replicate (n / 32) 0)=aP (List.replicate (n / 32) 0++nK (av (ac a)) (n % 32) 0):=by simp [nK]
 have e8:IntKind.u32.wrap ((fQ (av (ac a)) (n % 32) (av (ac a)).length:Nat):Int)=((fQ (av (ac a)) (n % 32) (av (ac a)).length:Nat):Int):=RM rfl (by omega)
 have f1:aP (List.replicate (n / 32) 0++nK (av (ac a)) (n % 32) (av (ac a)).length)++[[U (fQ (av (ac a)) (n % 32) (av (ac a)).length:Nat)]]=aP (di (n / 32+(av (ac a)).length+1) (ac a*2 ^ n)):=by
  have:=P4 (cd (ac a)) n
  rw [bI] at this
  rw [← this,show [[U (fQ (av (ac a)) (n % 32) (av (ac a)).length:Nat)]]=aP [fQ (av (ac a)) (n % 32) (av (ac a)).length] from rfl,Bg]
 have f2:(n / 32+(av (ac a)).length=(List.replicate (n / 32) 0++nK (av (ac a)) (n % 32) (av (ac a)).length).length)=True:=tt (by simp [qM])
 simp only [lX,vC,go_sem,↓reduceIte,ad7,ad9,ad8,dj ha (by omega),e1,e2,e3,e4,e5,tF,e7]
 rw [e6 _ _ rfl rfl rfl rfl rfl rfl rfl rfl]
 simp only [go_sem,↓reduceIte,ad7,aea,aec,e8,f1,f2,e5,true_or,Nat.zero_add,Nat.le_refl,cq]
theorem RX {a:List Nat} (ha:Lb a) {n:Int} (h1:a.length≤256):R F.natural_Shl [lm a,I n] []=some (if n < 0∨65536 < n then .tup [lm [],I 2] else iZ (ac a*2 ^ n.toNat),[]):=by
 refine aX Em El (zG false) rfl ?_
 have e1:(256 < a.length)=False:=ff (by omega)
 by_cases hn:n < 0
 ·simp only [eM,kt,go_sem,↓reduceIte,ad7,ad9,ad8,aea,aec,e1,j6,hn,true_or]
 by_cases hn2:65536 < n
 ·simp only [eM,kt,go_sem,↓reduceIte,ad7,ad9,ad8,aea,aec,e1,j6,hn,hn2,or_true]
 obtain ⟨m,rfl⟩:=Int.eq_ofNat_of_zero_le (show 0≤n by omega)
 have la:=dG a ha
 have e3:ac (di (m / 32+(av (ac a)).length+1) (ac a*2 ^ m))=ac a*2 ^ m:=by
  rw [pq,Nat.mod_eq_of_lt]
  have h:=ic (ac a)
  have h2:2 ^ m≤4294967296 ^ (m / 32+1):=by
   rw [show (4294967296:Nat)=2 ^ 32 from rfl,← Nat.pow_mul]
   exact Nat.pow_le_pow_right (by omega) (by omega)
  rw [show m / 32+(av (ac a)).length+1=(av (ac a)).length+(m / 32+1) from by omega,Nat.pow_add]
  exact Nat.mul_lt_mul_of_lt_of_le h h2 (Nat.pow_pos (by omega))
 have e4:=tG (pp (m / 32+(av (ac a)).length+1) (ac a*2 ^ m)) (by rw [cq]; omega)
 rw [e3] at e4
 unfold iZ at e4 ⊢
 by_cases hl:256 < (av (ac a*2 ^ m)).length
 ·simp only [hl,if_true] at e4
  simp only [eM,kt,go_sem,↓reduceIte,ad7,ad9,ad8,aea,aec,e1,j6,hn,hn2,LI ha (n:=m) (by omega) (by omega),e4,or_false,Int.toNat_natCast,hl]
 ·simp only [hl,if_false] at e4
  simp only [eM,kt,go_sem,↓reduceIte,ad7,ad9,ad8,aea,aec,e1,j6,hn,hn2,LI ha (n:=m) (by omega) (by omega),e4,or_false,Int.toNat_natCast,hl]
theorem G2 {l:List Nat} (h:Lb l) (i:Nat):ac (l.drop i)=ac l / 4294967296 ^ i:=by
 rcases Nat.lt_or_ge l.length i with hi | hi
 ·rw [List.drop_of_length_le (by omega)]
  have:=jn h
  have h2:4294967296 ^ l.length≤4294967296 ^ i:=Nat.pow_le_pow_right (by omega) (by omega)
  rw [Nat.div_eq_of_lt (by omega)]
  rfl
 ·have h1:ac l=ac (l.take i)+4294967296 ^ i*ac (l.drop i):=by
   conv=>lhs; rw [← List.take_append_drop i l]
   rw [fh,List.length_take,Nat.min_eq_left hi]
  have h2:=jn (qQ h i)
  rw [List.length_take,Nat.min_eq_left hi] at h2
  rw [h1,Nat.add_mul_div_left _ _ (Nat.pow_pos (by omega)),Nat.div_eq_of_lt h2]
  omega
theorem ej (l:List Nat) (i:Nat):ac (l.drop i)=l.getD i 0+4294967296*ac (l.drop (i+1)):=by
 rcases Nat.lt_or_ge i l.length with hi | hi
 ·rw [List.drop_eq_getElem_cons hi,ac]
  simp [List.getD_eq_getElem?_getD,hi]
 ·rw [List.drop_of_length_le hi,List.drop_of_length_le (by omega)]
  simp [List.getD_eq_getElem?_getD,List.getElem?_eq_none hi,ac]
def uS (a:List Nat) (r i:Nat):Nat:=(a.getD i 0+4294967296*a.getD (i+1) 0) / 2 ^ r % 4294967296
theorem P5 {a:List Nat} (ha:Lb a) {r:Nat} (hr:r≤32) (i:Nat):uS a r i=IG (ac a / 2 ^ r) i:=by
 unfold uS IG
 have e0:ac a / 2 ^ r / 4294967296 ^ i=ac (a.drop i) / 2 ^ r:=by rw [Nat.div_div_eq_div_mul,Nat.mul_comm,← Nat.div_div_eq_div_mul,← G2 ha]
 rw [e0,ej a i,ej a (i+1)]
 generalize ac (a.drop (i+1+1))=w
 have e:(4294967296:Nat)=2 ^ r*2 ^ (32 - r):=by rw [← Nat.pow_add,show r+(32 - r)=32 from by omega]
 have h1:a.getD i 0+4294967296*(a.getD (i+1) 0+4294967296*w)=(a.getD i 0+4294967296*a.getD (i+1) 0)+2 ^ r*(2 ^ (32 - r)*4294967296*w):=by
  have:2 ^ r*(2 ^ (32 - r)*4294967296*w)=4294967296*4294967296*w:=by
   rw [← Nat.mul_assoc,← Nat.mul_assoc,← e]
  rw [this,Nat.mul_add]
  omega
 rw [h1,Nat.add_mul_div_left _ _ (Nat.two_pow_pos r),Nat.mul_assoc,Nat.mul_left_comm,Nat.add_mul_mod_self_left]
def pA (a:List Nat) (r i:Nat):List Nat:=(List.range i).map (uS a r)
theorem pQ (a:List Nat) (r i:Nat):(pA a r i).length=i:=by simp [pA]
theorem NV {a:List Nat} (ha:Lb a) {r:Nat} (hr:r≤32):pA a r a.length=di a.length (ac a / 2 ^ r):=by
 refine GW (pQ _ _ _) fun i hi=>?_
 rw [← P5 ha hr]
 simp [pA,hi]
theorem NW {a:List Nat} (ha:Lb a) {n:Nat} (h1:a.length≤100000):∀ (k i:Nat),i+k=a.length→∀ (s:af) (h:aa),s 0=lm a→s 1=I (n:Nat)→s 5=.rsl 22 none 1 0 a.length→s 23=lm a→s 24=I (a.length:Nat)→s 25=I i →
  h 22=.ar 1 (aP (pA a (n % 32) i++List.replicate k 0)) →
  aI 0 [5] (aU (az R (ab false) gL) [0,1,5,23,24,25] [22] s h) =
   some (.normal,⟨upd (fun _=>.any) 5 (.rsl 22 none 1 0 a.length),upd (fun _=>.dead) 22 (.ar 1 (aP (pA a (n % 32) a.length)))⟩):=by
 intro k
 induction k with
 | zero =>
  intro i hi s h h0 g1 h5 h23 h24 h25 hh
  have:i=a.length:=by omega
  subst this
  rw [aB]
  simp only [List.replicate_zero,List.append_nil] at hh
  simp only [gL,go_sem,↓reduceIte,ad7,aeb,h0,g1,h5,h23,h24,h25,hh,Int.lt_irrefl]
 | succ k ih =>
  intro i hi s h h0 g1 h5 h23 h24 h25 hh
  have ih':=ih (i+1) (by omega)
  have hx:=dQ ha i
  have hy:=dQ ha (i+1)
  have hr:n % 32 < 32:=Nat.mod_lt _ (by omega)
  have e1:((i:Int) < (a.length:Int))=True:=tt (by omega)
  have e2:bH (aP a) (i:Int)=some (.ipt [U (a.getD i 0:Nat)]):=de rfl (by omega)
  have e3:IntKind.i64.wrap ((i:Int)+1)=((i+1:Nat):Int):=wi (by omega) (by omega)
  have e4:IntKind.u64.wrap (a.getD i 0:Int)=(a.getD i 0:Int):=qh rfl (by omega)
  have e5:=II (n:=n) (m:=32) (j:=32) rfl rfl (by omega)
  have e6:(0≤(i:Int))=True:=tt (by omega)
  have e7:(aP (pA a (n % 32) i++List.replicate (k+1) 0))[i]?=some [U (0:Nat)]:=by
   rw [qR (by simp [pQ])]
   simp [List.getD_eq_getElem?_getD,pQ]
  have e8:(aP (pA a (n % 32) i++List.replicate (k+1) 0)).set i [U (uS a (n % 32) i:Nat)]=aP (pA a (n % 32) (i+1)++List.replicate k 0):=by
   rw [qS]
   have:=rG (pA a (n % 32) i) (k+1) (uS a (n % 32) i) 0 (by omega)
   rw [pQ] at this
   rw [this]
   simp [pA,List.range_succ]
  rw [aB]
  generalize aU _ _ _=L at ih' ⊢
  by_cases hl:i+1 < a.length
  ·have f1:(((i+1:Nat):Int) < (a.length:Int))=True:=tt (by omega)
   have f2:bH (aP a) ((i+1:Nat):Int)=some (.ipt [U (a.getD (i+1) 0:Nat)]):=de rfl hl
   have f3:IntKind.u64.wrap (a.getD (i+1) 0:Int)=(a.getD (i+1) 0:Int):=qh rfl (by omega)
   have f4:=Pe (n:=a.getD (i+1) 0) (k:=32) (kk:=.u64) (j:=32) rfl rfl (by omega) (by omega)
   have f5:=RU (m:=a.getD i 0) (n:=a.getD (i+1) 0*2 ^ 32) rfl rfl (by omega) (by omega)
   rw [Nat.or_comm,LH (show a.getD i 0 < 2 ^ 32 from by omega)] at f5
   have f6:=Bi (n:=a.getD (i+1) 0*2 ^ 32+a.getD i 0) (k:=n % 32) (kk:=.i64) rfl rfl (by omega)
   have f7:IntKind.u32.wrap (((a.getD (i+1) 0*2 ^ 32+a.getD i 0) / 2 ^ (n % 32):Nat):Int)=((uS a (n % 32) i:Nat):Int):=by
    rw [GU rfl]
    unfold uS
    rw [show a.getD (i+1) 0*2 ^ 32+a.getD i 0=a.getD i 0+4294967296*a.getD (i+1) 0 from by omega]
   simp only [gL,go_sem,↓reduceIte,ad7,aea,aeb,h0,g1,h5,h23,h24,h25,hh,e1,e2,e3,e4,e5,e6,e7,e8,f1,f2,f3,f4,f5,f6,f7,Int.toNat_natCast,Nat.zero_add]
   exact ih' _ _ rfl rfl rfl rfl rfl rfl rfl
  ·have f1:(((i+1:Nat):Int) < (a.length:Int))=False:=ff (by omega)
   have f2:a.getD (i+1) 0=0:=by simp [List.getD_eq_getElem?_getD,List.getElem?_eq_none (show a.length≤i+1 from by omega)]
   have f6:=Bi (n:=a.getD i 0) (k:=n % 32) (kk:=.i64) rfl rfl (by omega)
   have f7:IntKind.u32.wrap ((a.getD i 0 / 2 ^ (n % 32):Nat):Int)=((uS a (n % 32) i:Nat):Int):=by
    rw [GU rfl]
    unfold uS
    rw [f2]
    rfl
   simp only [gL,go_sem,↓reduceIte,ad7,aea,aeb,h0,g1,h5,h23,h24,h25,hh,e1,e2,e3,e4,e5,e6,e7,e8,f1,f6,f7,Int.toNat_natCast,Nat.zero_add]
   exact ih' _ _ rfl rfl rfl rfl rfl rfl rfl
theorem RY {a:List Nat} (ha:Lb a) {n:Nat} (h1:a.length≤100000) (hn:n≤100000000):R F.natural_shr [lm a,I n] []=some (lm (di ((av (ac a)).length - n / 32) (ac a / 2 ^ n)),[]):=by
 refine aX Ej Ei (zF false) rfl ?_
 have la:=dG a ha
 have e1:=IJ (n:=n) (m:=32) (j:=32) rfl rfl (by omega) (by omega)
 by_cases hl:(av (ac a)).length≤n / 32
 ·have e2:(((av (ac a)).length:Int)≤((n / 32:Nat):Int))=True:=tt (by omega)
  have e3:di ((av (ac a)).length - n / 32) (ac a / 2 ^ n)=[]:=by rw [show (av (ac a)).length - n / 32=0 from by omega]; rfl
  simp only [jl,qv,go_sem,↓reduceIte,ad7,ad9,ad8,dj ha (by omega),e1,e2,e3]
 ·have e2:(((av (ac a)).length:Int)≤((n / 32:Nat):Int))=False:=ff (by omega)
  have hD:((av (ac a)).drop (n / 32)).length=(av (ac a)).length - n / 32:=by simp
  have hLD:Lb ((av (ac a)).drop (n / 32)):=tr (cd _) _
  have e3:dJ 1 (lm (av (ac a))) (some (I (n / 32:Nat))) none none=some (lm ((av (ac a)).drop (n / 32))):=by
   rw [GS (a:=n / 32) (b:=(av (ac a)).length) (uQ rfl (by omega)) rfl (Nat.le_refl _),List.take_of_length_le (by omega)]
  have hv:ac ((av (ac a)).drop (n / 32)) / 2 ^ (n % 32)=ac a / 2 ^ n:=by
   rw [G2 (cd _),bI,Nat.div_div_eq_div_mul,xh]
  have e6:=NV hLD (r:=n % 32) (by omega)
  rw [hv,hD] at e6
  generalize (av (ac a)).drop (n / 32)=D at *
  have e4:=qi (i:=(D.length:Int)) (j:=(D.length:Int)) rfl rfl (Nat.le_refl _) (by omega)
  have e5:(D.length*4≤140737488355328)=True:=tt (by omega)
  have e7:=NW hLD (n:=n) (by omega) D.length 0 (by omega)
  have e8:aP (List.replicate D.length 0)=aP (pA D (n % 32) 0++List.replicate D.length 0):=by simp [pA]
  rw [← hD] at e6 ⊢
  simp only [jl,qv,go_sem,↓reduceIte,ad7,ad9,ad8,dj ha (by omega),e1,e2,e3,e4,e5,tF,e8]
  rw [e7 _ _ rfl rfl rfl rfl rfl rfl rfl]
  simp only [go_sem,↓reduceIte,aea,aec,e6,cq,Nat.zero_add,Nat.le_refl]
theorem RZ {a:List Nat} (ha:Lb a) {n:Int} (h1:a.length≤256):R F.natural_Shr [lm a,I n] []=some (if n < 0∨65536 < n then .tup [lm [],I 2] else .tup [lm (av (ac a / 2 ^ n.toNat)),I 0],[]):=by
 refine aX D7 D6 (zp false) rfl ?_
 have e1:(256 < a.length)=False:=ff (by omega)
 by_cases hn:n < 0
 ·simp only [gx,mT,go_sem,↓reduceIte,ad7,ad9,ad8,aea,aec,e1,j6,hn,true_or]
 by_cases hn2:65536 < n
 ·simp only [gx,mT,go_sem,↓reduceIte,ad7,ad9,ad8,aea,aec,e1,j6,hn,hn2,or_true]
 obtain ⟨m,rfl⟩:=Int.eq_ofNat_of_zero_le (show 0≤n by omega)
 have la:=dG a ha
 have hlt:=ic (ac a)
 have h32:ac a / 2 ^ m < 4294967296 ^ ((av (ac a)).length - m / 32):=by
  rw [Nat.div_lt_iff_lt_mul (Nat.two_pow_pos m),← xh m]
  refine Nat.lt_of_lt_of_le hlt ?_
  rw [← Nat.mul_assoc,← Nat.pow_add]
  refine Nat.le_trans (Nat.pow_le_pow_right (by omega) (show (av (ac a)).length≤(av (ac a)).length - m / 32+m / 32 by omega)) (Nat.le_mul_of_pos_right _ (Nat.two_pow_pos _))
 have e3:ac (di ((av (ac a)).length - m / 32) (ac a / 2 ^ m))=ac a / 2 ^ m:=by
  rw [pq,Nat.mod_eq_of_lt h32]
 have e4:=tG (pp ((av (ac a)).length - m / 32) (ac a / 2 ^ m)) (by rw [cq]; omega)
 rw [e3] at e4
 have hl:¬ 256 < (av (ac a / 2 ^ m)).length:=by
  have:=mX h32
  omega
 unfold iZ at e4
 simp only [hl,if_false] at e4
 simp only [gx,mT,go_sem,↓reduceIte,ad7,ad9,ad8,aea,aec,e1,j6,hn,hn2,RY ha (n:=m) (by omega) (by omega),e4,or_false,Int.toNat_natCast]
end Go.Ab
namespace Go.Ab
open Go Go.IntWalk
set_option maxRecDepth 4000
def aq (n:Nat):Nat:=if n=0 then 0 else n.log2+1
theorem dm {n k:Nat}:aq n≤k↔n < 2 ^ k:=by
 unfold aq
 split
 ·rename_i h
  subst h
  exact ⟨fun _=>Nat.two_pow_pos k,fun _=>Nat.zero_le _⟩
 ·rename_i h
  rw [Nat.succ_le_iff]
  exact Nat.log2_lt h
theorem LJ {x y k:Nat} (h:x≤y) (h2:aq y≤k):aq x≤k:=dm.2 (Nat.lt_of_le_of_lt h (dm.1 h2))
theorem kw {n k:Nat}:k < aq n↔2 ^ k≤n:=by
 have:=@dm n k
 omega
theorem LK:aq 0=0:=rfl
theorem lD {n:Nat} (h:n ≠ 0):0 < aq n:=by
 rw [kw]
 omega
theorem zR (n k:Nat):aq (n / 2 ^ k)=aq n - k:=by
 have h:∀ j,aq (n / 2 ^ k)≤j↔aq n - k≤j:=fun j=>by
  rw [dm,Nat.div_lt_iff_lt_mul (Nat.two_pow_pos k),← Nat.pow_add,← dm]
  omega
 have h1:=(h _).1 (Nat.le_refl _)
 have h2:=(h _).2 (Nat.le_refl _)
 omega
theorem lE {n:Nat} (k:Nat) (hn:n ≠ 0):aq (n*2 ^ k)=aq n+k:=by
 have h:=zR (n*2 ^ k) k
 rw [Nat.mul_div_cancel _ (Nat.two_pow_pos k)] at h
 have h2:k < aq (n*2 ^ k):=by
  rw [kw]
  exact Nat.le_mul_of_pos_left _ (by omega)
 omega
def EO:ByteArray:=⟨#[0,1,2,2,3,3,3,3,4,4,4,4,4,4,4,4,5,5,5,5,5,5,5,5,5,5,5,5,5,5,5,5,6,6,6,6,6,6,6,6,6,6,6,6,6,6,6,6,6,6,6,6,6,6,6,6,6,6,6,6,6,6,6,6,7,7,7,7,7,7,7,7,7,7,7,7,7,7,7,7,7,7,7,7,7,7,7,7,7,7,7,7,7,7,7,7,7,7,7,7,7,7,7,7,7,7,7,7,7,7,7,7,7,7,7,7,7,7,7,7,7,7,7,7,7,7,7,7,8,8,8,8,8,8,8,8,8,8,8,8,8,8,8,8,8,8,8,8,8,8,8,8,8,8,8,8,8,8,8,8,8,8,8,8,8,8,8,8,8,8,8,8,8,8,8,8,8,8,8,8,8,8,8,8,8,8,8,8,8,8,8,8,8,8,8,8,8,8,8,8,8,8,8,8,8,8,8,8,8,8,8,8,8,8,8,8,8,8,8,8,8,8,8,8,8,8,8,8,8,8,8,8,8,8,8,8,8,8,8,8,8,8,8,8,8,8,8,8,8,8,8,8,8,8,8,8]⟩
theorem NX:((List.range 256).all fun x=>(EO[x]?).map (·.toNat) == some (aq x))=true:=by decide +kernel
theorem Kn {x:Nat} (h:x < 256):xA (.v (.string EO)) (.v (.int .u8 x))=some (.v (.int .u8 (aq x:Nat))):=by
 have:=List.all_eq_true.1 NX x (List.mem_range.2 h)
 simp only [beq_iff_eq] at this
 simp only [xA]
 rw [if_pos (by omega),Int.toNat_natCast]
 cases hq:EO[x]? with
 | none=>rw [hq] at this; cases this
 | some y =>
  rw [hq] at this
  simp only [Option.map_some,Option.some.injEq] at this ⊢
  rw [this]
theorem uT:wT=.seq (.ops [0,2] [co 2 (.mv (.c (.v (.int .i64 0))))]) (.seq (.seq (.ops [0,2,4] [cm 3 0,co 4 (.bin .geq (.t 3) (.c (.v (.int .u32 65536))))]) (.cond (.t 4) (.seq (.ops [0] [cm 5 0,co 6 (.bin .shr (.t 5) (.c (.v (.int .u64 16)))),cm 0 6]) (.ops [0,2] [co 2 (.mv (.c (.v (.int .i64 16))))])) (.skip))) (.seq (.seq (.ops [0,2,8] [cm 7 0,co 8 (.bin .geq (.t 7) (.c (.v (.int .u32 256))))]) (.cond (.t 8) (.seq (.ops [0,2] [cm 9 0,co 10 (.bin .shr (.t 9) (.c (.v (.int .u64 8)))),cm 0 10]) (.ops [0,2] [cm 11 2,co 12 (.bin .add (.t 11) (.c (.v (.int .i64 8)))),cm 2 12])) (.skip))) (.seq (.ops [2] [cm 13 2,cm 14 0,co 15 (.cv .u8 (.t 14)),co 16 (.idxS (.c (.v (.string EO))) (.t 15)),co 17 (.cv .i64 (.t 16)),co 18 (.bin .add (.t 13) (.t 17)),cm 2 18]) (.ret)))):=rfl
theorem w8 {i:Int} {n:Nat} (h:i=n) (hn:n < 256):IntKind.u8.wrap i=n:=by rw [IntKind.wrap_u8]; omega
theorem Ko {n k:Nat} {i:Int} {kk:IntKind} {j:Int} (hi:i=n) (hj:j=k) (hk:k≤32):dI .shr (.v (.int .u32 i)) (.v (.int kk j))=some (.v (.int .u32 ((n / 2 ^ k:Nat):Int))):=by
 subst hi hj
 rw [BS,if_neg (by omega)]
 have:min (k:Int).toNat IntKind.u32.bits=k:=by simp [IntKind.bits]; omega
 rw [this]
 simp only [Option.some.injEq,AV.v.injEq,Value.int.injEq,true_and]
 rw [Int.fdiv_eq_ediv_of_nonneg _ (Int.pow_nonneg (by omega))]
 simp
theorem sj {x:Nat} (k:Nat) (h:2 ^ k≤x):aq x=k+aq (x / 2 ^ k):=by
 have:=zR x k
 have:=kw.2 h
 omega
theorem NY {x:Nat} (hx:x < 4294967296):R F.bits_Len32 [U x] []=some (I (aq x:Nat),[]):=by
 refine aX GJ GI (Bd false) rfl ?_
 have fin:∀ {y:Nat},y < 256→∀ {n:Nat},n≤24→IntKind.u8.wrap (y:Int)=y∧IntKind.i64.wrap (aq y:Int)=(aq y:Int)∧IntKind.i64.wrap ((n:Int)+(aq y:Int))=((n+aq y:Nat):Int):=fun {y} hy {n} hn=>by
  have:aq y≤8:=dm.2 hy
  exact ⟨w8 rfl hy,wi rfl (by omega),wi (by omega) (by omega)⟩
 have s16:=Ko (n:=x) (k:=16) (kk:=.u64) (j:=16) rfl rfl (by omega)
 by_cases h1:65536≤x
 ·have e1:((65536:Int)≤(x:Int))=True:=tt (by omega)
  have b1:=sj 16 h1
  have s8:=Ko (n:=x / 2 ^ 16) (k:=8) (kk:=.u64) (j:=8) rfl rfl (by omega)
  by_cases h2:256≤x / 2 ^ 16
  ·have e2:((256:Int)≤((x / 2 ^ 16:Nat):Int))=True:=tt (by omega)
   have b2:=sj 8 h2
   have hy:x / 2 ^ 16 / 2 ^ 8 < 256:=by omega
   obtain ⟨f1,f2,f3⟩:=fin hy (n:=24) (by omega)
   have g:IntKind.i64.wrap (24:Int)=24:=by rw [i64_in] <;> omega
   have f3':IntKind.i64.wrap ((24:Int)+(aq (x / 2 ^ 16 / 2 ^ 8):Int))=((aq x:Nat):Int):=by rw [b1,b2]; rw [wi (n:=24+aq (x / 2 ^ 16 / 2 ^ 8)) (by omega) (by have:=(dm (k:=8)).2 hy; omega)]; omega
   simp only [fF,uT,go_sem,↓reduceIte,ad7,e1,s16,e2,s8,g,f1,Kn hy,f2,f3',Int.reduceAdd]
  ·have e2:((256:Int)≤((x / 2 ^ 16:Nat):Int))=False:=ff (by omega)
   have hy:x / 2 ^ 16 < 256:=by omega
   obtain ⟨f1,f2,f3⟩:=fin hy (n:=16) (by omega)
   have f3':IntKind.i64.wrap ((16:Int)+(aq (x / 2 ^ 16):Int))=((aq x:Nat):Int):=by rw [b1]; rw [wi (n:=16+aq (x / 2 ^ 16)) (by omega) (by have:=(dm (k:=8)).2 hy; omega)]
   simp only [fF,uT,go_sem,↓reduceIte,ad7,aed,aef,e1,s16,e2,f1,Kn hy,f2,f3']
 ·have e1:((65536:Int)≤(x:Int))=False:=ff (by omega)
  have s8:=Ko (n:=x) (k:=8) (kk:=.u64) (j:=8) rfl rfl (by omega)
  by_cases h2:256≤x
  ·have e2:((256:Int)≤(x:Int))=True:=tt (by omega)
   have b2:=sj 8 h2
   have hy:x / 2 ^ 8 < 256:=by omega
   obtain ⟨f1,f2,f3⟩:=fin hy (n:=8) (by omega)
   have g:IntKind.i64.wrap (8:Int)=8:=by rw [i64_in] <;> omega
   have f3':IntKind.i64.wrap ((8:Int)+(aq (x / 2 ^ 8):Int))=((aq x:Nat):Int):=by rw [b2]; rw [wi (n:=8+aq (x / 2 ^ 8)) (by omega) (by have:=(dm (k:=8)).2 hy; omega)]
   simp only [fF,uT,go_sem,↓reduceIte,ad7,aed,aef,e1,e2,s8,g,f1,Kn hy,f2,f3',Int.reduceAdd]
  ·have e2:((256:Int)≤(x:Int))=False:=ff (by omega)
   have hy:x < 256:=by omega
   obtain ⟨f1,f2,f3⟩:=fin hy (n:=0) (by omega)
   have f3':IntKind.i64.wrap ((0:Int)+(aq x:Int))=((aq x:Nat):Int):=by rw [wi (n:=aq x) (by omega) (by have:=(dm (k:=8)).2 hy; omega)]
   simp only [fF,uT,go_sem,↓reduceIte,ad7,aed,aef,e1,e2,f1,Kn hy,f2,f3']
theorem NZ {n:Nat} (h:n ≠ 0):aq n=32*((av n).length - 1)+aq ((av n).getD ((av n).length - 1) 0):=by
 induction n using Nat.strongRecOn with
 | ind n ih =>
  rw [lY h,List.length_cons,Nat.add_sub_cancel]
  by_cases h0:n / 4294967296=0
  ·rw [h0,fG]
   simp
   congr 1
   omega
  ·have h1:=ih _ (by omega) h0
   have h2:(av (n / 4294967296)).length ≠ 0:=by
    intro e
    exact h0 (lZ.1 (List.length_eq_zero_iff.1 e))
   obtain ⟨k,hk⟩:∃ k,(av (n / 4294967296)).length=k+1:=⟨_,(Nat.succ_pred_eq_of_pos (by omega)).symm⟩
   rw [hk] at h1 ⊢
   rw [pt]
   simp only [Nat.add_sub_cancel] at h1
   have h3:=sj (x:=n) 32 (by omega)
   rw [show (2:Nat) ^ 32=4294967296 from rfl,h1] at h3
   omega
theorem P6 {m:List Nat} (hb:Lb m) (h1:m.length≤100000):R F.natural_Bits [lm m] []=some (I (aq (ac m):Nat),[]):=by
 refine aX Cf Ce (yb false) rfl ?_
 have la:=dG m hb
 by_cases h:ac m=0
 ·have e1:((0:Nat):Int)=0:=rfl
  simp only [iw,pk,go_sem,↓reduceIte,ad7,ad9,ad8,dj hb (by omega),h,fG,e1,LK]
 ·have hne:(av (ac m)).length ≠ 0:=fun e=>h (lZ.1 (List.length_eq_zero_iff.1 e))
  have e1:(((av (ac m)).length:Int)=0)=False:=ff (by omega)
  have e2:IntKind.i64.wrap (((av (ac m)).length:Int) - 1)=(((av (ac m)).length - 1:Nat):Int):=wi (by omega) (by omega)
  have e3:IntKind.i64.wrap (32*(((av (ac m)).length - 1:Nat):Int))=((32*((av (ac m)).length - 1):Nat):Int):=wi (by omega) (by omega)
  have e4:bH (aP (av (ac m))) (((av (ac m)).length - 1:Nat):Int)=some (.ipt [U ((av (ac m)).getD ((av (ac m)).length - 1) 0:Nat)]):=de rfl (by omega)
  have e5:=NY (dQ (cd (ac m)) ((av (ac m)).length - 1))
  have e6:aq ((av (ac m)).getD ((av (ac m)).length - 1) 0)≤32:=dm.2 (dQ (cd (ac m)) _)
  have e7:IntKind.i64.wrap (((32*((av (ac m)).length - 1):Nat):Int)+(aq ((av (ac m)).getD ((av (ac m)).length - 1) 0):Int))=((aq (ac m):Nat):Int):=by
   rw [NZ h]
   exact wi (by omega) (by omega)
  simp only [iw,pk,go_sem,↓reduceIte,ad7,ad9,ad8,dj hb (by omega),e1,e2,e3,e4,e5,e7]
end Go.Ab
namespace Go.Ab
open Go Go.IntWalk
set_option maxRecDepth 4000
structure Rd where
 neg:Bool
 m:List Nat
 e:Int
def aW (d:Rd):List AV:=[B d.neg,lm d.m,I d.e]
def aF (d:Rd):AV:=.agg (aW d)
def el:Rd:=⟨false,[],0⟩
def sk (n:Nat) (e:Int):Bool:=decide (n=0) || (decide (n≤4096) && (decide (-16384≤e) && (decide (e≤16384) && decide ((n:Int)+e≤16384))))
def vd (d:Rd):Bool:=if d.m.length=0 then !d.neg && decide (d.e=0) else decide (d.m.length≤256) && (decide (d.m.getD 0 0 % 2=1) && (decide (d.m.getD (d.m.length - 1) 0 ≠ 0) && sk (aq (ac d.m)) d.e))
theorem nL {m:List Nat} (hb:Lb m) (h1:m.length≤100000):R F.dyadic_size [lm m] []=some (I (aq (ac m):Nat),[]):=by
 refine aX DS DR (yX false) rfl ?_
 simp only [lS,vo,go_sem,↓reduceIte,ad7,ad9,ad8,P6 hb h1]
theorem Bm {d:Rd} (hb:Lb d.m) (h1:d.m.length≤100000):R F.dyadic_inRange [aF d] []=some (B (sk (aq (ac d.m)) d.e),[]):=by
 refine aX y9 y8 (vR false) rfl ?_
 unfold sk
 have hn:aq (ac d.m)=0↔((aq (ac d.m):Nat):Int)=0:=by omega
 by_cases a1:aq (ac d.m)=0
 ·have e9:=nL hb h1
  rw [a1,Int.natCast_zero] at e9
  simp only [cI,eJ,aF,aW,go_sem,↓reduceIte,ad7,ad9,ad8,aea,e9,a1]
 have e1:(((aq (ac d.m):Nat):Int)=0)=False:=ff (by omega)
 by_cases a2:¬ (aq (ac d.m)≤4096)
 ·have e2:(((aq (ac d.m):Nat):Int)≤4096)=False:=ff (by omega)
  simp only [cI,eJ,aF,aW,go_sem,↓reduceIte,ad7,ad9,ad8,nL hb h1,e1,a1,e2,a2]
 replace a2:=Decidable.not_not.1 a2
 have e2:(((aq (ac d.m):Nat):Int)≤4096)=True:=tt (by omega)
 by_cases a3:¬ (-16384≤d.e)
 ·simp only [cI,eJ,aF,aW,go_sem,↓reduceIte,ad7,ad9,ad8,nL hb h1,e1,a1,e2,a2,a3]
 replace a3:=Decidable.not_not.1 a3
 by_cases a4:¬ (d.e≤16384)
 ·simp only [cI,eJ,aF,aW,go_sem,↓reduceIte,ad7,ad9,ad8,nL hb h1,e1,a1,e2,a2,a3,a4]
 replace a4:=Decidable.not_not.1 a4
 have e3:IntKind.i64.wrap (((aq (ac d.m):Nat):Int)+d.e)=((aq (ac d.m):Nat):Int)+d.e:=by rw [i64_in]; omega
 simp only [cI,eJ,aF,aW,go_sem,↓reduceIte,ad7,ad9,ad8,nL hb h1,e1,a1,e2,a2,a3,a4,e3]
structure Ok0 (d:Rd):Prop where
 lb:Lb d.m
 len:d.m.length < 4611686018427387904
theorem iI {d:Rd} (ok:Ok0 d):R F.dyadic_Valid [aF d] []=some (B (vd d),[]):=by
 refine aX B6 B5 (x8 false) rfl ?_
 unfold vd
 have hl:=ok.len
 by_cases a0:d.m.length=0
 ·rw [if_pos a0]
  have e1:((d.m.length:Int)=0)=True:=tt (by omega)
  cases hn:d.neg with
  | true=>simp only [cM,eH,aF,aW,hn,go_sem,↓reduceIte,ad7,ad9,ad8,e1]
  | false=>simp only [cM,eH,aF,aW,hn,go_sem,↓reduceIte,ad7,ad9,ad8,e1]
 rw [if_neg a0]
 have e1:((d.m.length:Int)=0)=False:=ff (by omega)
 by_cases a1:¬ d.m.length≤256
 ·have e2:((d.m.length:Int)≤256)=False:=ff (by omega)
  rw [decide_eq_false a1,Bool.false_and]
  simp only [cM,eH,aF,aW,go_sem,↓reduceIte,ad7,ad9,ad8,aea,e1,e2]
 replace a1:=Decidable.not_not.1 a1
 have e2:((d.m.length:Int)≤256)=True:=tt (by omega)
 have e3:bH (aP d.m) 0=some (.ipt [U (d.m.getD 0 0:Nat)]):=de rfl (by omega)
 have e4:dI .rem (.v (.int .u32 (d.m.getD 0 0:Nat))) (.v (.int .u32 2))=some (.v (.int .u32 ((d.m.getD 0 0 % 2:Nat):Int))):=by
  rw [Ix,if_neg (by decide),Int.tmod_eq_emod_of_nonneg (by omega)]
  rfl
 rw [decide_eq_true a1,Bool.true_and]
 by_cases a2:¬ d.m.getD 0 0 % 2=1
 ·have e5:(((d.m.getD 0 0 % 2:Nat):Int)=1)=False:=ff (by omega)
  rw [decide_eq_false a2,Bool.false_and]
  simp only [cM,eH,aF,aW,go_sem,↓reduceIte,ad7,ad9,ad8,aea,e1,e2,e3,e4,e5]
 replace a2:=Decidable.not_not.1 a2
 have e5:(((d.m.getD 0 0 % 2:Nat):Int)=1)=True:=tt (by omega)
 rw [decide_eq_true a2,Bool.true_and]
 have e6:IntKind.i64.wrap ((d.m.length:Int) - 1)=((d.m.length - 1:Nat):Int):=wi (by omega) (by omega)
 have e7:bH (aP d.m) ((d.m.length - 1:Nat):Int)=some (.ipt [U (d.m.getD (d.m.length - 1) 0:Nat)]):=de rfl (by omega)
 by_cases a3:d.m.getD (d.m.length - 1) 0=0
 ·have e8:((d.m.getD (d.m.length - 1) 0:Int)=0)=True:=tt (by omega)
  rw [decide_eq_false (p:=d.m.getD (d.m.length - 1) 0 ≠ 0) (fun h=>h a3),Bool.false_and]
  simp only [cM,eH,aF,aW,go_sem,↓reduceIte,ad7,ad9,ad8,aea,e1,e2,e3,e4,e5,e6,e7,e8]
 have e8:((d.m.getD (d.m.length - 1) 0:Int)=0)=False:=ff (by omega)
 rw [decide_eq_true (p:=d.m.getD (d.m.length - 1) 0 ≠ 0) a3,Bool.true_and]
 have e9:=Bm (d:=d) ok.lb (by omega)
 simp only [aF,aW] at e9
 simp only [cM,eH,aF,aW,go_sem,↓reduceIte,ad7,ad9,ad8,aea,e1,e2,e3,e4,e5,e6,e7,e8,e9]
end Go.Ab
namespace Go.Ab
open Go Go.IntWalk
set_option maxRecDepth 4000
theorem Kp (m:List Nat) (h2:m.length < 4611686018427387904):∀ (n:Nat),n≤m.length→∀ (s:af) (h:aa),s 0=lm m→s 3=I n →
  aI 0 [0,3] (aU (az R (ab false) eB) [0,3] [] s h)=some (.normal,⟨upd (upd (fun _=>.any) 3 (I (iE m n))) 0 (lm m),fun _=>.dead⟩):=by
 intro n
 induction n with
 | zero =>
  intro h1 s h h3 h4
  rw [aB]
  simp only [eB,go_sem,h3,h4,iE,↓reduceIte,ad7,Int.natCast_zero,Int.lt_irrefl]
 | succ n ih =>
  intro h1 s h h3 h4
  have hn:n < m.length:=h1
  have e3:IntKind.i64.wrap ((n:Int)+1 - 1)=n:=wi (by omega) (by omega)
  have e1:bH (aP m) (n:Int)=some (.ipt [U (m.getD n 0:Nat)]):=de rfl hn
  have e2:((0:Int) < (n:Int)+1)=True:=eq_true (by omega)
  have ih':=ih (by omega)
  rw [aB]
  generalize aU _ _ _=L at ih' ⊢
  by_cases hz:m.getD n 0=0
  ·simp only [eB,go_sem,h3,h4,iE,↓reduceIte,ad7,Int.natCast_add,Int.natCast_one,e3,e1,e2,hz,Int.natCast_zero]
   exact ih' _ _ rfl rfl
  ·simp only [eB,go_sem,h3,h4,iE,↓reduceIte,ad7,Int.natCast_add,Int.natCast_one,e3,e1,e2,hz,Int.natCast_eq_zero]
theorem G3 {m:List Nat} (hb:Lb m) (h:m.length < 4611686018427387904):R F.dyadic_trimmed [lm m] []=some (lm (av (ac m)),[]):=by
 refine aX zm zk (vT false) rfl ?_
 have h1:dJ 1 (lm m) none (some (I (iE m m.length:Nat))) none=some (lm (av (ac m))):=by
  rw [GS (a:=0) (b:=iE m m.length) rfl (uQ rfl (tu _ _)) (tu _ _),List.drop_zero,Nat.sub_zero,F3 hb]
 simp only [iV,rt,go_sem,↓reduceIte,ad7,Kp m h m.length (Nat.le_refl _),h1]
theorem Bn {d:Rd} (hb:Lb d.m) (h1:d.m.length≤100000):R F.dyadic_checked [aF d] []=some (if sk (aq (ac d.m)) d.e=true then .tup [aF d,I 0] else .tup [aF el,I 9],[]):=by
 refine aX y6 y5 (vQ false) rfl ?_
 have e9:=Bm hb h1
 simp only [aF,aW] at e9
 cases hv:sk (aq (ac d.m)) d.e with
 | false =>
  rw [hv] at e9
  rw [if_neg (fun h=>nomatch h)]
  simp only [fM,m6,aF,aW,el,go_sem,↓reduceIte,ad7,ad9,ad8,aea,e9]
 | true =>
  rw [hv] at e9
  rw [if_pos rfl]
  simp only [fM,m6,aF,aW,go_sem,↓reduceIte,ad7,ad9,ad8,aea,e9]
theorem N0 (h:aa) (m:List Nat):lK h 1 (lm m)=some (aP m):=Ns h 1 _
theorem zS {m:List Nat} (h0:m ≠ []) (h1:m.length≤100000):R F.slices_Clone_uint32_uint32_ [lm m] []=some (lm m,[]):=by
 refine aX oU oT (ng false) rfl ?_
 have e1:xz false (lm m)=some (B false):=by
  cases m with
  | nil=>exact absurd rfl h0
  | cons x m=>rfl
 have e2:((True∨False)∧(0+m.length)*4≤140737488355328)=True:=eq_true ⟨Or.inl trivial,by omega⟩
 have e3:(0+(0+m.length)≤m.length)=True:=eq_true (by omega)
 have e4:(0+m.length=m.length)=True:=eq_true (by omega)
 simp only [cN,iN,go_sem,↓reduceIte,ad7,aea,aec,e1,N0,e2,e3,e4]
end Go.Ab
namespace Go.Ab
open Go Go.IntWalk
set_option maxRecDepth 4000
theorem sN:au.E F.bits_TrailingZeros32=some OP:=by kernel_rfl
theorem xi {x:Nat} (h:x ≠ 0) (hx:x < 4294967296):R F.bits_TrailingZeros32 [U x] []=some (I (tz x:Nat),[]):=by
 unfold R
 rw [uG sN]
 show (if 0 < (x:Int)∧(x:Int) < 4294967296∧([]:List Ob)=[] then some (I (C9 32 (x:Int).toNat:Nat),([]:List Ob)) else none)=_
 rw [if_pos ⟨by omega,by omega,rfl⟩,Int.toNat_natCast,RF 32 x h (by omega)]
theorem N1 (m:List Nat) (hb:Lb m) (h2:m.length≤100000):∀ (k i:Nat),i+k=m.length→ac (m.drop i) ≠ 0→∀ (s:af) (h:aa),s 6=lm m→s 7=I m.length→s 8=I i→s 3=I (32*i:Nat) →
  aI 0 [3] (aU (az R (ab false) kQ) [3,6,7,8] [] s h)=some (.ret,⟨upd (fun _=>.any) 2 (I (32*i+tz (ac (m.drop i)):Nat)),fun _=>.dead⟩):=by
 intro k
 induction k with
 | zero =>
  intro i hi hv
  rw [List.drop_eq_nil_of_le (by omega)] at hv
  exact absurd rfl hv
 | succ k ih =>
  intro i hi hv s h h6 h7 h8 h3
  have e1:((i:Int) < m.length)=True:=tt (by omega)
  have e2:bH (aP m) (i:Int)=some (.ipt [U (m.getD i 0:Nat)]):=de rfl (by omega)
  have hx:m.getD i 0 < 4294967296:=dQ hb i
  rw [ej] at hv
  rw [aB]
  have e4:IntKind.i64.wrap (((32*i:Nat):Int)+32)=((32*(i+1):Nat):Int):=wi (by omega) (by omega)
  have e5:IntKind.i64.wrap ((i:Int)+1)=((i+1:Nat):Int):=wi (by omega) (by omega)
  by_cases hz:m.getD i 0=0
  ·have e3:((m.getD i 0:Int)=0)=True:=tt (by omega)
   have hv':ac (m.drop (i+1)) ≠ 0:=by
    intro h0
    rw [hz,h0] at hv
    exact hv rfl
   have ih':=ih (i+1) (by omega) hv'
   have e6:tz (ac (m.drop i))=32+tz (ac (m.drop (i+1))):=by
    rw [ej,hz,Nat.zero_add]
    exact AQ 32 hv'
   have e7:32*i+tz (ac (m.drop i))=32*(i+1)+tz (ac (m.drop (i+1))):=by omega
   rw [e7]
   generalize aU _ _ _=L at ih' ⊢
   simp only [kQ,go_sem,↓reduceIte,ad7,h3,h6,h7,h8,e1,e2,e3,e4,e5]
   exact ih' _ _ rfl rfl rfl rfl
  ·have e3:((m.getD i 0:Int)=0)=False:=ff (by omega)
   have e6:tz (ac (m.drop i))=tz (m.getD i 0):=by
    rw [ej]
    exact RE (k:=32) _ hz hx
   have e8:tz (m.getD i 0) < 32:=OO (k:=32) hz hx
   have e7:IntKind.i64.wrap (((32*i:Nat):Int)+(tz (m.getD i 0):Nat))=((32*i+tz (m.getD i 0):Nat):Int):=wi (by omega) (by omega)
   rw [e6]
   simp only [kQ,go_sem,↓reduceIte,ad7,ad9,ad8,h3,h6,h7,h8,e1,e2,e3,xi hz hx,e7]
theorem R1 {m:List Nat} (hb:Lb m) (h1:m.length≤100000) (hv:ac m ≠ 0):R F.dyadic_low [lm m] []=some (I (tz (ac m):Nat),[]):=by
 refine aX GD GC (Bb false) rfl ?_
 have h3:=N1 m hb h1 m.length 0 (Nat.zero_add _) hv
 simp only [Nat.mul_zero,Nat.zero_add,List.drop_zero,Int.natCast_zero] at h3
 simp only [mS,wQ,go_sem,↓reduceIte,ad7]
 rw [h3 _ _ rfl rfl rfl rfl]
 simp only [go_sem,↓reduceIte]
def cB (neg:Bool) (M:Nat) (e:Int):Rd:=if M=0 then el else ⟨neg,av (M / 2 ^ tz M),e+tz M⟩
def XF (e:Int):Prop:=-1000000≤e∧e≤1000000
theorem oJ {neg:Bool} {m:List Nat} {e:Int} (hb:Lb m) (h1:m.length≤256) (he:XF e):R F.dyadic_canonical [B neg,lm m,I e] []=some (aF (cB neg (ac m) e),[]):=by
 refine aX wZ wY (tD false) rfl ?_
 obtain ⟨he1,he2⟩:=he
 unfold cB
 by_cases h0:ac m=0
 ·have hd:R F.dyadic_trimmed [lm m] []=some (lm [],[]):=by
   rw [G3 hb (by omega),h0,fG]
  have e0:(([]:List Nat).length:Int)=0:=rfl
  rw [if_pos h0]
  simp only [eA,lw,aF,aW,el,go_sem,↓reduceIte,ad7,ad9,ad8,aea,hd,List.length_nil,Int.natCast_zero]
 have hn:av (ac m) ≠ []:=fun h=>h0 (lZ.1 h)
 have hl:0 < (av (ac m)).length:=by
  cases h:av (ac m) with
  | nil=>exact absurd h hn
  | cons x l=>exact Nat.succ_pos _
 have hl2:(av (ac m)).length≤256:=Nat.le_trans (dG m hb) h1
 have hdb:Lb (av (ac m)):=cd _
 have e1:(((av (ac m)).length:Int)=0)=False:=ff (by omega)
 have ht:tz (ac m) < 32*256:=OO (k:=32*256) h0 (by
  have:=jn hb
  have h3:4294967296 ^ m.length≤4294967296 ^ 256:=Nat.pow_le_pow_right (by decide) h1
  have h4:(2:Nat) ^ (32*256)=4294967296 ^ 256:=Nat.pow_mul 2 32 256
  rw [h4]
  exact Nat.lt_of_lt_of_le this h3)
 have hlow:=R1 hdb (by omega) (by rw [bI]; exact h0)
 rw [bI] at hlow
 have hs:=RZ (n:=(tz (ac m):Nat)) hdb hl2
 rw [if_neg (by omega),bI,Int.toNat_natCast] at hs
 have hq:av (ac m / 2 ^ tz (ac m)) ≠ []:=by
  intro h
  have:=(tv h0).2
  rw [lZ.1 h] at this
  exact absurd this (by decide)
 have hq2:(av (ac m / 2 ^ tz (ac m))).length≤100000:=by
  have h5:(av (ac m / 2 ^ tz (ac m))).length≤m.length:=mX (Nat.lt_of_le_of_lt (Nat.div_le_self _ _) (jn hb))
  omega
 have hc:=zS hq hq2
 have e2:IntKind.i64.wrap (e+(tz (ac m):Nat))=e+(tz (ac m):Nat):=by rw [i64_in]; omega
 rw [if_neg h0]
 simp only [eA,lw,aF,aW,go_sem,↓reduceIte,ad7,ad9,ad8,aea,G3 hb (Nat.lt_of_le_of_lt h1 (by decide)),e1,hlow,hs,hc,IE,e2]
end Go.Ab
namespace Go.Ab
open Go Go.IntWalk
set_option maxRecDepth 4000
theorem rH {d:Rd} (h:vd d=true) (h0:d.m.length ≠ 0):d.m.length≤256∧d.m.getD 0 0 % 2=1∧d.m.getD (d.m.length - 1) 0 ≠ 0∧sk (aq (ac d.m)) d.e=true:=by
 unfold vd at h
 rw [if_neg h0] at h
 simp only [Bool.and_eq_true,decide_eq_true_eq] at h
 exact h
theorem xQ {d:Rd} (h:vd d=true) (h0:d.m.length=0):d=el:=by
 unfold vd at h
 rw [if_pos h0] at h
 simp only [Bool.and_eq_true,decide_eq_true_eq,Bool.not_eq_true'] at h
 obtain ⟨n,m,e⟩:=d
 obtain ⟨h1,h2⟩:=h
 simp only at h1 h2 h0
 rw [el,h1,h2,List.length_eq_zero_iff.1 h0]
theorem tI {n:Nat} {e:Int} (h:sk n e=true) (h0:n ≠ 0):n≤4096∧-16384≤e∧e≤16384∧(n:Int)+e≤16384:=by
 unfold sk at h
 simp only [Bool.or_eq_true,Bool.and_eq_true,decide_eq_true_eq] at h
 exact h.resolve_left h0
theorem j8 {d:Rd} (h:vd d=true) (_hb:Lb d.m):d.m.length≤256∧-16384≤d.e∧d.e≤16384∧aq (ac d.m)≤4096:=by
 by_cases h0:d.m.length=0
 ·rw [xQ h h0]
  exact ⟨by decide,by decide,by decide,by decide⟩
 obtain ⟨h1,h2,h3,h4⟩:=rH h h0
 have hv:ac d.m ≠ 0:=by
  intro hz
  have:=ej d.m 0
  rw [List.drop_zero] at this
  omega
 have hn:aq (ac d.m) ≠ 0:=by
  have:=lD hv
  omega
 obtain ⟨h5,h6,h7,h8⟩:=tI h4 hn
 exact ⟨h1,h6,h7,h5⟩
def bm (d:Rd):Int:=if vd d=false∨d.m.length=0 then 0 else (aq (ac d.m):Nat)+d.e
theorem Bo {d:Rd} (ok:Ok0 d):R F.dyadic_Top [aF d] []=some (I (bm d),[]):=by
 refine aX GG GF (Bc false) rfl ?_
 have hl:=ok.len
 have e9:=iI ok
 simp only [aF,aW] at e9
 unfold bm
 cases hv:vd d with
 | false =>
  rw [hv] at e9
  rw [if_pos (Or.inl rfl)]
  simp only [ib,oC,aF,aW,go_sem,↓reduceIte,ad7,ad9,ad8,aea,e9]
 | true =>
  rw [hv] at e9
  by_cases a0:d.m.length=0
  ·have e1:((d.m.length:Int)=0)=True:=tt (by omega)
   rw [if_pos (Or.inr a0)]
   simp only [ib,oC,aF,aW,go_sem,↓reduceIte,ad7,ad9,ad8,aea,e9,e1]
  ·have e1:((d.m.length:Int)=0)=False:=ff (by omega)
   rw [if_neg (fun h=>h.elim (fun h=>nomatch h) a0)]
   obtain ⟨h1,h2,h3,h4⟩:=j8 hv ok.lb
   have e2:IntKind.i64.wrap (((aq (ac d.m):Nat):Int)+d.e)=((aq (ac d.m):Nat):Int)+d.e:=by rw [i64_in]; omega
   simp only [ib,oC,aF,aW,go_sem,↓reduceIte,ad7,ad9,ad8,aea,aec,aeb,e9,e1,nL ok.lb (Nat.le_trans h1 (by decide)),e2]
end Go.Ab
namespace Go.Ab
open Go Go.IntWalk
set_option maxRecDepth 4000
theorem qN {m:List Nat} (hb:Lb m) (h1:m.length≤256) {k:Nat} (hk:k≤65536) (hl:(av (ac m*2 ^ k)).length≤256):R F.dyadic_shifted [lm m,I k] []=some (lm (av (ac m*2 ^ k)),[]):=by
 refine aX zt zq (vU false) rfl ?_
 have hs:=RX (n:=(k:Nat)) hb h1
 rw [if_neg (by omega),Int.toNat_natCast,iZ,if_neg (by omega)] at hs
 simp only [iW,ru,go_sem,↓reduceIte,ad7,ad9,ad8,aea,hs]
def mg (d:Rd):Nat:=ac d.m*2 ^ (d.e+16384).toNat
def zI (d:Rd):Int:=if d.neg=true then -(mg d:Int) else mg d
theorem iF {d:Rd} (h:vd d=true) (h0:d.m.length ≠ 0):ac d.m ≠ 0:=by
 obtain ⟨h1,h2,h3,h4⟩:=rH h h0
 intro hz
 have:=ej d.m 0
 rw [List.drop_zero] at this
 omega
theorem IL {d:Rd} (h:vd d=true) (hb:Lb d.m) (h0:d.m.length ≠ 0):(aq (mg d):Int)=bm d+16384:=by
 obtain ⟨h1,h2,h3,h4⟩:=j8 h hb
 unfold mg bm
 rw [lE _ (iF h h0),if_neg (fun h'=>h'.elim (fun h''=>by rw [h] at h''; exact nomatch h'') h0)]
 omega
theorem pB {d:Rd} {e:Int} (h1:-16384≤e) (h2:e≤d.e):mg d=ac d.m*2 ^ (d.e - e).toNat*2 ^ (e+16384).toNat:=by
 unfold mg
 rw [Nat.mul_assoc,← Nat.pow_add]
 congr 2
 omega
theorem bF {n k:Nat} (h:aq n≤32*k):(av n).length≤k:=by
 refine mX ?_
 have:=dm.1 h
 rw [Nat.pow_mul] at this
 exact this
end Go.Ab
namespace Go.Ab
open Go Go.IntWalk
set_option maxRecDepth 4000
def dM (x y:Int):Int:=if x < y then -1 else if y < x then 1 else 0
def lF (d:Rd):Int:=if d.m.length=0 then 0 else if d.neg=true then -1 else 1
theorem IM {d:Rd} (h0:d.m.length=0):mg d=0:=by
 unfold mg
 rw [List.length_eq_zero_iff.1 h0]
 exact Nat.zero_mul _
theorem R4 {d:Rd} (h:vd d=true) (h0:d.m.length ≠ 0):0 < mg d :=
 Nat.mul_pos (Nat.pos_of_ne_zero (iF h h0)) (Nat.two_pow_pos _)
theorem zT (d:Rd) (h:vd d=true):(lF d=0∧zI d=0∧d.m.length=0)∨(lF d=-1∧zI d=-(mg d:Int)∧0 < mg d∧d.m.length ≠ 0)∨(lF d=1∧zI d=mg d∧0 < mg d∧d.m.length ≠ 0):=by
 unfold lF zI
 by_cases h0:d.m.length=0
 ·refine Or.inl ⟨if_pos h0,?_,h0⟩
  rw [IM h0]
  split <;> rfl
 ·rw [if_neg h0]
  have:=R4 h h0
  by_cases hn:d.neg=true
  ·exact Or.inr (Or.inl ⟨if_pos hn,if_pos hn,this,h0⟩)
  ·exact Or.inr (Or.inr ⟨if_neg hn,if_neg hn,this,h0⟩)
end Go.Ab
namespace Go.Ab
open Go Go.IntWalk
set_option maxRecDepth 4000
theorem G5 (x y:Nat):aq (x*y)≤aq x+aq y:=by
 rw [dm,Nat.pow_add]
 exact Nat.mul_lt_mul'' (dm.1 (Nat.le_refl _)) (dm.1 (Nat.le_refl _))
theorem Cs (neg:Bool) (M:Nat) (e:Int):Lb (cB neg M e).m:=by
 unfold cB
 split
 ·exact fun x hx=>nomatch hx
 ·exact cd _
theorem G6 {neg:Bool} {M:Nat} {e:Int} {k:Nat} (h:aq M≤32*k):(cB neg M e).m.length≤k:=by
 unfold cB
 split
 ·exact Nat.zero_le _
 ·refine bF ?_
  rw [zR]
  omega
def Kr (d:Rd):AV:=if sk (aq (ac d.m)) d.e=true then .tup [aF d,I 0] else .tup [aF el,I 9]
def EP (a b:Rd):AV:=if vd a=true∧vd b=true then if a.m.length=0∨b.m.length=0 then .tup [aF el,I 0] else if 4096 < aq (ac a.m)+aq (ac b.m) - 1 then .tup [aF el,I 9] else Kr (cB (a.neg != b.neg) (ac a.m*ac b.m) (a.e+b.e)) else .tup [aF el,I 1]
theorem LL (a b:Bool):(true != (a == b))=(a != b):=by cases a <;> cases b <;> rfl
theorem P9 {a b:Rd} (oa:Ok0 a) (ob:Ok0 b):R F.dyadic_Mul [aF a,aF b] []=some (EP a b,[]):=by
 refine aX Gl Gk (A4 false) rfl ?_
 unfold EP
 have va:=iI oa
 have vb:=iI ob
 simp only [aF,aW] at va vb
 cases ha:vd a with
 | false =>
  rw [ha] at va
  rw [if_neg (fun h=>nomatch h.1)]
  simp only [df,fm,aF,aW,el,go_sem,↓reduceIte,ad7,ad9,ad8,aea,va]
 | true =>
 rw [ha] at va
 cases hb:vd b with
 | false =>
  rw [hb] at vb
  rw [if_neg (fun h=>nomatch h.2)]
  simp only [df,fm,aF,aW,el,go_sem,↓reduceIte,ad7,ad9,ad8,aea,va,vb]
 | true =>
 rw [hb] at vb
 rw [if_pos ⟨rfl,rfl⟩]
 by_cases a0:a.m.length=0
 ·have e1:((a.m.length:Int)=0)=True:=tt (by omega)
  rw [if_pos (Or.inl a0)]
  simp only [df,fm,aF,aW,el,go_sem,↓reduceIte,ad7,ad9,ad8,aea,va,vb,e1]
 have e1:((a.m.length:Int)=0)=False:=ff (by omega)
 by_cases b0:b.m.length=0
 ·have e2:((b.m.length:Int)=0)=True:=tt (by omega)
  rw [if_pos (Or.inr b0)]
  simp only [df,fm,aF,aW,el,go_sem,↓reduceIte,ad7,ad9,ad8,aea,va,vb,e1,e2]
 have e2:((b.m.length:Int)=0)=False:=ff (by omega)
 rw [if_neg (fun h=>h.elim a0 b0)]
 obtain ⟨a1,a2,a3,a4⟩:=j8 ha oa.lb
 obtain ⟨b1,b2,b3,b4⟩:=j8 hb ob.lb
 have za:=nL oa.lb (Nat.le_trans a1 (by decide))
 have zb:=nL ob.lb (Nat.le_trans b1 (by decide))
 have pa:=lD (iF ha a0)
 have w1:IntKind.i64.wrap (((aq (ac a.m):Nat):Int)+(aq (ac b.m):Nat))=((aq (ac a.m)+aq (ac b.m):Nat):Int):=wi (by omega) (by omega)
 have w2:IntKind.i64.wrap (((aq (ac a.m)+aq (ac b.m):Nat):Int) - 1)=((aq (ac a.m)+aq (ac b.m) - 1:Nat):Int):=wi (by omega) (by omega)
 by_cases c0:4096 < aq (ac a.m)+aq (ac b.m) - 1
 ·have e3:((4096:Int) < ((aq (ac a.m)+aq (ac b.m) - 1:Nat):Int))=True:=tt (by omega)
  rw [if_pos c0]
  simp only [df,fm,aF,aW,el,go_sem,↓reduceIte,ad7,ad9,ad8,aea,aec,aeb,va,vb,e1,e2,za,zb,w1,w2,e3]
 have e3:((4096:Int) < ((aq (ac a.m)+aq (ac b.m) - 1:Nat):Int))=False:=ff (by omega)
 rw [if_neg c0]
 have hp:=G5 (ac a.m) (ac b.m)
 have hl:(av (ac a.m*ac b.m)).length≤129:=bF (by omega)
 have hm:=RR oa.lb ob.lb a1 b1
 rw [iZ,if_neg (by omega)] at hm
 have w3:IntKind.i64.wrap (a.e+b.e)=a.e+b.e:=i64_in _ ⟨by omega,by omega⟩
 have hc:=oJ (neg:=a.neg != b.neg) (e:=a.e+b.e) (cd (ac a.m*ac b.m)) (Nat.le_trans hl (by decide)) ⟨by omega,by omega⟩
 rw [bI] at hc
 have hd:=Bn (Cs (a.neg != b.neg) (ac a.m*ac b.m) (a.e+b.e)) (Nat.le_trans (G6 (k:=129) (by omega)) (by decide))
 unfold Kr
 generalize cB (a.neg != b.neg) (ac a.m*ac b.m) (a.e+b.e)=d at hc hd ⊢
 simp only [aF,aW] at hc hd
 cases hv:sk (aq (ac d.m)) d.e with
 | false =>
  rw [hv,if_neg (fun h=>nomatch h)] at hd
  rw [if_neg (fun h=>nomatch h)]
  simp only [df,fm,aF,aW,el,go_sem,↓reduceIte,ad7,ad9,ad8,aea,aec,aeb,va,vb,e1,e2,za,zb,w1,w2,w3,e3,hm,LL,hc,hd]
 | true =>
  rw [hv,if_pos rfl] at hd
  rw [if_pos rfl]
  simp only [df,fm,aF,aW,go_sem,↓reduceIte,ad7,ad9,ad8,aea,aec,aeb,va,vb,e1,e2,za,zb,w1,w2,w3,e3,hm,LL,hc,hd]
end Go.Ab
namespace Go.Ab
open Go Go.IntWalk
set_option maxRecDepth 4000
theorem aiw {m:List Nat} (hb:Lb m):aq (ac m)≤32*m.length:=by
 rw [dm,Nat.pow_mul]
 exact jn hb
end Go.Ab
namespace Go.Ab
open Go Go.IntWalk
set_option maxRecDepth 4000
def LM (l:List Rd):List (List AV):=l.map aW
@[go_sem] theorem abF (l:List Rd):(LM l).length=l.length:=by simp [LM]
def Bq (p:Int) (l:List Rd):Int:=if l.all vd=true then (if 8≤p∧p≤512 then 0 else 2) else 1
end Go.Ab
namespace Go.Ab
open Go Go.IntWalk
set_option maxRecDepth 4000
def Pf (M:Nat) (e:Int) (p:Int):Int:=if e+(aq M:Nat) - p < -16384 then -16384 else e+(aq M:Nat) - p
def Zf (M:Nat) (e:Int) (more:Bool) (u:Int):Nat × Bool:=if u≤e then (M*2 ^ (e - u).toNat,more) else (M / 2 ^ (u - e).toNat,more || decide (M % 2 ^ (u - e).toNat ≠ 0))
def upQ (up:Bool) (q:Nat × Bool):Nat:=if (up && q.2)=true then q.1+1 else q.1
end Go.Ab
namespace Go.Ab
open Go Go.IntWalk
set_option maxRecDepth 4000
def et (d:Rd):Rd × Int:=if sk (aq (ac d.m)) d.e=true then (d,0) else (el,9)
def Zg (p:Int) (up:Bool) (q:Nat) (u:Int):Rd × Int:=if 16384 < (aq q:Nat)+u then (if up=true then (el,9) else et (cB false (2 ^ p.toNat - 1) (16384 - p))) else et (cB false q u)
def rV (r:Rd × Int):AV:=.tup [aF r.1,I r.2]
theorem IN (d:Rd):Kr d=rV (et d):=by
 unfold Kr et
 split <;> rfl
def Zh (d:Rd):Rd:=if vd d=false∨d.m.length=0 then el else ⟨!d.neg,d.m,d.e⟩
def Zi (M:Nat) (e:Int) (more:Bool) (p:Int) (up:Bool):Rd × Int:=Zg p up (upQ up (Zf M e more (Pf M e p))) (Pf M e p)
def Zj (neg:Bool) (r:Rd × Int):Rd × Int:=if r.2=0∧neg=true then (Zh r.1,r.2) else r
end Go.Ab
namespace Go.Ab
open Go Go.IntWalk
set_option maxRecDepth 4000
theorem xj {d:Rd} (h:vd d=true) (hb:Lb d.m):d.m.length≤128:=by
 obtain ⟨h1,h2,h3,h4⟩:=j8 h hb
 by_cases h0:d.m.length=0
 ·omega
 obtain ⟨g1,g2,g3,g4⟩:=rH h h0
 have h5:4294967296 ^ (d.m.length - 1)≤ac d.m:=by
  have h6:=vL (a:=d.m) (i:=d.m.length - 1) (by omega)
  rw [show d.m.length - 1+1=d.m.length by omega,List.take_length] at h6
  rw [h6]
  exact Nat.le_trans (Nat.le_mul_of_pos_right _ (Nat.pos_of_ne_zero g3)) (Nat.le_add_left _ _)
 have h7:32*(d.m.length - 1) < aq (ac d.m):=by
  rw [kw,Nat.pow_mul]
  exact h5
 omega
end Go.Ab
namespace Go.Ab
open Go Go.IntWalk
set_option maxRecDepth 4000
end Go.Ab
namespace Go.Ab
open Go Go.IntWalk
set_option maxRecDepth 4000
end Go.Ab
namespace Go.Ab
open Go Go.IntWalk
set_option maxRecDepth 4000
theorem pC {d:Rd} (h:vd d=true) (h0:d.m.length ≠ 0):bm d=(aq (ac d.m):Nat)+d.e:=by
 rw [bm,if_neg (fun h'=>h'.elim (fun h''=>by rw [h] at h''; exact nomatch h'') h0)]
end Go.Ab
namespace Go.Ab
open Go Go.IntWalk
set_option maxRecDepth 4000
theorem G7 {x y k:Nat} (hx:aq x≤k) (hy:aq y≤k):aq (x+y)≤k+1:=by
 rw [dm] at hx hy ⊢
 rw [Nat.pow_succ]
 omega
theorem Qa {x y:Nat} (hx:aq x≤5000) (hy:aq y≤5000):R F.natural_Add [lm (av x),lm (av y)] []=some (.tup [lm (av (x+y)),I 0],[]):=by
 have h1:(av x).length≤200:=bF (by omega)
 have h2:(av y).length≤200:=bF (by omega)
 have h3:=G7 hx hy
 have h4:(av (x+y)).length≤200:=bF (by omega)
 rw [RN (cd x) (cd y) (by omega) (by omega),bI,bI,iZ,if_neg (by omega)]
theorem IP {x y:Nat} (hx:aq x≤5000) (hy:aq y≤5000) (h:y≤x):R F.natural_Sub [lm (av x),lm (av y)] []=some (.tup [lm (av (x - y)),I 0],[]):=by
 have h1:(av x).length≤200:=bF (by omega)
 have h2:(av y).length≤200:=bF (by omega)
 have h3:aq (x - y)≤5000:=by
  rw [dm] at hx ⊢
  omega
 have h4:(av (x - y)).length≤200:=bF (by omega)
 rw [RP (cd x) (cd y) (by omega) (by omega),bI,bI,if_neg (by omega),iZ,if_neg (by omega)]
end Go.Ab
namespace Go.Ab
open Go Go.IntWalk
set_option maxRecDepth 4000
end Go.Ab
namespace Go.Ab
open Go Go.IntWalk
set_option maxRecDepth 4000
end Go.Ab
namespace Go.Ab
open Go Go.IntWalk
set_option maxRecDepth 4000
def XG (z f p:Int) (up:Bool):Rd × Int:=if z=0 then (el,0) else Zj (decide (z < 0)) (Zi z.natAbs f false p (up != decide (z < 0)))
end Go.Ab
namespace Go.Ab
open Go Go.IntWalk
set_option maxRecDepth 4000
def fR (neg:Bool) (n:Nat):Int:=if neg=true then -(n:Int) else n
theorem i6 (n:Nat):fR true n=-(n:Int):=rfl
theorem i7 (n:Nat):fR false n=(n:Int):=rfl
end Go.Ab
namespace Go.Ab
open Go Go.IntWalk
set_option maxRecDepth 4000
def Zk (a b:Rd) (p:Int) (up:Bool):Rd × Int:=if Bq p [a,b]=0 then XG (zI a*zI b) (-32768) p up else (el,Bq p [a,b])
theorem qT {d:Rd} (h:d.m.length=0):zI d=0:=by
 unfold zI
 rw [IM h]
 split <;> rfl
end Go.Ab
namespace Go.Ab
open Go Go.IntWalk
set_option maxRecDepth 4000
theorem nj {neg:Bool} {M:Nat} {e:Int} (h:M ≠ 0):cB neg M e=⟨neg,av (M / 2 ^ tz M),e+tz M⟩:=by
 unfold cB
 rw [if_neg h]
theorem jx {neg:Bool} {e:Int}:cB neg 0 e=el:=by
 unfold cB
 rw [if_pos rfl]
theorem oK {neg:Bool} {M k:Nat} {e:Int}:cB neg (M*2 ^ k) e=cB neg M (e+k):=by
 by_cases h:M=0
 ·rw [h,Nat.zero_mul,jx,jx]
 ·have h2:M*2 ^ k ≠ 0:=Nat.mul_ne_zero h (Nat.pos_iff_ne_zero.1 (Nat.two_pow_pos k))
  rw [nj h,nj h2,Nat.mul_comm M,AQ k h,Nat.pow_add,Nat.mul_div_mul_left _ _ (Nat.two_pow_pos k)]
  rw [show e+((k+tz M:Nat):Int)=e+k+tz M by omega]
theorem uU {neg:Bool} {M:Nat} {e:Int} (h:M ≠ 0):ac (cB neg M e).m=M / 2 ^ tz M∧(cB neg M e).e=e+tz M∧M / 2 ^ tz M % 2=1∧aq (M / 2 ^ tz M)+tz M=aq M:=by
 obtain ⟨h1,h2⟩:=tv h
 refine ⟨?_,?_,h2,?_⟩
 ·rw [nj h]
  exact bI _
 ·rw [nj h]
 ·have h3:=lE (n:=M / 2 ^ tz M) (tz M) (by omega)
  rw [Nat.mul_comm,← h1] at h3
  exact h3.symm
theorem Qb {neg:Bool} {M:Nat} {e:Int} (h:sk (aq (ac (cB neg M e).m)) (cB neg M e).e=true):vd (cB neg M e)=true:=by
 by_cases h0:M=0
 ·subst h0
  rw [jx]
  rfl
 ·obtain ⟨g1,g2,g3,g4⟩:=uU (neg:=neg) (e:=e) h0
  have hn:M / 2 ^ tz M ≠ 0:=by omega
  rw [g1] at h
  have hb:=(tI h (Nat.pos_iff_ne_zero.1 (lD hn))).1
  rw [nj h0] at h ⊢
  unfold vd
  have hl:(av (M / 2 ^ tz M)).length≤128:=bF (by omega)
  have hl0:(av (M / 2 ^ tz M)).length ≠ 0:=fun h5=>hn (lZ.1 (List.length_eq_zero_iff.1 h5))
  have ht:(av (M / 2 ^ tz M)).getD ((av (M / 2 ^ tz M)).length - 1) 0 ≠ 0:=(Lu _).resolve_left (fun h5=>hn (lZ.1 h5))
  have ho:(av (M / 2 ^ tz M)).getD 0 0 % 2=1:=by
   rw [lY hn]
   show (M / 2 ^ tz M) % 4294967296 % 2=1
   omega
  rw [bI,if_neg hl0,decide_eq_true (p:=(av (M / 2 ^ tz M)).length≤256) (by omega),decide_eq_true ho,decide_eq_true ht]
  exact h
end Go.Ab
namespace Go.Ab
open Go Go.IntWalk
set_option maxRecDepth 4000
def Zl (d:Rd) (p:Int) (up:Bool):Rd × Int:=if Bq p [d]=0 then XG (zI d) (-16384) p up else (el,Bq p [d])
end Go.Ab
namespace Go.Ab
open Go Go.IntWalk
set_option maxRecDepth 4000
structure Ri where
 lo:Rd
 hi:Rd
 all:Bool
def XH (x:Ri):List AV:=[B x.lo.neg,lm x.lo.m,I x.lo.e,B x.hi.neg,lm x.hi.m,I x.hi.e,B x.all]
structure OkI (x:Ri):Prop where
 lo:Ok0 x.lo
 hi:Ok0 x.hi
def z0 (d:Rd):Bool:=!d.neg && (decide (d.m.length=0) && decide (d.e=0))
end Go.Ab
namespace Go.Ab
open Go Go.IntWalk
set_option maxRecDepth 4000
def LN (l:List Ri):List (List AV):=l.map XH
@[go_sem] theorem abG (l:List Ri):(LN l).length=l.length:=by simp [LN]
end Go.Ab
namespace Go.Ab
open Go Go.IntWalk
set_option maxRecDepth 4000
theorem G8:vd el=true∧Ok0 el:=⟨rfl,⟨fun x hx=>(nomatch hx),by decide⟩⟩
end Go.Ab
namespace Go.Ab
open Go Go.IntWalk
set_option maxRecDepth 4000
set_option maxHeartbeats 1000000
end Go.Ab
namespace Go.Ab
open Go Go.IntWalk
set_option maxRecDepth 4000
set_option maxHeartbeats 1000000
def XI (d:Rd) (p:Int) (up:Bool):Nat→Rd × Int→Rd × Int
 | 0,r=>r
 | k+1,r=>if r.2=0 then XI d p up k (Zk r.1 d p up) else r
def pw (d:Rd) (n:Nat) (p:Int) (up:Bool):Rd × Int:=XI d p up (n - 1) (Zl d p up)
end Go.Ab
namespace Go.Ab
open Go Go.IntWalk
set_option maxRecDepth 4000
set_option maxHeartbeats 1000000
def sS (d:Rd):Int:=if vd d=false∨d.m.length=0 then 0 else if d.neg=true then -1 else 1
def one:Rd:=⟨false,[1],0⟩
end Go.Ab
namespace Go.Ab
open Go Go.IntWalk
set_option maxRecDepth 4000
set_option maxHeartbeats 1000000
def aY (l:List Int):List (List AV):=l.map fun (n:Int)=>[I n]
@[go_sem] theorem tJ (l:List Int):(aY l).length=l.length:=by simp [aY]
theorem qU {l:List Int} {i:Int} {n:Nat} {d:Int} (hi:i=n) (h:l[n]?=some d):bH (aY l) i=some (.ipt [I d]):=by
 subst hi
 simp [bH,aY,h]
theorem G9 {x:Int}:R F.cmp_isNaN_int_ [I x] []=some (B false,[]):=by
 refine aX zB zA (vV false) rfl ?_
 simp only [iX,rx,go_sem,↓reduceIte,ad7]
theorem LO {x y:Int}:R F.cmp_Compare_int_ [I x,I y] []=some (I (dM x y),[]):=by
 refine aX xc w9 (tE false) rfl ?_
 have h1:=G9 (x:=x)
 have h2:=G9 (x:=y)
 unfold dM
 by_cases e1:x < y
 ·have f1:(x < y)=True:=tt e1
  rw [if_pos e1]
  simp only [dx,iu,go_sem,↓reduceIte,ad7,ad9,ad8,h1,h2,f1]
 ·have f1:(x < y)=False:=ff e1
  rw [if_neg e1]
  by_cases e2:y < x
  ·have f2:(y < x)=True:=tt e2
   rw [if_pos e2]
   simp only [dx,iu,go_sem,↓reduceIte,ad7,ad9,ad8,h1,h2,f1,f2]
  ·have f2:(y < x)=False:=ff e2
   rw [if_neg e2]
   simp only [dx,iu,go_sem,↓reduceIte,ad7,ad9,ad8,h1,h2,f1,f2]
def gR:List Int→List Int→Int
 | [],[]=>0
 | [],_::_=>-1
 | _::_,[]=>1
 | x::xs,y::ys=>if dM x y=0 then gR xs ys else dM x y
theorem N3 {a b:List Int} (hl:a.length=b.length) (h2:a.length≤100000):∀ (k i:Nat),i+k=a.length→∀ (s:af) (h:aa),s 0=.sl 1 (aY a)→s 1=.sl 1 (aY b)→s 9=.sl 1 (aY a)→s 10=I a.length→s 11=I i →
  ∃ hh,aI 0 [0,1] (aU (az R (ab false) cp) [0,1,9,10,11] [] s h)=if gR (a.drop i) (b.drop i)=0 then some (.normal,⟨upd (upd (fun _=>.any) 1 (.sl 1 (aY b))) 0 (.sl 1 (aY a)),fun _=>.dead⟩) else some (.ret,⟨upd (fun _=>.any) 4 (I (gR (a.drop i) (b.drop i))),hh⟩):=by
 intro k
 induction k with
 | zero =>
  intro i hi s h h0 h1 h9 h10 h11
  have e1:((i:Int) < a.length)=False:=ff (by omega)
  rw [List.drop_eq_nil_of_le (by omega),List.drop_eq_nil_of_le (by omega),aB]
  refine ⟨fun _=>.dead,?_⟩
  show _=if (0:Int)=0 then _ else _
  rw [if_pos rfl]
  simp only [cp,go_sem,↓reduceIte,ad7,h0,h1,h9,h10,h11,e1]
 | succ k ih =>
  intro i hi s h h0 h1 h9 h10 h11
  have hlt:i < a.length:=by omega
  have hlt2:i < b.length:=by omega
  have e1:((i:Int) < a.length)=True:=tt (by omega)
  have e4:((b.length:Int)≤(i:Int))=False:=ff (by omega)
  have e2:bH (aY a) (i:Int)=some (.ipt [I a[i]]):=qU rfl (List.getElem?_eq_getElem hlt)
  have e3:bH (aY b) (i:Int)=some (.ipt [I b[i]]):=qU rfl (List.getElem?_eq_getElem hlt2)
  have e5:IntKind.i64.wrap ((i:Int)+1)=((i+1:Nat):Int):=wi (by omega) (by omega)
  rw [List.drop_eq_getElem_cons hlt,List.drop_eq_getElem_cons hlt2,aB]
  have ih':=ih (i+1) (by omega)
  have hc:=LO (x:=a[i]) (y:=b[i])
  generalize a[i]=x at e2 hc ⊢
  generalize b[i]=y at e3 hc ⊢
  generalize aU _ _ _=L at ih' ⊢
  unfold gR
  by_cases hz:dM x y=0
  ·have e6:(dM x y=0)=True:=tt hz
   simp only [if_pos hz]
   simp only [cp,go_sem,↓reduceIte,ad7,ad9,ad8,h0,h1,h9,h10,h11,e1,e2,e3,e4,e5,hc,e6]
   exact ih' _ _ rfl rfl rfl rfl rfl
  ·have e6:(dM x y=0)=False:=ff hz
   simp only [if_neg hz]
   refine ⟨?hh,?_⟩
   rotate_left
   simp only [cp,go_sem,↓reduceIte,ad7,ad9,ad8,h0,h1,h9,h10,h11,e1,e2,e3,e4,hc,e6]
   rfl
theorem Ks {a b:List Int} (hl:a.length=b.length) (h2:a.length≤100000):R F.slices_Compare_int_int_ [.sl 1 (aY a),.sl 1 (aY b)] []=some (I (gR a b),[]):=by
 refine aX qK qJ (pv false) rfl ?_
 have h3:=N3 hl h2 a.length 0 (Nat.zero_add _)
 simp only [List.drop_zero,Int.natCast_zero] at h3
 by_cases hz:gR a b=0
 ·simp only [if_pos hz] at h3
  have e1:((a.length:Int) < b.length)=False:=ff (by omega)
  simp only [cE,fZ,go_sem,↓reduceIte,ad7]
  rw [(h3 _ _ rfl rfl rfl rfl rfl).choose_spec,hz]
  simp only [go_sem,↓reduceIte,ad7,e1]
 ·simp only [if_neg hz] at h3
  simp only [cE,fZ,go_sem,↓reduceIte,ad7]
  rw [(h3 _ _ rfl rfl rfl rfl rfl).choose_spec]
  simp only [go_sem,↓reduceIte]
def bi:List Int→Int
 | []=>0
 | x::l=>x+bi l
def sm (l:List Int):Prop:=l.length≤1000∧∀ x ∈ l,0≤x∧x≤32
theorem N4 {l:List Int} {i:Nat} (h:i < l.length):bi (l.take (i+1))=bi (l.take i)+l[i]:=by
 induction l generalizing i with
 | nil=>exact absurd h (Nat.not_lt_zero _)
 | cons a l ih =>
  cases i with
  | zero=>simp [bi]
  | succ i =>
   have:=ih (i:=i) (by simpa using h)
   simp only [List.take_succ_cons,bi,List.getElem_cons_succ]
   rw [this]
   omega
theorem R5 {l:List Int} (h:∀ x ∈ l,0≤x∧x≤32):0≤bi l∧bi l≤32*l.length:=by
 induction l with
 | nil=>exact ⟨Int.le_refl _,Int.le_refl _⟩
 | cons a l ih =>
  have h1:=h a (List.mem_cons_self ..)
  have h2:=ih (fun x hx=>h x (List.mem_cons_of_mem _ hx))
  simp only [bi,List.length_cons]
  omega
theorem N5 {a:List Int} (h2:sm a):∀ (k i:Nat),i+k=a.length→∀ (s:af) (h:aa),s 3=I (bi (a.take i))→s 6=.sl 1 (aY a)→s 7=I a.length→s 8=I i →
  aI 0 [3] (aU (az R (ab false) jO) [3,6,7,8] [] s h)=some (.normal,⟨upd (fun _=>.any) 3 (I (bi a)),fun _=>.dead⟩):=by
 intro k
 induction k with
 | zero =>
  intro i hi s h h3 h6 h7 h8
  have e1:((i:Int) < a.length)=False:=ff (by omega)
  rw [List.take_of_length_le (by omega)] at h3
  rw [aB]
  simp only [jO,go_sem,↓reduceIte,ad7,h3,h6,h7,h8,e1]
 | succ k ih =>
  intro i hi s h h3 h6 h7 h8
  have hlt:i < a.length:=by omega
  obtain ⟨g1,g2⟩:=h2
  have e1:((i:Int) < a.length)=True:=tt (by omega)
  have e2:bH (aY a) (i:Int)=some (.ipt [I a[i]]):=qU rfl (List.getElem?_eq_getElem hlt)
  have e5:IntKind.i64.wrap ((i:Int)+1)=((i+1:Nat):Int):=wi (by omega) (by omega)
  have b1:=R5 (l:=a.take i) (fun x hx=>g2 x (List.mem_of_mem_take hx))
  have b2:=g2 a[i] (List.getElem_mem hlt)
  have b3:(a.take i).length≤1000:=by simp only [List.length_take]; omega
  have e6:IntKind.i64.wrap (bi (a.take i)+a[i])=bi (a.take (i+1)):=by
   rw [N4 hlt]
   exact i64_in _ ⟨by omega,by omega⟩
  have ih':=ih (i+1) (by omega)
  generalize a[i]=x at e2 e6 ⊢
  rw [aB]
  generalize aU _ _ _=L at ih' ⊢
  simp only [jO,go_sem,↓reduceIte,ad7,h3,h6,h7,h8,e1,e2,e5,e6]
  exact ih' _ _ rfl rfl rfl rfl
theorem qj {a:List Int} (h2:sm a):R F.poly_degree [.sl 1 (aY a)] []=some (I (bi a),[]):=by
 refine aX DL DK (yU false) rfl ?_
 have h3:=N5 h2 a.length 0 (Nat.zero_add _)
 simp only [List.take_zero,bi,Int.natCast_zero] at h3
 simp only [lQ,vk,go_sem,↓reduceIte,ad7]
 rw [h3 _ _ rfl rfl rfl rfl]
 simp only [go_sem,↓reduceIte]
def bt (a b:List Int):Int:=if dM (bi a) (bi b)=0 then gR b a else dM (bi a) (bi b)
theorem Ha {a b:List Int} (ha:sm a) (hb:sm b) (hl:a.length=b.length):R F.poly_order [.sl 1 (aY a),.sl 1 (aY b)] []=some (I (bt a b),[]):=by
 refine aX Gt Gs (A6 false) rfl ?_
 have d1:=qj ha
 have d2:=qj hb
 have d3:=LO (x:=bi a) (y:=bi b)
 have d4:=Ks hl.symm (by have:=hb.1; omega)
 unfold bt
 by_cases hz:dM (bi a) (bi b)=0
 ·have e6:(dM (bi a) (bi b)=0)=True:=tt hz
  rw [if_pos hz]
  simp only [kq,rq,go_sem,↓reduceIte,ad7,ad9,ad8,d1,d2,d3,d4,e6]
 ·have e6:(dM (bi a) (bi b)=0)=False:=ff hz
  rw [if_neg hz]
  simp only [kq,rq,go_sem,↓reduceIte,ad7,ad9,ad8,d1,d2,d3,e6]
end Go.Ab
namespace Go.Ab
open Go Go.IntWalk
set_option maxRecDepth 4000
set_option maxHeartbeats 1000000
structure Rt where
 exps:List Int
 c:Rd
structure Rp where
 vars:Int
 terms:List Rt
def bv (t:Rt):List AV:=[.sl 1 (aY t.exps),B t.c.neg,lm t.c.m,I t.c.e]
def ax (l:List Rt):List (List AV):=l.map bv
def aZ (a:Rp):AV:=.agg [I a.vars,.sl 4 (ax a.terms)]
@[go_sem] theorem fB (l:List Rt):(ax l).length=l.length:=by simp [ax]
theorem jq {l:List Rt} {i:Int} {n:Nat} {d:Rt} (hi:i=n) (h:l[n]?=some d):bH (ax l) i=some (.ipt (bv d)):=by
 subst hi
 simp [bH,ax,h]
theorem qk {α:Type} {f:α→α} {l:List α} (h:∀ x ∈ l,f x=x):l.map f=l:=(List.map_congr_left (g:=fun c=>c) h).trans (List.map_id' _)
@[go_sem] theorem tK (l:List Rt):(ax l).map (ce [.o 2 [],.o 0 [],.o 2 [],.o 0 []])=ax l:=by
 refine qk fun x hx=>?_
 simp only [ax,List.mem_map] at hx
 obtain ⟨t,ht,rfl⟩:=hx
 simp only [bv,go_sem]
structure OkT (t:Rt):Prop where
 c:Ok0 t.c
 len:t.exps.length≤100000
structure OkP (a:Rp):Prop where
 t:∀ t ∈ a.terms,OkT t
def rI (e:Int):Bool:=decide (e < 0) || decide (32 < e)
theorem R6 {e:Int}:R F.poly_Valid_1 [I e] []=some (B (rI e),[]):=by
 refine aX B9 B8 (x9 false) rfl ?_
 unfold rI
 by_cases h:e < 0
 ·have e1:(e < 0)=True:=tt h
  simp only [ir,pi,go_sem,↓reduceIte,ad7,e1,decide_true,Bool.true_or]
 ·have e1:(e < 0)=False:=ff h
  simp only [ir,pi,go_sem,↓reduceIte,ad7,e1,decide_false,Bool.false_or]
theorem N6 {l:List Int} (h2:l.length≤100000):R F.slices_ContainsFunc_int_int_ [.sl 1 (aY l),.fn F.poly_Valid_1 [] []] []=some (B (l.any rI),[]):=by
 let p:List AV→Bool:=fun row=>match row with | [.v (.int _ e)]=>rI e | _=>false
 have h1:=Bh (k:=1) (g:=false) (f:=F.poly_Valid_1) (rows:=aY l) (p:=p) qg qf (oI false) rfl (tC false) (by rw [tJ]; omega) (fun row hr=>by
  simp only [aY,List.mem_map] at hr
  obtain ⟨e,he,rfl⟩:=hr
  refine ⟨I e,rfl,rfl,?_⟩
  simp only [go_sem,R6,p])
 have h2:=xP (k:=1) oG oF (mJ false) rfl (jv false) (pu false) (by simp only [go_sem]) h1
 have h3:(aY l).any p=l.any rI:=by
  unfold aY
  rw [List.any_map]
  rfl
 rw [h3] at h2
 exact h2
def Da (v:Int) (t:Rt):Bool:=decide ((t.exps.length:Int)=v) && (vd t.c && (decide (t.c.m.length ≠ 0) && (!(t.exps.any rI) && decide (bi t.exps≤32))))
def Hb:Option Rt→Rt→Bool
 | none,_=>true
 | some q,t=>decide (bt q.exps t.exps < 0)
def tL (v:Int):Option Rt→List Rt→Bool
 | _,[]=>true
 | pr,t::l=>Da v t && (Hb pr t && tL v (some t) l)
theorem Br {v:Int} {t:Rt} (h:Da v t=true):(t.exps.length:Int)=v∧vd t.c=true∧t.c.m.length ≠ 0∧t.exps.any rI=false∧bi t.exps≤32:=by
 unfold Da at h
 simpa using h
theorem qV {l:List Int} (h:l.any rI=false):∀ x ∈ l,0≤x∧x≤32:=by
 intro x hx
 have h1:=List.any_eq_false.1 h x hx
 unfold rI at h1
 simp only [Bool.or_eq_true,decide_eq_true_eq,not_or] at h1
 omega
theorem Qc {a:Rp} (ok:OkP a) (hv:a.vars≤8) (h2:a.terms.length≤500):∀ (k i:Nat),i+k=a.terms.length→∀ (pr:Option Rt),(i=0→pr=none)→(0 < i→∃ q,pr=some q∧a.terms[i - 1]?=some q∧Da a.vars q=true) →
  ∀ (s:af) (h:aa),s 1=.ref 1 none 0 0 0→s 20=.sl 4 (ax a.terms)→s 21=I a.terms.length→s 22=I i→h 1=.bx [I a.vars,.sl 4 (ax a.terms)] →
  ∃ hh,aI 0 [] (aU (az R (ab false) bV) [1,20,21,22] [1] s h)=if tL a.vars pr (a.terms.drop i)=true then some (.normal,⟨fun _=>.any,hh⟩) else some (.ret,⟨upd (fun _=>.any) 2 (B false),hh⟩):=by
 intro k
 induction k with
 | zero =>
  intro i hi pr p0 p1 s h h1 h20 h21 h22 k1
  have e1:((i:Int) < a.terms.length)=False:=ff (by omega)
  rw [List.drop_eq_nil_of_le (by omega),aB]
  refine ⟨?hh0,?_⟩
  rotate_left
  show _=if true=true then _ else _
  rw [if_pos rfl]
  simp only [bV,go_sem,↓reduceIte,ad7,aeb,h1,h20,h21,h22,k1,e1]
  rfl
 | succ k ih =>
  intro i hi pr p0 p1 s h h1 h20 h21 h22 k1
  have hlt:i < a.terms.length:=by omega
  have e1:((i:Int) < a.terms.length)=True:=tt (by omega)
  have e2:bH (ax a.terms) (i:Int)=some (.ipt (bv a.terms[i])):=jq rfl (List.getElem?_eq_getElem hlt)
  have e5:IntKind.i64.wrap ((i:Int)+1)=((i+1:Nat):Int):=wi (by omega) (by omega)
  have okt:=ok.t a.terms[i] (List.getElem_mem hlt)
  have hnext:a.terms[i+1 - 1]?=some a.terms[i]:=List.getElem?_eq_getElem hlt
  rw [List.drop_eq_getElem_cons hlt,aB]
  have ih':=ih (i+1) (by omega) (some a.terms[i]) (fun h=>absurd h (Nat.succ_ne_zero _))
  generalize a.terms[i]=t at e2 okt ih' hnext ⊢
  generalize aU _ _ _=L at ih' ⊢
  have hvd:=iI okt.c
  have hct:=N6 okt.len
  simp only [bv] at e2
  simp only [aF,aW] at hvd
  unfold tL
  cases hb:Da a.vars t with
  | false =>
   simp only [Bool.false_and,if_neg Bool.false_ne_true]
   unfold Da at hb
   by_cases c1:(t.exps.length:Int)=a.vars
   ·have f1:((t.exps.length:Int)=a.vars)=True:=tt c1
    rw [decide_eq_true c1,Bool.true_and] at hb
    cases c2:vd t.c with
    | false =>
     rw [c2] at hvd
     refine ⟨?hh2,?_⟩
     rotate_left
     simp only [bV,go_sem,↓reduceIte,ad7,ad9,ad8,aea,aeb,h1,h20,h21,h22,k1,e1,e2,f1,hvd]
     rfl
    | true =>
     rw [c2] at hvd hb
     rw [Bool.true_and] at hb
     by_cases c3:t.c.m.length=0
     ·have f3:((t.c.m.length:Int)=0)=True:=tt (by omega)
      refine ⟨?hh3,?_⟩
      rotate_left
      simp only [bV,go_sem,↓reduceIte,ad7,ad9,ad8,aea,aeb,h1,h20,h21,h22,k1,e1,e2,f1,hvd,f3]
      rfl
     ·have f3:((t.c.m.length:Int)=0)=False:=ff (by omega)
      rw [decide_eq_true c3,Bool.true_and] at hb
      cases c4:t.exps.any rI with
      | true =>
       rw [c4] at hct
       refine ⟨?hh4,?_⟩
       rotate_left
       simp only [bV,go_sem,↓reduceIte,ad7,ad9,ad8,aea,aeb,h1,h20,h21,h22,k1,e1,e2,f1,hvd,f3,hct]
       rfl
      | false =>
       rw [c4] at hct hb
       rw [Bool.not_false,Bool.true_and] at hb
       have hdg:=qj (a:=t.exps) ⟨by omega,qV c4⟩
       have f5:(32 < bi t.exps)=True:=tt (by have:=of_decide_eq_false hb; omega)
       refine ⟨?hh5,?_⟩
       rotate_left
       simp only [bV,go_sem,↓reduceIte,ad7,ad9,ad8,aea,aeb,h1,h20,h21,h22,k1,e1,e2,f1,hvd,f3,hct,hdg,f5]
       rfl
   ·have f1:((t.exps.length:Int)=a.vars)=False:=ff c1
    refine ⟨?hh1,?_⟩
    rotate_left
    simp only [bV,go_sem,↓reduceIte,ad7,ad9,ad8,aea,aeb,h1,h20,h21,h22,k1,e1,e2,f1]
    rfl
  | true =>
   obtain ⟨c1,c2,c3,c4,c5⟩:=Br hb
   have f1:((t.exps.length:Int)=a.vars)=True:=tt c1
   rw [c2] at hvd
   have f3:((t.c.m.length:Int)=0)=False:=ff (by omega)
   rw [c4] at hct
   have hdg:=qj (a:=t.exps) ⟨by omega,qV c4⟩
   have f5:(32 < bi t.exps)=False:=ff (by omega)
   simp only [Bool.true_and]
   by_cases hi0:i=0
   ·have f6:(0 < (i:Int))=False:=ff (by omega)
    rw [p0 hi0]
    simp only [Hb,Bool.true_and]
    simp only [bV,go_sem,↓reduceIte,ad7,ad9,ad8,aea,aeb,h1,h20,h21,h22,k1,e1,e2,f1,hvd,f3,hct,hdg,f5,f6,e5]
    exact ih' (fun _=>⟨t,rfl,hnext,hb⟩) _ _ rfl rfl rfl rfl rfl
   ·have f6:(0 < (i:Int))=True:=tt (by omega)
    obtain ⟨q,q1,q2,q3⟩:=p1 (by omega)
    obtain ⟨d1,d2,d3,d4,d5⟩:=Br q3
    rw [q1]
    have e7:IntKind.i64.wrap ((i:Int) - 1)=((i - 1:Nat):Int):=wi (by omega) (by omega)
    have e8:bH (ax a.terms) ((i - 1:Nat):Int)=some (.ipt (bv q)):=jq rfl q2
    simp only [bv] at e8
    have ho:=Ha (a:=q.exps) (b:=t.exps) ⟨by omega,qV d4⟩ ⟨by omega,qV c4⟩ (by omega)
    simp only [Hb]
    by_cases c6:bt q.exps t.exps < 0
    ·have f7:(0≤bt q.exps t.exps)=False:=ff (by omega)
     simp only [decide_eq_true c6,Bool.true_and]
     simp only [bV,go_sem,↓reduceIte,ad7,ad9,ad8,aea,aec,aeb,h1,h20,h21,h22,k1,e1,e2,f1,hvd,f3,hct,hdg,f5,f6,e5,e7,e8,ho,f7]
     exact ih' (fun _=>⟨t,rfl,hnext,hb⟩) _ _ rfl rfl rfl rfl rfl
    ·have f7:(0≤bt q.exps t.exps)=True:=tt (by omega)
     simp only [decide_eq_false c6,Bool.false_and,if_neg Bool.false_ne_true]
     refine ⟨?hh7,?_⟩
     rotate_left
     simp only [bV,go_sem,↓reduceIte,ad7,ad9,ad8,aea,aec,aeb,h1,h20,h21,h22,k1,e1,e2,f1,hvd,f3,hct,hdg,f5,f6,e7,e8,ho,f7]
     rfl
def vp (a:Rp):Bool:=decide (0≤a.vars) && (decide (a.vars≤8) && (decide (a.terms.length≤500) && tL a.vars none a.terms))
theorem nM {a:Rp} (ok:OkP a):R F.poly_Valid [aZ a] []=some (B (vp a),[]):=by
 refine aX F8 F7 (AU false) rfl ?_
 unfold vp
 by_cases c1:0≤a.vars
 ·have f1:(a.vars < 0)=False:=ff (by omega)
  rw [decide_eq_true c1,Bool.true_and]
  by_cases c2:a.vars≤8
  ·have f2:(8 < a.vars)=False:=ff (by omega)
   rw [decide_eq_true c2,Bool.true_and]
   by_cases c3:a.terms.length≤500
   ·have f3:(500 < (a.terms.length:Int))=False:=ff (by omega)
    rw [decide_eq_true c3,Bool.true_and]
    have h3:=Qc ok c2 c3 a.terms.length 0 (Nat.zero_add _) none (fun _=>rfl) (fun h=>absurd h (Nat.lt_irrefl _))
    simp only [List.drop_zero,Int.natCast_zero] at h3
    cases hb:tL a.vars none a.terms with
    | true =>
     rw [hb] at h3
     simp only [] at h3
     simp only [eh,jf,aZ,go_sem,↓reduceIte,ad7,ad9,ad8,f1,f2,f3]
     rw [(h3 _ _ rfl rfl rfl rfl rfl).choose_spec]
     simp only [go_sem,↓reduceIte]
    | false =>
     rw [hb] at h3
     simp only [if_neg Bool.false_ne_true] at h3
     simp only [eh,jf,aZ,go_sem,↓reduceIte,ad7,ad9,ad8,f1,f2,f3]
     rw [(h3 _ _ rfl rfl rfl rfl rfl).choose_spec]
     simp only [go_sem,↓reduceIte]
   ·have f3:(500 < (a.terms.length:Int))=True:=tt (by omega)
    rw [decide_eq_false c3,Bool.false_and]
    simp only [eh,jf,aZ,go_sem,↓reduceIte,ad7,ad9,ad8,f1,f2,f3]
  ·have f2:(8 < a.vars)=True:=tt (by omega)
   rw [decide_eq_false c2,Bool.false_and]
   simp only [eh,jf,aZ,go_sem,↓reduceIte,ad7,ad9,ad8,f1,f2]
 ·have f1:(a.vars < 0)=True:=tt (by omega)
  rw [decide_eq_false c1,Bool.false_and]
  simp only [eh,jf,aZ,go_sem,↓reduceIte,ad7,ad9,ad8,f1]
end Go.Ab
namespace Go.Ab
open Go Go.IntWalk
set_option maxRecDepth 4000
set_option maxHeartbeats 1000000
@[go_sem] theorem abH (l:List Ri):(LN l).map (ce [.o 0 [],.o 2 [],.o 0 [],.o 0 [],.o 2 [],.o 0 [],.o 0 []])=LN l:=by
 refine qk fun x hx=>?_
 simp only [LN,List.mem_map] at hx
 obtain ⟨t,ht,rfl⟩:=hx
 simp only [XH,go_sem]
end Go.Ab
namespace Go.Ab
open Go Go.IntWalk
set_option maxRecDepth 4000
set_option maxHeartbeats 1000000
theorem Qd {v:Int}:∀ (l:List Rt) (pr:Option Rt),tL v pr l=true→∀ t ∈ l,Da v t=true:=by
 intro l
 induction l with
 | nil=>exact fun pr h t ht=>nomatch ht
 | cons a l ih =>
  intro pr h t ht
  unfold tL at h
  simp only [Bool.and_eq_true] at h
  rcases List.mem_cons.1 ht with h1 | h1
  ·rw [h1]
   exact h.1
  ·exact ih _ h.2.2 t h1
end Go.Ab
namespace Go.Ab
open Go Go.IntWalk
set_option maxRecDepth 4000
set_option maxHeartbeats 1000000
theorem afm {n:Nat} {i:Int} (hi:i=n) (hn:n < 18446744073709551616):dI .and (.v (.int .u64 i)) (.v (.int .u64 4294967295))=some (.v (.int .u64 ((n % 4294967296:Nat):Int))):=by
 subst hi
 rw [Z6]
 have e:(BitVec.ofInt IntKind.u64.bits (n:Int) &&& BitVec.ofInt IntKind.u64.bits 4294967295).toNat=n % 4294967296:=by
  show (BitVec.ofInt 64 (n:Int) &&& BitVec.ofInt 64 4294967295).toNat=n % 4294967296
  rw [BitVec.toNat_and]
  have e2:(BitVec.ofInt 64 (n:Int)).toNat=n:=by
   simp
   omega
  rw [e2,show (BitVec.ofInt 64 4294967295).toNat=2 ^ 32 - 1 from by decide,Nat.and_two_pow_sub_one_eq_mod]
 rw [e]
 rw [qh rfl (by omega)]
theorem agG {n:Nat} {i:Int} (hi:i=n) (hn:n < 4294967296):dI .and (.v (.int .u32 i)) (.v (.int .u32 1))=some (.v (.int .u32 ((n % 2:Nat):Int))):=by
 subst hi
 rw [Z6]
 have e:(BitVec.ofInt IntKind.u32.bits (n:Int) &&& BitVec.ofInt IntKind.u32.bits 1).toNat=n % 2:=by
  show (BitVec.ofInt 32 (n:Int) &&& BitVec.ofInt 32 1).toNat=n % 2
  rw [BitVec.toNat_and]
  have e2:(BitVec.ofInt 32 (n:Int)).toNat=n:=by
   simp
   omega
  rw [e2,show (BitVec.ofInt 32 1).toNat=2 ^ 1 - 1 from by decide,Nat.and_two_pow_sub_one_eq_mod]
 rw [e]
 rw [RM rfl (by omega)]
theorem ahH (m:List Nat) (h2:m.length < 4611686018427387904):∀ (n:Nat),n≤m.length→∀ (s:af) (h:aa),s 0=lm m→s 3=I n →
  aI 0 [0,3] (aU (az R (ab false) afi) [0,3] [] s h)=some (.normal,⟨upd (upd (fun _=>.any) 3 (I (iE m n))) 0 (lm m),fun _=>.dead⟩):=Lz m h2
theorem afD {m:List Nat} (hb:Lb m) (h:m.length≤10000000):R F.r02_trim [lm m] []=some (lm (av (ac m)),[]):=by
 refine aX ahF ahE (agl false) rfl ?_
 have h1:dJ 1 (lm m) none (some (I (iE m m.length:Nat))) none=some (lm (av (ac m))):=by
  rw [GS (a:=0) (b:=iE m m.length) rfl (uQ rfl (tu _ _)) (tu _ _),List.drop_zero,Nat.sub_zero,F3 hb]
 have hl:=dG m hb
 have e1:((av (ac m)).length*4≤140737488355328)=True:=tt (by omega)
 simp only [aeY,afG,go_sem,↓reduceIte,ad7,aea,aec,ahH m (by omega) m.length (Nat.le_refl _),h1,N0,e1,List.nil_append,List.length_nil,true_or,Nat.zero_add,Nat.le_refl,List.replicate_zero]
theorem ah3:∀ (x b:Nat),x < 4294967296→b+aq x≤100000000→∀ (s:af) (h:aa),s 3=I b→s 4=U x →
  aI 0 [3] (aU (az R (ab false) aeR) [3,4] [] s h)=some (.normal,⟨upd (fun _=>.any) 3 (I (b+aq x:Nat)),fun _=>.dead⟩):=by
 intro x
 induction x using Nat.strongRecOn with
 | ind x ih =>
  intro b hx hb s h h3 h4
  rw [aB]
  by_cases h0:x=0
  ·have e1:(0 < (x:Int))=False:=ff (by omega)
   rw [h0,LK,Nat.add_zero]
   rw [h0] at e1 h4
   simp only [aeR,go_sem,↓reduceIte,ad7,h3,h4,e1]
  ·have e1:(0 < (x:Int))=True:=tt (by omega)
   have e2:=Ko (n:=x) (k:=1) (kk:=.u64) (j:=1) rfl rfl (by omega)
   have e3:IntKind.i64.wrap ((b:Int)+1)=((b+1:Nat):Int):=wi (by omega) (by omega)
   have e4:aq x=1+aq (x / 2 ^ 1):=by
    have h5:=zR x 1
    have h6:=lD h0
    omega
   have ih':=ih (x / 2 ^ 1) (by omega) (b+1) (by omega) (by omega)
   rw [show b+aq x=b+1+aq (x / 2 ^ 1) by omega]
   generalize aU _ _ _=L at ih' ⊢
   simp only [aeR,go_sem,↓reduceIte,ad7,h3,h4,e1,e2,e3]
   exact ih' _ _ rfl rfl
theorem aiz {m:List Nat} (hb:Lb m) (h:m.length≤1000000) (hc:uM m):R F.r02_bits [lm m] []=some (I (aq (ac m):Nat),[]):=by
 refine aX ahC ahB (agk false) rfl ?_
 by_cases h0:m.length=0
 ·have:m=[]:=List.length_eq_zero_iff.1 h0
  subst this
  simp only [aeP,afg,go_sem,↓reduceIte,ad7,List.length_nil,Int.natCast_zero,ac,LK]
 ·have e1:((m.length:Int)=0)=False:=ff (by omega)
  have e2:IntKind.i64.wrap ((m.length:Int) - 1)=((m.length - 1:Nat):Int):=wi (by omega) (by omega)
  have e3:IntKind.i64.wrap (32*((m.length - 1:Nat):Int))=((32*(m.length - 1):Nat):Int):=wi (by omega) (by omega)
  have e4:bH (aP m) ((m.length - 1:Nat):Int)=some (.ipt [U (m.getD (m.length - 1) 0:Nat)]):=de rfl (by omega)
  have hx:=dQ hb (m.length - 1)
  have e5:=ah3 (m.getD (m.length - 1) 0) (32*(m.length - 1)) hx (by have:=(dm (k:=32)).2 hx; omega)
  have e6:32*(m.length - 1)+aq (m.getD (m.length - 1) 0)=aq (ac m):=by
   have hne:m ≠ []:=fun h=>h0 (by rw [h]; rfl)
   have h7:=NZ (Lt hc hne)
   rw [IA hb hc] at h7
   exact h7.symm
  rw [e6] at e5
  simp only [aeP,afg,go_sem,↓reduceIte,ad7,e1,e2,e3,e4]
  rw [e5 _ _ rfl rfl]
  simp only [go_sem,↓reduceIte]
theorem agH {m:List Nat} (hb:Lb m) (n:Nat):m.getD (n / 32) 0 / 2 ^ (n % 32) % 2=ac m / 2 ^ n % 2:=by
 have h1:ac m / 2 ^ n=ac (m.drop (n / 32)) / 2 ^ (n % 32):=by
  rw [G2 hb,Nat.div_div_eq_div_mul,xh]
 rw [h1,ej]
 have hr:n % 32 < 32:=Nat.mod_lt _ (by omega)
 have e:(4294967296:Nat)=2 ^ (n % 32)*(2*2 ^ (31 - n % 32)):=by
  rw [← Nat.pow_succ',← Nat.pow_add,show n % 32+(31 - n % 32+1)=32 by omega]
 generalize ac (m.drop (n / 32+1))=w
 rw [show 4294967296*w=2 ^ (n % 32)*(2*(2 ^ (31 - n % 32)*w)) by
  conv=>lhs; rw [e]
  rw [Nat.mul_assoc,Nat.mul_assoc],Nat.add_mul_div_left _ _ (Nat.two_pow_pos _),Nat.add_mul_mod_self_left]
theorem ah4 {n:Nat} (h:n ≠ 0) {k:Nat} (hk:k≤tz n):n / 2 ^ k % 2=if k=tz n then 1 else 0:=by
 obtain ⟨h1,h2⟩:=tv h
 by_cases hh:k=tz n
 ·rw [if_pos hh,hh]
  exact h2
 ·rw [if_neg hh]
  obtain ⟨j,hj⟩:∃ j,tz n=k+(j+1):=⟨tz n - k - 1,by omega⟩
  have h3:n=2 ^ k*(2*(2 ^ j*(n / 2 ^ tz n))):=by
   conv=>lhs; rw [h1,hj]
   rw [Nat.pow_add,Nat.pow_succ,hj,Nat.pow_add,Nat.pow_succ]
   ac_rfl
  rw [h3,Nat.mul_div_cancel_left _ (Nat.two_pow_pos k),Nat.mul_mod_right]
theorem ahI {m:List Nat} (hb:Lb m) (h:m.length≤1000000) (hv:ac m ≠ 0):∀ (k i:Nat),i+k=tz (ac m)→∀ (s:af) (h:aa),s 0=lm m→s 3=I i →
  aI 0 [3] (aU (az R (ab false) aeN) [0,3] [] s h)=some (.normal,⟨upd (fun _=>.any) 3 (I (tz (ac m):Nat)),fun _=>.dead⟩):=by
 have htz:tz (ac m) < 32*m.length:=by
  refine OO hv ?_
  have:=jn hb
  rw [Nat.pow_mul]
  exact this
 intro k
 induction k with
 | zero =>
  intro i hi s h h0 h3
  have hi':i=tz (ac m):=by omega
  have e1:=IJ (n:=i) (m:=32) (j:=32) rfl rfl (by omega) (by omega)
  have e2:=II (n:=i) (m:=32) (j:=32) rfl rfl (by omega)
  have e3:bH (aP m) ((i / 32:Nat):Int)=some (.ipt [U (m.getD (i / 32) 0:Nat)]):=de rfl (by omega)
  have hx:=dQ hb (i / 32)
  have e4:IntKind.u64.wrap ((i % 32:Nat):Int)=((i % 32:Nat):Int):=qh rfl (by omega)
  have e5:=Ko (n:=m.getD (i / 32) 0) (k:=i % 32) (kk:=.u64) (j:=((i % 32:Nat):Int)) rfl rfl (by omega)
  have e6:=agG (n:=m.getD (i / 32) 0 / 2 ^ (i % 32)) rfl (Nat.lt_of_le_of_lt (Nat.div_le_self _ _) hx)
  have e7:=agH hb i
  rw [ah4 hv (by omega),if_pos hi'] at e7
  rw [e7] at e6
  rw [aB]
  rw [← hi']
  simp only [aeN,go_sem,↓reduceIte,ad7,akF,h0,h3,e1,e2,e3,e4,e5,e6,Int.natCast_one]
 | succ k ih =>
  intro i hi s h h0 h3
  have e1:=IJ (n:=i) (m:=32) (j:=32) rfl rfl (by omega) (by omega)
  have e2:=II (n:=i) (m:=32) (j:=32) rfl rfl (by omega)
  have e3:bH (aP m) ((i / 32:Nat):Int)=some (.ipt [U (m.getD (i / 32) 0:Nat)]):=de rfl (by omega)
  have hx:=dQ hb (i / 32)
  have e4:IntKind.u64.wrap ((i % 32:Nat):Int)=((i % 32:Nat):Int):=qh rfl (by omega)
  have e5:=Ko (n:=m.getD (i / 32) 0) (k:=i % 32) (kk:=.u64) (j:=((i % 32:Nat):Int)) rfl rfl (by omega)
  have e6:=agG (n:=m.getD (i / 32) 0 / 2 ^ (i % 32)) rfl (Nat.lt_of_le_of_lt (Nat.div_le_self _ _) hx)
  have e7:=agH hb i
  rw [ah4 hv (by omega),if_neg (by omega)] at e7
  rw [e7] at e6
  have e8:IntKind.i64.wrap ((i:Int)+1)=((i+1:Nat):Int):=wi (by omega) (by omega)
  have ih':=ih (i+1) (by omega)
  rw [aB]
  generalize aU _ _ _=L at ih' ⊢
  simp only [aeN,go_sem,↓reduceIte,ad7,h0,h3,e1,e2,e3,e4,e5,e6,e8,Int.natCast_zero]
  exact ih' _ _ rfl rfl
theorem ah5 {m:List Nat} (hb:Lb m) (h:m.length≤1000000) (hv:ac m ≠ 0):R F.r02_zeros [lm m] []=some (I (tz (ac m):Nat),[]):=by
 refine aX aha ag9 (afR false) rfl ?_
 have h3:=ahI hb h hv (tz (ac m)) 0 (Nat.zero_add _)
 simp only [Int.natCast_zero] at h3
 simp only [aeV,aft,go_sem,↓reduceIte,ad7]
 rw [h3 _ _ rfl rfl]
 simp only [go_sem,↓reduceIte]
end Go.Ab
namespace Go.Ab
open Go Go.IntWalk
set_option maxRecDepth 4000
set_option maxHeartbeats 1000000
theorem amj {a:List Nat} (ha:Lb a) {n q:Nat} (h1:a.length≤100000) (hq:q≤100000):∀ (k i:Nat),i+k=a.length→∀ (s:af) (h:aa),s 0=lm a→s 1=I (n:Nat)→s 5=.rsl 11 none 1 0 (q+i)→s 6=W (fQ a (n % 32) i:Nat)→s 7=I i →
  h 11=.ar 1 (aP (List.replicate q 0++nK a (n % 32) i))→h 34=.dead →
  aI 0 [5,6] (aU (az R (ab false) akJ) [0,1,5,6,7] [11,34] s h) =
   some (.normal,⟨upd (upd (fun _=>.any) 6 (W (fQ a (n % 32) a.length:Nat))) 5 (.rsl 11 none 1 0 (q+a.length)),upd (upd (fun _=>.dead) 34 .dead) 11 (.ar 1 (aP (List.replicate q 0++nK a (n % 32) a.length)))⟩):=by
 intro k
 induction k with
 | zero =>
  intro i hi s h h0 g1 h5 h6 h7 hh hh2
  have:i=a.length:=by omega
  subst this
  rw [aB]
  simp only [akJ,go_sem,↓reduceIte,ad7,aeb,h0,g1,h5,h6,h7,hh,hh2,Int.lt_irrefl]
 | succ k ih =>
  intro i hi s h h0 g1 h5 h6 h7 hh hh2
  have ih':=ih (i+1) (by omega)
  have hx:=dQ ha i
  have hr:n % 32 < 32:=Nat.mod_lt _ (by omega)
  have hc:=Bl ha (r:=n % 32) i
  have hp:2 ^ (n % 32)≤2 ^ 31:=Nat.pow_le_pow_right (by omega) (by omega)
  have hxp:a.getD i 0*2 ^ (n % 32)≤4294967295*2 ^ 31:=Nat.mul_le_mul (by omega) hp
  have e1:((i:Int) < (a.length:Int))=True:=tt (by omega)
  have e2:bH (aP a) (i:Int)=some (.ipt [U (a.getD i 0:Nat)]):=de rfl (by omega)
  have e3:IntKind.i64.wrap ((i:Int)+1)=((i+1:Nat):Int):=wi (by omega) (by omega)
  have e4:IntKind.u64.wrap (a.getD i 0:Int)=(a.getD i 0:Int):=qh rfl (by omega)
  have e5:=II (n:=n) (m:=32) (j:=32) rfl rfl (by omega)
  have e5':IntKind.u64.wrap ((n % 32:Nat):Int)=((n % 32:Nat):Int):=qh rfl (by omega)
  have e6:=Pe (n:=a.getD i 0) (k:=n % 32) (kk:=.u64) (j:=((n % 32:Nat):Int)) rfl rfl (by omega) (by omega)
  have e7:=RU (m:=a.getD i 0*2 ^ (n % 32)) (n:=fQ a (n % 32) i) rfl rfl (by omega) (by omega)
  rw [LH hc] at e7
  have e10:=afm (n:=a.getD i 0*2 ^ (n % 32)+fQ a (n % 32) i) rfl (by omega)
  have e8:IntKind.u32.wrap (((a.getD i 0*2 ^ (n % 32)+fQ a (n % 32) i) % 4294967296:Nat):Int)=(((a.getD i 0*2 ^ (n % 32)+fQ a (n % 32) i) % 4294967296:Nat):Int):=RM rfl (by omega)
  have e9:=Bi (n:=a.getD i 0*2 ^ (n % 32)+fQ a (n % 32) i) (k:=32) (kk:=.u64) (j:=32) rfl rfl (by omega)
  have f1:aP (List.replicate q 0++nK a (n % 32) i)++[[U ((a.getD i 0*2 ^ (n % 32)+fQ a (n % 32) i) % 4294967296:Nat)]]=aP (List.replicate q 0++nK a (n % 32) (i+1)):=by
   rw [show [[U ((a.getD i 0*2 ^ (n % 32)+fQ a (n % 32) i) % 4294967296:Nat)]]=aP [(a.getD i 0*2 ^ (n % 32)+fQ a (n % 32) i) % 4294967296] from rfl,Bg,List.append_assoc]
   simp [nK,List.range_succ]
  have f2:(q+i=(List.replicate q 0++nK a (n % 32) i).length)=True:=tt (by simp [qM])
  have f3:((q+i+1)*4≤140737488355328)=True:=tt (by omega)
  rw [aB]
  generalize aU _ _ _=L at ih' ⊢
  simp only [akJ,go_sem,↓reduceIte,ad7,aea,aec,aeb,h0,g1,h5,h6,h7,hh,hh2,e1,e2,e3,e4,e5,e5',e6,e7,e8,e9,e10,f1,f2,f3,true_or,Nat.zero_add,Nat.le_refl]
  exact ih' _ _ rfl rfl rfl rfl rfl rfl rfl
theorem alL {a:List Nat} (ha:Lb a) {n:Nat} (h1:a.length≤10000) (hn:n≤100000):R F.r02_left [lm a,I n] []=some (lm (av (ac a*2 ^ n)),[]):=by
 refine aX al4 al3 (aly false) rfl ?_
 have hc:=Bl ha (r:=n % 32) a.length
 have hp:2 ^ (n % 32)≤2 ^ 31:=Nat.pow_le_pow_right (by omega) (by have:n % 32 < 32:=Nat.mod_lt _ (by omega); omega)
 have e1:=IJ (n:=n) (m:=32) (j:=32) rfl rfl (by omega) (by omega)
 have e4:=qi (i:=((n / 32:Nat):Int)) (j:=((n / 32:Nat):Int)) rfl rfl (Nat.le_refl _) (by omega)
 have e5:(n / 32*4≤140737488355328)=True:=tt (by omega)
 have e6:=amj ha (n:=n) (q:=n / 32) (by omega) (by omega) a.length 0 (by omega)
 have e7:aP (List.replicate (n / 32) 0)=aP (List.replicate (n / 32) 0++nK a (n % 32) 0):=by simp [nK]
 have e8:IntKind.u32.wrap ((fQ a (n % 32) a.length:Nat):Int)=((fQ a (n % 32) a.length:Nat):Int):=RM rfl (by omega)
 have hall:=P4 ha n
 have f1:aP (List.replicate (n / 32) 0++nK a (n % 32) a.length)++[[U (fQ a (n % 32) a.length:Nat)]]=aP (di (n / 32+a.length+1) (ac a*2 ^ n)):=by
  rw [← hall,show [[U (fQ a (n % 32) a.length:Nat)]]=aP [fQ a (n % 32) a.length] from rfl,Bg]
 have f2:(n / 32+a.length=(List.replicate (n / 32) 0++nK a (n % 32) a.length).length)=True:=tt (by simp [qM])
 have f3:((n / 32+a.length+1)*4≤140737488355328)=True:=tt (by omega)
 have ht:=afD (pp (n / 32+a.length+1) (ac a*2 ^ n)) (by rw [cq]; omega)
 have hv:ac (di (n / 32+a.length+1) (ac a*2 ^ n))=ac a*2 ^ n:=by
  rw [pq,Nat.mod_eq_of_lt]
  have h:=jn ha
  have h2:2 ^ n≤4294967296 ^ (n / 32+1):=by
   rw [show (4294967296:Nat)=2 ^ 32 from rfl,← Nat.pow_mul]
   exact Nat.pow_le_pow_right (by omega) (by omega)
  rw [show n / 32+a.length+1=a.length+(n / 32+1) from by omega,Nat.pow_add]
  exact Nat.mul_lt_mul_of_lt_of_le h h2 (Nat.pow_pos (by omega))
 rw [hv] at ht
 have f4:(aP (di (n / 32+a.length+1) (ac a*2 ^ n))).take (n / 32+a.length+1)=aP (di (n / 32+a.length+1) (ac a*2 ^ n)):=by
  rw [List.take_of_length_le]
  rw [abD,cq]
  exact Nat.le_refl _
 simp only [akS,ale,go_sem,↓reduceIte,ad7,e1,e4,e5,tF,e7]
 rw [e6 _ _ rfl rfl rfl rfl rfl rfl rfl]
 simp only [go_sem,↓reduceIte,ad7,ad9,ad8,aea,aec,e8,f1,f2,f3,f4,true_or,Nat.zero_add,Nat.le_refl,cq,ht]
def Acc (d:Nat) (out:List Nat) (x:AV) (o:Ob):Prop:=(out=[]∧x=.emp∧o=.dead)∨(0 < out.length∧x=.rsl d none 1 0 out.length∧o=.ar 1 (aP out))
theorem ahk {d v:Nat}:Acc d ([]++[v]) (.rsl d none 1 0 1) (.ar 1 [[U (v:Nat)]]):=Or.inr ⟨by simp,rfl,rfl⟩
theorem agI {d v:Nat} {out:List Nat}:Acc d (out++[v]) (.rsl d none 1 0 (out.length+1)) (.ar 1 (aP (out++[v]))):=Or.inr ⟨by simp,by rw [List.length_append]; rfl,rfl⟩
theorem agJ (out:List Nat) (v:Nat):aP out++[[U (v:Nat)]]=aP (out++[v]):=by simp [aP]
theorem ah6 (a:List Nat) (r i:Nat):pA a r (i+1)=pA a r i++[uS a r i]:=by simp [pA,List.range_succ]
theorem ahJ {a:List Nat} (ha:Lb a) {n:Nat} (h1:a.length≤100000):∀ (k i:Nat),i+k=a.length→∀ (s:af) (h:aa),s 0=lm a→s 1=I (n:Nat)→s 6=I i→Acc 51 (pA a (n % 32) i) (s 5) (h 51) →
  ∃ x hh,aI 0 [5] (aU (az R (ab false) adl) [0,1,5,6] [51] s h)=some (.normal,⟨upd (fun _=>.any) 5 x,hh⟩)∧Acc 51 (pA a (n % 32) a.length) x (hh 51)∧∀ a,a ≠ 51→hh a=.dead:=by
 intro k
 induction k with
 | zero =>
  intro i hi s h h0 g1 h6 hacc
  have:i=a.length:=by omega
  subst this
  rw [aB]
  rcases hacc with ⟨g2,h5,hh⟩ | ⟨g2,h5,hh⟩
  ·refine ⟨.emp,?hh0,?_,Or.inl ⟨g2,rfl,?_⟩,?_⟩
   rotate_left
   ·simp only [adl,go_sem,↓reduceIte,ad7,h0,g1,h5,h6,hh,Int.lt_irrefl]
    rfl
   ·rfl
   ·intro b hb
    simp only [i8,hb,if_false]
  ·refine ⟨.rsl 51 none 1 0 (pA a (n % 32) a.length).length,?hh1,?_,Or.inr ⟨g2,rfl,?_⟩,?_⟩
   rotate_left
   ·simp only [adl,go_sem,↓reduceIte,ad7,aeb,h0,g1,h5,h6,hh,Int.lt_irrefl]
    rfl
   ·rfl
   ·intro b hb
    simp only [i8,hb,if_false]
 | succ k ih =>
  intro i hi s h h0 g1 h6 hacc
  have ih':=ih (i+1) (by omega)
  have hx:=dQ ha i
  have hy:=dQ ha (i+1)
  have hr:n % 32 < 32:=Nat.mod_lt _ (by omega)
  have e1:((i:Int) < (a.length:Int))=True:=tt (by omega)
  have e2:bH (aP a) (i:Int)=some (.ipt [U (a.getD i 0:Nat)]):=de rfl (by omega)
  have e3:IntKind.i64.wrap ((i:Int)+1)=((i+1:Nat):Int):=wi (by omega) (by omega)
  have e4:IntKind.u64.wrap (a.getD i 0:Int)=(a.getD i 0:Int):=qh rfl (by omega)
  have e5:=II (n:=n) (m:=32) (j:=32) rfl rfl (by omega)
  have e5':IntKind.u64.wrap ((n % 32:Nat):Int)=((n % 32:Nat):Int):=qh rfl (by omega)
  have q1:((pA a (n % 32) i).length+1)*4≤140737488355328:=by rw [pQ]; omega
  have f3:=tt q1
  have hlt:∀ w:Nat,w < 18446744073709551616→w / 2 ^ (n % 32) < 18446744073709551616:=fun w hw=>Nat.lt_of_le_of_lt (Nat.div_le_self _ _) hw
  rw [aB]
  rw [ah6] at ih'
  generalize aU _ _ _=L at ih' ⊢
  by_cases hl:i+1 < a.length
  ·have f1:(((i+1:Nat):Int) < (a.length:Int))=True:=tt (by omega)
   have f2:bH (aP a) ((i+1:Nat):Int)=some (.ipt [U (a.getD (i+1) 0:Nat)]):=de rfl hl
   have f5:IntKind.u64.wrap (a.getD (i+1) 0:Int)=(a.getD (i+1) 0:Int):=qh rfl (by omega)
   have f6:=Pe (n:=a.getD (i+1) 0) (k:=32) (kk:=.u64) (j:=32) rfl rfl (by omega) (by omega)
   have f7:=RU (m:=a.getD i 0) (n:=a.getD (i+1) 0*2 ^ 32) rfl rfl (by omega) (by omega)
   rw [Nat.or_comm,LH hx,show a.getD (i+1) 0*2 ^ 32+a.getD i 0=a.getD i 0+4294967296*a.getD (i+1) 0 by omega] at f7
   have f8:=Bi (n:=a.getD i 0+4294967296*a.getD (i+1) 0) (k:=n % 32) (kk:=.u64) (j:=((n % 32:Nat):Int)) rfl rfl (by omega)
   have f9:=afm (n:=(a.getD i 0+4294967296*a.getD (i+1) 0) / 2 ^ (n % 32)) rfl (hlt _ (by omega))
   rw [show (a.getD i 0+4294967296*a.getD (i+1) 0) / 2 ^ (n % 32) % 4294967296=uS a (n % 32) i from rfl] at f9
   have f10:IntKind.u32.wrap ((uS a (n % 32) i:Nat):Int)=((uS a (n % 32) i:Nat):Int):=RM rfl (Nat.mod_lt _ (by omega))
   rcases hacc with ⟨g2,h5,hh⟩ | ⟨g2,h5,hh⟩
   ·simp only [adl,go_sem,↓reduceIte,ad7,ad9,ad8,aea,aec,h0,g1,h5,h6,hh,e1,e2,e3,e4,e5,e5',f1,f2,f5,f6,f7,f8,f9,f10]
    rw [g2] at ih'
    exact ih' _ _ rfl rfl rfl ahk
   ·simp only [adl,go_sem,↓reduceIte,ad7,aea,aec,aeb,h0,g1,h5,h6,hh,e1,e2,e3,e4,e5,e5',f1,f2,f3,f5,f6,f7,f8,f9,f10,true_or,Nat.zero_add,Nat.le_refl,agJ]
    exact ih' _ _ rfl rfl rfl agI
  ·have f1:(((i+1:Nat):Int) < (a.length:Int))=False:=ff (by omega)
   have hz:a.getD (i+1) 0=0:=by
    rw [List.getD_eq_getElem?_getD,List.getElem?_eq_none (by omega)]
    rfl
   have f8:=Bi (n:=a.getD i 0) (k:=n % 32) (kk:=.u64) (j:=((n % 32:Nat):Int)) rfl rfl (by omega)
   have f9:=afm (n:=a.getD i 0 / 2 ^ (n % 32)) rfl (hlt _ (by omega))
   rw [show a.getD i 0 / 2 ^ (n % 32) % 4294967296=uS a (n % 32) i by unfold uS; rw [hz,Nat.mul_zero,Nat.add_zero]] at f9
   have f10:IntKind.u32.wrap ((uS a (n % 32) i:Nat):Int)=((uS a (n % 32) i:Nat):Int):=RM rfl (Nat.mod_lt _ (by omega))
   rcases hacc with ⟨g2,h5,hh⟩ | ⟨g2,h5,hh⟩
   ·simp only [adl,go_sem,↓reduceIte,ad7,ad9,ad8,aea,aec,h0,g1,h5,h6,hh,e1,e2,e3,e4,e5,e5',f1,f8,f9,f10]
    rw [g2] at ih'
    exact ih' _ _ rfl rfl rfl ahk
   ·simp only [adl,go_sem,↓reduceIte,ad7,aea,aec,aeb,h0,g1,h5,h6,hh,e1,e2,e3,e4,e5,e5',f1,f3,f8,f9,f10,true_or,Nat.zero_add,Nat.le_refl,agJ]
    exact ih' _ _ rfl rfl rfl agI
theorem agK (m:List Nat):(aP m).take m.length=aP m:=by
 rw [List.take_of_length_le]
 rw [abD]
 exact Nat.le_refl _
theorem ah7 {a:List Nat} (ha:Lb a) {n:Nat} (h1:a.length≤10000) (hn:n≤1000000):R F.r02_right [lm a,I n] []=some (lm (av (ac a / 2 ^ n)),[]):=by
 refine aX ahd ahc (afS false) rfl ?_
 have e1:=IJ (n:=n) (m:=32) (j:=32) rfl rfl (by omega) (by omega)
 by_cases hq:a.length≤n / 32
 ·have e2:((a.length:Int)≤((n / 32:Nat):Int))=True:=tt (by omega)
  have hz:ac a / 2 ^ n=0:=by
   rw [← xh n,← Nat.div_div_eq_div_mul,← G2 ha,List.drop_of_length_le hq]
   exact Nat.zero_div _
  rw [hz,fG]
  simp only [aeH,afb,go_sem,↓reduceIte,ad7,e1,e2]
 ·have e2:((a.length:Int)≤((n / 32:Nat):Int))=False:=ff (by omega)
  have e3:dJ 1 (lm a) (some (I (n / 32:Nat))) none none=some (lm (a.drop (n / 32))):=by
   rw [GS (a:=n / 32) (b:=a.length) (uQ rfl (by omega)) rfl (Nat.le_refl _),List.take_of_length_le (by rw [List.length_drop]; omega)]
  have hd:=tr ha (n / 32)
  have hl:(a.drop (n / 32)).length≤10000:=by rw [List.length_drop]; omega
  have hv:ac a / 2 ^ n=ac (a.drop (n / 32)) / 2 ^ (n % 32):=by
   rw [G2 ha,Nat.div_div_eq_div_mul,xh]
  rw [hv]
  have hr:=ahJ hd (n:=n) (by omega) (a.drop (n / 32)).length 0 (Nat.zero_add _)
  simp only [Int.natCast_zero] at hr
  have hall:=NV hd (r:=n % 32) (by have:n % 32 < 32:=Nat.mod_lt _ (by omega); omega)
  have hL:=pQ (a.drop (n / 32)) (n % 32) (a.drop (n / 32)).length
  have hLb:Lb (pA (a.drop (n / 32)) (n % 32) (a.drop (n / 32)).length):=by
   rw [hall]
   exact pp _ _
  have hvv:ac (pA (a.drop (n / 32)) (n % 32) (a.drop (n / 32)).length)=ac (a.drop (n / 32)) / 2 ^ (n % 32):=by
   rw [hall,pq,Nat.mod_eq_of_lt]
   exact Nat.lt_of_le_of_lt (Nat.div_le_self _ _) (jn hd)
  generalize a.drop (n / 32)=m at e3 hd hl hr hall hL hLb hvv ⊢
  have ht:=afD hLb (by rw [hL]; omega)
  rw [hvv] at ht
  have q0:Acc 51 (pA m (n % 32) 0) .emp .dead:=Or.inl ⟨rfl,rfl,rfl⟩
  generalize hLL:aU (az R (ab false) adl) [0,1,5,6] [51]=L at hr
  have hX:∀ s h,az R (ab false) (.loop [0,1,5,6] [51] adl) s h=L s h:=fun s h=>by rw [← hLL]; rfl
  clear hLL
  generalize pA m (n % 32) 0=o0 at hr q0
  generalize pA m (n % 32) m.length=out at hr hall hL hLb hvv ht
  generalize av (ac m / 2 ^ (n % 32))=res at ht ⊢
  have hr2:∀ (S:af) (H:aa) (X:Option (Ex × St)),aI 0 [5] (L S H)=X→S 0=lm m→S 1=I n→S 6=I 0→S 5=.emp→H 51=.dead→∃ x hh,X=some (.normal,⟨upd (fun _=>.any) 5 x,hh⟩)∧Acc 51 out x (hh 51)∧∀ a,a ≠ 51→hh a=.dead:=fun S H X hX a0 a1 a6 a5 b=>by
   rw [← hX]
   exact hr S H a0 a1 a6 (by rw [a5,b]; exact q0)
  simp only [aeH,afb,hX,go_sem,↓reduceIte,ad7,e1,e2,e3]
  generalize hB:aI 0 [5] (L _ _)=X
  obtain ⟨x,hh,g0,hacc,gd⟩:=hr2 _ _ _ hB rfl rfl rfl rfl rfl
  rw [g0]
  rcases hacc with ⟨c1,c2,c3⟩ | ⟨c1,c2,c3⟩
  ·rw [c1] at ht
   simp only [go_sem,↓reduceIte,ad7,ad9,ad8,c2,ht,ne_eq,not_false_eq_true,gd]
  ·simp only [go_sem,↓reduceIte,ad7,ad9,ad8,c2,c3,ht,ne_eq,not_false_eq_true,gd,agK,Nat.zero_add,Nat.le_refl]
end Go.Ab
namespace Go.Ab
open Go Go.IntWalk
set_option maxRecDepth 4000
set_option maxHeartbeats 1000000
theorem alr {m:List Nat} {i:Nat} (h:m.length≤i):m.getD i 0=0:=by
 rw [List.getD_eq_getElem?_getD,List.getElem?_eq_none h]
 rfl
theorem amk (a b:List Nat) (i:Nat):gh a b (i+1)=gh a b i++[zM a b i]:=by simp [gh,List.range_succ]
theorem aml (a b:List Nat) (i:Nat):j7 a b (i+1)=j7 a b i++[zP a b i]:=by simp [j7,List.range_succ]
theorem amm {a b:List Nat} (ha:Lb a) (hb:Lb b) (h1:a.length≤100000) (h2:b.length≤100000):∀ (k i:Nat),i+k=max a.length b.length→∀ (s:af) (h:aa),s 0=lm a→s 1=lm b→s 6=W (lC a b i:Nat)→s 7=I i→Acc 49 (gh a b i) (s 5) (h 49) →
  ∃ x hh,aI 0 [5,6] (aU (az R (ab false) ahj) [0,1,5,6,7] [49] s h)=some (.normal,⟨upd (upd (fun _=>.any) 6 (W (lC a b (max a.length b.length):Nat))) 5 x,hh⟩)∧Acc 49 (gh a b (max a.length b.length)) x (hh 49)∧∀ a,a ≠ 49→hh a=.dead:=by
 intro k
 induction k with
 | zero =>
  intro i hi s h h0 g1 h6 h7 hacc
  have e1:((i:Int) < (a.length:Int))=False:=ff (by omega)
  have e2:((i:Int) < (b.length:Int))=False:=ff (by omega)
  have:i=max a.length b.length:=by omega
  rw [← this]
  rw [aB]
  rcases hacc with ⟨g2,h5,hh⟩ | ⟨g2,h5,hh⟩
  ·refine ⟨.emp,?hh0,?_,Or.inl ⟨g2,rfl,?_⟩,?_⟩
   rotate_left
   ·simp only [ahj,go_sem,↓reduceIte,ad7,h0,g1,h5,h6,h7,hh,e1,e2]
    rfl
   ·rfl
   ·intro b hb
    simp only [i8,hb,if_false]
  ·refine ⟨.rsl 49 none 1 0 (gh a b i).length,?hh1,?_,Or.inr ⟨g2,rfl,?_⟩,?_⟩
   rotate_left
   ·simp only [ahj,go_sem,↓reduceIte,ad7,aeb,h0,g1,h5,h6,h7,hh,e1,e2]
    rfl
   ·rfl
   ·intro b hb
    simp only [i8,hb,if_false]
 | succ k ih =>
  intro i hi s h h0 g1 h6 h7 hacc
  have ih':=ih (i+1) (by omega)
  have hx:=dQ ha i
  have hy:=dQ hb i
  have hc:=Bj ha hb i
  have e3:IntKind.i64.wrap ((i:Int)+1)=((i+1:Nat):Int):=wi (by omega) (by omega)
  have q1:((gh a b i).length+1)*4≤140737488355328:=by rw [gq]; omega
  have f3:=tt q1
  have e4:IntKind.u64.wrap (a.getD i 0:Int)=(a.getD i 0:Int):=qh rfl (by omega)
  have e5:IntKind.u64.wrap (b.getD i 0:Int)=(b.getD i 0:Int):=qh rfl (by omega)
  have f8:=Bi (n:=a.getD i 0+b.getD i 0+lC a b i) (k:=32) (kk:=.u64) (j:=32) rfl rfl (by omega)
  rw [show (a.getD i 0+b.getD i 0+lC a b i) / 2 ^ 32=lC a b (i+1) from rfl] at f8
  have f9:=afm (n:=a.getD i 0+b.getD i 0+lC a b i) rfl (by omega)
  rw [show (a.getD i 0+b.getD i 0+lC a b i) % 4294967296=zM a b i from rfl] at f9
  have f10:IntKind.u32.wrap ((zM a b i:Nat):Int)=((zM a b i:Nat):Int):=RM rfl (Nat.mod_lt _ (by omega))
  rw [aB]
  rw [amk] at ih'
  generalize aU _ _ _=L at ih' ⊢
  by_cases hla:i < a.length
  ·have e1:((i:Int) < (a.length:Int))=True:=tt (by omega)
   have e2:bH (aP a) (i:Int)=some (.ipt [U (a.getD i 0:Nat)]):=de rfl hla
   have w1:IntKind.u64.wrap ((lC a b i:Int)+(a.getD i 0:Int))=((a.getD i 0+lC a b i:Nat):Int):=qh (by omega) (by omega)
   by_cases hlb:i < b.length
   ·have e6:((i:Int) < (b.length:Int))=True:=tt (by omega)
    have e7:bH (aP b) (i:Int)=some (.ipt [U (b.getD i 0:Nat)]):=de rfl hlb
    have w2:IntKind.u64.wrap (((a.getD i 0+lC a b i:Nat):Int)+(b.getD i 0:Int))=((a.getD i 0+b.getD i 0+lC a b i:Nat):Int):=qh (by omega) (by omega)
    rcases hacc with ⟨g2,h5,hh⟩ | ⟨g2,h5,hh⟩
    ·simp only [ahj,go_sem,↓reduceIte,ad7,ad9,ad8,aea,aec,h0,g1,h5,h6,h7,hh,e1,e2,e3,e4,e5,e6,e7,w1,w2,f8,f9,f10]
     rw [g2] at ih'
     exact ih' _ _ rfl rfl rfl rfl ahk
    ·simp only [ahj,go_sem,↓reduceIte,ad7,aea,aec,aeb,h0,g1,h5,h6,h7,hh,e1,e2,e3,e4,e5,e6,e7,w1,w2,f3,f8,f9,f10,true_or,Nat.zero_add,Nat.le_refl,agJ]
     exact ih' _ _ rfl rfl rfl rfl agI
   ·have e6:((i:Int) < (b.length:Int))=False:=ff (by omega)
    have hz:=alr (m:=b) (i:=i) (by omega)
    have w2:((a.getD i 0+lC a b i:Nat):Int)=((a.getD i 0+b.getD i 0+lC a b i:Nat):Int):=by omega
    rw [w2] at w1
    rcases hacc with ⟨g2,h5,hh⟩ | ⟨g2,h5,hh⟩
    ·simp only [ahj,go_sem,↓reduceIte,ad7,ad9,ad8,aea,aec,h0,g1,h5,h6,h7,hh,e1,e2,e3,e4,e6,w1,f8,f9,f10]
     rw [g2] at ih'
     exact ih' _ _ rfl rfl rfl rfl ahk
    ·simp only [ahj,go_sem,↓reduceIte,ad7,aea,aec,aeb,h0,g1,h5,h6,h7,hh,e1,e2,e3,e4,e6,w1,f3,f8,f9,f10,true_or,Nat.zero_add,Nat.le_refl,agJ]
     exact ih' _ _ rfl rfl rfl rfl agI
  ·have e1:((i:Int) < (a.length:Int))=False:=ff (by omega)
   have hlb:i < b.length:=by omega
   have e6:((i:Int) < (b.length:Int))=True:=tt (by omega)
   have e7:bH (aP b) (i:Int)=some (.ipt [U (b.getD i 0:Nat)]):=de rfl hlb
   have hz:=alr (m:=a) (i:=i) (by omega)
   have w2:IntKind.u64.wrap ((lC a b i:Int)+(b.getD i 0:Int))=((a.getD i 0+b.getD i 0+lC a b i:Nat):Int):=qh (by omega) (by omega)
   rcases hacc with ⟨g2,h5,hh⟩ | ⟨g2,h5,hh⟩
   ·simp only [ahj,go_sem,↓reduceIte,ad7,ad9,ad8,aea,aec,h0,g1,h5,h6,h7,hh,e1,e3,e5,e6,e7,w2,f8,f9,f10]
    rw [g2] at ih'
    exact ih' _ _ rfl rfl rfl rfl ahk
   ·simp only [ahj,go_sem,↓reduceIte,ad7,aea,aec,aeb,h0,g1,h5,h6,h7,hh,e1,e3,e5,e6,e7,w2,f3,f8,f9,f10,true_or,Nat.zero_add,Nat.le_refl,agJ]
    exact ih' _ _ rfl rfl rfl rfl agI
theorem amu {a b:List Nat} (_ha:Lb a) (_hb:Lb b) {L:Nat} (h1:a.length≤L) (h2:b.length≤L):ac (gh a b L++[lC a b L])=ac a+ac b:=by
 have h:=GX a b L
 rw [List.take_of_length_le h1,List.take_of_length_le h2] at h
 rw [fh,gq,← h]
 simp [ac]
theorem amv {a b:List Nat} (ha:Lb a) (hb:Lb b) (h1:a.length≤10000) (h2:b.length≤10000):R F.r02_plus [lm a,lm b] []=some (lm (av (ac a+ac b)),[]):=by
 refine aX al7 al6 (alz false) rfl ?_
 obtain ⟨M,hM⟩:∃ M,max a.length b.length=M:=⟨_,rfl⟩
 have hr:=amm ha hb (by omega) (by omega) M 0 (by omega)
 simp only [Int.natCast_zero] at hr
 rw [hM] at hr
 have hsv:=amu ha hb (L:=M) (by omega) (by omega)
 have hc:=Bj ha hb M
 have hL:=gq a b M
 have hLb:=P2 a b M
 have q0:Acc 49 (gh a b 0) .emp .dead:=Or.inl ⟨rfl,rfl,rfl⟩
 have c0:lC a b 0=0:=rfl
 rw [c0] at hr
 simp only [Int.natCast_zero] at hr
 generalize gh a b 0=o0 at hr q0
 generalize gh a b M=out at hr hsv hL hLb
 generalize lC a b M=c at hr hsv hc
 have ht:=afD (m:=out++[c]) (nI.2 ⟨hLb,eO.2 ⟨by omega,AO⟩⟩) (by rw [List.length_append]; simp; omega)
 rw [hsv] at ht
 have e8:IntKind.u32.wrap (c:Int)=(c:Int):=RM rfl (by omega)
 have q1:(out.length+1)*4≤140737488355328:=by omega
 have f3:=tt q1
 have f4:=agK (out++[c])
 rw [show (out++[c]).length=out.length+1 by simp] at f4
 generalize av (ac a+ac b)=res at ht ⊢
 generalize hLL:aU (az R (ab false) ahj) [0,1,5,6,7] [49]=L at hr
 have hX:∀ s h,az R (ab false) (.loop [0,1,5,6,7] [49] ahj) s h=L s h:=fun s h=>by rw [← hLL]; rfl
 clear hLL
 have hr2:∀ (S:af) (H:aa) (X:Option (Ex × St)),aI 0 [5,6] (L S H)=X→S 0=lm a→S 1=lm b→S 6=W 0→S 7=I 0→S 5=.emp→H 49=.dead→∃ x hh,X=some (.normal,⟨upd (upd (fun _=>.any) 6 (W c)) 5 x,hh⟩)∧Acc 49 out x (hh 49)∧∀ a,a ≠ 49→hh a=.dead:=fun S H X hX a0 a1 a6 a7 a5 b=>by
  rw [← hX]
  exact hr S H a0 a1 a6 a7 (by rw [a5,b]; exact q0)
 simp only [akT,alf,hX,go_sem,↓reduceIte,ad7]
 generalize hB:aI 0 [5,6] (L _ _)=X
 obtain ⟨x,hh,g0,hacc,gd⟩:=hr2 _ _ _ hB rfl rfl rfl rfl rfl rfl
 rw [g0]
 rcases hacc with ⟨c1,c2,c3⟩ | ⟨c1,c2,c3⟩
 ·rw [c1] at ht
  have ht':R F.r02_trim [.sl 1 [[U c]]] []=some (lm res,[]):=ht
  simp only [go_sem,↓reduceIte,ad7,ad9,ad8,aea,aec,c2,e8,ht',ne_eq,not_false_eq_true,gd]
 ·simp only [go_sem,↓reduceIte,ad7,ad9,ad8,aea,aec,c2,c3,e8,f3,f4,ht,ne_eq,not_false_eq_true,gd,agJ,true_or,Nat.zero_add,Nat.le_refl,List.length_singleton,abD,List.length_append]
theorem al9 {a b:List Nat} (ha:Lb a) (hb:Lb b) (h1:a.length≤100000):∀ (k i:Nat),i+k=a.length→∀ (s:af) (h:aa),s 0=lm a→s 1=lm b→s 6=W (nJ a b i:Nat)→s 7=I i→Acc 41 (j7 a b i) (s 5) (h 41) →
  ∃ x hh,aI 0 [5] (aU (az R (ab false) akf) [0,1,5,6,7] [41] s h)=some (.normal,⟨upd (fun _=>.any) 5 x,hh⟩)∧Acc 41 (j7 a b a.length) x (hh 41)∧∀ a,a ≠ 41→hh a=.dead:=by
 intro k
 induction k with
 | zero =>
  intro i hi s h h0 g1 h6 h7 hacc
  have e1:((i:Int) < (a.length:Int))=False:=ff (by omega)
  have:i=a.length:=by omega
  rw [← this]
  rw [aB]
  rcases hacc with ⟨g2,h5,hh⟩ | ⟨g2,h5,hh⟩
  ·refine ⟨.emp,?hh0,?_,Or.inl ⟨g2,rfl,?_⟩,?_⟩
   rotate_left
   ·simp only [akf,go_sem,↓reduceIte,ad7,h0,g1,h5,h6,h7,hh,e1]
    rfl
   ·rfl
   ·intro b hb
    simp only [i8,hb,if_false]
  ·refine ⟨.rsl 41 none 1 0 (j7 a b i).length,?hh1,?_,Or.inr ⟨g2,rfl,?_⟩,?_⟩
   rotate_left
   ·simp only [akf,go_sem,↓reduceIte,ad7,aeb,h0,g1,h5,h6,h7,hh,e1]
    rfl
   ·rfl
   ·intro b hb
    simp only [i8,hb,if_false]
 | succ k ih =>
  intro i hi s h h0 g1 h6 h7 hacc
  have ih':=ih (i+1) (by omega)
  have hx:=dQ ha i
  have hy:=dQ hb i
  have hc:=Bk a b i
  have hla:i < a.length:=by omega
  have e1:((i:Int) < (a.length:Int))=True:=tt (by omega)
  have e2:bH (aP a) (i:Int)=some (.ipt [U (a.getD i 0:Nat)]):=de rfl hla
  have e3:IntKind.i64.wrap ((i:Int)+1)=((i+1:Nat):Int):=wi (by omega) (by omega)
  have q1:((j7 a b i).length+1)*4≤140737488355328:=by rw [mK]; omega
  have f3:=tt q1
  have e4:IntKind.u64.wrap (a.getD i 0:Int)=(a.getD i 0:Int):=qh rfl (by omega)
  have e5:IntKind.u64.wrap (b.getD i 0:Int)=(b.getD i 0:Int):=qh rfl (by omega)
  have w3:IntKind.u64.wrap ((a.getD i 0:Int)+4294967296)=((a.getD i 0+4294967296:Nat):Int):=qh (by omega) (by omega)
  have w4:IntKind.u64.wrap (((a.getD i 0+4294967296:Nat):Int) - ((b.getD i 0+nJ a b i:Nat):Int))=((a.getD i 0+4294967296 - b.getD i 0 - nJ a b i:Nat):Int):=qh (by omega) (by omega)
  have f8:=Bi (n:=a.getD i 0+4294967296 - b.getD i 0 - nJ a b i) (k:=32) (kk:=.u64) (j:=32) rfl rfl (by omega)
  have w5:IntKind.u64.wrap (1 - (((a.getD i 0+4294967296 - b.getD i 0 - nJ a b i) / 2 ^ 32:Nat):Int))=((nJ a b (i+1):Nat):Int):=by
   refine qh ?_ (by have:=Bk a b (i+1); omega)
   show _=(((if a.getD i 0 < b.getD i 0+nJ a b i then 1 else 0:Nat)):Int)
   split <;> omega
  have f9:=afm (n:=a.getD i 0+4294967296 - b.getD i 0 - nJ a b i) rfl (by omega)
  rw [show (a.getD i 0+4294967296 - b.getD i 0 - nJ a b i) % 4294967296=zP a b i from rfl] at f9
  have f10:IntKind.u32.wrap ((zP a b i:Nat):Int)=((zP a b i:Nat):Int):=RM rfl (Nat.mod_lt _ (by omega))
  rw [aB]
  rw [aml] at ih'
  generalize aU _ _ _=L at ih' ⊢
  by_cases hlb:i < b.length
  ·have e6:((i:Int) < (b.length:Int))=True:=tt (by omega)
   have e7:bH (aP b) (i:Int)=some (.ipt [U (b.getD i 0:Nat)]):=de rfl hlb
   have w2:IntKind.u64.wrap ((nJ a b i:Int)+(b.getD i 0:Int))=((b.getD i 0+nJ a b i:Nat):Int):=qh (by omega) (by omega)
   rcases hacc with ⟨g2,h5,hh⟩ | ⟨g2,h5,hh⟩
   ·simp only [akf,go_sem,↓reduceIte,ad7,ad9,ad8,aea,aec,h0,g1,h5,h6,h7,hh,e1,e2,e3,e4,e5,e6,e7,w2,w3,w4,w5,f8,f9,f10]
    rw [g2] at ih'
    exact ih' _ _ rfl rfl rfl rfl ahk
   ·simp only [akf,go_sem,↓reduceIte,ad7,aea,aec,aeb,h0,g1,h5,h6,h7,hh,e1,e2,e3,e4,e5,e6,e7,w2,w3,w4,w5,f3,f8,f9,f10,true_or,Nat.zero_add,Nat.le_refl,agJ]
    exact ih' _ _ rfl rfl rfl rfl agI
  ·have e6:((i:Int) < (b.length:Int))=False:=ff (by omega)
   have hz:=alr (m:=b) (i:=i) (by omega)
   have w2:((b.getD i 0+nJ a b i:Nat):Int)=(nJ a b i:Int):=by omega
   rw [w2] at w4
   rcases hacc with ⟨g2,h5,hh⟩ | ⟨g2,h5,hh⟩
   ·simp only [akf,go_sem,↓reduceIte,ad7,ad9,ad8,aea,aec,h0,g1,h5,h6,h7,hh,e1,e2,e3,e4,e6,w3,w4,w5,f8,f9,f10]
    rw [g2] at ih'
    exact ih' _ _ rfl rfl rfl rfl ahk
   ·simp only [akf,go_sem,↓reduceIte,ad7,aea,aec,aeb,h0,g1,h5,h6,h7,hh,e1,e2,e3,e4,e6,w3,w4,w5,f3,f8,f9,f10,true_or,Nat.zero_add,Nat.le_refl,agJ]
    exact ih' _ _ rfl rfl rfl rfl agI
theorem alt {a b:List Nat} (ha:Lb a) (hb:Lb b) (h1:a.length≤10000) (h2:b.length≤a.length) (hv:ac b≤ac a):R F.r02_minus [lm a,lm b] []=some (lm (av (ac a - ac b)),[]):=by
 refine aX alV alU (alp false) rfl ?_
 have hr:=al9 ha hb (by omega) a.length 0 (by omega)
 simp only [Int.natCast_zero] at hr
 have hall:=NR ha hb h2 hv
 have hsv:ac (j7 a b a.length)=ac a - ac b:=by
  rw [hall,pq,Nat.mod_eq_of_lt]
  exact Nat.lt_of_le_of_lt (Nat.sub_le _ _) (jn ha)
 have hL:=mK a b a.length
 have hLb:=IH a b a.length
 have q0:Acc 41 (j7 a b 0) .emp .dead:=Or.inl ⟨rfl,rfl,rfl⟩
 have c0:nJ a b 0=0:=rfl
 rw [c0] at hr
 simp only [Int.natCast_zero] at hr
 clear hall
 generalize j7 a b 0=o0 at hr q0
 generalize j7 a b a.length=out at hr hsv hL hLb
 have ht:=afD (m:=out) hLb (by omega)
 rw [hsv] at ht
 generalize av (ac a - ac b)=res at ht ⊢
 generalize hLL:aU (az R (ab false) akf) [0,1,5,6,7] [41]=L at hr
 have hX:∀ s h,az R (ab false) (.loop [0,1,5,6,7] [41] akf) s h=L s h:=fun s h=>by rw [← hLL]; rfl
 clear hLL
 have hr2:∀ (S:af) (H:aa) (X:Option (Ex × St)),aI 0 [5] (L S H)=X→S 0=lm a→S 1=lm b→S 6=W 0→S 7=I 0→S 5=.emp→H 41=.dead→∃ x hh,X=some (.normal,⟨upd (fun _=>.any) 5 x,hh⟩)∧Acc 41 out x (hh 41)∧∀ a,a ≠ 41→hh a=.dead:=fun S H X hX a0 a1 a6 a7 a5 b=>by
  rw [← hX]
  exact hr S H a0 a1 a6 a7 (by rw [a5,b]; exact q0)
 simp only [akN,ak7,hX,go_sem,↓reduceIte,ad7]
 generalize hB:aI 0 [5] (L _ _)=X
 obtain ⟨x,hh,g0,hacc,gd⟩:=hr2 _ _ _ hB rfl rfl rfl rfl rfl rfl
 rw [g0]
 rcases hacc with ⟨c1,c2,c3⟩ | ⟨c1,c2,c3⟩
 ·rw [c1] at ht
  simp only [go_sem,↓reduceIte,ad7,ad9,ad8,c2,ht,ne_eq,not_false_eq_true,gd]
 ·simp only [go_sem,↓reduceIte,ad7,ad9,ad8,c2,c3,ht,ne_eq,not_false_eq_true,gd,agK,Nat.zero_add,Nat.le_refl]
end Go.Ab
namespace Go.Ab
open Go Go.IntWalk
set_option maxRecDepth 4000
set_option maxHeartbeats 1000000
theorem amn {a b:List Nat} (ha:Lb a) (hb:Lb b) (hl:a.length=b.length) (h2:a.length≤100000):∀ (k:Nat),k≤a.length→∀ (s:af) (h:aa),s 0=lm a→s 1=lm b→s 5=I ((k:Int) - 1) →
  dD (aI 0 [] (aU (az R (ab false) ajx) [0,1,5] [] s h)) (az R (ab false) tH)=some (.ret,⟨upd (fun _=>.any) 4 (I (dk (ac (a.take k)) (ac (b.take k)))),fun _=>.dead⟩):=by
 intro k
 induction k with
 | zero =>
  intro hk s h h0 h1 h5
  rw [aB]
  generalize aU _ _ _=L
  have e1:(0≤((0:Nat):Int) - 1)=False:=ff (by omega)
  have e2:dk (ac []) (ac [])=0:=rfl
  simp only [ajx,tH,go_sem,↓reduceIte,ad7,h0,h1,h5,e1,e2]
 | succ k ih =>
  intro hk s h h0 h1 h5
  have ih':=ih (by omega)
  have e1:(0≤((k+1:Nat):Int) - 1)=True:=tt (by omega)
  have e2:bH (aP a) (((k+1:Nat):Int) - 1)=some (.ipt [U (a.getD k 0:Nat)]):=de (by omega) (by omega)
  have e3:bH (aP b) (((k+1:Nat):Int) - 1)=some (.ipt [U (b.getD k 0:Nat)]):=de (by omega) (by omega)
  have e4:IntKind.i64.wrap (((k+1:Nat):Int) - 1 - 1)=(k:Int) - 1:=by rw [i64_in] <;> omega
  have va:=jw a k
  have vb:=jw b k
  have la:=jn (qQ ha k)
  have lb:=jn (qQ hb k)
  rw [List.length_take,Nat.min_eq_left (by omega)] at la lb
  rw [aB]
  generalize aU _ _ _=L at ih' ⊢
  rcases Nat.lt_trichotomy (a.getD k 0) (b.getD k 0) with hlt | heq | hgt
  ·have e5:((a.getD k 0:Int) < (b.getD k 0:Int))=True:=tt (by omega)
   have e6:dk (ac (a.take (k+1))) (ac (b.take (k+1)))=-1:=by
    have:4294967296 ^ k*(a.getD k 0+1)≤4294967296 ^ k*b.getD k 0:=Nat.mul_le_mul_left _ hlt
    rw [Nat.mul_add] at this
    simp only [dk]
    rw [if_pos (by omega)]
   simp only [ajx,tH,go_sem,↓reduceIte,ad7,h0,h1,h5,e1,e2,e3,e5,e6]
  ·have e5:((a.getD k 0:Int) < (b.getD k 0:Int))=False:=ff (by omega)
   have e7:((b.getD k 0:Int) < (a.getD k 0:Int))=False:=ff (by omega)
   have e6:dk (ac (a.take (k+1))) (ac (b.take (k+1)))=dk (ac (a.take k)) (ac (b.take k)):=by
    rw [va,vb,heq]
    simp only [dk]
    repeat' split
    all_goals first | rfl | omega
   simp only [ajx,go_sem,↓reduceIte,ad7,h0,h1,h5,e1,e2,e3,e5,e6,e7,e4]
   exact ih' _ _ rfl rfl rfl
  ·have e5:((a.getD k 0:Int) < (b.getD k 0:Int))=False:=ff (by omega)
   have e7:((b.getD k 0:Int) < (a.getD k 0:Int))=True:=tt (by omega)
   have e6:dk (ac (a.take (k+1))) (ac (b.take (k+1)))=1:=by
    have:4294967296 ^ k*(b.getD k 0+1)≤4294967296 ^ k*a.getD k 0:=Nat.mul_le_mul_left _ hgt
    rw [Nat.mul_add] at this
    simp only [dk]
    rw [if_neg (by omega),if_pos (by omega)]
   simp only [ajx,tH,go_sem,↓reduceIte,ad7,h0,h1,h5,e1,e2,e3,e5,e6,e7]
theorem alX {a b:List Nat} (ha:Lb a) (hb:Lb b) (h1:a.length≤100000) (_h2:b.length≤100000) (hc:a.length=b.length∨(uM a∧uM b)):R F.r02_compare [lm a,lm b] []=some (I (dk (ac a) (ac b)),[]):=by
 refine aX alB alA (ald false) rfl ?_
 by_cases hl:a.length=b.length
 ·have e1:((a.length:Int)=(b.length:Int))=True:=tt (by omega)
  have e2:IntKind.i64.wrap ((b.length:Int) - 1)=(b.length:Int) - 1:=i64_in _ ⟨by omega,by omega⟩
  have e3:IntKind.i64.wrap ((a.length:Int) - 1)=(a.length:Int) - 1:=i64_in _ ⟨by omega,by omega⟩
  have hL:=amn ha hb hl h1 a.length (Nat.le_refl _)
  rw [List.take_length,hl,List.take_length,← hl] at hL
  generalize hLL:aU (az R (ab false) ajx) [0,1,5] []=L at hL
  have hX:∀ s h,az R (ab false) (.loop [0,1,5] [] ajx) s h=L s h:=fun s h=>by rw [← hLL]; rfl
  have hL2:∀ s h,s 0=lm a→s 1=lm b→s 5=I ((a.length:Int) - 1)→rg false [[]] [.t 4] 0 (dD (aI 0 [] (L s h)) (az R (ab false) (.seq (.ops [4] [co 4 (.mv (.c (.v (.int .i64 0))))]) (.ret))))=some (I (dk (ac a) (ac b)),[]):=fun s h a0 a1 a5=>by
   rw [show (.seq (.ops [4] [co 4 (.mv (.c (.v (.int .i64 0))))]) (.ret):Cmd)=tH from rfl,hL s h a0 a1 a5]
   simp only [go_sem,↓reduceIte]
  show rg false [[]] [.t 4] 0 (az R (ab false) akz _ _)=_
  unfold akz
  show rg false [[]] [.t 4] 0 (dD (az R (ab false) (.ops [0,1] [co 4 (.mv (.c (.v (.int .i64 0))))]) _ _) fun s h=>dD (az R (ab false) (.seq (.ops [0,1,10] [cm 6 0,co 7 (.len false (.t 6)),cm 8 1,co 9 (.len false (.t 8)),co 10 (.bin .neq (.t 7) (.t 9))]) (.cond (.t 10) (.seq (.seq (.ops [15] [cm 11 0,co 12 (.len false (.t 11)),cm 13 1,co 14 (.len false (.t 13)),co 15 (.bin .lss (.t 12) (.t 14))]) (.cond (.t 15) (.seq (.ops [4] [co 4 (.mv (.c (.v (.int .i64 (-1)))))]) (.ret)) (.skip))) (.seq (.ops [4] [co 4 (.mv (.c (.v (.int .i64 1))))]) (.ret))) (.skip))) s h) fun s h=>dD (dD (az R (ab false) (.ops [0,1,5] [cm 16 0,co 17 (.len false (.t 16)),co 18 (.bin .sub (.t 17) (.c (.v (.int .i64 1)))),cm 5 18]) s h) fun s h=>aI 0 [] (az R (ab false) (.loop [0,1,5] [] ajx) s h)) (az R (ab false) (.seq (.ops [4] [co 4 (.mv (.c (.v (.int .i64 0))))]) (.ret))))=_
  simp only [hX]
  generalize hT:az R (ab false) (.seq (.ops [4] [co 4 (.mv (.c (.v (.int .i64 0))))]) (.ret))=T at hL2 ⊢
  simp only [go_sem,↓reduceIte,ad7,e1,e3]
  exact hL2 _ _ rfl rfl rfl
 ·have e1:((a.length:Int)=(b.length:Int))=False:=ff (by omega)
  obtain ⟨ca,cb⟩:=hc.resolve_left hl
  by_cases hlt:a.length < b.length
  ·have e2:((a.length:Int) < (b.length:Int))=True:=tt (by omega)
   have e3:dk (ac a) (ac b)=-1:=by
    have:=uR (x:=ac a) (y:=ac b) (by rw [IA ha ca,IA hb cb]; exact hlt)
    unfold dk
    rw [if_pos this]
   rw [e3]
   simp only [akw,akz,go_sem,↓reduceIte,ad7,e1,e2]
  ·have e2:((a.length:Int) < (b.length:Int))=False:=ff (by omega)
   have e3:dk (ac a) (ac b)=1:=by
    have:=uR (x:=ac b) (y:=ac a) (by rw [IA ha ca,IA hb cb]; omega)
    unfold dk
    rw [if_neg (by omega),if_pos this]
   rw [e3]
   simp only [akw,akz,go_sem,↓reduceIte,ad7,e1,e2]
end Go.Ab
namespace Go.Ab
open Go Go.IntWalk
set_option maxRecDepth 4000
set_option maxHeartbeats 1000000
end Go.Ab
namespace Go.Ab
open Go Go.IntWalk
set_option maxRecDepth 4000
set_option maxHeartbeats 1000000
theorem aiA {a b:List Nat} (ha:Lb a) (hb:Lb b) {i n:Nat} (h1:a.length≤100000) (h2:b.length≤100000) (hi:i < a.length):∀ (bs:List Nat) (k:Nat) (D S:List Nat) (c:Nat),b.drop k=bs→k≤b.length→D.length=i+k→bs.length≤S.length→(D++S).length=n→Lb S→c < 4294967296 →
  ∀ (s:af) (h:aa),s 0=lm a→s 1=lm b→s 5=.rsl 18 none 1 0 n→s 6=I i→s 7=W c→s 8=I k→h 18=.ar 1 (aP (D++S)) →
  aI 2 [0,1,5,6,7] (aU (az R (ab false) aeM) [0,1,5,6,7,8] [18] s h) =
   some (.normal,⟨upd (upd (upd (upd (upd (fun _=>.any) 7 (W ((mi (a.getD i 0) c bs S).2:Nat))) 6 (I i)) 5 (.rsl 18 none 1 0 n)) 1 (lm b)) 0 (lm a),upd (fun _=>.dead) 18 (.ar 1 (aP (D++(mi (a.getD i 0) c bs S).1)))⟩):=by
 have hx:=dQ ha i
 intro bs
 induction bs with
 | nil =>
  intro k D S c hd hk hD hS hn hLS hc s h h0 h1 h5 h6 h7 h8 hh
  have:k=b.length:=by
   have:=congrArg List.length hd
   simp at this
   omega
  subst this
  rw [aB]
  simp only [aeM,go_sem,↓reduceIte,ad7,aeb,h0,h1,h5,h6,h7,h8,hh,Int.lt_irrefl,mi]
 | cons y bs ih =>
  intro k D S c hd hk hD hS hn hLS hc s h h0 h1' h5 h6 h7 h8 hh
  obtain ⟨o,S,rfl⟩:∃ o S',S=o::S':=by
   cases S with
   | nil=>simp at hS
   | cons o S=>exact ⟨o,S,rfl⟩
  have hlt:k < b.length:=by
   have:=congrArg List.length hd
   simp at this
   omega
  have hy:b.getD k 0=y:=by
   have:=congrArg (·[0]?) hd
   simp only [List.getElem?_drop,Nat.add_zero,List.getElem?_cons_zero] at this
   rw [List.getD_eq_getElem?_getD,this]
   rfl
  have hyb:y < 4294967296:=by rw [← hy]; exact dQ hb k
  have hob:o < 4294967296:=(eO.1 hLS).1
  have e0:bH (aP a) (i:Int)=some (.ipt [U (a.getD i 0:Nat)]):=de rfl hi
  generalize a.getD i 0=x at hx e0 ih ⊢
  have hml:=LE hx hyb hob hc
  have hxy:x*y < 18446744073709551616:=by omega
  have ih':=ih (k+1) (D++[(x*y+o+c) % 4294967296]) S ((x*y+o+c) / 4294967296) (by rw [← List.drop_drop,hd]; rfl) hlt (by simp [hD]; omega) (by simpa using hS) (by simpa using hn) (eO.1 hLS).2 (by omega)
  have e1:((k:Int) < (b.length:Int))=True:=tt (by omega)
  have e2:bH (aP b) (k:Int)=some (.ipt [U (y:Nat)]):=by rw [de rfl hlt,hy]
  have e3:IntKind.i64.wrap ((k:Int)+1)=((k+1:Nat):Int):=wi (by omega) (by omega)
  have e4:IntKind.i64.wrap ((i:Int)+(k:Int))=((i+k:Nat):Int):=wi (by omega) (by omega)
  have e5:(0≤((i+k:Nat):Int))=True:=tt (by omega)
  have hin:i+k < n:=by rw [← hn]; simp [hD]
  have e6:(((i+k:Nat):Int) < (n:Int))=True:=tt (by omega)
  have e7:(aP (D++o::S))[i+k]?=some [U (o:Nat)]:=by
   rw [qR (by simp [hD])]
   simp [List.getD_eq_getElem?_getD,hD]
  have f1:IntKind.u64.wrap (x:Int)=x:=qh rfl (by omega)
  have f2:IntKind.u64.wrap (y:Int)=y:=qh rfl (by omega)
  have f3:IntKind.u64.wrap ((x:Int)*(y:Int))=((x*y:Nat):Int):=qh (by simp) hxy
  have f4:IntKind.u64.wrap (o:Int)=o:=qh rfl (by omega)
  have f5:IntKind.u64.wrap (((x*y:Nat):Int)+(o:Int))=((x*y+o:Nat):Int):=qh (by omega) (by omega)
  have f6:IntKind.u64.wrap (((x*y+o:Nat):Int)+(c:Int))=((x*y+o+c:Nat):Int):=qh (by omega) (by omega)
  have f10:=afm (n:=x*y+o+c) rfl (by omega)
  have f7:IntKind.u32.wrap (((x*y+o+c) % 4294967296:Nat):Int)=(((x*y+o+c) % 4294967296:Nat):Int):=RM rfl (by omega)
  have f8:=Bi (n:=x*y+o+c) (k:=32) (kk:=.u64) (j:=32) rfl rfl (by omega)
  have f9:(aP (D++o::S)).set (i+k) [U ((x*y+o+c) % 4294967296:Nat)]=aP (D++[(x*y+o+c) % 4294967296]++S):=by
   rw [qS,← hD,List.set_append_right _ _ (Nat.le_refl _)]
   simp
  rw [aB]
  generalize aU _ _ _=L at ih' ⊢
  simp only [aeM,go_sem,↓reduceIte,ad7,aea,aec,aeb,h0,h1',h5,h6,h7,h8,hh,e0,e1,e2,e3,e4,e5,e6,e7,f1,f2,f3,f4,f5,f6,f7,f8,f9,f10,Int.toNat_natCast,Nat.zero_add,mi]
  rw [ih' _ _ rfl rfl rfl rfl rfl rfl rfl]
  simp only [List.append_assoc,List.singleton_append]
theorem agL {a b:List Nat} {i n j:Nat} {rows:List (List AV)} (s:af) (h:aa) (h0:s 0=lm a) (h1:s 1=lm b) (h5:s 5=.rsl 18 none 1 0 n) (h6:s 6=I i) (h7:s 7=W 0) (h10:s 10=I j) (hh:h 18=.ar 1 rows) :
  aI 4 [0,1,5,6] (aU (az R (ab false) aer) [0,1,5,6,7,10] [18] s h)=some (.normal,⟨upd (upd (upd (upd (fun _=>.any) 6 (I i)) 5 (.rsl 18 none 1 0 n)) 1 (lm b)) 0 (lm a),upd (fun _=>.dead) 18 (.ar 1 rows)⟩):=by
 rw [aB]
 simp only [aer,go_sem,↓reduceIte,ad7,aeb,h0,h1,h5,h6,h7,h10,hh,Int.lt_irrefl]
theorem ai2 {a b:List Nat} {i n j c:Nat} {rows rows':List (List AV)} (hc:c < 4294967296) (hj:j < n) (hn:n≤1000000) (hg:rows[j]?=some [U (0:Nat)]) (hs:rows.set j [U (c:Nat)]=rows') (hz:c=0→rows=rows') (s:af) (h:aa) (h0:s 0=lm a) (h1:s 1=lm b) (h5:s 5=.rsl 18 none 1 0 n) (h6:s 6=I i) (h7:s 7=W c) (h10:s 10=I j) (hh:h 18=.ar 1 rows) :
  aI 4 [0,1,5,6] (aU (az R (ab false) aer) [0,1,5,6,7,10] [18] s h)=some (.normal,⟨upd (upd (upd (upd (fun _=>.any) 6 (I i)) 5 (.rsl 18 none 1 0 n)) 1 (lm b)) 0 (lm a),upd (fun _=>.dead) 18 (.ar 1 rows')⟩):=by
 by_cases h00:c=0
 ·rw [h00] at h7
  rw [← hz h00]
  exact agL s h h0 h1 h5 h6 h7 h10 hh
 ·have e1:(0 < (c:Int))=True:=tt (by omega)
  have e2:(0≤(j:Int))=True:=tt (by omega)
  have e3:((j:Int) < (n:Int))=True:=tt (by omega)
  have e4:IntKind.u64.wrap ((0:Nat):Int)=((0:Nat):Int):=qh rfl (by omega)
  have e5:IntKind.u64.wrap (((0:Nat):Int)+(c:Int))=(c:Int):=qh (by omega) (by omega)
  have e6:=afm (n:=c) rfl (by omega)
  rw [Nat.mod_eq_of_lt hc] at e6
  have e7:IntKind.u32.wrap (c:Int)=(c:Int):=RM rfl hc
  have e8:=Bi (n:=c) (k:=32) (kk:=.u64) (j:=32) rfl rfl (by omega)
  rw [Nat.div_eq_of_lt hc] at e8
  have e9:IntKind.i64.wrap ((j:Int)+1)=((j+1:Nat):Int):=wi (by omega) (by omega)
  have c0:=agL (a:=a) (b:=b) (i:=i) (n:=n) (j:=j+1) (rows:=rows')
  rw [aB]
  generalize aU _ _ _=L at c0 ⊢
  simp only [aer,go_sem,↓reduceIte,ad7,aea,aeb,h0,h1,h5,h6,h7,h10,hh,e1,e2,e3,e4,e5,e6,e7,e8,e9,hg,hs,Int.toNat_natCast,Nat.zero_add]
  exact c0 _ _ rfl rfl rfl rfl rfl rfl rfl
theorem ah8 {a b:List Nat} (ha:Lb a) (hb:Lb b) (h1:a.length≤10000) (h2:b.length≤10000):∀ (k i:Nat),i+k=a.length→∀ (s:af) (h:aa),s 0=lm a→s 1=lm b→s 5=.rsl 18 none 1 0 (a.length+b.length+1)→s 6=I i→h 18=.ar 1 (aP (bE a b i++List.replicate (k+1) 0)) →
  aI 0 [5] (aU (az R (ab false) aes) [0,1,5,6] [18] s h) =
   some (.normal,⟨upd (fun _=>.any) 5 (.rsl 18 none 1 0 (a.length+b.length+1)),upd (fun _=>.dead) 18 (.ar 1 (aP (bE a b a.length++[0])))⟩):=by
 intro k
 induction k with
 | zero =>
  intro i hi s h h0 h1 h5 h6 hh
  have:i=a.length:=by omega
  subst this
  rw [aB]
  simp only [Nat.zero_add,List.replicate_one] at hh
  simp only [aes,go_sem,↓reduceIte,ad7,aeb,h0,h1,h5,h6,hh,Int.lt_irrefl]
 | succ k ih =>
  intro i hi s h h0 g1 h5 h6 hh
  have ih':=ih (i+1) (by omega)
  have hx:=dQ ha i
  have hP:(bE a b i).length=i+b.length:=cq _ _
  have hLP:Lb (bE a b i):=pp _ _
  have hsp:bE a b i++List.replicate (k+1+1) 0=(bE a b i).take i++((bE a b i).drop i++List.replicate (k+1+1) 0):=by rw [← List.append_assoc,List.take_append_drop]
  have e1:((i:Int) < (a.length:Int))=True:=tt (by omega)
  have e3:IntKind.i64.wrap ((i:Int)+1)=((i+1:Nat):Int):=wi (by omega) (by omega)
  have e4:IntKind.i64.wrap ((i:Int)+(b.length:Int))=((i+b.length:Nat):Int):=wi (by omega) (by omega)
  have lp:=aiA ha hb (i:=i) (n:=a.length+b.length+1) (by omega) (by omega) (by omega) b 0 ((bE a b i).take i) ((bE a b i).drop i++List.replicate (k+1+1) 0) 0 rfl (Nat.zero_le _) (by simp [hP]) (by simp [hP]) (by simp [hP]; omega)
   (nI.2 ⟨tr hLP i,fun y hy=>by rw [List.eq_of_mem_replicate hy]; omega⟩) (by omega)
  rw [LD _ _ _ _ _ (by simp [hP])] at lp
  have ml:(mi (a.getD i 0) 0 b ((bE a b i).drop i)).1.length=b.length:=by rw [xg]; simp [hP]
  have mc:=zQ hx b ((bE a b i).drop i) 0 hb (tr hLP i) (by omega)
  have ps:=LG ha hb (show i < a.length from by omega)
  rw [hsp] at hh
  generalize mi (a.getD i 0) 0 b ((bE a b i).drop i)=r at *
  have hlen:((bE a b i).take i++r.1).length=i+b.length:=by simp [hP,ml]
  have e7:(aP ((bE a b i).take i++(r.1++List.replicate (k+1+1) 0)))[i+b.length]?=some [U (0:Nat)]:=by
   rw [← List.append_assoc,qR (by simp [hP,ml]),List.getD_eq_getElem?_getD,List.getElem?_append_right (by omega)]
   simp [hlen]
  have e8:(aP ((bE a b i).take i++(r.1++List.replicate (k+1+1) 0))).set (i+b.length) [U (r.2:Nat)]=aP (bE a b (i+1)++List.replicate (k+1) 0):=by
   rw [← List.append_assoc,qS]
   have:=rG ((bE a b i).take i++r.1) (k+1+1) r.2 0 (by omega)
   rw [hlen] at this
   have e:(bE a b i).take i++r.1++[r.2]=bE a b (i+1):=by rw [List.append_assoc]; exact ps
   rw [this,e]
   rfl
  have hz:r.2=0→aP ((bE a b i).take i++(r.1++List.replicate (k+1+1) 0))=aP (bE a b (i+1)++List.replicate (k+1) 0):=fun h0=>by
   rw [← ps,h0,List.replicate_succ]
   simp only [List.append_assoc,List.singleton_append]
  have lc:=ai2 (a:=a) (b:=b) (i:=i) (n:=a.length+b.length+1) (j:=i+b.length) mc (by omega) (by omega) e7 e8 hz
  rw [aB]
  generalize aU (az R (ab false) aes) _ _=L at ih' ⊢
  simp only [Int.natCast_zero] at lp
  simp only [aes,go_sem,↓reduceIte,ad7,aeb,h0,g1,h5,h6,hh,e1]
  rw [lp _ _ rfl rfl rfl rfl rfl rfl rfl]
  simp only [go_sem,↓reduceIte,ad7,e4]
  rw [lc _ _ rfl rfl rfl rfl rfl rfl rfl]
  simp only [go_sem,↓reduceIte,ad7,e3]
  exact ih' _ _ rfl rfl rfl rfl rfl
theorem ah9 {a b:List Nat} (ha:Lb a) (hb:Lb b) (h1:a.length≤10000) (h2:b.length≤10000):R F.r02_times [lm a,lm b] []=some (lm (av (ac a*ac b)),[]):=by
 refine aX ag7 ag6 (afQ false) rfl ?_
 have e1:IntKind.i64.wrap ((a.length:Int)+(b.length:Int))=((a.length+b.length:Nat):Int):=wi (by omega) (by omega)
 have e1':IntKind.i64.wrap (((a.length+b.length:Nat):Int)+1)=((a.length+b.length+1:Nat):Int):=wi (by omega) (by omega)
 have e2:=qi (i:=((a.length+b.length+1:Nat):Int)) (j:=((a.length+b.length+1:Nat):Int)) rfl rfl (Nat.le_refl _) (by omega)
 have e3:((a.length+b.length+1)*4≤140737488355328)=True:=tt (by omega)
 have e4:=ah8 ha hb h1 h2 a.length 0 (by omega)
 have e0:bE a b 0=List.replicate b.length 0:=by
  have:∀ n,di n 0=List.replicate n 0:=fun n=>by
   induction n with
   | zero=>rfl
   | succ n ih=>simp [di,ih,List.replicate_succ]
  simp [bE,ac,this]
 have e5:aP (List.replicate (a.length+b.length+1) 0)=aP (bE a b 0++List.replicate (a.length+1) 0):=by
  rw [e0,List.replicate_append_replicate,show b.length+(a.length+1)=a.length+b.length+1 by omega]
 have e6:bE a b a.length=di (a.length+b.length) (ac a*ac b):=by rw [bE,List.take_length]
 have hLb:Lb (bE a b a.length++[0]):=nI.2 ⟨by rw [e6]; exact pp _ _,eO.2 ⟨by decide,AO⟩⟩
 have hlen:(bE a b a.length++[0]).length=a.length+b.length+1:=by rw [e6]; simp [cq]
 have hv:ac (bE a b a.length++[0])=ac a*ac b:=by
  rw [fh,e6,pq,Nat.mod_eq_of_lt]
  ·simp [ac]
  ·rw [Nat.pow_add]
   exact Nat.mul_lt_mul'' (jn ha) (jn hb)
 have ht:=afD hLb (by rw [hlen]; omega)
 rw [hv] at ht
 have f4:=agK (bE a b a.length++[0])
 rw [hlen] at f4
 simp only [aeU,afs,go_sem,↓reduceIte,ad7,e1,e1',e2,e3,tF,e5]
 rw [e4 _ _ rfl rfl rfl rfl rfl]
 simp only [go_sem,↓reduceIte,ad7,ad9,ad8,f4,ht,hlen,abD,Nat.zero_add,Nat.le_refl]
end Go.Ab
namespace Go.Ab
open Go Go.IntWalk
set_option maxRecDepth 4000
set_option maxHeartbeats 1000000
end Go.Ab
namespace Go.Ab
open Go Go.IntWalk
set_option maxRecDepth 4000
set_option maxHeartbeats 1000000
theorem ae1 {d:Rd} (ok:Ok0 d):R F.r02_Valid [aF d] []=some (B (vd d),[]):=by
 refine aX ag3 ag2 (afP false) rfl ?_
 unfold vd
 have hl:=ok.len
 by_cases a0:d.m.length=0
 ·rw [if_pos a0]
  have e1:((d.m.length:Int)=0)=True:=tt (by omega)
  cases hn:d.neg with
  | true=>simp only [adk,adt,aF,aW,hn,go_sem,↓reduceIte,ad7,ad9,ad8,e1,Bool.not_true,Bool.false_and]
  | false=>simp only [adk,adt,aF,aW,hn,go_sem,↓reduceIte,ad7,ad9,ad8,e1,Bool.not_false,Bool.true_and]
 rw [if_neg a0]
 have e1:((d.m.length:Int)=0)=False:=ff (by omega)
 by_cases a1:¬ d.m.length≤256
 ·have e2:(256 < (d.m.length:Int))=True:=tt (by omega)
  rw [decide_eq_false a1,Bool.false_and]
  simp only [adk,adt,aF,aW,go_sem,↓reduceIte,ad7,ad9,ad8,e1,e2]
 replace a1:=Decidable.not_not.1 a1
 have e2:(256 < (d.m.length:Int))=False:=ff (by omega)
 have e3:bH (aP d.m) 0=some (.ipt [U (d.m.getD 0 0:Nat)]):=de rfl (by omega)
 have e6:IntKind.i64.wrap ((d.m.length:Int) - 1)=((d.m.length - 1:Nat):Int):=wi (by omega) (by omega)
 have e7:bH (aP d.m) ((d.m.length - 1:Nat):Int)=some (.ipt [U (d.m.getD (d.m.length - 1) 0:Nat)]):=de rfl (by omega)
 have hx:=dQ ok.lb 0
 rw [decide_eq_true a1,Bool.true_and]
 by_cases a3:d.m.getD (d.m.length - 1) 0=0
 ·have e8:((d.m.getD (d.m.length - 1) 0:Int)=0)=True:=tt (by omega)
  rw [decide_eq_false (p:=d.m.getD (d.m.length - 1) 0 ≠ 0) (fun h=>h a3),Bool.false_and,Bool.and_false]
  simp only [adk,adt,aF,aW,go_sem,↓reduceIte,ad7,ad9,ad8,e1,e2,e6,e7,e8]
 have e8:((d.m.getD (d.m.length - 1) 0:Int)=0)=False:=ff (by omega)
 rw [decide_eq_true (p:=d.m.getD (d.m.length - 1) 0 ≠ 0) a3,Bool.true_and]
 have e4:=agG (n:=d.m.getD 0 0) rfl hx
 by_cases a2:¬ d.m.getD 0 0 % 2=1
 ·have e5:(((d.m.getD 0 0 % 2:Nat):Int)=0)=True:=tt (by omega)
  rw [decide_eq_false a2,Bool.false_and]
  simp only [adk,adt,aF,aW,go_sem,↓reduceIte,ad7,ad9,ad8,e1,e2,e3,e4,e5,e6,e7,e8]
 replace a2:=Decidable.not_not.1 a2
 have e5:(((d.m.getD 0 0 % 2:Nat):Int)=0)=False:=ff (by omega)
 rw [decide_eq_true a2,Bool.true_and]
 have hv:ac d.m ≠ 0:=Lt (Or.inr a3) (fun h=>a0 (by rw [h]; rfl))
 have hbp:=lD hv
 unfold sk
 rw [decide_eq_false (p:=aq (ac d.m)=0) (by omega),Bool.false_or]
 by_cases a4:d.e < -16384
 ·have f1:(d.e < -16384)=True:=tt a4
  rw [decide_eq_false (p:=-16384≤d.e) (by omega),Bool.false_and,Bool.and_false]
  simp only [adk,adt,aF,aW,go_sem,↓reduceIte,ad7,ad9,ad8,e1,e2,e3,e4,e5,e6,e7,e8,f1]
 have f1:(d.e < -16384)=False:=ff a4
 rw [decide_eq_true (p:=-16384≤d.e) (by omega),Bool.true_and]
 by_cases a5:16384 < d.e
 ·have f2:(16384 < d.e)=True:=tt a5
  rw [decide_eq_false (p:=d.e≤16384) (by omega),Bool.false_and,Bool.and_false]
  simp only [adk,adt,aF,aW,go_sem,↓reduceIte,ad7,ad9,ad8,e1,e2,e3,e4,e5,e6,e7,e8,f1,f2]
 have f2:(16384 < d.e)=False:=ff a5
 rw [decide_eq_true (p:=d.e≤16384) (by omega),Bool.true_and]
 have hb:=aiz ok.lb (by omega) (Or.inr a3)
 have hbl:=aiw ok.lb
 have w1:IntKind.i64.wrap (((aq (ac d.m):Nat):Int)+d.e)=((aq (ac d.m):Nat):Int)+d.e:=i64_in _ ⟨by omega,by omega⟩
 by_cases a6:aq (ac d.m)≤4096
 ·have f3:(((aq (ac d.m):Nat):Int)≤4096)=True:=tt (by omega)
  rw [decide_eq_true a6,Bool.true_and]
  simp only [adk,adt,aF,aW,go_sem,↓reduceIte,ad7,ad9,ad8,e1,e2,e3,e4,e5,e6,e7,e8,f1,f2,hb,f3,w1]
 ·have f3:(((aq (ac d.m):Nat):Int)≤4096)=False:=ff (by omega)
  rw [decide_eq_false a6,Bool.false_and]
  simp only [adk,adt,aF,aW,go_sem,↓reduceIte,ad7,ad9,ad8,e1,e2,e3,e4,e5,e6,e7,e8,f1,f2,hb,f3]
theorem aia {neg:Bool} {m:List Nat} {e:Int} (hb:Lb m) (h1:m.length≤9000) (he:-1000000≤e∧e≤1000000):R F.r02_Of [B neg,lm m,I e] []=some (aF (cB neg (ac m) e),[]):=by
 refine aX aiu ait (ag5 false) rfl ?_
 have ht:=afD hb (by omega)
 have la:=dG m hb
 obtain ⟨M,hM⟩:∃ M,ac m=M:=⟨_,rfl⟩
 rw [hM] at ht la ⊢
 by_cases h0:M=0
 ·have e1:(((av M).length:Int)=0)=True:=tt (by rw [h0,fG]; rfl)
  rw [h0,jx]
  rw [h0] at ht e1
  simp only [ae0,afv,aF,aW,el,go_sem,↓reduceIte,ad7,ad9,ad8,aea,ht,e1]
 ·have e1:(((av M).length:Int)=0)=False:=ff (fun h=>h0 (lZ.1 (List.length_eq_zero_iff.1 (by omega))))
  have hz:=ah5 (cd M) (by omega) (by rw [bI]; exact h0)
  rw [bI] at hz
  have htz:tz M < 32*(av M).length:=by
   refine OO h0 ?_
   have:=jn (cd M)
   rw [bI] at this
   rw [Nat.pow_mul]
   exact this
  have hr:=ah7 (cd M) (n:=tz M) (by omega) (by omega)
  rw [bI] at hr
  have w1:IntKind.i64.wrap (e+((tz M:Nat):Int))=e+((tz M:Nat):Int):=i64_in _ ⟨by omega,by omega⟩
  rw [nj h0]
  simp only [ae0,afv,aF,aW,go_sem,↓reduceIte,ad7,ad9,ad8,aea,ht,e1,hz,hr,w1]
theorem N7 {d:Rd} (h:vd d=true):uM d.m:=by
 by_cases h0:d.m.length=0
 ·exact Or.inl (List.length_eq_zero_iff.1 h0)
 ·exact Or.inr (rH h h0).2.2.1
def gj (z f:Int):Rd:=cB (decide (z < 0)) z.natAbs f
theorem tM {neg:Bool} {n:Nat} {f:Int}:cB neg n f=gj (fR neg n) f:=by
 unfold gj
 by_cases h0:n=0
 ·subst h0
  rw [jx]
  cases neg <;> exact jx.symm
 ·cases neg with
  | false =>
   rw [i7,Int.natAbs_natCast,decide_eq_false (by omega)]
  | true =>
   rw [i6,Int.natAbs_neg,Int.natAbs_natCast,decide_eq_true (by omega)]
theorem LP {n:Nat} (h:n % 2=1) (k:Nat):tz (n*2 ^ k)=k:=by
 rw [Nat.mul_comm,AQ k (by omega),wW h,Nat.add_zero]
theorem tN {d:Rd} (ok:Ok0 d) (h:vd d=true):gj (zI d) (-16384)=d:=by
 by_cases h0:d.m.length=0
 ·rw [qT h0]
  have:=xQ h h0
  subst this
  exact jx
 ·obtain ⟨h1,h2,h3,h4⟩:=rH h h0
  obtain ⟨g1,g2,g3,g4⟩:=j8 h ok.lb
  have hz:zI d=fR d.neg (mg d):=by
   unfold zI fR
   rfl
  rw [hz,← tM]
  unfold mg
  rw [oK,nj (iF h h0)]
  have ho:ac d.m % 2=1:=by
   have:=ej d.m 0
   rw [List.drop_zero] at this
   omega
  rw [wW ho,Nat.pow_zero,Nat.div_one,IA ok.lb (N7 h)]
  obtain ⟨n,m,e⟩:=d
  show (⟨n,m,-16384+(((e+16384).toNat:Nat):Int)+((0:Nat):Int)⟩:Rd)=_
  rw [show -16384+(((e+16384).toNat:Nat):Int)+((0:Nat):Int)=e by have:-16384≤e:=g2; omega]
theorem akO {x y:Nat} (h:x≤y):(av x).length≤(av y).length:=Nat.not_lt.1 fun h2=>by
 have:=uR h2
 omega
theorem amL {a b:Rd} (oa:Ok0 a) (ob:Ok0 b) (va:vd a=true) (vb:vd b=true):R F.r02_Sum [aF a,aF b] []=some (aF (gj (zI a+zI b) (-16384)),[]):=by
 refine aX amh amg (alK false) rfl ?_
 by_cases a0:a.m.length=0
 ·have e1:((a.m.length:Int)=0)=True:=tt (by omega)
  rw [qT a0,Int.zero_add,tN ob vb]
  simp only [akt,akL,aF,aW,go_sem,↓reduceIte,ad7,ad9,ad8,aea,e1]
 have e1:((a.m.length:Int)=0)=False:=ff (by omega)
 by_cases b0:b.m.length=0
 ·have e2:((b.m.length:Int)=0)=True:=tt (by omega)
  rw [qT b0,Int.add_zero,tN oa va]
  simp only [akt,akL,aF,aW,go_sem,↓reduceIte,ad7,ad9,ad8,aea,e1,e2]
 have e2:((b.m.length:Int)=0)=False:=ff (by omega)
 obtain ⟨a1,a2,a3,a4⟩:=j8 va oa.lb
 obtain ⟨b1,b2,b3,b4⟩:=j8 vb ob.lb
 obtain ⟨e,he⟩:∃ e,(if b.e < a.e then b.e else a.e)=e:=⟨_,rfl⟩
 have he1:-16384≤e∧e≤a.e∧e≤b.e:=by
  split at he <;> omega
 have w1:IntKind.i64.wrap (a.e - e)=(((a.e - e).toNat:Nat):Int):=wi (by omega) (by omega)
 have w2:IntKind.i64.wrap (b.e - e)=(((b.e - e).toNat:Nat):Int):=wi (by omega) (by omega)
 have l1:=alL oa.lb (n:=(a.e - e).toNat) (by omega) (by omega)
 have l2:=alL ob.lb (n:=(b.e - e).toNat) (by omega) (by omega)
 have z1:zI a=fR a.neg (ac a.m*2 ^ (a.e - e).toNat*2 ^ (e+16384).toNat):=by
  rw [show zI a=fR a.neg (mg a) from rfl,pB he1.1 he1.2.1]
 have z2:zI b=fR b.neg (ac b.m*2 ^ (b.e - e).toNat*2 ^ (e+16384).toNat):=by
  rw [show zI b=fR b.neg (mg b) from rfl,pB he1.1 he1.2.2]
 have bx:aq (ac a.m*2 ^ (a.e - e).toNat)≤36864:=by
  rw [lE _ (iF va a0)]
  omega
 have by':aq (ac b.m*2 ^ (b.e - e).toNat)≤36864:=by
  rw [lE _ (iF vb b0)]
  omega
 rw [z1,z2]
 generalize ac a.m*2 ^ (a.e - e).toNat=x at l1 bx ⊢
 generalize ac b.m*2 ^ (b.e - e).toNat=y at l2 by' ⊢
 have lx:(av x).length≤1152:=bF (by omega)
 have ly:(av y).length≤1152:=bF (by omega)
 have hsum:∀ (n:Bool) (z:Nat),cB n z e=gj (fR n (z*2 ^ (e+16384).toNat)) (-16384):=fun n z=>by
  rw [← tM,oK,show -16384+(((e+16384).toNat:Nat):Int)=e by omega]
 have hcp:=alX (cd x) (cd y) (by omega) (by omega) (Or.inr ⟨Lu x,Lu y⟩)
 rw [bI,bI] at hcp
 by_cases hs:a.neg=b.neg
 ·have p1:=amv (cd x) (cd y) (by omega) (by omega)
  rw [bI,bI] at p1
  have bz:aq (x+y)≤36865:=G7 bx by'
  have o1:=aia (neg:=a.neg) (m:=av (x+y)) (e:=e) (cd _) (Nat.le_trans (bF (k:=1153) (by omega)) (by decide)) ⟨by omega,by omega⟩
  rw [bI,hsum] at o1
  have hz:fR a.neg (x*2 ^ (e+16384).toNat)+fR b.neg (y*2 ^ (e+16384).toNat)=fR a.neg ((x+y)*2 ^ (e+16384).toNat):=by
   rw [← hs,Nat.add_mul]
   cases a.neg
   ·rw [i7,i7,i7]
    omega
   ·rw [i6,i6,i6]
    omega
  rw [hz]
  generalize gj (fR a.neg ((x+y)*2 ^ (e+16384).toNat)) (-16384)=r at o1 ⊢
  have hs2:(a.neg == b.neg)=true:=by rw [hs]; exact beq_self_eq_true _
  have hs3:(false != (a.neg == b.neg))=true:=by rw [hs2]; rfl
  simp only [aF,aW] at o1
  simp only [akt,akL,aF,aW,go_sem,↓reduceIte,ad7,ad9,ad8,aea,aec,aeb,e1,e2,he,w1,w2,l1,l2,hs3,p1,o1]
 ·have hs2:(a.neg == b.neg)=false:=by
   cases ha:a.neg <;> cases hb:b.neg <;> first | rfl | (rw [ha,hb] at hs; exact absurd rfl hs)
  have hs3:(false != (a.neg == b.neg))=false:=by rw [hs2]; rfl
  have hbn:b.neg=!a.neg:=by
   cases ha:a.neg <;> cases hb:b.neg <;> first | rfl | (rw [ha,hb] at hs; exact absurd rfl hs)
  by_cases hlt:x < y
  ·have e5:(0≤dk x y)=False:=ff (by unfold dk; rw [if_pos hlt]; decide)
   have m1:=alt (cd y) (cd x) (by omega) (akO (by omega)) (by rw [bI,bI]; omega)
   rw [bI,bI] at m1
   have o1:=aia (neg:=b.neg) (m:=av (y - x)) (e:=e) (cd _) (Nat.le_trans (akO (Nat.sub_le _ _)) (by omega)) ⟨by omega,by omega⟩
   rw [bI,hsum] at o1
   have hmul:x*2 ^ (e+16384).toNat≤y*2 ^ (e+16384).toNat:=Nat.mul_le_mul_right _ (by omega)
   have hz:fR a.neg (x*2 ^ (e+16384).toNat)+fR b.neg (y*2 ^ (e+16384).toNat)=fR b.neg ((y - x)*2 ^ (e+16384).toNat):=by
    rw [hbn,Nat.sub_mul]
    cases a.neg
    ·rw [Bool.not_false,i7,i6,i6]
     omega
    ·rw [Bool.not_true,i7,i6,i7]
     omega
   rw [hz]
   generalize gj (fR b.neg ((y - x)*2 ^ (e+16384).toNat)) (-16384)=r at o1 ⊢
   simp only [aF,aW] at o1
   simp only [akt,akL,aF,aW,go_sem,↓reduceIte,ad7,ad9,ad8,aea,aec,aeb,e1,e2,he,w1,w2,l1,l2,hs3,hcp,e5,m1,o1]
  ·have e5:(0≤dk x y)=True:=tt (by unfold dk; rw [if_neg hlt]; split <;> decide)
   have m1:=alt (cd x) (cd y) (by omega) (akO (by omega)) (by rw [bI,bI]; omega)
   rw [bI,bI] at m1
   have o1:=aia (neg:=a.neg) (m:=av (x - y)) (e:=e) (cd _) (Nat.le_trans (akO (Nat.sub_le _ _)) (by omega)) ⟨by omega,by omega⟩
   rw [bI,hsum] at o1
   have hmul:y*2 ^ (e+16384).toNat≤x*2 ^ (e+16384).toNat:=Nat.mul_le_mul_right _ (by omega)
   have hz:fR a.neg (x*2 ^ (e+16384).toNat)+fR b.neg (y*2 ^ (e+16384).toNat)=fR a.neg ((x - y)*2 ^ (e+16384).toNat):=by
    rw [hbn,Nat.sub_mul]
    cases a.neg
    ·rw [Bool.not_false,i7,i6,i7]
     omega
    ·rw [Bool.not_true,i7,i6,i6]
     omega
   rw [hz]
   generalize gj (fR a.neg ((x - y)*2 ^ (e+16384).toNat)) (-16384)=r at o1 ⊢
   simp only [aF,aW] at o1
   simp only [akt,akL,aF,aW,go_sem,↓reduceIte,ad7,ad9,ad8,aea,aec,aeb,e1,e2,he,w1,w2,l1,l2,hs3,hcp,e5,m1,o1]
theorem ahf {a b:Rd} (oa:Ok0 a) (ob:Ok0 b) (va:vd a=true) (vb:vd b=true):R F.r02_Product [aF a,aF b] []=some (aF (cB (a.neg != b.neg) (ac a.m*ac b.m) (a.e+b.e)),[]):=by
 refine aX agi agh (afC false) rfl ?_
 obtain ⟨a1,a2,a3,a4⟩:=j8 va oa.lb
 obtain ⟨b1,b2,b3,b4⟩:=j8 vb ob.lb
 have t1:=ah9 oa.lb ob.lb (by omega) (by omega)
 have hp:=G5 (ac a.m) (ac b.m)
 have w1:IntKind.i64.wrap (a.e+b.e)=a.e+b.e:=i64_in _ ⟨by omega,by omega⟩
 have o1:=aia (neg:=a.neg != b.neg) (m:=av (ac a.m*ac b.m)) (e:=a.e+b.e) (cd _) (Nat.le_trans (bF (k:=256) (by omega)) (by decide)) ⟨by omega,by omega⟩
 rw [bI] at o1
 generalize cB (a.neg != b.neg) (ac a.m*ac b.m) (a.e+b.e)=r at o1 ⊢
 simp only [aF,aW] at o1
 simp only [aeL,afh,aF,aW,go_sem,↓reduceIte,ad7,ad9,ad8,aea,aec,aeb,t1,w1,LL,o1]
end Go.Ab
namespace Go.Ab
open Go Go.IntWalk
set_option maxRecDepth 4000
set_option maxHeartbeats 1000000
end Go.Ab
namespace Go.Ab
open Go Go.IntWalk
set_option maxRecDepth 4000
set_option maxHeartbeats 1000000
theorem alj {x y:Int} {k:Nat} (hx:aq x.natAbs≤k) (hy:aq y.natAbs≤k):aq (x+y).natAbs≤k+1:=by
 have:=G7 hx hy
 refine Nat.le_trans ?_ this
 have h2:(x+y).natAbs≤x.natAbs+y.natAbs:=Int.natAbs_add_le _ _
 exact dm.2 (Nat.lt_of_le_of_lt h2 (dm.1 (Nat.le_refl _)))
theorem alY {d:Rd} (ok:Ok0 d) (h:vd d=true):aq (zI d).natAbs≤36864:=by
 obtain ⟨h1,h2,h3,h4⟩:=j8 h ok.lb
 have:(zI d).natAbs=mg d:=by
  unfold zI
  split <;> omega
 rw [this]
 by_cases h0:d.m.length=0
 ·rw [IM h0]
  decide
 ·have:=IL h ok.lb h0
  rw [pC h h0] at this
  omega
theorem LQ {a b:Rd} (oa:Ok0 a) (ob:Ok0 b) (va:vd a=true) (vb:vd b=true):cB (a.neg != b.neg) (ac a.m*ac b.m) (a.e+b.e)=gj (zI a*zI b) (-32768):=by
 obtain ⟨a1,a2,a3,a4⟩:=j8 va oa.lb
 obtain ⟨b1,b2,b3,b4⟩:=j8 vb ob.lb
 have hz:zI a*zI b=fR (a.neg != b.neg) (mg a*mg b):=by
  unfold zI fR
  cases a.neg <;> cases b.neg <;> simp [Int.mul_neg,Int.neg_mul]
 have hm:mg a*mg b=ac a.m*ac b.m*2 ^ ((a.e+16384).toNat+(b.e+16384).toNat):=by
  unfold mg
  rw [Nat.pow_add]
  ac_rfl
 rw [hz,← tM,hm,oK,show -32768+(((a.e+16384).toNat+(b.e+16384).toNat:Nat):Int)=a.e+b.e by omega]
end Go.Ab
namespace Go.Ab
open Go Go.IntWalk
set_option maxRecDepth 4000
set_option maxHeartbeats 2000000
end Go.Ab
namespace Go.Ab
open Go Go.IntWalk
set_option maxRecDepth 4000
set_option maxHeartbeats 1000000
end Go.Ab
namespace Go.Ab
open Go Go.IntWalk
set_option maxRecDepth 4000
set_option maxHeartbeats 1000000
theorem ke (x y:Int):(x < y∧dM x y=-1)∨(x=y∧dM x y=0)∨(y < x∧dM x y=1):=by
 unfold dM
 rcases Int.lt_trichotomy x y with h | h | h
 ·exact Or.inl ⟨h,if_pos h⟩
 ·exact Or.inr (Or.inl ⟨h,by rw [if_neg (by omega)]; exact if_neg (by omega)⟩)
 ·exact Or.inr (Or.inr ⟨h,by rw [if_neg (by omega)]; exact if_pos h⟩)
end Go.Ab
