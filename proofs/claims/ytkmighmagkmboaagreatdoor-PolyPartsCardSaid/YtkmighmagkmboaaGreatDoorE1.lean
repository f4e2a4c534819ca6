/-
  A law of polynomials holds at every input that the statement speaks of, under the conditions that its card names. Part E1.
-/
import Derived.KernelRfl
import Derived.IntWalk
import Derived.Test.YtkmighmagkmboaaGreatDoorD1
open Nat renaming reduceEqDiff → aez, reduceAdd → aeA, reduceMul → aeB, reduceLeDiff → aeC, reduceBEq → aeD, reduceLT → aeE
open Int renaming reduceEq → axg, reduceLT → aiy, reduceToNat → aiz
namespace Go.Ab
open Go
def au:Env:=⟨fun f=>Sb.lookup f,fun f=>Pd.lookup f,⟨fun f=>(mdL.lookup f).getD [],fun f=>(shL.lookup f).getD [],fun f=>keepL.contains f,false⟩⟩
def ab (b:Bool):Mode:={ au.md with nm:=b }
noncomputable def R:cT:=cR au
theorem Gc {f:FuncId} {fd:FD} {args:List AV} {hs:List Ob} {r:AV × List Ob} (b:Bool) (hE:au.E f=none) (hC:au.C f=some fd) (hk:au.md.keep f=b) (h1:args.length=fd.np) (h2:hs.length≤1000)
  (hz:ajf b fd.rs fd.res hs.length (az R (ab b) fd.body (pi args) (ae hs))=some r):R f args hs=some r:=by
 refine wL hE hC ?_
 unfold FW
 rw [if_pos ⟨h1,h2⟩]
 subst hk
 exact hz
@[go_sem] theorem adN (b:Bool):(ab b).nm=b:=_root_.id rfl
abbrev CLL (f:FuncId):Prop:=∀ (b:Bool) (h:aa) (d:Nat) (zas:List AV),aj R (ab b) h d zas (.fn f [] [])=(ah h [] zas).bind (aE R (ab b) d f)
theorem aje {f:FuncId} (hm:∀ b,(ab b).m f=[]):CLL f:=fun b _ d _=>ai d (hm b)
theorem ami:au.C F.l23_PolyParts=some ais:=by kernel_rfl
theorem amj:au.E F.l23_PolyParts=none:=by kernel_rfl
@[go_sem] theorem aso (b):(ab b).sh F.l23_PolyParts=[[.o 0 [],.o 5 [.o 2 [],.o 0 [],.o 2 [],.o 0 []]],[],[],[],[.o 0 [],.o 2 [],.o 0 []]]:=_root_.id (by kernel_rfl)
@[go_sem] theorem amk (b):(ab b).m F.l23_PolyParts=[]:=_root_.id (by kernel_rfl)
@[go_sem] theorem aqX:CLL F.l23_PolyParts:=aje amk
@[go_sem] theorem alx (b):(ab b).keep F.l23_PolyParts=false:=_root_.id (by kernel_rfl)
@[go_sem] theorem Sc (b):(ab b).sh F.l23_awake=[]:=_root_.id (by kernel_rfl)
@[go_sem] theorem Ih (b):(ab b).m F.l23_awake=[]:=_root_.id (by kernel_rfl)
@[go_sem] theorem P4:CLL F.l23_awake:=aje Ih
@[go_sem] theorem P5 (b):(ab b).keep F.l23_awake=false:=_root_.id (by kernel_rfl)
theorem Ii:au.C F.l23_great=some oB:=by kernel_rfl
theorem Ij:au.E F.l23_great=none:=by kernel_rfl
@[go_sem] theorem Sd (b):(ab b).sh F.l23_great=[[.o 3 [.o 0 [],.o 5 [.o 2 [],.o 0 [],.o 0 [],.o 0 []]]]]:=_root_.id (by kernel_rfl)
@[go_sem] theorem Ik (b):(ab b).m F.l23_great=[]:=_root_.id (by kernel_rfl)
@[go_sem] theorem P6:CLL F.l23_great:=aje Ik
@[go_sem] theorem B7 (b):(ab b).keep F.l23_great=false:=_root_.id (by kernel_rfl)
theorem agF:au.C F.l23_long=some aeV:=by kernel_rfl
theorem agG:au.E F.l23_long=none:=by kernel_rfl
@[go_sem] theorem ahQ (b):(ab b).sh F.l23_long=[[.o 4 [.o 0 [],.o 2 [],.o 0 []]]]:=_root_.id (by kernel_rfl)
@[go_sem] theorem agH (b):(ab b).m F.l23_long=[]:=_root_.id (by kernel_rfl)
@[go_sem] theorem ahz:CLL F.l23_long:=aje agH
@[go_sem] theorem afW (b):(ab b).keep F.l23_long=false:=_root_.id (by kernel_rfl)
theorem Gg:au.C F.dyadic_Add=some ij:=by kernel_rfl
theorem Gh:au.E F.dyadic_Add=none:=by kernel_rfl
@[go_sem] theorem Rg (b):(ab b).sh F.dyadic_Add=[[.o 0 [],.o 2 [],.o 0 []],[.o 0 [],.o 2 [],.o 0 []]]:=_root_.id (by kernel_rfl)
@[go_sem] theorem Gi (b):(ab b).m F.dyadic_Add=[]:=_root_.id (by kernel_rfl)
@[go_sem] theorem Pi:CLL F.dyadic_Add:=aje Gi
@[go_sem] theorem A5 (b):(ab b).keep F.dyadic_Add=false:=_root_.id (by kernel_rfl)
theorem af6:au.C F.dyadic_Sub=some ad6:=by kernel_rfl
theorem af7:au.E F.dyadic_Sub=none:=by kernel_rfl
@[go_sem] theorem ahC (b):(ab b).sh F.dyadic_Sub=[[.o 0 [],.o 2 [],.o 0 []],[.o 0 [],.o 2 [],.o 0 []]]:=_root_.id (by kernel_rfl)
@[go_sem] theorem af8 (b):(ab b).m F.dyadic_Sub=[]:=_root_.id (by kernel_rfl)
@[go_sem] theorem ahc:CLL F.dyadic_Sub:=aje af8
@[go_sem] theorem afI (b):(ab b).keep F.dyadic_Sub=false:=_root_.id (by kernel_rfl)
theorem Gj:au.C F.dyadic_Mul=some dh:=by kernel_rfl
theorem Gk:au.E F.dyadic_Mul=none:=by kernel_rfl
@[go_sem] theorem Rh (b):(ab b).sh F.dyadic_Mul=[[.o 0 [],.o 2 [],.o 0 []],[.o 0 [],.o 2 [],.o 0 []]]:=_root_.id (by kernel_rfl)
@[go_sem] theorem Gl (b):(ab b).m F.dyadic_Mul=[]:=_root_.id (by kernel_rfl)
@[go_sem] theorem Pj:CLL F.dyadic_Mul:=aje Gl
@[go_sem] theorem A6 (b):(ab b).keep F.dyadic_Mul=false:=_root_.id (by kernel_rfl)
theorem an0:au.C F.poly_Split=some aji:=by kernel_rfl
theorem an1:au.E F.poly_Split=none:=by kernel_rfl
@[go_sem] theorem atX (b):(ab b).sh F.poly_Split=[[.o 0 [],.o 5 [.o 2 [],.o 0 [],.o 2 [],.o 0 []]],[]]:=_root_.id (by kernel_rfl)
@[go_sem] theorem an2 (b):(ab b).m F.poly_Split=[]:=_root_.id (by kernel_rfl)
@[go_sem] theorem as4:CLL F.poly_Split:=aje an2
@[go_sem] theorem aml (b):(ab b).keep F.poly_Split=false:=_root_.id (by kernel_rfl)
theorem aoO:au.C F.r23_Split=some ajv:=by kernel_rfl
theorem aoP:au.E F.r23_Split=none:=by kernel_rfl
@[go_sem] theorem auh (b):(ab b).sh F.r23_Split=[[.o 0 [],.o 5 [.o 2 [],.o 0 [],.o 2 [],.o 0 []]],[]]:=_root_.id (by kernel_rfl)
@[go_sem] theorem aoQ (b):(ab b).m F.r23_Split=[]:=_root_.id (by kernel_rfl)
@[go_sem] theorem atb:CLL F.r23_Split:=aje aoQ
@[go_sem] theorem amx (b):(ab b).keep F.r23_Split=false:=_root_.id (by kernel_rfl)
theorem apQ:au.C F.r23_Same=some ajn:=by kernel_rfl
theorem apR:au.E F.r23_Same=none:=by kernel_rfl
@[go_sem] theorem avE (b):(ab b).sh F.r23_Same=[[.o 0 [],.o 5 [.o 2 [],.o 0 [],.o 2 [],.o 0 []]],[.o 0 [],.o 5 [.o 2 [],.o 0 [],.o 2 [],.o 0 []]]]:=_root_.id (by kernel_rfl)
@[go_sem] theorem apS (b):(ab b).m F.r23_Same=[]:=_root_.id (by kernel_rfl)
@[go_sem] theorem atY:CLL F.r23_Same:=aje apS
@[go_sem] theorem ank (b):(ab b).keep F.r23_Same=false:=_root_.id (by kernel_rfl)
theorem an3:au.C F.poly_Round=some aiJ:=by kernel_rfl
theorem an4:au.E F.poly_Round=none:=by kernel_rfl
@[go_sem] theorem atZ (b):(ab b).sh F.poly_Round=[[.o 0 [],.o 5 [.o 2 [],.o 0 [],.o 2 [],.o 0 []]],[]]:=_root_.id (by kernel_rfl)
@[go_sem] theorem an5 (b):(ab b).m F.poly_Round=[]:=_root_.id (by kernel_rfl)
@[go_sem] theorem as5:CLL F.poly_Round:=aje an5
@[go_sem] theorem amm (b):(ab b).keep F.poly_Round=false:=_root_.id (by kernel_rfl)
theorem aoR:au.C F.r23_Round=some aiT:=by kernel_rfl
theorem aoS:au.E F.r23_Round=none:=by kernel_rfl
@[go_sem] theorem aui (b):(ab b).sh F.r23_Round=[[.o 0 [],.o 5 [.o 2 [],.o 0 [],.o 2 [],.o 0 []]],[]]:=_root_.id (by kernel_rfl)
@[go_sem] theorem aoT (b):(ab b).m F.r23_Round=[]:=_root_.id (by kernel_rfl)
@[go_sem] theorem atc:CLL F.r23_Round:=aje aoT
@[go_sem] theorem amy (b):(ab b).keep F.r23_Round=false:=_root_.id (by kernel_rfl)
theorem asp:au.C F.l23_is=some akt:=by kernel_rfl
theorem asq:au.E F.l23_is=none:=by kernel_rfl
@[go_sem] theorem awA (b):(ab b).sh F.l23_is=[[.o 0 [],.o 5 [.o 2 [],.o 0 [],.o 2 [],.o 0 []]],[],[.o 0 [],.o 5 [.o 2 [],.o 0 [],.o 2 [],.o 0 []]],[]]:=_root_.id (by kernel_rfl)
@[go_sem] theorem asr (b):(ab b).m F.l23_is=[]:=_root_.id (by kernel_rfl)
@[go_sem] theorem avF:CLL F.l23_is:=aje asr
@[go_sem] theorem aoU (b):(ab b).keep F.l23_is=false:=_root_.id (by kernel_rfl)
theorem apT:au.C F.poly_Fix=some aiP:=by kernel_rfl
theorem apU:au.E F.poly_Fix=none:=by kernel_rfl
@[go_sem] theorem avG (b):(ab b).sh F.poly_Fix=[[.o 0 [],.o 5 [.o 2 [],.o 0 [],.o 2 [],.o 0 []]],[],[.o 0 [],.o 2 [],.o 0 []]]:=_root_.id (by kernel_rfl)
@[go_sem] theorem apV (b):(ab b).m F.poly_Fix=[]:=_root_.id (by kernel_rfl)
@[go_sem] theorem at0:CLL F.poly_Fix:=aje apV
@[go_sem] theorem anl (b):(ab b).keep F.poly_Fix=false:=_root_.id (by kernel_rfl)
theorem aqY:au.C F.r23_Fix=some ai1:=by kernel_rfl
theorem aqZ:au.E F.r23_Fix=none:=by kernel_rfl
@[go_sem] theorem avW (b):(ab b).sh F.r23_Fix=[[.o 0 [],.o 5 [.o 2 [],.o 0 [],.o 2 [],.o 0 []]],[],[.o 0 [],.o 2 [],.o 0 []]]:=_root_.id (by kernel_rfl)
@[go_sem] theorem aq0 (b):(ab b).m F.r23_Fix=[]:=_root_.id (by kernel_rfl)
@[go_sem] theorem auj:CLL F.r23_Fix:=aje aq0
@[go_sem] theorem an6 (b):(ab b).keep F.r23_Fix=false:=_root_.id (by kernel_rfl)
theorem Gm:au.C F.poly_Valid=some ez:=by kernel_rfl
theorem Gn:au.E F.poly_Valid=none:=by kernel_rfl
@[go_sem] theorem Rj (b):(ab b).sh F.poly_Valid=[[.o 0 [],.o 5 [.o 2 [],.o 0 [],.o 2 [],.o 0 []]]]:=_root_.id (by kernel_rfl)
@[go_sem] theorem Gp (b):(ab b).m F.poly_Valid=[]:=_root_.id (by kernel_rfl)
@[go_sem] theorem Pk:CLL F.poly_Valid:=aje Gp
@[go_sem] theorem A7 (b):(ab b).keep F.poly_Valid=false:=_root_.id (by kernel_rfl)
theorem j3:au.C F.slices_ContainsFunc_api_Poly_api_Poly_=some cw:=by kernel_rfl
theorem j5:au.E F.slices_ContainsFunc_api_Poly_api_Poly_=none:=by kernel_rfl
@[go_sem] theorem tX (b):(ab b).sh F.slices_ContainsFunc_api_Poly_api_Poly_=[[.o 3 [.o 0 [],.o 5 [.o 2 [],.o 0 [],.o 0 [],.o 0 []]]],[]]:=_root_.id (by kernel_rfl)
@[go_sem] theorem j6 (b):(ab b).m F.slices_ContainsFunc_api_Poly_api_Poly_=[]:=_root_.id (by kernel_rfl)
@[go_sem] theorem s7:CLL F.slices_ContainsFunc_api_Poly_api_Poly_:=aje j6
@[go_sem] theorem iY (b):(ab b).keep F.slices_ContainsFunc_api_Poly_api_Poly_=false:=_root_.id (by kernel_rfl)
theorem DN:au.C F.l23_great_1=some gC:=by kernel_rfl
theorem DO:au.E F.l23_great_1=none:=by kernel_rfl
@[go_sem] theorem P9 (b):(ab b).sh F.l23_great_1=[[.o 0 [],.o 5 [.o 2 [],.o 0 [],.o 2 [],.o 0 []]]]:=_root_.id (by kernel_rfl)
@[go_sem] theorem vI (b):(ab b).m F.l23_great_1=[]:=_root_.id (by kernel_rfl)
@[go_sem] theorem NP:CLL F.l23_great_1:=aje vI
@[go_sem] theorem yX (b):(ab b).keep F.l23_great_1=false:=_root_.id (by kernel_rfl)
theorem j7:au.C F.slices_ContainsFunc_api_Term_api_Term_=some cx:=by kernel_rfl
theorem j8:au.E F.slices_ContainsFunc_api_Term_api_Term_=none:=by kernel_rfl
@[go_sem] theorem tY (b):(ab b).sh F.slices_ContainsFunc_api_Term_api_Term_=[[.o 5 [.o 2 [],.o 0 [],.o 2 [],.o 0 []]],[]]:=_root_.id (by kernel_rfl)
@[go_sem] theorem ke (b):(ab b).m F.slices_ContainsFunc_api_Term_api_Term_=[]:=_root_.id (by kernel_rfl)
@[go_sem] theorem s9:CLL F.slices_ContainsFunc_api_Term_api_Term_:=aje ke
@[go_sem] theorem iZ (b):(ab b).keep F.slices_ContainsFunc_api_Term_api_Term_=false:=_root_.id (by kernel_rfl)
theorem A8:au.C F.l23_great_1_1=some gP:=by kernel_rfl
theorem A9:au.E F.l23_great_1_1=none:=by kernel_rfl
@[go_sem] theorem NQ (b):(ab b).sh F.l23_great_1_1=[[.o 2 [],.o 0 [],.o 2 [],.o 0 []]]:=_root_.id (by kernel_rfl)
@[go_sem] theorem sv (b):(ab b).m F.l23_great_1_1=[]:=_root_.id (by kernel_rfl)
@[go_sem] theorem LR:CLL F.l23_great_1_1:=aje sv
@[go_sem] theorem wW (b):(ab b).keep F.l23_great_1_1=false:=_root_.id (by kernel_rfl)
theorem aoV:au.C F.r23_Valid=some aiC:=by kernel_rfl
theorem aoW:au.E F.r23_Valid=none:=by kernel_rfl
@[go_sem] theorem auk (b):(ab b).sh F.r23_Valid=[[.o 0 [],.o 5 [.o 2 [],.o 0 [],.o 2 [],.o 0 []]]]:=_root_.id (by kernel_rfl)
@[go_sem] theorem aoX (b):(ab b).m F.r23_Valid=[]:=_root_.id (by kernel_rfl)
@[go_sem] theorem atd:CLL F.r23_Valid:=aje aoX
@[go_sem] theorem amz (b):(ab b).keep F.r23_Valid=false:=_root_.id (by kernel_rfl)
theorem Gq:au.C F.poly_empty=some mZ:=by kernel_rfl
theorem Gr:au.E F.poly_empty=none:=by kernel_rfl
@[go_sem] theorem Rk (b):(ab b).sh F.poly_empty=[]:=_root_.id (by kernel_rfl)
@[go_sem] theorem Gs (b):(ab b).m F.poly_empty=[]:=_root_.id (by kernel_rfl)
@[go_sem] theorem Pm:CLL F.poly_empty:=aje Gs
@[go_sem] theorem Ba (b):(ab b).keep F.poly_empty=false:=_root_.id (by kernel_rfl)
@[go_sem] theorem Gw (b):(ab b).sh F.slices_Clone_int_int_=[[.o 2 []]]:=_root_.id (by kernel_rfl)
@[go_sem] theorem rW (b):(ab b).m F.slices_Clone_int_int_=[]:=_root_.id (by kernel_rfl)
@[go_sem] theorem DP:CLL F.slices_Clone_int_int_:=aje rW
@[go_sem] theorem DQ (b):(ab b).keep F.slices_Clone_int_int_=false:=_root_.id (by kernel_rfl)
theorem gl:au.C F.poly_collector_add=some ck:=by kernel_rfl
theorem go:au.E F.poly_collector_add=none:=by kernel_rfl
@[go_sem] theorem tF (b):(ab b).sh F.poly_collector_add=[[],[.o 2 []],[.o 0 [],.o 2 [],.o 0 []]]:=_root_.id (by kernel_rfl)
@[go_sem] theorem ed (b):(ab b).m F.poly_collector_add=[]:=_root_.id (by kernel_rfl)
@[go_sem] theorem HR:CLL F.poly_collector_add:=aje ed
@[go_sem] theorem du (b):(ab b).keep F.poly_collector_add=false:=_root_.id (by kernel_rfl)
theorem jv:au.C F.poly_collector_done=some bY:=by kernel_rfl
theorem jw:au.E F.poly_collector_done=none:=by kernel_rfl
@[go_sem] theorem sO (b):(ab b).sh F.poly_collector_done=[]:=_root_.id (by kernel_rfl)
@[go_sem] theorem dR (b):(ab b).m F.poly_collector_done=[]:=_root_.id (by kernel_rfl)
@[go_sem] theorem Gx:CLL F.poly_collector_done:=aje dR
@[go_sem] theorem ef (b):(ab b).keep F.poly_collector_done=false:=_root_.id (by kernel_rfl)
theorem Gz:au.C F.dyadic_Cmp=some dH:=by kernel_rfl
theorem GA:au.E F.dyadic_Cmp=none:=by kernel_rfl
@[go_sem] theorem Rm (b):(ab b).sh F.dyadic_Cmp=[[.o 0 [],.o 2 [],.o 0 []],[.o 0 [],.o 2 [],.o 0 []]]:=_root_.id (by kernel_rfl)
@[go_sem] theorem GB (b):(ab b).m F.dyadic_Cmp=[]:=_root_.id (by kernel_rfl)
@[go_sem] theorem Pp:CLL F.dyadic_Cmp:=aje GB
@[go_sem] theorem Bc (b):(ab b).keep F.dyadic_Cmp=false:=_root_.id (by kernel_rfl)
theorem aeH:au.C F.slices_ContainsFunc_api_Dyadic_api_Dyadic_=some adK:=by kernel_rfl
theorem aeI:au.E F.slices_ContainsFunc_api_Dyadic_api_Dyadic_=none:=by kernel_rfl
@[go_sem] theorem afd (b):(ab b).sh F.slices_ContainsFunc_api_Dyadic_api_Dyadic_=[[.o 4 [.o 0 [],.o 2 [],.o 0 []]],[]]:=_root_.id (by kernel_rfl)
@[go_sem] theorem aeJ (b):(ab b).m F.slices_ContainsFunc_api_Dyadic_api_Dyadic_=[]:=_root_.id (by kernel_rfl)
@[go_sem] theorem afc:CLL F.slices_ContainsFunc_api_Dyadic_api_Dyadic_:=aje aeJ
@[go_sem] theorem ad4 (b):(ab b).keep F.slices_ContainsFunc_api_Dyadic_api_Dyadic_=false:=_root_.id (by kernel_rfl)
theorem agc:au.C F.l23_long_1=some aeY:=by kernel_rfl
theorem agd:au.E F.l23_long_1=none:=by kernel_rfl
@[go_sem] theorem afY (b):(ab b).sh F.l23_long_1=[[.o 0 [],.o 2 [],.o 0 []]]:=_root_.id (by kernel_rfl)
@[go_sem] theorem afv (b):(ab b).m F.l23_long_1=[]:=_root_.id (by kernel_rfl)
@[go_sem] theorem ahe:CLL F.l23_long_1:=aje afv
@[go_sem] theorem afK (b):(ab b).keep F.l23_long_1=false:=_root_.id (by kernel_rfl)
theorem Cc:au.C F.dyadic_Valid=some cL:=by kernel_rfl
theorem Cd:au.E F.dyadic_Valid=none:=by kernel_rfl
@[go_sem] theorem Pq (b):(ab b).sh F.dyadic_Valid=[[.o 0 [],.o 2 [],.o 0 []]]:=_root_.id (by kernel_rfl)
@[go_sem] theorem Ce (b):(ab b).m F.dyadic_Valid=[]:=_root_.id (by kernel_rfl)
@[go_sem] theorem MZ:CLL F.dyadic_Valid:=aje Ce
@[go_sem] theorem yd (b):(ab b).keep F.dyadic_Valid=false:=_root_.id (by kernel_rfl)
theorem age:au.C F.poly_times=some aeZ:=by kernel_rfl
theorem agf:au.E F.poly_times=none:=by kernel_rfl
@[go_sem] theorem ahE (b):(ab b).sh F.poly_times=[[.o 0 [],.o 2 [],.o 0 []],[.o 0 [],.o 2 [],.o 0 []],[]]:=_root_.id (by kernel_rfl)
@[go_sem] theorem agh (b):(ab b).m F.poly_times=[]:=_root_.id (by kernel_rfl)
@[go_sem] theorem ahf:CLL F.poly_times:=aje agh
@[go_sem] theorem afL (b):(ab b).keep F.poly_times=false:=_root_.id (by kernel_rfl)
theorem GC:au.C F.dyadic_sum=some dI:=by kernel_rfl
theorem GD:au.E F.dyadic_sum=none:=by kernel_rfl
@[go_sem] theorem Rn (b):(ab b).sh F.dyadic_sum=[[.o 0 [],.o 2 [],.o 0 []],[.o 0 [],.o 2 [],.o 0 []]]:=_root_.id (by kernel_rfl)
@[go_sem] theorem GE (b):(ab b).m F.dyadic_sum=[]:=_root_.id (by kernel_rfl)
@[go_sem] theorem Pr:CLL F.dyadic_sum:=aje GE
@[go_sem] theorem Bd (b):(ab b).keep F.dyadic_sum=false:=_root_.id (by kernel_rfl)
theorem agi:au.C F.dyadic_Neg=some vn:=by kernel_rfl
theorem agj:au.E F.dyadic_Neg=none:=by kernel_rfl
@[go_sem] theorem ahF (b):(ab b).sh F.dyadic_Neg=[[.o 0 [],.o 2 [],.o 0 []]]:=_root_.id (by kernel_rfl)
@[go_sem] theorem agk (b):(ab b).m F.dyadic_Neg=[]:=_root_.id (by kernel_rfl)
@[go_sem] theorem ahg:CLL F.dyadic_Neg:=aje agk
@[go_sem] theorem afN (b):(ab b).keep F.dyadic_Neg=false:=_root_.id (by kernel_rfl)
theorem DS:au.C F.dyadic_size=some l5:=by kernel_rfl
theorem DT:au.E F.dyadic_size=none:=by kernel_rfl
@[go_sem] theorem Qb (b):(ab b).sh F.dyadic_size=[[.o 2 []]]:=_root_.id (by kernel_rfl)
@[go_sem] theorem DU (b):(ab b).m F.dyadic_size=[]:=_root_.id (by kernel_rfl)
@[go_sem] theorem NR:CLL F.dyadic_size:=aje DU
@[go_sem] theorem yY (b):(ab b).keep F.dyadic_size=false:=_root_.id (by kernel_rfl)
theorem DV:au.C F.natural_Mul=some jo:=by kernel_rfl
theorem DW:au.E F.natural_Mul=none:=by kernel_rfl
@[go_sem] theorem Qc (b):(ab b).sh F.natural_Mul=[[.o 2 []],[.o 2 []]]:=_root_.id (by kernel_rfl)
@[go_sem] theorem DX (b):(ab b).m F.natural_Mul=[]:=_root_.id (by kernel_rfl)
@[go_sem] theorem NS:CLL F.natural_Mul:=aje DX
@[go_sem] theorem y5 (b):(ab b).keep F.natural_Mul=false:=_root_.id (by kernel_rfl)
theorem y6:au.C F.dyadic_checked=some fR:=by kernel_rfl
theorem y7:au.E F.dyadic_checked=none:=by kernel_rfl
@[go_sem] theorem M0 (b):(ab b).sh F.dyadic_checked=[[.o 0 [],.o 2 [],.o 0 []]]:=_root_.id (by kernel_rfl)
@[go_sem] theorem y8 (b):(ab b).m F.dyadic_checked=[]:=_root_.id (by kernel_rfl)
@[go_sem] theorem K0:CLL F.dyadic_checked:=aje y8
@[go_sem] theorem vP (b):(ab b).keep F.dyadic_checked=false:=_root_.id (by kernel_rfl)
theorem wX:au.C F.dyadic_canonical=some eK:=by kernel_rfl
theorem wY:au.E F.dyadic_canonical=none:=by kernel_rfl
@[go_sem] theorem K1 (b):(ab b).sh F.dyadic_canonical=[[],[.o 2 []],[]]:=_root_.id (by kernel_rfl)
@[go_sem] theorem wZ (b):(ab b).m F.dyadic_canonical=[]:=_root_.id (by kernel_rfl)
@[go_sem] theorem IL:CLL F.dyadic_canonical:=aje wZ
@[go_sem] theorem tG (b):(ab b).keep F.dyadic_canonical=false:=_root_.id (by kernel_rfl)
theorem DY:au.C F.poly_degree=some l6:=by kernel_rfl
theorem DZ:au.E F.poly_degree=none:=by kernel_rfl
@[go_sem] theorem Qd (b):(ab b).sh F.poly_degree=[[.o 2 []]]:=_root_.id (by kernel_rfl)
@[go_sem] theorem D0 (b):(ab b).m F.poly_degree=[]:=_root_.id (by kernel_rfl)
@[go_sem] theorem NT:CLL F.poly_degree:=aje D0
@[go_sem] theorem y9 (b):(ab b).keep F.poly_degree=false:=_root_.id (by kernel_rfl)
theorem aq1:au.C F.r23_sum=some akC:=by kernel_rfl
theorem aq2:au.E F.r23_sum=none:=by kernel_rfl
@[go_sem] theorem avX (b):(ab b).sh F.r23_sum=[[.o 2 []]]:=_root_.id (by kernel_rfl)
@[go_sem] theorem aq3 (b):(ab b).m F.r23_sum=[]:=_root_.id (by kernel_rfl)
@[go_sem] theorem aul:CLL F.r23_sum:=aje aq3
@[go_sem] theorem an7 (b):(ab b).keep F.r23_sum=false:=_root_.id (by kernel_rfl)
theorem anm:au.C F.r23_Compare=some aiv:=by kernel_rfl
theorem ann:au.E F.r23_Compare=none:=by kernel_rfl
@[go_sem] theorem ate (b):(ab b).sh F.r23_Compare=[[.o 2 []],[.o 2 []]]:=_root_.id (by kernel_rfl)
@[go_sem] theorem ano (b):(ab b).m F.r23_Compare=[]:=_root_.id (by kernel_rfl)
@[go_sem] theorem ass:CLL F.r23_Compare:=aje ano
@[go_sem] theorem alW (b):(ab b).keep F.r23_Compare=false:=_root_.id (by kernel_rfl)
theorem an8:au.C F.r23_number=some aiL:=by kernel_rfl
theorem an9:au.E F.r23_number=none:=by kernel_rfl
@[go_sem] theorem at1 (b):(ab b).sh F.r23_number=[[.o 0 [],.o 2 [],.o 0 []],[.o 0 [],.o 2 [],.o 0 []]]:=_root_.id (by kernel_rfl)
@[go_sem] theorem aoa (b):(ab b).m F.r23_number=[]:=_root_.id (by kernel_rfl)
@[go_sem] theorem as6:CLL F.r23_number:=aje aoa
@[go_sem] theorem amn (b):(ab b).keep F.r23_number=false:=_root_.id (by kernel_rfl)
theorem aob:au.C F.round_Near=some ah9:=by kernel_rfl
theorem aoc:au.E F.round_Near=none:=by kernel_rfl
@[go_sem] theorem at2 (b):(ab b).sh F.round_Near=[[.o 0 [],.o 2 [],.o 0 []],[]]:=_root_.id (by kernel_rfl)
@[go_sem] theorem aod (b):(ab b).m F.round_Near=[]:=_root_.id (by kernel_rfl)
@[go_sem] theorem as7:CLL F.round_Near:=aje aod
@[go_sem] theorem amo (b):(ab b).keep F.round_Near=false:=_root_.id (by kernel_rfl)
theorem apW:au.C F.r03_Near=some aif:=by kernel_rfl
theorem apX:au.E F.r03_Near=none:=by kernel_rfl
@[go_sem] theorem avH (b):(ab b).sh F.r03_Near=[[.o 0 [],.o 2 [],.o 0 []],[]]:=_root_.id (by kernel_rfl)
@[go_sem] theorem apY (b):(ab b).m F.r03_Near=[]:=_root_.id (by kernel_rfl)
@[go_sem] theorem at3:CLL F.r03_Near:=aje apY
@[go_sem] theorem anp (b):(ab b).keep F.r03_Near=false:=_root_.id (by kernel_rfl)
theorem aq4:au.C F.r02_Add=some ajF:=by kernel_rfl
theorem aq5:au.E F.r02_Add=none:=by kernel_rfl
@[go_sem] theorem avY (b):(ab b).sh F.r02_Add=[[.o 0 [],.o 2 [],.o 0 []],[.o 0 [],.o 2 [],.o 0 []]]:=_root_.id (by kernel_rfl)
@[go_sem] theorem aq6 (b):(ab b).m F.r02_Add=[]:=_root_.id (by kernel_rfl)
@[go_sem] theorem aum:CLL F.r02_Add:=aje aq6
@[go_sem] theorem aoe (b):(ab b).keep F.r02_Add=false:=_root_.id (by kernel_rfl)
theorem aq7:au.C F.r02_Neg=some aj7:=by kernel_rfl
theorem aq8:au.E F.r02_Neg=none:=by kernel_rfl
@[go_sem] theorem avZ (b):(ab b).sh F.r02_Neg=[[.o 0 [],.o 2 [],.o 0 []]]:=_root_.id (by kernel_rfl)
@[go_sem] theorem aq9 (b):(ab b).m F.r02_Neg=[]:=_root_.id (by kernel_rfl)
@[go_sem] theorem aun:CLL F.r02_Neg:=aje aq9
@[go_sem] theorem aof (b):(ab b).keep F.r02_Neg=false:=_root_.id (by kernel_rfl)
theorem apZ:au.C F.l23_zero=some ajp:=by kernel_rfl
theorem ap0:au.E F.l23_zero=none:=by kernel_rfl
@[go_sem] theorem avI (b):(ab b).sh F.l23_zero=[[.o 0 [],.o 5 [.o 2 [],.o 0 [],.o 2 [],.o 0 []]]]:=_root_.id (by kernel_rfl)
@[go_sem] theorem ap1 (b):(ab b).m F.l23_zero=[]:=_root_.id (by kernel_rfl)
@[go_sem] theorem at4:CLL F.l23_zero:=aje ap1
@[go_sem] theorem anq (b):(ab b).keep F.l23_zero=false:=_root_.id (by kernel_rfl)
theorem aoY:au.C F.r02_Valid=some aia:=by kernel_rfl
theorem aoZ:au.E F.r02_Valid=none:=by kernel_rfl
@[go_sem] theorem auo (b):(ab b).sh F.r02_Valid=[[.o 0 [],.o 2 [],.o 0 []]]:=_root_.id (by kernel_rfl)
@[go_sem] theorem ao0 (b):(ab b).m F.r02_Valid=[]:=_root_.id (by kernel_rfl)
@[go_sem] theorem atf:CLL F.r02_Valid:=aje ao0
@[go_sem] theorem amA (b):(ab b).keep F.r02_Valid=false:=_root_.id (by kernel_rfl)
theorem ao1:au.C F.r23_times=some aj8:=by kernel_rfl
theorem ao2:au.E F.r23_times=none:=by kernel_rfl
@[go_sem] theorem aup (b):(ab b).sh F.r23_times=[[.o 0 [],.o 2 [],.o 0 []],[.o 0 [],.o 2 [],.o 0 []],[]]:=_root_.id (by kernel_rfl)
@[go_sem] theorem ao3 (b):(ab b).m F.r23_times=[]:=_root_.id (by kernel_rfl)
@[go_sem] theorem atg:CLL F.r23_times:=aje ao3
@[go_sem] theorem amB (b):(ab b).keep F.r23_times=false:=_root_.id (by kernel_rfl)
theorem anr:au.C F.r23_Collect=some ajG:=by kernel_rfl
theorem ans:au.E F.r23_Collect=none:=by kernel_rfl
@[go_sem] theorem ath (b):(ab b).sh F.r23_Collect=[[.o 5 [.o 2 [],.o 0 [],.o 2 [],.o 0 []]],[.o 2 [],.o 0 [],.o 2 [],.o 0 []]]:=_root_.id (by kernel_rfl)
@[go_sem] theorem ant (b):(ab b).m F.r23_Collect=[]:=_root_.id (by kernel_rfl)
@[go_sem] theorem ast:CLL F.r23_Collect:=aje ant
@[go_sem] theorem alX (b):(ab b).keep F.r23_Collect=false:=_root_.id (by kernel_rfl)
theorem oL:au.C F.slices_ContainsFunc_int_int_=some dT:=by kernel_rfl
theorem oM:au.E F.slices_ContainsFunc_int_int_=none:=by kernel_rfl
@[go_sem] theorem An (b):(ab b).sh F.slices_ContainsFunc_int_int_=[[.o 2 []],[]]:=_root_.id (by kernel_rfl)
@[go_sem] theorem oN (b):(ab b).m F.slices_ContainsFunc_int_int_=[]:=_root_.id (by kernel_rfl)
@[go_sem] theorem yJ:CLL F.slices_ContainsFunc_int_int_:=aje oN
@[go_sem] theorem mR (b):(ab b).keep F.slices_ContainsFunc_int_int_=false:=_root_.id (by kernel_rfl)
theorem Cf:au.C F.poly_Valid_1=some iy:=by kernel_rfl
theorem Cg:au.E F.poly_Valid_1=none:=by kernel_rfl
@[go_sem] theorem Ps (b):(ab b).sh F.poly_Valid_1=[]:=_root_.id (by kernel_rfl)
@[go_sem] theorem tH (b):(ab b).m F.poly_Valid_1=[]:=_root_.id (by kernel_rfl)
@[go_sem] theorem M1:CLL F.poly_Valid_1:=aje tH
@[go_sem] theorem ye (b):(ab b).keep F.poly_Valid_1=false:=_root_.id (by kernel_rfl)
theorem GF:au.C F.poly_order=some kC:=by kernel_rfl
theorem GG:au.E F.poly_order=none:=by kernel_rfl
@[go_sem] theorem Ro (b):(ab b).sh F.poly_order=[[.o 2 []],[.o 2 []]]:=_root_.id (by kernel_rfl)
@[go_sem] theorem GH (b):(ab b).m F.poly_order=[]:=_root_.id (by kernel_rfl)
@[go_sem] theorem Pt:CLL F.poly_order:=aje GH
@[go_sem] theorem Be (b):(ab b).keep F.poly_order=false:=_root_.id (by kernel_rfl)
theorem lr:au.C F.slices_IndexFunc_api_Poly_api_Poly_=some cJ:=by kernel_rfl
theorem ls:au.E F.slices_IndexFunc_api_Poly_api_Poly_=none:=by kernel_rfl
@[go_sem] theorem kO (b):(ab b).sh F.slices_IndexFunc_api_Poly_api_Poly_=[[.o 3 [.o 0 [],.o 5 [.o 2 [],.o 0 [],.o 0 [],.o 0 []]]],[]]:=_root_.id (by kernel_rfl)
@[go_sem] theorem fj (b):(ab b).m F.slices_IndexFunc_api_Poly_api_Poly_=[]:=_root_.id (by kernel_rfl)
@[go_sem] theorem uN:CLL F.slices_IndexFunc_api_Poly_api_Poly_:=aje fj
@[go_sem] theorem kf (b):(ab b).keep F.slices_IndexFunc_api_Poly_api_Poly_=false:=_root_.id (by kernel_rfl)
theorem lu:au.C F.slices_IndexFunc_api_Term_api_Term_=some cK:=by kernel_rfl
theorem lv:au.E F.slices_IndexFunc_api_Term_api_Term_=none:=by kernel_rfl
@[go_sem] theorem kP (b):(ab b).sh F.slices_IndexFunc_api_Term_api_Term_=[[.o 5 [.o 2 [],.o 0 [],.o 2 [],.o 0 []]],[]]:=_root_.id (by kernel_rfl)
@[go_sem] theorem fk (b):(ab b).m F.slices_IndexFunc_api_Term_api_Term_=[]:=_root_.id (by kernel_rfl)
@[go_sem] theorem uO:CLL F.slices_IndexFunc_api_Term_api_Term_:=aje fk
@[go_sem] theorem kg (b):(ab b).keep F.slices_IndexFunc_api_Term_api_Term_=false:=_root_.id (by kernel_rfl)
theorem ap2:au.C F.r23_term=some aiQ:=by kernel_rfl
theorem ap3:au.E F.r23_term=none:=by kernel_rfl
@[go_sem] theorem avJ (b):(ab b).sh F.r23_term=[[],[.o 2 [],.o 0 [],.o 2 [],.o 0 []]]:=_root_.id (by kernel_rfl)
@[go_sem] theorem ap4 (b):(ab b).m F.r23_term=[]:=_root_.id (by kernel_rfl)
@[go_sem] theorem at5:CLL F.r23_term:=aje ap4
@[go_sem] theorem anu (b):(ab b).keep F.r23_term=false:=_root_.id (by kernel_rfl)
theorem gG:au.C F.slices_BinarySearchFunc_api_Term_api_Term_Sint_=some bg:=by kernel_rfl
theorem gH:au.E F.slices_BinarySearchFunc_api_Term_api_Term_Sint_=none:=by kernel_rfl
@[go_sem] theorem cN (b):(ab b).sh F.slices_BinarySearchFunc_api_Term_api_Term_Sint_=[[.o 5 [.o 2 [],.o 0 [],.o 2 [],.o 0 []]],[.o 2 []],[]]:=_root_.id (by kernel_rfl)
@[go_sem] theorem cW (b):(ab b).m F.slices_BinarySearchFunc_api_Term_api_Term_Sint_=[3,0,0]:=_root_.id (by kernel_rfl)
@[go_sem] theorem cG (b):(ab b).keep F.slices_BinarySearchFunc_api_Term_api_Term_Sint_=false:=_root_.id (by kernel_rfl)
theorem sP:au.C F.poly_collector_add_1=some eH:=by kernel_rfl
theorem sQ:au.E F.poly_collector_add_1=none:=by kernel_rfl
@[go_sem] theorem HS (b):(ab b).sh F.poly_collector_add_1=[[.o 2 [],.o 0 [],.o 2 [],.o 0 []],[.o 2 []]]:=_root_.id (by kernel_rfl)
@[go_sem] theorem sR (b):(ab b).m F.poly_collector_add_1=[]:=_root_.id (by kernel_rfl)
@[go_sem] theorem ES:CLL F.poly_collector_add_1:=aje sR
@[go_sem] theorem qO (b):(ab b).keep F.poly_collector_add_1=false:=_root_.id (by kernel_rfl)
@[go_sem] theorem fF (b):(ab b).sh F.slices_Insert_api_Term_api_Term_=[[],[],[.o 5 [.o 2 [],.o 0 [],.o 2 [],.o 0 []]]]:=_root_.id (by kernel_rfl)
@[go_sem] theorem fV (b):(ab b).m F.slices_Insert_api_Term_api_Term_=[2,0,0]:=_root_.id (by kernel_rfl)
@[go_sem] theorem fl (b):(ab b).keep F.slices_Insert_api_Term_api_Term_=false:=_root_.id (by kernel_rfl)
theorem D3:au.C F.poly_copied=some l7:=by kernel_rfl
theorem D4:au.E F.poly_copied=none:=by kernel_rfl
@[go_sem] theorem Qe (b):(ab b).sh F.poly_copied=[[.o 0 [],.o 2 [],.o 0 []]]:=_root_.id (by kernel_rfl)
@[go_sem] theorem D5 (b):(ab b).m F.poly_copied=[]:=_root_.id (by kernel_rfl)
@[go_sem] theorem NU:CLL F.poly_copied:=aje D5
@[go_sem] theorem ze (b):(ab b).keep F.poly_copied=false:=_root_.id (by kernel_rfl)
theorem mG:au.C F.slices_Delete_api_Term_api_Term_=some cd:=by kernel_rfl
theorem mH:au.E F.slices_Delete_api_Term_api_Term_=none:=by kernel_rfl
@[go_sem] theorem mo (b):(ab b).sh F.slices_Delete_api_Term_api_Term_=[]:=_root_.id (by kernel_rfl)
@[go_sem] theorem mI (b):(ab b).m F.slices_Delete_api_Term_api_Term_=[2,0,0]:=_root_.id (by kernel_rfl)
@[go_sem] theorem fm (b):(ab b).keep F.slices_Delete_api_Term_api_Term_=false:=_root_.id (by kernel_rfl)
theorem D6:au.C F.dyadic_Sign=some eQ:=by kernel_rfl
theorem D7:au.E F.dyadic_Sign=none:=by kernel_rfl
@[go_sem] theorem Qf (b):(ab b).sh F.dyadic_Sign=[[.o 0 [],.o 2 [],.o 0 []]]:=_root_.id (by kernel_rfl)
@[go_sem] theorem D8 (b):(ab b).m F.dyadic_Sign=[]:=_root_.id (by kernel_rfl)
@[go_sem] theorem NV:CLL F.dyadic_Sign:=aje D8
@[go_sem] theorem zf (b):(ab b).keep F.dyadic_Sign=false:=_root_.id (by kernel_rfl)
theorem zg:au.C F.dyadic_compare=some ew:=by kernel_rfl
theorem zi:au.E F.dyadic_compare=none:=by kernel_rfl
@[go_sem] theorem M2 (b):(ab b).sh F.dyadic_compare=[[.o 0 [],.o 2 [],.o 0 []],[.o 0 [],.o 2 [],.o 0 []]]:=_root_.id (by kernel_rfl)
@[go_sem] theorem zj (b):(ab b).m F.dyadic_compare=[]:=_root_.id (by kernel_rfl)
@[go_sem] theorem K2:CLL F.dyadic_compare:=aje zj
@[go_sem] theorem vQ (b):(ab b).keep F.dyadic_compare=false:=_root_.id (by kernel_rfl)
theorem aeP:au.C F.slices_IndexFunc_api_Dyadic_api_Dyadic_=some adS:=by kernel_rfl
theorem aeQ:au.E F.slices_IndexFunc_api_Dyadic_api_Dyadic_=none:=by kernel_rfl
@[go_sem] theorem aeN (b):(ab b).sh F.slices_IndexFunc_api_Dyadic_api_Dyadic_=[[.o 4 [.o 0 [],.o 2 [],.o 0 []]],[]]:=_root_.id (by kernel_rfl)
@[go_sem] theorem adV (b):(ab b).m F.slices_IndexFunc_api_Dyadic_api_Dyadic_=[]:=_root_.id (by kernel_rfl)
@[go_sem] theorem afg:CLL F.slices_IndexFunc_api_Dyadic_api_Dyadic_:=aje adV
@[go_sem] theorem aeK (b):(ab b).keep F.slices_IndexFunc_api_Dyadic_api_Dyadic_=false:=_root_.id (by kernel_rfl)
theorem zk:au.C F.dyadic_inRange=some cI:=by kernel_rfl
theorem alY:au.E F.dyadic_inRange=none:=by kernel_rfl
@[go_sem] theorem M3 (b):(ab b).sh F.dyadic_inRange=[[.o 0 [],.o 2 [],.o 0 []]]:=_root_.id (by kernel_rfl)
@[go_sem] theorem zo (b):(ab b).m F.dyadic_inRange=[]:=_root_.id (by kernel_rfl)
@[go_sem] theorem K3:CLL F.dyadic_inRange:=aje zo
@[go_sem] theorem vR (b):(ab b).keep F.dyadic_inRange=false:=_root_.id (by kernel_rfl)
theorem GI:au.C F.dyadic_Top=some ik:=by kernel_rfl
theorem GJ:au.E F.dyadic_Top=none:=by kernel_rfl
@[go_sem] theorem Rq (b):(ab b).sh F.dyadic_Top=[[.o 0 [],.o 2 [],.o 0 []]]:=_root_.id (by kernel_rfl)
@[go_sem] theorem GK (b):(ab b).m F.dyadic_Top=[]:=_root_.id (by kernel_rfl)
@[go_sem] theorem Pu:CLL F.dyadic_Top:=aje GK
@[go_sem] theorem amp (b):(ab b).keep F.dyadic_Top=false:=_root_.id (by kernel_rfl)
theorem zp:au.C F.dyadic_shifted=some i8:=by kernel_rfl
theorem alZ:au.E F.dyadic_shifted=none:=by kernel_rfl
@[go_sem] theorem M4 (b):(ab b).sh F.dyadic_shifted=[[.o 2 []],[]]:=_root_.id (by kernel_rfl)
@[go_sem] theorem zt (b):(ab b).m F.dyadic_shifted=[]:=_root_.id (by kernel_rfl)
@[go_sem] theorem K4:CLL F.dyadic_shifted:=aje zt
@[go_sem] theorem vS (b):(ab b).keep F.dyadic_shifted=false:=_root_.id (by kernel_rfl)
theorem D9:au.C F.natural_Add=some jp:=by kernel_rfl
theorem Ea:au.E F.natural_Add=none:=by kernel_rfl
@[go_sem] theorem Qg (b):(ab b).sh F.natural_Add=[[.o 2 []],[.o 2 []]]:=_root_.id (by kernel_rfl)
@[go_sem] theorem Eb (b):(ab b).m F.natural_Add=[]:=_root_.id (by kernel_rfl)
@[go_sem] theorem NW:CLL F.natural_Add:=aje Eb
@[go_sem] theorem zu (b):(ab b).keep F.natural_Add=false:=_root_.id (by kernel_rfl)
theorem Ec:au.C F.natural_Cmp=some gD:=by kernel_rfl
theorem Ed:au.E F.natural_Cmp=none:=by kernel_rfl
@[go_sem] theorem Qh (b):(ab b).sh F.natural_Cmp=[[.o 2 []],[.o 2 []]]:=_root_.id (by kernel_rfl)
@[go_sem] theorem Ee (b):(ab b).m F.natural_Cmp=[]:=_root_.id (by kernel_rfl)
@[go_sem] theorem NX:CLL F.natural_Cmp:=aje Ee
@[go_sem] theorem zz (b):(ab b).keep F.natural_Cmp=false:=_root_.id (by kernel_rfl)
theorem Ef:au.C F.natural_Sub=some gE:=by kernel_rfl
theorem Eg:au.E F.natural_Sub=none:=by kernel_rfl
@[go_sem] theorem Qi (b):(ab b).sh F.natural_Sub=[[.o 2 []],[.o 2 []]]:=_root_.id (by kernel_rfl)
@[go_sem] theorem Eh (b):(ab b).m F.natural_Sub=[]:=_root_.id (by kernel_rfl)
@[go_sem] theorem NY:CLL F.natural_Sub:=aje Eh
@[go_sem] theorem zA (b):(ab b).keep F.natural_Sub=false:=_root_.id (by kernel_rfl)
theorem o5:au.C F.slices_Clone_uint32_uint32_=some cM:=by kernel_rfl
theorem o6:au.E F.slices_Clone_uint32_uint32_=none:=by kernel_rfl
@[go_sem] theorem Bg (b):(ab b).sh F.slices_Clone_uint32_uint32_=[[.o 2 []]]:=_root_.id (by kernel_rfl)
@[go_sem] theorem o7 (b):(ab b).m F.slices_Clone_uint32_uint32_=[]:=_root_.id (by kernel_rfl)
@[go_sem] theorem zB:CLL F.slices_Clone_uint32_uint32_:=aje o7
@[go_sem] theorem nw (b):(ab b).keep F.slices_Clone_uint32_uint32_=false:=_root_.id (by kernel_rfl)
theorem Ch:au.C F.natural_Bits=some iC:=by kernel_rfl
theorem Ci:au.E F.natural_Bits=none:=by kernel_rfl
@[go_sem] theorem Pw (b):(ab b).sh F.natural_Bits=[[.o 2 []]]:=_root_.id (by kernel_rfl)
@[go_sem] theorem Cj (b):(ab b).m F.natural_Bits=[]:=_root_.id (by kernel_rfl)
@[go_sem] theorem M5:CLL F.natural_Bits:=aje Cj
@[go_sem] theorem yf (b):(ab b).keep F.natural_Bits=false:=_root_.id (by kernel_rfl)
theorem Ck:au.C F.natural_long=some kZ:=by kernel_rfl
theorem Cm:au.E F.natural_long=none:=by kernel_rfl
@[go_sem] theorem Px (b):(ab b).sh F.natural_long=[[.o 2 [.o 2 []]]]:=_root_.id (by kernel_rfl)
@[go_sem] theorem Cn (b):(ab b).m F.natural_long=[]:=_root_.id (by kernel_rfl)
@[go_sem] theorem M6:CLL F.natural_long:=aje Cn
@[go_sem] theorem yg (b):(ab b).keep F.natural_long=false:=_root_.id (by kernel_rfl)
theorem Co:au.C F.natural_done=some iD:=by kernel_rfl
theorem Cp:au.E F.natural_done=none:=by kernel_rfl
@[go_sem] theorem Py (b):(ab b).sh F.natural_done=[[.o 2 []]]:=_root_.id (by kernel_rfl)
@[go_sem] theorem Cq (b):(ab b).m F.natural_done=[]:=_root_.id (by kernel_rfl)
@[go_sem] theorem M7:CLL F.natural_done:=aje Cq
@[go_sem] theorem yh (b):(ab b).keep F.natural_done=false:=_root_.id (by kernel_rfl)
theorem Ei:au.C F.natural_mul=some l8:=by kernel_rfl
theorem Ej:au.E F.natural_mul=none:=by kernel_rfl
@[go_sem] theorem Qj (b):(ab b).sh F.natural_mul=[[.o 2 []],[.o 2 []]]:=_root_.id (by kernel_rfl)
@[go_sem] theorem Ek (b):(ab b).m F.natural_mul=[]:=_root_.id (by kernel_rfl)
@[go_sem] theorem NZ:CLL F.natural_mul:=aje Ek
@[go_sem] theorem zC (b):(ab b).keep F.natural_mul=false:=_root_.id (by kernel_rfl)
theorem Cr:au.C F.natural_trim=some lg:=by kernel_rfl
theorem Cs:au.E F.natural_trim=none:=by kernel_rfl
@[go_sem] theorem Pz (b):(ab b).sh F.natural_trim=[[.o 2 []]]:=_root_.id (by kernel_rfl)
@[go_sem] theorem Ct (b):(ab b).m F.natural_trim=[]:=_root_.id (by kernel_rfl)
@[go_sem] theorem M8:CLL F.natural_trim:=aje Ct
@[go_sem] theorem yi (b):(ab b).keep F.natural_trim=false:=_root_.id (by kernel_rfl)
theorem zD:au.C F.dyadic_trimmed=some i9:=by kernel_rfl
theorem zE:au.E F.dyadic_trimmed=none:=by kernel_rfl
@[go_sem] theorem M9 (b):(ab b).sh F.dyadic_trimmed=[[.o 2 []]]:=_root_.id (by kernel_rfl)
@[go_sem] theorem zF (b):(ab b).m F.dyadic_trimmed=[]:=_root_.id (by kernel_rfl)
@[go_sem] theorem K5:CLL F.dyadic_trimmed:=aje zF
@[go_sem] theorem vT (b):(ab b).keep F.dyadic_trimmed=false:=_root_.id (by kernel_rfl)
theorem GL:au.C F.dyadic_low=some m6:=by kernel_rfl
theorem GM:au.E F.dyadic_low=none:=by kernel_rfl
@[go_sem] theorem Rr (b):(ab b).sh F.dyadic_low=[[.o 2 []]]:=_root_.id (by kernel_rfl)
@[go_sem] theorem GN (b):(ab b).m F.dyadic_low=[]:=_root_.id (by kernel_rfl)
@[go_sem] theorem PA:CLL F.dyadic_low:=aje GN
@[go_sem] theorem Bh (b):(ab b).keep F.dyadic_low=false:=_root_.id (by kernel_rfl)
theorem El:au.C F.natural_Shr=some gF:=by kernel_rfl
theorem Em:au.E F.natural_Shr=none:=by kernel_rfl
@[go_sem] theorem Qk (b):(ab b).sh F.natural_Shr=[[.o 2 []],[]]:=_root_.id (by kernel_rfl)
@[go_sem] theorem En (b):(ab b).m F.natural_Shr=[]:=_root_.id (by kernel_rfl)
@[go_sem] theorem N0:CLL F.natural_Shr:=aje En
@[go_sem] theorem zG (b):(ab b).keep F.natural_Shr=false:=_root_.id (by kernel_rfl)
theorem pB:au.C F.slices_Clip_uint32_uint32_=some cY:=by kernel_rfl
theorem pC:au.E F.slices_Clip_uint32_uint32_=none:=by kernel_rfl
@[go_sem] theorem BG (b):(ab b).sh F.slices_Clip_uint32_uint32_=[[.o 2 []]]:=_root_.id (by kernel_rfl)
@[go_sem] theorem pD (b):(ab b).m F.slices_Clip_uint32_uint32_=[]:=_root_.id (by kernel_rfl)
@[go_sem] theorem Ao:CLL F.slices_Clip_uint32_uint32_:=aje pD
@[go_sem] theorem nY (b):(ab b).keep F.slices_Clip_uint32_uint32_=false:=_root_.id (by kernel_rfl)
theorem aog:au.C F.round_Down=some ajU:=by kernel_rfl
theorem aoh:au.E F.round_Down=none:=by kernel_rfl
@[go_sem] theorem at6 (b):(ab b).sh F.round_Down=[[.o 0 [],.o 2 [],.o 0 []],[]]:=_root_.id (by kernel_rfl)
@[go_sem] theorem aoi (b):(ab b).m F.round_Down=[]:=_root_.id (by kernel_rfl)
@[go_sem] theorem as8:CLL F.round_Down:=aje aoi
@[go_sem] theorem amq (b):(ab b).keep F.round_Down=false:=_root_.id (by kernel_rfl)
theorem ap5:au.C F.round_Up=some akn:=by kernel_rfl
theorem ap6:au.E F.round_Up=none:=by kernel_rfl
@[go_sem] theorem avK (b):(ab b).sh F.round_Up=[[.o 0 [],.o 2 [],.o 0 []],[]]:=_root_.id (by kernel_rfl)
@[go_sem] theorem ap7 (b):(ab b).m F.round_Up=[]:=_root_.id (by kernel_rfl)
@[go_sem] theorem at7:CLL F.round_Up:=aje ap7
@[go_sem] theorem anv (b):(ab b).keep F.round_Up=false:=_root_.id (by kernel_rfl)
theorem ao4:au.C F.r03_Round=some ajy:=by kernel_rfl
theorem ao5:au.E F.r03_Round=none:=by kernel_rfl
@[go_sem] theorem auq (b):(ab b).sh F.r03_Round=[[.o 0 [],.o 2 [],.o 0 []],[],[]]:=_root_.id (by kernel_rfl)
@[go_sem] theorem ao6 (b):(ab b).m F.r03_Round=[]:=_root_.id (by kernel_rfl)
@[go_sem] theorem ati:CLL F.r03_Round:=aje ao6
@[go_sem] theorem amC (b):(ab b).keep F.r03_Round=false:=_root_.id (by kernel_rfl)
theorem ara:au.C F.r02_Cmp=some aio:=by kernel_rfl
theorem arb:au.E F.r02_Cmp=none:=by kernel_rfl
@[go_sem] theorem av0 (b):(ab b).sh F.r02_Cmp=[[.o 0 [],.o 2 [],.o 0 []],[.o 0 [],.o 2 [],.o 0 []]]:=_root_.id (by kernel_rfl)
@[go_sem] theorem arc (b):(ab b).m F.r02_Cmp=[]:=_root_.id (by kernel_rfl)
@[go_sem] theorem aur:CLL F.r02_Cmp:=aje arc
@[go_sem] theorem aoj (b):(ab b).keep F.r02_Cmp=false:=_root_.id (by kernel_rfl)
theorem ard:au.C F.r02_Sum=some ai3:=by kernel_rfl
theorem are:au.E F.r02_Sum=none:=by kernel_rfl
@[go_sem] theorem av1 (b):(ab b).sh F.r02_Sum=[[.o 0 [],.o 2 [],.o 0 []],[.o 0 [],.o 2 [],.o 0 []]]:=_root_.id (by kernel_rfl)
@[go_sem] theorem arf (b):(ab b).m F.r02_Sum=[]:=_root_.id (by kernel_rfl)
@[go_sem] theorem aus:CLL F.r02_Sum:=aje arf
@[go_sem] theorem aok (b):(ab b).keep F.r02_Sum=false:=_root_.id (by kernel_rfl)
theorem anw:au.C F.r02_Checked=some ai7:=by kernel_rfl
theorem anx:au.E F.r02_Checked=none:=by kernel_rfl
@[go_sem] theorem atj (b):(ab b).sh F.r02_Checked=[[.o 0 [],.o 2 [],.o 0 []]]:=_root_.id (by kernel_rfl)
@[go_sem] theorem anz (b):(ab b).m F.r02_Checked=[]:=_root_.id (by kernel_rfl)
@[go_sem] theorem asu:CLL F.r02_Checked:=aje anz
@[go_sem] theorem al0 (b):(ab b).keep F.r02_Checked=false:=_root_.id (by kernel_rfl)
theorem ap8:au.C F.r02_bits=some ajQ:=by kernel_rfl
theorem ap9:au.E F.r02_bits=none:=by kernel_rfl
@[go_sem] theorem avL (b):(ab b).sh F.r02_bits=[[.o 2 []]]:=_root_.id (by kernel_rfl)
@[go_sem] theorem aqa (b):(ab b).m F.r02_bits=[]:=_root_.id (by kernel_rfl)
@[go_sem] theorem at8:CLL F.r02_bits:=aje aqa
@[go_sem] theorem anA (b):(ab b).keep F.r02_bits=false:=_root_.id (by kernel_rfl)
theorem arg:au.C F.r02_Mul=some ajI:=by kernel_rfl
theorem arh:au.E F.r02_Mul=none:=by kernel_rfl
@[go_sem] theorem av2 (b):(ab b).sh F.r02_Mul=[[.o 0 [],.o 2 [],.o 0 []],[.o 0 [],.o 2 [],.o 0 []]]:=_root_.id (by kernel_rfl)
@[go_sem] theorem ari (b):(ab b).m F.r02_Mul=[]:=_root_.id (by kernel_rfl)
@[go_sem] theorem aut:CLL F.r02_Mul:=aje ari
@[go_sem] theorem aol (b):(ab b).keep F.r02_Mul=false:=_root_.id (by kernel_rfl)
theorem qk:au.C F.slices_IndexFunc_int_int_=some eS:=by kernel_rfl
theorem ql:au.E F.slices_IndexFunc_int_int_=none:=by kernel_rfl
@[go_sem] theorem pE (b):(ab b).sh F.slices_IndexFunc_int_int_=[[.o 2 []],[]]:=_root_.id (by kernel_rfl)
@[go_sem] theorem jC (b):(ab b).m F.slices_IndexFunc_int_int_=[]:=_root_.id (by kernel_rfl)
@[go_sem] theorem Bi:CLL F.slices_IndexFunc_int_int_:=aje jC
@[go_sem] theorem oO (b):(ab b).keep F.slices_IndexFunc_int_int_=false:=_root_.id (by kernel_rfl)
theorem w7:au.C F.cmp_Compare_int_=some dz:=by kernel_rfl
theorem w9:au.E F.cmp_Compare_int_=none:=by kernel_rfl
@[go_sem] theorem K6 (b):(ab b).sh F.cmp_Compare_int_=[]:=_root_.id (by kernel_rfl)
@[go_sem] theorem xc (b):(ab b).m F.cmp_Compare_int_=[]:=_root_.id (by kernel_rfl)
@[go_sem] theorem IM:CLL F.cmp_Compare_int_:=aje xc
@[go_sem] theorem tI (b):(ab b).keep F.cmp_Compare_int_=false:=_root_.id (by kernel_rfl)
theorem qP:au.C F.slices_Compare_int_int_=some cE:=by kernel_rfl
theorem qQ:au.E F.slices_Compare_int_int_=none:=by kernel_rfl
@[go_sem] theorem Eo (b):(ab b).sh F.slices_Compare_int_int_=[[.o 2 []],[.o 2 []]]:=_root_.id (by kernel_rfl)
@[go_sem] theorem qR (b):(ab b).m F.slices_Compare_int_int_=[]:=_root_.id (by kernel_rfl)
@[go_sem] theorem Cu:CLL F.slices_Compare_int_int_:=aje qR
@[go_sem] theorem pF (b):(ab b).keep F.slices_Compare_int_int_=false:=_root_.id (by kernel_rfl)
theorem aqb:au.C F.r02_trim=some ako:=by kernel_rfl
theorem aqc:au.E F.r02_trim=none:=by kernel_rfl
@[go_sem] theorem avM (b):(ab b).sh F.r02_trim=[[.o 2 []]]:=_root_.id (by kernel_rfl)
@[go_sem] theorem aqd (b):(ab b).m F.r02_trim=[]:=_root_.id (by kernel_rfl)
@[go_sem] theorem at9:CLL F.r02_trim:=aje aqd
@[go_sem] theorem anB (b):(ab b).keep F.r02_trim=false:=_root_.id (by kernel_rfl)
theorem Ep:au.C F.natural_Shl=some eU:=by kernel_rfl
theorem Er:au.E F.natural_Shl=none:=by kernel_rfl
@[go_sem] theorem Ql (b):(ab b).sh F.natural_Shl=[[.o 2 []],[]]:=_root_.id (by kernel_rfl)
@[go_sem] theorem Es (b):(ab b).m F.natural_Shl=[]:=_root_.id (by kernel_rfl)
@[go_sem] theorem N1:CLL F.natural_Shl:=aje Es
@[go_sem] theorem zH (b):(ab b).keep F.natural_Shl=false:=_root_.id (by kernel_rfl)
theorem Et:au.C F.natural_add=some js:=by kernel_rfl
theorem Eu:au.E F.natural_add=none:=by kernel_rfl
@[go_sem] theorem Qm (b):(ab b).sh F.natural_add=[[.o 2 []],[.o 2 []]]:=_root_.id (by kernel_rfl)
@[go_sem] theorem Ew (b):(ab b).m F.natural_add=[]:=_root_.id (by kernel_rfl)
@[go_sem] theorem N2:CLL F.natural_add:=aje Ew
@[go_sem] theorem zJ (b):(ab b).keep F.natural_add=false:=_root_.id (by kernel_rfl)
theorem Ey:au.C F.natural_sub=some l9:=by kernel_rfl
theorem Ez:au.E F.natural_sub=none:=by kernel_rfl
@[go_sem] theorem Qn (b):(ab b).sh F.natural_sub=[[.o 2 []],[.o 2 []]]:=_root_.id (by kernel_rfl)
@[go_sem] theorem EA (b):(ab b).m F.natural_sub=[]:=_root_.id (by kernel_rfl)
@[go_sem] theorem N3:CLL F.natural_sub:=aje EA
@[go_sem] theorem zK (b):(ab b).keep F.natural_sub=false:=_root_.id (by kernel_rfl)
theorem GO:au.C F.bits_Len32=some fL:=by kernel_rfl
theorem GP:au.E F.bits_Len32=none:=by kernel_rfl
@[go_sem] theorem Rs (b):(ab b).sh F.bits_Len32=[]:=_root_.id (by kernel_rfl)
@[go_sem] theorem GQ (b):(ab b).m F.bits_Len32=[]:=_root_.id (by kernel_rfl)
@[go_sem] theorem PB:CLL F.bits_Len32:=aje GQ
@[go_sem] theorem Bj (b):(ab b).keep F.bits_Len32=false:=_root_.id (by kernel_rfl)
theorem kQ:au.C F.slices_ContainsFunc_Suint32_Suint32_=some cF:=by kernel_rfl
theorem kR:au.E F.slices_ContainsFunc_Suint32_Suint32_=none:=by kernel_rfl
@[go_sem] theorem vJ (b):(ab b).sh F.slices_ContainsFunc_Suint32_Suint32_=[[.o 2 [.o 2 []]],[]]:=_root_.id (by kernel_rfl)
@[go_sem] theorem eM (b):(ab b).m F.slices_ContainsFunc_Suint32_Suint32_=[]:=_root_.id (by kernel_rfl)
@[go_sem] theorem tZ:CLL F.slices_ContainsFunc_Suint32_Suint32_:=aje eM
@[go_sem] theorem jz (b):(ab b).keep F.slices_ContainsFunc_Suint32_Suint32_=false:=_root_.id (by kernel_rfl)
theorem zL:au.C F.natural_long_1=some ja:=by kernel_rfl
theorem zM:au.E F.natural_long_1=none:=by kernel_rfl
@[go_sem] theorem Na (b):(ab b).sh F.natural_long_1=[[.o 2 []]]:=_root_.id (by kernel_rfl)
@[go_sem] theorem rM (b):(ab b).m F.natural_long_1=[]:=_root_.id (by kernel_rfl)
@[go_sem] theorem K7:CLL F.natural_long_1:=aje rM
@[go_sem] theorem vU (b):(ab b).keep F.natural_long_1=false:=_root_.id (by kernel_rfl)
@[go_sem] theorem HT (b):(ab b).sh F.bits_TrailingZeros32=[]:=_root_.id (by kernel_rfl)
@[go_sem] theorem sT (b):(ab b).m F.bits_TrailingZeros32=[]:=_root_.id (by kernel_rfl)
@[go_sem] theorem ET:CLL F.bits_TrailingZeros32:=aje sT
@[go_sem] theorem EU (b):(ab b).keep F.bits_TrailingZeros32=false:=_root_.id (by kernel_rfl)
theorem EB:au.C F.natural_shr=some jt:=by kernel_rfl
theorem EC:au.E F.natural_shr=none:=by kernel_rfl
@[go_sem] theorem Qo (b):(ab b).sh F.natural_shr=[[.o 2 []],[]]:=_root_.id (by kernel_rfl)
@[go_sem] theorem ED (b):(ab b).m F.natural_shr=[]:=_root_.id (by kernel_rfl)
@[go_sem] theorem N4:CLL F.natural_shr:=aje ED
@[go_sem] theorem zN (b):(ab b).keep F.natural_shr=false:=_root_.id (by kernel_rfl)
theorem anC:au.C F.round_round=some ai8:=by kernel_rfl
theorem anD:au.E F.round_round=none:=by kernel_rfl
@[go_sem] theorem atk (b):(ab b).sh F.round_round=[[.o 0 [],.o 2 [],.o 0 []],[],[]]:=_root_.id (by kernel_rfl)
@[go_sem] theorem anE (b):(ab b).m F.round_round=[]:=_root_.id (by kernel_rfl)
@[go_sem] theorem asv:CLL F.round_round:=aje anE
@[go_sem] theorem al1 (b):(ab b).keep F.round_round=false:=_root_.id (by kernel_rfl)
theorem ao7:au.C F.r03_fault=some aiV:=by kernel_rfl
theorem ao8:au.E F.r03_fault=none:=by kernel_rfl
@[go_sem] theorem auu (b):(ab b).sh F.r03_fault=[[.o 0 [],.o 2 [],.o 0 []],[.o 0 [],.o 2 [],.o 0 []],[]]:=_root_.id (by kernel_rfl)
@[go_sem] theorem ao9 (b):(ab b).m F.r03_fault=[]:=_root_.id (by kernel_rfl)
@[go_sem] theorem atl:CLL F.r03_fault:=aje ao9
@[go_sem] theorem amD (b):(ab b).keep F.r03_fault=false:=_root_.id (by kernel_rfl)
theorem apa:au.C F.r03_exact=some aj9:=by kernel_rfl
theorem apb:au.E F.r03_exact=none:=by kernel_rfl
@[go_sem] theorem auv (b):(ab b).sh F.r03_exact=[[.o 0 [],.o 2 [],.o 0 []],[],[]]:=_root_.id (by kernel_rfl)
@[go_sem] theorem apc (b):(ab b).m F.r03_exact=[]:=_root_.id (by kernel_rfl)
@[go_sem] theorem atn:CLL F.r03_exact:=aje apc
@[go_sem] theorem amE (b):(ab b).keep F.r03_exact=false:=_root_.id (by kernel_rfl)
theorem aqe:au.C F.r02_Sign=some ajq:=by kernel_rfl
theorem aqf:au.E F.r02_Sign=none:=by kernel_rfl
@[go_sem] theorem avN (b):(ab b).sh F.r02_Sign=[[.o 0 [],.o 2 [],.o 0 []]]:=_root_.id (by kernel_rfl)
@[go_sem] theorem aqg (b):(ab b).m F.r02_Sign=[]:=_root_.id (by kernel_rfl)
@[go_sem] theorem aua:CLL F.r02_Sign:=aje aqg
@[go_sem] theorem anF (b):(ab b).keep F.r02_Sign=false:=_root_.id (by kernel_rfl)
theorem arj:au.C F.r02_Top=some aka:=by kernel_rfl
theorem ark:au.E F.r02_Top=none:=by kernel_rfl
@[go_sem] theorem av3 (b):(ab b).sh F.r02_Top=[[.o 0 [],.o 2 [],.o 0 []]]:=_root_.id (by kernel_rfl)
@[go_sem] theorem arl (b):(ab b).m F.r02_Top=[]:=_root_.id (by kernel_rfl)
@[go_sem] theorem auw:CLL F.r02_Top:=aje arl
@[go_sem] theorem aom (b):(ab b).keep F.r02_Top=false:=_root_.id (by kernel_rfl)
theorem aqh:au.C F.r02_left=some akp:=by kernel_rfl
theorem aqi:au.E F.r02_left=none:=by kernel_rfl
@[go_sem] theorem avO (b):(ab b).sh F.r02_left=[[.o 2 []],[]]:=_root_.id (by kernel_rfl)
@[go_sem] theorem aqj (b):(ab b).m F.r02_left=[]:=_root_.id (by kernel_rfl)
@[go_sem] theorem aub:CLL F.r02_left:=aje aqj
@[go_sem] theorem anG (b):(ab b).keep F.r02_left=false:=_root_.id (by kernel_rfl)
theorem asw:au.C F.r02_Of=some aku:=by kernel_rfl
theorem asx:au.E F.r02_Of=none:=by kernel_rfl
@[go_sem] theorem awB (b):(ab b).sh F.r02_Of=[[],[.o 2 []],[]]:=_root_.id (by kernel_rfl)
@[go_sem] theorem asy (b):(ab b).m F.r02_Of=[]:=_root_.id (by kernel_rfl)
@[go_sem] theorem avP:CLL F.r02_Of:=aje asy
@[go_sem] theorem apd (b):(ab b).keep F.r02_Of=false:=_root_.id (by kernel_rfl)
theorem aqk:au.C F.r02_plus=some akq:=by kernel_rfl
theorem aql:au.E F.r02_plus=none:=by kernel_rfl
@[go_sem] theorem avQ (b):(ab b).sh F.r02_plus=[[.o 2 []],[.o 2 []]]:=_root_.id (by kernel_rfl)
@[go_sem] theorem aqm (b):(ab b).m F.r02_plus=[]:=_root_.id (by kernel_rfl)
@[go_sem] theorem auc:CLL F.r02_plus:=aje aqm
@[go_sem] theorem anH (b):(ab b).keep F.r02_plus=false:=_root_.id (by kernel_rfl)
theorem anI:au.C F.r02_compare=some ai9:=by kernel_rfl
theorem anJ:au.E F.r02_compare=none:=by kernel_rfl
@[go_sem] theorem ato (b):(ab b).sh F.r02_compare=[[.o 2 []],[.o 2 []]]:=_root_.id (by kernel_rfl)
@[go_sem] theorem anK (b):(ab b).m F.r02_compare=[]:=_root_.id (by kernel_rfl)
@[go_sem] theorem asz:CLL F.r02_compare:=aje anK
@[go_sem] theorem al2 (b):(ab b).keep F.r02_compare=false:=_root_.id (by kernel_rfl)
theorem ape:au.C F.r02_minus=some akb:=by kernel_rfl
theorem apf:au.E F.r02_minus=none:=by kernel_rfl
@[go_sem] theorem aux (b):(ab b).sh F.r02_minus=[[.o 2 []],[.o 2 []]]:=_root_.id (by kernel_rfl)
@[go_sem] theorem apg (b):(ab b).m F.r02_minus=[]:=_root_.id (by kernel_rfl)
@[go_sem] theorem atp:CLL F.r02_minus:=aje apg
@[go_sem] theorem amF (b):(ab b).keep F.r02_minus=false:=_root_.id (by kernel_rfl)
theorem anL:au.C F.r02_Product=some ajJ:=by kernel_rfl
theorem anM:au.E F.r02_Product=none:=by kernel_rfl
@[go_sem] theorem atq (b):(ab b).sh F.r02_Product=[[.o 0 [],.o 2 [],.o 0 []],[.o 0 [],.o 2 [],.o 0 []]]:=_root_.id (by kernel_rfl)
@[go_sem] theorem anN (b):(ab b).m F.r02_Product=[]:=_root_.id (by kernel_rfl)
@[go_sem] theorem asA:CLL F.r02_Product:=aje anN
@[go_sem] theorem al3 (b):(ab b).keep F.r02_Product=false:=_root_.id (by kernel_rfl)
theorem zO:au.C F.cmp_isNaN_int_=some jc:=by kernel_rfl
theorem zP:au.E F.cmp_isNaN_int_=none:=by kernel_rfl
@[go_sem] theorem Nb (b):(ab b).sh F.cmp_isNaN_int_=[]:=_root_.id (by kernel_rfl)
@[go_sem] theorem zQ (b):(ab b).m F.cmp_isNaN_int_=[]:=_root_.id (by kernel_rfl)
@[go_sem] theorem K8:CLL F.cmp_isNaN_int_:=aje zQ
@[go_sem] theorem vV (b):(ab b).keep F.cmp_isNaN_int_=false:=_root_.id (by kernel_rfl)
theorem EE:au.C F.natural_shl=some me:=by kernel_rfl
theorem EF:au.E F.natural_shl=none:=by kernel_rfl
@[go_sem] theorem Qp (b):(ab b).sh F.natural_shl=[[.o 2 []],[]]:=_root_.id (by kernel_rfl)
@[go_sem] theorem EG (b):(ab b).m F.natural_shl=[]:=_root_.id (by kernel_rfl)
@[go_sem] theorem N5:CLL F.natural_shl:=aje EG
@[go_sem] theorem zR (b):(ab b).keep F.natural_shl=false:=_root_.id (by kernel_rfl)
theorem GR:au.C F.bits_Add32=some m8:=by kernel_rfl
theorem GS:au.E F.bits_Add32=none:=by kernel_rfl
@[go_sem] theorem Ru (b):(ab b).sh F.bits_Add32=[]:=_root_.id (by kernel_rfl)
@[go_sem] theorem GT (b):(ab b).m F.bits_Add32=[]:=_root_.id (by kernel_rfl)
@[go_sem] theorem PC:CLL F.bits_Add32:=aje GT
@[go_sem] theorem Bk (b):(ab b).keep F.bits_Add32=false:=_root_.id (by kernel_rfl)
theorem GU:au.C F.bits_Sub32=some m9:=by kernel_rfl
theorem GV:au.E F.bits_Sub32=none:=by kernel_rfl
@[go_sem] theorem Rw (b):(ab b).sh F.bits_Sub32=[]:=_root_.id (by kernel_rfl)
@[go_sem] theorem GW (b):(ab b).m F.bits_Sub32=[]:=_root_.id (by kernel_rfl)
@[go_sem] theorem PD:CLL F.bits_Sub32:=aje GW
@[go_sem] theorem Bl (b):(ab b).keep F.bits_Sub32=false:=_root_.id (by kernel_rfl)
theorem mp:au.C F.slices_IndexFunc_Suint32_Suint32_=some de:=by kernel_rfl
theorem mq:au.E F.slices_IndexFunc_Suint32_Suint32_=none:=by kernel_rfl
@[go_sem] theorem lM (b):(ab b).sh F.slices_IndexFunc_Suint32_Suint32_=[[.o 2 [.o 2 []]],[]]:=_root_.id (by kernel_rfl)
@[go_sem] theorem fH (b):(ab b).m F.slices_IndexFunc_Suint32_Suint32_=[]:=_root_.id (by kernel_rfl)
@[go_sem] theorem vW:CLL F.slices_IndexFunc_Suint32_Suint32_:=aje fH
@[go_sem] theorem kS (b):(ab b).keep F.slices_IndexFunc_Suint32_Suint32_=false:=_root_.id (by kernel_rfl)
theorem anO:au.C F.round_fault=some aiS:=by kernel_rfl
theorem anP:au.E F.round_fault=none:=by kernel_rfl
@[go_sem] theorem atr (b):(ab b).sh F.round_fault=[[],[.o 4 [.o 0 [],.o 2 [],.o 0 []]]]:=_root_.id (by kernel_rfl)
@[go_sem] theorem anQ (b):(ab b).m F.round_fault=[]:=_root_.id (by kernel_rfl)
@[go_sem] theorem asB:CLL F.round_fault:=aje anQ
@[go_sem] theorem al4 (b):(ab b).keep F.round_fault=false:=_root_.id (by kernel_rfl)
theorem amG:au.C F.round_signed=some aiH:=by kernel_rfl
theorem amH:au.E F.round_signed=none:=by kernel_rfl
@[go_sem] theorem as9 (b):(ab b).sh F.round_signed=[[],[.o 2 [],.o 0 [],.o 0 []],[],[]]:=_root_.id (by kernel_rfl)
@[go_sem] theorem amI (b):(ab b).m F.round_signed=[]:=_root_.id (by kernel_rfl)
@[go_sem] theorem asm:CLL F.round_signed:=aje amI
@[go_sem] theorem alG (b):(ab b).keep F.round_signed=false:=_root_.id (by kernel_rfl)
theorem aqn:au.C F.round_of=some akr:=by kernel_rfl
theorem aqo:au.E F.round_of=none:=by kernel_rfl
@[go_sem] theorem avR (b):(ab b).sh F.round_of=[[.o 0 [],.o 2 [],.o 0 []]]:=_root_.id (by kernel_rfl)
@[go_sem] theorem aqp (b):(ab b).m F.round_of=[]:=_root_.id (by kernel_rfl)
@[go_sem] theorem aud:CLL F.round_of:=aje aqp
@[go_sem] theorem anR (b):(ab b).keep F.round_of=false:=_root_.id (by kernel_rfl)
theorem aqq:au.C F.r03_Prec=some ajS:=by kernel_rfl
theorem aqr:au.E F.r03_Prec=none:=by kernel_rfl
@[go_sem] theorem avS (b):(ab b).sh F.r03_Prec=[]:=_root_.id (by kernel_rfl)
@[go_sem] theorem aqs (b):(ab b).m F.r03_Prec=[]:=_root_.id (by kernel_rfl)
@[go_sem] theorem aue:CLL F.r03_Prec:=aje aqs
@[go_sem] theorem anS (b):(ab b).keep F.r03_Prec=false:=_root_.id (by kernel_rfl)
theorem arm:au.C F.r03_Cut=some ajg:=by kernel_rfl
theorem arn:au.E F.r03_Cut=none:=by kernel_rfl
@[go_sem] theorem av4 (b):(ab b).sh F.r03_Cut=[[],[.o 2 []],[],[],[],[]]:=_root_.id (by kernel_rfl)
@[go_sem] theorem aro (b):(ab b).m F.r03_Cut=[]:=_root_.id (by kernel_rfl)
@[go_sem] theorem auy:CLL F.r03_Cut:=aje aro
@[go_sem] theorem aon (b):(ab b).keep F.r03_Cut=false:=_root_.id (by kernel_rfl)
theorem aph:au.C F.r02_zeros=some akc:=by kernel_rfl
theorem api:au.E F.r02_zeros=none:=by kernel_rfl
@[go_sem] theorem auz (b):(ab b).sh F.r02_zeros=[[.o 2 []]]:=_root_.id (by kernel_rfl)
@[go_sem] theorem apj (b):(ab b).m F.r02_zeros=[]:=_root_.id (by kernel_rfl)
@[go_sem] theorem ats:CLL F.r02_zeros:=aje apj
@[go_sem] theorem amJ (b):(ab b).keep F.r02_zeros=false:=_root_.id (by kernel_rfl)
theorem apk:au.C F.r02_right=some ajz:=by kernel_rfl
theorem apl:au.E F.r02_right=none:=by kernel_rfl
@[go_sem] theorem auA (b):(ab b).sh F.r02_right=[[.o 2 []],[]]:=_root_.id (by kernel_rfl)
@[go_sem] theorem apm (b):(ab b).m F.r02_right=[]:=_root_.id (by kernel_rfl)
@[go_sem] theorem att:CLL F.r02_right:=aje apm
@[go_sem] theorem amK (b):(ab b).keep F.r02_right=false:=_root_.id (by kernel_rfl)
theorem apn:au.C F.r02_times=some akd:=by kernel_rfl
theorem apo:au.E F.r02_times=none:=by kernel_rfl
@[go_sem] theorem auB (b):(ab b).sh F.r02_times=[[.o 2 []],[.o 2 []]]:=_root_.id (by kernel_rfl)
@[go_sem] theorem apq (b):(ab b).m F.r02_times=[]:=_root_.id (by kernel_rfl)
@[go_sem] theorem atu:CLL F.r02_times:=aje apq
@[go_sem] theorem amL (b):(ab b).keep F.r02_times=false:=_root_.id (by kernel_rfl)
theorem amr:au.C F.round_precise=some aiX:=by kernel_rfl
theorem ams:au.E F.round_precise=none:=by kernel_rfl
@[go_sem] theorem asC (b):(ab b).sh F.round_precise=[]:=_root_.id (by kernel_rfl)
@[go_sem] theorem amt (b):(ab b).m F.round_precise=[]:=_root_.id (by kernel_rfl)
@[go_sem] theorem arp:CLL F.round_precise:=aje amt
@[go_sem] theorem aly (b):(ab b).keep F.round_precise=false:=_root_.id (by kernel_rfl)
theorem apr:au.C F.round_cut=some ajc:=by kernel_rfl
theorem aps:au.E F.round_cut=none:=by kernel_rfl
@[go_sem] theorem auC (b):(ab b).sh F.round_cut=[[.o 2 [],.o 0 [],.o 0 []],[],[]]:=_root_.id (by kernel_rfl)
@[go_sem] theorem apt (b):(ab b).m F.round_cut=[]:=_root_.id (by kernel_rfl)
@[go_sem] theorem atv:CLL F.round_cut:=aje apt
@[go_sem] theorem amM (b):(ab b).keep F.round_cut=false:=_root_.id (by kernel_rfl)
theorem aqt:au.C F.r01_Trim=some aks:=by kernel_rfl
theorem aqu:au.E F.r01_Trim=none:=by kernel_rfl
@[go_sem] theorem avT (b):(ab b).sh F.r01_Trim=[[.o 2 []]]:=_root_.id (by kernel_rfl)
@[go_sem] theorem aqv (b):(ab b).m F.r01_Trim=[]:=_root_.id (by kernel_rfl)
@[go_sem] theorem auf:CLL F.r01_Trim:=aje aqv
@[go_sem] theorem anT (b):(ab b).keep F.r01_Trim=false:=_root_.id (by kernel_rfl)
theorem aqw:au.C F.r01_Bits=some akZ:=by kernel_rfl
theorem aqx:au.E F.r01_Bits=none:=by kernel_rfl
@[go_sem] theorem avU (b):(ab b).sh F.r01_Bits=[[.o 2 []]]:=_root_.id (by kernel_rfl)
@[go_sem] theorem aqy (b):(ab b).m F.r01_Bits=[]:=_root_.id (by kernel_rfl)
@[go_sem] theorem aug:CLL F.r01_Bits:=aje aqy
@[go_sem] theorem anU (b):(ab b).keep F.r01_Bits=false:=_root_.id (by kernel_rfl)
theorem arq:au.C F.r01_Shr=some akf:=by kernel_rfl
theorem arr:au.E F.r01_Shr=none:=by kernel_rfl
@[go_sem] theorem av5 (b):(ab b).sh F.r01_Shr=[[.o 2 []],[]]:=_root_.id (by kernel_rfl)
@[go_sem] theorem ars (b):(ab b).m F.r01_Shr=[]:=_root_.id (by kernel_rfl)
@[go_sem] theorem auD:CLL F.r01_Shr:=aje ars
@[go_sem] theorem aoo (b):(ab b).keep F.r01_Shr=false:=_root_.id (by kernel_rfl)
theorem art:au.C F.r01_Cmp=some alc:=by kernel_rfl
theorem aru:au.E F.r01_Cmp=none:=by kernel_rfl
@[go_sem] theorem av6 (b):(ab b).sh F.r01_Cmp=[[.o 2 []],[.o 2 []]]:=_root_.id (by kernel_rfl)
@[go_sem] theorem arv (b):(ab b).m F.r01_Cmp=[]:=_root_.id (by kernel_rfl)
@[go_sem] theorem auE:CLL F.r01_Cmp:=aje arv
@[go_sem] theorem aoq (b):(ab b).keep F.r01_Cmp=false:=_root_.id (by kernel_rfl)
theorem arw:au.C F.r01_Shl=some akF:=by kernel_rfl
theorem arx:au.E F.r01_Shl=none:=by kernel_rfl
@[go_sem] theorem av7 (b):(ab b).sh F.r01_Shl=[[.o 2 []],[]]:=_root_.id (by kernel_rfl)
@[go_sem] theorem ary (b):(ab b).m F.r01_Shl=[]:=_root_.id (by kernel_rfl)
@[go_sem] theorem auF:CLL F.r01_Shl:=aje ary
@[go_sem] theorem aor (b):(ab b).keep F.r01_Shl=false:=_root_.id (by kernel_rfl)
theorem arz:au.C F.r01_Add=some akG:=by kernel_rfl
theorem arA:au.E F.r01_Add=none:=by kernel_rfl
@[go_sem] theorem av8 (b):(ab b).sh F.r01_Add=[[.o 2 []],[.o 2 []]]:=_root_.id (by kernel_rfl)
@[go_sem] theorem arB (b):(ab b).m F.r01_Add=[]:=_root_.id (by kernel_rfl)
@[go_sem] theorem auG:CLL F.r01_Add:=aje arB
@[go_sem] theorem aos (b):(ab b).keep F.r01_Add=false:=_root_.id (by kernel_rfl)
theorem amN:au.C F.r03_greatest=some ajt:=by kernel_rfl
theorem amO:au.E F.r03_greatest=none:=by kernel_rfl
@[go_sem] theorem ata (b):(ab b).sh F.r03_greatest=[]:=_root_.id (by kernel_rfl)
@[go_sem] theorem amP (b):(ab b).m F.r03_greatest=[]:=_root_.id (by kernel_rfl)
@[go_sem] theorem asn:CLL F.r03_greatest:=aje amP
@[go_sem] theorem alH (b):(ab b).keep F.r03_greatest=false:=_root_.id (by kernel_rfl)
theorem apu:au.C F.round_shl=some akh:=by kernel_rfl
theorem apv:au.E F.round_shl=none:=by kernel_rfl
@[go_sem] theorem auH (b):(ab b).sh F.round_shl=[[.o 2 []],[]]:=_root_.id (by kernel_rfl)
@[go_sem] theorem apw (b):(ab b).m F.round_shl=[]:=_root_.id (by kernel_rfl)
@[go_sem] theorem atw:CLL F.round_shl:=aje apw
@[go_sem] theorem amQ (b):(ab b).keep F.round_shl=false:=_root_.id (by kernel_rfl)
theorem apx:au.C F.round_shr=some ajA:=by kernel_rfl
theorem apy:au.E F.round_shr=none:=by kernel_rfl
@[go_sem] theorem auI (b):(ab b).sh F.round_shr=[[.o 2 []],[]]:=_root_.id (by kernel_rfl)
@[go_sem] theorem apz (b):(ab b).m F.round_shr=[]:=_root_.id (by kernel_rfl)
@[go_sem] theorem atx:CLL F.round_shr:=aje apz
@[go_sem] theorem amR (b):(ab b).keep F.round_shr=false:=_root_.id (by kernel_rfl)
theorem anV:au.C F.dyadic_Make=some aiw:=by kernel_rfl
theorem anW:au.E F.dyadic_Make=none:=by kernel_rfl
@[go_sem] theorem aty (b):(ab b).sh F.dyadic_Make=[[],[.o 2 []],[]]:=_root_.id (by kernel_rfl)
@[go_sem] theorem anX (b):(ab b).m F.dyadic_Make=[]:=_root_.id (by kernel_rfl)
@[go_sem] theorem asD:CLL F.dyadic_Make:=aje anX
@[go_sem] theorem al5 (b):(ab b).keep F.dyadic_Make=false:=_root_.id (by kernel_rfl)
theorem asE:au.C F.r01_at=some akv:=by kernel_rfl
theorem asF:au.E F.r01_at=none:=by kernel_rfl
@[go_sem] theorem awC (b):(ab b).sh F.r01_at=[[.o 2 []],[]]:=_root_.id (by kernel_rfl)
@[go_sem] theorem asG (b):(ab b).m F.r01_at=[]:=_root_.id (by kernel_rfl)
@[go_sem] theorem avV:CLL F.r01_at:=aje asG
@[go_sem] theorem apA (b):(ab b).keep F.r01_at=false:=_root_.id (by kernel_rfl)
theorem arC:au.C F.r01_Sub=some akH:=by kernel_rfl
theorem arD:au.E F.r01_Sub=none:=by kernel_rfl
@[go_sem] theorem av9 (b):(ab b).sh F.r01_Sub=[[.o 2 []],[.o 2 []]]:=_root_.id (by kernel_rfl)
@[go_sem] theorem arE (b):(ab b).m F.r01_Sub=[]:=_root_.id (by kernel_rfl)
@[go_sem] theorem auJ:CLL F.r01_Sub:=aje arE
@[go_sem] theorem aot (b):(ab b).keep F.r01_Sub=false:=_root_.id (by kernel_rfl)
theorem alI:au.C F.dyadic_exponent=some aiE:=by kernel_rfl
theorem alJ:au.E F.dyadic_exponent=none:=by kernel_rfl
@[go_sem] theorem arF (b):(ab b).sh F.dyadic_exponent=[]:=_root_.id (by kernel_rfl)
@[go_sem] theorem alK (b):(ab b).m F.dyadic_exponent=[]:=_root_.id (by kernel_rfl)
@[go_sem] theorem aqz:CLL F.dyadic_exponent:=aje alK
@[go_sem] theorem ald (b):(ab b).keep F.dyadic_exponent=false:=_root_.id (by kernel_rfl)
end Go.Ab
namespace Go.Ab
open Go Go.IntWalk
def aP (m:List Nat):List (List AV):=m.map fun (x:Nat)=>[U (x:Int)]
def lm (m:List Nat):AV:=.sl 1 (aP m)
theorem uP (m:List Nat):(aP m).length=m.length:=by simp [aP]
@[go_sem] theorem rN (l:List (List AV)):l.map (cf [])=l:=(List.map_congr_left (g:=fun c=>c) fun c _=>NI c).trans (List.map_id' _)
@[go_sem] theorem Zu (hs m):eF hs (lm m)=lm m:=_root_.id rfl
@[go_sem] theorem X1 (hs m):knownL hs (lm m)=true:=_root_.id rfl
@[go_sem] theorem Vt (hs m):en hs (lm m)=true:=_root_.id rfl
@[go_sem] theorem adO (ks m):mr ks (lm m)=lm m:=_root_.id rfl
@[go_sem] theorem abV (ks m):jG ks (lm m)=false:=_root_.id rfl
@[go_sem] theorem abW (ks m):sD ks (lm m)=false:=_root_.id rfl
@[go_sem] theorem adP (m):jh false (lm m)=some (I (m.length:Nat)):=by simp [lm,jh,aP]
@[go_sem] theorem abX (m k i):mJ 1 (lm m) (.v (.int k i))=bH (aP m) i:=by simp [lm,mJ]
@[go_sem] theorem Qq (k ss m):nrmV (.o (k+1) []::ss) (lm m)=lm m:=by simp [lm,nrmV,nrmL,rN]
@[go_sem] theorem Zv (k cs ss m):nrmV (.o (k+1) [.o 0 cs]::ss) (lm m)=lm m:=by
 have:(aP m).map (cf [.o 0 cs])=aP m:=by
  refine (List.map_congr_left (g:=fun c=>c) fun c _=>?_).trans (List.map_id' _)
  cases c with
  | nil=>simp [cf]
  | cons a l=>simp [cf,nrmL]
 simp [lm,nrmV,nrmL,this]
@[go_sem] theorem abY (k m):nrmL (.o (k+1) []) (lm m)=lm m:=by simp [lm,nrmL,rN]
@[go_sem] theorem abZ (h m):lA h (lm m)=some (lm m):=_root_.id rfl
@[go_sem] theorem Zw (h m l):gg h (lm m::l)=(gg h l).bind fun q=>some (lm m::q):=_root_.id rfl
@[go_sem] theorem ab0 (m):bk (lm m)=[]:=_root_.id rfl
@[go_sem] theorem ab1 (m):cP (lm m)=[]:=_root_.id rfl
@[go_sem] theorem adQ (m):dat (lm m)=true:=_root_.id rfl
@[go_sem] theorem ab2 (m):ak (lm m)=true:=_root_.id rfl
@[go_sem] theorem Zx (m):aN (lm m)=false:=_root_.id rfl
@[go_sem] theorem Zy (m):dA (lm m)=some [lm m]:=_root_.id rfl
@[go_sem] theorem ab3 (h m):dv h (lm m)=some (lm m,h,[]):=_root_.id rfl
@[go_sem] theorem Zz (h m):bP h 0 (lm m)=some (lm m,h,[]):=_root_.id rfl
@[go_sem] theorem ZA (id p m):pN id p (lm m)=lm m:=_root_.id rfl
@[go_sem] theorem ZB (h d m):hG h d (some (lm m,[]))=if cr h (2000+8*d) 1=true then some (lm m,h,[]) else none:=NK h d 1 (aP m)
@[go_sem] theorem adR (m:List Nat):AV.sl 1 (aP m)=lm m:=_root_.id rfl
@[go_sem] theorem ZC (p:Nat→Bool) (a:Nat):fw (List.filter p [a])=true:=by
 simp only [List.filter]
 split <;> rfl
@[go_sem] theorem ab4 (m:List Nat):(aP m).length=m.length:=by simp [aP]
@[go_sem] theorem Sf:AV.sl 1 []=lm []:=_root_.id rfl
@[go_sem] theorem X3 (cs ss):nrmV (.o 2 cs::ss) .emp=lm []:=by simp [nrmV,nrmL,lm,aP]
@[go_sem] theorem X4 (cs):nrmL (.o 2 cs) .emp=lm []:=by simp [nrmL,lm,aP]
@[go_sem] theorem ab5 (k ss m):nrmV (.o (k+1) []::ss) (.sl 1 (aP m))=lm m:=Qq k ss m
@[go_sem] theorem ZD (k ss m):nrmV (.o (k+1) []::ss) (.osl 1 (aP m))=lm m:=by simp [lm,nrmV,nrmL,rN]
theorem df {m:List Nat} {i:Int} {n:Nat} (hi:i=n) (h:n < m.length):bH (aP m) i=some (.ipt [U (m.getD n 0:Nat)]):=by
 subst hi
 simp [bH,aP,h]
theorem qZ {m:List Nat} {n:Nat} (h:n < m.length):(aP m)[n]?=some [U (m.getD n 0:Nat)]:=by
 simp [aP,h]
theorem GX (m:List Nat) (n:Nat):(aP m).take n=aP (m.take n):=by simp [aP,List.map_take]
theorem N6 (m:List Nat) (n:Nat):(aP m).drop n=aP (m.drop n):=by simp [aP,List.map_drop]
theorem Bm (m l:List Nat):aP m++aP l=aP (m++l):=by simp [aP]
theorem re (m:List Nat) (n x:Nat):(aP m).set n [U (x:Nat)]=aP (m.set n x):=by simp [aP,List.map_set]
theorem tJ (n:Nat):List.replicate n [AV.v (.int .u32 0)]=aP (List.replicate n 0):=by simp [aP]
theorem GY {m:List Nat} {lo hi:Option AV} {a b:Nat} (hlo:gJ 0 b lo=some a) (hhi:gJ m.length m.length hi=some b) (_hb:b≤m.length):dK 1 (lm m) lo hi none=some (lm ((m.drop a).take (b - a))):=by
 simp only [lm,dK,ia,uP,if_true,hhi,hlo,Option.bind_some,Option.map_some,vZ,Bool.false_eq_true,if_false,GX,N6]
theorem zS (d n:Nat):gJ d n none=some d:=_root_.id rfl
theorem uQ {d n:Nat} {k:IntKind} {i:Int} {a:Nat} (hi:i=a) (h:a≤n):gJ d n (some (.v (.int k i)))=some a:=by
 subst hi
 simp [gJ,h]
theorem aZ {f:FuncId} {fd:FD} {args:List AV} {r:AV × List Ob} (hE:au.E f=none) (hC:au.C f=some fd) (hk:au.md.keep f=false) (h1:args.length=fd.np)
  (hz:ajf false fd.rs fd.res 0 (az R (ab false) fd.body (pi args) (fun _=>.dead))=some r):R f args []=some r:=by
 refine Gc false hE hC hk h1 (Nat.zero_le _) ?_
 rw [Kr]
 exact hz
end Go.Ab
namespace Go.Ab
open Go Go.IntWalk
set_option maxRecDepth 4000
def xR (k:Nat) (g:Bool):Cmd:=.seq (.ops [0,1,7,8,9] [co 9 (.bin .lss (.t 8) (.t 7))]) (.seq (.cond (.t 9) (.skip) (.exit 0)) (.seq (.block 1 [0,1,7,8] (.seq (.ops [0,1,5,7,8] [cm 10 8,cm 5 10]) (.seq (.ops [0,1,5,7,8,16] [cm 11 1,cm 12 0,cm 13 5,co 14 (.iadrS k (.t 12) (.t 13)),⟨(some 15),none,.load k g (.t 14)⟩,⟨(some 16),none,.call (.t 11) [(.t 15)]⟩]) (.cond (.t 16) (.seq (.ops [4] [cm 17 5,cm 4 17]) (.ret)) (.skip))))) (.ops [0,1,7,8] [co 18 (.bin .add (.t 8) (.c (.v (.int .i64 1)))),cm 8 18])))
def Cv:Cmd:=.seq (.ops [4] [co 4 (.mv (.c (.v (.int .i64 (-1)))))]) (.ret)
def xd {α:Type} (p:α→Bool):List α→Nat→Int
 | [],_=>-1
 | r::rs,n=>if p r=true then n else xd p rs (n+1)
theorem GZ {α:Type} (p:α→Bool):∀ (l:List α) (n:Nat),decide (0≤xd p l n)=l.any p
 | [],n=>rfl
 | r::rs,n=>by
  simp only [xd,List.any_cons]
  by_cases h:p r=true
  ·simp [h]
  ·simp [h,GZ p rs (n+1)]
theorem N7 {k:Nat} {g:Bool} {f:FuncId} {rows:List (List AV)} {p:List AV→Bool} (hm:(ab false).m f=[]) (hl:rows.length < 4611686018427387904)
  (hf:∀ row ∈ rows,∃ a,im k g row 0=some a∧dat a=true∧R f (aM ((ab false).sh f) [a]) []=some (B (p row),[])):∀ (rest:List (List AV)) (n:Nat),rows.drop n=rest→n≤rows.length →
  ∀ (s:af) (h:aa),s 0=.sl k rows→s 1=.fn f [] []→s 7=I rows.length→s 8=I n →
   dG (aI 0 [] (aU (az R (ab false) (xR k g)) [0,1,7,8] [] s h)) (az R (ab false) Cv)=some (.ret,⟨upd (fun _=>.any) 4 (I (xd p rest n)),fun _=>.dead⟩):=by
 intro rest
 induction rest with
 | nil =>
  intro n hd hn s h h0 h1 h7 h8
  have e:n=rows.length:=by
   have:=congrArg List.length hd
   simp at this
   omega
  subst e
  rw [aA]
  generalize aU _ _ _=L
  simp only [xR,Cv,go_sem,h0,h1,h7,h8,↓reduceIte,aez,Int.lt_irrefl,xd]
 | cons r rest ih =>
  intro n hd hn s h h0 h1 h7 h8
  have hlt:n < rows.length:=by
   have:=congrArg List.length hd
   simp at this
   omega
  have hr:rows[n]?=some r:=by
   have:=congrArg (·[0]?) hd
   simpa using this
  obtain ⟨a,ha,hda,hc⟩:=hf r (List.mem_of_getElem? hr)
  have ih':=ih (n+1) (by rw [← List.drop_drop,hd]; rfl) hlt
  have e1:((n:Int) < (rows.length:Int))=True:=eq_true (by omega)
  have e2:bH rows (n:Int)=some (.ipt r):=by simp [bH,hr]
  have e3:IntKind.i64.wrap ((n:Int)+1)=((n+1:Nat):Int):=by rw [i64_in] <;> omega
  rw [aA]
  generalize aU _ _ _=L at ih' ⊢
  simp only [xR,go_sem,h0,h1,h7,h8,↓reduceIte,aez,e1,e2,ha,sn _ hm,hda,hc,aeB,aeA,xd]
  cases hp:p r with
  | true=>simp only [go_sem,↓reduceIte]
  | false =>
   simp only [go_sem,↓reduceIte,aez,e3]
   exact ih' _ _ rfl rfl rfl rfl
theorem Bn {fi:FuncId} {fd:FD} {k:Nat} {g:Bool} (hE:au.E fi=none) (hC:au.C fi=some fd) (hk:au.md.keep fi=false)
  (hfd:fd=⟨2,[[]],[.t 4],.seq (.ops [0,1] [co 4 (.mv (.c (.v (.int .i64 0))))]) (.seq (.seq (.ops [0,1,7,8] [cm 6 0,co 7 (.len false (.t 6)),co 8 (.mv (.c (.v (.int .i64 0))))]) (.block 0 [] (.loop [0,1,7,8] [] (xR k g)))) Cv)⟩)
  {f:FuncId} {rows:List (List AV)} {p:List AV→Bool} (hm:(ab false).m f=[]) (hl:rows.length < 4611686018427387904)
  (hf:∀ row ∈ rows,∃ a,im k g row 0=some a∧dat a=true∧R f (aM ((ab false).sh f) [a]) []=some (B (p row),[])):R fi [.sl k rows,.fn f [] []] []=some (I (xd p rows 0),[]):=by
 subst hfd
 refine aZ hE hC hk rfl ?_
 have hL:=N7 (k:=k) (g:=g) hm hl hf rows 0 rfl (Nat.zero_le _)
 simp only [go_sem,↓reduceIte,aez,UC]
 rw [hL _ _ (by simp only [go_sem,↓reduceIte]) (by simp only [go_sem,↓reduceIte,aez]) (by simp only [go_sem,↓reduceIte,aez]) (by simp only [go_sem,↓reduceIte,aez]; rfl)]
 simp only [go_sem,↓reduceIte]
def LS (fi:FuncId):FD:=⟨2,[[]],[.t 4],.seq (.ops [0,1] [co 4 (.mv (.c (.v (.bool false))))]) (.seq (.ops [4] [cm 5 0,cm 6 1,⟨(some 7),none,.call (.c (.fn fi [] [])) [(.t 5),(.t 6)]⟩,co 8 (.bin .geq (.t 7) (.c (.v (.int .i64 0)))),cm 4 8]) (.ret))⟩
theorem xS {ci fi:FuncId} {fd:FD} {k:Nat} (hE:au.E ci=none) (hC:au.C ci=some fd) (hk:au.md.keep ci=false) (hfd:fd=LS fi) (hm:(ab false).m fi=[]) {cs:List Sh} (hsh:(ab false).sh fi=[[.o (k+1) cs],[]])
  {rows:List (List AV)} {f:FuncId} {p:List AV→Bool} (hr:rows.map (cf cs)=rows) (h:R fi [.sl k rows,.fn f [] []] []=some (I (xd p rows 0),[])):R ci [.sl k rows,.fn f [] []] []=some (B (rows.any p),[]):=by
 subst hfd
 refine aZ hE hC hk rfl ?_
 simp only [LS,go_sem,↓reduceIte,aez,sn _ hm,hsh,hr,h,NH,GZ]
end Go.Ab
namespace Go.Ab
open Go Go.IntWalk
set_option maxRecDepth 4000
theorem pf {i:Int} {n:Nat} (h:i=n) (hn:n < 18446744073709551616):IntKind.u64.wrap i=n:=by rw [u64_in] <;> omega
theorem PF {i:Int} {n:Nat} (h:i=n) (hn:n < 4294967296):IntKind.u32.wrap i=n:=by rw [u32_in] <;> omega
theorem wi {i:Int} {n:Nat} (h:i=n) (hn:n < 9223372036854775808):IntKind.i64.wrap i=n:=by rw [i64_in] <;> omega
theorem Cw {i:Int} {n:Nat} (h:i=n):IntKind.u32.wrap i=((n % 4294967296:Nat):Int):=by rw [IntKind.wrap_u32]; omega
theorem xT {i:Int} {n k:Nat} {kk:IntKind} {j:Int} (h:i=n) (hj:j=k) (hk:k≤64):dB .shr (.v (.int .u64 i)) (.v (.int kk j))=some (.v (.int .u64 ((n / 2 ^ k:Nat):Int))):=by
 subst h hj
 rw [BW,if_neg (by omega)]
 have:min (k:Int).toNat IntKind.u64.bits=k:=by simp [IntKind.bits]; omega
 rw [this]
 simp only [Option.some.injEq,AV.v.injEq,Value.int.injEq,true_and]
 rw [Int.fdiv_eq_ediv_of_nonneg _ (Int.pow_nonneg (by omega))]
 simp
theorem G0 {x y c:Nat} (hx:x < 4294967296) (hy:y < 4294967296) (hc:c≤1):R F.bits_Add32 [U x,U y,U c] []=some (.tup [U (((x+y+c) % 4294967296:Nat)),U (((x+y+c) / 4294967296:Nat))],[]):=by
 refine aZ GS GR (Bk false) rfl ?_
 have e1:IntKind.u64.wrap (x:Int)=x:=pf rfl (by omega)
 have e2:IntKind.u64.wrap (y:Int)=y:=pf rfl (by omega)
 have e3:IntKind.u64.wrap (c:Int)=c:=pf rfl (by omega)
 have e4:IntKind.u64.wrap ((x:Int)+y)=((x+y:Nat):Int):=pf (by omega) (by omega)
 have e5:IntKind.u64.wrap (((x+y:Nat):Int)+c)=((x+y+c:Nat):Int):=pf (by omega) (by omega)
 have e6:IntKind.u32.wrap ((x+y+c:Nat):Int)=(((x+y+c) % 4294967296:Nat):Int):=Cw rfl
 have e7:=xT (n:=x+y+c) (k:=32) (kk:=.u64) (j:=32) rfl rfl (by omega)
 have e8:IntKind.u32.wrap (((x+y+c) / 2 ^ 32:Nat):Int)=(((x+y+c) / 4294967296:Nat):Int):=PF rfl (by omega)
 simp only [m8,wT,go_sem,↓reduceIte,aez,e1,e2,e3,e4,e5,e6,e7,e8]
theorem Qr {k:IntKind} {n:Int} (h:n ≠ 0):vZ (some (.v (.int k n)))=false:=by
 unfold vZ
 split
 ·rename_i h2; simp at h2; exact absurd h2.2 h
 ·rfl
theorem Qs {m:List Nat} (h:m.length ≠ 0):dK 1 (lm m) none (some (I (m.length:Nat))) (some (I (m.length:Nat)))=some (lm m):=by
 have hz:vZ (some (I (m.length:Nat)))=false:=Qr (by omega)
 have h1:gJ m.length m.length (some (I (m.length:Nat)))=some m.length:=uQ rfl (Nat.le_refl _)
 simp only [dK,lm,uP,ia,h1,zS,hz,if_true,Option.bind_some,Option.map_some,Bool.false_eq_true,if_false,List.drop_zero,Nat.sub_zero,GX,List.take_length]
theorem IN (m:List Nat):R F.slices_Clip_uint32_uint32_ [lm m] []=some (lm m,[]):=by
 refine aZ pC pB (nY false) rfl ?_
 by_cases h:m.length=0
 ·have:m=[]:=List.length_eq_zero_iff.1 h
  subst this
  rfl
 ·simp only [cY,jq,go_sem,↓reduceIte,aez,Qs h]
theorem LT (m:List Nat) (h2:m.length < 4611686018427387904):∀ (n:Nat),n≤m.length→∀ (s:af) (h:aa),s 0=lm m→s 3=I n →
  aI 0 [0,3] (aU (az R (ab false) fU) [0,3] [] s h)=some (.normal,⟨upd (upd (fun _=>.any) 3 (I (iJ m n))) 0 (lm m),fun _=>.dead⟩):=by
 intro n
 induction n with
 | zero =>
  intro h1 s h h3 h4
  rw [aA]
  simp only [fU,go_sem,h3,h4,iJ,↓reduceIte,aez,Int.natCast_zero,Int.lt_irrefl]
 | succ n ih =>
  intro h1 s h h3 h4
  have hn:n < m.length:=h1
  have e3:IntKind.i64.wrap ((n:Int)+1 - 1)=n:=wi (by omega) (by omega)
  have e1:bH (aP m) (n:Int)=some (.ipt [U (m.getD n 0:Nat)]):=df rfl hn
  have e2:((0:Int) < (n:Int)+1)=True:=eq_true (by omega)
  have ih':=ih (by omega)
  rw [aA]
  generalize aU _ _ _=L at ih' ⊢
  by_cases hz:m.getD n 0=0
  ·simp only [fU,go_sem,h3,h4,iJ,↓reduceIte,aez,Int.natCast_add,Int.natCast_one,e3,e1,e2,hz,Int.natCast_zero]
   exact ih' _ _ rfl rfl
  ·simp only [fU,go_sem,h3,h4,iJ,↓reduceIte,aez,Int.natCast_add,Int.natCast_one,e3,e1,e2,hz,Int.natCast_eq_zero]
theorem dk {m:List Nat} (hb:Lb m) (h:m.length < 4611686018427387904):R F.natural_trim [lm m] []=some (lm (av (ac m)),[]):=by
 refine aZ Cs Cr (yi false) rfl ?_
 have h1:dK 1 (lm m) none (some (I (iJ m m.length:Nat))) none=some (lm (av (ac m))):=by
  rw [GY (a:=0) (b:=iJ m m.length) rfl (uQ rfl (tE _ _)) (tE _ _),List.drop_zero,Nat.sub_zero,F9 hb]
 simp only [lg,tw,go_sem,↓reduceIte,aez,LT m h m.length (Nat.le_refl _),h1]
def PG (l:List (List Nat)):AV:=.sl 1 (l.map fun m=>[lm m])
theorem Qt (l:List (List Nat)) (cs:List Sh):(l.map fun m=>[lm m]).map (cf [.o 2 cs])=l.map fun m=>[nrmL (.o 2 cs) (lm m)]:=by
 simp [List.map_map,cf]
theorem LU (m:List Nat):R F.natural_long_1 [lm m] []=some (B (decide (256 < m.length)),[]):=by
 refine aZ zM zL (vU false) rfl ?_
 have e:decide ((256:Int) < (m.length:Int))=decide (256 < m.length):=by rw [decide_eq_decide]; omega
 simp only [ja,rI,go_sem,↓reduceIte,aez,e]
theorem IP {l:List (List Nat)} (hl:l.length < 4611686018427387904):R F.natural_long [PG l] []=some (B (l.any fun m=>decide (256 < m.length)),[]):=by
 refine aZ Cm Ck (yg false) rfl ?_
 let p:List AV→Bool:=fun row=>match row with | [.sl _ rows]=>decide (256 < rows.length) | _=>false
 have hp:∀ m:List Nat,p [lm m]=decide (256 < m.length):=fun m=>by simp [p,lm,uP]
 have hn:(l.map fun m=>[lm m]).map (cf [.o 2 []])=l.map fun m=>[lm m]:=by
  rw [Qt]
  simp only [go_sem]
 have h1:=Bn (k:=1) (g:=false) (f:=F.natural_long_1) (rows:=l.map fun m=>[lm m]) (p:=p) mq mp (kS false) rfl (rM false) (by simpa using hl) (fun row hr=>by
  simp only [List.mem_map] at hr
  obtain ⟨m,hm,rfl⟩:=hr
  refine ⟨lm m,rfl,rfl,?_⟩
  simp only [go_sem,LU,hp])
 have h2:=xS (k:=1) kR kQ (jz false) rfl (fH false) (lM false) hn h1
 have h3:(l.map fun m=>[lm m]).any p=l.any fun m=>decide (256 < m.length):=by
  rw [List.any_map]
  congr 1
  funext m
  exact hp m
 rw [h3] at h2
 simp only [kZ,tv,PG,go_sem,↓reduceIte,aez,sn _ (eM false),hn,h2]
end Go.Ab
namespace Go.Ab
open Go Go.IntWalk
set_option maxRecDepth 4000
theorem tt {p:Prop} (h:p):p=True:=eq_true h
theorem ff {p:Prop} (h:¬ p):p=False:=eq_false h
theorem kh (a:List Nat):R F.natural_long [.sl 1 [[lm a]]] []=some (B (decide (256 < a.length)),[]):=by
 have:=IP (l:=[a]) (by simp)
 simpa [PG] using this
theorem nC (a b:List Nat):R F.natural_long [.sl 1 [[lm a],[lm b]]] []=some (B (decide (256 < a.length) || decide (256 < b.length)),[]):=by
 have:=IP (l:=[a,b]) (by simp)
 simpa [PG] using this
def jd (n:Nat):AV:=if 256 < (av n).length then .tup [lm [],I 9] else .tup [lm (av n),I 0]
theorem tK {m:List Nat} (hb:Lb m) (h:m.length < 4611686018427387904):R F.natural_done [lm m] []=some (jd (ac m),[]):=by
 refine aZ Cp Co (yh false) rfl ?_
 by_cases hl:256 < (av (ac m)).length
 ·simp only [iD,pt,jd,go_sem,↓reduceIte,aez,aeB,aeA,aeC,aeE,dk hb h,kh,hl]
 ·simp only [iD,pt,jd,go_sem,↓reduceIte,aez,aeB,aeA,aeC,aeE,dk hb h,kh,hl,IN]
theorem vK {a:List Nat} {i:Nat} (h:i < a.length):ac (a.take (i+1))=ac (a.take i)+4294967296 ^ i*a.getD i 0:=by
 rw [List.take_add_one,fu]
 have:a[i]?.toList=[a.getD i 0]:=by simp [h]
 rw [this,List.length_take,Nat.min_eq_left (by omega)]
 simp [ac]
theorem Io {a:List Nat} {i:Nat} (h:a.length≤i):ac (a.take (i+1))=ac (a.take i)+4294967296 ^ i*a.getD i 0:=by
 rw [List.take_of_length_le (by omega),List.take_of_length_le h]
 simp [List.getD_eq_getElem?_getD,List.getElem?_eq_none h]
theorem jD (a:List Nat) (i:Nat):ac (a.take (i+1))=ac (a.take i)+4294967296 ^ i*a.getD i 0:=by
 rcases Nat.lt_or_ge i a.length with h | h
 ·exact vK h
 ·exact Io h
def IQ (n i:Nat):Nat:=n / 4294967296 ^ i % 4294967296
theorem N8 {k n i:Nat} (h:i < k):(dj k n)[i]?=some (IQ n i):=by
 induction k generalizing n i with
 | zero=>omega
 | succ k ih =>
  cases i with
  | zero=>simp [dj,IQ]
  | succ i =>
   simp only [dj,List.getElem?_cons_succ]
   rw [ih (by omega)]
   simp only [IQ,Nat.pow_succ,Nat.mul_comm _ 4294967296,Nat.div_div_eq_div_mul]
theorem G1 {k n:Nat} {l:List Nat} (hl:l.length=k) (h:∀ i,i < k→l.getD i 0=IQ n i):l=dj k n:=by
 refine List.ext_getElem? fun i=>?_
 rcases Nat.lt_or_ge i k with hi | hi
 ·rw [N8 hi]
  have:=h i hi
  rw [List.getD_eq_getElem?_getD,List.getElem?_eq_getElem (by omega)] at this
  rw [List.getElem?_eq_getElem (by omega)]
  exact congrArg some this
 ·rw [List.getElem?_eq_none (by omega),List.getElem?_eq_none (by rw [ct]; omega)]
def lN (a b:List Nat):Nat→Nat
 | 0=>0
 | i+1=>(a.getD i 0+b.getD i 0+lN a b i) / 4294967296
def zT (a b:List Nat) (i:Nat):Nat:=(a.getD i 0+b.getD i 0+lN a b i) % 4294967296
theorem Bo {a b:List Nat} (ha:Lb a) (hb:Lb b):∀ i,lN a b i≤1
 | 0=>by simp [lN]
 | i+1=>by
  have h1:=dQ ha i
  have h2:=dQ hb i
  have h3:=Bo ha hb i
  simp only [lN]
  omega
def gp (a b:List Nat) (i:Nat):List Nat:=(List.range i).map (zT a b)
theorem rO (f:Nat→Nat) (i:Nat):ac ((List.range (i+1)).map f)=ac ((List.range i).map f)+4294967296 ^ i*f i:=by
 rw [List.range_succ,List.map_append,fu]
 simp [ac]
theorem G2 (a b:List Nat):∀ i,ac (gp a b i)+4294967296 ^ i*lN a b i=ac (a.take i)+ac (b.take i)
 | 0=>by simp [gp,lN,ac]
 | i+1=>by
  have ih:=G2 a b i
  rw [jD a i,jD b i]
  simp only [gp] at ih ⊢
  rw [rO,Nat.pow_succ]
  have e:lN a b (i+1)*4294967296+zT a b i=a.getD i 0+b.getD i 0+lN a b i:=by
   simp only [lN,zT]
   omega
  have h1:4294967296 ^ i*4294967296*lN a b (i+1)+4294967296 ^ i*zT a b i=4294967296 ^ i*(a.getD i 0+b.getD i 0+lN a b i):=by
   rw [← e,Nat.mul_add,Nat.mul_assoc,Nat.mul_comm 4294967296]
  simp only [Nat.mul_add] at h1
  omega
theorem gy (a b:List Nat) (i:Nat):(gp a b i).length=i:=by simp [gp]
theorem Qu (a b:List Nat) (i:Nat):Lb (gp a b i):=fun x hx=>by
 simp only [gp,List.mem_map] at hx
 obtain ⟨j,_,rfl⟩:=hx
 simp only [zT]
 omega
theorem N9 {a b:List Nat} (ha:Lb a) (hb:Lb b) (hl:b.length≤a.length):gp a b a.length++[lN a b a.length]=dj (a.length+1) (ac a+ac b):=by
 have h:=G2 a b a.length
 rw [List.take_length,List.take_of_length_le hl] at h
 have h1:Lb (gp a b a.length++[lN a b a.length]):=nN.2 ⟨Qu _ _ _,eX.2 ⟨by have:=Bo ha hb a.length; omega,AY⟩⟩
 have h2:ac (gp a b a.length++[lN a b a.length])=ac a+ac b:=by
  rw [fu,gy]
  simp only [ac]
  omega
 rw [← h2]
 have:=uL h1
 simpa [gy] using this.symm
theorem rP {α:Type} (l:List α) (n:Nat) (x z:α) (h:0 < n):(l++List.replicate n z).set l.length x=(l++[x])++List.replicate (n - 1) z:=by
 obtain ⟨n,rfl⟩:∃ m,n=m+1:=⟨n - 1,by omega⟩
 rw [List.replicate_succ,List.set_append_right _ _ (Nat.le_refl _)]
 simp
theorem Oa {a b:List Nat} (ha:Lb a) (hb:Lb b) (_hl:b.length≤a.length) (h2:a.length < 4611686018427387904):∀ (k i:Nat),i+k=a.length→∀ (s:af) (h:aa),s 0=lm a→s 1=lm b→s 5=.rsl 20 none 1 0 (a.length+1)→s 6=U (lN a b i:Nat) →
  s 21=lm a→s 22=I (a.length:Nat)→s 23=I i→h 20=.ar 1 (aP (gp a b i++List.replicate (k+1) 0)) →
  aI 0 [0,5,6] (aU (az R (ab false) eW) [0,1,5,6,21,22,23] [20] s h) =
   some (.normal,⟨upd (upd (upd (fun _=>.any) 6 (U (lN a b a.length:Nat))) 5 (.rsl 20 none 1 0 (a.length+1))) 0 (lm a),upd (fun _=>.dead) 20 (.ar 1 (aP (gp a b a.length++[0])))⟩):=by
 intro k
 induction k with
 | zero =>
  intro i hi s h h0 h1 h5 h6 h21 h22 h23 hh
  have:i=a.length:=by omega
  subst this
  rw [aA]
  simp only [eW,go_sem,↓reduceIte,aez,aeA,h0,h1,h5,h6,h21,h22,h23,hh,Int.lt_irrefl,List.contains_cons,BEq.rfl,Bool.true_or]
 | succ k ih =>
  intro i hi s h h0 h1 h5 h6 h21 h22 h23 hh
  have ih':=ih (i+1) (by omega)
  have e1:((i:Int) < (a.length:Int))=True:=tt (by omega)
  have e2:bH (aP a) (i:Int)=some (.ipt [U (a.getD i 0:Nat)]):=df rfl (by omega)
  have e3:IntKind.i64.wrap ((i:Int)+1)=((i+1:Nat):Int):=wi (by omega) (by omega)
  have e4:(0≤(i:Int))=True:=tt (by omega)
  have e5:((i:Int) < ((a.length+1:Nat):Int))=True:=tt (by omega)
  have e6:=G0 (dQ ha i) (dQ hb i) (Bo ha hb i)
  have e7:(aP (gp a b i++List.replicate (k+1+1) 0))[i]?=some [U (0:Nat)]:=by
   rw [qZ (by simp [gy])]
   simp [List.getD_eq_getElem?_getD,gy]
  have e8:(aP (gp a b i++List.replicate (k+1+1) 0)).set i [U ((a.getD i 0+b.getD i 0+lN a b i) % 4294967296:Nat)]=aP (gp a b (i+1)++List.replicate (k+1) 0):=by
   rw [re]
   have:=rP (gp a b i) (k+1+1) (zT a b i) 0 (by omega)
   rw [gy] at this
   rw [show (a.getD i 0+b.getD i 0+lN a b i) % 4294967296=zT a b i from rfl,this]
   simp [gp,List.range_succ]
  rw [aA]
  generalize aU _ _ _=L at ih' ⊢
  by_cases hb':i < b.length
  ·have e9:((i:Int) < (b.length:Int))=True:=tt (by omega)
   have e10:bH (aP b) (i:Int)=some (.ipt [U (b.getD i 0:Nat)]):=df rfl hb'
   simp only [eW,go_sem,↓reduceIte,aez,aeB,aeA,aeC,h0,h1,h5,h6,h21,h22,h23,hh,List.contains_cons,BEq.rfl,Bool.true_or,e1,e2,e3,e4,e5,e6,e7,e8,e9,e10,Int.toNat_natCast,Nat.zero_add]
   exact ih' _ _ rfl rfl rfl rfl rfl rfl rfl rfl
  ·have e9:((i:Int) < (b.length:Int))=False:=ff (by omega)
   have e10:b.getD i 0=0:=by simp [List.getD_eq_getElem?_getD,List.getElem?_eq_none (show b.length≤i from by omega)]
   have e6':=G0 (dQ ha i) (y:=0) (by omega) (Bo ha hb i)
   simp only [Int.natCast_zero] at e6'
   have e8':(aP (gp a b i++List.replicate (k+1+1) 0)).set i [U ((a.getD i 0+0+lN a b i) % 4294967296:Nat)]=aP (gp a b (i+1)++List.replicate (k+1) 0):=by
    have e8':=e8
    rw [e10] at e8'
    exact e8'
   simp only [eW,go_sem,↓reduceIte,aez,aeB,aeA,aeC,h0,h1,h5,h6,h21,h22,h23,hh,List.contains_cons,BEq.rfl,Bool.true_or,e1,e2,e3,e4,e5,e7,e8',e9,Int.toNat_natCast,Nat.zero_add,e6']
   refine ih' _ _ rfl rfl rfl ?_ rfl rfl rfl rfl
   simp only [lN,e10]
   rfl
theorem qm {i j:Int} {l c:Nat} (hi:i=l) (hj:j=c) (h:l≤c) (hc:c < 9223372036854775808):ue (I i) (I j)=some (l,c):=by
 subst hi hj
 simp only [ue]
 rw [if_pos (by omega)]
 simp
def zU:Cmd:=.seq (.ops [0,1,5] [cm 17 0,co 18 (.len false (.t 17)),co 19 (.bin .add (.t 18) (.c (.v (.int .i64 1)))),⟨(some 20),none,.mkSl 1 [(.v (.int .u32 0))] 4 (.t 19) (.t 19)⟩,cm 5 20]) (.seq (.ops [0,1,5,6] [co 6 (.mv (.c (.v (.int .u32 0))))]) (.seq (.seq (.ops [0,1,5,6,21,22,23] [cm 21 0,co 22 (.len false (.t 21)),co 23 (.mv (.c (.v (.int .i64 0))))]) (.block 0 [0,5,6] (.loop [0,1,5,6,21,22,23] [20] eW))) (.seq (.ops [5] [cm 47 5,cm 48 0,co 49 (.len false (.t 48)),cm 50 6,co 51 (.iadrS 1 (.t 47) (.t 49)),⟨none,none,.store 1 (.t 51) (.t 50)⟩]) (.seq (.ops [4] [cm 52 5,cm 4 52]) (.ret)))))
theorem G3 {a b:List Nat} (ha:Lb a) (hb:Lb b) (hl:b.length≤a.length) (h2:a.length≤100000):∀ (s:af),s 0=lm a→s 1=lm b →
  az R (ab false) zU s (fun _=>.dead)=some (.ret,⟨upd (fun _=>.any) 4 (.rsl 20 none 1 0 (a.length+1)),upd (upd (fun _=>.dead) 20 (.ar 1 (aP (gp a b a.length++[0])))) 20 (.ar 1 (aP (dj (a.length+1) (ac a+ac b))))⟩):=by
 intro s h0 h1
 have e1:IntKind.i64.wrap ((a.length:Int)+1)=((a.length+1:Nat):Int):=wi (by omega) (by omega)
 have e2:=qm (i:=((a.length+1:Nat):Int)) (j:=((a.length+1:Nat):Int)) (l:=a.length+1) (c:=a.length+1) rfl rfl (Nat.le_refl _) (by omega)
 have e3:((a.length+1)*4≤140737488355328)=True:=tt (by omega)
 have e4:=Oa ha hb hl (by omega) a.length 0 (by omega)
 have e5:aP (List.replicate (a.length+1) 0)=aP (gp a b 0++List.replicate (a.length+1) 0):=rfl
 have e6:(0≤(a.length:Int))=True:=tt (by omega)
 have e7:((a.length:Int) < ((a.length+1:Nat):Int))=True:=tt (by omega)
 have e8:(aP (gp a b a.length++[0]))[a.length]?=some [U (0:Nat)]:=by
  rw [qZ (by simp [gy])]
  simp [List.getD_eq_getElem?_getD,gy]
 have e9:(aP (gp a b a.length++[0])).set a.length [U (lN a b a.length:Nat)]=aP (dj (a.length+1) (ac a+ac b)):=by
  rw [re]
  have:=rP (gp a b a.length) 1 (lN a b a.length) 0 (by omega)
  rw [gy] at this
  rw [show [0]=List.replicate 1 0 from rfl,this]
  simp only [Nat.sub_self,List.replicate_zero,List.append_nil]
  rw [N9 ha hb hl]
 simp only [zU,go_sem,↓reduceIte,aez,h0,h1,e1,e2,e3,tJ,e5]
 rw [e4 _ _ rfl rfl rfl rfl rfl rfl rfl rfl]
 simp only [go_sem,↓reduceIte,aez,aeC,e6,e7,e8,e9,Int.toNat_natCast,Nat.zero_add]
theorem G4:vB=.seq (.ops [0,1] [co 4 (.mv (.c .emp))]) (.seq (.seq (.ops [0,1,14] [cm 10 0,co 11 (.len false (.t 10)),cm 12 1,co 13 (.len false (.t 12)),co 14 (.bin .lss (.t 11) (.t 13))]) (.cond (.t 14) (.ops [0,1] [cm 15 1,cm 16 0,cm 0 15,cm 1 16]) (.skip))) zU):=rfl
theorem LV {a b:List Nat} (ha:Lb a) (hb:Lb b) (h1:a.length≤100000) (h2:b.length≤100000):R F.natural_add [lm a,lm b] []=some (lm (dj (max a.length b.length+1) (ac a+ac b)),[]):=by
 refine aZ Eu Et (zJ false) rfl ?_
 by_cases h:a.length < b.length
 ·have e1:((a.length:Int) < (b.length:Int))=True:=tt (by omega)
  have e2:=G3 hb ha (by omega) h2
  simp only [js,G4,go_sem,↓reduceIte,aez,e1]
  rw [e2 _ rfl rfl]
  simp only [go_sem,↓reduceIte,aeC,ct,Nat.zero_add,Nat.le_refl]
  rw [Nat.max_eq_right (by omega),Nat.add_comm (ac a)]
 ·have e1:((a.length:Int) < (b.length:Int))=False:=ff (by omega)
  have e2:=G3 ha hb (by omega) h1
  simp only [js,G4,go_sem,↓reduceIte,aez,e1]
  rw [e2 _ rfl rfl]
  simp only [go_sem,↓reduceIte,aeC,ct,Nat.zero_add,Nat.le_refl]
  rw [Nat.max_eq_left (by omega)]
theorem Sg {a b:List Nat} (ha:Lb a) (hb:Lb b) (h1:a.length≤256) (h2:b.length≤256):R F.natural_Add [lm a,lm b] []=some (jd (ac a+ac b),[]):=by
 refine aZ Ea D9 (zu false) rfl ?_
 have e1:(256 < a.length)=False:=ff (by omega)
 have e2:(256 < b.length)=False:=ff (by omega)
 have e3:ac (dj (max a.length b.length+1) (ac a+ac b))=ac a+ac b:=by
  rw [pz,Nat.mod_eq_of_lt]
  have h1:=ju ha
  have h2:=ju hb
  have h3:4294967296 ^ a.length≤4294967296 ^ max a.length b.length:=Nat.pow_le_pow_right (by omega) (by omega)
  have h4:4294967296 ^ b.length≤4294967296 ^ max a.length b.length:=Nat.pow_le_pow_right (by omega) (by omega)
  rw [Nat.pow_succ]
  omega
 have e4:=tK (py (max a.length b.length+1) (ac a+ac b)) (by rw [ct]; omega)
 rw [e3] at e4
 unfold jd at e4 ⊢
 by_cases hl:256 < (av (ac a+ac b)).length
 ·simp only [hl,if_true] at e4 ⊢
  simp only [jp,qy,go_sem,↓reduceIte,aez,aeB,aeA,aeC,aeE,e1,e2,nC,LV ha hb (by omega) (by omega),e4]
 ·simp only [hl,if_false] at e4 ⊢
  simp only [jp,qy,go_sem,↓reduceIte,aez,aeB,aeA,aeC,aeE,e1,e2,nC,LV ha hb (by omega) (by omega),e4]
end Go.Ab
namespace Go.Ab
open Go Go.IntWalk
set_option maxRecDepth 4000
def dm (x y:Nat):Int:=if x < y then -1 else if y < x then 1 else 0
theorem uR {x y:Nat} (h:(av x).length < (av y).length):x < y:=by
 have h1:=il x
 have hy:y ≠ 0:=by rintro rfl; rw [fM] at h; simp at h
 have h2:=LP hy
 have h3:4294967296 ^ (av x).length≤4294967296 ^ ((av y).length - 1):=Nat.pow_le_pow_right (by omega) (by omega)
 omega
def tL:Cmd:=.seq (.ops [4] [co 4 (.mv (.c (.v (.int .i64 0))))]) (.ret)
theorem Oc {a b:List Nat} (ha:Lb a) (hb:Lb b) (hl:a.length=b.length) (h2:a.length≤100000):∀ (k:Nat),k≤a.length→∀ (s:af) (h:aa),s 0=lm a→s 1=lm b→s 5=I ((k:Int) - 1) →
  dG (aI 0 [] (aU (az R (ab false) dN) [0,1,5] [] s h)) (az R (ab false) tL)=some (.ret,⟨upd (fun _=>.any) 4 (I (dm (ac (a.take k)) (ac (b.take k)))),fun _=>.dead⟩):=by
 intro k
 induction k with
 | zero =>
  intro hk s h h0 h1 h5
  rw [aA]
  generalize aU _ _ _=L
  have e1:(0≤((0:Nat):Int) - 1)=False:=ff (by omega)
  have e2:dm (ac []) (ac [])=0:=rfl
  simp only [dN,tL,go_sem,↓reduceIte,aez,h0,h1,h5,e1,e2]
 | succ k ih =>
  intro hk s h h0 h1 h5
  have ih':=ih (by omega)
  have e1:(0≤((k+1:Nat):Int) - 1)=True:=tt (by omega)
  have e2:bH (aP a) (((k+1:Nat):Int) - 1)=some (.ipt [U (a.getD k 0:Nat)]):=df (by omega) (by omega)
  have e3:bH (aP b) (((k+1:Nat):Int) - 1)=some (.ipt [U (b.getD k 0:Nat)]):=df (by omega) (by omega)
  have e4:IntKind.i64.wrap (((k+1:Nat):Int) - 1 - 1)=(k:Int) - 1:=by rw [i64_in] <;> omega
  have va:=jD a k
  have vb:=jD b k
  have la:=ju (qX ha k)
  have lb:=ju (qX hb k)
  rw [List.length_take,Nat.min_eq_left (by omega)] at la lb
  rw [aA]
  generalize aU _ _ _=L at ih' ⊢
  rcases Nat.lt_trichotomy (a.getD k 0) (b.getD k 0) with hlt | heq | hgt
  ·have e5:((a.getD k 0:Int) < (b.getD k 0:Int))=True:=tt (by omega)
   have e6:dm (ac (a.take (k+1))) (ac (b.take (k+1)))=-1:=by
    have:4294967296 ^ k*(a.getD k 0+1)≤4294967296 ^ k*b.getD k 0:=Nat.mul_le_mul_left _ hlt
    rw [Nat.mul_add] at this
    simp only [dm]
    rw [if_pos (by omega)]
   simp only [dN,tL,go_sem,↓reduceIte,aez,h0,h1,h5,e1,e2,e3,e5,e6]
  ·have e5:((a.getD k 0:Int) < (b.getD k 0:Int))=False:=ff (by omega)
   have e7:((b.getD k 0:Int) < (a.getD k 0:Int))=False:=ff (by omega)
   have e6:dm (ac (a.take (k+1))) (ac (b.take (k+1)))=dm (ac (a.take k)) (ac (b.take k)):=by
    rw [va,vb,heq]
    simp only [dm]
    repeat' split
    all_goals first | rfl | omega
   simp only [dN,go_sem,↓reduceIte,aez,h0,h1,h5,e1,e2,e3,e5,e6,e7,e4]
   exact ih' _ _ rfl rfl rfl
  ·have e5:((a.getD k 0:Int) < (b.getD k 0:Int))=False:=ff (by omega)
   have e7:((b.getD k 0:Int) < (a.getD k 0:Int))=True:=tt (by omega)
   have e6:dm (ac (a.take (k+1))) (ac (b.take (k+1)))=1:=by
    have:4294967296 ^ k*(b.getD k 0+1)≤4294967296 ^ k*a.getD k 0:=Nat.mul_le_mul_left _ hgt
    rw [Nat.mul_add] at this
    simp only [dm]
    rw [if_neg (by omega),if_pos (by omega)]
   simp only [dN,tL,go_sem,↓reduceIte,aez,h0,h1,h5,e1,e2,e3,e5,e6,e7]
theorem zV:vz=.seq (.ops [0,1] [co 4 (.mv (.c (.v (.int .i64 0))))]) (.seq (.ops [0,1] [cm 6 0,⟨(some 7),none,.call (.c (.fn F.natural_trim [] [])) [(.t 6)]⟩,cm 8 1,⟨(some 9),none,.call (.c (.fn F.natural_trim [] [])) [(.t 8)]⟩,cm 0 7,cm 1 9]) (.seq (.seq (.ops [0,1,14] [cm 10 0,co 11 (.len false (.t 10)),cm 12 1,co 13 (.len false (.t 12)),co 14 (.bin .neq (.t 11) (.t 13))]) (.cond (.t 14) (.seq (.seq (.ops [19] [cm 15 0,co 16 (.len false (.t 15)),cm 17 1,co 18 (.len false (.t 17)),co 19 (.bin .lss (.t 16) (.t 18))]) (.cond (.t 19) (.seq (.ops [4] [co 4 (.mv (.c (.v (.int .i64 (-1)))))]) (.ret)) (.skip))) (.seq (.ops [4] [co 4 (.mv (.c (.v (.int .i64 1))))]) (.ret))) (.skip))) (.seq (.seq (.ops [0,1,5] [cm 20 0,co 21 (.len false (.t 20)),co 22 (.bin .sub (.t 21) (.c (.v (.int .i64 1)))),cm 5 22]) (.block 0 [] (.loop [0,1,5] [] dN))) tL))):=rfl
theorem dJ (m:List Nat) (h:Lb m):(av (ac m)).length≤m.length:=nc (ju h)
theorem xe {a b:List Nat} (ha:Lb a) (hb:Lb b) (h1:a.length≤100000) (h2:b.length≤100000):R F.natural_Cmp [lm a,lm b] []=some (I (dm (ac a) (ac b)),[]):=by
 refine aZ Ed Ec (zz false) rfl ?_
 have la:=dJ a ha
 have lb:=dJ b hb
 rcases Nat.lt_trichotomy (av (ac a)).length (av (ac b)).length with hlt | heq | hgt
 ·have e1:((av (ac a)).length:Int)=((av (ac b)).length:Int)↔False:=⟨fun h=>by omega,False.elim⟩
  have e2:(((av (ac a)).length:Int) < ((av (ac b)).length:Int))=True:=tt (by omega)
  have e3:dm (ac a) (ac b)=-1:=by simp [dm,uR hlt]
  simp only [gD,zV,go_sem,↓reduceIte,aez,aeB,aeA,dk ha (by omega),dk hb (by omega),e1,e2,e3]
 ·have e1:(((av (ac a)).length:Int)=((av (ac b)).length:Int))=True:=tt (by omega)
  have e2:IntKind.i64.wrap (((av (ac b)).length:Int) - 1)=((av (ac b)).length:Int) - 1:=by rw [i64_in] <;> omega
  have e3:=Oc (ce (ac a)) (ce (ac b)) heq (by omega) (av (ac a)).length (Nat.le_refl _)
  rw [List.take_length,heq,List.take_length,bL,bL] at e3
  simp only [gD,zV,go_sem,↓reduceIte,aez,aeB,aeA,dk ha (by omega),dk hb (by omega),heq,e2]
  rw [e3 _ _ rfl rfl rfl]
  simp only [go_sem,↓reduceIte]
 ·have e1:((av (ac a)).length:Int)=((av (ac b)).length:Int)↔False:=⟨fun h=>by omega,False.elim⟩
  have e2:(((av (ac a)).length:Int) < ((av (ac b)).length:Int))=False:=ff (by omega)
  have e3:dm (ac a) (ac b)=1:=by
   have:=uR hgt
   simp only [dm]
   rw [if_neg (by omega),if_pos this]
  simp only [gD,zV,go_sem,↓reduceIte,aez,aeB,aeA,dk ha (by omega),dk hb (by omega),e1,e2,e3]
theorem Qv (v:BitVec 32):v.toNat / 2147483648=if v.msb=true then 1 else 0:=by
 have h:=v.isLt
 rw [BitVec.msb_eq_decide]
 split <;> rename_i h1 <;> simp at h1 <;> omega
theorem KC {x y c:Nat} (hx:x < 4294967296) (hy:y < 4294967296) (hc:c≤1) (D:BitVec 32) (hD:D.toNat=(x+4294967296 - y - c) % 4294967296) :
  ((~~~(BitVec.ofNat 32 x) &&& BitVec.ofNat 32 y) ||| (~~~(BitVec.ofNat 32 x ^^^ BitVec.ofNat 32 y) &&& D)).toNat / 2147483648=if x < y+c then 1 else 0:=by
 rw [Qv]
 have h1:(BitVec.ofNat 32 x).msb=decide (2147483648≤x):=by rw [BitVec.msb_eq_decide]; simp; omega
 have h2:(BitVec.ofNat 32 y).msb=decide (2147483648≤y):=by rw [BitVec.msb_eq_decide]; simp; omega
 have h3:D.msb=decide (2147483648≤(x+4294967296 - y - c) % 4294967296):=by rw [BitVec.msb_eq_decide,hD]
 rw [BitVec.msb_or,BitVec.msb_and,BitVec.msb_and,BitVec.msb_not,BitVec.msb_not,BitVec.msb_xor,h1,h2,h3]
 by_cases a1:2147483648≤x <;> by_cases a2:2147483648≤y <;> by_cases a3:x < y+c <;> simp [a1,a2,a3] <;> omega
theorem ofI (n:Nat):BitVec.ofInt 32 (n:Int)=BitVec.ofNat 32 n:=by simp
theorem ZE (v:BitVec 32):IntKind.u32.wrap (v.toNat:Int)=(v.toNat:Int):=by
 have:=v.isLt
 rw [IntKind.wrap_u32]
 omega
theorem G5 {x y c:Nat} (hx:x < 4294967296) (hy:y < 4294967296) (hc:c≤1):R F.bits_Sub32 [U x,U y,U c] []=some (.tup [U (((x+4294967296 - y - c) % 4294967296:Nat)),U ((if x < y+c then 1 else 0:Nat))],[]):=by
 refine aZ GV GU (Bl false) rfl ?_
 have e1:IntKind.u32.wrap ((x:Int) - y)=(((x+4294967296 - y) % 4294967296:Nat):Int):=by rw [IntKind.wrap_u32]; omega
 have e2:IntKind.u32.wrap ((((x+4294967296 - y) % 4294967296:Nat):Int) - c)=(((x+4294967296 - y - c) % 4294967296:Nat):Int):=by rw [IntKind.wrap_u32]; omega
 have b:IntKind.u32.bits=32:=rfl
 have e3:BitVec.ofInt 32 (if IntKind.u32.signed=true then (-1:Int) else IntKind.u32.max)=BitVec.allOnes 32:=by decide
 have e4:∀ v:BitVec 32,BitVec.allOnes 32 ^^^ v = ~~~v:=fun v=>BitVec.not_def.symm
 have e5:∀ v:BitVec 32,BitVec.ofNat 32 v.toNat=v:=fun v=>by simp
 have key:=KC hx hy hc (BitVec.ofNat 32 ((x+4294967296 - y - c) % 4294967296)) (by simp)
 have sh:∀ v:BitVec 32,dB .shr (.v (.int .u32 (v.toNat:Int))) (.v (.int .u64 31))=some (.v (.int .u32 ((v.toNat / 2147483648:Nat):Int))):=fun v=>by
  rw [BW,if_neg (by decide)]
  simp only [b,show min (31:Int).toNat 32=31 from rfl,Option.some.injEq,AV.v.injEq,Value.int.injEq,true_and]
  rw [Int.fdiv_eq_ediv_of_nonneg _ (by decide)]
  omega
 simp only [m9,wU,go_sem,↓reduceIte,aez,e1,e2,ofI,e3,e5,ZE,sh]
 rw [← e4,← e4] at key
 exact congrArg (fun n:Nat=>some (AV.tup [AV.v (Value.int IntKind.u32 ((x+4294967296 - y - c) % 4294967296:Nat)),U (n:Int)],([]:List Ob))) key
def nO (a b:List Nat):Nat→Nat
 | 0=>0
 | i+1=>if a.getD i 0 < b.getD i 0+nO a b i then 1 else 0
def zW (a b:List Nat) (i:Nat):Nat:=(a.getD i 0+4294967296 - b.getD i 0 - nO a b i) % 4294967296
def ki (a b:List Nat) (i:Nat):List Nat:=(List.range i).map (zW a b)
theorem Bp (a b:List Nat) (i:Nat):nO a b i≤1:=by
 cases i with
 | zero=>simp [nO]
 | succ i=>simp only [nO]; split <;> omega
theorem G6 {a b:List Nat} (ha:Lb a) (hb:Lb b):∀ i,ac (ki a b i)+ac (b.take i)=ac (a.take i)+4294967296 ^ i*nO a b i
 | 0=>by simp [ki,nO,ac]
 | i+1=>by
  have ih:=G6 ha hb i
  rw [jD a i,jD b i]
  simp only [ki] at ih ⊢
  rw [rO,Nat.pow_succ]
  have h1:=dQ ha i
  have h2:=dQ hb i
  have h3:=Bp a b i
  have e:zW a b i+b.getD i 0+nO a b i=a.getD i 0+4294967296*nO a b (i+1):=by
   simp only [zW,nO]
   split <;> omega
  have h4:4294967296 ^ i*(zW a b i+b.getD i 0+nO a b i)=4294967296 ^ i*(a.getD i 0+4294967296*nO a b (i+1)):=by rw [e]
  simp only [Nat.mul_add] at h4
  rw [← Nat.mul_assoc] at h4
  omega
theorem mS (a b:List Nat) (i:Nat):(ki a b i).length=i:=by simp [ki]
theorem IR (a b:List Nat) (i:Nat):Lb (ki a b i):=fun x hx=>by
 simp only [ki,List.mem_map] at hx
 obtain ⟨j,_,rfl⟩:=hx
 simp only [zW]
 omega
theorem Od {a b:List Nat} (ha:Lb a) (hb:Lb b) (hl:b.length≤a.length) (hv:ac b≤ac a):ki a b a.length=dj a.length (ac a - ac b):=by
 have h:=G6 ha hb a.length
 rw [List.take_length,List.take_of_length_le hl] at h
 have h1:=ju (IR a b a.length)
 rw [mS] at h1
 have hz:nO a b a.length=0:=by
  have:=Bp a b a.length
  rcases Nat.eq_zero_or_pos (nO a b a.length) with h0 | h0
  ·exact h0
  ·have:nO a b a.length=1:=by omega
   rw [this] at h
   omega
 rw [hz] at h
 have h2:=uL (IR a b a.length)
 rw [mS,show ac (ki a b a.length)=ac a - ac b from by omega] at h2
 exact h2.symm
theorem Oe {a b:List Nat} (ha:Lb a) (hb:Lb b) (h2:a.length≤100000):∀ (k i:Nat),i+k=a.length→∀ (s:af) (h:aa),s 1=lm b→s 5=.rsl 16 none 1 0 a.length→s 6=U (nO a b i:Nat) →
  s 17=lm a→s 18=I (a.length:Nat)→s 19=I i→h 16=.ar 1 (aP (ki a b i++List.replicate k 0)) →
  aI 0 [5] (aU (az R (ab false) gS) [1,5,6,17,18,19] [16] s h) =
   some (.normal,⟨upd (fun _=>.any) 5 (.rsl 16 none 1 0 a.length),upd (fun _=>.dead) 16 (.ar 1 (aP (ki a b a.length)))⟩):=by
 intro k
 induction k with
 | zero =>
  intro i hi s h h1 h5 h6 h17 h18 h19 hh
  have:i=a.length:=by omega
  subst this
  rw [aA]
  simp only [List.replicate_zero,List.append_nil] at hh
  simp only [gS,go_sem,↓reduceIte,aez,aeD,h1,h5,h6,h17,h18,h19,hh,Int.lt_irrefl]
 | succ k ih =>
  intro i hi s h h1 h5 h6 h17 h18 h19 hh
  have ih':=ih (i+1) (by omega)
  have e1:((i:Int) < (a.length:Int))=True:=tt (by omega)
  have e2:bH (aP a) (i:Int)=some (.ipt [U (a.getD i 0:Nat)]):=df rfl (by omega)
  have e3:IntKind.i64.wrap ((i:Int)+1)=((i+1:Nat):Int):=wi (by omega) (by omega)
  have e4:(0≤(i:Int))=True:=tt (by omega)
  have e7:(aP (ki a b i++List.replicate (k+1) 0))[i]?=some [U (0:Nat)]:=by
   rw [qZ (by simp [mS])]
   simp [List.getD_eq_getElem?_getD,mS]
  have e8:(aP (ki a b i++List.replicate (k+1) 0)).set i [U ((a.getD i 0+4294967296 - b.getD i 0 - nO a b i) % 4294967296:Nat)]=aP (ki a b (i+1)++List.replicate k 0):=by
   rw [re]
   have:=rP (ki a b i) (k+1) (zW a b i) 0 (by omega)
   rw [mS] at this
   rw [show (a.getD i 0+4294967296 - b.getD i 0 - nO a b i) % 4294967296=zW a b i from rfl,this]
   simp [ki,List.range_succ]
  rw [aA]
  generalize aU _ _ _=L at ih' ⊢
  by_cases hb':i < b.length
  ·have e6:=G5 (dQ ha i) (dQ hb i) (Bp a b i)
   have e9:((i:Int) < (b.length:Int))=True:=tt (by omega)
   have e10:bH (aP b) (i:Int)=some (.ipt [U (b.getD i 0:Nat)]):=df rfl hb'
   simp only [gS,go_sem,↓reduceIte,aez,aeB,aeA,aeC,aeD,h1,h5,h6,h17,h18,h19,hh,e1,e2,e3,e4,e6,e7,e8,e9,e10,Int.toNat_natCast,Nat.zero_add]
   exact ih' _ _ rfl rfl rfl rfl rfl rfl rfl
  ·have e9:((i:Int) < (b.length:Int))=False:=ff (by omega)
   have e10:b.getD i 0=0:=by simp [List.getD_eq_getElem?_getD,List.getElem?_eq_none (show b.length≤i from by omega)]
   have e6':=G5 (dQ ha i) (y:=0) (by omega) (Bp a b i)
   simp only [Int.natCast_zero] at e6'
   have e8':(aP (ki a b i++List.replicate (k+1) 0)).set i [U ((a.getD i 0+4294967296 - 0 - nO a b i) % 4294967296:Nat)]=aP (ki a b (i+1)++List.replicate k 0):=by
    have e8':=e8
    rw [e10] at e8'
    exact e8'
   simp only [gS,go_sem,↓reduceIte,aez,aeB,aeA,aeC,aeD,h1,h5,h6,h17,h18,h19,hh,e1,e2,e3,e4,e6',e7,e8',e9,Int.toNat_natCast,Nat.zero_add]
   refine ih' _ _ rfl rfl ?_ rfl rfl rfl rfl
   simp only [nO,e10,Nat.zero_add]
   rfl
theorem LW {a b:List Nat} (ha:Lb a) (hb:Lb b) (h1:a.length≤100000) (h2:b.length≤100000) (hv:ac b≤ac a):R F.natural_sub [lm a,lm b] []=some (lm (dj (av (ac a)).length (ac a - ac b)),[]):=by
 refine aZ Ez Ey (zK false) rfl ?_
 have la:=dJ a ha
 have lb:(av (ac b)).length≤(av (ac a)).length:=by
  rcases Nat.lt_or_ge (av (ac a)).length (av (ac b)).length with h | h
  ·have:=uR h; omega
  ·exact h
 have e2:=qm (i:=((av (ac a)).length:Int)) (j:=((av (ac a)).length:Int)) rfl rfl (Nat.le_refl _) (by omega)
 have e3:((av (ac a)).length*4≤140737488355328)=True:=tt (by omega)
 have e4:=Oe (ce (ac a)) (ce (ac b)) (by omega) (av (ac a)).length 0 (by omega)
 have e5:aP (List.replicate (av (ac a)).length 0)=aP (ki (av (ac a)) (av (ac b)) 0++List.replicate (av (ac a)).length 0):=rfl
 have e6:=Od (ce (ac a)) (ce (ac b)) lb (by rw [bL,bL]; exact hv)
 rw [bL,bL] at e6
 simp only [l9,vC,go_sem,↓reduceIte,aez,aeB,aeA,dk ha (by omega),dk hb (by omega),e2,e3,tJ,e5]
 rw [e4 _ _ rfl rfl rfl rfl rfl rfl rfl]
 simp only [go_sem,↓reduceIte,aeC,aeE,e6,ct,Nat.zero_add,Nat.le_refl]
theorem Si {a b:List Nat} (ha:Lb a) (hb:Lb b) (h1:a.length≤256) (h2:b.length≤256):R F.natural_Sub [lm a,lm b] []=some (if ac a < ac b then .tup [lm [],I 2] else jd (ac a - ac b),[]):=by
 refine aZ Eg Ef (zA false) rfl ?_
 have e1:(256 < a.length)=False:=ff (by omega)
 have e2:(256 < b.length)=False:=ff (by omega)
 by_cases hv:ac a < ac b
 ·have e3:dm (ac a) (ac b)=-1:=by simp [dm,hv]
  simp only [gE,m5,go_sem,↓reduceIte,aez,aeB,aeA,aeC,aeE,aiy,e1,e2,nC,xe ha hb (by omega) (by omega),e3,hv]
 ·have e3:(dm (ac a) (ac b) < 0)=False:=ff (by simp only [dm]; split <;> (try split) <;> omega)
  have e5:ac (dj (av (ac a)).length (ac a - ac b))=ac a - ac b:=by
   rw [pz,Nat.mod_eq_of_lt]
   have:=il (ac a)
   omega
  have e4:=tK (py (av (ac a)).length (ac a - ac b)) (by rw [ct]; have:=dJ a ha; omega)
  rw [e5] at e4
  unfold jd at e4 ⊢
  by_cases hl:256 < (av (ac a - ac b)).length
  ·simp only [hl,if_true] at e4 ⊢
   simp only [gE,m5,go_sem,↓reduceIte,aez,aeB,aeA,aeC,aeE,e1,e2,nC,xe ha hb (by omega) (by omega),e3,hv,LW ha hb (by omega) (by omega) (by omega),e4]
  ·simp only [hl,if_false] at e4 ⊢
   simp only [gE,m5,go_sem,↓reduceIte,aez,aeB,aeA,aeC,aeE,e1,e2,nC,xe ha hb (by omega) (by omega),e3,hv,LW ha hb (by omega) (by omega) (by omega),e4]
end Go.Ab
namespace Go.Ab
open Go Go.IntWalk
set_option maxRecDepth 4000
def mi (x:Nat):Nat→List Nat→List Nat→List Nat × Nat
 | c,y::bs,o::s=>(((x*y+o+c) % 4294967296)::(mi x ((x*y+o+c) / 4294967296) bs s).1,(mi x ((x*y+o+c) / 4294967296) bs s).2)
 | c,_,s=>(s,c)
theorem LX (x:Nat):∀ (bs s r:List Nat) (c:Nat),bs.length≤s.length→mi x c bs (s++r)=((mi x c bs s).1++r,(mi x c bs s).2)
 | [],s,r,c,_=>by simp [mi]
 | y::bs,[],r,c,h=>by simp at h
 | y::bs,o::s,r,c,h=>by
  have ih:=LX x bs s r ((x*y+o+c) / 4294967296) (by simpa using h)
  simp only [List.cons_append,mi,ih]
theorem xf (x:Nat):∀ (bs s:List Nat) (c:Nat),(mi x c bs s).1.length=s.length
 | [],s,c=>by simp [mi]
 | y::bs,[],c=>by simp [mi]
 | y::bs,o::s,c=>by simp [mi,xf x bs s]
theorem PH (x:Nat):∀ (bs s:List Nat) (c:Nat),Lb s→Lb (mi x c bs s).1
 | [],s,c,h=>by simpa [mi] using h
 | y::bs,[],c,h=>by simpa [mi] using h
 | y::bs,o::s,c,h=>by
  simp only [mi]
  exact eX.2 ⟨by omega,PH x bs s _ (eX.1 h).2⟩
theorem LY {x y o c:Nat} (hx:x < 4294967296) (hy:y < 4294967296) (ho:o < 4294967296) (hc:c < 4294967296):x*y+o+c < 18446744073709551616:=by
 have:x*y≤4294967295*4294967295:=Nat.mul_le_mul (by omega) (by omega)
 omega
theorem zX {x:Nat} (hx:x < 4294967296):∀ (bs s:List Nat) (c:Nat),Lb bs→Lb s→c < 4294967296→(mi x c bs s).2 < 4294967296
 | [],s,c,_,_,hc=>by simpa [mi] using hc
 | y::bs,[],c,_,_,hc=>by simpa [mi] using hc
 | y::bs,o::s,c,hb,hs,hc=>by
  simp only [mi]
  have:=LY hx (eX.1 hb).1 (eX.1 hs).1 hc
  exact zX hx bs s _ (eX.1 hb).2 (eX.1 hs).2 (by omega)
theorem LZ (x:Nat):∀ (bs s:List Nat) (c:Nat),bs.length=s.length→ac (mi x c bs s).1+4294967296 ^ s.length*(mi x c bs s).2=ac s+x*ac bs+c
 | [],[],c,_=>by simp [mi,ac]
 | [],o::s,c,h=>by simp at h
 | y::bs,[],c,h=>by simp at h
 | y::bs,o::s,c,h=>by
  have ih:=LZ x bs s ((x*y+o+c) / 4294967296) (by simpa using h)
  simp only [mi,ac,List.length_cons,Nat.pow_succ]
  have e1:4294967296 ^ s.length*4294967296*(mi x ((x*y+o+c) / 4294967296) bs s).2=4294967296*(4294967296 ^ s.length*(mi x ((x*y+o+c) / 4294967296) bs s).2):=by
   rw [Nat.mul_comm (4294967296 ^ s.length) 4294967296,Nat.mul_assoc]
  have e2:x*(y+4294967296*ac bs)=x*y+4294967296*(x*ac bs):=by
   rw [Nat.mul_add]
   congr 1
   rw [← Nat.mul_assoc,Nat.mul_comm x,Nat.mul_assoc]
  rw [e1,e2]
  omega
theorem KD {a b:List Nat} (hb:Lb b) {x i n:Nat} (hx:x < 4294967296) (h2:b.length≤100000) (hi:i≤100000):∀ (bs:List Nat) (k:Nat) (D S:List Nat) (c:Nat),b.drop k=bs→k≤b.length→D.length=i+k→bs.length≤S.length→(D++S).length=n→Lb S→c < 4294967296 →
  ∀ (s:af) (h:aa),s 18=lm a→s 19=I (a.length:Nat)→s 20=I i→s 1=lm b→s 5=.rsl 17 none 1 0 n→s 6=I i→s 7=U x→s 8=W c→s 25=lm b→s 26=I (b.length:Nat)→s 27=I k→h 17=.ar 1 (aP (D++S)) →
  aI 2 [1,5,6,8,18,19,20] (aU (az R (ab false) jY) [1,5,6,7,8,18,19,20,25,26,27] [17] s h) =
   some (.normal,⟨upd (upd (upd (upd (upd (upd (upd (fun _=>.any) 20 (I i)) 19 (I (a.length:Nat))) 18 (lm a)) 8 (W ((mi x c bs S).2:Nat))) 6 (I i)) 5 (.rsl 17 none 1 0 n)) 1 (lm b),upd (fun _=>.dead) 17 (.ar 1 (aP (D++(mi x c bs S).1)))⟩):=by
 intro bs
 induction bs with
 | nil =>
  intro k D S c hd hk hD hS hn hLS hc s h h18 h19 h20 h1 h5 h6 h7 h8 h25 h26 h27 hh
  have:k=b.length:=by
   have:=congrArg List.length hd
   simp at this
   omega
  subst this
  rw [aA]
  simp only [jY,go_sem,↓reduceIte,aez,aeD,h18,h19,h20,h1,h5,h6,h7,h8,h25,h26,h27,hh,Int.lt_irrefl,mi]
 | cons y bs ih =>
  intro k D S c hd hk hD hS hn hLS hc s h h18 h19 h20 h1 h5 h6 h7 h8 h25 h26 h27 hh
  obtain ⟨o,S,rfl⟩:∃ o S',S=o::S':=by
   cases S with
   | nil=>simp at hS
   | cons o S=>exact ⟨o,S,rfl⟩
  have hlt:k < b.length:=by
   have:=congrArg List.length hd
   simp at this
   omega
  have hy:b.getD k 0=y:=by
   have:=congrArg (·[0]?) hd
   simp only [List.getElem?_drop,Nat.add_zero,List.getElem?_cons_zero] at this
   rw [List.getD_eq_getElem?_getD,this]
   rfl
  have hyb:y < 4294967296:=by rw [← hy]; exact dQ hb k
  have hob:o < 4294967296:=(eX.1 hLS).1
  have hml:=LY hx hyb hob hc
  have hxy:x*y < 18446744073709551616:=by omega
  have ih':=ih (k+1) (D++[(x*y+o+c) % 4294967296]) S ((x*y+o+c) / 4294967296) (by rw [← List.drop_drop,hd]; rfl) hlt (by simp [hD]; omega) (by simpa using hS) (by simpa using hn) (eX.1 hLS).2 (by omega)
  have e1:((k:Int) < (b.length:Int))=True:=tt (by omega)
  have e2:bH (aP b) (k:Int)=some (.ipt [U (y:Nat)]):=by rw [df rfl hlt,hy]
  have e3:IntKind.i64.wrap ((k:Int)+1)=((k+1:Nat):Int):=wi (by omega) (by omega)
  have e4:IntKind.i64.wrap ((i:Int)+(k:Int))=((i+k:Nat):Int):=wi (by omega) (by omega)
  have e5:(0≤((i+k:Nat):Int))=True:=tt (by omega)
  have hin:i+k < n:=by rw [← hn]; simp [hD]
  have e6:(((i+k:Nat):Int) < (n:Int))=True:=tt (by omega)
  have e7:(aP (D++o::S))[i+k]?=some [U (o:Nat)]:=by
   rw [qZ (by simp [hD])]
   simp [List.getD_eq_getElem?_getD,hD]
  have f1:IntKind.u64.wrap (x:Int)=x:=pf rfl (by omega)
  have f2:IntKind.u64.wrap (y:Int)=y:=pf rfl (by omega)
  have f3:IntKind.u64.wrap ((x:Int)*(y:Int))=((x*y:Nat):Int):=pf (by simp) hxy
  have f4:IntKind.u64.wrap (o:Int)=o:=pf rfl (by omega)
  have f5:IntKind.u64.wrap (((x*y:Nat):Int)+(o:Int))=((x*y+o:Nat):Int):=pf (by omega) (by omega)
  have f6:IntKind.u64.wrap (((x*y+o:Nat):Int)+(c:Int))=((x*y+o+c:Nat):Int):=pf (by omega) (by omega)
  have f7:IntKind.u32.wrap ((x*y+o+c:Nat):Int)=(((x*y+o+c) % 4294967296:Nat):Int):=Cw rfl
  have f8:=xT (n:=x*y+o+c) (k:=32) (kk:=.u64) (j:=32) rfl rfl (by omega)
  have f9:(aP (D++o::S)).set (i+k) [U ((x*y+o+c) % 4294967296:Nat)]=aP (D++[(x*y+o+c) % 4294967296]++S):=by
   rw [re,← hD,List.set_append_right _ _ (Nat.le_refl _)]
   simp
  rw [aA]
  generalize aU _ _ _=L at ih' ⊢
  simp only [jY,go_sem,↓reduceIte,aez,aeC,aeD,h18,h19,h20,h1,h5,h6,h7,h8,h25,h26,h27,hh,e1,e2,e3,e4,e5,e6,e7,f1,f2,f3,f4,f5,f6,f7,f8,f9,Int.toNat_natCast,Nat.zero_add,mi]
  rw [ih' _ _ rfl rfl rfl rfl rfl rfl rfl rfl rfl rfl rfl rfl]
  simp only [List.append_assoc,List.singleton_append]
def bF (a b:List Nat) (i:Nat):List Nat:=dj (i+b.length) (ac (a.take i)*ac b)
theorem L4 {a b:List Nat} (ha:Lb a) (hb:Lb b) {i:Nat} (hi:i < a.length) :
  (bF a b i).take i++((mi (a.getD i 0) 0 b ((bF a b i).drop i)).1++[(mi (a.getD i 0) 0 b ((bF a b i).drop i)).2])=bF a b (i+1):=by
 have hx:=dQ ha i
 have hP:(bF a b i).length=i+b.length:=ct _ _
 have hLP:Lb (bF a b i):=py _ _
 have hS:((bF a b i).drop i).length=b.length:=by simp [hP]
 have h1:=LZ (a.getD i 0) b ((bF a b i).drop i) 0 hS.symm
 have h2:=zX hx b ((bF a b i).drop i) 0 hb (tD hLP i) (by omega)
 have h3:=PH (a.getD i 0) b ((bF a b i).drop i) 0 (tD hLP i)
 have h4:=xf (a.getD i 0) b ((bF a b i).drop i) 0
 have hvP:ac (bF a b i)=ac (a.take i)*ac b:=by
  unfold bF
  rw [pz,Nat.mod_eq_of_lt]
  have e1:=ju (qX ha i)
  have e2:=ju hb
  rw [List.length_take,Nat.min_eq_left (by omega)] at e1
  rw [Nat.pow_add]
  exact Nat.mul_lt_mul'' e1 e2
 have hsplit:ac (bF a b i)=ac ((bF a b i).take i)+4294967296 ^ i*ac ((bF a b i).drop i):=by
  conv=>lhs; rw [← List.take_append_drop i (bF a b i)]
  rw [fu,List.length_take,hP,Nat.min_eq_left (by omega)]
 have hLb:Lb ((bF a b i).take i++((mi (a.getD i 0) 0 b ((bF a b i).drop i)).1++[(mi (a.getD i 0) 0 b ((bF a b i).drop i)).2])) :=
  nN.2 ⟨qX hLP i,nN.2 ⟨h3,eX.2 ⟨h2,AY⟩⟩⟩
 have hval:ac ((bF a b i).take i++((mi (a.getD i 0) 0 b ((bF a b i).drop i)).1++[(mi (a.getD i 0) 0 b ((bF a b i).drop i)).2]))=ac (a.take (i+1))*ac b:=by
  rw [fu,fu,List.length_take,hP,Nat.min_eq_left (by omega),h4,jD a i,Nat.add_mul,← hvP,hsplit]
  simp only [ac,Nat.mul_zero,Nat.add_zero] at h1 ⊢
  rw [h1,Nat.mul_add,Nat.mul_assoc]
  omega
 have hlen:((bF a b i).take i++((mi (a.getD i 0) 0 b ((bF a b i).drop i)).1++[(mi (a.getD i 0) 0 b ((bF a b i).drop i)).2])).length=i+1+b.length:=by
  simp only [List.length_append,List.length_take,hP,h4,hS,List.length_cons,List.length_nil]
  omega
 have:=uL hLb
 rw [hlen,hval] at this
 exact this.symm
theorem Of {a b:List Nat} (ha:Lb a) (hb:Lb b) (h1:a.length≤100000) (h2:b.length≤100000):∀ (k i:Nat),i+k=a.length→∀ (s:af) (h:aa),s 1=lm b→s 5=.rsl 17 none 1 0 (a.length+b.length) →
  s 18=lm a→s 19=I (a.length:Nat)→s 20=I i→h 17=.ar 1 (aP (bF a b i++List.replicate k 0)) →
  aI 0 [5] (aU (az R (ab false) jZ) [1,5,18,19,20] [17] s h) =
   some (.normal,⟨upd (fun _=>.any) 5 (.rsl 17 none 1 0 (a.length+b.length)),upd (fun _=>.dead) 17 (.ar 1 (aP (bF a b a.length)))⟩):=by
 intro k
 induction k with
 | zero =>
  intro i hi s h h1 h5 h18 h19 h20 hh
  have:i=a.length:=by omega
  subst this
  rw [aA]
  simp only [List.replicate_zero,List.append_nil] at hh
  simp only [jZ,go_sem,↓reduceIte,aez,aeD,h1,h5,h18,h19,h20,hh,Int.lt_irrefl]
 | succ k ih =>
  intro i hi s h g1 h5 h18 h19 h20 hh
  have ih':=ih (i+1) (by omega)
  have hx:=dQ ha i
  have hP:(bF a b i).length=i+b.length:=ct _ _
  have hLP:Lb (bF a b i):=py _ _
  have hsp:bF a b i++List.replicate (k+1) 0=(bF a b i).take i++((bF a b i).drop i++List.replicate (k+1) 0):=by rw [← List.append_assoc,List.take_append_drop]
  have e1:((i:Int) < (a.length:Int))=True:=tt (by omega)
  have e2:bH (aP a) (i:Int)=some (.ipt [U (a.getD i 0:Nat)]):=df rfl (by omega)
  have e3:IntKind.i64.wrap ((i:Int)+1)=((i+1:Nat):Int):=wi (by omega) (by omega)
  have e4:IntKind.i64.wrap ((i:Int)+(b.length:Int))=((i+b.length:Nat):Int):=wi (by omega) (by omega)
  have e5:(0≤((i+b.length:Nat):Int))=True:=tt (by omega)
  have e6:(((i+b.length:Nat):Int) < ((a.length+b.length:Nat):Int))=True:=tt (by omega)
  have lp:=KD (a:=a) hb (x:=a.getD i 0) (i:=i) (n:=a.length+b.length) hx h2 (by omega) b 0 ((bF a b i).take i) ((bF a b i).drop i++List.replicate (k+1) 0) 0 rfl (Nat.zero_le _) (by simp [hP]) (by simp [hP]) (by simp [hP]; omega)
   (nN.2 ⟨tD hLP i,fun y hy=>by rw [List.eq_of_mem_replicate hy]; omega⟩) (by omega)
  rw [LX _ _ _ _ _ (by simp [hP])] at lp
  have ml:(mi (a.getD i 0) 0 b ((bF a b i).drop i)).1.length=b.length:=by rw [xf]; simp [hP]
  have mc:=zX hx b ((bF a b i).drop i) 0 hb (tD hLP i) (by omega)
  have ps:=L4 ha hb (show i < a.length from by omega)
  rw [hsp] at hh
  generalize mi (a.getD i 0) 0 b ((bF a b i).drop i)=r at *
  have f1:IntKind.u32.wrap (r.2:Int)=(r.2:Int):=PF rfl mc
  have hlen:((bF a b i).take i++r.1).length=i+b.length:=by simp [hP,ml]
  have e7:(aP ((bF a b i).take i++(r.1++List.replicate (k+1) 0)))[i+b.length]?=some [U (0:Nat)]:=by
   rw [← List.append_assoc,qZ (by simp [hP,ml]),List.getD_eq_getElem?_getD,List.getElem?_append_right (by omega)]
   simp [hlen]
  have e8:(aP ((bF a b i).take i++(r.1++List.replicate (k+1) 0))).set (i+b.length) [U (r.2:Nat)]=aP (bF a b (i+1)++List.replicate k 0):=by
   rw [← List.append_assoc,re]
   have:=rP ((bF a b i).take i++r.1) (k+1) r.2 0 (by omega)
   rw [hlen] at this
   have e:(bF a b i).take i++r.1++[r.2]=bF a b (i+1):=by rw [List.append_assoc]; exact ps
   rw [this,e]
   rfl
  rw [aA]
  generalize aU _ _ _=L at ih' ⊢
  simp only [jZ,go_sem,↓reduceIte,aez,aeD,g1,h5,h18,h19,h20,hh,e1,e2]
  rw [lp _ _ rfl rfl rfl rfl rfl rfl rfl rfl rfl rfl rfl rfl]
  simp only [go_sem,↓reduceIte,aez,aeC,e3,e4,e5,e6,e7,e8,f1,Int.toNat_natCast,Nat.zero_add]
  exact ih' _ _ rfl rfl rfl rfl rfl rfl
theorem Sj {a b:List Nat} (ha:Lb a) (hb:Lb b) (h1:a.length≤100000) (h2:b.length≤100000):R F.natural_mul [lm a,lm b] []=some (lm (dj (a.length+b.length) (ac a*ac b)),[]):=by
 refine aZ Ej Ei (zC false) rfl ?_
 have e1:IntKind.i64.wrap ((a.length:Int)+(b.length:Int))=((a.length+b.length:Nat):Int):=wi (by omega) (by omega)
 have e2:=qm (i:=((a.length+b.length:Nat):Int)) (j:=((a.length+b.length:Nat):Int)) rfl rfl (Nat.le_refl _) (by omega)
 have e3:((a.length+b.length)*4≤140737488355328)=True:=tt (by omega)
 have e4:=Of ha hb h1 h2 a.length 0 (by omega)
 have e0:bF a b 0=List.replicate b.length 0:=by
  have:∀ n,dj n 0=List.replicate n 0:=fun n=>by
   induction n with
   | zero=>rfl
   | succ n ih=>simp [dj,ih,List.replicate_succ]
  simp [bF,ac,this]
 have e5:aP (List.replicate (a.length+b.length) 0)=aP (bF a b 0++List.replicate a.length 0):=by
  rw [e0,List.replicate_append_replicate,Nat.add_comm]
 have e6:bF a b a.length=dj (a.length+b.length) (ac a*ac b):=by rw [bF,List.take_length]
 simp only [l8,vA,go_sem,↓reduceIte,aez,e1,e2,e3,tJ,e5]
 rw [e4 _ _ rfl rfl rfl rfl rfl rfl]
 simp only [go_sem,↓reduceIte,aeC,aeE,e6,ct,Nat.zero_add,Nat.le_refl]
theorem Sk {a b:List Nat} (ha:Lb a) (hb:Lb b) (h1:a.length≤256) (h2:b.length≤256):R F.natural_Mul [lm a,lm b] []=some (jd (ac a*ac b),[]):=by
 refine aZ DW DV (y5 false) rfl ?_
 have e1:(256 < a.length)=False:=ff (by omega)
 have e2:(256 < b.length)=False:=ff (by omega)
 have la:=dJ a ha
 have lb:=dJ b hb
 have e3:=Sj (ce (ac a)) (ce (ac b)) (by omega) (by omega)
 rw [bL,bL] at e3
 have e4:=tK (py ((av (ac a)).length+(av (ac b)).length) (ac a*ac b)) (by rw [ct]; omega)
 rw [pz,Nat.mod_eq_of_lt (by rw [Nat.pow_add]; exact Nat.mul_lt_mul'' (il _) (il _))] at e4
 unfold jd at e4 ⊢
 by_cases hl:256 < (av (ac a*ac b)).length
 ·simp only [hl,if_true] at e4 ⊢
  simp only [jo,qx,go_sem,↓reduceIte,aez,aeB,aeA,aeC,aeE,e1,e2,nC,dk ha (by omega),dk hb (by omega),e3,e4]
 ·simp only [hl,if_false] at e4 ⊢
  simp only [jo,qx,go_sem,↓reduceIte,aez,aeB,aeA,aeC,aeE,e1,e2,nC,dk ha (by omega),dk hb (by omega),e3,e4]
end Go.Ab
namespace Go.Ab
open Go Go.IntWalk
set_option maxRecDepth 4000
theorem IS {n m:Nat} {i j:Int} (hi:i=n) (hj:j=m) (hm:m ≠ 0):dB .rem (.v (.int .i64 i)) (.v (.int .i64 j))=some (.v (.int .i64 ((n % m:Nat):Int))):=by
 subst hi hj
 rw [IG,if_neg (by omega),Int.tmod_eq_emod_of_nonneg (by omega)]
 rfl
theorem IT {n m:Nat} {i j:Int} (hi:i=n) (hj:j=m) (hm:m ≠ 0) (hn:n < 9223372036854775808):dB .quo (.v (.int .i64 i)) (.v (.int .i64 j))=some (.v (.int .i64 ((n / m:Nat):Int))):=by
 subst hi hj
 rw [P0,if_neg (by omega),Int.tdiv_eq_ediv_of_nonneg (by omega)]
 have:n / m≤n:=Nat.div_le_self _ _
 rw [wi (n:=n / m) (by simp) (by omega)]
theorem PI {n k:Nat} {i:Int} {kk:IntKind} {j:Int} (hi:i=n) (hj:j=k) (hk:k≤64) (h:n*2 ^ k < 18446744073709551616):dB .shl (.v (.int .u64 i)) (.v (.int kk j))=some (.v (.int .u64 ((n*2 ^ k:Nat):Int))):=by
 subst hi hj
 rw [P1,if_neg (by omega)]
 have:min (k:Int).toNat IntKind.u64.bits=k:=by simp [IntKind.bits]; omega
 rw [this,pf (n:=n*2 ^ k) (by simp) h]
theorem Sl {m n:Nat} {i j:Int} (hi:i=m) (hj:j=n) (hm:m < 18446744073709551616) (hn:n < 18446744073709551616):dB .or (.v (.int .u64 i)) (.v (.int .u64 j))=some (.v (.int .u64 ((m ||| n:Nat):Int))):=by
 subst hi hj
 rw [RX]
 have e:(BitVec.ofInt IntKind.u64.bits (m:Int) ||| BitVec.ofInt IntKind.u64.bits (n:Int)).toNat=m ||| n:=by
  show (BitVec.ofInt 64 (m:Int) ||| BitVec.ofInt 64 (n:Int)).toNat=m ||| n
  rw [BitVec.toNat_or]
  simp
  rw [Nat.mod_eq_of_lt hm,Nat.mod_eq_of_lt hn]
 rw [e]
 rw [pf rfl (Nat.or_lt_two_pow (n:=64) hm hn)]
theorem L5 {x c k:Nat} (hc:c < 2 ^ k):x*2 ^ k ||| c=x*2 ^ k+c:=by
 have:=Nat.shiftLeft_add_eq_or_of_lt hc x
 rw [Nat.shiftLeft_eq] at this
 exact this.symm
def fW (a:List Nat) (r:Nat):Nat→Nat
 | 0=>0
 | i+1=>(a.getD i 0*2 ^ r+fW a r i) / 4294967296
def nP (a:List Nat) (r i:Nat):List Nat:=(List.range i).map fun j=>(a.getD j 0*2 ^ r+fW a r j) % 4294967296
theorem Bq {a:List Nat} (ha:Lb a) {r:Nat}:∀ i,fW a r i < 2 ^ r
 | 0=>by simp only [fW]; exact Nat.two_pow_pos r
 | i+1=>by
  have ih:=Bq ha (r:=r) i
  have:=dQ ha i
  simp only [fW]
  rw [Nat.div_lt_iff_lt_mul (by omega)]
  have h1:a.getD i 0*2 ^ r+2 ^ r≤4294967296*2 ^ r:=by
   rw [← Nat.succ_mul]
   exact Nat.mul_le_mul_right _ (by omega)
  rw [Nat.mul_comm 4294967296] at h1
  omega
theorem qS (a:List Nat) (r i:Nat):(nP a r i).length=i:=by simp [nP]
theorem Sm (a:List Nat) (r i:Nat):Lb (nP a r i):=fun x hx=>by
 simp only [nP,List.mem_map] at hx
 obtain ⟨j,_,rfl⟩:=hx
 omega
theorem IU (a:List Nat) (r:Nat):∀ i,ac (nP a r i)+4294967296 ^ i*fW a r i=ac (a.take i)*2 ^ r
 | 0=>by simp [nP,fW,ac]
 | i+1=>by
  have ih:=IU a r i
  rw [jD a i]
  simp only [nP] at ih ⊢
  rw [rO,Nat.pow_succ]
  have e:fW a r (i+1)*4294967296+(a.getD i 0*2 ^ r+fW a r i) % 4294967296=a.getD i 0*2 ^ r+fW a r i:=by
   simp only [fW]
   omega
  have h1:4294967296 ^ i*(fW a r (i+1)*4294967296+(a.getD i 0*2 ^ r+fW a r i) % 4294967296)=4294967296 ^ i*(a.getD i 0*2 ^ r+fW a r i):=by rw [e]
  simp only [Nat.mul_add] at h1
  have h2:4294967296 ^ i*4294967296*fW a r (i+1)=4294967296 ^ i*(fW a r (i+1)*4294967296):=by rw [Nat.mul_assoc,Nat.mul_comm 4294967296]
  have h3:(ac (a.take i)+4294967296 ^ i*a.getD i 0)*2 ^ r=ac (a.take i)*2 ^ r+4294967296 ^ i*(a.getD i 0*2 ^ r):=by rw [Nat.add_mul,Nat.mul_assoc]
  omega
theorem Og {a:List Nat} (ha:Lb a) {n q:Nat} (h1:a.length≤100000) (hq:q≤100000):∀ (k i:Nat),i+k=a.length→∀ (s:af) (h:aa),s 1=I (n:Nat)→s 5=.rsl 20 none 1 0 (q+i)→s 6=W (fW a (n % 32) i:Nat)→s 21=lm a→s 22=I (a.length:Nat)→s 23=I i →
  h 20=.ar 1 (aP (List.replicate q 0++nP a (n % 32) i))→h 38=.dead →
  aI 0 [5,6] (aU (az R (ab false) j1) [1,5,6,21,22,23] [20,38] s h) =
   some (.normal,⟨upd (upd (fun _=>.any) 6 (W (fW a (n % 32) a.length:Nat))) 5 (.rsl 20 none 1 0 (q+a.length)),upd (upd (fun _=>.dead) 38 .dead) 20 (.ar 1 (aP (List.replicate q 0++nP a (n % 32) a.length)))⟩):=by
 intro k
 induction k with
 | zero =>
  intro i hi s h g1 h5 h6 h21 h22 h23 hh hh2
  have:i=a.length:=by omega
  subst this
  rw [aA]
  simp only [j1,go_sem,↓reduceIte,aez,aeD,g1,h5,h6,h21,h22,h23,hh,hh2,Int.lt_irrefl]
 | succ k ih =>
  intro i hi s h g1 h5 h6 h21 h22 h23 hh hh2
  have ih':=ih (i+1) (by omega)
  have hx:=dQ ha i
  have hr:n % 32 < 32:=Nat.mod_lt _ (by omega)
  have hc:=Bq ha (r:=n % 32) i
  have hp:2 ^ (n % 32)≤2 ^ 31:=Nat.pow_le_pow_right (by omega) (by omega)
  have hxp:a.getD i 0*2 ^ (n % 32)≤4294967295*2 ^ 31:=Nat.mul_le_mul (by omega) hp
  have e1:((i:Int) < (a.length:Int))=True:=tt (by omega)
  have e2:bH (aP a) (i:Int)=some (.ipt [U (a.getD i 0:Nat)]):=df rfl (by omega)
  have e3:IntKind.i64.wrap ((i:Int)+1)=((i+1:Nat):Int):=wi (by omega) (by omega)
  have e4:IntKind.u64.wrap (a.getD i 0:Int)=(a.getD i 0:Int):=pf rfl (by omega)
  have e5:=IS (n:=n) (m:=32) (j:=32) rfl rfl (by omega)
  have e6:=PI (n:=a.getD i 0) (k:=n % 32) (kk:=.i64) rfl rfl (by omega) (by omega)
  have e7:=Sl (m:=a.getD i 0*2 ^ (n % 32)) (n:=fW a (n % 32) i) rfl rfl (by omega) (by omega)
  rw [L5 hc] at e7
  have e8:IntKind.u32.wrap ((a.getD i 0*2 ^ (n % 32)+fW a (n % 32) i:Nat):Int)=(((a.getD i 0*2 ^ (n % 32)+fW a (n % 32) i) % 4294967296:Nat):Int):=Cw rfl
  have e9:=xT (n:=a.getD i 0*2 ^ (n % 32)+fW a (n % 32) i) (k:=32) (kk:=.u64) (j:=32) rfl rfl (by omega)
  have f1:aP (List.replicate q 0++nP a (n % 32) i)++[[U ((a.getD i 0*2 ^ (n % 32)+fW a (n % 32) i) % 4294967296:Nat)]]=aP (List.replicate q 0++nP a (n % 32) (i+1)):=by
   rw [show [[U ((a.getD i 0*2 ^ (n % 32)+fW a (n % 32) i) % 4294967296:Nat)]]=aP [(a.getD i 0*2 ^ (n % 32)+fW a (n % 32) i) % 4294967296] from rfl,Bm,List.append_assoc]
   simp [nP,List.range_succ]
  have f2:(q+i=(List.replicate q 0++nP a (n % 32) i).length)=True:=tt (by simp [qS])
  have f3:((q+i+1)*4≤140737488355328)=True:=tt (by omega)
  rw [aA]
  generalize aU _ _ _=L at ih' ⊢
  simp only [j1,go_sem,↓reduceIte,aez,aeC,aeE,aeD,g1,h5,h6,h21,h22,h23,hh,hh2,e1,e2,e3,e4,e5,e6,e7,e8,e9,f1,f2,f3,true_or,Nat.zero_add,Nat.le_refl]
  exact ih' _ _ rfl rfl rfl rfl rfl rfl rfl rfl
theorem xg (n:Nat):4294967296 ^ (n / 32)*2 ^ (n % 32)=2 ^ n:=by
 rw [show (4294967296:Nat)=2 ^ 32 from rfl,← Nat.pow_mul,← Nat.pow_add]
 congr 1
 omega
theorem Qw {a:List Nat} (ha:Lb a) (n:Nat):List.replicate (n / 32) 0++nP a (n % 32) a.length++[fW a (n % 32) a.length]=dj (n / 32+a.length+1) (ac a*2 ^ n):=by
 have hr:n % 32 < 32:=Nat.mod_lt _ (by omega)
 have hc:=Bq ha (r:=n % 32) a.length
 have hp:2 ^ (n % 32)≤2 ^ 31:=Nat.pow_le_pow_right (by omega) (by omega)
 have h:=IU a (n % 32) a.length
 rw [List.take_length] at h
 have hLb:Lb (List.replicate (n / 32) 0++nP a (n % 32) a.length++[fW a (n % 32) a.length]) :=
  nN.2 ⟨nN.2 ⟨fun y hy=>by rw [List.eq_of_mem_replicate hy]; omega,Sm _ _ _⟩,eX.2 ⟨by omega,AY⟩⟩
 have hv:ac (List.replicate (n / 32) 0++nP a (n % 32) a.length++[fW a (n % 32) a.length])=ac a*2 ^ n:=by
  rw [List.append_assoc,fu,Dg,fu,qS,List.length_replicate]
  simp only [ac,Nat.mul_zero,Nat.add_zero,Nat.zero_add]
  rw [h,← xg n,Nat.mul_left_comm]
 have:=uL hLb
 rw [hv] at this
 rw [← this]
 congr 1
 simp [qS]
 omega
theorem L6 {a:List Nat} (ha:Lb a) {n:Nat} (h1:a.length≤100000) (hn:n≤65536):R F.natural_shl [lm a,I n] []=some (lm (dj (n / 32+(av (ac a)).length+1) (ac a*2 ^ n)),[]):=by
 refine aZ EF EE (zR false) rfl ?_
 have la:=dJ a ha
 have hc:=Bq (ce (ac a)) (r:=n % 32) (av (ac a)).length
 have hp:2 ^ (n % 32)≤2 ^ 31:=Nat.pow_le_pow_right (by omega) (by have:n % 32 < 32:=Nat.mod_lt _ (by omega); omega)
 have e1:=IT (n:=n) (m:=32) (j:=32) rfl rfl (by omega) (by omega)
 have e2:IntKind.i64.wrap (((n / 32:Nat):Int)+((av (ac a)).length:Int))=((n / 32+(av (ac a)).length:Nat):Int):=wi (by omega) (by omega)
 have e3:IntKind.i64.wrap (((n / 32+(av (ac a)).length:Nat):Int)+1)=((n / 32+(av (ac a)).length+1:Nat):Int):=wi (by omega) (by omega)
 have e4:=qm (i:=((n / 32:Nat):Int)) (j:=((n / 32+(av (ac a)).length+1:Nat):Int)) rfl rfl (by omega) (by omega)
 have e5:((n / 32+(av (ac a)).length+1)*4≤140737488355328)=True:=tt (by omega)
 have e6:=Og (ce (ac a)) (n:=n) (q:=n / 32) (by omega) (by omega) (av (ac a)).length 0 (by omega)
 have e7:aP (List.replicate (n / 32) 0)=aP (List.replicate (n / 32) 0++nP (av (ac a)) (n % 32) 0):=by simp [nP]
 have e8:IntKind.u32.wrap ((fW (av (ac a)) (n % 32) (av (ac a)).length:Nat):Int)=((fW (av (ac a)) (n % 32) (av (ac a)).length:Nat):Int):=PF rfl (by omega)
 have f1:aP (List.replicate (n / 32) 0++nP (av (ac a)) (n % 32) (av (ac a)).length)++[[U (fW (av (ac a)) (n % 32) (av (ac a)).length:Nat)]]=aP (dj (n / 32+(av (ac a)).length+1) (ac a*2 ^ n)):=by
  have:=Qw (ce (ac a)) n
  rw [bL] at this
  rw [← this,show [[U (fW (av (ac a)) (n % 32) (av (ac a)).length:Nat)]]=aP [fW (av (ac a)) (n % 32) (av (ac a)).length] from rfl,Bm]
 have f2:(n / 32+(av (ac a)).length=(List.replicate (n / 32) 0++nP (av (ac a)) (n % 32) (av (ac a)).length).length)=True:=tt (by simp [qS])
 simp only [me,vE,go_sem,↓reduceIte,aez,aeB,aeA,dk ha (by omega),e1,e2,e3,e4,e5,tJ,e7]
 rw [e6 _ _ rfl rfl rfl rfl rfl rfl rfl rfl]
 simp only [go_sem,↓reduceIte,aez,aeC,aeE,e8,f1,f2,e5,true_or,Nat.zero_add,Nat.le_refl,ct]
theorem Sn {a:List Nat} (ha:Lb a) {n:Int} (h1:a.length≤256):R F.natural_Shl [lm a,I n] []=some (if n < 0∨65536 < n then .tup [lm [],I 2] else jd (ac a*2 ^ n.toNat),[]):=by
 refine aZ Er Ep (zH false) rfl ?_
 have e1:(256 < a.length)=False:=ff (by omega)
 by_cases hn:n < 0
 ·simp only [eU,kE,go_sem,↓reduceIte,aez,aeB,aeA,aeC,aeE,e1,kh,hn,true_or]
 by_cases hn2:65536 < n
 ·simp only [eU,kE,go_sem,↓reduceIte,aez,aeB,aeA,aeC,aeE,e1,kh,hn,hn2,or_true]
 obtain ⟨m,rfl⟩:=Int.eq_ofNat_of_zero_le (show 0≤n by omega)
 have la:=dJ a ha
 have e3:ac (dj (m / 32+(av (ac a)).length+1) (ac a*2 ^ m))=ac a*2 ^ m:=by
  rw [pz,Nat.mod_eq_of_lt]
  have h:=il (ac a)
  have h2:2 ^ m≤4294967296 ^ (m / 32+1):=by
   rw [show (4294967296:Nat)=2 ^ 32 from rfl,← Nat.pow_mul]
   exact Nat.pow_le_pow_right (by omega) (by omega)
  rw [show m / 32+(av (ac a)).length+1=(av (ac a)).length+(m / 32+1) from by omega,Nat.pow_add]
  exact Nat.mul_lt_mul_of_lt_of_le h h2 (Nat.pow_pos (by omega))
 have e4:=tK (py (m / 32+(av (ac a)).length+1) (ac a*2 ^ m)) (by rw [ct]; omega)
 rw [e3] at e4
 unfold jd at e4 ⊢
 by_cases hl:256 < (av (ac a*2 ^ m)).length
 ·simp only [hl,if_true] at e4
  simp only [eU,kE,go_sem,↓reduceIte,aez,aeB,aeA,aeC,aeE,e1,kh,hn,hn2,L6 ha (n:=m) (by omega) (by omega),e4,or_false,Int.toNat_natCast,hl]
 ·simp only [hl,if_false] at e4
  simp only [eU,kE,go_sem,↓reduceIte,aez,aeB,aeA,aeC,aeE,e1,kh,hn,hn2,L6 ha (n:=m) (by omega) (by omega),e4,or_false,Int.toNat_natCast,hl]
theorem G7 {l:List Nat} (h:Lb l) (i:Nat):ac (l.drop i)=ac l / 4294967296 ^ i:=by
 rcases Nat.lt_or_ge l.length i with hi | hi
 ·rw [List.drop_of_length_le (by omega)]
  have:=ju h
  have h2:4294967296 ^ l.length≤4294967296 ^ i:=Nat.pow_le_pow_right (by omega) (by omega)
  rw [Nat.div_eq_of_lt (by omega)]
  rfl
 ·have h1:ac l=ac (l.take i)+4294967296 ^ i*ac (l.drop i):=by
   conv=>lhs; rw [← List.take_append_drop i l]
   rw [fu,List.length_take,Nat.min_eq_left hi]
  have h2:=ju (qX h i)
  rw [List.length_take,Nat.min_eq_left hi] at h2
  rw [h1,Nat.add_mul_div_left _ _ (Nat.pow_pos (by omega)),Nat.div_eq_of_lt h2]
  omega
theorem eA (l:List Nat) (i:Nat):ac (l.drop i)=l.getD i 0+4294967296*ac (l.drop (i+1)):=by
 rcases Nat.lt_or_ge i l.length with hi | hi
 ·rw [List.drop_eq_getElem_cons hi,ac]
  simp [List.getD_eq_getElem?_getD,hi]
 ·rw [List.drop_of_length_le hi,List.drop_of_length_le (by omega)]
  simp [List.getD_eq_getElem?_getD,List.getElem?_eq_none hi,ac]
def uS (a:List Nat) (r i:Nat):Nat:=(a.getD i 0+4294967296*a.getD (i+1) 0) / 2 ^ r % 4294967296
theorem Qx {a:List Nat} (ha:Lb a) {r:Nat} (hr:r≤32) (i:Nat):uS a r i=IQ (ac a / 2 ^ r) i:=by
 unfold uS IQ
 have e0:ac a / 2 ^ r / 4294967296 ^ i=ac (a.drop i) / 2 ^ r:=by rw [Nat.div_div_eq_div_mul,Nat.mul_comm,← Nat.div_div_eq_div_mul,← G7 ha]
 rw [e0,eA a i,eA a (i+1)]
 generalize ac (a.drop (i+1+1))=w
 have e:(4294967296:Nat)=2 ^ r*2 ^ (32 - r):=by rw [← Nat.pow_add,show r+(32 - r)=32 from by omega]
 have h1:a.getD i 0+4294967296*(a.getD (i+1) 0+4294967296*w)=(a.getD i 0+4294967296*a.getD (i+1) 0)+2 ^ r*(2 ^ (32 - r)*4294967296*w):=by
  have:2 ^ r*(2 ^ (32 - r)*4294967296*w)=4294967296*4294967296*w:=by
   rw [← Nat.mul_assoc,← Nat.mul_assoc,← e]
  rw [this,Nat.mul_add]
  omega
 rw [h1,Nat.add_mul_div_left _ _ (Nat.two_pow_pos r),Nat.mul_assoc,Nat.mul_left_comm,Nat.add_mul_mod_self_left]
def pG (a:List Nat) (r i:Nat):List Nat:=(List.range i).map (uS a r)
theorem pU (a:List Nat) (r i:Nat):(pG a r i).length=i:=by simp [pG]
theorem Oh {a:List Nat} (ha:Lb a) {r:Nat} (hr:r≤32):pG a r a.length=dj a.length (ac a / 2 ^ r):=by
 refine G1 (pU _ _ _) fun i hi=>?_
 rw [← Qx ha hr]
 simp [pG,hi]
theorem Oi {a:List Nat} (ha:Lb a) {n:Nat} (h1:a.length≤100000):∀ (k i:Nat),i+k=a.length→∀ (s:af) (h:aa),s 0=lm a→s 1=I (n:Nat)→s 5=.rsl 22 none 1 0 a.length→s 23=lm a→s 24=I (a.length:Nat)→s 25=I i →
  h 22=.ar 1 (aP (pG a (n % 32) i++List.replicate k 0)) →
  aI 0 [5] (aU (az R (ab false) gT) [0,1,5,23,24,25] [22] s h) =
   some (.normal,⟨upd (fun _=>.any) 5 (.rsl 22 none 1 0 a.length),upd (fun _=>.dead) 22 (.ar 1 (aP (pG a (n % 32) a.length)))⟩):=by
 intro k
 induction k with
 | zero =>
  intro i hi s h h0 g1 h5 h23 h24 h25 hh
  have:i=a.length:=by omega
  subst this
  rw [aA]
  simp only [List.replicate_zero,List.append_nil] at hh
  simp only [gT,go_sem,↓reduceIte,aez,aeD,h0,g1,h5,h23,h24,h25,hh,Int.lt_irrefl]
 | succ k ih =>
  intro i hi s h h0 g1 h5 h23 h24 h25 hh
  have ih':=ih (i+1) (by omega)
  have hx:=dQ ha i
  have hy:=dQ ha (i+1)
  have hr:n % 32 < 32:=Nat.mod_lt _ (by omega)
  have e1:((i:Int) < (a.length:Int))=True:=tt (by omega)
  have e2:bH (aP a) (i:Int)=some (.ipt [U (a.getD i 0:Nat)]):=df rfl (by omega)
  have e3:IntKind.i64.wrap ((i:Int)+1)=((i+1:Nat):Int):=wi (by omega) (by omega)
  have e4:IntKind.u64.wrap (a.getD i 0:Int)=(a.getD i 0:Int):=pf rfl (by omega)
  have e5:=IS (n:=n) (m:=32) (j:=32) rfl rfl (by omega)
  have e6:(0≤(i:Int))=True:=tt (by omega)
  have e7:(aP (pG a (n % 32) i++List.replicate (k+1) 0))[i]?=some [U (0:Nat)]:=by
   rw [qZ (by simp [pU])]
   simp [List.getD_eq_getElem?_getD,pU]
  have e8:(aP (pG a (n % 32) i++List.replicate (k+1) 0)).set i [U (uS a (n % 32) i:Nat)]=aP (pG a (n % 32) (i+1)++List.replicate k 0):=by
   rw [re]
   have:=rP (pG a (n % 32) i) (k+1) (uS a (n % 32) i) 0 (by omega)
   rw [pU] at this
   rw [this]
   simp [pG,List.range_succ]
  rw [aA]
  generalize aU _ _ _=L at ih' ⊢
  by_cases hl:i+1 < a.length
  ·have f1:(((i+1:Nat):Int) < (a.length:Int))=True:=tt (by omega)
   have f2:bH (aP a) ((i+1:Nat):Int)=some (.ipt [U (a.getD (i+1) 0:Nat)]):=df rfl hl
   have f3:IntKind.u64.wrap (a.getD (i+1) 0:Int)=(a.getD (i+1) 0:Int):=pf rfl (by omega)
   have f4:=PI (n:=a.getD (i+1) 0) (k:=32) (kk:=.u64) (j:=32) rfl rfl (by omega) (by omega)
   have f5:=Sl (m:=a.getD i 0) (n:=a.getD (i+1) 0*2 ^ 32) rfl rfl (by omega) (by omega)
   rw [Nat.or_comm,L5 (show a.getD i 0 < 2 ^ 32 from by omega)] at f5
   have f6:=xT (n:=a.getD (i+1) 0*2 ^ 32+a.getD i 0) (k:=n % 32) (kk:=.i64) rfl rfl (by omega)
   have f7:IntKind.u32.wrap (((a.getD (i+1) 0*2 ^ 32+a.getD i 0) / 2 ^ (n % 32):Nat):Int)=((uS a (n % 32) i:Nat):Int):=by
    rw [Cw rfl]
    unfold uS
    rw [show a.getD (i+1) 0*2 ^ 32+a.getD i 0=a.getD i 0+4294967296*a.getD (i+1) 0 from by omega]
   simp only [gT,go_sem,↓reduceIte,aez,aeC,aeD,h0,g1,h5,h23,h24,h25,hh,e1,e2,e3,e4,e5,e6,e7,e8,f1,f2,f3,f4,f5,f6,f7,Int.toNat_natCast,Nat.zero_add]
   exact ih' _ _ rfl rfl rfl rfl rfl rfl rfl
  ·have f1:(((i+1:Nat):Int) < (a.length:Int))=False:=ff (by omega)
   have f2:a.getD (i+1) 0=0:=by simp [List.getD_eq_getElem?_getD,List.getElem?_eq_none (show a.length≤i+1 from by omega)]
   have f6:=xT (n:=a.getD i 0) (k:=n % 32) (kk:=.i64) rfl rfl (by omega)
   have f7:IntKind.u32.wrap ((a.getD i 0 / 2 ^ (n % 32):Nat):Int)=((uS a (n % 32) i:Nat):Int):=by
    rw [Cw rfl]
    unfold uS
    rw [f2]
    rfl
   simp only [gT,go_sem,↓reduceIte,aez,aeC,aeD,h0,g1,h5,h23,h24,h25,hh,e1,e2,e3,e4,e5,e6,e7,e8,f1,f6,f7,Int.toNat_natCast,Nat.zero_add]
   exact ih' _ _ rfl rfl rfl rfl rfl rfl rfl
theorem So {a:List Nat} (ha:Lb a) {n:Nat} (h1:a.length≤100000) (hn:n≤100000000):R F.natural_shr [lm a,I n] []=some (lm (dj ((av (ac a)).length - n / 32) (ac a / 2 ^ n)),[]):=by
 refine aZ EC EB (zN false) rfl ?_
 have la:=dJ a ha
 have e1:=IT (n:=n) (m:=32) (j:=32) rfl rfl (by omega) (by omega)
 by_cases hl:(av (ac a)).length≤n / 32
 ·have e2:(((av (ac a)).length:Int)≤((n / 32:Nat):Int))=True:=tt (by omega)
  have e3:dj ((av (ac a)).length - n / 32) (ac a / 2 ^ n)=[]:=by rw [show (av (ac a)).length - n / 32=0 from by omega]; rfl
  simp only [jt,qz,go_sem,↓reduceIte,aez,aeB,aeA,dk ha (by omega),e1,e2,e3]
 ·have e2:(((av (ac a)).length:Int)≤((n / 32:Nat):Int))=False:=ff (by omega)
  have hD:((av (ac a)).drop (n / 32)).length=(av (ac a)).length - n / 32:=by simp
  have hLD:Lb ((av (ac a)).drop (n / 32)):=tD (ce _) _
  have e3:dK 1 (lm (av (ac a))) (some (I (n / 32:Nat))) none none=some (lm ((av (ac a)).drop (n / 32))):=by
   rw [GY (a:=n / 32) (b:=(av (ac a)).length) (uQ rfl (by omega)) rfl (Nat.le_refl _),List.take_of_length_le (by omega)]
  have hv:ac ((av (ac a)).drop (n / 32)) / 2 ^ (n % 32)=ac a / 2 ^ n:=by
   rw [G7 (ce _),bL,Nat.div_div_eq_div_mul,xg]
  have e6:=Oh hLD (r:=n % 32) (by omega)
  rw [hv,hD] at e6
  generalize (av (ac a)).drop (n / 32)=D at *
  have e4:=qm (i:=(D.length:Int)) (j:=(D.length:Int)) rfl rfl (Nat.le_refl _) (by omega)
  have e5:(D.length*4≤140737488355328)=True:=tt (by omega)
  have e7:=Oi hLD (n:=n) (by omega) D.length 0 (by omega)
  have e8:aP (List.replicate D.length 0)=aP (pG D (n % 32) 0++List.replicate D.length 0):=by simp [pG]
  rw [← hD] at e6 ⊢
  simp only [jt,qz,go_sem,↓reduceIte,aez,aeB,aeA,dk ha (by omega),e1,e2,e3,e4,e5,tJ,e8]
  rw [e7 _ _ rfl rfl rfl rfl rfl rfl rfl]
  simp only [go_sem,↓reduceIte,aeC,aeE,e6,ct,Nat.zero_add,Nat.le_refl]
theorem Sp {a:List Nat} (ha:Lb a) {n:Int} (h1:a.length≤256):R F.natural_Shr [lm a,I n] []=some (if n < 0∨65536 < n then .tup [lm [],I 2] else .tup [lm (av (ac a / 2 ^ n.toNat)),I 0],[]):=by
 refine aZ Em El (zG false) rfl ?_
 have e1:(256 < a.length)=False:=ff (by omega)
 by_cases hn:n < 0
 ·simp only [gF,m7,go_sem,↓reduceIte,aez,aeB,aeA,aeC,aeE,e1,kh,hn,true_or]
 by_cases hn2:65536 < n
 ·simp only [gF,m7,go_sem,↓reduceIte,aez,aeB,aeA,aeC,aeE,e1,kh,hn,hn2,or_true]
 obtain ⟨m,rfl⟩:=Int.eq_ofNat_of_zero_le (show 0≤n by omega)
 have la:=dJ a ha
 have hlt:=il (ac a)
 have h32:ac a / 2 ^ m < 4294967296 ^ ((av (ac a)).length - m / 32):=by
  rw [Nat.div_lt_iff_lt_mul (Nat.two_pow_pos m),← xg m]
  refine Nat.lt_of_lt_of_le hlt ?_
  rw [← Nat.mul_assoc,← Nat.pow_add]
  refine Nat.le_trans (Nat.pow_le_pow_right (by omega) (show (av (ac a)).length≤(av (ac a)).length - m / 32+m / 32 by omega)) (Nat.le_mul_of_pos_right _ (Nat.two_pow_pos _))
 have e3:ac (dj ((av (ac a)).length - m / 32) (ac a / 2 ^ m))=ac a / 2 ^ m:=by
  rw [pz,Nat.mod_eq_of_lt h32]
 have e4:=tK (py ((av (ac a)).length - m / 32) (ac a / 2 ^ m)) (by rw [ct]; omega)
 rw [e3] at e4
 have hl:¬ 256 < (av (ac a / 2 ^ m)).length:=by
  have:=nc h32
  omega
 unfold jd at e4
 simp only [hl,if_false] at e4
 simp only [gF,m7,go_sem,↓reduceIte,aez,aeB,aeA,aeC,aeE,e1,kh,hn,hn2,So ha (n:=m) (by omega) (by omega),e4,or_false,Int.toNat_natCast]
end Go.Ab
namespace Go.Ab
open Go Go.IntWalk
set_option maxRecDepth 4000
def am (n:Nat):Nat:=if n=0 then 0 else n.log2+1
theorem cX {n k:Nat}:am n≤k↔n < 2 ^ k:=by
 unfold am
 split
 ·rename_i h
  subst h
  exact ⟨fun _=>Nat.two_pow_pos k,fun _=>Nat.zero_le _⟩
 ·rename_i h
  rw [Nat.succ_le_iff]
  exact Nat.log2_lt h
theorem al6 {q k:Nat} (h:am q≤k):am (q+1)≤k+1:=by
 rw [cX] at h ⊢
 rw [Nat.pow_succ]
 omega
theorem asH {n k:Nat} (h:n≤k):am (2 ^ n - 1)≤k:=cX.2 (by
 have h1:=Nat.two_pow_pos n
 have h2:=Nat.pow_le_pow_right (n:=2) (by decide) h
 omega)
theorem L7 {x y k:Nat} (h:x≤y) (h2:am y≤k):am x≤k:=cX.2 (Nat.lt_of_le_of_lt h (cX.1 h2))
theorem kH {n k:Nat}:k < am n↔2 ^ k≤n:=by
 have:=@cX n k
 omega
theorem L8:am 0=0:=rfl
theorem kj {n:Nat} (h:n ≠ 0):0 < am n:=by
 rw [kH]
 omega
theorem zY (n k:Nat):am (n / 2 ^ k)=am n - k:=by
 have h:∀ j,am (n / 2 ^ k)≤j↔am n - k≤j:=fun j=>by
  rw [cX,Nat.div_lt_iff_lt_mul (Nat.two_pow_pos k),← Nat.pow_add,← cX]
  omega
 have h1:=(h _).1 (Nat.le_refl _)
 have h2:=(h _).2 (Nat.le_refl _)
 omega
theorem lO {n:Nat} (k:Nat) (hn:n ≠ 0):am (n*2 ^ k)=am n+k:=by
 have h:=zY (n*2 ^ k) k
 rw [Nat.mul_div_cancel _ (Nat.two_pow_pos k)] at h
 have h2:k < am (n*2 ^ k):=by
  rw [kH]
  exact Nat.le_mul_of_pos_left _ (by omega)
 omega
def EV:ByteArray:=⟨#[0,1,2,2,3,3,3,3,4,4,4,4,4,4,4,4,5,5,5,5,5,5,5,5,5,5,5,5,5,5,5,5,6,6,6,6,6,6,6,6,6,6,6,6,6,6,6,6,6,6,6,6,6,6,6,6,6,6,6,6,6,6,6,6,7,7,7,7,7,7,7,7,7,7,7,7,7,7,7,7,7,7,7,7,7,7,7,7,7,7,7,7,7,7,7,7,7,7,7,7,7,7,7,7,7,7,7,7,7,7,7,7,7,7,7,7,7,7,7,7,7,7,7,7,7,7,7,7,8,8,8,8,8,8,8,8,8,8,8,8,8,8,8,8,8,8,8,8,8,8,8,8,8,8,8,8,8,8,8,8,8,8,8,8,8,8,8,8,8,8,8,8,8,8,8,8,8,8,8,8,8,8,8,8,8,8,8,8,8,8,8,8,8,8,8,8,8,8,8,8,8,8,8,8,8,8,8,8,8,8,8,8,8,8,8,8,8,8,8,8,8,8,8,8,8,8,8,8,8,8,8,8,8,8,8,8,8,8,8,8,8,8,8,8,8,8,8,8,8,8,8,8,8,8,8,8]⟩
theorem Oj:((List.range 256).all fun x=>(EV[x]?).map (·.toNat) == some (am x))=true:=by decide +kernel
theorem KE {x:Nat} (h:x < 256):xD (.v (.string EV)) (.v (.int .u8 x))=some (.v (.int .u8 (am x:Nat))):=by
 have:=List.all_eq_true.1 Oj x (List.mem_range.2 h)
 simp only [beq_iff_eq] at this
 simp only [xD]
 rw [if_pos (by omega),Int.toNat_natCast]
 cases hq:EV[x]? with
 | none=>rw [hq] at this; cases this
 | some y =>
  rw [hq] at this
  simp only [Option.map_some,Option.some.injEq] at this ⊢
  rw [this]
theorem uT:wS=.seq (.ops [0,2] [co 2 (.mv (.c (.v (.int .i64 0))))]) (.seq (.seq (.ops [0,2,4] [cm 3 0,co 4 (.bin .geq (.t 3) (.c (.v (.int .u32 65536))))]) (.cond (.t 4) (.seq (.ops [0] [cm 5 0,co 6 (.bin .shr (.t 5) (.c (.v (.int .u64 16)))),cm 0 6]) (.ops [0,2] [co 2 (.mv (.c (.v (.int .i64 16))))])) (.skip))) (.seq (.seq (.ops [0,2,8] [cm 7 0,co 8 (.bin .geq (.t 7) (.c (.v (.int .u32 256))))]) (.cond (.t 8) (.seq (.ops [0,2] [cm 9 0,co 10 (.bin .shr (.t 9) (.c (.v (.int .u64 8)))),cm 0 10]) (.ops [0,2] [cm 11 2,co 12 (.bin .add (.t 11) (.c (.v (.int .i64 8)))),cm 2 12])) (.skip))) (.seq (.ops [2] [cm 13 2,cm 14 0,co 15 (.cv .u8 (.t 14)),co 16 (.idxS (.c (.v (.string EV))) (.t 15)),co 17 (.cv .i64 (.t 16)),co 18 (.bin .add (.t 13) (.t 17)),cm 2 18]) (.ret)))):=rfl
theorem w8 {i:Int} {n:Nat} (h:i=n) (hn:n < 256):IntKind.u8.wrap i=n:=by rw [IntKind.wrap_u8]; omega
theorem KF {n k:Nat} {i:Int} {kk:IntKind} {j:Int} (hi:i=n) (hj:j=k) (hk:k≤32):dB .shr (.v (.int .u32 i)) (.v (.int kk j))=some (.v (.int .u32 ((n / 2 ^ k:Nat):Int))):=by
 subst hi hj
 rw [BW,if_neg (by omega)]
 have:min (k:Int).toNat IntKind.u32.bits=k:=by simp [IntKind.bits]; omega
 rw [this]
 simp only [Option.some.injEq,AV.v.injEq,Value.int.injEq,true_and]
 rw [Int.fdiv_eq_ediv_of_nonneg _ (Int.pow_nonneg (by omega))]
 simp
theorem sw {x:Nat} (k:Nat) (h:2 ^ k≤x):am x=k+am (x / 2 ^ k):=by
 have:=zY x k
 have:=kH.2 h
 omega
theorem Ol {x:Nat} (hx:x < 4294967296):R F.bits_Len32 [U x] []=some (I (am x:Nat),[]):=by
 refine aZ GP GO (Bj false) rfl ?_
 have fin:∀ {y:Nat},y < 256→∀ {n:Nat},n≤24→IntKind.u8.wrap (y:Int)=y∧IntKind.i64.wrap (am y:Int)=(am y:Int)∧IntKind.i64.wrap ((n:Int)+(am y:Int))=((n+am y:Nat):Int):=fun {y} hy {n} hn=>by
  have:am y≤8:=cX.2 hy
  exact ⟨w8 rfl hy,wi rfl (by omega),wi (by omega) (by omega)⟩
 have s16:=KF (n:=x) (k:=16) (kk:=.u64) (j:=16) rfl rfl (by omega)
 by_cases h1:65536≤x
 ·have e1:((65536:Int)≤(x:Int))=True:=tt (by omega)
  have b1:=sw 16 h1
  have s8:=KF (n:=x / 2 ^ 16) (k:=8) (kk:=.u64) (j:=8) rfl rfl (by omega)
  by_cases h2:256≤x / 2 ^ 16
  ·have e2:((256:Int)≤((x / 2 ^ 16:Nat):Int))=True:=tt (by omega)
   have b2:=sw 8 h2
   have hy:x / 2 ^ 16 / 2 ^ 8 < 256:=by omega
   obtain ⟨f1,f2,f3⟩:=fin hy (n:=24) (by omega)
   have g:IntKind.i64.wrap (24:Int)=24:=by rw [i64_in] <;> omega
   have f3':IntKind.i64.wrap ((24:Int)+(am (x / 2 ^ 16 / 2 ^ 8):Int))=((am x:Nat):Int):=by rw [b1,b2]; rw [wi (n:=24+am (x / 2 ^ 16 / 2 ^ 8)) (by omega) (by have:=(cX (k:=8)).2 hy; omega)]; omega
   simp only [fL,uT,go_sem,↓reduceIte,aez,e1,s16,e2,s8,g,f1,KE hy,f2,f3',Int.reduceAdd]
  ·have e2:((256:Int)≤((x / 2 ^ 16:Nat):Int))=False:=ff (by omega)
   have hy:x / 2 ^ 16 < 256:=by omega
   obtain ⟨f1,f2,f3⟩:=fin hy (n:=16) (by omega)
   have f3':IntKind.i64.wrap ((16:Int)+(am (x / 2 ^ 16):Int))=((am x:Nat):Int):=by rw [b1]; rw [wi (n:=16+am (x / 2 ^ 16)) (by omega) (by have:=(cX (k:=8)).2 hy; omega)]
   simp only [fL,uT,go_sem,↓reduceIte,aez,aiy,aiz,e1,s16,e2,f1,KE hy,f2,f3']
 ·have e1:((65536:Int)≤(x:Int))=False:=ff (by omega)
  have s8:=KF (n:=x) (k:=8) (kk:=.u64) (j:=8) rfl rfl (by omega)
  by_cases h2:256≤x
  ·have e2:((256:Int)≤(x:Int))=True:=tt (by omega)
   have b2:=sw 8 h2
   have hy:x / 2 ^ 8 < 256:=by omega
   obtain ⟨f1,f2,f3⟩:=fin hy (n:=8) (by omega)
   have g:IntKind.i64.wrap (8:Int)=8:=by rw [i64_in] <;> omega
   have f3':IntKind.i64.wrap ((8:Int)+(am (x / 2 ^ 8):Int))=((am x:Nat):Int):=by rw [b2]; rw [wi (n:=8+am (x / 2 ^ 8)) (by omega) (by have:=(cX (k:=8)).2 hy; omega)]
   simp only [fL,uT,go_sem,↓reduceIte,aez,aiy,aiz,e1,e2,s8,g,f1,KE hy,f2,f3',Int.reduceAdd]
  ·have e2:((256:Int)≤(x:Int))=False:=ff (by omega)
   have hy:x < 256:=by omega
   obtain ⟨f1,f2,f3⟩:=fin hy (n:=0) (by omega)
   have f3':IntKind.i64.wrap ((0:Int)+(am x:Int))=((am x:Nat):Int):=by rw [wi (n:=am x) (by omega) (by have:=(cX (k:=8)).2 hy; omega)]
   simp only [fL,uT,go_sem,↓reduceIte,aez,aiy,aiz,e1,e2,f1,KE hy,f2,f3']
theorem Om {n:Nat} (h:n ≠ 0):am n=32*((av n).length - 1)+am ((av n).getD ((av n).length - 1) 0):=by
 induction n using Nat.strongRecOn with
 | ind n ih =>
  rw [mj h,List.length_cons,Nat.add_sub_cancel]
  by_cases h0:n / 4294967296=0
  ·rw [h0,fM]
   simp
   congr 1
   omega
  ·have h1:=ih _ (by omega) h0
   have h2:(av (n / 4294967296)).length ≠ 0:=by
    intro e
    exact h0 (mn.1 (List.length_eq_zero_iff.1 e))
   obtain ⟨k,hk⟩:∃ k,(av (n / 4294967296)).length=k+1:=⟨_,(Nat.succ_pred_eq_of_pos (by omega)).symm⟩
   rw [hk] at h1 ⊢
   rw [pA]
   simp only [Nat.add_sub_cancel] at h1
   have h3:=sw (x:=n) 32 (by omega)
   rw [show (2:Nat) ^ 32=4294967296 from rfl,h1] at h3
   omega
theorem Qy {m:List Nat} (hb:Lb m) (h1:m.length≤100000):R F.natural_Bits [lm m] []=some (I (am (ac m):Nat),[]):=by
 refine aZ Ci Ch (yf false) rfl ?_
 have la:=dJ m hb
 by_cases h:ac m=0
 ·have e1:((0:Nat):Int)=0:=rfl
  simp only [iC,pq,go_sem,↓reduceIte,aez,aeB,aeA,dk hb (by omega),h,fM,e1,L8]
 ·have hne:(av (ac m)).length ≠ 0:=fun e=>h (mn.1 (List.length_eq_zero_iff.1 e))
  have e1:(((av (ac m)).length:Int)=0)=False:=ff (by omega)
  have e2:IntKind.i64.wrap (((av (ac m)).length:Int) - 1)=(((av (ac m)).length - 1:Nat):Int):=wi (by omega) (by omega)
  have e3:IntKind.i64.wrap (32*(((av (ac m)).length - 1:Nat):Int))=((32*((av (ac m)).length - 1):Nat):Int):=wi (by omega) (by omega)
  have e4:bH (aP (av (ac m))) (((av (ac m)).length - 1:Nat):Int)=some (.ipt [U ((av (ac m)).getD ((av (ac m)).length - 1) 0:Nat)]):=df rfl (by omega)
  have e5:=Ol (dQ (ce (ac m)) ((av (ac m)).length - 1))
  have e6:am ((av (ac m)).getD ((av (ac m)).length - 1) 0)≤32:=cX.2 (dQ (ce (ac m)) _)
  have e7:IntKind.i64.wrap (((32*((av (ac m)).length - 1):Nat):Int)+(am ((av (ac m)).getD ((av (ac m)).length - 1) 0):Int))=((am (ac m):Nat):Int):=by
   rw [Om h]
   exact wi (by omega) (by omega)
  simp only [iC,pq,go_sem,↓reduceIte,aez,aeB,aeA,dk hb (by omega),e1,e2,e3,e4,e5,e7]
end Go.Ab
namespace Go.Ab
open Go Go.IntWalk
set_option maxRecDepth 4000
structure Rd where
 neg:Bool
 m:List Nat
 e:Int
def aW (d:Rd):List AV:=[B d.neg,lm d.m,I d.e]
def aF (d:Rd):AV:=.agg (aW d)
def fp:Rd:=⟨false,[],0⟩
def qC (n:Nat) (e:Int):Bool:=decide (n=0) || (decide (n≤4096) && (decide (-16384≤e) && (decide (e≤16384) && decide ((n:Int)+e≤16384))))
def vd (d:Rd):Bool:=if d.m.length=0 then !d.neg && decide (d.e=0) else decide (d.m.length≤256) && (decide (d.m.getD 0 0 % 2=1) && (decide (d.m.getD (d.m.length - 1) 0 ≠ 0) && qC (am (ac d.m)) d.e))
theorem nQ {m:List Nat} (hb:Lb m) (h1:m.length≤100000):R F.dyadic_size [lm m] []=some (I (am (ac m):Nat),[]):=by
 refine aZ DT DS (yY false) rfl ?_
 simp only [l5,vo,go_sem,↓reduceIte,aez,aeB,aeA,Qy hb h1]
theorem Br {d:Rd} (hb:Lb d.m) (h1:d.m.length≤100000):R F.dyadic_inRange [aF d] []=some (B (qC (am (ac d.m)) d.e),[]):=by
 refine aZ alY zk (vR false) rfl ?_
 unfold qC
 have hn:am (ac d.m)=0↔((am (ac d.m):Nat):Int)=0:=by omega
 by_cases a1:am (ac d.m)=0
 ·have e9:=nQ hb h1
  rw [a1,Int.natCast_zero] at e9
  simp only [cI,eR,aF,aW,go_sem,↓reduceIte,aez,aeB,aeA,aeC,e9,a1]
 have e1:(((am (ac d.m):Nat):Int)=0)=False:=ff (by omega)
 by_cases a2:¬ (am (ac d.m)≤4096)
 ·have e2:(((am (ac d.m):Nat):Int)≤4096)=False:=ff (by omega)
  simp only [cI,eR,aF,aW,go_sem,↓reduceIte,aez,aeB,aeA,nQ hb h1,e1,a1,e2,a2]
 replace a2:=Decidable.not_not.1 a2
 have e2:(((am (ac d.m):Nat):Int)≤4096)=True:=tt (by omega)
 by_cases a3:¬ (-16384≤d.e)
 ·simp only [cI,eR,aF,aW,go_sem,↓reduceIte,aez,aeB,aeA,nQ hb h1,e1,a1,e2,a2,a3]
 replace a3:=Decidable.not_not.1 a3
 by_cases a4:¬ (d.e≤16384)
 ·simp only [cI,eR,aF,aW,go_sem,↓reduceIte,aez,aeB,aeA,nQ hb h1,e1,a1,e2,a2,a3,a4]
 replace a4:=Decidable.not_not.1 a4
 have e3:IntKind.i64.wrap (((am (ac d.m):Nat):Int)+d.e)=((am (ac d.m):Nat):Int)+d.e:=by rw [i64_in]; omega
 simp only [cI,eR,aF,aW,go_sem,↓reduceIte,aez,aeB,aeA,nQ hb h1,e1,a1,e2,a2,a3,a4,e3]
structure Ok0 (d:Rd):Prop where
 lb:Lb d.m
 len:d.m.length < 4611686018427387904
theorem kl {d:Rd} (ok:Ok0 d):R F.dyadic_Valid [aF d] []=some (B (vd d),[]):=by
 refine aZ Cd Cc (yd false) rfl ?_
 unfold vd
 have hl:=ok.len
 by_cases a0:d.m.length=0
 ·rw [if_pos a0]
  have e1:((d.m.length:Int)=0)=True:=tt (by omega)
  cases hn:d.neg with
  | true=>simp only [cL,eP,aF,aW,hn,go_sem,↓reduceIte,aez,aeB,aeA,e1]
  | false=>simp only [cL,eP,aF,aW,hn,go_sem,↓reduceIte,aez,aeB,aeA,e1]
 rw [if_neg a0]
 have e1:((d.m.length:Int)=0)=False:=ff (by omega)
 by_cases a1:¬ d.m.length≤256
 ·have e2:((d.m.length:Int)≤256)=False:=ff (by omega)
  rw [decide_eq_false a1,Bool.false_and]
  simp only [cL,eP,aF,aW,go_sem,↓reduceIte,aez,aeB,aeA,aeC,e1,e2]
 replace a1:=Decidable.not_not.1 a1
 have e2:((d.m.length:Int)≤256)=True:=tt (by omega)
 have e3:bH (aP d.m) 0=some (.ipt [U (d.m.getD 0 0:Nat)]):=df rfl (by omega)
 have e4:dB .rem (.v (.int .u32 (d.m.getD 0 0:Nat))) (.v (.int .u32 2))=some (.v (.int .u32 ((d.m.getD 0 0 % 2:Nat):Int))):=by
  rw [IG,if_neg (by decide),Int.tmod_eq_emod_of_nonneg (by omega)]
  rfl
 rw [decide_eq_true a1,Bool.true_and]
 by_cases a2:¬ d.m.getD 0 0 % 2=1
 ·have e5:(((d.m.getD 0 0 % 2:Nat):Int)=1)=False:=ff (by omega)
  rw [decide_eq_false a2,Bool.false_and]
  simp only [cL,eP,aF,aW,go_sem,↓reduceIte,aez,aeB,aeA,aeC,e1,e2,e3,e4,e5]
 replace a2:=Decidable.not_not.1 a2
 have e5:(((d.m.getD 0 0 % 2:Nat):Int)=1)=True:=tt (by omega)
 rw [decide_eq_true a2,Bool.true_and]
 have e6:IntKind.i64.wrap ((d.m.length:Int) - 1)=((d.m.length - 1:Nat):Int):=wi (by omega) (by omega)
 have e7:bH (aP d.m) ((d.m.length - 1:Nat):Int)=some (.ipt [U (d.m.getD (d.m.length - 1) 0:Nat)]):=df rfl (by omega)
 by_cases a3:d.m.getD (d.m.length - 1) 0=0
 ·have e8:((d.m.getD (d.m.length - 1) 0:Int)=0)=True:=tt (by omega)
  rw [decide_eq_false (p:=d.m.getD (d.m.length - 1) 0 ≠ 0) (fun h=>h a3),Bool.false_and]
  simp only [cL,eP,aF,aW,go_sem,↓reduceIte,aez,aeB,aeA,aeC,e1,e2,e3,e4,e5,e6,e7,e8]
 have e8:((d.m.getD (d.m.length - 1) 0:Int)=0)=False:=ff (by omega)
 rw [decide_eq_true (p:=d.m.getD (d.m.length - 1) 0 ≠ 0) a3,Bool.true_and]
 have e9:=Br (d:=d) ok.lb (by omega)
 simp only [aF,aW] at e9
 simp only [cL,eP,aF,aW,go_sem,↓reduceIte,aez,aeB,aeA,aeC,e1,e2,e3,e4,e5,e6,e7,e8,e9]
theorem Qz {d:Rd} (ok:Ok0 d):R F.dyadic_Sign [aF d] []=some (I (if vd d=false∨d.m.length=0 then 0 else if d.neg=true then -1 else 1),[]):=by
 refine aZ D7 D6 (zf false) rfl ?_
 have hl:=ok.len
 have e9:=kl ok
 simp only [aF,aW] at e9
 cases hv:vd d with
 | false =>
  rw [hv] at e9
  rw [if_pos (Or.inl rfl)]
  simp only [eQ,kD,aF,aW,go_sem,↓reduceIte,aez,aeB,aeA,aeC,e9]
 | true =>
  rw [hv] at e9
  by_cases a0:d.m.length=0
  ·have e1:((d.m.length:Int)=0)=True:=tt (by omega)
   rw [if_pos (Or.inr a0)]
   simp only [eQ,kD,aF,aW,go_sem,↓reduceIte,aez,aeB,aeA,aeC,e9,e1]
  ·have e1:((d.m.length:Int)=0)=False:=ff (by omega)
   rw [if_neg (fun h=>h.elim (fun h=>nomatch h) a0)]
   cases hn:d.neg with
   | true =>
    rw [hn] at e9
    rw [if_pos rfl]
    simp only [eQ,kD,aF,aW,hn,go_sem,↓reduceIte,aez,aeB,aeA,aeC,e9,e1]
   | false =>
    rw [hn] at e9
    rw [if_neg (fun h=>nomatch h)]
    simp only [eQ,kD,aF,aW,hn,go_sem,↓reduceIte,aez,aeB,aeA,aeC,e9,e1]
end Go.Ab
namespace Go.Ab
open Go Go.IntWalk
set_option maxRecDepth 4000
theorem KG (m:List Nat) (h2:m.length < 4611686018427387904):∀ (n:Nat),n≤m.length→∀ (s:af) (h:aa),s 0=lm m→s 3=I n →
  aI 0 [0,3] (aU (az R (ab false) eL) [0,3] [] s h)=some (.normal,⟨upd (upd (fun _=>.any) 3 (I (iJ m n))) 0 (lm m),fun _=>.dead⟩):=by
 intro n
 induction n with
 | zero =>
  intro h1 s h h3 h4
  rw [aA]
  simp only [eL,go_sem,h3,h4,iJ,↓reduceIte,aez,Int.natCast_zero,Int.lt_irrefl]
 | succ n ih =>
  intro h1 s h h3 h4
  have hn:n < m.length:=h1
  have e3:IntKind.i64.wrap ((n:Int)+1 - 1)=n:=wi (by omega) (by omega)
  have e1:bH (aP m) (n:Int)=some (.ipt [U (m.getD n 0:Nat)]):=df rfl hn
  have e2:((0:Int) < (n:Int)+1)=True:=eq_true (by omega)
  have ih':=ih (by omega)
  rw [aA]
  generalize aU _ _ _=L at ih' ⊢
  by_cases hz:m.getD n 0=0
  ·simp only [eL,go_sem,h3,h4,iJ,↓reduceIte,aez,Int.natCast_add,Int.natCast_one,e3,e1,e2,hz,Int.natCast_zero]
   exact ih' _ _ rfl rfl
  ·simp only [eL,go_sem,h3,h4,iJ,↓reduceIte,aez,Int.natCast_add,Int.natCast_one,e3,e1,e2,hz,Int.natCast_eq_zero]
theorem G8 {m:List Nat} (hb:Lb m) (h:m.length < 4611686018427387904):R F.dyadic_trimmed [lm m] []=some (lm (av (ac m)),[]):=by
 refine aZ zE zD (vT false) rfl ?_
 have h1:dK 1 (lm m) none (some (I (iJ m m.length:Nat))) none=some (lm (av (ac m))):=by
  rw [GY (a:=0) (b:=iJ m m.length) rfl (uQ rfl (tE _ _)) (tE _ _),List.drop_zero,Nat.sub_zero,F9 hb]
 simp only [i9,rG,go_sem,↓reduceIte,aez,KG m h m.length (Nat.le_refl _),h1]
theorem ak1 {e:Int}:R F.dyadic_exponent [I e] []=some (B (decide (-32768≤e) && decide (e≤32768)),[]):=by
 refine aZ alJ alI (ald false) rfl ?_
 by_cases a1:¬ (-32768≤e)
 ·simp only [aiE,ajO,go_sem,↓reduceIte,aez,a1]
 replace a1:=Decidable.not_not.1 a1
 simp only [aiE,ajO,go_sem,↓reduceIte,aez,a1]
theorem Bs {d:Rd} (hb:Lb d.m) (h1:d.m.length≤100000):R F.dyadic_checked [aF d] []=some (if qC (am (ac d.m)) d.e=true then .tup [aF d,I 0] else .tup [aF fp,I 9],[]):=by
 refine aZ y7 y6 (vP false) rfl ?_
 have e9:=Br hb h1
 simp only [aF,aW] at e9
 cases hv:qC (am (ac d.m)) d.e with
 | false =>
  rw [hv] at e9
  rw [if_neg (fun h=>nomatch h)]
  simp only [fR,ni,aF,aW,fp,go_sem,↓reduceIte,aez,aeB,aeA,aeC,e9]
 | true =>
  rw [hv] at e9
  rw [if_pos rfl]
  simp only [fR,ni,aF,aW,go_sem,↓reduceIte,aez,aeB,aeA,aeC,e9]
theorem On (h:aa) (m:List Nat):lV h 1 (lm m)=some (aP m):=NM h 1 _
theorem G9 {m:List Nat} (h0:m ≠ []) (h1:m.length≤100000):R F.slices_Clone_uint32_uint32_ [lm m] []=some (lm m,[]):=by
 refine aZ o6 o5 (nw false) rfl ?_
 have e1:xC false (lm m)=some (B false):=by
  cases m with
  | nil=>exact absurd rfl h0
  | cons x m=>rfl
 have e2:((True∨False)∧(0+m.length)*4≤140737488355328)=True:=eq_true ⟨Or.inl trivial,by omega⟩
 have e3:(0+(0+m.length)≤m.length)=True:=eq_true (by omega)
 have e4:(0+m.length=m.length)=True:=eq_true (by omega)
 simp only [cM,iU,go_sem,↓reduceIte,aez,aeC,aeE,e1,On,e2,e3,e4]
end Go.Ab
namespace Go.Ab
open Go Go.IntWalk
set_option maxRecDepth 4000
theorem sU:au.E F.bits_TrailingZeros32=some Pf:=by kernel_rfl
theorem xh {x:Nat} (h:x ≠ 0) (hx:x < 4294967296):R F.bits_TrailingZeros32 [U x] []=some (I (tz x:Nat),[]):=by
 unfold R
 rw [uH sU]
 show (if 0 < (x:Int)∧(x:Int) < 4294967296∧([]:List Ob)=[] then some (I (Dh 32 (x:Int).toNat:Nat),([]:List Ob)) else none)=_
 rw [if_pos ⟨by omega,by omega,rfl⟩,Int.toNat_natCast,R9 32 x h (by omega)]
theorem Oo (m:List Nat) (hb:Lb m) (h2:m.length≤100000):∀ (k i:Nat),i+k=m.length→ac (m.drop i) ≠ 0→∀ (s:af) (h:aa),s 6=lm m→s 7=I m.length→s 8=I i→s 3=I (32*i:Nat) →
  aI 0 [3] (aU (az R (ab false) lh) [3,6,7,8] [] s h)=some (.ret,⟨upd (fun _=>.any) 2 (I (32*i+tz (ac (m.drop i)):Nat)),fun _=>.dead⟩):=by
 intro k
 induction k with
 | zero =>
  intro i hi hv
  rw [List.drop_eq_nil_of_le (by omega)] at hv
  exact absurd rfl hv
 | succ k ih =>
  intro i hi hv s h h6 h7 h8 h3
  have e1:((i:Int) < m.length)=True:=tt (by omega)
  have e2:bH (aP m) (i:Int)=some (.ipt [U (m.getD i 0:Nat)]):=df rfl (by omega)
  have hx:m.getD i 0 < 4294967296:=dQ hb i
  rw [eA] at hv
  rw [aA]
  have e4:IntKind.i64.wrap (((32*i:Nat):Int)+32)=((32*(i+1):Nat):Int):=wi (by omega) (by omega)
  have e5:IntKind.i64.wrap ((i:Int)+1)=((i+1:Nat):Int):=wi (by omega) (by omega)
  by_cases hz:m.getD i 0=0
  ·have e3:((m.getD i 0:Int)=0)=True:=tt (by omega)
   have hv':ac (m.drop (i+1)) ≠ 0:=by
    intro h0
    rw [hz,h0] at hv
    exact hv rfl
   have ih':=ih (i+1) (by omega) hv'
   have e6:tz (ac (m.drop i))=32+tz (ac (m.drop (i+1))):=by
    rw [eA,hz,Nat.zero_add]
    exact A3 32 hv'
   have e7:32*i+tz (ac (m.drop i))=32*(i+1)+tz (ac (m.drop (i+1))):=by omega
   rw [e7]
   generalize aU _ _ _=L at ih' ⊢
   simp only [lh,go_sem,↓reduceIte,aez,h3,h6,h7,h8,e1,e2,e3,e4,e5]
   exact ih' _ _ rfl rfl rfl rfl
  ·have e3:((m.getD i 0:Int)=0)=False:=ff (by omega)
   have e6:tz (ac (m.drop i))=tz (m.getD i 0):=by
    rw [eA]
    exact R8 (k:=32) _ hz hx
   have e8:tz (m.getD i 0) < 32:=Pe (k:=32) hz hx
   have e7:IntKind.i64.wrap (((32*i:Nat):Int)+(tz (m.getD i 0):Nat))=((32*i+tz (m.getD i 0):Nat):Int):=wi (by omega) (by omega)
   rw [e6]
   simp only [lh,go_sem,↓reduceIte,aez,aeB,aeA,h3,h6,h7,h8,e1,e2,e3,xh hz hx,e7]
theorem Sq {m:List Nat} (hb:Lb m) (h1:m.length≤100000) (hv:ac m ≠ 0):R F.dyadic_low [lm m] []=some (I (tz (ac m):Nat),[]):=by
 refine aZ GM GL (Bh false) rfl ?_
 have h3:=Oo m hb h1 m.length 0 (Nat.zero_add _) hv
 simp only [Nat.mul_zero,Nat.zero_add,List.drop_zero,Int.natCast_zero] at h3
 simp only [m6,wP,go_sem,↓reduceIte,aez]
 rw [h3 _ _ rfl rfl rfl rfl]
 simp only [go_sem,↓reduceIte]
def bA (neg:Bool) (M:Nat) (e:Int):Rd:=if M=0 then fp else ⟨neg,av (M / 2 ^ tz M),e+tz M⟩
def X5 (e:Int):Prop:=-1000000≤e∧e≤1000000
theorem lP {neg:Bool} {m:List Nat} {e:Int} (hb:Lb m) (h1:m.length≤256) (he:X5 e):R F.dyadic_canonical [B neg,lm m,I e] []=some (aF (bA neg (ac m) e),[]):=by
 refine aZ wY wX (tG false) rfl ?_
 obtain ⟨he1,he2⟩:=he
 unfold bA
 by_cases h0:ac m=0
 ·have hd:R F.dyadic_trimmed [lm m] []=some (lm [],[]):=by
   rw [G8 hb (by omega),h0,fM]
  have e0:(([]:List Nat).length:Int)=0:=rfl
  rw [if_pos h0]
  simp only [eK,lJ,aF,aW,fp,go_sem,↓reduceIte,aez,aeB,aeA,aeC,hd,List.length_nil,Int.natCast_zero]
 have hn:av (ac m) ≠ []:=fun h=>h0 (mn.1 h)
 have hl:0 < (av (ac m)).length:=by
  cases h:av (ac m) with
  | nil=>exact absurd h hn
  | cons x l=>exact Nat.succ_pos _
 have hl2:(av (ac m)).length≤256:=Nat.le_trans (dJ m hb) h1
 have hdb:Lb (av (ac m)):=ce _
 have e1:(((av (ac m)).length:Int)=0)=False:=ff (by omega)
 have ht:tz (ac m) < 32*256:=Pe (k:=32*256) h0 (by
  have:=ju hb
  have h3:4294967296 ^ m.length≤4294967296 ^ 256:=Nat.pow_le_pow_right (by decide) h1
  have h4:(2:Nat) ^ (32*256)=4294967296 ^ 256:=Nat.pow_mul 2 32 256
  rw [h4]
  exact Nat.lt_of_lt_of_le this h3)
 have hlow:=Sq hdb (by omega) (by rw [bL]; exact h0)
 rw [bL] at hlow
 have hs:=Sp (n:=(tz (ac m):Nat)) hdb hl2
 rw [if_neg (by omega),bL,Int.toNat_natCast] at hs
 have hq:av (ac m / 2 ^ tz (ac m)) ≠ []:=by
  intro h
  have:=(qY h0).2
  rw [mn.1 h] at this
  exact absurd this (by decide)
 have hq2:(av (ac m / 2 ^ tz (ac m))).length≤100000:=by
  have h5:(av (ac m / 2 ^ tz (ac m))).length≤m.length:=nc (Nat.lt_of_le_of_lt (Nat.div_le_self _ _) (ju hb))
  omega
 have hc:=G9 hq hq2
 have e2:IntKind.i64.wrap (e+(tz (ac m):Nat))=e+(tz (ac m):Nat):=by rw [i64_in]; omega
 rw [if_neg h0]
 simp only [eK,lJ,aF,aW,go_sem,↓reduceIte,aez,aeB,aeA,aeC,G8 hb (Nat.lt_of_le_of_lt h1 (by decide)),e1,hlow,hs,hc,IN,e2]
end Go.Ab
namespace Go.Ab
open Go Go.IntWalk
set_option maxRecDepth 4000
theorem rQ {d:Rd} (h:vd d=true) (h0:d.m.length ≠ 0):d.m.length≤256∧d.m.getD 0 0 % 2=1∧d.m.getD (d.m.length - 1) 0 ≠ 0∧qC (am (ac d.m)) d.e=true:=by
 unfold vd at h
 rw [if_neg h0] at h
 simp only [Bool.and_eq_true,decide_eq_true_eq] at h
 exact h
theorem xU {d:Rd} (h:vd d=true) (h0:d.m.length=0):d=fp:=by
 unfold vd at h
 rw [if_pos h0] at h
 simp only [Bool.and_eq_true,decide_eq_true_eq,Bool.not_eq_true'] at h
 obtain ⟨n,m,e⟩:=d
 obtain ⟨h1,h2⟩:=h
 simp only at h1 h2 h0
 rw [fp,h1,h2,List.length_eq_zero_iff.1 h0]
theorem tM {n:Nat} {e:Int} (h:qC n e=true) (h0:n ≠ 0):n≤4096∧-16384≤e∧e≤16384∧(n:Int)+e≤16384:=by
 unfold qC at h
 simp only [Bool.or_eq_true,Bool.and_eq_true,decide_eq_true_eq] at h
 exact h.resolve_left h0
theorem kT {d:Rd} (h:vd d=true) (_hb:Lb d.m):d.m.length≤256∧-16384≤d.e∧d.e≤16384∧am (ac d.m)≤4096:=by
 by_cases h0:d.m.length=0
 ·rw [xU h h0]
  exact ⟨by decide,by decide,by decide,by decide⟩
 obtain ⟨h1,h2,h3,h4⟩:=rQ h h0
 have hv:ac d.m ≠ 0:=by
  intro hz
  have:=eA d.m 0
  rw [List.drop_zero] at this
  omega
 have hn:am (ac d.m) ≠ 0:=by
  have:=kj hv
  omega
 obtain ⟨h5,h6,h7,h8⟩:=tM h4 hn
 exact ⟨h1,h6,h7,h5⟩
def bo (d:Rd):Int:=if vd d=false∨d.m.length=0 then 0 else (am (ac d.m):Nat)+d.e
theorem Bu {d:Rd} (ok:Ok0 d):R F.dyadic_Top [aF d] []=some (I (bo d),[]):=by
 refine aZ GJ GI (amp false) rfl ?_
 have hl:=ok.len
 have e9:=kl ok
 simp only [aF,aW] at e9
 unfold bo
 cases hv:vd d with
 | false =>
  rw [hv] at e9
  rw [if_pos (Or.inl rfl)]
  simp only [ik,oG,aF,aW,go_sem,↓reduceIte,aez,aeB,aeA,aeC,e9]
 | true =>
  rw [hv] at e9
  by_cases a0:d.m.length=0
  ·have e1:((d.m.length:Int)=0)=True:=tt (by omega)
   rw [if_pos (Or.inr a0)]
   simp only [ik,oG,aF,aW,go_sem,↓reduceIte,aez,aeB,aeA,aeC,e9,e1]
  ·have e1:((d.m.length:Int)=0)=False:=ff (by omega)
   rw [if_neg (fun h=>h.elim (fun h=>nomatch h) a0)]
   obtain ⟨h1,h2,h3,h4⟩:=kT hv ok.lb
   have e2:IntKind.i64.wrap (((am (ac d.m):Nat):Int)+d.e)=((am (ac d.m):Nat):Int)+d.e:=by rw [i64_in]; omega
   simp only [ik,oG,aF,aW,go_sem,↓reduceIte,aez,aeB,aeA,aeC,aeE,aeD,e9,e1,nQ ok.lb (Nat.le_trans h1 (by decide)),e2]
theorem agR {d:Rd} (ok:Ok0 d):R F.dyadic_Neg [aF d] []=some (aF (if vd d=false∨d.m.length=0 then fp else ⟨!d.neg,d.m,d.e⟩),[]):=by
 refine aZ agj agi (afN false) rfl ?_
 have hl:=ok.len
 have e9:=kl ok
 simp only [aF,aW] at e9
 cases hv:vd d with
 | false =>
  rw [hv] at e9
  rw [if_pos (Or.inl rfl)]
  simp only [vn,F1,aF,aW,fp,go_sem,↓reduceIte,aez,aeB,aeA,aeC,e9]
 | true =>
  rw [hv] at e9
  by_cases a0:d.m.length=0
  ·have e1:((d.m.length:Int)=0)=True:=tt (by omega)
   rw [if_pos (Or.inr a0)]
   simp only [vn,F1,aF,aW,fp,go_sem,↓reduceIte,aez,aeB,aeA,aeC,e9,e1]
  ·have e1:((d.m.length:Int)=0)=False:=ff (by omega)
   rw [if_neg (fun h=>h.elim (fun h=>nomatch h) a0)]
   obtain ⟨h1,h2,h3,h4⟩:=kT hv ok.lb
   have hc:=G9 (m:=d.m) (fun h=>a0 (by rw [h]; rfl)) (Nat.le_trans h1 (by decide))
   simp only [vn,F1,aF,aW,go_sem,↓reduceIte,aez,aeB,aeA,aeC,aeE,aeD,e9,e1,hc]
end Go.Ab
namespace Go.Ab
open Go Go.IntWalk
set_option maxRecDepth 4000
theorem qT {m:List Nat} (hb:Lb m) (h1:m.length≤256) {k:Nat} (hk:k≤65536) (hl:(av (ac m*2 ^ k)).length≤256):R F.dyadic_shifted [lm m,I k] []=some (lm (av (ac m*2 ^ k)),[]):=by
 refine aZ alZ zp (vS false) rfl ?_
 have hs:=Sn (n:=(k:Nat)) hb h1
 rw [if_neg (by omega),Int.toNat_natCast,jd,if_neg (by omega)] at hs
 simp only [i8,rF,go_sem,↓reduceIte,aez,aeB,aeA,aeC,hs]
theorem atz {neg:Bool} {m:List Nat} {e:Int} (hb:Lb m) (hl:m.length < 4611686018427387904):R F.dyadic_Make [B neg,lm m,I e] []=some (if 256 < m.length∨e < -32768∨32768 < e then .tup [aF fp,I 1]
  else if qC (am (ac (bA neg (ac m) e).m)) (bA neg (ac m) e).e=true then .tup [aF (bA neg (ac m) e),I 0] else .tup [aF fp,I 9],[]):=by
 refine aZ anW anV (al5 false) rfl ?_
 by_cases a1:256 < m.length
 ·have e1:((256:Int) < m.length)=True:=tt (by omega)
  rw [if_pos (Or.inl a1)]
  simp only [aiw,ajl,aF,aW,fp,go_sem,↓reduceIte,aez,aeB,aeA,aeC,e1]
 have e1:((256:Int) < m.length)=False:=ff (by omega)
 by_cases a2:e < -32768∨32768 < e
 ·have e2:(decide (-32768≤e) && decide (e≤32768))=false:=by
   rcases a2 with a2 | a2
   ·rw [decide_eq_false (by omega),Bool.false_and]
   ·rw [decide_eq_false (p:=e≤32768) (by omega),Bool.and_false]
  rw [if_pos (Or.inr a2)]
  simp only [aiw,ajl,aF,aW,fp,go_sem,↓reduceIte,aez,aeB,aeA,aeC,e1,ak1,e2]
 have e2:(decide (-32768≤e) && decide (e≤32768))=true:=by
  rw [decide_eq_true (by omega),decide_eq_true (by omega)]
  rfl
 rw [if_neg (fun h=>h.elim a1 a2)]
 have hc:=lP (neg:=neg) (e:=e) hb (by omega) ⟨by omega,by omega⟩
 have hL:Lb (bA neg (ac m) e).m:=by
  unfold bA
  split
  ·exact fun x hx=>nomatch hx
  ·exact ce _
 have hN:(bA neg (ac m) e).m.length≤100000:=by
  unfold bA
  split
  ·exact Nat.zero_le _
  ·have h5:(av (ac m / 2 ^ tz (ac m))).length≤m.length:=nc (Nat.lt_of_le_of_lt (Nat.div_le_self _ _) (ju hb))
   exact Nat.le_trans h5 (by omega)
 have hd:=Bs hL hN
 generalize bA neg (ac m) e=d at hc hd ⊢
 simp only [aF,aW] at hc hd
 cases hv:qC (am (ac d.m)) d.e with
 | false =>
  rw [hv,if_neg (fun h=>nomatch h)] at hd
  rw [if_neg (fun h=>nomatch h)]
  simp only [aiw,ajl,aF,aW,fp,go_sem,↓reduceIte,aez,aeB,aeA,aeC,e1,ak1,e2,hc,hd]
 | true =>
  rw [hv,if_pos rfl] at hd
  rw [if_pos rfl]
  simp only [aiw,ajl,aF,aW,go_sem,↓reduceIte,aez,aeB,aeA,aeC,e1,ak1,e2,hc,hd]
def mg (d:Rd):Nat:=ac d.m*2 ^ (d.e+16384).toNat
def zI (d:Rd):Int:=if d.neg=true then -(mg d:Int) else mg d
theorem Oq {x y k:Nat} (hk:0 < k):dm (x*k) (y*k)=dm x y:=by
 unfold dm
 have h1:(x*k < y*k)↔x < y:=Nat.mul_lt_mul_right hk
 have h2:(y*k < x*k)↔y < x:=Nat.mul_lt_mul_right hk
 by_cases a:x < y
 ·rw [if_pos a,if_pos (h1.2 a)]
 ·rw [if_neg a,if_neg (fun h=>a (h1.1 h))]
  by_cases b:y < x
  ·rw [if_pos b,if_pos (h2.2 b)]
  ·rw [if_neg b,if_neg (fun h=>b (h2.1 h))]
theorem Bv {x y:Nat} (h:am x < am y):x < y:=by
 have h1:=(cX (n:=x) (k:=am x)).1 (Nat.le_refl _)
 have h2:=kH.1 h
 omega
theorem iK {d:Rd} (h:vd d=true) (h0:d.m.length ≠ 0):ac d.m ≠ 0:=by
 obtain ⟨h1,h2,h3,h4⟩:=rQ h h0
 intro hz
 have:=eA d.m 0
 rw [List.drop_zero] at this
 omega
theorem IV {d:Rd} (h:vd d=true) (hb:Lb d.m) (h0:d.m.length ≠ 0):(am (mg d):Int)=bo d+16384:=by
 obtain ⟨h1,h2,h3,h4⟩:=kT h hb
 unfold mg bo
 rw [lO _ (iK h h0),if_neg (fun h'=>h'.elim (fun h''=>by rw [h] at h''; exact nomatch h'') h0)]
 omega
theorem pH {d:Rd} {e:Int} (h1:-16384≤e) (h2:e≤d.e):mg d=ac d.m*2 ^ (d.e - e).toNat*2 ^ (e+16384).toNat:=by
 unfold mg
 rw [Nat.mul_assoc,← Nat.pow_add]
 congr 2
 omega
theorem bG {n k:Nat} (h:am n≤32*k):(av n).length≤k:=by
 refine nc ?_
 have:=cX.1 h
 rw [Nat.pow_mul] at this
 exact this
theorem KH {a b:Rd} (oa:Ok0 a) (ob:Ok0 b) (va:vd a=true) (vb:vd b=true) (na:a.m.length ≠ 0) (nb:b.m.length ≠ 0):R F.dyadic_compare [aF a,aF b] []=some (I (dm (mg a) (mg b)),[]):=by
 refine aZ zi zg (vQ false) rfl ?_
 have ta:=Bu oa
 have tb:=Bu ob
 have ba:=IV va oa.lb na
 have bb:=IV vb ob.lb nb
 simp only [aF,aW] at ta tb
 by_cases h1:bo a < bo b
 ·have h2:dm (mg a) (mg b)=-1:=by
   rw [dm,if_pos (Bv (by omega))]
  have e1:(bo a < bo b)=True:=tt h1
  rw [h2]
  simp only [ew,jX,aF,aW,go_sem,↓reduceIte,aez,aeB,aeA,aeC,aeE,aeD,ta,tb,e1]
 have e1:(bo a < bo b)=False:=ff h1
 by_cases h2:bo b < bo a
 ·have h3:dm (mg a) (mg b)=1:=by
   have:=Bv (x:=mg b) (y:=mg a) (by omega)
   rw [dm,if_neg (by omega),if_pos this]
  have e2:(bo b < bo a)=True:=tt h2
  rw [h3]
  simp only [ew,jX,aF,aW,go_sem,↓reduceIte,aez,aeB,aeA,aeC,aeE,aeD,ta,tb,e1,e2]
 have e2:(bo b < bo a)=False:=ff h2
 obtain ⟨a1,a2,a3,a4⟩:=kT va oa.lb
 obtain ⟨b1,b2,b3,b4⟩:=kT vb ob.lb
 obtain ⟨e,hm⟩:∃ e,(if b.e < a.e then b.e else a.e)=e:=⟨_,rfl⟩
 have hea:e≤a.e∧e≤b.e∧(e=a.e∨e=b.e):=by
  split at hm <;> omega
 obtain ⟨m1,m2,m3⟩:=hea
 have ka:IntKind.i64.wrap (a.e - e)=(((a.e - e).toNat:Nat):Int):=wi (by omega) (by omega)
 have kb:IntKind.i64.wrap (b.e - e)=(((b.e - e).toNat:Nat):Int):=wi (by omega) (by omega)
 have hta:bo a=(am (ac a.m):Nat)+a.e:=by
  rw [bo,if_neg (fun h'=>h'.elim (fun h''=>by rw [va] at h''; exact nomatch h'') na)]
 have htb:bo b=(am (ac b.m):Nat)+b.e:=by
  rw [bo,if_neg (fun h'=>h'.elim (fun h''=>by rw [vb] at h''; exact nomatch h'') nb)]
 have la:(av (ac a.m*2 ^ (a.e - e).toNat)).length≤256:=bG (by
  rw [lO _ (iK va na)]
  omega)
 have lb:(av (ac b.m*2 ^ (b.e - e).toNat)).length≤256:=bG (by
  rw [lO _ (iK vb nb)]
  omega)
 have sa:=qT oa.lb a1 (k:=(a.e - e).toNat) (by omega) la
 have sb:=qT ob.lb b1 (k:=(b.e - e).toNat) (by omega) lb
 have hc:=xe (ce (ac a.m*2 ^ (a.e - e).toNat)) (ce (ac b.m*2 ^ (b.e - e).toNat)) (Nat.le_trans la (by decide)) (Nat.le_trans lb (by decide))
 rw [bL,bL,← Oq (k:=2 ^ (e+16384).toNat) (Nat.two_pow_pos _),← pH (by omega) m1,← pH (by omega) m2] at hc
 simp only [ew,jX,aF,aW,go_sem,↓reduceIte,aez,aeB,aeA,aeC,aeE,aeD,ta,tb,e1,e2,hm,ka,kb,sa,sb,hc]
end Go.Ab
namespace Go.Ab
open Go Go.IntWalk
set_option maxRecDepth 4000
def cq (x y:Int):Int:=if x < y then -1 else if y < x then 1 else 0
def lQ (d:Rd):Int:=if d.m.length=0 then 0 else if d.neg=true then -1 else 1
theorem IW {d:Rd} (h0:d.m.length=0):mg d=0:=by
 unfold mg
 rw [List.length_eq_zero_iff.1 h0]
 exact Nat.zero_mul _
theorem Sr {d:Rd} (h:vd d=true) (h0:d.m.length ≠ 0):0 < mg d :=
 Nat.mul_pos (Nat.pos_of_ne_zero (iK h h0)) (Nat.two_pow_pos _)
theorem zZ (d:Rd) (h:vd d=true):(lQ d=0∧zI d=0∧d.m.length=0)∨(lQ d=-1∧zI d=-(mg d:Int)∧0 < mg d∧d.m.length ≠ 0)∨(lQ d=1∧zI d=mg d∧0 < mg d∧d.m.length ≠ 0):=by
 unfold lQ zI
 by_cases h0:d.m.length=0
 ·refine Or.inl ⟨if_pos h0,?_,h0⟩
  rw [IW h0]
  split <;> rfl
 ·rw [if_neg h0]
  have:=Sr h h0
  by_cases hn:d.neg=true
  ·exact Or.inr (Or.inl ⟨if_pos hn,if_pos hn,this,h0⟩)
  ·exact Or.inr (Or.inr ⟨if_neg hn,if_neg hn,this,h0⟩)
theorem Ha {d:Rd} (ok:Ok0 d) (hv:vd d=true):R F.dyadic_Sign [aF d] []=some (I (lQ d),[]):=by
 rw [Qz ok]
 unfold lQ
 by_cases h0:d.m.length=0
 ·rw [if_pos (Or.inr h0),if_pos h0]
 ·rw [if_neg (fun h'=>h'.elim (fun h''=>by rw [hv] at h''; exact nomatch h'') h0),if_neg h0]
theorem QA {a b:Rd} (oa:Ok0 a) (ob:Ok0 b):R F.dyadic_Cmp [aF a,aF b] []=some (I (if vd a=true∧vd b=true then cq (zI a) (zI b) else 0),[]):=by
 refine aZ GA Gz (Bc false) rfl ?_
 have va:=kl oa
 have vb:=kl ob
 simp only [aF,aW] at va vb
 cases ha:vd a with
 | false =>
  rw [ha] at va
  rw [if_neg (fun h=>nomatch h.1)]
  simp only [dH,gQ,aF,aW,go_sem,↓reduceIte,aez,aeB,aeA,aeC,va]
 | true =>
 rw [ha] at va
 cases hb:vd b with
 | false =>
  rw [hb] at vb
  rw [if_neg (fun h=>nomatch h.2)]
  simp only [dH,gQ,aF,aW,go_sem,↓reduceIte,aez,aeB,aeA,aeC,va,vb]
 | true =>
 rw [hb] at vb
 rw [if_pos ⟨rfl,rfl⟩]
 have sa:=Ha oa ha
 have sb:=Ha ob hb
 have ca:=zZ a ha
 have cb:=zZ b hb
 simp only [aF,aW] at sa sb
 by_cases h1:lQ a < lQ b
 ·have e1:(lQ a < lQ b)=True:=tt h1
  have e2:cq (zI a) (zI b)=-1:=if_pos (by omega)
  rw [e2]
  simp only [dH,gQ,aF,aW,go_sem,↓reduceIte,aez,aeB,aeA,aeC,aeE,aeD,va,vb,sa,sb,e1]
 have e1:(lQ a < lQ b)=False:=ff h1
 by_cases h2:lQ b < lQ a
 ·have e2:(lQ b < lQ a)=True:=tt h2
  have e3:cq (zI a) (zI b)=1:=by rw [cq,if_neg (by omega),if_pos (by omega)]
  rw [e3]
  simp only [dH,gQ,aF,aW,go_sem,↓reduceIte,aez,aeB,aeA,aeC,aeE,aeD,va,vb,sa,sb,e1,e2]
 have e2:(lQ b < lQ a)=False:=ff h2
 by_cases h3:lQ a=0
 ·have e3:(lQ a=0)=True:=tt h3
  have e4:cq (zI a) (zI b)=0:=by rw [cq,if_neg (by omega),if_neg (by omega)]
  rw [e4]
  simp only [dH,gQ,aF,aW,go_sem,↓reduceIte,aez,aeB,aeA,aeC,aeE,aeD,va,vb,sa,sb,e1,e2,e3]
 have e3:(lQ a=0)=False:=ff h3
 have hc:=KH oa ob ha hb (by omega) (by omega)
 simp only [aF,aW] at hc
 have e4:IntKind.i64.wrap (lQ a*dm (mg a) (mg b))=cq (zI a) (zI b):=by
  have hp:lQ a*dm (mg a) (mg b)=cq (zI a) (zI b):=by
   rcases ca with ca | ca | ca
   ·omega
   ·rw [ca.1,ca.2.1]
    rw [show zI b=-(mg b:Int) by omega]
    unfold dm cq
    by_cases x:mg a < mg b
    ·rw [if_pos x,if_neg (by omega),if_pos (by omega)]; rfl
    ·by_cases y:mg b < mg a
     ·rw [if_neg x,if_pos y,if_pos (by omega)]; rfl
     ·rw [if_neg x,if_neg y,if_neg (by omega),if_neg (by omega)]; rfl
   ·rw [ca.1,ca.2.1]
    rw [show zI b=(mg b:Int) by omega]
    unfold dm cq
    by_cases x:mg a < mg b
    ·rw [if_pos x,if_pos (by omega)]; rfl
    ·by_cases y:mg b < mg a
     ·rw [if_neg x,if_pos y,if_neg (by omega),if_pos (by omega)]; rfl
     ·rw [if_neg x,if_neg y,if_neg (by omega),if_neg (by omega)]; rfl
  rw [hp]
  unfold cq
  split
  ·decide
  ·split <;> decide
 simp only [dH,gQ,aF,aW,go_sem,↓reduceIte,aez,aeB,aeA,aeC,aeE,aeD,va,vb,sa,sb,e1,e2,e3,hc,e4]
end Go.Ab
namespace Go.Ab
open Go Go.IntWalk
set_option maxRecDepth 4000
theorem Hb (x y:Nat):am (x*y)≤am x+am y:=by
 rw [cX,Nat.pow_add]
 exact Nat.mul_lt_mul'' (cX.1 (Nat.le_refl _)) (cX.1 (Nat.le_refl _))
theorem Cx (neg:Bool) (M:Nat) (e:Int):Lb (bA neg M e).m:=by
 unfold bA
 split
 ·exact fun x hx=>nomatch hx
 ·exact ce _
theorem Hc {neg:Bool} {M:Nat} {e:Int} {k:Nat} (h:am M≤32*k):(bA neg M e).m.length≤k:=by
 unfold bA
 split
 ·exact Nat.zero_le _
 ·refine bG ?_
  rw [zY]
  omega
def KI (d:Rd):AV:=if qC (am (ac d.m)) d.e=true then .tup [aF d,I 0] else .tup [aF fp,I 9]
def EW (a b:Rd):AV:=if vd a=true∧vd b=true then if a.m.length=0∨b.m.length=0 then .tup [aF fp,I 0] else if 4096 < am (ac a.m)+am (ac b.m) - 1 then .tup [aF fp,I 9] else KI (bA (a.neg != b.neg) (ac a.m*ac b.m) (a.e+b.e)) else .tup [aF fp,I 1]
theorem L9 (a b:Bool):(true != (a == b))=(a != b):=by cases a <;> cases b <;> rfl
theorem QB {a b:Rd} (oa:Ok0 a) (ob:Ok0 b):R F.dyadic_Mul [aF a,aF b] []=some (EW a b,[]):=by
 refine aZ Gk Gj (A6 false) rfl ?_
 unfold EW
 have va:=kl oa
 have vb:=kl ob
 simp only [aF,aW] at va vb
 cases ha:vd a with
 | false =>
  rw [ha] at va
  rw [if_neg (fun h=>nomatch h.1)]
  simp only [dh,fy,aF,aW,fp,go_sem,↓reduceIte,aez,aeB,aeA,aeC,va]
 | true =>
 rw [ha] at va
 cases hb:vd b with
 | false =>
  rw [hb] at vb
  rw [if_neg (fun h=>nomatch h.2)]
  simp only [dh,fy,aF,aW,fp,go_sem,↓reduceIte,aez,aeB,aeA,aeC,va,vb]
 | true =>
 rw [hb] at vb
 rw [if_pos ⟨rfl,rfl⟩]
 by_cases a0:a.m.length=0
 ·have e1:((a.m.length:Int)=0)=True:=tt (by omega)
  rw [if_pos (Or.inl a0)]
  simp only [dh,fy,aF,aW,fp,go_sem,↓reduceIte,aez,aeB,aeA,aeC,va,vb,e1]
 have e1:((a.m.length:Int)=0)=False:=ff (by omega)
 by_cases b0:b.m.length=0
 ·have e2:((b.m.length:Int)=0)=True:=tt (by omega)
  rw [if_pos (Or.inr b0)]
  simp only [dh,fy,aF,aW,fp,go_sem,↓reduceIte,aez,aeB,aeA,aeC,va,vb,e1,e2]
 have e2:((b.m.length:Int)=0)=False:=ff (by omega)
 rw [if_neg (fun h=>h.elim a0 b0)]
 obtain ⟨a1,a2,a3,a4⟩:=kT ha oa.lb
 obtain ⟨b1,b2,b3,b4⟩:=kT hb ob.lb
 have za:=nQ oa.lb (Nat.le_trans a1 (by decide))
 have zb:=nQ ob.lb (Nat.le_trans b1 (by decide))
 have pa:=kj (iK ha a0)
 have w1:IntKind.i64.wrap (((am (ac a.m):Nat):Int)+(am (ac b.m):Nat))=((am (ac a.m)+am (ac b.m):Nat):Int):=wi (by omega) (by omega)
 have w2:IntKind.i64.wrap (((am (ac a.m)+am (ac b.m):Nat):Int) - 1)=((am (ac a.m)+am (ac b.m) - 1:Nat):Int):=wi (by omega) (by omega)
 by_cases c0:4096 < am (ac a.m)+am (ac b.m) - 1
 ·have e3:((4096:Int) < ((am (ac a.m)+am (ac b.m) - 1:Nat):Int))=True:=tt (by omega)
  rw [if_pos c0]
  simp only [dh,fy,aF,aW,fp,go_sem,↓reduceIte,aez,aeB,aeA,aeC,aeE,aeD,va,vb,e1,e2,za,zb,w1,w2,e3]
 have e3:((4096:Int) < ((am (ac a.m)+am (ac b.m) - 1:Nat):Int))=False:=ff (by omega)
 rw [if_neg c0]
 have hp:=Hb (ac a.m) (ac b.m)
 have hl:(av (ac a.m*ac b.m)).length≤129:=bG (by omega)
 have hm:=Sk oa.lb ob.lb a1 b1
 rw [jd,if_neg (by omega)] at hm
 have w3:IntKind.i64.wrap (a.e+b.e)=a.e+b.e:=i64_in _ ⟨by omega,by omega⟩
 have hc:=lP (neg:=a.neg != b.neg) (e:=a.e+b.e) (ce (ac a.m*ac b.m)) (Nat.le_trans hl (by decide)) ⟨by omega,by omega⟩
 rw [bL] at hc
 have hd:=Bs (Cx (a.neg != b.neg) (ac a.m*ac b.m) (a.e+b.e)) (Nat.le_trans (Hc (k:=129) (by omega)) (by decide))
 unfold KI
 generalize bA (a.neg != b.neg) (ac a.m*ac b.m) (a.e+b.e)=d at hc hd ⊢
 simp only [aF,aW] at hc hd
 cases hv:qC (am (ac d.m)) d.e with
 | false =>
  rw [hv,if_neg (fun h=>nomatch h)] at hd
  rw [if_neg (fun h=>nomatch h)]
  simp only [dh,fy,aF,aW,fp,go_sem,↓reduceIte,aez,aeB,aeA,aeC,aeE,aeD,va,vb,e1,e2,za,zb,w1,w2,w3,e3,hm,L9,hc,hd]
 | true =>
  rw [hv,if_pos rfl] at hd
  rw [if_pos rfl]
  simp only [dh,fy,aF,aW,go_sem,↓reduceIte,aez,aeB,aeA,aeC,aeE,aeD,va,vb,e1,e2,za,zb,w1,w2,w3,e3,hm,L9,hc,hd]
theorem amu {p:Int}:R F.round_precise [I p] []=some (B (decide (8≤p) && decide (p≤512)),[]):=by
 refine aZ ams amr (aly false) rfl ?_
 by_cases a1:¬ (8≤p)
 ·simp only [aiX,ake,go_sem,↓reduceIte,aez,a1]
 replace a1:=Decidable.not_not.1 a1
 simp only [aiX,ake,go_sem,↓reduceIte,aez,a1]
end Go.Ab
namespace Go.Ab
open Go Go.IntWalk
set_option maxRecDepth 4000
theorem akL {m:List Nat} (hb:Lb m):am (ac m)≤32*m.length:=by
 rw [cX,Nat.pow_mul]
 exact ju hb
def exA (m:List Nat) (e:Int) (more:Bool):AV:=.agg [lm m,I e,B more]
theorem awa {d:Rd}:R F.round_of [aF d] []=some (exA d.m d.e false,[]):=by
 refine aZ aqo aqn (anR false) rfl ?_
 simp only [akr,amg,aF,aW,exA,go_sem,↓reduceIte,aez,aeB,aeA,aeC]
theorem amS {m:List Nat} (hb:Lb m) (h1:m.length≤256) {k:Nat} (hk:k≤65536) (hl:(av (ac m*2 ^ k)).length≤256):R F.round_shl [lm m,I k] []=some (lm (av (ac m*2 ^ k)),[]):=by
 refine aZ apv apu (amQ false) rfl ?_
 have hs:=Sn (n:=(k:Nat)) hb h1
 rw [if_neg (by omega),Int.toNat_natCast,jd,if_neg (by omega)] at hs
 simp only [akh,alR,go_sem,↓reduceIte,aez,aeB,aeA,aeC,hs]
theorem arG {x y:Nat}:dm x y=0↔x=y:=by
 unfold dm
 constructor
 ·intro h
  split at h
  ·exact nomatch h
  ·split at h
   ·exact nomatch h
   ·omega
 ·intro h
  rw [if_neg (by omega),if_neg (by omega)]
theorem asI {x n:Nat}:x / 2 ^ (min n (am x))=x / 2 ^ n∧(x / 2 ^ (min n (am x))*2 ^ (min n (am x))=x↔x % 2 ^ n=0):=by
 by_cases h:n≤am x
 ·rw [Nat.min_eq_left h]
  refine ⟨rfl,?_⟩
  have:=Nat.div_add_mod x (2 ^ n)
  rw [Nat.mul_comm] at this
  omega
 ·have hb:x < 2 ^ am x:=cX.1 (Nat.le_refl _)
  have hn:x < 2 ^ n:=cX.1 (by omega)
  rw [Nat.min_eq_right (by omega),Nat.div_eq_of_lt hb,Nat.div_eq_of_lt hn,Nat.mod_eq_of_lt hn,Nat.zero_mul]
  exact ⟨rfl,⟨fun h=>h.symm,fun h=>h.symm⟩⟩
theorem atA {m:List Nat} (hb:Lb m) (h1:m.length≤256) {n:Nat} (hn:n < 4611686018427387904):R F.round_shr [lm m,I n] []=some (.tup [lm (av (ac m / 2 ^ n)),B (decide (ac m % 2 ^ n ≠ 0))],[]):=by
 refine aZ apy apx (amR false) rfl ?_
 have hB:=Qy hb (Nat.le_trans h1 (by decide))
 have hlen:=akL hb
 obtain ⟨q1,q2⟩:=asI (x:=ac m) (n:=n)
 generalize hk:min n (am (ac m))=k at q1 q2
 have k1:k≤8192:=by omega
 have hs:=Sp (n:=(k:Nat)) hb h1
 rw [if_neg (by omega),Int.toNat_natCast,q1] at hs
 rw [q1] at q2
 have hle:ac m / 2 ^ n*2 ^ k≤ac m:=by
  rw [← q1]
  exact Nat.div_mul_le_self _ _
 have l1:(av (ac m / 2 ^ n)).length≤m.length:=nc (Nat.lt_of_le_of_lt (Nat.div_le_self _ _) (ju hb))
 have l2:(av (ac m / 2 ^ n*2 ^ k)).length≤m.length:=nc (Nat.lt_of_le_of_lt hle (ju hb))
 have hl:=amS (ce (ac m / 2 ^ n)) (by omega) (k:=k) (by omega) (by rw [bL]; omega)
 rw [bL] at hl
 have hc:=xe (ce (ac m / 2 ^ n*2 ^ k)) hb (by omega) (by omega)
 rw [bL] at hc
 have hz:decide (ac m % 2 ^ n ≠ 0)=!decide (dm (ac m / 2 ^ n*2 ^ k) (ac m)=0):=by
  rw [← decide_not,decide_eq_decide,ne_eq,not_congr (arG.trans q2)]
 rw [hz]
 generalize dm (ac m / 2 ^ n*2 ^ k) (ac m)=c at hc ⊢
 by_cases h:am (ac m) < n
 ·have e2:k=am (ac m):=by omega
  have e1:((k:Int) < n)=True:=tt (by omega)
  rw [← e2] at hB
  simp only [ajA,ak0,go_sem,↓reduceIte,aez,aeB,aeA,aeC,hB,e1,hs,hl,hc]
 ·have e1:(((am (ac m):Nat):Int) < n)=False:=ff (by omega)
  have e2:k=n:=by omega
  subst e2
  simp only [ajA,ak0,go_sem,↓reduceIte,aez,aeB,aeA,aeC,hB,e1,hs,hl,hc]
end Go.Ab
namespace Go.Ab
open Go Go.IntWalk
set_option maxRecDepth 4000
def Ma (l:List Rd):List (List AV):=l.map aW
def ldA (l:List Rd):AV:=.sl 3 (Ma l)
@[go_sem] theorem ab6 (l:List Rd):(Ma l).length=l.length:=by simp [Ma]
theorem ahl {l:List Rd} {i:Int} {n:Nat} {d:Rd} (hi:i=n) (h:l[n]?=some d):bH (Ma l) i=some (.ipt (aW d)):=by
 subst hi
 simp [bH,Ma,h]
theorem aqA (p:Int) (l:List Rd) (ok:∀ d ∈ l,Ok0 d) (h2:l.length≤100000):∀ (k i:Nat),i+k=l.length→∀ (s:af) (h:aa),s 0=I p→s 7=ldA l→s 8=I l.length→s 9=I i →
  ∃ hh,aI 0 [0] (aU (az R (ab false) aiW) [0,7,8,9] [] s h)=if ((l.drop i).all vd)=true then some (.normal,⟨upd (fun _=>.any) 0 (I p),fun _=>.dead⟩) else some (.ret,⟨upd (fun _=>.any) 4 (I 1),hh⟩):=by
 intro k
 induction k with
 | zero =>
  intro i hi s h h0 h7 h8 h9
  have e1:((i:Int) < l.length)=False:=ff (by omega)
  rw [List.drop_eq_nil_of_le (by omega),aA,List.all_nil,if_pos rfl]
  refine ⟨fun _=>.dead,?_⟩
  simp only [aiW,go_sem,↓reduceIte,aez,h0,h7,h8,h9,e1]
 | succ k ih =>
  intro i hi s h h0 h7 h8 h9
  have hlt:i < l.length:=by omega
  have e1:((i:Int) < l.length)=True:=tt (by omega)
  have e2:bH (Ma l) (i:Int)=some (.ipt (aW l[i])):=ahl rfl (List.getElem?_eq_getElem hlt)
  have e5:IntKind.i64.wrap ((i:Int)+1)=((i+1:Nat):Int):=wi (by omega) (by omega)
  have e3:=kl (ok l[i] (List.getElem_mem hlt))
  rw [List.drop_eq_getElem_cons hlt,List.all_cons,aA]
  have ih':=ih (i+1) (by omega)
  generalize l[i]=d at e2 e3 ⊢
  simp only [aF] at e3
  simp only [aW] at e2 e3
  generalize aU _ _ _=L at ih' ⊢
  cases hv:vd d with
  | false =>
   rw [hv] at e3
   refine ⟨?hh,?_⟩
   rotate_left
   rw [Bool.false_and,if_neg Bool.false_ne_true]
   simp only [aiW,go_sem,↓reduceIte,aez,aeB,aeA,aeC,h0,h7,h8,h9,ldA,e1,e2,e3]
   rfl
  | true =>
   rw [hv] at e3
   rw [Bool.true_and]
   simp only [aiW,go_sem,↓reduceIte,aez,aeB,aeA,aeC,h0,h7,h8,h9,ldA,e1,e2,e3,e5]
   exact ih' _ _ rfl rfl rfl rfl
def Bw (p:Int) (l:List Rd):Int:=if l.all vd=true then (if 8≤p∧p≤512 then 0 else 2) else 1
theorem asJ {p:Int} {l:List Rd} (ok:∀ d ∈ l,Ok0 d) (h2:l.length≤100000):R F.round_fault [I p,ldA l] []=some (I (Bw p l),[]):=by
 refine aZ anP anO (al4 false) rfl ?_
 have h3:=aqA p l ok h2 l.length 0 (Nat.zero_add _)
 simp only [List.drop_zero,Int.natCast_zero] at h3
 unfold Bw
 cases ha:l.all vd with
 | false =>
  rw [ha] at h3
  simp only [if_neg (fun h:false=true=>nomatch h)] at h3 ⊢
  simp only [aiS,ajX,go_sem,↓reduceIte,aez,ldA]
  rw [(h3 _ _ rfl rfl rfl rfl).choose_spec]
  simp only [go_sem,↓reduceIte]
 | true =>
  rw [ha] at h3
  simp only [] at h3 ⊢
  by_cases hp:8≤p∧p≤512
  ·have e1:(decide (8≤p) && decide (p≤512))=true:=by rw [decide_eq_true hp.1,decide_eq_true hp.2]; rfl
   have e2:=amu (p:=p)
   rw [e1] at e2
   rw [if_pos hp]
   simp only [aiS,ajX,go_sem,↓reduceIte,aez,ldA]
   rw [(h3 _ _ rfl rfl rfl rfl).choose_spec]
   simp only [go_sem,↓reduceIte,aeB,aeA,e2]
  ·have e1:(decide (8≤p) && decide (p≤512))=false:=by
    by_cases h8:8≤p
    ·rw [decide_eq_false (p:=p≤512) (fun h=>hp ⟨h8,h⟩),Bool.and_false]
    ·rw [decide_eq_false h8,Bool.false_and]
   have e2:=amu (p:=p)
   rw [e1] at e2
   rw [if_neg hp]
   simp only [aiS,ajX,go_sem,↓reduceIte,aez,ldA]
   rw [(h3 _ _ rfl rfl rfl rfl).choose_spec]
   simp only [go_sem,↓reduceIte,aeB,aeA,e2]
end Go.Ab
namespace Go.Ab
open Go Go.IntWalk
set_option maxRecDepth 4000
def afn:Cmd:=.seq (.seq (.ops [1,2,6,8,9,55] [cm 52 2,cm 53 52,cg 54 53 true (.mv (.t 10)),co 55 (.pick (.t 53) (.t 54) (.c (.v (.bool false))))]) (.cond (.t 55) (.ops [1,2,6,8,9] [cm 57 9,⟨(some 58),none,.buildSl 1 [(.v (.int .u32 0))] 1 [(0,(.c (.v (.int .u32 1))))]⟩,⟨(some 59),none,.call (.c (.fn F.natural_Add [] [])) [(.t 57),(.t 58)]⟩,cm 56 59,co 60 (.ext 0 (.t 56)),co 61 (.ext 1 (.t 56)),cm 9 60]) (.skip))) (.seq (.seq (.ops [1,2,6,8,9,66] [cm 62 9,⟨(some 63),none,.call (.c (.fn F.natural_Bits [] [])) [(.t 62)]⟩,cm 64 8,co 65 (.bin .add (.t 63) (.t 64)),co 66 (.bin .gtr (.t 65) (.c (.v (.int .i64 16384))))]) (.cond (.t 66) (.seq (.seq (.ops [1,6,67] [cm 67 2]) (.cond (.t 67) (.seq (.ops [6,7] [co 68 (.build [(.v (.bool false)),.emp,(.v (.int .i64 0))] []),⟨none,none,.store 3 (.t 6) (.t 68)⟩,co 7 (.mv (.c (.v (.int .i64 9))))]) (.ret)) (.skip))) (.seq (.ops [1,6,9] [⟨(some 70),none,.buildSl 1 [(.v (.int .u32 0))] 1 [(0,(.c (.v (.int .u32 1))))]⟩,cm 71 1,⟨(some 72),none,.call (.c (.fn F.round_shl [] [])) [(.t 70),(.t 71)]⟩,⟨(some 73),none,.buildSl 1 [(.v (.int .u32 0))] 1 [(0,(.c (.v (.int .u32 1))))]⟩,⟨(some 74),none,.call (.c (.fn F.natural_Sub [] [])) [(.t 72),(.t 73)]⟩,cm 69 74,co 75 (.ext 0 (.t 69)),co 76 (.ext 1 (.t 69)),cm 9 75]) (.ops [6,8,9] [cm 77 1,co 78 (.bin .sub (.c (.v (.int .i64 16384))) (.t 77)),cm 8 78]))) (.skip))) (.seq (.ops [6,7] [cm 79 9,cm 80 8,⟨(some 81),none,.call (.c (.fn F.dyadic_Make [] [])) [(.c (.v (.bool false))),(.t 79),(.t 80)]⟩,co 82 (.ext 0 (.t 81)),co 83 (.ext 1 (.t 81)),⟨none,none,.store 3 (.t 6) (.t 82)⟩,cm 7 83]) (.ret)))
theorem ajY:alQ=.seq (.ops [1,2,3,6] [⟨(some 3),none,.box 3 (.t 0)⟩,⟨(some 6),none,.alloc [(.v (.bool false)),.emp,(.v (.int .i64 0))]⟩,co 7 (.mv (.c (.v (.int .i64 0))))]) (.seq (.dops [1,2,3,6,8] [co 13 (.fadr 1 (.t 3)),⟨(some 14),none,.load 1 false (.t 13)⟩,co 15 (.fadr 0 (.t 3)),⟨(some 16),none,.load 1 false (.t 15)⟩,⟨(some 17),none,.call (.c (.fn F.natural_Bits [] [])) [(.t 16)]⟩,co 18 (.bin .add (.t 14) (.t 17)),cm 19 1,co 20 (.bin .sub (.t 18) (.t 19)),co 21 (.mnx false (.t 20) [(.c (.v (.int .i64 (-16384))))]),cm 8 21] [(1,4)]) (.seq (.dops [1,2,3,6,8,10] [co 22 (.fadr 0 (.t 3)),⟨(some 23),none,.load 1 false (.t 22)⟩,co 24 (.fadr 2 (.t 3)),⟨(some 25),none,.load 1 false (.t 24)⟩,cm 9 23,cm 10 25] []) (.seq (.seq (.ops [1,2,3,6,8,10,29] [co 26 (.fadr 1 (.t 3)),⟨(some 27),none,.load 1 false (.t 26)⟩,cm 28 8,co 29 (.bin .geq (.t 27) (.t 28))]) (.cond (.t 29) (.ops [1,2,6,8,9,10] [co 30 (.fadr 0 (.t 3)),⟨(some 31),none,.load 1 false (.t 30)⟩,co 32 (.fadr 1 (.t 3)),⟨(some 33),none,.load 1 false (.t 32)⟩,cm 34 8,co 35 (.bin .sub (.t 33) (.t 34)),⟨(some 36),none,.call (.c (.fn F.round_shl [] [])) [(.t 31),(.t 35)]⟩,cm 9 36]) (.seq (.ops [1,2,6,8,10,11,12] [co 38 (.fadr 0 (.t 3)),⟨(some 39),none,.load 1 false (.t 38)⟩,cm 40 8,co 41 (.fadr 1 (.t 3)),⟨(some 42),none,.load 1 false (.t 41)⟩,co 43 (.bin .sub (.t 40) (.t 42)),⟨(some 44),none,.call (.c (.fn F.round_shr [] [])) [(.t 39),(.t 43)]⟩,cm 37 44,co 45 (.ext 0 (.t 37)),co 46 (.ext 1 (.t 37)),cm 11 45,cm 12 46]) (.ops [1,2,6,8,9,10] [cm 47 11,cm 48 10,cm 49 48,cg 50 49 false (.mv (.t 12)),co 51 (.pick (.t 49) (.c (.v (.bool true))) (.t 50)),cm 9 47,cm 10 51])))) afn))):=rfl
def PJ (M:Nat) (e:Int) (p:Int):Int:=if e+(am M:Nat) - p < -16384 then -16384 else e+(am M:Nat) - p
def ZF (M:Nat) (e:Int) (more:Bool) (u:Int):Nat × Bool:=if u≤e then (M*2 ^ (e - u).toNat,more) else (M / 2 ^ (u - e).toNat,more || decide (M % 2 ^ (u - e).toNat ≠ 0))
def fe (up:Bool) (q:Nat × Bool):Nat:=if (up && q.2)=true then q.1+1 else q.1
def akI (q:Nat) (u:Int):AV:=KI (bA false q u)
def aov (p:Int) (up:Bool) (q:Nat) (u:Int):AV:=if 16384 < (am q:Nat)+u then (if up=true then .tup [aF fp,I 9] else akI (2 ^ p.toNat - 1) (16384 - p)) else akI q u
theorem apD {q:Nat} {u:Int} (hq:am q≤8192) (h1:-32768≤u) (h2:u≤32768):R F.dyadic_Make [B false,lm (av q),I u] []=some (akI q u,[]):=by
 have hl:(av q).length≤256:=bG (by omega)
 rw [atz (ce q) (Nat.lt_of_le_of_lt hl (by decide)),if_neg (by omega),bL]
 rfl
theorem auK {q:Nat} (hq:am q≤8000):R F.natural_Add [lm (av q),lm [1]] []=some (.tup [lm (av (q+1)),I 0],[]):=by
 have hl:(av q).length≤250:=bG (by omega)
 have h1:Lb [1]:=fun x hx=>by
  rw [List.mem_singleton.1 hx]
  decide
 have h2:am (q+1)≤8001:=al6 hq
 have hl2:(av (q+1)).length≤256:=bG (by omega)
 rw [Sg (ce q) h1 (by omega) (by decide),bL]
 show some (jd (q+1),[])=_
 rw [jd,if_neg (by omega)]
theorem akj:ac [1]=1:=rfl
theorem alz:Lb [1]:=fun x hx=>by
 rw [List.mem_singleton.1 hx]
 decide
theorem auL (n:Nat) (hn:n≤1000):R F.round_shl [lm [1],I (n:Nat)] []=some (lm (av (2 ^ n)),[])∧R F.natural_Sub [lm (av (2 ^ n)),lm [1]] []=some (.tup [lm (av (2 ^ n - 1)),I 0],[]):=by
 have hb:am (2 ^ n)≤n+1:=by
  rw [cX]
  exact Nat.pow_lt_pow_right (by decide) (Nat.lt_succ_self n)
 have h1:(av (2 ^ n)).length≤256:=bG (by omega)
 have h2:=amS alz (by decide) (k:=n) (by omega) (by rw [akj,Nat.one_mul]; exact h1)
 rw [akj,Nat.one_mul] at h2
 have h3:=Si (ce (2 ^ n)) alz h1 (by decide)
 have h4:0 < 2 ^ n:=Nat.two_pow_pos n
 have h5:am (2 ^ n - 1)≤n:=by
  rw [cX]
  omega
 have h6:(av (2 ^ n - 1)).length≤256:=bG (by omega)
 rw [bL,akj,if_neg (by omega),jd,if_neg (by omega)] at h3
 exact ⟨h2,h3⟩
theorem akM:AV.sl 1 [[AV.v (.int .u32 1)]]=lm [1]:=rfl
theorem al7 {n:Nat} {u:Int} {up more:Bool} {q:Nat} (hp:8≤n∧n≤512) (hq:am q≤7000) (hu:-16384≤u∧u≤60000) (s:af) (z:Ob)
  (h1:s 1=I (n:Nat)) (h2:s 2=B up) (h6:s 6=.ref 6 none 0 0 0) (h8:s 8=I u) (h9:s 9=lm (av q)) (h10:s 10=B more) :
  ajf false [[.o 0 [],.o 2 [],.o 0 []],[]] [.cell 6 3 true,.t 7] 0 (az R (ab false) afn s (upd (upd (fun _=>.dead) 3 z) 6 (.bx [.v (.bool false),.emp,.v (.int .i64 0)])))=some (aov (n:Nat) up (fe up (q,more)) u,[]):=by
 have hi:=auK (q:=q) (by omega)
 obtain ⟨t1,t2⟩:=auL n (by omega)
 have hb:am (fe up (q,more))≤7001:=by
  unfold fe
  split
  ·exact al6 hq
  ·exact Nat.le_trans hq (by decide)
 have hB:=Qy (ce (fe up (q,more))) (Nat.le_trans (bG (k:=256) (by omega)) (by decide))
 rw [bL] at hB
 have w1:IntKind.i64.wrap (((am (fe up (q,more)):Nat):Int)+u)=((am (fe up (q,more)):Nat):Int)+u:=i64_in _ ⟨by omega,by omega⟩
 have w2:IntKind.i64.wrap (16384 - (n:Int))=16384 - (n:Int):=i64_in _ ⟨by omega,by omega⟩
 have hm2:R F.dyadic_Make [B false,lm (av (2 ^ n - 1)),I (16384 - (n:Int))] []=some (akI (2 ^ n - 1) (16384 - (n:Int)),[]):=apD (asH (by omega)) (by omega) (by omega)
 unfold aov
 by_cases ho:16384 < ((am (fe up (q,more)):Nat):Int)+u
 ·have e1:(16384 < ((am (fe up (q,more)):Nat):Int)+u)=True:=tt ho
  rw [if_pos ho,Int.toNat_natCast]
  clear ho hb
  cases up with
  | false =>
   simp only [fe,Bool.false_and,if_neg Bool.false_ne_true] at hB w1 e1 ⊢
   unfold akI KI at hm2 ⊢
   generalize bA false (2 ^ n - 1) (16384 - (n:Int))=dd at hm2 ⊢
   simp only [aF,aW] at hm2
   cases hv:qC (am (ac dd.m)) dd.e with
   | true =>
    rw [hv] at hm2
    rw [if_pos rfl] at hm2 ⊢
    simp only [afn,aF,aW,go_sem,↓reduceIte,aez,aeB,aeA,aeC,aeE,h1,h2,h6,h8,h9,h10,hB,w1,e1,w2,t1,t2,akM,hm2]
   | false =>
    rw [hv] at hm2
    rw [if_neg Bool.false_ne_true] at hm2 ⊢
    simp only [afn,aF,aW,fp,go_sem,↓reduceIte,aez,aeB,aeA,aeC,aeE,h1,h2,h6,h8,h9,h10,hB,w1,e1,w2,t1,t2,akM,hm2]
  | true =>
   cases more with
   | false =>
    simp only [fe,Bool.and_false,if_neg Bool.false_ne_true] at hB w1 e1 ⊢
    simp only [afn,aF,aW,fp,go_sem,↓reduceIte,aez,aeB,aeA,aeC,aeE,h1,h2,h6,h8,h9,h10,hB,w1,e1]
   | true =>
    simp only [fe,Bool.and_true,if_true] at hB w1 e1 ⊢
    simp only [afn,aF,aW,fp,go_sem,↓reduceIte,aez,aeB,aeA,aeC,aeE,h1,h2,h6,h8,h9,h10,hB,w1,e1,hi,akM]
 ·have e1:(16384 < ((am (fe up (q,more)):Nat):Int)+u)=False:=ff ho
  rw [if_neg ho]
  have hm:=apD (q:=fe up (q,more)) (u:=u) (by omega) (by omega) (by omega)
  clear ho hb
  cases up with
  | false =>
   simp only [fe,Bool.false_and,if_neg Bool.false_ne_true] at hB w1 e1 hm ⊢
   unfold akI KI at hm ⊢
   generalize bA false q u=dd at hm ⊢
   simp only [aF,aW] at hm
   cases hv:qC (am (ac dd.m)) dd.e with
   | true =>
    rw [hv] at hm
    rw [if_pos rfl] at hm ⊢
    simp only [afn,aF,aW,go_sem,↓reduceIte,aez,aeB,aeA,aeC,aeE,h1,h2,h6,h8,h9,h10,hB,w1,e1,hm]
   | false =>
    rw [hv] at hm
    rw [if_neg Bool.false_ne_true] at hm ⊢
    simp only [afn,aF,aW,fp,go_sem,↓reduceIte,aez,aeB,aeA,aeC,aeE,h1,h2,h6,h8,h9,h10,hB,w1,e1,hm]
  | true =>
   cases more with
   | false =>
    simp only [fe,Bool.and_false,if_neg Bool.false_ne_true] at hB w1 e1 hm ⊢
    unfold akI KI at hm ⊢
    generalize bA false q u=dd at hm ⊢
    simp only [aF,aW] at hm
    cases hv:qC (am (ac dd.m)) dd.e with
    | true =>
     rw [hv] at hm
     rw [if_pos rfl] at hm ⊢
     simp only [afn,aF,aW,go_sem,↓reduceIte,aez,aeB,aeA,aeC,aeE,h1,h2,h6,h8,h9,h10,hB,w1,e1,hm]
    | false =>
     rw [hv] at hm
     rw [if_neg Bool.false_ne_true] at hm ⊢
     simp only [afn,aF,aW,fp,go_sem,↓reduceIte,aez,aeB,aeA,aeC,aeE,h1,h2,h6,h8,h9,h10,hB,w1,e1,hm]
   | true =>
    simp only [fe,Bool.and_true,if_true] at hB w1 e1 hm ⊢
    unfold akI KI at hm ⊢
    generalize bA false (q+1) u=dd at hm ⊢
    simp only [aF,aW] at hm
    cases hv:qC (am (ac dd.m)) dd.e with
    | true =>
     rw [hv] at hm
     rw [if_pos rfl] at hm ⊢
     simp only [afn,aF,aW,go_sem,↓reduceIte,aez,aeB,aeA,aeC,aeE,h1,h2,h6,h8,h9,h10,hB,w1,e1,hi,akM,hm]
    | false =>
     rw [hv] at hm
     rw [if_neg Bool.false_ne_true] at hm ⊢
     simp only [afn,aF,aW,fp,go_sem,↓reduceIte,aez,aeB,aeA,aeC,aeE,h1,h2,h6,h8,h9,h10,hB,w1,e1,hi,akM,hm]
theorem auM {M:List Nat} (hb:Lb M) (hl:M.length≤256) {e:Int} {n:Nat} {more up:Bool} (he:-40000≤e∧e≤40000) (hp:8≤n∧n≤512):R F.round_cut [exA M e more,I (n:Nat),B up] []=some (aov (n:Nat) up (fe up (ZF (ac M) e more (PJ (ac M) e (n:Nat)))) (PJ (ac M) e (n:Nat)),[]):=by
 refine aZ aps apr (amM false) rfl ?_
 have hB:=Qy hb (Nat.le_trans hl (by decide))
 have hlen:=akL hb
 have w1:IntKind.i64.wrap (e+(am (ac M):Nat))=e+(am (ac M):Nat):=i64_in _ ⟨by omega,by omega⟩
 have w2:IntKind.i64.wrap (e+(am (ac M):Nat) - (n:Nat))=e+(am (ac M):Nat) - (n:Nat):=i64_in _ ⟨by omega,by omega⟩
 obtain ⟨u,hu⟩:∃ u,PJ (ac M) e (n:Nat)=u:=⟨_,rfl⟩
 rw [hu]
 unfold PJ at hu
 unfold ZF
 have hu1:-16384≤u∧e+(am (ac M):Nat) - (n:Nat)≤u∧(u=-16384∨u=e+(am (ac M):Nat) - (n:Nat)):=by
  split at hu <;> omega
 by_cases hc:u≤e
 ·have e1:(u≤e)=True:=tt hc
  rw [if_pos hc]
  have w3:IntKind.i64.wrap (e - u)=(((e - u).toNat:Nat):Int):=wi (by omega) (by omega)
  have hq:am (ac M*2 ^ (e - u).toNat)≤7000:=by
   by_cases h0:ac M=0
   ·rw [h0,Nat.zero_mul]
    exact Nat.zero_le _
   ·rw [lO _ h0]
    omega
  by_cases h64:(e - u).toNat≤65536
  ·have hs:=amS hb (by omega) (k:=(e - u).toNat) h64 (bG (by omega))
   simp only [ajc,ajY,exA,go_sem,↓reduceIte,aez,aeB,aeA,aeC,aeE,aeD,hB,w1,w2,hu,e1,w3,hs]
   exact al7 hp hq (by omega) _ _ rfl rfl rfl rfl rfl rfl
  ·omega
 ·have e1:(u≤e)=False:=ff hc
  rw [if_neg hc]
  have w3:IntKind.i64.wrap (u - e)=(((u - e).toNat:Nat):Int):=wi (by omega) (by omega)
  have hs:=atA hb (by omega) (n:=(u - e).toNat) (by omega)
  have hq:am (ac M / 2 ^ (u - e).toNat)≤7000:=by
   rw [zY]
   omega
  cases more with
  | false =>
   rw [Bool.false_or]
   simp only [ajc,ajY,exA,go_sem,↓reduceIte,aez,aeB,aeA,aeC,aeE,aeD,hB,w1,w2,hu,e1,w3,hs]
   exact al7 hp hq (by omega) _ _ rfl rfl rfl rfl rfl rfl
  | true =>
   rw [Bool.true_or]
   simp only [ajc,ajY,exA,go_sem,↓reduceIte,aez,aeB,aeA,aeC,aeE,aeD,hB,w1,w2,hu,e1,w3,hs]
   exact al7 hp hq (by omega) _ _ rfl rfl rfl rfl rfl rfl
end Go.Ab
namespace Go.Ab
open Go Go.IntWalk
set_option maxRecDepth 4000
def dU (d:Rd):Rd × Int:=if qC (am (ac d.m)) d.e=true then (d,0) else (fp,9)
def ZG (p:Int) (up:Bool) (q:Nat) (u:Int):Rd × Int:=if 16384 < (am q:Nat)+u then (if up=true then (fp,9) else dU (bA false (2 ^ p.toNat - 1) (16384 - p))) else dU (bA false q u)
def rV (r:Rd × Int):AV:=.tup [aF r.1,I r.2]
theorem IX (d:Rd):KI d=rV (dU d):=by
 unfold KI dU
 split <;> rfl
theorem atB (p:Int) (up:Bool) (q:Nat) (u:Int):aov p up q u=rV (ZG p up q u):=by
 unfold aov ZG akI
 split
 ·split
  ·rfl
  ·exact IX _
 ·exact IX _
theorem al8 (n:Nat):am (2 ^ n - 1)≤n:=by
 rw [cX]
 have:=Nat.two_pow_pos n
 omega
theorem atC (p:Int) (up:Bool) (q:Nat) (u:Int):Lb (ZG p up q u).1.m:=by
 have h0:Lb fp.m:=fun x hx=>nomatch hx
 have hc:∀ d:Rd,Lb d.m→Lb (dU d).1.m:=fun d hd=>by
  unfold dU
  split
  ·exact hd
  ·exact h0
 unfold ZG
 split
 ·split
  ·exact h0
  ·exact hc _ (Cx _ _ _)
 ·exact hc _ (Cx _ _ _)
theorem asK (p:Int) (up:Bool) (q:Nat) (u:Int) (hp:p.toNat≤8000) (hq:am q≤8000):(ZG p up q u).1.m.length≤256:=by
 have h0:fp.m.length≤256:=Nat.zero_le _
 have hc:∀ d:Rd,d.m.length≤256→(dU d).1.m.length≤256:=fun d hd=>by
  unfold dU
  split
  ·exact hd
  ·exact h0
 unfold ZG
 split
 ·split
  ·exact h0
  ·exact hc _ (Hc (Nat.le_trans (al8 _) (by omega)))
 ·exact hc _ (Hc (by omega))
def ZH (d:Rd):Rd:=if vd d=false∨d.m.length=0 then fp else ⟨!d.neg,d.m,d.e⟩
def ZI (M:Nat) (e:Int) (more:Bool) (p:Int) (up:Bool):Rd × Int:=ZG p up (fe up (ZF M e more (PJ M e p))) (PJ M e p)
def ZJ (neg:Bool) (r:Rd × Int):Rd × Int:=if r.2=0∧neg=true then (ZH r.1,r.2) else r
theorem arH {M:Nat} {e:Int} {more up:Bool} {n:Nat} (hM:am M≤8192) (hp:8≤n∧n≤512) (he:-40000≤e∧e≤40000):am (fe up (ZF M e more (PJ M e (n:Nat))))≤7001:=by
 have hq:am (ZF M e more (PJ M e (n:Nat))).1≤7000:=by
  obtain ⟨u,hu⟩:∃ u,PJ M e (n:Nat)=u:=⟨_,rfl⟩
  rw [hu]
  unfold PJ at hu
  have hu1:-16384≤u∧e+(am M:Nat) - (n:Nat)≤u∧(u=-16384∨u=e+(am M:Nat) - (n:Nat)):=by
   split at hu <;> omega
  unfold ZF
  split
  ·by_cases h0:M=0
   ·rw [h0,Nat.zero_mul]
    exact Nat.zero_le _
   ·rw [lO _ h0]
    omega
  ·rw [zY]
   omega
 generalize ZF M e more (PJ M e (n:Nat))=q at hq ⊢
 unfold fe
 split
 ·exact al6 hq
 ·exact Nat.le_trans hq (by decide)
theorem arI {M:List Nat} (hb:Lb M) (hl:M.length≤256) {e:Int} {n:Nat} {more up neg:Bool} (he:-40000≤e∧e≤40000) (hp:8≤n∧n≤512):R F.round_signed [B neg,exA M e more,I (n:Nat),B up] []=some (rV (ZJ neg (ZI (ac M) e more (n:Nat) (up != neg))),[]):=by
 refine aZ amH amG (alG false) rfl ?_
 have hc:=auM (more:=more) (up:=up != neg) hb hl he hp
 have hlen:=akL hb
 have hB:=arH (M:=ac M) (e:=e) (more:=more) (up:=up != neg) (by omega) hp he
 rw [atB] at hc
 have hL:=atC (n:Nat) (up != neg) (fe (up != neg) (ZF (ac M) e more (PJ (ac M) e (n:Nat)))) (PJ (ac M) e (n:Nat))
 have hN:=asK (n:Nat) (up != neg) (fe (up != neg) (ZF (ac M) e more (PJ (ac M) e (n:Nat)))) (PJ (ac M) e (n:Nat)) (by omega) (by omega)
 unfold ZI
 generalize ZG (n:Nat) (up != neg) (fe (up != neg) (ZF (ac M) e more (PJ (ac M) e (n:Nat)))) (PJ (ac M) e (n:Nat))=r at hc hL hN ⊢
 obtain ⟨d,x⟩:=r
 have hn:=agR (d:=d) ⟨hL,Nat.lt_of_le_of_lt hN (by decide)⟩
 simp only [rV,aF,aW,exA] at hc hn
 unfold ZJ ZH
 by_cases hx:x=0
 ·have e1:(x=0)=True:=tt hx
  cases neg with
  | false =>
   rw [if_neg (fun h=>nomatch h.2)]
   simp only [aiH,ajK,rV,aF,aW,exA,go_sem,↓reduceIte,aez,aeB,aeA,aeC,L9,hc,e1]
  | true =>
   rw [if_pos ⟨hx,rfl⟩]
   generalize (if vd d=false∨d.m.length=0 then fp else (⟨!d.neg,d.m,d.e⟩:Rd))=d2 at hn ⊢
   simp only [aiH,ajK,rV,aF,aW,exA,go_sem,↓reduceIte,aez,aeB,aeA,aeC,L9,hc,e1,hn]
 ·have e1:(x=0)=False:=ff hx
  rw [if_neg (fun h=>hx h.1)]
  simp only [aiH,ajK,rV,aF,aW,exA,go_sem,↓reduceIte,aez,aeB,aeA,aeC,L9,hc,e1]
end Go.Ab
namespace Go.Ab
open Go Go.IntWalk
set_option maxRecDepth 4000
def akw (d:Rd) (p:Int) (up:Bool):Rd × Int:=if Bw p [d]=0 then ZJ d.neg (ZI (ac d.m) d.e false p (up != d.neg)) else (fp,Bw p [d])
theorem alA {p:Int} {l:List Rd} (h:Bw p l=0):l.all vd=true∧8≤p∧p≤512:=by
 unfold Bw at h
 split at h
 ·rename_i h1
  split at h
  ·rename_i h2
   exact ⟨h1,h2⟩
  ·exact nomatch h
 ·exact nomatch h
theorem xi {d:Rd} (h:vd d=true) (hb:Lb d.m):d.m.length≤128:=by
 obtain ⟨h1,h2,h3,h4⟩:=kT h hb
 by_cases h0:d.m.length=0
 ·omega
 obtain ⟨g1,g2,g3,g4⟩:=rQ h h0
 have h5:4294967296 ^ (d.m.length - 1)≤ac d.m:=by
  have h6:=vK (a:=d.m) (i:=d.m.length - 1) (by omega)
  rw [show d.m.length - 1+1=d.m.length by omega,List.take_length] at h6
  rw [h6]
  exact Nat.le_trans (Nat.le_mul_of_pos_right _ (Nat.pos_of_ne_zero g3)) (Nat.le_add_left _ _)
 have h7:32*(d.m.length - 1) < am (ac d.m):=by
  rw [kH,Nat.pow_mul]
  exact h5
 omega
theorem aow {d:Rd} (ok:Ok0 d) {p:Int} {up:Bool}:R F.round_round [aF d,I p,B up] []=some (rV (akw d p up),[]):=by
 refine aZ anD anC (al1 false) rfl ?_
 have hf:R F.round_fault [I p,.sl 3 [[B d.neg,lm d.m,I d.e]]] []=some (I (Bw p [d]),[]):=asJ (p:=p) (l:=[d]) (fun x hx=>by rw [List.mem_singleton.1 hx]; exact ok) (show 1≤100000 by decide)
 unfold akw
 by_cases h0:Bw p [d]=0
 ·obtain ⟨v1,v2,v3⟩:=alA h0
  have v4:vd d=true:=by simpa using v1
  obtain ⟨h1,h2,h3,h4⟩:=kT v4 ok.lb
  have h5:=xi v4 ok.lb
  rw [if_pos h0]
  rw [h0] at hf
  obtain ⟨n,rfl⟩:=Int.eq_ofNat_of_zero_le (show 0≤p by omega)
  have hs:=arI (M:=d.m) (e:=d.e) (n:=n) (more:=false) (up:=up) (neg:=d.neg) ok.lb (by omega) ⟨by omega,by omega⟩ ⟨by omega,by omega⟩
  have ho:=awa (d:=d)
  generalize ZJ d.neg (ZI (ac d.m) d.e false (n:Nat) (up != d.neg))=r at hs ⊢
  simp only [rV,aF,aW,exA] at hs ho
  simp only [ai8,akz,rV,aF,aW,go_sem,↓reduceIte,aez,aeB,aeA,aeC,aeE,aeD,hf,hs,ho]
 ·have e1:(Bw p [d]=0)=False:=ff h0
  rw [if_neg h0]
  simp only [ai8,akz,rV,aF,aW,fp,go_sem,↓reduceIte,aez,aeB,aeA,aeC,aeE,hf,e1]
theorem auN {d:Rd} (ok:Ok0 d) {p:Int}:R F.round_Up [aF d,I p] []=some (rV (akw d p true),[]):=by
 refine aZ ap6 ap5 (anv false) rfl ?_
 have hr:=aow ok (p:=p) (up:=true)
 generalize akw d p true=r at hr ⊢
 simp only [rV,aF,aW] at hr
 simp only [akn,amc,rV,aF,aW,go_sem,↓reduceIte,aez,aeB,aeA,aeC,hr]
theorem asL {d:Rd} (ok:Ok0 d) {p:Int}:R F.round_Down [aF d,I p] []=some (rV (akw d p false),[]):=by
 refine aZ aoh aog (amq false) rfl ?_
 have hr:=aow ok (p:=p) (up:=false)
 generalize akw d p false=r at hr ⊢
 simp only [rV,aF,aW] at hr
 simp only [ajU,als,rV,aF,aW,go_sem,↓reduceIte,aez,aeB,aeA,aeC,hr]
end Go.Ab
namespace Go.Ab
open Go Go.IntWalk
set_option maxRecDepth 4000
end Go.Ab
namespace Go.Ab
open Go Go.IntWalk
set_option maxRecDepth 4000
end Go.Ab
namespace Go.Ab
open Go Go.IntWalk
set_option maxRecDepth 4000
theorem pI {d:Rd} (h:vd d=true) (h0:d.m.length ≠ 0):bo d=(am (ac d.m):Nat)+d.e:=by
 rw [bo,if_neg (fun h'=>h'.elim (fun h''=>by rw [h] at h''; exact nomatch h'') h0)]
end Go.Ab
namespace Go.Ab
open Go Go.IntWalk
set_option maxRecDepth 4000
theorem Hd {x y k:Nat} (hx:am x≤k) (hy:am y≤k):am (x+y)≤k+1:=by
 rw [cX] at hx hy ⊢
 rw [Nat.pow_succ]
 omega
theorem QC {x y:Nat} (hx:am x≤5000) (hy:am y≤5000):R F.natural_Add [lm (av x),lm (av y)] []=some (.tup [lm (av (x+y)),I 0],[]):=by
 have h1:(av x).length≤200:=bG (by omega)
 have h2:(av y).length≤200:=bG (by omega)
 have h3:=Hd hx hy
 have h4:(av (x+y)).length≤200:=bG (by omega)
 rw [Sg (ce x) (ce y) (by omega) (by omega),bL,bL,jd,if_neg (by omega)]
theorem IY {x y:Nat} (hx:am x≤5000) (hy:am y≤5000) (h:y≤x):R F.natural_Sub [lm (av x),lm (av y)] []=some (.tup [lm (av (x - y)),I 0],[]):=by
 have h1:(av x).length≤200:=bG (by omega)
 have h2:(av y).length≤200:=bG (by omega)
 have h3:am (x - y)≤5000:=by
  rw [cX] at hx ⊢
  omega
 have h4:(av (x - y)).length≤200:=bG (by omega)
 rw [Si (ce x) (ce y) (by omega) (by omega),bL,bL,if_neg (by omega),jd,if_neg (by omega)]
end Go.Ab
namespace Go.Ab
open Go Go.IntWalk
set_option maxRecDepth 4000
end Go.Ab
namespace Go.Ab
open Go Go.IntWalk
set_option maxRecDepth 4000
end Go.Ab
namespace Go.Ab
open Go Go.IntWalk
set_option maxRecDepth 4000
theorem asM {N k:Nat} {f u:Int} {more:Bool} (hm:more=decide (N % 2 ^ k ≠ 0)) (hu:more=true→f+k < u):ZF (N / 2 ^ k) (f+k) more u=ZF N f false u:=by
 unfold ZF
 by_cases h:u≤f+k
 ·rw [if_pos h]
  have hf:more=false:=by
   cases more with
   | false=>rfl
   | true=>exact absurd (hu rfl) (by omega)
  subst hf
  have h0:N % 2 ^ k=0:=by
   have:=of_decide_eq_false hm.symm
   omega
  obtain ⟨M,rfl⟩:=Nat.dvd_of_mod_eq_zero h0
  rw [Nat.mul_div_cancel_left _ (Nat.two_pow_pos k)]
  by_cases h2:u≤f
  ·rw [if_pos h2,show (f+k - u).toNat=k+(f - u).toNat by omega,Nat.pow_add,Nat.mul_comm (2 ^ k) M,Nat.mul_assoc]
  ·rw [if_neg h2]
   obtain ⟨j,hj⟩:∃ j,(f+k - u).toNat=j:=⟨_,rfl⟩
   obtain ⟨i,hi⟩:∃ i,(u - f).toNat=i:=⟨_,rfl⟩
   have hk:k=i+j:=by omega
   rw [hj,hi,hk,Nat.pow_add,Nat.mul_assoc,Nat.mul_div_cancel_left _ (Nat.two_pow_pos i),Nat.mul_mod_right,Nat.mul_comm M]
   rfl
 ·rw [if_neg h,if_neg (by omega)]
  obtain ⟨j,hj⟩:∃ j,(u - (f+k)).toNat=j:=⟨_,rfl⟩
  rw [show (u - f).toNat=k+j by omega,hj,Nat.pow_add,Nat.div_div_eq_div_mul,Nat.mod_mul,hm]
  refine Prod.ext rfl ?_
  show (decide (N % 2 ^ k ≠ 0) || decide (N / 2 ^ k % 2 ^ j ≠ 0))=(false || decide (N % 2 ^ k+2 ^ k*(N / 2 ^ k % 2 ^ j) ≠ 0))
  have h2:=Nat.two_pow_pos k
  rw [Bool.false_or,← Bool.decide_or]
  congr 1
  refine propext ⟨fun h3 h4=>?_,fun h3=>?_⟩
  ·obtain ⟨h5,h6⟩:=Nat.add_eq_zero_iff.1 h4
   rcases Nat.mul_eq_zero.1 h6 with h7 | h7
   ·omega
   ·exact h3.elim (fun h8=>h8 h5) (fun h8=>h8 h7)
  ·by_cases h5:N % 2 ^ k=0
   ·refine Or.inr fun h6=>h3 ?_
    rw [h5,h6,Nat.mul_zero]
   ·exact Or.inl h5
theorem arJ {N k:Nat} {f p:Int} (hM:N / 2 ^ k ≠ 0):PJ (N / 2 ^ k) (f+k) p=PJ N f p:=by
 have h1:=kj hM
 rw [zY] at h1
 unfold PJ
 rw [zY,show f+(k:Int)+((am N - k:Nat):Int) - p=f+(am N:Nat) - p by omega]
theorem atD {N k:Nat} {f p:Int} {more up:Bool} (hM:N / 2 ^ k ≠ 0) (hm:more=decide (N % 2 ^ k ≠ 0)) (hp:more=true→p < (am (N / 2 ^ k):Nat)):ZI (N / 2 ^ k) (f+k) more p up=ZI N f false p up:=by
 unfold ZI
 have hu:more=true→f+k < PJ (N / 2 ^ k) (f+k) p:=fun h=>by
  have:=hp h
  unfold PJ
  split <;> omega
 rw [asM hm hu,arJ hM]
theorem am7 {M k:Nat} {f p:Int} {up:Bool} (hM:M ≠ 0):ZI (M*2 ^ k) f false p up=ZI M (f+k) false p up:=by
 have h1:M*2 ^ k / 2 ^ k=M:=Nat.mul_div_cancel _ (Nat.two_pow_pos k)
 have:=atD (N:=M*2 ^ k) (k:=k) (f:=f) (p:=p) (more:=false) (up:=up) (by rw [h1]; exact hM) (by rw [Nat.mul_mod_left]; rfl) (fun h=>absurd h Bool.false_ne_true)
 rw [h1] at this
 exact this.symm
def X6 (z f p:Int) (up:Bool):Rd × Int:=if z=0 then (fp,0) else ZJ (decide (z < 0)) (ZI z.natAbs f false p (up != decide (z < 0)))
theorem apE {n:Nat} {f p:Int} {up neg:Bool} (h:n ≠ 0):X6 (if neg=true then -(n:Int) else n) f p up=ZJ neg (ZI n f false p (up != neg)):=by
 unfold X6
 cases neg with
 | true =>
  rw [if_pos rfl,if_neg (by omega),show decide (-(n:Int) < 0)=true from decide_eq_true (by omega),Int.natAbs_neg,Int.natAbs_natCast]
 | false =>
  rw [if_neg Bool.false_ne_true,if_neg (by omega),show decide ((n:Int) < 0)=false from decide_eq_false (by omega),Int.natAbs_natCast]
theorem arK {z f p:Int} {k:Nat} {up:Bool}:X6 (z*2 ^ k) f p up=X6 z (f+k) p up:=by
 unfold X6
 by_cases h:z=0
 ·rw [h,Int.zero_mul,if_pos rfl,if_pos rfl]
 ·have h2:(0:Int) < 2 ^ k:=Int.pow_pos (by decide)
  have h3:z*2 ^ k ≠ 0:=fun h3=>by
   rcases Int.mul_eq_zero.1 h3 with h4 | h4
   ·exact h h4
   ·omega
  have h4:decide (z*2 ^ k < 0)=decide (z < 0):=by
   congr 1
   refine propext ⟨fun h5=>?_,fun h5=>Int.mul_neg_of_neg_of_pos h5 h2⟩
   refine Int.not_le.1 fun h6=>?_
   have:=Int.mul_nonneg h6 (Int.le_of_lt h2)
   omega
  rw [if_neg h,if_neg h3,h4,Int.natAbs_mul,Int.natAbs_pow,show (2:Int).natAbs=2 from rfl,am7 (fun h5=>h (Int.natAbs_eq_zero.1 h5))]
end Go.Ab
namespace Go.Ab
open Go Go.IntWalk
set_option maxRecDepth 4000
def fX (neg:Bool) (n:Nat):Int:=if neg=true then -(n:Int) else n
theorem je (n:Nat):fX true n=-(n:Int):=rfl
theorem jf (n:Nat):fX false n=(n:Int):=rfl
end Go.Ab
namespace Go.Ab
open Go Go.IntWalk
set_option maxRecDepth 4000
def ZK (a b:Rd) (p:Int) (up:Bool):Rd × Int:=if Bw p [a,b]=0 then X6 (zI a*zI b) (-32768) p up else (fp,Bw p [a,b])
theorem rf {d:Rd} (h:d.m.length=0):zI d=0:=by
 unfold zI
 rw [IW h]
 split <;> rfl
theorem atE {p:Int} {up:Bool} (hp:8≤p∧p≤512):ZI 0 0 false p up=(fp,0):=by
 have hu:-600≤PJ 0 0 p∧PJ 0 0 p≤0:=by
  unfold PJ
  rw [L8]
  split <;> omega
 unfold ZI
 obtain ⟨u,he⟩:∃ u,PJ 0 0 p=u:=⟨_,rfl⟩
 rw [he] at hu ⊢
 have hq:fe up (ZF 0 0 false u)=0:=by
  unfold ZF fe
  rw [if_pos (show u≤0 by omega),Nat.zero_mul,Bool.and_false,if_neg Bool.false_ne_true]
 unfold ZG
 rw [hq,L8,if_neg (by omega)]
 unfold bA dU
 rw [if_pos rfl,if_pos (by decide)]
theorem am8 {d:Rd} (ok:Ok0 d) {p:Int} {up:Bool}:akw d p up=if Bw p [d]=0 then X6 (zI d) (-16384) p up else (fp,Bw p [d]):=by
 unfold akw
 by_cases h0:Bw p [d]=0
 ·obtain ⟨v1,v2,v3⟩:=alA h0
  have v4:vd d=true:=by simpa using v1
  obtain ⟨h1,h2,h3,h4⟩:=kT v4 ok.lb
  rw [if_pos h0,if_pos h0]
  by_cases hd:d.m.length=0
  ·have hz:=xU v4 hd
   subst hz
   rw [rf rfl,X6,if_pos rfl]
   show ZJ false (ZI 0 0 false p (up != false))=_
   rw [atE ⟨v2,v3⟩]
   rfl
  ·have hv:=iK v4 hd
   have hm:=Sr v4 hd
   unfold zI
   rw [apE (by omega)]
   unfold mg
   rw [am7 hv,show -16384+(((d.e+16384).toNat:Nat):Int)=d.e by omega]
 ·rw [if_neg h0,if_neg h0]
end Go.Ab
namespace Go.Ab
open Go Go.IntWalk
set_option maxRecDepth 4000
theorem lR {neg:Bool} {M:Nat} {e:Int} (h:M ≠ 0):bA neg M e=⟨neg,av (M / 2 ^ tz M),e+tz M⟩:=by
 unfold bA
 rw [if_neg h]
theorem iL {neg:Bool} {e:Int}:bA neg 0 e=fp:=by
 unfold bA
 rw [if_pos rfl]
theorem oP {neg:Bool} {M k:Nat} {e:Int}:bA neg (M*2 ^ k) e=bA neg M (e+k):=by
 by_cases h:M=0
 ·rw [h,Nat.zero_mul,iL,iL]
 ·have h2:M*2 ^ k ≠ 0:=Nat.mul_ne_zero h (Nat.pos_iff_ne_zero.1 (Nat.two_pow_pos k))
  rw [lR h,lR h2,Nat.mul_comm M,A3 k h,Nat.pow_add,Nat.mul_div_mul_left _ _ (Nat.two_pow_pos k)]
  rw [show e+((k+tz M:Nat):Int)=e+k+tz M by omega]
theorem nD {neg:Bool} {M:Nat} {e:Int} (h:M ≠ 0):ac (bA neg M e).m=M / 2 ^ tz M∧(bA neg M e).e=e+tz M∧M / 2 ^ tz M % 2=1∧am (M / 2 ^ tz M)+tz M=am M:=by
 obtain ⟨h1,h2⟩:=qY h
 refine ⟨?_,?_,h2,?_⟩
 ·rw [lR h]
  exact bL _
 ·rw [lR h]
 ·have h3:=lO (n:=M / 2 ^ tz M) (tz M) (by omega)
  rw [Nat.mul_comm,← h1] at h3
  exact h3.symm
theorem Ot {neg:Bool} {M:Nat} {e:Int} (h:M ≠ 0) (h1:am M≤4096) (h2:-16384≤e) (h3:(am M:Nat)+e≤16384):qC (am (ac (bA neg M e).m)) (bA neg M e).e=true:=by
 obtain ⟨g1,g2,g3,g4⟩:=nD (neg:=neg) (e:=e) h
 rw [g1,g2]
 have g5:0 < am (M / 2 ^ tz M):=kj (by omega)
 unfold qC
 rw [decide_eq_true (p:=am (M / 2 ^ tz M)≤4096) (by omega),decide_eq_true (p:=-16384≤e+(tz M:Int)) (by omega),decide_eq_true (p:=e+(tz M:Int)≤16384) (by omega),decide_eq_true (p:=((am (M / 2 ^ tz M):Nat):Int)+(e+(tz M:Int))≤16384) (by omega)]
 simp
theorem QD {neg:Bool} {M:Nat} {e:Int} (h:qC (am (ac (bA neg M e).m)) (bA neg M e).e=true):vd (bA neg M e)=true:=by
 by_cases h0:M=0
 ·subst h0
  rw [iL]
  rfl
 ·obtain ⟨g1,g2,g3,g4⟩:=nD (neg:=neg) (e:=e) h0
  have hn:M / 2 ^ tz M ≠ 0:=by omega
  rw [g1] at h
  have hb:=(tM h (Nat.pos_iff_ne_zero.1 (kj hn))).1
  rw [lR h0] at h ⊢
  unfold vd
  have hl:(av (M / 2 ^ tz M)).length≤128:=bG (by omega)
  have hl0:(av (M / 2 ^ tz M)).length ≠ 0:=fun h5=>hn (mn.1 (List.length_eq_zero_iff.1 h5))
  have ht:(av (M / 2 ^ tz M)).getD ((av (M / 2 ^ tz M)).length - 1) 0 ≠ 0:=(LO _).resolve_left (fun h5=>hn (mn.1 h5))
  have ho:(av (M / 2 ^ tz M)).getD 0 0 % 2=1:=by
   rw [mj hn]
   show (M / 2 ^ tz M) % 4294967296 % 2=1
   omega
  rw [bL,if_neg hl0,decide_eq_true (p:=(av (M / 2 ^ tz M)).length≤256) (by omega),decide_eq_true ho,decide_eq_true ht]
  exact h
theorem Ou {neg:Bool} {M:Nat} {e:Int} (h1:am M≤4096) (h2:-16384≤e) (h3:(am M:Nat)+e≤16384):dU (bA neg M e)=(bA neg M e,0):=by
 unfold dU
 by_cases h:M=0
 ·subst h
  rw [iL,if_pos (by decide)]
 ·rw [if_pos (Ot h h1 h2 h3)]
theorem asN {M:Nat} {e:Int} (h1:am M≤4096) (h2:-16384≤e) (h3:(am M:Nat)+e≤16384):ZH (bA false M e)=bA true M e:=by
 by_cases h:M=0
 ·subst h
  rw [iL,iL]
  rfl
 ·have hv:=QD (Ot (neg:=false) h h1 h2 h3)
  obtain ⟨g1,g2,g3,g4⟩:=nD (neg:=false) (e:=e) h
  unfold ZH
  rw [if_neg]
  ·rw [lR h,lR h]
   rfl
  ·intro h5
   rcases h5 with h5 | h5
   ·rw [hv] at h5
    exact Bool.false_ne_true h5.symm
   ·rw [List.length_eq_zero_iff.1 h5] at g1
    have:ac []=0:=rfl
    omega
theorem apF {neg:Bool} {M:Nat} {e:Int} (h1:am M≤4096) (h2:-16384≤e) (h3:(am M:Nat)+e≤16384):ZJ neg (dU (bA false M e))=(bA neg M e,0):=by
 rw [Ou h1 h2 h3]
 unfold ZJ
 cases neg with
 | false=>rw [if_neg (fun h=>Bool.false_ne_true h.2)]
 | true =>
  rw [if_pos ⟨rfl,rfl⟩]
  show (ZH (bA false M e),(0:Int))=_
  rw [asN h1 h2 h3]
def ale (M:Nat) (e p:Int):Nat:=(max (max ((am M:Nat) - p) (0 - 16384 - e)) 0).toNat
def amT (M k:Nat) (more out:Bool):Nat:=if ((more || decide (M % 2 ^ k ≠ 0)) && out)=true then M / 2 ^ k+1 else M / 2 ^ k
def ajZ (neg out:Bool) (p:Int) (q:Nat) (e:Int):Rd × Int:=if q ≠ 0∧16384 < (am q:Nat)+e then (if out=true then (fp,9) else (bA neg (2 ^ p.toNat - 1) (16384 - p),0)) else (bA neg q e,0)
def ai4 (neg:Bool) (M:Nat) (e:Int) (more:Bool) (p:Int) (up:Bool):Rd × Int:=ajZ neg (neg != up) p (amT M (ale M e p) more (neg != up)) (e+ale M e p)
theorem aox {p:Int} {neg up:Bool} {q:Nat} {u:Int} (hp:8≤p∧p≤512) (hq:am q≤4096) (hu:-16384≤u) (h0:q=0→u≤16384):ZJ neg (ZG p up q u)=ajZ neg up p q u:=by
 unfold ZG ajZ
 by_cases h:16384 < ((am q:Nat):Int)+u
 ·have hq0:q ≠ 0:=fun h1=>by
   have:=h0 h1
   rw [h1,L8] at h
   omega
  rw [if_pos h,if_pos (show q ≠ 0∧16384 < ((am q:Nat):Int)+u from ⟨hq0,h⟩)]
  cases up with
  | true =>
   rw [if_pos rfl,if_pos rfl]
   unfold ZJ
   rw [if_neg (fun h=>nomatch h.1)]
  | false =>
   rw [if_neg Bool.false_ne_true,if_neg Bool.false_ne_true]
   have hb:=al8 p.toNat
   rw [apF (by omega) (by omega) (by omega)]
 ·rw [if_neg h,if_neg (fun h2=>h h2.2),apF hq hu (by omega)]
theorem aqB {neg out:Bool} {p:Int} {M k:Nat} {e:Int}:ajZ neg out p (M*2 ^ k) e=ajZ neg out p M (e+k):=by
 unfold ajZ
 rw [oP]
 by_cases h:M=0
 ·rw [h,Nat.zero_mul,if_neg (fun h=>h.1 rfl),if_neg (fun h=>h.1 rfl)]
 ·have h2:M*2 ^ k ≠ 0:=Nat.mul_ne_zero h (Nat.pos_iff_ne_zero.1 (Nat.two_pow_pos k))
  have h3:(M*2 ^ k ≠ 0∧16384 < ((am (M*2 ^ k):Nat):Int)+e)=(M ≠ 0∧16384 < ((am M:Nat):Int)+(e+k)):=by
   rw [lO _ h]
   exact propext ⟨fun h4=>⟨h,by omega⟩,fun h4=>⟨h2,by omega⟩⟩
  simp only [h3]
theorem am9 (q:Nat):am (q+1)≤am q+1:=by
 rw [cX,Nat.pow_succ]
 have:=cX.1 (Nat.le_refl (am q))
 have:=Nat.two_pow_pos (am q)
 omega
theorem arL {neg:Bool} {M:Nat} {e p:Int} {more up:Bool} (hp:8≤p∧p≤512) (hM:M ≠ 0) (hm:more=true→p < (am M:Nat)):ai4 neg M e more p up=ZJ neg (ZI M e more p (up != neg)):=by
 have hx:(neg != up)=(up != neg):=by cases neg <;> cases up <;> rfl
 have hb:=kj hM
 unfold ai4
 rw [hx]
 unfold ZI
 obtain ⟨u,hu⟩:∃ u,PJ M e p=u:=⟨_,rfl⟩
 obtain ⟨k,hk⟩:∃ k,ale M e p=k:=⟨_,rfl⟩
 rw [hu,hk]
 unfold PJ at hu
 unfold ale at hk
 have hu1:-16384≤u∧e+(am M:Nat) - p≤u:=by
  split at hu <;> omega
 by_cases hc:u≤e
 ·have hk0:k=0:=by
   split at hu <;> omega
  have hmf:more=false:=by
   cases more with
   | false=>rfl
   | true=>have:=hm rfl; omega
  subst hk0
  subst hmf
  unfold ZF amT
  rw [if_pos hc,Nat.pow_zero,Nat.mod_one,show (false || decide ((0:Nat) ≠ 0))=false from rfl,Bool.false_and,if_neg Bool.false_ne_true,Nat.div_one]
  unfold fe
  rw [Bool.and_false,if_neg Bool.false_ne_true]
  have hq:=lO (e - u).toNat hM
  rw [aox hp (by rw [hq]; omega) hu1.1 (fun h=>absurd (Nat.mul_eq_zero.1 h) (fun h2=>h2.elim hM (fun h3=>absurd h3 (Nat.pos_iff_ne_zero.1 (Nat.two_pow_pos _)))))]
  rw [aqB,show u+(((e - u).toNat:Nat):Int)=e+((0:Nat):Int) by omega]
 ·have hk0:k=(u - e).toNat:=by
   split at hu <;> omega
  unfold ZF amT
  rw [if_neg hc,← hk0]
  have hq:am (M / 2 ^ k)≤513:=by
   rw [zY]
   omega
  have hq2:=am9 (M / 2 ^ k)
  have h3:fe (up != neg) (M / 2 ^ k,more || decide (M % 2 ^ k ≠ 0))=if ((more || decide (M % 2 ^ k ≠ 0)) && (up != neg))=true then M / 2 ^ k+1 else M / 2 ^ k:=by
   unfold fe
   rw [Bool.and_comm]
  rw [h3]
  rw [aox hp (by split <;> omega) hu1.1]
  ·rw [show e+(k:Int)=u by omega]
  ·intro h4
   split at h4
   ·exact absurd h4 (Nat.succ_ne_zero _)
   ·refine Int.not_lt.1 fun h5=>?_
    have h6:am (M / 2 ^ k)=0:=by rw [h4]; rfl
    rw [zY] at h6
    split at hu <;> omega
theorem alf {neg:Bool} {M:Nat} {e p:Int} {up:Bool} (hp:8≤p∧p≤512):ai4 neg M e false p up=X6 (fX neg M) e p up:=by
 by_cases hM:M=0
 ·subst hM
  have:fX neg 0=0:=by cases neg <;> rfl
  rw [this,X6,if_pos rfl]
  unfold ai4 amT ajZ
  rw [Nat.zero_mod,Nat.zero_div]
  rw [show (false || decide ((0:Nat) ≠ 0))=false from rfl,Bool.false_and,if_neg Bool.false_ne_true,if_neg (fun h=>h.1 rfl),iL]
 ·rw [arL hp hM (fun h=>absurd h Bool.false_ne_true)]
  unfold fX
  rw [apE hM]
theorem amv {z f p:Int} {up:Bool}:vd (X6 z f p up).1=true∧Ok0 (X6 z f p up).1:=by
 have h0:vd fp=true∧Ok0 fp:=⟨rfl,⟨fun x hx=>(nomatch hx),by decide⟩⟩
 have hc:∀ (q:Nat) (u:Int),vd (dU (bA false q u)).1=true∧Ok0 (dU (bA false q u)).1:=fun q u=>by
  unfold dU
  by_cases h:qC (am (ac (bA false q u).m)) (bA false q u).e=true
  ·rw [if_pos h]
   have hv:=QD h
   have hb:=Cx false q u
   exact ⟨hv,hb,Nat.lt_of_le_of_lt (xi hv hb) (by decide)⟩
  ·rw [if_neg h]
   exact h0
 have he:∀ (up:Bool) (q:Nat) (u:Int),vd (ZG p up q u).1=true∧Ok0 (ZG p up q u).1:=fun up q u=>by
  unfold ZG
  split
  ·split
   ·exact h0
   ·exact hc _ _
  ·exact hc _ _
 have hs:∀ (neg:Bool) (r:Rd × Int),(vd r.1=true∧Ok0 r.1)→vd (ZJ neg r).1=true∧Ok0 (ZJ neg r).1:=fun neg r hr=>by
  unfold ZJ ZH
  split
  ·show vd (if vd r.1=false∨r.1.m.length=0 then fp else ⟨!r.1.neg,r.1.m,r.1.e⟩)=true∧Ok0 (if vd r.1=false∨r.1.m.length=0 then fp else ⟨!r.1.neg,r.1.m,r.1.e⟩)
   split
   ·exact h0
   ·rename_i h5
    have h6:r.1.m.length ≠ 0:=fun h7=>h5 (Or.inr h7)
    refine ⟨?_,hr.2.1,hr.2.2⟩
    have h7:=hr.1
    unfold vd at h7 ⊢
    rw [if_neg h6] at h7 ⊢
    exact h7
  ·exact hr
 unfold X6
 split
 ·exact h0
 ·exact hs _ _ (he _ _ _)
end Go.Ab
namespace Go.Ab
open Go Go.IntWalk
set_option maxRecDepth 4000
def ZL (d:Rd) (p:Int) (up:Bool):Rd × Int:=if Bw p [d]=0 then X6 (zI d) (-16384) p up else (fp,Bw p [d])
theorem atF {d:Rd} (ok:Ok0 d) {p:Int}:R F.round_Up [aF d,I p] []=some (rV (ZL d p true),[]):=by
 have h:=am8 ok (p:=p) (up:=true)
 rw [ZL,← h]
 exact auN ok
theorem arM {d:Rd} (ok:Ok0 d) {p:Int}:R F.round_Down [aF d,I p] []=some (rV (ZL d p false),[]):=by
 have h:=am8 ok (p:=p) (up:=false)
 rw [ZL,← h]
 exact asL ok
end Go.Ab
namespace Go.Ab
open Go Go.IntWalk
set_option maxRecDepth 4000
structure Ri where
 lo:Rd
 hi:Rd
 all:Bool
def X7 (x:Ri):List AV:=[B x.lo.neg,lm x.lo.m,I x.lo.e,B x.hi.neg,lm x.hi.m,I x.hi.e,B x.all]
structure OkI (x:Ri):Prop where
 lo:Ok0 x.lo
 hi:Ok0 x.hi
def z0 (d:Rd):Bool:=!d.neg && (decide (d.m.length=0) && decide (d.e=0))
def amU (p:Int):Bool:=decide (8≤p) && decide (p≤512)
end Go.Ab
namespace Go.Ab
open Go Go.IntWalk
set_option maxRecDepth 4000
def Mb (l:List Ri):List (List AV):=l.map X7
@[go_sem] theorem ab7 (l:List Ri):(Mb l).length=l.length:=by simp [Mb]
end Go.Ab
namespace Go.Ab
open Go Go.IntWalk
set_option maxRecDepth 4000
theorem He:vd fp=true∧Ok0 fp:=⟨rfl,⟨fun x hx=>(nomatch hx),by decide⟩⟩
end Go.Ab
namespace Go.Ab
open Go Go.IntWalk
set_option maxRecDepth 4000
set_option maxHeartbeats 1000000
end Go.Ab
namespace Go.Ab
open Go Go.IntWalk
set_option maxRecDepth 4000
set_option maxHeartbeats 1000000
def X8 (d:Rd) (p:Int) (up:Bool):Nat→Rd × Int→Rd × Int
 | 0,r=>r
 | k+1,r=>if r.2=0 then X8 d p up k (ZK r.1 d p up) else r
def pw (d:Rd) (n:Nat) (p:Int) (up:Bool):Rd × Int:=X8 d p up (n - 1) (ZL d p up)
theorem aj4 {d:Rd} {p:Int} {up:Bool}:Ok0 (ZL d p up).1:=by
 unfold ZL
 split
 ·exact amv.2
 ·exact He.2
end Go.Ab
namespace Go.Ab
open Go Go.IntWalk
set_option maxRecDepth 4000
set_option maxHeartbeats 1000000
def sS (d:Rd):Int:=if vd d=false∨d.m.length=0 then 0 else if d.neg=true then -1 else 1
theorem ahm {d:Rd} (ok:Ok0 d):Ok0 (ZH d):=by
 unfold ZH
 split
 ·exact He.2
 ·exact ⟨ok.1,ok.2⟩
def one:Rd:=⟨false,[1],0⟩
end Go.Ab
namespace Go.Ab
open Go Go.IntWalk
set_option maxRecDepth 4000
set_option maxHeartbeats 1000000
def aX (l:List Int):List (List AV):=l.map fun (n:Int)=>[I n]
@[go_sem] theorem rg (l:List Int):(aX l).length=l.length:=by simp [aX]
theorem pJ {l:List Int} {i:Int} {n:Nat} {d:Int} (hi:i=n) (h:l[n]?=some d):bH (aX l) i=some (.ipt [I d]):=by
 subst hi
 simp [bH,aX,h]
theorem Hf {x:Int}:R F.cmp_isNaN_int_ [I x] []=some (B false,[]):=by
 refine aZ zP zO (vV false) rfl ?_
 simp only [jc,rJ,go_sem,↓reduceIte,aez]
theorem Mc {x y:Int}:R F.cmp_Compare_int_ [I x,I y] []=some (I (cq x y),[]):=by
 refine aZ w9 w7 (tI false) rfl ?_
 have h1:=Hf (x:=x)
 have h2:=Hf (x:=y)
 unfold cq
 by_cases e1:x < y
 ·have f1:(x < y)=True:=tt e1
  rw [if_pos e1]
  simp only [dz,iE,go_sem,↓reduceIte,aez,aeB,aeA,h1,h2,f1]
 ·have f1:(x < y)=False:=ff e1
  rw [if_neg e1]
  by_cases e2:y < x
  ·have f2:(y < x)=True:=tt e2
   rw [if_pos e2]
   simp only [dz,iE,go_sem,↓reduceIte,aez,aeB,aeA,h1,h2,f1,f2]
  ·have f2:(y < x)=False:=ff e2
   rw [if_neg e2]
   simp only [dz,iE,go_sem,↓reduceIte,aez,aeB,aeA,h1,h2,f1,f2]
def eg:List Int→List Int→Int
 | [],[]=>0
 | [],_::_=>-1
 | _::_,[]=>1
 | x::xs,y::ys=>if cq x y=0 then eg xs ys else cq x y
theorem Ov {a b:List Int} (hl:a.length=b.length) (h2:a.length≤100000):∀ (k i:Nat),i+k=a.length→∀ (s:af) (h:aa),s 0=.sl 1 (aX a)→s 1=.sl 1 (aX b)→s 9=.sl 1 (aX a)→s 10=I a.length→s 11=I i →
  ∃ hh,aI 0 [0,1] (aU (az R (ab false) cp) [0,1,9,10,11] [] s h)=if eg (a.drop i) (b.drop i)=0 then some (.normal,⟨upd (upd (fun _=>.any) 1 (.sl 1 (aX b))) 0 (.sl 1 (aX a)),fun _=>.dead⟩) else some (.ret,⟨upd (fun _=>.any) 4 (I (eg (a.drop i) (b.drop i))),hh⟩):=by
 intro k
 induction k with
 | zero =>
  intro i hi s h h0 h1 h9 h10 h11
  have e1:((i:Int) < a.length)=False:=ff (by omega)
  rw [List.drop_eq_nil_of_le (by omega),List.drop_eq_nil_of_le (by omega),aA]
  refine ⟨fun _=>.dead,?_⟩
  show _=if (0:Int)=0 then _ else _
  rw [if_pos rfl]
  simp only [cp,go_sem,↓reduceIte,aez,h0,h1,h9,h10,h11,e1]
 | succ k ih =>
  intro i hi s h h0 h1 h9 h10 h11
  have hlt:i < a.length:=by omega
  have hlt2:i < b.length:=by omega
  have e1:((i:Int) < a.length)=True:=tt (by omega)
  have e4:((b.length:Int)≤(i:Int))=False:=ff (by omega)
  have e2:bH (aX a) (i:Int)=some (.ipt [I a[i]]):=pJ rfl (List.getElem?_eq_getElem hlt)
  have e3:bH (aX b) (i:Int)=some (.ipt [I b[i]]):=pJ rfl (List.getElem?_eq_getElem hlt2)
  have e5:IntKind.i64.wrap ((i:Int)+1)=((i+1:Nat):Int):=wi (by omega) (by omega)
  rw [List.drop_eq_getElem_cons hlt,List.drop_eq_getElem_cons hlt2,aA]
  have ih':=ih (i+1) (by omega)
  have hc:=Mc (x:=a[i]) (y:=b[i])
  generalize a[i]=x at e2 hc ⊢
  generalize b[i]=y at e3 hc ⊢
  generalize aU _ _ _=L at ih' ⊢
  unfold eg
  by_cases hz:cq x y=0
  ·have e6:(cq x y=0)=True:=tt hz
   simp only [if_pos hz]
   simp only [cp,go_sem,↓reduceIte,aez,aeB,aeA,h0,h1,h9,h10,h11,e1,e2,e3,e4,e5,hc,e6]
   exact ih' _ _ rfl rfl rfl rfl rfl
  ·have e6:(cq x y=0)=False:=ff hz
   simp only [if_neg hz]
   refine ⟨?hh,?_⟩
   rotate_left
   simp only [cp,go_sem,↓reduceIte,aez,aeB,aeA,h0,h1,h9,h10,h11,e1,e2,e3,e4,hc,e6]
   rfl
theorem KJ {a b:List Int} (hl:a.length=b.length) (h2:a.length≤100000):R F.slices_Compare_int_int_ [.sl 1 (aX a),.sl 1 (aX b)] []=some (I (eg a b),[]):=by
 refine aZ qQ qP (pF false) rfl ?_
 have h3:=Ov hl h2 a.length 0 (Nat.zero_add _)
 simp only [List.drop_zero,Int.natCast_zero] at h3
 by_cases hz:eg a b=0
 ·simp only [if_pos hz] at h3
  have e1:((a.length:Int) < b.length)=False:=ff (by omega)
  simp only [cE,gk,go_sem,↓reduceIte,aez]
  rw [(h3 _ _ rfl rfl rfl rfl rfl).choose_spec,hz]
  simp only [go_sem,↓reduceIte,aez,e1]
 ·simp only [if_neg hz] at h3
  simp only [cE,gk,go_sem,↓reduceIte,aez]
  rw [(h3 _ _ rfl rfl rfl rfl rfl).choose_spec]
  simp only [go_sem,↓reduceIte]
def bc:List Int→Int
 | []=>0
 | x::l=>x+bc l
def sm (l:List Int):Prop:=l.length≤1000∧∀ x ∈ l,0≤x∧x≤32
theorem Ow {l:List Int} {i:Nat} (h:i < l.length):bc (l.take (i+1))=bc (l.take i)+l[i]:=by
 induction l generalizing i with
 | nil=>exact absurd h (Nat.not_lt_zero _)
 | cons a l ih =>
  cases i with
  | zero=>simp [bc]
  | succ i =>
   have:=ih (i:=i) (by simpa using h)
   simp only [List.take_succ_cons,bc,List.getElem_cons_succ]
   rw [this]
   omega
theorem Su {l:List Int} (h:∀ x ∈ l,0≤x∧x≤32):0≤bc l∧bc l≤32*l.length:=by
 induction l with
 | nil=>exact ⟨Int.le_refl _,Int.le_refl _⟩
 | cons a l ih =>
  have h1:=h a (List.mem_cons_self ..)
  have h2:=ih (fun x hx=>h x (List.mem_cons_of_mem _ hx))
  simp only [bc,List.length_cons]
  omega
theorem Ox {a:List Int} (h2:sm a):∀ (k i:Nat),i+k=a.length→∀ (s:af) (h:aa),s 3=I (bc (a.take i))→s 6=.sl 1 (aX a)→s 7=I a.length→s 8=I i →
  aI 0 [3] (aU (az R (ab false) jU) [3,6,7,8] [] s h)=some (.normal,⟨upd (fun _=>.any) 3 (I (bc a)),fun _=>.dead⟩):=by
 intro k
 induction k with
 | zero =>
  intro i hi s h h3 h6 h7 h8
  have e1:((i:Int) < a.length)=False:=ff (by omega)
  rw [List.take_of_length_le (by omega)] at h3
  rw [aA]
  simp only [jU,go_sem,↓reduceIte,aez,h3,h6,h7,h8,e1]
 | succ k ih =>
  intro i hi s h h3 h6 h7 h8
  have hlt:i < a.length:=by omega
  obtain ⟨g1,g2⟩:=h2
  have e1:((i:Int) < a.length)=True:=tt (by omega)
  have e2:bH (aX a) (i:Int)=some (.ipt [I a[i]]):=pJ rfl (List.getElem?_eq_getElem hlt)
  have e5:IntKind.i64.wrap ((i:Int)+1)=((i+1:Nat):Int):=wi (by omega) (by omega)
  have b1:=Su (l:=a.take i) (fun x hx=>g2 x (List.mem_of_mem_take hx))
  have b2:=g2 a[i] (List.getElem_mem hlt)
  have b3:(a.take i).length≤1000:=by simp only [List.length_take]; omega
  have e6:IntKind.i64.wrap (bc (a.take i)+a[i])=bc (a.take (i+1)):=by
   rw [Ow hlt]
   exact i64_in _ ⟨by omega,by omega⟩
  have ih':=ih (i+1) (by omega)
  generalize a[i]=x at e2 e6 ⊢
  rw [aA]
  generalize aU _ _ _=L at ih' ⊢
  simp only [jU,go_sem,↓reduceIte,aez,h3,h6,h7,h8,e1,e2,e5,e6]
  exact ih' _ _ rfl rfl rfl rfl
theorem qn {a:List Int} (h2:sm a):R F.poly_degree [.sl 1 (aX a)] []=some (I (bc a),[]):=by
 refine aZ DZ DY (y9 false) rfl ?_
 have h3:=Ox h2 a.length 0 (Nat.zero_add _)
 simp only [List.take_zero,bc,Int.natCast_zero] at h3
 simp only [l6,vr,go_sem,↓reduceIte,aez]
 rw [h3 _ _ rfl rfl rfl rfl]
 simp only [go_sem,↓reduceIte]
def bj (a b:List Int):Int:=if cq (bc a) (bc b)=0 then eg b a else cq (bc a) (bc b)
theorem Hg {a b:List Int} (ha:sm a) (hb:sm b) (hl:a.length=b.length):R F.poly_order [.sl 1 (aX a),.sl 1 (aX b)] []=some (I (bj a b),[]):=by
 refine aZ GG GF (Be false) rfl ?_
 have d1:=qn ha
 have d2:=qn hb
 have d3:=Mc (x:=bc a) (y:=bc b)
 have d4:=KJ hl.symm (by have:=hb.1; omega)
 unfold bj
 by_cases hz:cq (bc a) (bc b)=0
 ·have e6:(cq (bc a) (bc b)=0)=True:=tt hz
  rw [if_pos hz]
  simp only [kC,rC,go_sem,↓reduceIte,aez,aeB,aeA,d1,d2,d3,d4,e6]
 ·have e6:(cq (bc a) (bc b)=0)=False:=ff hz
  rw [if_neg hz]
  simp only [kC,rC,go_sem,↓reduceIte,aez,aeB,aeA,d1,d2,d3,e6]
end Go.Ab
namespace Go.Ab
open Go Go.IntWalk
set_option maxRecDepth 4000
set_option maxHeartbeats 1000000
structure Rt where
 exps:List Int
 c:Rd
structure Rp where
 vars:Int
 terms:List Rt
def bv (t:Rt):List AV:=[.sl 1 (aX t.exps),B t.c.neg,lm t.c.m,I t.c.e]
def ax (l:List Rt):List (List AV):=l.map bv
def bm (a:Rp):AV:=.agg [I a.vars,.sl 4 (ax a.terms)]
@[go_sem] theorem gI (l:List Rt):(ax l).length=l.length:=by simp [ax]
theorem jx {l:List Rt} {i:Int} {n:Nat} {d:Rt} (hi:i=n) (h:l[n]?=some d):bH (ax l) i=some (.ipt (bv d)):=by
 subst hi
 simp [bH,ax,h]
theorem qo {α:Type} {f:α→α} {l:List α} (h:∀ x ∈ l,f x=x):l.map f=l:=(List.map_congr_left (g:=fun c=>c) h).trans (List.map_id' _)
@[go_sem] theorem tN (l:List Rt):(ax l).map (cf [.o 2 [],.o 0 [],.o 2 [],.o 0 []])=ax l:=by
 refine qo fun x hx=>?_
 simp only [ax,List.mem_map] at hx
 obtain ⟨t,ht,rfl⟩:=hx
 simp only [bv,go_sem]
structure OkT (t:Rt):Prop where
 c:Ok0 t.c
 len:t.exps.length≤100000
structure OkP (a:Rp):Prop where
 t:∀ t ∈ a.terms,OkT t
def rR (e:Int):Bool:=decide (e < 0) || decide (32 < e)
theorem Sv {e:Int}:R F.poly_Valid_1 [I e] []=some (B (rR e),[]):=by
 refine aZ Cg Cf (ye false) rfl ?_
 unfold rR
 by_cases h:e < 0
 ·have e1:(e < 0)=True:=tt h
  simp only [iy,pp,go_sem,↓reduceIte,aez,e1,decide_true,Bool.true_or]
 ·have e1:(e < 0)=False:=ff h
  simp only [iy,pp,go_sem,↓reduceIte,aez,e1,decide_false,Bool.false_or]
theorem Oy {l:List Int} (h2:l.length≤100000):R F.slices_ContainsFunc_int_int_ [.sl 1 (aX l),.fn F.poly_Valid_1 [] []] []=some (B (l.any rR),[]):=by
 let p:List AV→Bool:=fun row=>match row with | [.v (.int _ e)]=>rR e | _=>false
 have h1:=Bn (k:=1) (g:=false) (f:=F.poly_Valid_1) (rows:=aX l) (p:=p) ql qk (oO false) rfl (tH false) (by rw [rg]; omega) (fun row hr=>by
  simp only [aX,List.mem_map] at hr
  obtain ⟨e,he,rfl⟩:=hr
  refine ⟨I e,rfl,rfl,?_⟩
  simp only [go_sem,Sv,p])
 have h2:=xS (k:=1) oM oL (mR false) rfl (jC false) (pE false) (by simp only [go_sem]) h1
 have h3:(aX l).any p=l.any rR:=by
  unfold aX
  rw [List.any_map]
  rfl
 rw [h3] at h2
 exact h2
def Di (v:Int) (t:Rt):Bool:=decide ((t.exps.length:Int)=v) && (vd t.c && (decide (t.c.m.length ≠ 0) && (!(t.exps.any rR) && decide (bc t.exps≤32))))
def Hh:Option Rt→Rt→Bool
 | none,_=>true
 | some q,t=>decide (bj q.exps t.exps < 0)
def tO (v:Int):Option Rt→List Rt→Bool
 | _,[]=>true
 | pr,t::l=>Di v t && (Hh pr t && tO v (some t) l)
theorem Bx {v:Int} {t:Rt} (h:Di v t=true):(t.exps.length:Int)=v∧vd t.c=true∧t.c.m.length ≠ 0∧t.exps.any rR=false∧bc t.exps≤32:=by
 unfold Di at h
 simpa using h
theorem rh {l:List Int} (h:l.any rR=false):∀ x ∈ l,0≤x∧x≤32:=by
 intro x hx
 have h1:=List.any_eq_false.1 h x hx
 unfold rR at h1
 simp only [Bool.or_eq_true,decide_eq_true_eq,not_or] at h1
 omega
theorem QE {a:Rp} (ok:OkP a) (hv:a.vars≤8) (h2:a.terms.length≤500):∀ (k i:Nat),i+k=a.terms.length→∀ (pr:Option Rt),(i=0→pr=none)→(0 < i→∃ q,pr=some q∧a.terms[i - 1]?=some q∧Di a.vars q=true) →
  ∀ (s:af) (h:aa),s 1=.ref 1 none 0 0 0→s 20=.sl 4 (ax a.terms)→s 21=I a.terms.length→s 22=I i→h 1=.bx [I a.vars,.sl 4 (ax a.terms)] →
  ∃ hh,aI 0 [] (aU (az R (ab false) bX) [1,20,21,22] [1] s h)=if tO a.vars pr (a.terms.drop i)=true then some (.normal,⟨fun _=>.any,hh⟩) else some (.ret,⟨upd (fun _=>.any) 2 (B false),hh⟩):=by
 intro k
 induction k with
 | zero =>
  intro i hi pr p0 p1 s h h1 h20 h21 h22 k1
  have e1:((i:Int) < a.terms.length)=False:=ff (by omega)
  rw [List.drop_eq_nil_of_le (by omega),aA]
  refine ⟨?hh0,?_⟩
  rotate_left
  show _=if true=true then _ else _
  rw [if_pos rfl]
  simp only [bX,go_sem,↓reduceIte,aez,aeD,h1,h20,h21,h22,k1,e1]
  rfl
 | succ k ih =>
  intro i hi pr p0 p1 s h h1 h20 h21 h22 k1
  have hlt:i < a.terms.length:=by omega
  have e1:((i:Int) < a.terms.length)=True:=tt (by omega)
  have e2:bH (ax a.terms) (i:Int)=some (.ipt (bv a.terms[i])):=jx rfl (List.getElem?_eq_getElem hlt)
  have e5:IntKind.i64.wrap ((i:Int)+1)=((i+1:Nat):Int):=wi (by omega) (by omega)
  have okt:=ok.t a.terms[i] (List.getElem_mem hlt)
  have hnext:a.terms[i+1 - 1]?=some a.terms[i]:=List.getElem?_eq_getElem hlt
  rw [List.drop_eq_getElem_cons hlt,aA]
  have ih':=ih (i+1) (by omega) (some a.terms[i]) (fun h=>absurd h (Nat.succ_ne_zero _))
  generalize a.terms[i]=t at e2 okt ih' hnext ⊢
  generalize aU _ _ _=L at ih' ⊢
  have hvd:=kl okt.c
  have hct:=Oy okt.len
  simp only [bv] at e2
  simp only [aF,aW] at hvd
  unfold tO
  cases hb:Di a.vars t with
  | false =>
   simp only [Bool.false_and,if_neg Bool.false_ne_true]
   unfold Di at hb
   by_cases c1:(t.exps.length:Int)=a.vars
   ·have f1:((t.exps.length:Int)=a.vars)=True:=tt c1
    rw [decide_eq_true c1,Bool.true_and] at hb
    cases c2:vd t.c with
    | false =>
     rw [c2] at hvd
     refine ⟨?hh2,?_⟩
     rotate_left
     simp only [bX,go_sem,↓reduceIte,aez,aeB,aeA,aeC,aeD,h1,h20,h21,h22,k1,e1,e2,f1,hvd]
     rfl
    | true =>
     rw [c2] at hvd hb
     rw [Bool.true_and] at hb
     by_cases c3:t.c.m.length=0
     ·have f3:((t.c.m.length:Int)=0)=True:=tt (by omega)
      refine ⟨?hh3,?_⟩
      rotate_left
      simp only [bX,go_sem,↓reduceIte,aez,aeB,aeA,aeC,aeD,h1,h20,h21,h22,k1,e1,e2,f1,hvd,f3]
      rfl
     ·have f3:((t.c.m.length:Int)=0)=False:=ff (by omega)
      rw [decide_eq_true c3,Bool.true_and] at hb
      cases c4:t.exps.any rR with
      | true =>
       rw [c4] at hct
       refine ⟨?hh4,?_⟩
       rotate_left
       simp only [bX,go_sem,↓reduceIte,aez,aeB,aeA,aeC,aeD,h1,h20,h21,h22,k1,e1,e2,f1,hvd,f3,hct]
       rfl
      | false =>
       rw [c4] at hct hb
       rw [Bool.not_false,Bool.true_and] at hb
       have hdg:=qn (a:=t.exps) ⟨by omega,rh c4⟩
       have f5:(32 < bc t.exps)=True:=tt (by have:=of_decide_eq_false hb; omega)
       refine ⟨?hh5,?_⟩
       rotate_left
       simp only [bX,go_sem,↓reduceIte,aez,aeB,aeA,aeC,aeD,h1,h20,h21,h22,k1,e1,e2,f1,hvd,f3,hct,hdg,f5]
       rfl
   ·have f1:((t.exps.length:Int)=a.vars)=False:=ff c1
    refine ⟨?hh1,?_⟩
    rotate_left
    simp only [bX,go_sem,↓reduceIte,aez,aeB,aeA,aeC,aeD,h1,h20,h21,h22,k1,e1,e2,f1]
    rfl
  | true =>
   obtain ⟨c1,c2,c3,c4,c5⟩:=Bx hb
   have f1:((t.exps.length:Int)=a.vars)=True:=tt c1
   rw [c2] at hvd
   have f3:((t.c.m.length:Int)=0)=False:=ff (by omega)
   rw [c4] at hct
   have hdg:=qn (a:=t.exps) ⟨by omega,rh c4⟩
   have f5:(32 < bc t.exps)=False:=ff (by omega)
   simp only [Bool.true_and]
   by_cases hi0:i=0
   ·have f6:(0 < (i:Int))=False:=ff (by omega)
    rw [p0 hi0]
    simp only [Hh,Bool.true_and]
    simp only [bX,go_sem,↓reduceIte,aez,aeB,aeA,aeC,aeD,h1,h20,h21,h22,k1,e1,e2,f1,hvd,f3,hct,hdg,f5,f6,e5]
    exact ih' (fun _=>⟨t,rfl,hnext,hb⟩) _ _ rfl rfl rfl rfl rfl
   ·have f6:(0 < (i:Int))=True:=tt (by omega)
    obtain ⟨q,q1,q2,q3⟩:=p1 (by omega)
    obtain ⟨d1,d2,d3,d4,d5⟩:=Bx q3
    rw [q1]
    have e7:IntKind.i64.wrap ((i:Int) - 1)=((i - 1:Nat):Int):=wi (by omega) (by omega)
    have e8:bH (ax a.terms) ((i - 1:Nat):Int)=some (.ipt (bv q)):=jx rfl q2
    simp only [bv] at e8
    have ho:=Hg (a:=q.exps) (b:=t.exps) ⟨by omega,rh d4⟩ ⟨by omega,rh c4⟩ (by omega)
    simp only [Hh]
    by_cases c6:bj q.exps t.exps < 0
    ·have f7:(0≤bj q.exps t.exps)=False:=ff (by omega)
     simp only [decide_eq_true c6,Bool.true_and]
     simp only [bX,go_sem,↓reduceIte,aez,aeB,aeA,aeC,aeE,aeD,h1,h20,h21,h22,k1,e1,e2,f1,hvd,f3,hct,hdg,f5,f6,e5,e7,e8,ho,f7]
     exact ih' (fun _=>⟨t,rfl,hnext,hb⟩) _ _ rfl rfl rfl rfl rfl
    ·have f7:(0≤bj q.exps t.exps)=True:=tt (by omega)
     simp only [decide_eq_false c6,Bool.false_and,if_neg Bool.false_ne_true]
     refine ⟨?hh7,?_⟩
     rotate_left
     simp only [bX,go_sem,↓reduceIte,aez,aeB,aeA,aeC,aeE,aeD,h1,h20,h21,h22,k1,e1,e2,f1,hvd,f3,hct,hdg,f5,f6,e7,e8,ho,f7]
     rfl
def vp (a:Rp):Bool:=decide (0≤a.vars) && (decide (a.vars≤8) && (decide (a.terms.length≤500) && tO a.vars none a.terms))
theorem nR {a:Rp} (ok:OkP a):R F.poly_Valid [bm a] []=some (B (vp a),[]):=by
 refine aZ Gn Gm (A7 false) rfl ?_
 unfold vp
 by_cases c1:0≤a.vars
 ·have f1:(a.vars < 0)=False:=ff (by omega)
  rw [decide_eq_true c1,Bool.true_and]
  by_cases c2:a.vars≤8
  ·have f2:(8 < a.vars)=False:=ff (by omega)
   rw [decide_eq_true c2,Bool.true_and]
   by_cases c3:a.terms.length≤500
   ·have f3:(500 < (a.terms.length:Int))=False:=ff (by omega)
    rw [decide_eq_true c3,Bool.true_and]
    have h3:=QE ok c2 c3 a.terms.length 0 (Nat.zero_add _) none (fun _=>rfl) (fun h=>absurd h (Nat.lt_irrefl _))
    simp only [List.drop_zero,Int.natCast_zero] at h3
    cases hb:tO a.vars none a.terms with
    | true =>
     rw [hb] at h3
     simp only [] at h3
     simp only [ez,jm,bm,go_sem,↓reduceIte,aez,aeB,aeA,f1,f2,f3]
     rw [(h3 _ _ rfl rfl rfl rfl rfl).choose_spec]
     simp only [go_sem,↓reduceIte]
    | false =>
     rw [hb] at h3
     simp only [if_neg Bool.false_ne_true] at h3
     simp only [ez,jm,bm,go_sem,↓reduceIte,aez,aeB,aeA,f1,f2,f3]
     rw [(h3 _ _ rfl rfl rfl rfl rfl).choose_spec]
     simp only [go_sem,↓reduceIte]
   ·have f3:(500 < (a.terms.length:Int))=True:=tt (by omega)
    rw [decide_eq_false c3,Bool.false_and]
    simp only [ez,jm,bm,go_sem,↓reduceIte,aez,aeB,aeA,f1,f2,f3]
  ·have f2:(8 < a.vars)=True:=tt (by omega)
   rw [decide_eq_false c2,Bool.false_and]
   simp only [ez,jm,bm,go_sem,↓reduceIte,aez,aeB,aeA,f1,f2]
 ·have f1:(a.vars < 0)=True:=tt (by omega)
  rw [decide_eq_false c1,Bool.false_and]
  simp only [ez,jm,bm,go_sem,↓reduceIte,aez,aeB,aeA,f1]
end Go.Ab
namespace Go.Ab
open Go Go.IntWalk
set_option maxRecDepth 4000
set_option maxHeartbeats 1000000
@[go_sem] theorem ab8 (l:List Ri):(Mb l).map (cf [.o 0 [],.o 2 [],.o 0 [],.o 0 [],.o 2 [],.o 0 [],.o 0 []])=Mb l:=by
 refine qo fun x hx=>?_
 simp only [Mb,List.mem_map] at hx
 obtain ⟨t,ht,rfl⟩:=hx
 simp only [X7,go_sem]
end Go.Ab
namespace Go.Ab
open Go Go.IntWalk
set_option maxRecDepth 4000
set_option maxHeartbeats 1000000
end Go.Ab
namespace Go.Ab
open Go Go.IntWalk
set_option maxRecDepth 4000
set_option maxHeartbeats 1000000
theorem ajB {n:Nat} {i:Int} (hi:i=n) (hn:n < 18446744073709551616):dB .and (.v (.int .u64 i)) (.v (.int .u64 4294967295))=some (.v (.int .u64 ((n % 4294967296:Nat):Int))):=by
 subst hi
 rw [aax]
 have e:(BitVec.ofInt IntKind.u64.bits (n:Int) &&& BitVec.ofInt IntKind.u64.bits 4294967295).toNat=n % 4294967296:=by
  show (BitVec.ofInt 64 (n:Int) &&& BitVec.ofInt 64 4294967295).toNat=n % 4294967296
  rw [BitVec.toNat_and]
  have e2:(BitVec.ofInt 64 (n:Int)).toNat=n:=by
   simp
   omega
  rw [e2,show (BitVec.ofInt 64 4294967295).toNat=2 ^ 32 - 1 from by decide,Nat.and_two_pow_sub_one_eq_mod]
 rw [e]
 rw [pf rfl (by omega)]
theorem aoy {n:Nat} {i:Int} (hi:i=n) (hn:n < 4294967296):dB .and (.v (.int .u32 i)) (.v (.int .u32 1))=some (.v (.int .u32 ((n % 2:Nat):Int))):=by
 subst hi
 rw [aax]
 have e:(BitVec.ofInt IntKind.u32.bits (n:Int) &&& BitVec.ofInt IntKind.u32.bits 1).toNat=n % 2:=by
  show (BitVec.ofInt 32 (n:Int) &&& BitVec.ofInt 32 1).toNat=n % 2
  rw [BitVec.toNat_and]
  have e2:(BitVec.ofInt 32 (n:Int)).toNat=n:=by
   simp
   omega
  rw [e2,show (BitVec.ofInt 32 1).toNat=2 ^ 1 - 1 from by decide,Nat.and_two_pow_sub_one_eq_mod]
 rw [e]
 rw [PF rfl (by omega)]
theorem aqC (m:List Nat) (h2:m.length < 4611686018427387904):∀ (n:Nat),n≤m.length→∀ (s:af) (h:aa),s 0=lm m→s 3=I n →
  aI 0 [0,3] (aU (az R (ab false) aln) [0,3] [] s h)=some (.normal,⟨upd (upd (fun _=>.any) 3 (I (iJ m n))) 0 (lm m),fun _=>.dead⟩):=LT m h2
theorem akk {m:List Nat} (hb:Lb m) (h:m.length≤10000000):R F.r02_trim [lm m] []=some (lm (av (ac m)),[]):=by
 refine aZ aqc aqb (anB false) rfl ?_
 have h1:dK 1 (lm m) none (some (I (iJ m m.length:Nat))) none=some (lm (av (ac m))):=by
  rw [GY (a:=0) (b:=iJ m m.length) rfl (uQ rfl (tE _ _)) (tE _ _),List.drop_zero,Nat.sub_zero,F9 hb]
 have hl:=dJ m hb
 have e1:((av (ac m)).length*4≤140737488355328)=True:=tt (by omega)
 simp only [ako,amd,go_sem,↓reduceIte,aez,aeC,aeE,aqC m (by omega) m.length (Nat.le_refl _),h1,On,e1,List.nil_append,List.length_nil,true_or,Nat.zero_add,Nat.le_refl,List.replicate_zero]
theorem arN:∀ (x b:Nat),x < 4294967296→b+am x≤100000000→∀ (s:af) (h:aa),s 3=I b→s 4=U x →
  aI 0 [3] (aU (az R (ab false) ajV) [3,4] [] s h)=some (.normal,⟨upd (fun _=>.any) 3 (I (b+am x:Nat)),fun _=>.dead⟩):=by
 intro x
 induction x using Nat.strongRecOn with
 | ind x ih =>
  intro b hx hb s h h3 h4
  rw [aA]
  by_cases h0:x=0
  ·have e1:(0 < (x:Int))=False:=ff (by omega)
   rw [h0,L8,Nat.add_zero]
   rw [h0] at e1 h4
   simp only [ajV,go_sem,↓reduceIte,aez,h3,h4,e1]
  ·have e1:(0 < (x:Int))=True:=tt (by omega)
   have e2:=KF (n:=x) (k:=1) (kk:=.u64) (j:=1) rfl rfl (by omega)
   have e3:IntKind.i64.wrap ((b:Int)+1)=((b+1:Nat):Int):=wi (by omega) (by omega)
   have e4:am x=1+am (x / 2 ^ 1):=by
    have h5:=zY x 1
    have h6:=kj h0
    omega
   have ih':=ih (x / 2 ^ 1) (by omega) (b+1) (by omega) (by omega)
   rw [show b+am x=b+1+am (x / 2 ^ 1) by omega]
   generalize aU _ _ _=L at ih' ⊢
   simp only [ajV,go_sem,↓reduceIte,aez,h3,h4,e1,e2,e3]
   exact ih' _ _ rfl rfl
theorem aoz {m:List Nat} (hb:Lb m) (h:m.length≤1000000) (hc:uM m):R F.r02_bits [lm m] []=some (I (am (ac m):Nat),[]):=by
 refine aZ ap9 ap8 (anA false) rfl ?_
 by_cases h0:m.length=0
 ·have:m=[]:=List.length_eq_zero_iff.1 h0
  subst this
  simp only [ajQ,ak9,go_sem,↓reduceIte,aez,List.length_nil,Int.natCast_zero,ac,L8]
 ·have e1:((m.length:Int)=0)=False:=ff (by omega)
  have e2:IntKind.i64.wrap ((m.length:Int) - 1)=((m.length - 1:Nat):Int):=wi (by omega) (by omega)
  have e3:IntKind.i64.wrap (32*((m.length - 1:Nat):Int))=((32*(m.length - 1):Nat):Int):=wi (by omega) (by omega)
  have e4:bH (aP m) ((m.length - 1:Nat):Int)=some (.ipt [U (m.getD (m.length - 1) 0:Nat)]):=df rfl (by omega)
  have hx:=dQ hb (m.length - 1)
  have e5:=arN (m.getD (m.length - 1) 0) (32*(m.length - 1)) hx (by have:=(cX (k:=32)).2 hx; omega)
  have e6:32*(m.length - 1)+am (m.getD (m.length - 1) 0)=am (ac m):=by
   have hne:m ≠ []:=fun h=>h0 (by rw [h]; rfl)
   have h7:=Om (LN hc hne)
   rw [IJ hb hc] at h7
   exact h7.symm
  rw [e6] at e5
  simp only [ajQ,ak9,go_sem,↓reduceIte,aez,e1,e2,e3,e4]
  rw [e5 _ _ rfl rfl]
  simp only [go_sem,↓reduceIte]
theorem aoA {m:List Nat} (hb:Lb m) (n:Nat):m.getD (n / 32) 0 / 2 ^ (n % 32) % 2=ac m / 2 ^ n % 2:=by
 have h1:ac m / 2 ^ n=ac (m.drop (n / 32)) / 2 ^ (n % 32):=by
  rw [G7 hb,Nat.div_div_eq_div_mul,xg]
 rw [h1,eA]
 have hr:n % 32 < 32:=Nat.mod_lt _ (by omega)
 have e:(4294967296:Nat)=2 ^ (n % 32)*(2*2 ^ (31 - n % 32)):=by
  rw [← Nat.pow_succ',← Nat.pow_add,show n % 32+(31 - n % 32+1)=32 by omega]
 generalize ac (m.drop (n / 32+1))=w
 rw [show 4294967296*w=2 ^ (n % 32)*(2*(2 ^ (31 - n % 32)*w)) by
  conv=>lhs; rw [e]
  rw [Nat.mul_assoc,Nat.mul_assoc],Nat.add_mul_div_left _ _ (Nat.two_pow_pos _),Nat.add_mul_mod_self_left]
theorem arO {n:Nat} (h:n ≠ 0) {k:Nat} (hk:k≤tz n):n / 2 ^ k % 2=if k=tz n then 1 else 0:=by
 obtain ⟨h1,h2⟩:=qY h
 by_cases hh:k=tz n
 ·rw [if_pos hh,hh]
  exact h2
 ·rw [if_neg hh]
  obtain ⟨j,hj⟩:∃ j,tz n=k+(j+1):=⟨tz n - k - 1,by omega⟩
  have h3:n=2 ^ k*(2*(2 ^ j*(n / 2 ^ tz n))):=by
   conv=>lhs; rw [h1,hj]
   rw [Nat.pow_add,Nat.pow_succ,hj,Nat.pow_add,Nat.pow_succ]
   ac_rfl
  rw [h3,Nat.mul_div_cancel_left _ (Nat.two_pow_pos k),Nat.mul_mod_right]
theorem aqD {m:List Nat} (hb:Lb m) (h:m.length≤1000000) (hv:ac m ≠ 0):∀ (k i:Nat),i+k=tz (ac m)→∀ (s:af) (h:aa),s 0=lm m→s 3=I i →
  aI 0 [3] (aU (az R (ab false) ajL) [0,3] [] s h)=some (.normal,⟨upd (fun _=>.any) 3 (I (tz (ac m):Nat)),fun _=>.dead⟩):=by
 have htz:tz (ac m) < 32*m.length:=by
  refine Pe hv ?_
  have:=ju hb
  rw [Nat.pow_mul]
  exact this
 intro k
 induction k with
 | zero =>
  intro i hi s h h0 h3
  have hi':i=tz (ac m):=by omega
  have e1:=IT (n:=i) (m:=32) (j:=32) rfl rfl (by omega) (by omega)
  have e2:=IS (n:=i) (m:=32) (j:=32) rfl rfl (by omega)
  have e3:bH (aP m) ((i / 32:Nat):Int)=some (.ipt [U (m.getD (i / 32) 0:Nat)]):=df rfl (by omega)
  have hx:=dQ hb (i / 32)
  have e4:IntKind.u64.wrap ((i % 32:Nat):Int)=((i % 32:Nat):Int):=pf rfl (by omega)
  have e5:=KF (n:=m.getD (i / 32) 0) (k:=i % 32) (kk:=.u64) (j:=((i % 32:Nat):Int)) rfl rfl (by omega)
  have e6:=aoy (n:=m.getD (i / 32) 0 / 2 ^ (i % 32)) rfl (Nat.lt_of_le_of_lt (Nat.div_le_self _ _) hx)
  have e7:=aoA hb i
  rw [arO hv (by omega),if_pos hi'] at e7
  rw [e7] at e6
  rw [aA]
  rw [← hi']
  simp only [ajL,go_sem,↓reduceIte,aez,axg,h0,h3,e1,e2,e3,e4,e5,e6,Int.natCast_one]
 | succ k ih =>
  intro i hi s h h0 h3
  have e1:=IT (n:=i) (m:=32) (j:=32) rfl rfl (by omega) (by omega)
  have e2:=IS (n:=i) (m:=32) (j:=32) rfl rfl (by omega)
  have e3:bH (aP m) ((i / 32:Nat):Int)=some (.ipt [U (m.getD (i / 32) 0:Nat)]):=df rfl (by omega)
  have hx:=dQ hb (i / 32)
  have e4:IntKind.u64.wrap ((i % 32:Nat):Int)=((i % 32:Nat):Int):=pf rfl (by omega)
  have e5:=KF (n:=m.getD (i / 32) 0) (k:=i % 32) (kk:=.u64) (j:=((i % 32:Nat):Int)) rfl rfl (by omega)
  have e6:=aoy (n:=m.getD (i / 32) 0 / 2 ^ (i % 32)) rfl (Nat.lt_of_le_of_lt (Nat.div_le_self _ _) hx)
  have e7:=aoA hb i
  rw [arO hv (by omega),if_neg (by omega)] at e7
  rw [e7] at e6
  have e8:IntKind.i64.wrap ((i:Int)+1)=((i+1:Nat):Int):=wi (by omega) (by omega)
  have ih':=ih (i+1) (by omega)
  rw [aA]
  generalize aU _ _ _=L at ih' ⊢
  simp only [ajL,go_sem,↓reduceIte,aez,h0,h3,e1,e2,e3,e4,e5,e6,e8,Int.natCast_zero]
  exact ih' _ _ rfl rfl
theorem arP {m:List Nat} (hb:Lb m) (h:m.length≤1000000) (hv:ac m ≠ 0):R F.r02_zeros [lm m] []=some (I (tz (ac m):Nat),[]):=by
 refine aZ api aph (amJ false) rfl ?_
 have h3:=aqD hb h hv (tz (ac m)) 0 (Nat.zero_add _)
 simp only [Int.natCast_zero] at h3
 simp only [akc,alO,go_sem,↓reduceIte,aez]
 rw [h3 _ _ rfl rfl]
 simp only [go_sem,↓reduceIte]
end Go.Ab
