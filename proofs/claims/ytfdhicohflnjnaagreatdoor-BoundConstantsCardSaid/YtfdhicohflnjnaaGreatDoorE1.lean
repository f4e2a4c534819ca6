/-
  A law of ranges holds at every input that the statement speaks of, under the conditions that its card names. Part E1.
-/
import Derived.KernelRfl
import Derived.IntWalk
import Derived.Test.YtfdhicohflnjnaaGreatDoorD1
open Nat renaming reduceAdd → auz, reduceMul → auA, reduceLeDiff → auB, reduceLT → auC, reduceBEq → auD
open Int renaming reduceLT → auE, reduceToNat → auF
namespace Go.Ab
open Go
def ah:Env:=⟨fun f=>aiB.lookup f,fun f=>aer.lookup f,⟨fun f=>(mdL.lookup f).getD [],fun f=>(shL.lookup f).getD [],fun f=>keepL.contains f,false⟩⟩
def aO (b:Bool):Mode:={ ah.md with nm:=b }
noncomputable def R:dG:=dx ah
theorem HF {f:FuncId} {fd:FD} {args:List AV} {hs:List Ob} {r:AV × List Ob} (b:Bool) (hE:ah.E f=none) (hC:ah.C f=some fd) (hk:ah.md.keep f=b) (h1:args.length=fd.np) (h2:hs.length≤1000)
  (hz:gq b fd.rs fd.res hs.length (am R (aO b) fd.body (oT args) (ak hs))=some r):R f args hs=some r:=by
 refine BI hE hC ?_
 unfold PH
 rw [if_pos ⟨h1,h2⟩]
 subst hk
 exact hz
@[go_sem] theorem at0 (b:Bool):(aO b).nm=b:=_root_.id rfl
abbrev aP (f:FuncId):Prop:=∀ (b:Bool) (h:ab) (d:Nat) (zas:List AV),bA R (aO b) h d zas (.fn f [] [])=(bH h [] zas).bind (Hr R (aO b) d f)
abbrev aL (f:FuncId) (l:List (List Sh)):Prop:=∀ b:Bool,(aO b).sh f=l
abbrev aM (f:FuncId) (l:List Nat):Prop:=∀ b:Bool,(aO b).m f=l
abbrev aN (f:FuncId) (l:Bool):Prop:=∀ b:Bool,(aO b).keep f=l
theorem au {f:FuncId} {l:List (List Sh)} (h:ah.md.sh f=l):aL f l:=fun _=>h
theorem av {f:FuncId} {l:List Nat} (h:ah.md.m f=l):aM f l:=fun _=>h
theorem ax {f:FuncId} {l:Bool} (h:ah.md.keep f=l):aN f l:=fun _=>h
theorem az {f:FuncId} (hm:∀ b,(aO b).m f=[]):aP f:=fun b _ d _=>zJ d (hm b)
theorem zO:ah.C F.l24_BoundConstants=some bJ:=by kernel_rfl
theorem zP:ah.E F.l24_BoundConstants=none:=by kernel_rfl
@[go_sem] theorem UE:aL F.l24_BoundConstants [[.o 0 [],.o 2 [],.o 0 []],[.o 8 [.o 0 [],.o 2 [],.o 0 [],.o 0 [],.o 2 [],.o 0 [],.o 0 []]],[]]:=au (by kernel_rfl)
@[go_sem] theorem zQ:aM F.l24_BoundConstants []:=av (by kernel_rfl)
@[go_sem] theorem S0:aP F.l24_BoundConstants:=az zQ
@[go_sem] theorem wW:aN F.l24_BoundConstants false:=ax (by kernel_rfl)
@[go_sem] theorem aiC:aL F.l24_awake []:=au (by kernel_rfl)
@[go_sem] theorem Tt:aM F.l24_awake []:=av (by kernel_rfl)
@[go_sem] theorem afz:aP F.l24_awake:=az Tt
@[go_sem] theorem afA:aN F.l24_awake false:=ax (by kernel_rfl)
theorem WF:ah.C F.l24_near=some s6:=by kernel_rfl
theorem WG:ah.E F.l24_near=none:=by kernel_rfl
@[go_sem] theorem akp:aL F.l24_near [[.o 8 [.o 0 [],.o 2 [],.o 0 [],.o 0 [],.o 2 [],.o 0 [],.o 0 []]]]:=au (by kernel_rfl)
@[go_sem] theorem WH:aM F.l24_near []:=av (by kernel_rfl)
@[go_sem] theorem ahw:aP F.l24_near:=az WH
@[go_sem] theorem MN:aN F.l24_near false:=ax (by kernel_rfl)
theorem MO:ah.C F.bound_Naive=some nY:=by kernel_rfl
theorem MP:ah.E F.bound_Naive=none:=by kernel_rfl
@[go_sem] theorem afB:aL F.bound_Naive [[.o 0 [],.o 5 [.o 2 [],.o 0 [],.o 2 [],.o 0 []]],[.o 8 [.o 0 [],.o 2 [],.o 0 [],.o 0 [],.o 2 [],.o 0 [],.o 0 []]],[]]:=au (by kernel_rfl)
@[go_sem] theorem MQ:aM F.bound_Naive []:=av (by kernel_rfl)
@[go_sem] theorem ack:aP F.bound_Naive:=az MQ
@[go_sem] theorem E8:aN F.bound_Naive false:=ax (by kernel_rfl)
theorem uB:ah.C F.bound_Bernstein=some jR:=by kernel_rfl
theorem uC:ah.E F.bound_Bernstein=none:=by kernel_rfl
@[go_sem] theorem Zj:aL F.bound_Bernstein [[.o 0 [],.o 5 [.o 2 [],.o 0 [],.o 2 [],.o 0 []]],[.o 8 [.o 0 [],.o 2 [],.o 0 [],.o 0 [],.o 2 [],.o 0 [],.o 0 []]],[]]:=au (by kernel_rfl)
@[go_sem] theorem DP:aM F.bound_Bernstein []:=av (by kernel_rfl)
@[go_sem] theorem WI:aP F.bound_Bernstein:=az DP
@[go_sem] theorem rt:aN F.bound_Bernstein false:=ax (by kernel_rfl)
theorem PU:ah.C F.bound_Best=some l9:=by kernel_rfl
theorem PV:ah.E F.bound_Best=none:=by kernel_rfl
@[go_sem] theorem ahx:aL F.bound_Best [[.o 0 [],.o 5 [.o 2 [],.o 0 [],.o 2 [],.o 0 []]],[.o 8 [.o 0 [],.o 2 [],.o 0 [],.o 0 [],.o 2 [],.o 0 [],.o 0 []]],[]]:=au (by kernel_rfl)
@[go_sem] theorem PW:aM F.bound_Best []:=av (by kernel_rfl)
@[go_sem] theorem aet:aP F.bound_Best:=az PW
@[go_sem] theorem HG:aN F.bound_Best false:=ax (by kernel_rfl)
theorem Tu:ah.C F.r05_Valid=some ja:=by kernel_rfl
theorem Tv:ah.E F.r05_Valid=none:=by kernel_rfl
@[go_sem] theorem aiD:aL F.r05_Valid [[.o 0 [],.o 2 [],.o 0 [],.o 0 [],.o 2 [],.o 0 [],.o 0 []]]:=au (by kernel_rfl)
@[go_sem] theorem Tw:aM F.r05_Valid []:=av (by kernel_rfl)
@[go_sem] theorem afC:aP F.r05_Valid:=az Tw
@[go_sem] theorem JG:aN F.r05_Valid false:=ax (by kernel_rfl)
theorem Tx:ah.C F.l24_equal=some qS:=by kernel_rfl
theorem Ty:ah.E F.l24_equal=none:=by kernel_rfl
@[go_sem] theorem aiE:aL F.l24_equal [[.o 0 [],.o 2 [],.o 0 [],.o 0 [],.o 2 [],.o 0 [],.o 0 []],[.o 0 [],.o 2 [],.o 0 [],.o 0 [],.o 2 [],.o 0 [],.o 0 []]]:=au (by kernel_rfl)
@[go_sem] theorem Tz:aM F.l24_equal []:=av (by kernel_rfl)
@[go_sem] theorem afD:aP F.l24_equal:=az Tz
@[go_sem] theorem JH:aN F.l24_equal false:=ax (by kernel_rfl)
theorem E9:ah.C F.interval_Point=some oW:=by kernel_rfl
theorem Fa:ah.E F.interval_Point=none:=by kernel_rfl
@[go_sem] theorem aa7:aL F.interval_Point [[.o 0 [],.o 2 [],.o 0 []]]:=au (by kernel_rfl)
@[go_sem] theorem Fb:aM F.interval_Point []:=av (by kernel_rfl)
@[go_sem] theorem Yf:aP F.interval_Point:=az Fb
@[go_sem] theorem AR:aN F.interval_Point false:=ax (by kernel_rfl)
theorem PX:ah.C F.dyadic_Cmp=some fV:=by kernel_rfl
theorem PY:ah.E F.dyadic_Cmp=none:=by kernel_rfl
@[go_sem] theorem ahy:aL F.dyadic_Cmp [[.o 0 [],.o 2 [],.o 0 []],[.o 0 [],.o 2 [],.o 0 []]]:=au (by kernel_rfl)
@[go_sem] theorem PZ:aM F.dyadic_Cmp []:=av (by kernel_rfl)
@[go_sem] theorem aeu:aP F.dyadic_Cmp:=az PZ
@[go_sem] theorem HH:aN F.dyadic_Cmp false:=ax (by kernel_rfl)
theorem HI:ah.C F.interval_Meet=some dV:=by kernel_rfl
theorem HJ:ah.E F.interval_Meet=none:=by kernel_rfl
@[go_sem] theorem acl:aL F.interval_Meet [[.o 0 [],.o 2 [],.o 0 [],.o 0 [],.o 2 [],.o 0 [],.o 0 []],[.o 0 [],.o 2 [],.o 0 [],.o 0 [],.o 2 [],.o 0 [],.o 0 []]]:=au (by kernel_rfl)
@[go_sem] theorem HK:aM F.interval_Meet []:=av (by kernel_rfl)
@[go_sem] theorem Zk:aP F.interval_Meet:=az HK
@[go_sem] theorem BW:aN F.interval_Meet false:=ax (by kernel_rfl)
theorem WJ:ah.C F.l24_long=some pt:=by kernel_rfl
theorem WK:ah.E F.l24_long=none:=by kernel_rfl
@[go_sem] theorem akq:aL F.l24_long [[.o 0 [],.o 2 [],.o 0 []]]:=au (by kernel_rfl)
@[go_sem] theorem WL:aM F.l24_long []:=av (by kernel_rfl)
@[go_sem] theorem ahz:aP F.l24_long:=az WL
@[go_sem] theorem MR:aN F.l24_long false:=ax (by kernel_rfl)
theorem TA:ah.C F.r02_Valid=some dW:=by kernel_rfl
theorem TB:ah.E F.r02_Valid=none:=by kernel_rfl
@[go_sem] theorem aiF:aL F.r02_Valid [[.o 0 [],.o 2 [],.o 0 []]]:=au (by kernel_rfl)
@[go_sem] theorem TC:aM F.r02_Valid []:=av (by kernel_rfl)
@[go_sem] theorem afE:aP F.r02_Valid:=az TC
@[go_sem] theorem JI:aN F.r02_Valid false:=ax (by kernel_rfl)
theorem P0:ah.C F.poly_Const=some pJ:=by kernel_rfl
theorem P1:ah.E F.poly_Const=none:=by kernel_rfl
@[go_sem] theorem ahA:aL F.poly_Const [[],[.o 0 [],.o 2 [],.o 0 []]]:=au (by kernel_rfl)
@[go_sem] theorem P2:aM F.poly_Const []:=av (by kernel_rfl)
@[go_sem] theorem aev:aP F.poly_Const:=az P2
@[go_sem] theorem HL:aN F.poly_Const false:=ax (by kernel_rfl)
theorem Fc:ah.C F.interval_Round=some ig:=by kernel_rfl
theorem Fd:ah.E F.interval_Round=none:=by kernel_rfl
@[go_sem] theorem aa8:aL F.interval_Round [[.o 0 [],.o 2 [],.o 0 [],.o 0 [],.o 2 [],.o 0 [],.o 0 []],[]]:=au (by kernel_rfl)
@[go_sem] theorem Fe:aM F.interval_Round []:=av (by kernel_rfl)
@[go_sem] theorem Yg:aP F.interval_Round:=az Fe
@[go_sem] theorem AS:aN F.interval_Round false:=ax (by kernel_rfl)
theorem cB:ah.C F.slices_ContainsFunc_api_Interval_api_Interval_=some dO:=by kernel_rfl
theorem cC:ah.E F.slices_ContainsFunc_api_Interval_api_Interval_=none:=by kernel_rfl
@[go_sem] theorem vz:aL F.slices_ContainsFunc_api_Interval_api_Interval_ [[.o 8 [.o 0 [],.o 2 [],.o 0 [],.o 0 [],.o 2 [],.o 0 [],.o 0 []]],[]]:=au (by kernel_rfl)
@[go_sem] theorem jp:aM F.slices_ContainsFunc_api_Interval_api_Interval_ []:=av (by kernel_rfl)
@[go_sem] theorem uD:aP F.slices_ContainsFunc_api_Interval_api_Interval_:=az jp
@[go_sem] theorem ck:aN F.slices_ContainsFunc_api_Interval_api_Interval_ false:=ax (by kernel_rfl)
theorem xX:ah.C F.l24_BoundConstants_1=some et:=by kernel_rfl
theorem xY:ah.E F.l24_BoundConstants_1=none:=by kernel_rfl
@[go_sem] theorem S1:aL F.l24_BoundConstants_1 [[.o 0 [],.o 2 [],.o 0 [],.o 0 [],.o 2 [],.o 0 [],.o 0 []]]:=au (by kernel_rfl)
@[go_sem] theorem pC:aM F.l24_BoundConstants_1 []:=av (by kernel_rfl)
@[go_sem] theorem OB:aP F.l24_BoundConstants_1:=az pC
@[go_sem] theorem uU:aN F.l24_BoundConstants_1 false:=ax (by kernel_rfl)
theorem Ff:ah.C F.interval_Whole=some oZ:=by kernel_rfl
theorem Fg:ah.E F.interval_Whole=none:=by kernel_rfl
@[go_sem] theorem aa9:aL F.interval_Whole []:=au (by kernel_rfl)
@[go_sem] theorem Fh:aM F.interval_Whole []:=av (by kernel_rfl)
@[go_sem] theorem Yh:aP F.interval_Whole:=az Fh
@[go_sem] theorem AT:aN F.interval_Whole false:=ax (by kernel_rfl)
theorem TD:ah.C F.r23_Valid=some je:=by kernel_rfl
theorem TE:ah.E F.r23_Valid=none:=by kernel_rfl
@[go_sem] theorem aiG:aL F.r23_Valid [[.o 0 [],.o 5 [.o 2 [],.o 0 [],.o 2 [],.o 0 []]]]:=au (by kernel_rfl)
@[go_sem] theorem TF:aM F.r23_Valid []:=av (by kernel_rfl)
@[go_sem] theorem afF:aP F.r23_Valid:=az TF
@[go_sem] theorem JJ:aN F.r23_Valid false:=ax (by kernel_rfl)
theorem P3:ah.C F.r05_Inside=some fW:=by kernel_rfl
theorem P4:ah.E F.r05_Inside=none:=by kernel_rfl
@[go_sem] theorem ahB:aL F.r05_Inside [[.o 0 [],.o 2 [],.o 0 [],.o 0 [],.o 2 [],.o 0 [],.o 0 []],[.o 0 [],.o 2 [],.o 0 [],.o 0 [],.o 2 [],.o 0 [],.o 0 []]]:=au (by kernel_rfl)
@[go_sem] theorem P5:aM F.r05_Inside []:=av (by kernel_rfl)
@[go_sem] theorem aew:aP F.r05_Inside:=az P5
@[go_sem] theorem HM:aN F.r05_Inside false:=ax (by kernel_rfl)
theorem JK:ah.C F.interval_Add=some jS:=by kernel_rfl
theorem JL:ah.E F.interval_Add=none:=by kernel_rfl
@[go_sem] theorem aex:aL F.interval_Add [[.o 0 [],.o 2 [],.o 0 [],.o 0 [],.o 2 [],.o 0 [],.o 0 []],[.o 0 [],.o 2 [],.o 0 [],.o 0 [],.o 2 [],.o 0 [],.o 0 []],[]]:=au (by kernel_rfl)
@[go_sem] theorem JM:aM F.interval_Add []:=av (by kernel_rfl)
@[go_sem] theorem aba:aP F.interval_Add:=az JM
@[go_sem] theorem DQ:aN F.interval_Add false:=ax (by kernel_rfl)
theorem JN:ah.C F.interval_Sub=some qT:=by kernel_rfl
theorem JO:ah.E F.interval_Sub=none:=by kernel_rfl
@[go_sem] theorem aey:aL F.interval_Sub [[.o 0 [],.o 2 [],.o 0 [],.o 0 [],.o 2 [],.o 0 [],.o 0 []],[.o 0 [],.o 2 [],.o 0 [],.o 0 [],.o 2 [],.o 0 [],.o 0 []],[]]:=au (by kernel_rfl)
@[go_sem] theorem JP:aM F.interval_Sub []:=av (by kernel_rfl)
@[go_sem] theorem abb:aP F.interval_Sub:=az JP
@[go_sem] theorem DR:aN F.interval_Sub false:=ax (by kernel_rfl)
theorem JQ:ah.C F.interval_Mul=some jT:=by kernel_rfl
theorem JR:ah.E F.interval_Mul=none:=by kernel_rfl
@[go_sem] theorem aez:aL F.interval_Mul [[.o 0 [],.o 2 [],.o 0 [],.o 0 [],.o 2 [],.o 0 [],.o 0 []],[.o 0 [],.o 2 [],.o 0 [],.o 0 [],.o 2 [],.o 0 [],.o 0 []],[]]:=au (by kernel_rfl)
@[go_sem] theorem JS:aM F.interval_Mul []:=av (by kernel_rfl)
@[go_sem] theorem abc:aP F.interval_Mul:=az JS
@[go_sem] theorem DS:aN F.interval_Mul false:=ax (by kernel_rfl)
theorem TG:ah.C F.r05_Equal=some wd:=by kernel_rfl
theorem TH:ah.E F.r05_Equal=none:=by kernel_rfl
@[go_sem] theorem aiH:aL F.r05_Equal [[.o 0 [],.o 2 [],.o 0 [],.o 0 [],.o 2 [],.o 0 [],.o 0 []],[.o 0 [],.o 2 [],.o 0 [],.o 0 [],.o 2 [],.o 0 [],.o 0 []]]:=au (by kernel_rfl)
@[go_sem] theorem TI:aM F.r05_Equal []:=av (by kernel_rfl)
@[go_sem] theorem afG:aP F.r05_Equal:=az TI
@[go_sem] theorem JT:aN F.r05_Equal false:=ax (by kernel_rfl)
theorem P6:ah.C F.l24_near_1=some pK:=by kernel_rfl
theorem P7:ah.E F.l24_near_1=none:=by kernel_rfl
@[go_sem] theorem ahC:aL F.l24_near_1 [[.o 0 [],.o 2 [],.o 0 [],.o 0 [],.o 2 [],.o 0 [],.o 0 []]]:=au (by kernel_rfl)
@[go_sem] theorem BX:aM F.l24_near_1 []:=av (by kernel_rfl)
@[go_sem] theorem aeA:aP F.l24_near_1:=az BX
@[go_sem] theorem HN:aN F.l24_near_1 false:=ax (by kernel_rfl)
theorem P8:ah.C F.bound_fits=some me:=by kernel_rfl
theorem P9:ah.E F.bound_fits=none:=by kernel_rfl
@[go_sem] theorem ahD:aL F.bound_fits [[.o 0 [],.o 5 [.o 2 [],.o 0 [],.o 2 [],.o 0 []]],[.o 8 [.o 0 [],.o 2 [],.o 0 [],.o 0 [],.o 2 [],.o 0 [],.o 0 []]],[]]:=au (by kernel_rfl)
@[go_sem] theorem Qa:aM F.bound_fits []:=av (by kernel_rfl)
@[go_sem] theorem aeB:aP F.bound_fits:=az Qa
@[go_sem] theorem HO:aN F.bound_fits false:=ax (by kernel_rfl)
theorem MS:ah.C F.bound_whole=some sd:=by kernel_rfl
theorem MT:ah.E F.bound_whole=none:=by kernel_rfl
@[go_sem] theorem afH:aL F.bound_whole []:=au (by kernel_rfl)
@[go_sem] theorem MU:aM F.bound_whole []:=av (by kernel_rfl)
@[go_sem] theorem acm:aP F.bound_whole:=az MU
@[go_sem] theorem Fi:aN F.bound_whole false:=ax (by kernel_rfl)
theorem MV:ah.C F.bound_power=some n6:=by kernel_rfl
theorem MW:ah.E F.bound_power=none:=by kernel_rfl
@[go_sem] theorem afI:aL F.bound_power [[.o 0 [],.o 2 [],.o 0 [],.o 0 [],.o 2 [],.o 0 [],.o 0 []],[],[]]:=au (by kernel_rfl)
@[go_sem] theorem MX:aM F.bound_power []:=av (by kernel_rfl)
@[go_sem] theorem acn:aP F.bound_power:=az MX
@[go_sem] theorem Fj:aN F.bound_power false:=ax (by kernel_rfl)
theorem JU:ah.C F.bound_Linear=some jU:=by kernel_rfl
theorem JV:ah.E F.bound_Linear=none:=by kernel_rfl
@[go_sem] theorem aeC:aL F.bound_Linear [[.o 0 [],.o 5 [.o 2 [],.o 0 [],.o 2 [],.o 0 []]]]:=au (by kernel_rfl)
@[go_sem] theorem JW:aM F.bound_Linear []:=av (by kernel_rfl)
@[go_sem] theorem abd:aP F.bound_Linear:=az JW
@[go_sem] theorem DT:aN F.bound_Linear false:=ax (by kernel_rfl)
theorem Qb:ah.C F.bound_line=some dY:=by kernel_rfl
theorem Qc:ah.E F.bound_line=none:=by kernel_rfl
@[go_sem] theorem ahE:aL F.bound_line [[.o 0 [],.o 2 [],.o 0 []],[.o 0 [],.o 2 [],.o 0 []],[.o 0 [],.o 2 [],.o 0 [],.o 0 [],.o 2 [],.o 0 [],.o 0 []],[]]:=au (by kernel_rfl)
@[go_sem] theorem Qd:aM F.bound_line []:=av (by kernel_rfl)
@[go_sem] theorem aeD:aP F.bound_line:=az Qd
@[go_sem] theorem HP:aN F.bound_line false:=ax (by kernel_rfl)
theorem yH:ah.C F.bound_gridOf=some mT:=by kernel_rfl
theorem yI:ah.E F.bound_gridOf=none:=by kernel_rfl
@[go_sem] theorem aeE:aL F.bound_gridOf [[.o 0 [],.o 5 [.o 2 [],.o 0 [],.o 2 [],.o 0 []]],[]]:=au (by kernel_rfl)
@[go_sem] theorem JX:aM F.bound_gridOf []:=av (by kernel_rfl)
@[go_sem] theorem abe:aP F.bound_gridOf:=az JX
@[go_sem] theorem uE:aN F.bound_gridOf false:=ax (by kernel_rfl)
theorem DU:ah.C F.bound_grid_unit=some nC:=by kernel_rfl
theorem DV:ah.E F.bound_grid_unit=none:=by kernel_rfl
@[go_sem] theorem BY:aL F.bound_grid_unit [[],[],[.o 0 [],.o 2 [],.o 0 [],.o 0 [],.o 2 [],.o 0 [],.o 0 []]]:=au (by kernel_rfl)
@[go_sem] theorem pi:aM F.bound_grid_unit []:=av (by kernel_rfl)
@[go_sem] theorem WM:aP F.bound_grid_unit:=az pi
@[go_sem] theorem ru:aN F.bound_grid_unit false:=ax (by kernel_rfl)
theorem xZ:ah.C F.bound_grid_bernstein=some jC:=by kernel_rfl
theorem x5:ah.E F.bound_grid_bernstein=none:=by kernel_rfl
@[go_sem] theorem wX:aL F.bound_grid_bernstein []:=au (by kernel_rfl)
@[go_sem] theorem kg:aM F.bound_grid_bernstein []:=av (by kernel_rfl)
@[go_sem] theorem OD:aP F.bound_grid_bernstein:=az kg
@[go_sem] theorem m8:aN F.bound_grid_bernstein false:=ax (by kernel_rfl)
theorem HQ:ah.C F.interval_Hull=some lI:=by kernel_rfl
theorem HR:ah.E F.interval_Hull=none:=by kernel_rfl
@[go_sem] theorem aco:aL F.interval_Hull [[.o 0 [],.o 2 [],.o 0 [],.o 0 [],.o 2 [],.o 0 [],.o 0 []],[.o 0 [],.o 2 [],.o 0 [],.o 0 [],.o 2 [],.o 0 [],.o 0 []]]:=au (by kernel_rfl)
@[go_sem] theorem HS:aM F.interval_Hull []:=av (by kernel_rfl)
@[go_sem] theorem Zl:aP F.interval_Hull:=az HS
@[go_sem] theorem BZ:aN F.interval_Hull false:=ax (by kernel_rfl)
theorem Zm:ah.C F.r02_Cmp=some gH:=by kernel_rfl
theorem Zn:ah.E F.r02_Cmp=none:=by kernel_rfl
@[go_sem] theorem alx:aL F.r02_Cmp [[.o 0 [],.o 2 [],.o 0 []],[.o 0 [],.o 2 [],.o 0 []]]:=au (by kernel_rfl)
@[go_sem] theorem Zo:aM F.r02_Cmp []:=av (by kernel_rfl)
@[go_sem] theorem aiI:aP F.r02_Cmp:=az Zo
@[go_sem] theorem Qe:aN F.r02_Cmp false:=ax (by kernel_rfl)
theorem WN:ah.C F.r05_zero=some mD:=by kernel_rfl
theorem WO:ah.E F.r05_zero=none:=by kernel_rfl
@[go_sem] theorem akr:aL F.r05_zero [[.o 0 [],.o 2 [],.o 0 []]]:=au (by kernel_rfl)
@[go_sem] theorem WP:aM F.r05_zero []:=av (by kernel_rfl)
@[go_sem] theorem ahF:aP F.r05_zero:=az WP
@[go_sem] theorem MY:aN F.r05_zero false:=ax (by kernel_rfl)
theorem JY:ah.C F.dyadic_Valid=some eJ:=by kernel_rfl
theorem JZ:ah.E F.dyadic_Valid=none:=by kernel_rfl
@[go_sem] theorem aeF:aL F.dyadic_Valid [[.o 0 [],.o 2 [],.o 0 []]]:=au (by kernel_rfl)
@[go_sem] theorem J0:aM F.dyadic_Valid []:=av (by kernel_rfl)
@[go_sem] theorem abf:aP F.dyadic_Valid:=az J0
@[go_sem] theorem DW:aN F.dyadic_Valid false:=ax (by kernel_rfl)
theorem MZ:ah.C F.dyadic_Sign=some iP:=by kernel_rfl
theorem M0:ah.E F.dyadic_Sign=none:=by kernel_rfl
@[go_sem] theorem afJ:aL F.dyadic_Sign [[.o 0 [],.o 2 [],.o 0 []]]:=au (by kernel_rfl)
@[go_sem] theorem M1:aM F.dyadic_Sign []:=av (by kernel_rfl)
@[go_sem] theorem acp:aP F.dyadic_Sign:=az M1
@[go_sem] theorem Fk:aN F.dyadic_Sign false:=ax (by kernel_rfl)
theorem Fl:ah.C F.dyadic_compare=some im:=by kernel_rfl
theorem Fo:ah.E F.dyadic_compare=none:=by kernel_rfl
@[go_sem] theorem abg:aL F.dyadic_compare [[.o 0 [],.o 2 [],.o 0 []],[.o 0 [],.o 2 [],.o 0 []]]:=au (by kernel_rfl)
@[go_sem] theorem Fq:aM F.dyadic_compare []:=av (by kernel_rfl)
@[go_sem] theorem Yi:aP F.dyadic_compare:=az Fq
@[go_sem] theorem AU:aN F.dyadic_compare false:=ax (by kernel_rfl)
theorem Fr:ah.C F.interval_Valid=some eB:=by kernel_rfl
theorem Ft:ah.E F.interval_Valid=none:=by kernel_rfl
@[go_sem] theorem abh:aL F.interval_Valid [[.o 0 [],.o 2 [],.o 0 [],.o 0 [],.o 2 [],.o 0 [],.o 0 []]]:=au (by kernel_rfl)
@[go_sem] theorem Fu:aM F.interval_Valid []:=av (by kernel_rfl)
@[go_sem] theorem Yj:aP F.interval_Valid:=az Fu
@[go_sem] theorem AW:aN F.interval_Valid false:=ax (by kernel_rfl)
theorem HT:ah.C F.interval_more=some lK:=by kernel_rfl
theorem HU:ah.E F.interval_more=none:=by kernel_rfl
@[go_sem] theorem acq:aL F.interval_more [[.o 0 [],.o 2 [],.o 0 []],[.o 0 [],.o 2 [],.o 0 []]]:=au (by kernel_rfl)
@[go_sem] theorem HV:aM F.interval_more []:=av (by kernel_rfl)
@[go_sem] theorem Zp:aP F.interval_more:=az HV
@[go_sem] theorem B0:aN F.interval_more false:=ax (by kernel_rfl)
theorem HW:ah.C F.interval_less=some lL:=by kernel_rfl
theorem HX:ah.E F.interval_less=none:=by kernel_rfl
@[go_sem] theorem acr:aL F.interval_less [[.o 0 [],.o 2 [],.o 0 []],[.o 0 [],.o 2 [],.o 0 []]]:=au (by kernel_rfl)
@[go_sem] theorem HY:aM F.interval_less []:=av (by kernel_rfl)
@[go_sem] theorem Zq:aP F.interval_less:=az HY
@[go_sem] theorem B1:aN F.interval_less false:=ax (by kernel_rfl)
theorem Qf:ah.C F.poly_Valid=some hF:=by kernel_rfl
theorem Qg:ah.E F.poly_Valid=none:=by kernel_rfl
@[go_sem] theorem ahG:aL F.poly_Valid [[.o 0 [],.o 5 [.o 2 [],.o 0 [],.o 2 [],.o 0 []]]]:=au (by kernel_rfl)
@[go_sem] theorem Qh:aM F.poly_Valid []:=av (by kernel_rfl)
@[go_sem] theorem aeG:aP F.poly_Valid:=az Qh
@[go_sem] theorem HZ:aN F.poly_Valid false:=ax (by kernel_rfl)
theorem Qi:ah.C F.dyadic_Add=some mh:=by kernel_rfl
theorem Qj:ah.E F.dyadic_Add=none:=by kernel_rfl
@[go_sem] theorem ahH:aL F.dyadic_Add [[.o 0 [],.o 2 [],.o 0 []],[.o 0 [],.o 2 [],.o 0 []]]:=au (by kernel_rfl)
@[go_sem] theorem Qk:aM F.dyadic_Add []:=av (by kernel_rfl)
@[go_sem] theorem aeH:aP F.dyadic_Add:=az Qk
@[go_sem] theorem H0:aN F.dyadic_Add false:=ax (by kernel_rfl)
theorem J1:ah.C F.bound_domain=some jW:=by kernel_rfl
theorem J2:ah.E F.bound_domain=none:=by kernel_rfl
@[go_sem] theorem aeI:aL F.bound_domain [[.o 0 [],.o 5 [.o 2 [],.o 0 [],.o 2 [],.o 0 []]],[.o 8 [.o 0 [],.o 2 [],.o 0 [],.o 0 [],.o 2 [],.o 0 [],.o 0 []]]]:=au (by kernel_rfl)
@[go_sem] theorem J3:aM F.bound_domain []:=av (by kernel_rfl)
@[go_sem] theorem abi:aP F.bound_domain:=az J3
@[go_sem] theorem DX:aN F.bound_domain false:=ax (by kernel_rfl)
theorem TJ:ah.C F.r02_Equal=some wg:=by kernel_rfl
theorem TK:ah.E F.r02_Equal=none:=by kernel_rfl
@[go_sem] theorem aiJ:aL F.r02_Equal [[.o 0 [],.o 2 [],.o 0 []],[.o 0 [],.o 2 [],.o 0 []]]:=au (by kernel_rfl)
@[go_sem] theorem TL:aM F.r02_Equal []:=av (by kernel_rfl)
@[go_sem] theorem afK:aP F.r02_Equal:=az TL
@[go_sem] theorem J4:aN F.r02_Equal false:=ax (by kernel_rfl)
theorem WQ:ah.C F.r02_bits=some s7:=by kernel_rfl
theorem WR:ah.E F.r02_bits=none:=by kernel_rfl
@[go_sem] theorem aks:aL F.r02_bits [[.o 2 []]]:=au (by kernel_rfl)
@[go_sem] theorem WS:aM F.r02_bits []:=av (by kernel_rfl)
@[go_sem] theorem ahI:aP F.r02_bits:=az WS
@[go_sem] theorem M2:aN F.r02_bits false:=ax (by kernel_rfl)
theorem Ql:ah.C F.poly_empty=some tZ:=by kernel_rfl
theorem Qm:ah.E F.poly_empty=none:=by kernel_rfl
@[go_sem] theorem ahJ:aL F.poly_empty []:=au (by kernel_rfl)
@[go_sem] theorem Qn:aM F.poly_empty []:=av (by kernel_rfl)
@[go_sem] theorem aeJ:aP F.poly_empty:=az Qn
@[go_sem] theorem H1:aN F.poly_empty false:=ax (by kernel_rfl)
theorem iJ:ah.C F.poly_collector_add=some dP:=by kernel_rfl
theorem iK:ah.E F.poly_collector_add=none:=by kernel_rfl
@[go_sem] theorem yJ:aL F.poly_collector_add [[],[.o 2 []],[.o 0 [],.o 2 [],.o 0 []]]:=au (by kernel_rfl)
@[go_sem] theorem lV:aM F.poly_collector_add []:=av (by kernel_rfl)
@[go_sem] theorem S2:aP F.poly_collector_add:=az lV
@[go_sem] theorem ew:aN F.poly_collector_add false:=ax (by kernel_rfl)
theorem kQ:ah.C F.poly_collector_done=some dA:=by kernel_rfl
theorem kR:ah.E F.poly_collector_done=none:=by kernel_rfl
@[go_sem] theorem x7:aL F.poly_collector_done []:=au (by kernel_rfl)
@[go_sem] theorem gU:aM F.poly_collector_done []:=av (by kernel_rfl)
@[go_sem] theorem Qo:aP F.poly_collector_done:=az gU
@[go_sem] theorem fP:aN F.poly_collector_done false:=ax (by kernel_rfl)
theorem Fv:ah.C F.interval_known=some kr:=by kernel_rfl
theorem Fw:ah.E F.interval_known=none:=by kernel_rfl
@[go_sem] theorem abj:aL F.interval_known [[.o 8 [.o 0 [],.o 2 [],.o 0 [],.o 0 [],.o 2 [],.o 0 [],.o 0 []]]]:=au (by kernel_rfl)
@[go_sem] theorem Fx:aM F.interval_known []:=av (by kernel_rfl)
@[go_sem] theorem Yk:aP F.interval_known:=az Fx
@[go_sem] theorem AX:aN F.interval_known false:=ax (by kernel_rfl)
theorem zR:ah.C F.interval_permitted=some gT:=by kernel_rfl
theorem zS:ah.E F.interval_permitted=none:=by kernel_rfl
@[go_sem] theorem UF:aL F.interval_permitted []:=au (by kernel_rfl)
@[go_sem] theorem zT:aM F.interval_permitted []:=av (by kernel_rfl)
@[go_sem] theorem S3:aP F.interval_permitted:=az zT
@[go_sem] theorem wY:aN F.interval_permitted false:=ax (by kernel_rfl)
theorem Qp:ah.C F.round_Down=some ub:=by kernel_rfl
theorem Qq:ah.E F.round_Down=none:=by kernel_rfl
@[go_sem] theorem ahK:aL F.round_Down [[.o 0 [],.o 2 [],.o 0 []],[]]:=au (by kernel_rfl)
@[go_sem] theorem Qr:aM F.round_Down []:=av (by kernel_rfl)
@[go_sem] theorem aeK:aP F.round_Down:=az Qr
@[go_sem] theorem H2:aN F.round_Down false:=ax (by kernel_rfl)
theorem WT:ah.C F.round_Up=some xO:=by kernel_rfl
theorem WU:ah.E F.round_Up=none:=by kernel_rfl
@[go_sem] theorem akt:aL F.round_Up [[.o 0 [],.o 2 [],.o 0 []],[]]:=au (by kernel_rfl)
@[go_sem] theorem WV:aM F.round_Up []:=av (by kernel_rfl)
@[go_sem] theorem ahL:aP F.round_Up:=az WV
@[go_sem] theorem M3:aN F.round_Up false:=ax (by kernel_rfl)
theorem H3:ah.C F.interval_made=some jg:=by kernel_rfl
theorem H4:ah.E F.interval_made=none:=by kernel_rfl
@[go_sem] theorem acs:aL F.interval_made [[.o 0 [],.o 2 [],.o 0 []],[],[.o 0 [],.o 2 [],.o 0 []],[]]:=au (by kernel_rfl)
@[go_sem] theorem H5:aM F.interval_made []:=av (by kernel_rfl)
@[go_sem] theorem Zr:aP F.interval_made:=az H5
@[go_sem] theorem B2:aN F.interval_made false:=ax (by kernel_rfl)
theorem cS:ah.C F.slices_IndexFunc_api_Interval_api_Interval_=some eu:=by kernel_rfl
theorem cT:ah.E F.slices_IndexFunc_api_Interval_api_Interval_=none:=by kernel_rfl
@[go_sem] theorem cO:aL F.slices_IndexFunc_api_Interval_api_Interval_ [[.o 8 [.o 0 [],.o 2 [],.o 0 [],.o 0 [],.o 2 [],.o 0 [],.o 0 []]],[]]:=au (by kernel_rfl)
@[go_sem] theorem bS:aM F.slices_IndexFunc_api_Interval_api_Interval_ []:=av (by kernel_rfl)
@[go_sem] theorem wt:aP F.slices_IndexFunc_api_Interval_api_Interval_:=az bS
@[go_sem] theorem cD:aN F.slices_IndexFunc_api_Interval_api_Interval_ false:=ax (by kernel_rfl)
theorem WX:ah.C F.r23_term=some kf:=by kernel_rfl
theorem WY:ah.E F.r23_term=none:=by kernel_rfl
@[go_sem] theorem aku:aL F.r23_term [[],[.o 2 [],.o 0 [],.o 2 [],.o 0 []]]:=au (by kernel_rfl)
@[go_sem] theorem WZ:aM F.r23_term []:=av (by kernel_rfl)
@[go_sem] theorem ahM:aP F.r23_term:=az WZ
@[go_sem] theorem M4:aN F.r23_term false:=ax (by kernel_rfl)
theorem M5:ah.C F.r23_Compare=some iQ:=by kernel_rfl
theorem M6:ah.E F.r23_Compare=none:=by kernel_rfl
@[go_sem] theorem afL:aL F.r23_Compare [[.o 2 []],[.o 2 []]]:=au (by kernel_rfl)
@[go_sem] theorem M7:aM F.r23_Compare []:=av (by kernel_rfl)
@[go_sem] theorem act:aP F.r23_Compare:=az M7
@[go_sem] theorem Fy:aN F.r23_Compare false:=ax (by kernel_rfl)
theorem H6:ah.C F.round_AddDown=some pZ:=by kernel_rfl
theorem H7:ah.E F.round_AddDown=none:=by kernel_rfl
@[go_sem] theorem acu:aL F.round_AddDown [[.o 0 [],.o 2 [],.o 0 []],[.o 0 [],.o 2 [],.o 0 []],[]]:=au (by kernel_rfl)
@[go_sem] theorem H8:aM F.round_AddDown []:=av (by kernel_rfl)
@[go_sem] theorem Zs:aP F.round_AddDown:=az H8
@[go_sem] theorem B3:aN F.round_AddDown false:=ax (by kernel_rfl)
theorem M8:ah.C F.round_AddUp=some sf:=by kernel_rfl
theorem M9:ah.E F.round_AddUp=none:=by kernel_rfl
@[go_sem] theorem afM:aL F.round_AddUp [[.o 0 [],.o 2 [],.o 0 []],[.o 0 [],.o 2 [],.o 0 []],[]]:=au (by kernel_rfl)
@[go_sem] theorem Na:aM F.round_AddUp []:=av (by kernel_rfl)
@[go_sem] theorem acv:aP F.round_AddUp:=az Na
@[go_sem] theorem Fz:aN F.round_AddUp false:=ax (by kernel_rfl)
theorem Qs:ah.C F.dyadic_Mul=some eW:=by kernel_rfl
theorem Qt:ah.E F.dyadic_Mul=none:=by kernel_rfl
@[go_sem] theorem ahN:aL F.dyadic_Mul [[.o 0 [],.o 2 [],.o 0 []],[.o 0 [],.o 2 [],.o 0 []]]:=au (by kernel_rfl)
@[go_sem] theorem Qu:aM F.dyadic_Mul []:=av (by kernel_rfl)
@[go_sem] theorem aeL:aP F.dyadic_Mul:=az Qu
@[go_sem] theorem H9:aN F.dyadic_Mul false:=ax (by kernel_rfl)
theorem Qv:ah.C F.dyadic_Int=some pM:=by kernel_rfl
theorem Qw:ah.E F.dyadic_Int=none:=by kernel_rfl
@[go_sem] theorem ahO:aL F.dyadic_Int []:=au (by kernel_rfl)
@[go_sem] theorem Qx:aM F.dyadic_Int []:=av (by kernel_rfl)
@[go_sem] theorem aeM:aP F.dyadic_Int:=az Qx
@[go_sem] theorem Ia:aN F.dyadic_Int false:=ax (by kernel_rfl)
@[go_sem] theorem Qy:aL F.slices_Clone_int_int_ [[.o 2 []]]:=au (by kernel_rfl)
@[go_sem] theorem wZ:aM F.slices_Clone_int_int_ []:=av (by kernel_rfl)
@[go_sem] theorem Nb:aP F.slices_Clone_int_int_:=az wZ
@[go_sem] theorem Nc:aN F.slices_Clone_int_int_ false:=ax (by kernel_rfl)
theorem J5:ah.C F.interval_Neg=some mV:=by kernel_rfl
theorem J6:ah.E F.interval_Neg=none:=by kernel_rfl
@[go_sem] theorem aeN:aL F.interval_Neg [[.o 0 [],.o 2 [],.o 0 [],.o 0 [],.o 2 [],.o 0 [],.o 0 []]]:=au (by kernel_rfl)
@[go_sem] theorem J7:aM F.interval_Neg []:=av (by kernel_rfl)
@[go_sem] theorem abk:aP F.interval_Neg:=az J7
@[go_sem] theorem DY:aN F.interval_Neg false:=ax (by kernel_rfl)
theorem Ib:ah.C F.interval_four=some p7:=by kernel_rfl
theorem Ic:ah.E F.interval_four=none:=by kernel_rfl
@[go_sem] theorem acw:aL F.interval_four [[.o 0 [],.o 2 [],.o 0 [],.o 0 [],.o 2 [],.o 0 [],.o 0 []],[.o 0 [],.o 2 [],.o 0 [],.o 0 [],.o 2 [],.o 0 [],.o 0 []],[],[],[]]:=au (by kernel_rfl)
@[go_sem] theorem Ie:aM F.interval_four []:=av (by kernel_rfl)
@[go_sem] theorem Zt:aP F.interval_four:=az Ie
@[go_sem] theorem B4:aN F.interval_four false:=ax (by kernel_rfl)
theorem If:ah.C F.round_MulDown=some p8:=by kernel_rfl
theorem Ig:ah.E F.round_MulDown=none:=by kernel_rfl
@[go_sem] theorem acx:aL F.round_MulDown [[.o 0 [],.o 2 [],.o 0 []],[.o 0 [],.o 2 [],.o 0 []],[]]:=au (by kernel_rfl)
@[go_sem] theorem Ih:aM F.round_MulDown []:=av (by kernel_rfl)
@[go_sem] theorem Zu:aP F.round_MulDown:=az Ih
@[go_sem] theorem B5:aN F.round_MulDown false:=ax (by kernel_rfl)
theorem Nd:ah.C F.round_MulUp=some si:=by kernel_rfl
theorem Nf:ah.E F.round_MulUp=none:=by kernel_rfl
@[go_sem] theorem afN:aL F.round_MulUp [[.o 0 [],.o 2 [],.o 0 []],[.o 0 [],.o 2 [],.o 0 []],[]]:=au (by kernel_rfl)
@[go_sem] theorem Ng:aM F.round_MulUp []:=av (by kernel_rfl)
@[go_sem] theorem acy:aP F.round_MulUp:=az Ng
@[go_sem] theorem FA:aN F.round_MulUp false:=ax (by kernel_rfl)
theorem FB:ah.C F.interval_Power=some dD:=by kernel_rfl
theorem FC:ah.E F.interval_Power=none:=by kernel_rfl
@[go_sem] theorem abl:aL F.interval_Power [[.o 0 [],.o 2 [],.o 0 [],.o 0 [],.o 2 [],.o 0 [],.o 0 []],[],[]]:=au (by kernel_rfl)
@[go_sem] theorem FE:aM F.interval_Power []:=av (by kernel_rfl)
@[go_sem] theorem Yl:aP F.interval_Power:=az FE
@[go_sem] theorem AY:aN F.interval_Power false:=ax (by kernel_rfl)
theorem Nh:ah.C F.poly_Degree=some kF:=by kernel_rfl
theorem Ni:ah.E F.poly_Degree=none:=by kernel_rfl
@[go_sem] theorem afO:aL F.poly_Degree [[.o 0 [],.o 5 [.o 2 [],.o 0 [],.o 2 [],.o 0 []]]]:=au (by kernel_rfl)
@[go_sem] theorem Nj:aM F.poly_Degree []:=av (by kernel_rfl)
@[go_sem] theorem acz:aP F.poly_Degree:=az Nj
@[go_sem] theorem FF:aN F.poly_Degree false:=ax (by kernel_rfl)
theorem w7:ah.C F.slices_Index_int_int_=some jj:=by kernel_rfl
theorem w9:ah.E F.slices_Index_int_int_=none:=by kernel_rfl
@[go_sem] theorem Qz:aL F.slices_Index_int_int_ [[.o 2 []],[]]:=au (by kernel_rfl)
@[go_sem] theorem xc:aM F.slices_Index_int_int_ []:=av (by kernel_rfl)
@[go_sem] theorem Nk:aP F.slices_Index_int_int_:=az xc
@[go_sem] theorem uq:aN F.slices_Index_int_int_ false:=ax (by kernel_rfl)
theorem kS:ah.C F.slices_Repeat_api_Interval_api_Interval_=some cZ:=by kernel_rfl
theorem kT:ah.E F.slices_Repeat_api_Interval_api_Interval_=none:=by kernel_rfl
@[go_sem] theorem yq:aL F.slices_Repeat_api_Interval_api_Interval_ [[.o 8 [.o 0 [],.o 2 [],.o 0 [],.o 0 [],.o 2 [],.o 0 [],.o 0 []]],[]]:=au (by kernel_rfl)
@[go_sem] theorem kU:aM F.slices_Repeat_api_Interval_api_Interval_ []:=av (by kernel_rfl)
@[go_sem] theorem xr:aP F.slices_Repeat_api_Interval_api_Interval_:=az kU
@[go_sem] theorem j5:aN F.slices_Repeat_api_Interval_api_Interval_ false:=ax (by kernel_rfl)
theorem DZ:ah.C F.bound_grid_step=some nD:=by kernel_rfl
theorem D0:ah.E F.bound_grid_step=none:=by kernel_rfl
@[go_sem] theorem B6:aL F.bound_grid_step []:=au (by kernel_rfl)
@[go_sem] theorem iq:aM F.bound_grid_step []:=av (by kernel_rfl)
@[go_sem] theorem W0:aP F.bound_grid_step:=az iq
@[go_sem] theorem rx:aN F.bound_grid_step true:=ax (by kernel_rfl)
theorem tE:ah.C F.bound_grid_lines=some ju:=by kernel_rfl
theorem tF:ah.E F.bound_grid_lines=none:=by kernel_rfl
@[go_sem] theorem rQ:aL F.bound_grid_lines []:=au (by kernel_rfl)
@[go_sem] theorem cU:aM F.bound_grid_lines []:=av (by kernel_rfl)
@[go_sem] theorem UG:aP F.bound_grid_lines:=az cU
@[go_sem] theorem gV:aN F.bound_grid_lines false:=ax (by kernel_rfl)
theorem AZ:ah.C F.bound_grid_unit_1=some lN:=by kernel_rfl
theorem A3:ah.E F.bound_grid_unit_1=none:=by kernel_rfl
@[go_sem] theorem zU:aL F.bound_grid_unit_1 []:=au (by kernel_rfl)
@[go_sem] theorem jw:aM F.bound_grid_unit_1 []:=av (by kernel_rfl)
@[go_sem] theorem TM:aP F.bound_grid_unit_1:=az jw
@[go_sem] theorem pD:aN F.bound_grid_unit_1 false:=ax (by kernel_rfl)
@[go_sem] theorem abm:aL F.bound_grid_add [[],[.o 0 [],.o 2 [],.o 0 [],.o 0 [],.o 2 [],.o 0 [],.o 0 []],[.o 0 [],.o 2 [],.o 0 [],.o 0 [],.o 2 [],.o 0 [],.o 0 []]]:=au (by kernel_rfl)
@[go_sem] theorem FG:aM F.bound_grid_add []:=av (by kernel_rfl)
@[go_sem] theorem Ym:aP F.bound_grid_add:=az FG
@[go_sem] theorem Yn:aN F.bound_grid_add true:=ax (by kernel_rfl)
@[go_sem] theorem abn:aL F.bound_grid_mul [[],[.o 0 [],.o 2 [],.o 0 [],.o 0 [],.o 2 [],.o 0 [],.o 0 []],[.o 0 [],.o 2 [],.o 0 [],.o 0 [],.o 2 [],.o 0 [],.o 0 []]]:=au (by kernel_rfl)
@[go_sem] theorem FH:aM F.bound_grid_mul []:=av (by kernel_rfl)
@[go_sem] theorem Yo:aP F.bound_grid_mul:=az FH
@[go_sem] theorem Yp:aN F.bound_grid_mul true:=ax (by kernel_rfl)
theorem wu:ah.C F.bound_grid_bernstein_1=some iH:=by kernel_rfl
theorem wv:ah.E F.bound_grid_bernstein_1=none:=by kernel_rfl
@[go_sem] theorem uV:aL F.bound_grid_bernstein_1 []:=au (by kernel_rfl)
@[go_sem] theorem fQ:aM F.bound_grid_bernstein_1 []:=av (by kernel_rfl)
@[go_sem] theorem Mh:aP F.bound_grid_bernstein_1:=az fQ
@[go_sem] theorem ll:aN F.bound_grid_bernstein_1 false:=ax (by kernel_rfl)
@[go_sem] theorem aeO:aL F.interval_Div [[.o 0 [],.o 2 [],.o 0 [],.o 0 [],.o 2 [],.o 0 [],.o 0 []],[.o 0 [],.o 2 [],.o 0 [],.o 0 [],.o 2 [],.o 0 [],.o 0 []],[]]:=au (by kernel_rfl)
@[go_sem] theorem J8:aM F.interval_Div []:=av (by kernel_rfl)
@[go_sem] theorem abo:aP F.interval_Div:=az J8
@[go_sem] theorem abp:aN F.interval_Div false:=ax (by kernel_rfl)
theorem W7:ah.C F.r02_Sign=some py:=by kernel_rfl
theorem W8:ah.E F.r02_Sign=none:=by kernel_rfl
@[go_sem] theorem akv:aL F.r02_Sign [[.o 0 [],.o 2 [],.o 0 []]]:=au (by kernel_rfl)
@[go_sem] theorem W9:aM F.r02_Sign []:=av (by kernel_rfl)
@[go_sem] theorem ahP:aP F.r02_Sign:=az W9
@[go_sem] theorem Nl:aN F.r02_Sign false:=ax (by kernel_rfl)
theorem Zv:ah.C F.r02_Top=some uS:=by kernel_rfl
theorem Zw:ah.E F.r02_Top=none:=by kernel_rfl
@[go_sem] theorem aly:aL F.r02_Top [[.o 0 [],.o 2 [],.o 0 []]]:=au (by kernel_rfl)
@[go_sem] theorem Zx:aM F.r02_Top []:=av (by kernel_rfl)
@[go_sem] theorem aiK:aP F.r02_Top:=az Zx
@[go_sem] theorem QA:aN F.r02_Top false:=ax (by kernel_rfl)
theorem Zy:ah.C F.r02_Sum=some lO:=by kernel_rfl
theorem Zz:ah.E F.r02_Sum=none:=by kernel_rfl
@[go_sem] theorem alz:aL F.r02_Sum [[.o 0 [],.o 2 [],.o 0 []],[.o 0 [],.o 2 [],.o 0 []]]:=au (by kernel_rfl)
@[go_sem] theorem ZA:aM F.r02_Sum []:=av (by kernel_rfl)
@[go_sem] theorem aiL:aP F.r02_Sum:=az ZA
@[go_sem] theorem QB:aN F.r02_Sum false:=ax (by kernel_rfl)
theorem ZB:ah.C F.r02_Neg=some uT:=by kernel_rfl
theorem ZC:ah.E F.r02_Neg=none:=by kernel_rfl
@[go_sem] theorem alA:aL F.r02_Neg [[.o 0 [],.o 2 [],.o 0 []]]:=au (by kernel_rfl)
@[go_sem] theorem ZD:aM F.r02_Neg []:=av (by kernel_rfl)
@[go_sem] theorem aiM:aP F.r02_Neg:=az ZD
@[go_sem] theorem QC:aN F.r02_Neg false:=ax (by kernel_rfl)
theorem acA:ah.C F.r02_Of=some xq:=by kernel_rfl
theorem acB:ah.E F.r02_Of=none:=by kernel_rfl
@[go_sem] theorem anM:aL F.r02_Of [[],[.o 2 []],[]]:=au (by kernel_rfl)
@[go_sem] theorem acC:aM F.r02_Of []:=av (by kernel_rfl)
@[go_sem] theorem akw:aP F.r02_Of:=az acC
@[go_sem] theorem TN:aN F.r02_Of false:=ax (by kernel_rfl)
theorem FI:ah.C F.dyadic_inRange=some eC:=by kernel_rfl
theorem FJ:ah.E F.dyadic_inRange=none:=by kernel_rfl
@[go_sem] theorem abq:aL F.dyadic_inRange [[.o 0 [],.o 2 [],.o 0 []]]:=au (by kernel_rfl)
@[go_sem] theorem FK:aM F.dyadic_inRange []:=av (by kernel_rfl)
@[go_sem] theorem Yq:aP F.dyadic_inRange:=az FK
@[go_sem] theorem A4:aN F.dyadic_inRange false:=ax (by kernel_rfl)
theorem QD:ah.C F.dyadic_Top=some mn:=by kernel_rfl
theorem QE:ah.E F.dyadic_Top=none:=by kernel_rfl
@[go_sem] theorem ahQ:aL F.dyadic_Top [[.o 0 [],.o 2 [],.o 0 []]]:=au (by kernel_rfl)
@[go_sem] theorem QF:aM F.dyadic_Top []:=av (by kernel_rfl)
@[go_sem] theorem aeP:aP F.dyadic_Top:=az QF
@[go_sem] theorem Ii:aN F.dyadic_Top false:=ax (by kernel_rfl)
theorem Nm:ah.C F.natural_Cmp=some kH:=by kernel_rfl
theorem Nn:ah.E F.natural_Cmp=none:=by kernel_rfl
@[go_sem] theorem afP:aL F.natural_Cmp [[.o 2 []],[.o 2 []]]:=au (by kernel_rfl)
@[go_sem] theorem No:aM F.natural_Cmp []:=av (by kernel_rfl)
@[go_sem] theorem acD:aP F.natural_Cmp:=az No
@[go_sem] theorem FL:aN F.natural_Cmp false:=ax (by kernel_rfl)
theorem FM:ah.C F.dyadic_shifted=some o7:=by kernel_rfl
theorem FN:ah.E F.dyadic_shifted=none:=by kernel_rfl
@[go_sem] theorem abr:aL F.dyadic_shifted [[.o 2 []],[]]:=au (by kernel_rfl)
@[go_sem] theorem FO:aM F.dyadic_shifted []:=av (by kernel_rfl)
@[go_sem] theorem Yr:aP F.dyadic_shifted:=az FO
@[go_sem] theorem A5:aN F.dyadic_shifted false:=ax (by kernel_rfl)
theorem B7:ah.C F.interval_Valid_1=some eM:=by kernel_rfl
theorem B8:ah.E F.interval_Valid_1=none:=by kernel_rfl
@[go_sem] theorem Ys:aL F.interval_Valid_1 [[.o 0 [],.o 2 [],.o 0 []]]:=au (by kernel_rfl)
@[go_sem] theorem B9:aM F.interval_Valid_1 []:=av (by kernel_rfl)
@[go_sem] theorem UH:aP F.interval_Valid_1:=az B9
@[go_sem] theorem yK:aN F.interval_Valid_1 false:=ax (by kernel_rfl)
theorem ry:ah.C F.slices_ContainsFunc_int_int_=some jy:=by kernel_rfl
theorem rz:ah.E F.slices_ContainsFunc_int_int_=none:=by kernel_rfl
@[go_sem] theorem GS:aL F.slices_ContainsFunc_int_int_ [[.o 2 []],[]]:=au (by kernel_rfl)
@[go_sem] theorem rA:aM F.slices_ContainsFunc_int_int_ []:=av (by kernel_rfl)
@[go_sem] theorem EH:aP F.slices_ContainsFunc_int_int_:=az rA
@[go_sem] theorem pE:aN F.slices_ContainsFunc_int_int_ false:=ax (by kernel_rfl)
theorem J9:ah.C F.poly_Valid_1=some mW:=by kernel_rfl
theorem Ka:ah.E F.poly_Valid_1=none:=by kernel_rfl
@[go_sem] theorem aeQ:aL F.poly_Valid_1 []:=au (by kernel_rfl)
@[go_sem] theorem yL:aM F.poly_Valid_1 []:=av (by kernel_rfl)
@[go_sem] theorem abt:aP F.poly_Valid_1:=az yL
@[go_sem] theorem D3:aN F.poly_Valid_1 false:=ax (by kernel_rfl)
theorem Np:ah.C F.poly_degree=some sk:=by kernel_rfl
theorem Nq:ah.E F.poly_degree=none:=by kernel_rfl
@[go_sem] theorem afQ:aL F.poly_degree [[.o 2 []]]:=au (by kernel_rfl)
@[go_sem] theorem Nr:aM F.poly_degree []:=av (by kernel_rfl)
@[go_sem] theorem acE:aP F.poly_degree:=az Nr
@[go_sem] theorem FP:aN F.poly_degree false:=ax (by kernel_rfl)
theorem QG:ah.C F.poly_order=some pO:=by kernel_rfl
theorem QH:ah.E F.poly_order=none:=by kernel_rfl
@[go_sem] theorem ahR:aL F.poly_order [[.o 2 []],[.o 2 []]]:=au (by kernel_rfl)
@[go_sem] theorem QI:aM F.poly_order []:=av (by kernel_rfl)
@[go_sem] theorem aeR:aP F.poly_order:=az QI
@[go_sem] theorem Ij:aN F.poly_order false:=ax (by kernel_rfl)
theorem QJ:ah.C F.dyadic_sum=some fY:=by kernel_rfl
theorem QK:ah.E F.dyadic_sum=none:=by kernel_rfl
@[go_sem] theorem ahS:aL F.dyadic_sum [[.o 0 [],.o 2 [],.o 0 []],[.o 0 [],.o 2 [],.o 0 []]]:=au (by kernel_rfl)
@[go_sem] theorem QL:aM F.dyadic_sum []:=av (by kernel_rfl)
@[go_sem] theorem aeS:aP F.dyadic_sum:=az QL
@[go_sem] theorem Ik:aN F.dyadic_sum false:=ax (by kernel_rfl)
theorem FQ:ah.C F.bound_domain_1=some kt:=by kernel_rfl
theorem FR:ah.E F.bound_domain_1=none:=by kernel_rfl
@[go_sem] theorem abu:aL F.bound_domain_1 [[.o 0 [],.o 2 [],.o 0 [],.o 0 [],.o 2 [],.o 0 [],.o 0 []]]:=au (by kernel_rfl)
@[go_sem] theorem ww:aM F.bound_domain_1 []:=av (by kernel_rfl)
@[go_sem] theorem Yt:aP F.bound_domain_1:=az ww
@[go_sem] theorem A6:aN F.bound_domain_1 false:=ax (by kernel_rfl)
theorem Ns:ah.C F.r02_compare=some oe:=by kernel_rfl
theorem Nt:ah.E F.r02_compare=none:=by kernel_rfl
@[go_sem] theorem afR:aL F.r02_compare [[.o 2 []],[.o 2 []]]:=au (by kernel_rfl)
@[go_sem] theorem Nu:aM F.r02_compare []:=av (by kernel_rfl)
@[go_sem] theorem acF:aP F.r02_compare:=az Nu
@[go_sem] theorem FS:aN F.r02_compare false:=ax (by kernel_rfl)
theorem iT:ah.C F.slices_BinarySearchFunc_api_Term_api_Term_Sint_=some cq:=by kernel_rfl
theorem iU:ah.E F.slices_BinarySearchFunc_api_Term_api_Term_Sint_=none:=by kernel_rfl
@[go_sem] theorem dJ:aL F.slices_BinarySearchFunc_api_Term_api_Term_Sint_ [[.o 5 [.o 2 [],.o 0 [],.o 2 [],.o 0 []]],[.o 2 []],[]]:=au (by kernel_rfl)
@[go_sem] theorem dR:aM F.slices_BinarySearchFunc_api_Term_api_Term_Sint_ [3,0,0]:=av (by kernel_rfl)
@[go_sem] theorem dz:aN F.slices_BinarySearchFunc_api_Term_api_Term_Sint_ false:=ax (by kernel_rfl)
theorem x9:ah.C F.poly_collector_add_1=some jD:=by kernel_rfl
theorem ya:ah.E F.poly_collector_add_1=none:=by kernel_rfl
@[go_sem] theorem S4:aL F.poly_collector_add_1 [[.o 2 [],.o 0 [],.o 2 [],.o 0 []],[.o 2 []]]:=au (by kernel_rfl)
@[go_sem] theorem yb:aM F.poly_collector_add_1 []:=av (by kernel_rfl)
@[go_sem] theorem OE:aP F.poly_collector_add_1:=az yb
@[go_sem] theorem uW:aN F.poly_collector_add_1 false:=ax (by kernel_rfl)
@[go_sem] theorem gW:aL F.slices_Insert_api_Term_api_Term_ [[],[],[.o 5 [.o 2 [],.o 0 [],.o 2 [],.o 0 []]]]:=au (by kernel_rfl)
@[go_sem] theorem ir:aM F.slices_Insert_api_Term_api_Term_ [2,0,0]:=av (by kernel_rfl)
@[go_sem] theorem gD:aN F.slices_Insert_api_Term_api_Term_ false:=ax (by kernel_rfl)
theorem Nv:ah.C F.poly_copied=some sn:=by kernel_rfl
theorem Nw:ah.E F.poly_copied=none:=by kernel_rfl
@[go_sem] theorem afS:aL F.poly_copied [[.o 0 [],.o 2 [],.o 0 []]]:=au (by kernel_rfl)
@[go_sem] theorem Nx:aM F.poly_copied []:=av (by kernel_rfl)
@[go_sem] theorem acG:aP F.poly_copied:=az Nx
@[go_sem] theorem FT:aN F.poly_copied false:=ax (by kernel_rfl)
theorem pj:ah.C F.slices_Delete_api_Term_api_Term_=some ef:=by kernel_rfl
theorem pk:ah.E F.slices_Delete_api_Term_api_Term_=none:=by kernel_rfl
@[go_sem] theorem oF:aL F.slices_Delete_api_Term_api_Term_ []:=au (by kernel_rfl)
@[go_sem] theorem pl:aM F.slices_Delete_api_Term_api_Term_ [2,0,0]:=av (by kernel_rfl)
@[go_sem] theorem gE:aN F.slices_Delete_api_Term_api_Term_ false:=ax (by kernel_rfl)
theorem Ny:ah.C F.round_round=some og:=by kernel_rfl
theorem Nz:ah.E F.round_round=none:=by kernel_rfl
@[go_sem] theorem afT:aL F.round_round [[.o 0 [],.o 2 [],.o 0 []],[],[]]:=au (by kernel_rfl)
@[go_sem] theorem NA:aM F.round_round []:=av (by kernel_rfl)
@[go_sem] theorem acH:aP F.round_round:=az NA
@[go_sem] theorem FU:aN F.round_round false:=ax (by kernel_rfl)
theorem ZE:ah.C F.r23_sum=some zM:=by kernel_rfl
theorem ZF:ah.E F.r23_sum=none:=by kernel_rfl
@[go_sem] theorem alB:aL F.r23_sum [[.o 2 []]]:=au (by kernel_rfl)
@[go_sem] theorem ZG:aM F.r23_sum []:=av (by kernel_rfl)
@[go_sem] theorem aiN:aP F.r23_sum:=az ZG
@[go_sem] theorem QM:aN F.r23_sum false:=ax (by kernel_rfl)
theorem EI:ah.C F.round_add=some jk:=by kernel_rfl
theorem EJ:ah.E F.round_add=none:=by kernel_rfl
@[go_sem] theorem aiO:aL F.round_add [[.o 0 [],.o 2 [],.o 0 []],[.o 0 [],.o 2 [],.o 0 []],[],[]]:=au (by kernel_rfl)
@[go_sem] theorem TO:aM F.round_add []:=av (by kernel_rfl)
@[go_sem] theorem afU:aP F.round_add:=az TO
@[go_sem] theorem yM:aN F.round_add false:=ax (by kernel_rfl)
theorem NB:ah.C F.dyadic_size=some so:=by kernel_rfl
theorem NC:ah.E F.dyadic_size=none:=by kernel_rfl
@[go_sem] theorem afV:aL F.dyadic_size [[.o 2 []]]:=au (by kernel_rfl)
@[go_sem] theorem ND:aM F.dyadic_size []:=av (by kernel_rfl)
@[go_sem] theorem acI:aP F.dyadic_size:=az ND
@[go_sem] theorem FV:aN F.dyadic_size false:=ax (by kernel_rfl)
theorem NE:ah.C F.natural_Mul=some oi:=by kernel_rfl
theorem NF:ah.E F.natural_Mul=none:=by kernel_rfl
@[go_sem] theorem afW:aL F.natural_Mul [[.o 2 []],[.o 2 []]]:=au (by kernel_rfl)
@[go_sem] theorem NG:aM F.natural_Mul []:=av (by kernel_rfl)
@[go_sem] theorem acJ:aP F.natural_Mul:=az NG
@[go_sem] theorem FW:aN F.natural_Mul false:=ax (by kernel_rfl)
theorem FX:ah.C F.dyadic_checked=some ku:=by kernel_rfl
theorem FY:ah.E F.dyadic_checked=none:=by kernel_rfl
@[go_sem] theorem abv:aL F.dyadic_checked [[.o 0 [],.o 2 [],.o 0 []]]:=au (by kernel_rfl)
@[go_sem] theorem FZ:aM F.dyadic_checked []:=av (by kernel_rfl)
@[go_sem] theorem Yu:aP F.dyadic_checked:=az FZ
@[go_sem] theorem A7:aN F.dyadic_checked false:=ax (by kernel_rfl)
theorem Ca:ah.C F.dyadic_canonical=some jv:=by kernel_rfl
theorem Cb:ah.E F.dyadic_canonical=none:=by kernel_rfl
@[go_sem] theorem Yv:aL F.dyadic_canonical [[],[.o 2 []],[]]:=au (by kernel_rfl)
@[go_sem] theorem Cc:aM F.dyadic_canonical []:=av (by kernel_rfl)
@[go_sem] theorem UI:aP F.dyadic_canonical:=az Cc
@[go_sem] theorem yN:aN F.dyadic_canonical false:=ax (by kernel_rfl)
theorem QN:ah.C F.dyadic_Neg=some mp:=by kernel_rfl
theorem QO:ah.E F.dyadic_Neg=none:=by kernel_rfl
@[go_sem] theorem ahT:aL F.dyadic_Neg [[.o 0 [],.o 2 [],.o 0 []]]:=au (by kernel_rfl)
@[go_sem] theorem QP:aM F.dyadic_Neg []:=av (by kernel_rfl)
@[go_sem] theorem aeT:aP F.dyadic_Neg:=az QP
@[go_sem] theorem Il:aN F.dyadic_Neg false:=ax (by kernel_rfl)
theorem TP:ah.C F.round_mul=some kJ:=by kernel_rfl
theorem TQ:ah.E F.round_mul=none:=by kernel_rfl
@[go_sem] theorem aiP:aL F.round_mul [[.o 0 [],.o 2 [],.o 0 []],[.o 0 [],.o 2 [],.o 0 []],[],[]]:=au (by kernel_rfl)
@[go_sem] theorem TR:aM F.round_mul []:=av (by kernel_rfl)
@[go_sem] theorem afX:aP F.round_mul:=az TR
@[go_sem] theorem Kb:aN F.round_mul false:=ax (by kernel_rfl)
theorem Kc:ah.C F.interval_Abs=some mX:=by kernel_rfl
theorem Kd:ah.E F.interval_Abs=none:=by kernel_rfl
@[go_sem] theorem aeU:aL F.interval_Abs [[.o 0 [],.o 2 [],.o 0 [],.o 0 [],.o 2 [],.o 0 [],.o 0 []]]:=au (by kernel_rfl)
@[go_sem] theorem Ke:aM F.interval_Abs []:=av (by kernel_rfl)
@[go_sem] theorem abw:aP F.interval_Abs:=az Ke
@[go_sem] theorem D4:aN F.interval_Abs false:=ax (by kernel_rfl)
theorem yO:ah.C F.interval_end=some jY:=by kernel_rfl
theorem yP:ah.E F.interval_end=none:=by kernel_rfl
@[go_sem] theorem aeV:aL F.interval_end [[.o 0 [],.o 2 [],.o 0 []],[],[],[]]:=au (by kernel_rfl)
@[go_sem] theorem Kf:aM F.interval_end []:=av (by kernel_rfl)
@[go_sem] theorem abx:aP F.interval_end:=az Kf
@[go_sem] theorem uF:aN F.interval_end false:=ax (by kernel_rfl)
@[go_sem] theorem akx:aL F.bits_Mul []:=au (by kernel_rfl)
@[go_sem] theorem Xa:aM F.bits_Mul []:=av (by kernel_rfl)
@[go_sem] theorem ahU:aP F.bits_Mul:=az Xa
@[go_sem] theorem ahV:aN F.bits_Mul false:=ax (by kernel_rfl)
theorem Im:ah.C F.interval_Sign=some jl:=by kernel_rfl
theorem In:ah.E F.interval_Sign=none:=by kernel_rfl
@[go_sem] theorem acK:aL F.interval_Sign [[.o 0 [],.o 2 [],.o 0 [],.o 0 [],.o 2 [],.o 0 [],.o 0 []]]:=au (by kernel_rfl)
@[go_sem] theorem Io:aM F.interval_Sign []:=av (by kernel_rfl)
@[go_sem] theorem ZH:aP F.interval_Sign:=az Io
@[go_sem] theorem Cd:aN F.interval_Sign false:=ax (by kernel_rfl)
theorem Xb:ah.C F.r02_left=some xQ:=by kernel_rfl
theorem Xc:ah.E F.r02_left=none:=by kernel_rfl
@[go_sem] theorem aky:aL F.r02_left [[.o 2 []],[]]:=au (by kernel_rfl)
@[go_sem] theorem Xd:aM F.r02_left []:=av (by kernel_rfl)
@[go_sem] theorem ahW:aP F.r02_left:=az Xd
@[go_sem] theorem NH:aN F.r02_left false:=ax (by kernel_rfl)
theorem Xe:ah.C F.r02_plus=some xR:=by kernel_rfl
theorem Xf:ah.E F.r02_plus=none:=by kernel_rfl
@[go_sem] theorem akz:aL F.r02_plus [[.o 2 []],[.o 2 []]]:=au (by kernel_rfl)
@[go_sem] theorem Xg:aM F.r02_plus []:=av (by kernel_rfl)
@[go_sem] theorem ahX:aP F.r02_plus:=az Xg
@[go_sem] theorem NI:aN F.r02_plus false:=ax (by kernel_rfl)
theorem TS:ah.C F.r02_minus=some wl:=by kernel_rfl
theorem TT:ah.E F.r02_minus=none:=by kernel_rfl
@[go_sem] theorem aiQ:aL F.r02_minus [[.o 2 []],[.o 2 []]]:=au (by kernel_rfl)
@[go_sem] theorem TU:aM F.r02_minus []:=av (by kernel_rfl)
@[go_sem] theorem afY:aP F.r02_minus:=az TU
@[go_sem] theorem Kg:aN F.r02_minus false:=ax (by kernel_rfl)
theorem Xh:ah.C F.r02_trim=some xS:=by kernel_rfl
theorem Xi:ah.E F.r02_trim=none:=by kernel_rfl
@[go_sem] theorem akA:aL F.r02_trim [[.o 2 []]]:=au (by kernel_rfl)
@[go_sem] theorem Xj:aM F.r02_trim []:=av (by kernel_rfl)
@[go_sem] theorem ahY:aP F.r02_trim:=az Xj
@[go_sem] theorem NJ:aN F.r02_trim false:=ax (by kernel_rfl)
theorem TV:ah.C F.r02_zeros=some wm:=by kernel_rfl
theorem TW:ah.E F.r02_zeros=none:=by kernel_rfl
@[go_sem] theorem aiR:aL F.r02_zeros [[.o 2 []]]:=au (by kernel_rfl)
@[go_sem] theorem TY:aM F.r02_zeros []:=av (by kernel_rfl)
@[go_sem] theorem afZ:aP F.r02_zeros:=az TY
@[go_sem] theorem Kh:aN F.r02_zeros false:=ax (by kernel_rfl)
theorem TZ:ah.C F.r02_right=some rj:=by kernel_rfl
theorem T0:ah.E F.r02_right=none:=by kernel_rfl
@[go_sem] theorem aiS:aL F.r02_right [[.o 2 []],[]]:=au (by kernel_rfl)
@[go_sem] theorem T1:aM F.r02_right []:=av (by kernel_rfl)
@[go_sem] theorem af0:aP F.r02_right:=az T1
@[go_sem] theorem Ki:aN F.r02_right false:=ax (by kernel_rfl)
theorem Kj:ah.C F.natural_trim=some rk:=by kernel_rfl
theorem Kk:ah.E F.natural_trim=none:=by kernel_rfl
@[go_sem] theorem aeW:aL F.natural_trim [[.o 2 []]]:=au (by kernel_rfl)
@[go_sem] theorem Kl:aM F.natural_trim []:=av (by kernel_rfl)
@[go_sem] theorem aby:aP F.natural_trim:=az Kl
@[go_sem] theorem D5:aN F.natural_trim false:=ax (by kernel_rfl)
theorem NK:ah.C F.natural_Shl=some iR:=by kernel_rfl
theorem NL:ah.E F.natural_Shl=none:=by kernel_rfl
@[go_sem] theorem af1:aL F.natural_Shl [[.o 2 []],[]]:=au (by kernel_rfl)
@[go_sem] theorem NM:aM F.natural_Shl []:=av (by kernel_rfl)
@[go_sem] theorem acL:aP F.natural_Shl:=az NM
@[go_sem] theorem F0:aN F.natural_Shl false:=ax (by kernel_rfl)
theorem tG:ah.C F.slices_IndexFunc_int_int_=some kK:=by kernel_rfl
theorem tH:ah.E F.slices_IndexFunc_int_int_=none:=by kernel_rfl
@[go_sem] theorem sD:aL F.slices_IndexFunc_int_int_ [[.o 2 []],[]]:=au (by kernel_rfl)
@[go_sem] theorem lq:aM F.slices_IndexFunc_int_int_ []:=av (by kernel_rfl)
@[go_sem] theorem Ip:aP F.slices_IndexFunc_int_int_:=az lq
@[go_sem] theorem rB:aN F.slices_IndexFunc_int_int_ false:=ax (by kernel_rfl)
theorem Ce:ah.C F.cmp_Compare_int_=some ge:=by kernel_rfl
theorem Cf:ah.E F.cmp_Compare_int_=none:=by kernel_rfl
@[go_sem] theorem Yw:aL F.cmp_Compare_int_ []:=au (by kernel_rfl)
@[go_sem] theorem Cg:aM F.cmp_Compare_int_ []:=av (by kernel_rfl)
@[go_sem] theorem UJ:aP F.cmp_Compare_int_:=az Cg
@[go_sem] theorem yQ:aN F.cmp_Compare_int_ false:=ax (by kernel_rfl)
theorem uX:ah.C F.slices_Compare_int_int_=some eX:=by kernel_rfl
theorem uY:ah.E F.slices_Compare_int_int_=none:=by kernel_rfl
@[go_sem] theorem NN:aL F.slices_Compare_int_int_ [[.o 2 []],[.o 2 []]]:=au (by kernel_rfl)
@[go_sem] theorem uZ:aM F.slices_Compare_int_int_ []:=av (by kernel_rfl)
@[go_sem] theorem Km:aP F.slices_Compare_int_int_:=az uZ
@[go_sem] theorem sE:aN F.slices_Compare_int_int_ false:=ax (by kernel_rfl)
theorem NO:ah.C F.natural_Add=some ov:=by kernel_rfl
theorem NP:ah.E F.natural_Add=none:=by kernel_rfl
@[go_sem] theorem af2:aL F.natural_Add [[.o 2 []],[.o 2 []]]:=au (by kernel_rfl)
@[go_sem] theorem NQ:aM F.natural_Add []:=av (by kernel_rfl)
@[go_sem] theorem acM:aP F.natural_Add:=az NQ
@[go_sem] theorem F1:aN F.natural_Add false:=ax (by kernel_rfl)
theorem NR:ah.C F.natural_Sub=some kL:=by kernel_rfl
theorem NS:ah.E F.natural_Sub=none:=by kernel_rfl
@[go_sem] theorem af3:aL F.natural_Sub [[.o 2 []],[.o 2 []]]:=au (by kernel_rfl)
@[go_sem] theorem NT:aM F.natural_Sub []:=av (by kernel_rfl)
@[go_sem] theorem acN:aP F.natural_Sub:=az NT
@[go_sem] theorem F3:aN F.natural_Sub false:=ax (by kernel_rfl)
theorem rM:ah.C F.slices_Clone_uint32_uint32_=some fN:=by kernel_rfl
theorem rN:ah.E F.slices_Clone_uint32_uint32_=none:=by kernel_rfl
@[go_sem] theorem Iq:aL F.slices_Clone_uint32_uint32_ [[.o 2 []]]:=au (by kernel_rfl)
@[go_sem] theorem rO:aM F.slices_Clone_uint32_uint32_ []:=av (by kernel_rfl)
@[go_sem] theorem F4:aP F.slices_Clone_uint32_uint32_:=az rO
@[go_sem] theorem qg:aN F.slices_Clone_uint32_uint32_ false:=ax (by kernel_rfl)
theorem NU:ah.C F.round_fault=some kM:=by kernel_rfl
theorem NV:ah.E F.round_fault=none:=by kernel_rfl
@[go_sem] theorem af4:aL F.round_fault [[],[.o 4 [.o 0 [],.o 2 [],.o 0 []]]]:=au (by kernel_rfl)
@[go_sem] theorem NW:aM F.round_fault []:=av (by kernel_rfl)
@[go_sem] theorem acO:aP F.round_fault:=az NW
@[go_sem] theorem F5:aN F.round_fault false:=ax (by kernel_rfl)
theorem Kn:ah.C F.round_signed=some j1:=by kernel_rfl
theorem Ko:ah.E F.round_signed=none:=by kernel_rfl
@[go_sem] theorem aeX:aL F.round_signed [[],[.o 2 [],.o 0 [],.o 0 []],[],[]]:=au (by kernel_rfl)
@[go_sem] theorem Kp:aM F.round_signed []:=av (by kernel_rfl)
@[go_sem] theorem abz:aP F.round_signed:=az Kp
@[go_sem] theorem D6:aN F.round_signed false:=ax (by kernel_rfl)
theorem Xk:ah.C F.round_of=some xU:=by kernel_rfl
theorem Xl:ah.E F.round_of=none:=by kernel_rfl
@[go_sem] theorem akB:aL F.round_of [[.o 0 [],.o 2 [],.o 0 []]]:=au (by kernel_rfl)
@[go_sem] theorem Xm:aM F.round_of []:=av (by kernel_rfl)
@[go_sem] theorem ahZ:aP F.round_of:=az Xm
@[go_sem] theorem NX:aN F.round_of false:=ax (by kernel_rfl)
theorem T2:ah.C F.round_sum=some kN:=by kernel_rfl
theorem T3:ah.E F.round_sum=none:=by kernel_rfl
@[go_sem] theorem aiT:aL F.round_sum [[.o 0 [],.o 2 [],.o 0 []],[.o 0 [],.o 2 [],.o 0 []],[]]:=au (by kernel_rfl)
@[go_sem] theorem T4:aM F.round_sum []:=av (by kernel_rfl)
@[go_sem] theorem af5:aP F.round_sum:=az T4
@[go_sem] theorem Kq:aN F.round_sum false:=ax (by kernel_rfl)
theorem Kr:ah.C F.natural_Bits=some mZ:=by kernel_rfl
theorem Ks:ah.E F.natural_Bits=none:=by kernel_rfl
@[go_sem] theorem aeY:aL F.natural_Bits [[.o 2 []]]:=au (by kernel_rfl)
@[go_sem] theorem Kt:aM F.natural_Bits []:=av (by kernel_rfl)
@[go_sem] theorem abA:aP F.natural_Bits:=az Kt
@[go_sem] theorem D7:aN F.natural_Bits false:=ax (by kernel_rfl)
theorem Ku:ah.C F.natural_long=some rm:=by kernel_rfl
theorem Kv:ah.E F.natural_long=none:=by kernel_rfl
@[go_sem] theorem aeZ:aL F.natural_long [[.o 2 [.o 2 []]]]:=au (by kernel_rfl)
@[go_sem] theorem Kw:aM F.natural_long []:=av (by kernel_rfl)
@[go_sem] theorem abB:aP F.natural_long:=az Kw
@[go_sem] theorem D8:aN F.natural_long false:=ax (by kernel_rfl)
theorem Kx:ah.C F.natural_done=some m5:=by kernel_rfl
theorem Ky:ah.E F.natural_done=none:=by kernel_rfl
@[go_sem] theorem ae0:aL F.natural_done [[.o 2 []]]:=au (by kernel_rfl)
@[go_sem] theorem Kz:aM F.natural_done []:=av (by kernel_rfl)
@[go_sem] theorem abC:aP F.natural_done:=az Kz
@[go_sem] theorem D9:aN F.natural_done false:=ax (by kernel_rfl)
theorem NY:ah.C F.natural_mul=some sw:=by kernel_rfl
theorem NZ:ah.E F.natural_mul=none:=by kernel_rfl
@[go_sem] theorem af6:aL F.natural_mul [[.o 2 []],[.o 2 []]]:=au (by kernel_rfl)
@[go_sem] theorem N0:aM F.natural_mul []:=av (by kernel_rfl)
@[go_sem] theorem acP:aP F.natural_mul:=az N0
@[go_sem] theorem F6:aN F.natural_mul false:=ax (by kernel_rfl)
theorem F7:ah.C F.dyadic_trimmed=some pd:=by kernel_rfl
theorem F8:ah.E F.dyadic_trimmed=none:=by kernel_rfl
@[go_sem] theorem abD:aL F.dyadic_trimmed [[.o 2 []]]:=au (by kernel_rfl)
@[go_sem] theorem F9:aM F.dyadic_trimmed []:=av (by kernel_rfl)
@[go_sem] theorem Yx:aP F.dyadic_trimmed:=az F9
@[go_sem] theorem A8:aN F.dyadic_trimmed false:=ax (by kernel_rfl)
theorem QQ:ah.C F.dyadic_low=some ui:=by kernel_rfl
theorem QR:ah.E F.dyadic_low=none:=by kernel_rfl
@[go_sem] theorem ah0:aL F.dyadic_low [[.o 2 []]]:=au (by kernel_rfl)
@[go_sem] theorem QS:aM F.dyadic_low []:=av (by kernel_rfl)
@[go_sem] theorem ae1:aP F.dyadic_low:=az QS
@[go_sem] theorem Ir:aN F.dyadic_low false:=ax (by kernel_rfl)
theorem N1:ah.C F.natural_Shr=some kO:=by kernel_rfl
theorem N2:ah.E F.natural_Shr=none:=by kernel_rfl
@[go_sem] theorem af7:aL F.natural_Shr [[.o 2 []],[]]:=au (by kernel_rfl)
@[go_sem] theorem N3:aM F.natural_Shr []:=av (by kernel_rfl)
@[go_sem] theorem acQ:aP F.natural_Shr:=az N3
@[go_sem] theorem Ga:aN F.natural_Shr false:=ax (by kernel_rfl)
theorem sF:ah.C F.slices_Clip_uint32_uint32_=some gb:=by kernel_rfl
theorem sG:ah.E F.slices_Clip_uint32_uint32_=none:=by kernel_rfl
@[go_sem] theorem Jk:aL F.slices_Clip_uint32_uint32_ [[.o 2 []]]:=au (by kernel_rfl)
@[go_sem] theorem sH:aM F.slices_Clip_uint32_uint32_ []:=av (by kernel_rfl)
@[go_sem] theorem GT:aP F.slices_Clip_uint32_uint32_:=az sH
@[go_sem] theorem qB:aN F.slices_Clip_uint32_uint32_ false:=ax (by kernel_rfl)
theorem KA:ah.C F.interval_Mig=some m7:=by kernel_rfl
theorem KB:ah.E F.interval_Mig=none:=by kernel_rfl
@[go_sem] theorem ae2:aL F.interval_Mig [[.o 0 [],.o 2 [],.o 0 [],.o 0 [],.o 2 [],.o 0 [],.o 0 []]]:=au (by kernel_rfl)
@[go_sem] theorem KC:aM F.interval_Mig []:=av (by kernel_rfl)
@[go_sem] theorem abE:aP F.interval_Mig:=az KC
@[go_sem] theorem Ea:aN F.interval_Mig false:=ax (by kernel_rfl)
theorem KD:ah.C F.interval_Mag=some rn:=by kernel_rfl
theorem KE:ah.E F.interval_Mag=none:=by kernel_rfl
@[go_sem] theorem ae3:aL F.interval_Mag [[.o 0 [],.o 2 [],.o 0 [],.o 0 [],.o 2 [],.o 0 [],.o 0 []]]:=au (by kernel_rfl)
@[go_sem] theorem KF:aM F.interval_Mag []:=av (by kernel_rfl)
@[go_sem] theorem abF:aP F.interval_Mag:=az KF
@[go_sem] theorem Eb:aN F.interval_Mag false:=ax (by kernel_rfl)
theorem wx:ah.C F.interval_power=some kv:=by kernel_rfl
theorem wz:ah.E F.interval_power=none:=by kernel_rfl
@[go_sem] theorem abG:aL F.interval_power [[.o 0 [],.o 2 [],.o 0 []],[],[],[],[]]:=au (by kernel_rfl)
@[go_sem] theorem Gb:aM F.interval_power []:=av (by kernel_rfl)
@[go_sem] theorem Yy:aP F.interval_power:=az Gb
@[go_sem] theorem rR:aN F.interval_power false:=ax (by kernel_rfl)
theorem N4:ah.C F.natural_shl=some sy:=by kernel_rfl
theorem N5:ah.E F.natural_shl=none:=by kernel_rfl
@[go_sem] theorem af8:aL F.natural_shl [[.o 2 []],[]]:=au (by kernel_rfl)
@[go_sem] theorem N6:aM F.natural_shl []:=av (by kernel_rfl)
@[go_sem] theorem acR:aP F.natural_shl:=az N6
@[go_sem] theorem Gc:aN F.natural_shl false:=ax (by kernel_rfl)
theorem Gd:ah.C F.cmp_isNaN_int_=some pe:=by kernel_rfl
theorem Ge:ah.E F.cmp_isNaN_int_=none:=by kernel_rfl
@[go_sem] theorem abH:aL F.cmp_isNaN_int_ []:=au (by kernel_rfl)
@[go_sem] theorem Gf:aM F.cmp_isNaN_int_ []:=av (by kernel_rfl)
@[go_sem] theorem Yz:aP F.cmp_isNaN_int_:=az Gf
@[go_sem] theorem A9:aN F.cmp_isNaN_int_ false:=ax (by kernel_rfl)
theorem N7:ah.C F.natural_add=some oB:=by kernel_rfl
theorem N8:ah.E F.natural_add=none:=by kernel_rfl
@[go_sem] theorem af9:aL F.natural_add [[.o 2 []],[.o 2 []]]:=au (by kernel_rfl)
@[go_sem] theorem N9:aM F.natural_add []:=av (by kernel_rfl)
@[go_sem] theorem acS:aP F.natural_add:=az N9
@[go_sem] theorem Gg:aN F.natural_add false:=ax (by kernel_rfl)
theorem Oa:ah.C F.natural_sub=some sz:=by kernel_rfl
theorem Oc:ah.E F.natural_sub=none:=by kernel_rfl
@[go_sem] theorem aga:aL F.natural_sub [[.o 2 []],[.o 2 []]]:=au (by kernel_rfl)
@[go_sem] theorem Od:aM F.natural_sub []:=av (by kernel_rfl)
@[go_sem] theorem acT:aP F.natural_sub:=az Od
@[go_sem] theorem Gh:aN F.natural_sub false:=ax (by kernel_rfl)
theorem Is:ah.C F.round_precise=some lT:=by kernel_rfl
theorem It:ah.E F.round_precise=none:=by kernel_rfl
@[go_sem] theorem acU:aL F.round_precise []:=au (by kernel_rfl)
@[go_sem] theorem Iu:aM F.round_precise []:=av (by kernel_rfl)
@[go_sem] theorem ZI:aP F.round_precise:=az Iu
@[go_sem] theorem Ch:aN F.round_precise false:=ax (by kernel_rfl)
theorem T5:ah.C F.round_cut=some nH:=by kernel_rfl
theorem T6:ah.E F.round_cut=none:=by kernel_rfl
@[go_sem] theorem aiU:aL F.round_cut [[.o 2 [],.o 0 [],.o 0 []],[],[]]:=au (by kernel_rfl)
@[go_sem] theorem T7:aM F.round_cut []:=av (by kernel_rfl)
@[go_sem] theorem agb:aP F.round_cut:=az T7
@[go_sem] theorem KG:aN F.round_cut false:=ax (by kernel_rfl)
theorem T8:ah.C F.round_shl=some wr:=by kernel_rfl
theorem T9:ah.E F.round_shl=none:=by kernel_rfl
@[go_sem] theorem aiV:aL F.round_shl [[.o 2 []],[]]:=au (by kernel_rfl)
@[go_sem] theorem Ua:aM F.round_shl []:=av (by kernel_rfl)
@[go_sem] theorem agc:aP F.round_shl:=az Ua
@[go_sem] theorem KH:aN F.round_shl false:=ax (by kernel_rfl)
theorem Ub:ah.C F.round_shr=some rq:=by kernel_rfl
theorem Uc:ah.E F.round_shr=none:=by kernel_rfl
@[go_sem] theorem aiW:aL F.round_shr [[.o 2 []],[]]:=au (by kernel_rfl)
@[go_sem] theorem Ud:aM F.round_shr []:=av (by kernel_rfl)
@[go_sem] theorem agd:aP F.round_shr:=az Ud
@[go_sem] theorem KI:aN F.round_shr false:=ax (by kernel_rfl)
theorem QT:ah.C F.bits_Len32=some jF:=by kernel_rfl
theorem QU:ah.E F.bits_Len32=none:=by kernel_rfl
@[go_sem] theorem ah1:aL F.bits_Len32 []:=au (by kernel_rfl)
@[go_sem] theorem QV:aM F.bits_Len32 []:=av (by kernel_rfl)
@[go_sem] theorem ae4:aP F.bits_Len32:=az QV
@[go_sem] theorem Iv:aN F.bits_Len32 false:=ax (by kernel_rfl)
theorem mM:ah.C F.slices_ContainsFunc_Suint32_Suint32_=some fZ:=by kernel_rfl
theorem mN:ah.E F.slices_ContainsFunc_Suint32_Suint32_=none:=by kernel_rfl
@[go_sem] theorem AK:aL F.slices_ContainsFunc_Suint32_Suint32_ [[.o 2 [.o 2 []]],[]]:=au (by kernel_rfl)
@[go_sem] theorem gh:aM F.slices_ContainsFunc_Suint32_Suint32_ []:=av (by kernel_rfl)
@[go_sem] theorem y9:aP F.slices_ContainsFunc_Suint32_Suint32_:=az gh
@[go_sem] theorem kZ:aN F.slices_ContainsFunc_Suint32_Suint32_ false:=ax (by kernel_rfl)
theorem Gi:ah.C F.natural_long_1=some pf:=by kernel_rfl
theorem Gj:ah.E F.natural_long_1=none:=by kernel_rfl
@[go_sem] theorem abI:aL F.natural_long_1 [[.o 2 []]]:=au (by kernel_rfl)
@[go_sem] theorem wA:aM F.natural_long_1 []:=av (by kernel_rfl)
@[go_sem] theorem YA:aP F.natural_long_1:=az wA
@[go_sem] theorem Ba:aN F.natural_long_1 false:=ax (by kernel_rfl)
@[go_sem] theorem S5:aL F.bits_TrailingZeros32 []:=au (by kernel_rfl)
@[go_sem] theorem yc:aM F.bits_TrailingZeros32 []:=av (by kernel_rfl)
@[go_sem] theorem OF:aP F.bits_TrailingZeros32:=az yc
@[go_sem] theorem OG:aN F.bits_TrailingZeros32 false:=ax (by kernel_rfl)
theorem Oe:ah.C F.natural_shr=some oC:=by kernel_rfl
theorem Of:ah.E F.natural_shr=none:=by kernel_rfl
@[go_sem] theorem age:aL F.natural_shr [[.o 2 []],[]]:=au (by kernel_rfl)
@[go_sem] theorem Og:aM F.natural_shr []:=av (by kernel_rfl)
@[go_sem] theorem acV:aP F.natural_shr:=az Og
@[go_sem] theorem Gk:aN F.natural_shr false:=ax (by kernel_rfl)
theorem QW:ah.C F.dyadic_Abs=some mr:=by kernel_rfl
theorem QX:ah.E F.dyadic_Abs=none:=by kernel_rfl
@[go_sem] theorem ah2:aL F.dyadic_Abs [[.o 0 [],.o 2 [],.o 0 []]]:=au (by kernel_rfl)
@[go_sem] theorem QY:aM F.dyadic_Abs []:=av (by kernel_rfl)
@[go_sem] theorem ae5:aP F.dyadic_Abs:=az QY
@[go_sem] theorem Iw:aN F.dyadic_Abs false:=ax (by kernel_rfl)
theorem QZ:ah.C F.bits_Add32=some uk:=by kernel_rfl
theorem Q0:ah.E F.bits_Add32=none:=by kernel_rfl
@[go_sem] theorem ah3:aL F.bits_Add32 []:=au (by kernel_rfl)
@[go_sem] theorem Q1:aM F.bits_Add32 []:=av (by kernel_rfl)
@[go_sem] theorem ae6:aP F.bits_Add32:=az Q1
@[go_sem] theorem Ix:aN F.bits_Add32 false:=ax (by kernel_rfl)
theorem Q2:ah.C F.bits_Sub32=some uo:=by kernel_rfl
theorem Q3:ah.E F.bits_Sub32=none:=by kernel_rfl
@[go_sem] theorem ah4:aL F.bits_Sub32 []:=au (by kernel_rfl)
@[go_sem] theorem Q4:aM F.bits_Sub32 []:=av (by kernel_rfl)
@[go_sem] theorem ae7:aP F.bits_Sub32:=az Q4
@[go_sem] theorem Iy:aN F.bits_Sub32 false:=ax (by kernel_rfl)
theorem Oh:ah.C F.dyadic_Make=some iS:=by kernel_rfl
theorem Oi:ah.E F.dyadic_Make=none:=by kernel_rfl
@[go_sem] theorem agf:aL F.dyadic_Make [[],[.o 2 []],[]]:=au (by kernel_rfl)
@[go_sem] theorem Oj:aM F.dyadic_Make []:=av (by kernel_rfl)
@[go_sem] theorem acW:aP F.dyadic_Make:=az Oj
@[go_sem] theorem Gl:aN F.dyadic_Make false:=ax (by kernel_rfl)
theorem oG:ah.C F.slices_IndexFunc_Suint32_Suint32_=some gO:=by kernel_rfl
theorem oH:ah.E F.slices_IndexFunc_Suint32_Suint32_=none:=by kernel_rfl
@[go_sem] theorem nJ:aL F.slices_IndexFunc_Suint32_Suint32_ [[.o 2 [.o 2 []]],[]]:=au (by kernel_rfl)
@[go_sem] theorem gX:aM F.slices_IndexFunc_Suint32_Suint32_ []:=av (by kernel_rfl)
@[go_sem] theorem Bb:aP F.slices_IndexFunc_Suint32_Suint32_:=az gX
@[go_sem] theorem mO:aN F.slices_IndexFunc_Suint32_Suint32_ false:=ax (by kernel_rfl)
theorem Ec:ah.C F.dyadic_exponent=some j3:=by kernel_rfl
theorem Ed:ah.E F.dyadic_exponent=none:=by kernel_rfl
@[go_sem] theorem ZJ:aL F.dyadic_exponent []:=au (by kernel_rfl)
@[go_sem] theorem Ee:aM F.dyadic_exponent []:=av (by kernel_rfl)
@[go_sem] theorem Xn:aP F.dyadic_exponent:=az Ee
@[go_sem] theorem zV:aN F.dyadic_exponent false:=ax (by kernel_rfl)
attribute [go_sem_proc ↓] reduceIte
attribute [go_sem_proc] Nat.reduceEqDiff
end Go.Ab
namespace Go.Ab
open Go Go.IntWalk
def aQ (m:List Nat):List (List AV):=m.map fun (x:Nat)=>[U (x:Int)]
def lm (m:List Nat):AV:=.sl 1 (aQ m)
theorem zW (m:List Nat):(aQ m).length=m.length:=by simp [aQ]
@[go_sem] theorem wB (l:List (List AV)):l.map (cX [])=l:=(List.map_congr_left (g:=fun c=>c) fun c _=>ace c).trans (List.map_id' _)
@[go_sem] theorem apc (hs m):eH hs (lm m)=lm m:=_root_.id rfl
@[go_sem] theorem anN (hs m):knownL hs (lm m)=true:=_root_.id rfl
@[go_sem] theorem alC (hs m):gp hs (lm m)=true:=_root_.id rfl
@[go_sem] theorem at1 (ks m):mQ ks (lm m)=lm m:=_root_.id rfl
@[go_sem] theorem ar9 (ks m):lw ks (lm m)=false:=_root_.id rfl
@[go_sem] theorem asa (ks m):xF ks (lm m)=false:=_root_.id rfl
@[go_sem] theorem at2 (m):ky false (lm m)=some (I (m.length:Nat)):=by simp [lm,ky,aQ]
@[go_sem] theorem asb (m k i):po 1 (lm m) (.v (.int k i))=bu (aQ m) i:=by simp [lm,po]
@[go_sem] theorem agh (k ss m):nrmV (.o (k+1) []::ss) (lm m)=lm m:=by simp [lm,nrmV,nrmL,wB]
@[go_sem] theorem apd (k cs ss m):nrmV (.o (k+1) [.o 0 cs]::ss) (lm m)=lm m:=by
 have:(aQ m).map (cX [.o 0 cs])=aQ m:=by
  refine (List.map_congr_left (g:=fun c=>c) fun c _=>?_).trans (List.map_id' _)
  cases c with
  | nil=>simp [cX]
  | cons a l=>simp [cX,nrmL]
 simp [lm,nrmV,nrmL,this]
@[go_sem] theorem asc (k m):nrmL (.o (k+1) []) (lm m)=lm m:=by simp [lm,nrmL,wB]
@[go_sem] theorem asd (h m):ni h (lm m)=some (lm m):=_root_.id rfl
@[go_sem] theorem ape (h m l):iD h (lm m::l)=(iD h l).bind fun q=>some (lm m::q):=_root_.id rfl
@[go_sem] theorem ase (m):bI (lm m)=[]:=_root_.id rfl
@[go_sem] theorem asf (m):dM (lm m)=[]:=_root_.id rfl
@[go_sem] theorem at3 (m):dat (lm m)=true:=_root_.id rfl
@[go_sem] theorem asg (m):aA (lm m)=true:=_root_.id rfl
@[go_sem] theorem apf (m):bd (lm m)=false:=_root_.id rfl
@[go_sem] theorem apg (m):eN (lm m)=some [lm m]:=_root_.id rfl
@[go_sem] theorem ash (h m):ey h (lm m)=some (lm m,h,[]):=_root_.id rfl
@[go_sem] theorem aph (h m):ct h 0 (lm m)=some (lm m,h,[]):=_root_.id rfl
@[go_sem] theorem api (id p m):sP id p (lm m)=lm m:=_root_.id rfl
@[go_sem] theorem apj (h d m):iG h d (some (lm m,[]))=if cV h (2000+8*d) 1=true then some (lm m,h,[]) else none:=acg h d 1 (aQ m)
@[go_sem] theorem at4 (m:List Nat):AV.sl 1 (aQ m)=lm m:=_root_.id rfl
@[go_sem] theorem apk (p:Nat→Bool) (a:Nat):gL (List.filter p [a])=true:=by
 simp only [List.filter]
 split <;> rfl
@[go_sem] theorem KJ (m:List Nat):(aQ m).length=m.length:=by simp [aQ]
@[go_sem] theorem at5:AV.sl 1 []=lm []:=_root_.id rfl
@[go_sem] theorem anO (cs ss):nrmV (.o 2 cs::ss) .emp=lm []:=by simp [nrmV,nrmL,lm,aQ]
@[go_sem] theorem anP (cs):nrmL (.o 2 cs) .emp=lm []:=by simp [nrmL,lm,aQ]
@[go_sem] theorem asi (k ss m):nrmV (.o (k+1) []::ss) (.sl 1 (aQ m))=lm m:=agh k ss m
@[go_sem] theorem apl (k ss m):nrmV (.o (k+1) []::ss) (.osl 1 (aQ m))=lm m:=by simp [lm,nrmV,nrmL,wB]
theorem bF {m:List Nat} {i:Int} {n:Nat} (hi:i=n) (h:n < m.length):bu (aQ m) i=some (.ipt [U (m.getD n 0:Nat)]):=by
 subst hi
 simp [bu,aQ,h]
theorem vA {m:List Nat} {n:Nat} (h:n < m.length):(aQ m)[n]?=some [U (m.getD n 0:Nat)]:=by
 simp [aQ,h]
theorem Q5 (m:List Nat) (n:Nat):(aQ m).take n=aQ (m.take n):=by simp [aQ,List.map_take]
theorem acX (m:List Nat) (n:Nat):(aQ m).drop n=aQ (m.drop n):=by simp [aQ,List.map_drop]
theorem u9 (m l:List Nat):aQ m++aQ l=aQ (m++l):=by simp [aQ]
theorem vB (m:List Nat) (n x:Nat):(aQ m).set n [U (x:Nat)]=aQ (m.set n x):=by simp [aQ,List.map_set]
theorem vC (n:Nat):List.replicate n [AV.v (.int .u32 0)]=aQ (List.replicate n 0):=by simp [aQ]
theorem Ci {m:List Nat} {lo hi:Option AV} {a b:Nat} (hlo:iW 0 b lo=some a) (hhi:iW m.length m.length hi=some b) (_hb:b≤m.length):eO 1 (lm m) lo hi none=some (lm ((m.drop a).take (b - a))):=by
 simp only [lm,eO,jA,zW,if_true,hhi,hlo,Option.bind_some,Option.map_some,Bd,Bool.false_eq_true,if_false,Q5,acX]
theorem Gm (d n:Nat):iW d n none=some d:=_root_.id rfl
theorem sI {d n:Nat} {k:IntKind} {i:Int} {a:Nat} (hi:i=a) (h:a≤n):iW d n (some (.v (.int k i)))=some a:=by
 subst hi
 simp [iW,h]
theorem aE {f:FuncId} {fd:FD} {args:List AV} {r:AV × List Ob} (hE:ah.E f=none) (hC:ah.C f=some fd) (hk:ah.md.keep f=false) (h1:args.length=fd.np)
  (hz:gq false fd.rs fd.res 0 (am R (aO false) fd.body (oT args) (fun _=>.dead))=some r):R f args []=some r:=by
 refine HF false hE hC hk h1 (Nat.zero_le _) ?_
 rw [WC]
 exact hz
end Go.Ab
namespace Go.Ab
open Go Go.IntWalk
set_option maxRecDepth 4000
def Dg (k:Nat) (g:Bool):Cmd:=.seq (.ops [0,1,7,8,9] [co 9 (.bin .lss (.t 8) (.t 7))]) (.seq (.cond (.t 9) (.skip) (.exit 0)) (.seq (.block 1 [0,1,7,8] (.seq (.ops [0,1,5,7,8] [cm 10 8,cm 5 10]) (.seq (.ops [0,1,5,7,8,16] [cm 11 1,cm 12 0,cm 13 5,co 14 (.iadrS k (.t 12) (.t 13)),⟨(some 15),none,.load k g (.t 14)⟩,⟨(some 16),none,.call (.t 11) [(.t 15)]⟩]) (.cond (.t 16) (.seq (.ops [4] [cm 17 5,cm 4 17]) (.ret)) (.skip))))) (.ops [0,1,7,8] [co 18 (.bin .add (.t 8) (.c (.v (.int .i64 1)))),cm 8 18])))
def KL:Cmd:=.seq (.ops [4] [co 4 (.mv (.c (.v (.int .i64 (-1)))))]) (.ret)
def Cj {α:Type} (p:α→Bool):List α→Nat→Int
 | [],_=>-1
 | r::rs,n=>if p r=true then n else Cj p rs (n+1)
theorem Q6 {α:Type} (p:α→Bool):∀ (l:List α) (n:Nat),decide (0≤Cj p l n)=l.any p
 | [],n=>rfl
 | r::rs,n=>by
  simp only [Cj,List.any_cons]
  by_cases h:p r=true
  ·simp [h]
  ·simp [h,Q6 p rs (n+1)]
theorem acY {k:Nat} {g:Bool} {f:FuncId} {rows:List (List AV)} {p:List AV→Bool} (hm:(aO false).m f=[]) (hl:rows.length < 4611686018427387904)
  (hf:∀ row ∈ rows,∃ a,iu k g row 0=some a∧dat a=true∧R f (bg ((aO false).sh f) [a]) []=some (B (p row),[])):∀ (rest:List (List AV)) (n:Nat),rows.drop n=rest→n≤rows.length →
  ∀ (s:ag) (h:ab),s 0=.sl k rows→s 1=.fn f [] []→s 7=I rows.length→s 8=I n →
   bX (aB 0 [] (aD (am R (aO false) (Dg k g)) [0,1,7,8] [] s h)) (am R (aO false) KL)=some (.ret,⟨upd (fun _=>.any) 4 (I (Cj p rest n)),fun _=>.dead⟩):=by
 intro rest
 induction rest with
 | nil =>
  intro n hd hn s h h0 h1 h7 h8
  have e:n=rows.length:=by
   have:=congrArg List.length hd
   simp at this
   omega
  subst e
  rw [ao]
  generalize aD _ _ _=L
  simp only [Dg,KL,go_sem,h0,h1,h7,h8,Int.lt_irrefl,Cj]
 | cons r rest ih =>
  intro n hd hn s h h0 h1 h7 h8
  have hlt:n < rows.length:=by
   have:=congrArg List.length hd
   simp at this
   omega
  have hr:rows[n]?=some r:=by
   have:=congrArg (·[0]?) hd
   simpa using this
  obtain ⟨a,ha,hda,hc⟩:=hf r (List.mem_of_getElem? hr)
  have ih':=ih (n+1) (by rw [← List.drop_drop,hd]; rfl) hlt
  have e1:((n:Int) < (rows.length:Int))=True:=eq_true (by omega)
  have e2:bu rows (n:Int)=some (.ipt r):=by simp [bu,hr]
  have e3:IntKind.i64.wrap ((n:Int)+1)=((n+1:Nat):Int):=by rw [i64_in] <;> omega
  rw [ao]
  generalize aD _ _ _=L at ih' ⊢
  simp only [Dg,go_sem,h0,h1,h7,h8,e1,e2,ha,xj _ hm,hda,hc,auA,auz,Cj]
  cases hp:p r with
  | true=>simp only [go_sem]
  | false =>
   simp only [go_sem,e3]
   exact ih' _ _ rfl rfl rfl rfl
theorem Ck {fi:FuncId} {fd:FD} {k:Nat} {g:Bool} (hE:ah.E fi=none) (hC:ah.C fi=some fd) (hk:ah.md.keep fi=false)
  (hfd:fd=⟨2,[[]],[.t 4],.seq (.ops [0,1] [co 4 (.mv (.c (.v (.int .i64 0))))]) (.seq (.seq (.ops [0,1,7,8] [cm 6 0,co 7 (.len false (.t 6)),co 8 (.mv (.c (.v (.int .i64 0))))]) (.block 0 [] (.loop [0,1,7,8] [] (Dg k g)))) KL)⟩)
  {f:FuncId} {rows:List (List AV)} {p:List AV→Bool} (hm:(aO false).m f=[]) (hl:rows.length < 4611686018427387904)
  (hf:∀ row ∈ rows,∃ a,iu k g row 0=some a∧dat a=true∧R f (bg ((aO false).sh f) [a]) []=some (B (p row),[])):R fi [.sl k rows,.fn f [] []] []=some (I (Cj p rows 0),[]):=by
 subst hfd
 refine aE hE hC hk rfl ?_
 have hL:=acY (k:=k) (g:=g) hm hl hf rows 0 rfl (Nat.zero_le _)
 simp only [go_sem,akE]
 rw [hL _ _ (by simp only [go_sem]) (by simp only [go_sem]) (by simp only [go_sem]) (by simp only [go_sem]; rfl)]
 simp only [go_sem]
def ZK (fi:FuncId):FD:=⟨2,[[]],[.t 4],.seq (.ops [0,1] [co 4 (.mv (.c (.v (.bool false))))]) (.seq (.ops [4] [cm 5 0,cm 6 1,⟨(some 7),none,.call (.c (.fn fi [] [])) [(.t 5),(.t 6)]⟩,co 8 (.bin .geq (.t 7) (.c (.v (.int .i64 0)))),cm 4 8]) (.ret))⟩
theorem yR {ci fi:FuncId} {fd:FD} {k:Nat} (hE:ah.E ci=none) (hC:ah.C ci=some fd) (hk:ah.md.keep ci=false) (hfd:fd=ZK fi) (hm:(aO false).m fi=[]) {cs:List Sh} (hsh:(aO false).sh fi=[[.o (k+1) cs],[]])
  {rows:List (List AV)} {f:FuncId} {p:List AV→Bool} (hr:rows.map (cX cs)=rows) (h:R fi [.sl k rows,.fn f [] []] []=some (I (Cj p rows 0),[])):R ci [.sl k rows,.fn f [] []] []=some (B (rows.any p),[]):=by
 subst hfd
 refine aE hE hC hk rfl ?_
 simp only [ZK,go_sem,xj _ hm,hsh,hr,h,acd,Q6]
end Go.Ab
namespace Go.Ab
open Go Go.IntWalk
set_option maxRecDepth 4000
theorem gj {i:Int} {n:Nat} (h:i=n) (hn:n < 18446744073709551616):IntKind.u64.wrap i=n:=by rw [u64_in] <;> omega
theorem AL {i:Int} {n:Nat} (h:i=n) (hn:n < 4294967296):IntKind.u32.wrap i=n:=by rw [u32_in] <;> omega
theorem wi {i:Int} {n:Nat} (h:i=n) (hn:n < 9223372036854775808):IntKind.i64.wrap i=n:=by rw [i64_in] <;> omega
theorem KM {i:Int} {n:Nat} (h:i=n):IntKind.u32.wrap i=((n % 4294967296:Nat):Int):=by rw [IntKind.wrap_u32]; omega
theorem rC {i:Int} {n k:Nat} {kk:IntKind} {j:Int} (h:i=n) (hj:j=k) (hk:k≤64):dZ .shr (.v (.int .u64 i)) (.v (.int kk j))=some (.v (.int .u64 ((n / 2 ^ k:Nat):Int))):=by
 subst h hj
 rw [JA,if_neg (by omega)]
 have:min (k:Int).toNat IntKind.u64.bits=k:=by simp [IntKind.bits]; omega
 rw [this]
 simp only [Option.some.injEq,AV.v.injEq,Value.int.injEq,true_and]
 rw [Int.fdiv_eq_ediv_of_nonneg _ (Int.pow_nonneg (by omega))]
 simp
theorem Q7 {x y c:Nat} (hx:x < 4294967296) (hy:y < 4294967296) (hc:c≤1):R F.bits_Add32 [U x,U y,U c] []=some (.tup [U (((x+y+c) % 4294967296:Nat)),U (((x+y+c) / 4294967296:Nat))],[]):=by
 refine aE Q0 QZ (Ix false) rfl ?_
 have e1:IntKind.u64.wrap (x:Int)=x:=gj rfl (by omega)
 have e2:IntKind.u64.wrap (y:Int)=y:=gj rfl (by omega)
 have e3:IntKind.u64.wrap (c:Int)=c:=gj rfl (by omega)
 have e4:IntKind.u64.wrap ((x:Int)+y)=((x+y:Nat):Int):=gj (by omega) (by omega)
 have e5:IntKind.u64.wrap (((x+y:Nat):Int)+c)=((x+y+c:Nat):Int):=gj (by omega) (by omega)
 have e6:IntKind.u32.wrap ((x+y+c:Nat):Int)=(((x+y+c) % 4294967296:Nat):Int):=KM rfl
 have e7:=rC (n:=x+y+c) (k:=32) (kk:=.u64) (j:=32) rfl rfl (by omega)
 have e8:IntKind.u32.wrap (((x+y+c) / 2 ^ 32:Nat):Int)=(((x+y+c) / 4294967296:Nat):Int):=AL rfl (by omega)
 simp only [uk,BP,go_sem,e1,e2,e3,e4,e5,e6,e7,e8]
theorem agi {k:IntKind} {n:Int} (h:n ≠ 0):Bd (some (.v (.int k n)))=false:=by
 unfold Bd
 split
 ·rename_i h2; simp at h2; exact absurd h2.2 h
 ·rfl
theorem agj {m:List Nat} (h:m.length ≠ 0):eO 1 (lm m) none (some (I (m.length:Nat))) (some (I (m.length:Nat)))=some (lm m):=by
 have hz:Bd (some (I (m.length:Nat)))=false:=agi (by omega)
 have h1:iW m.length m.length (some (I (m.length:Nat)))=some m.length:=sI rfl (Nat.le_refl _)
 simp only [eO,lm,zW,jA,h1,Gm,hz,if_true,Option.bind_some,Option.map_some,Bool.false_eq_true,if_false,List.drop_zero,Nat.sub_zero,Q5,List.take_length]
theorem UK (m:List Nat):R F.slices_Clip_uint32_uint32_ [lm m] []=some (lm m,[]):=by
 refine aE sG sF (qB false) rfl ?_
 by_cases h:m.length=0
 ·have:m=[]:=List.length_eq_zero_iff.1 h
  subst this
  rfl
 ·simp only [gb,kP,go_sem,agj h]
theorem Mi (m:List Nat) (h2:m.length < 4611686018427387904):∀ (n:Nat),n≤m.length→∀ (s:ag) (h:ab),s 0=lm m→s 3=I n →
  aB 0 [0,3] (aD (am R (aO false) ip) [0,3] [] s h)=some (.normal,⟨upd (upd (fun _=>.any) 3 (I (iN m n))) 0 (lm m),fun _=>.dead⟩):=by
 intro n
 induction n with
 | zero =>
  intro h1 s h h3 h4
  rw [ao]
  simp only [ip,go_sem,h3,h4,iN,Int.natCast_zero,Int.lt_irrefl]
 | succ n ih =>
  intro h1 s h h3 h4
  have hn:n < m.length:=h1
  have e3:IntKind.i64.wrap ((n:Int)+1 - 1)=n:=wi (by omega) (by omega)
  have e1:bu (aQ m) (n:Int)=some (.ipt [U (m.getD n 0:Nat)]):=bF rfl hn
  have e2:((0:Int) < (n:Int)+1)=True:=eq_true (by omega)
  have ih':=ih (by omega)
  rw [ao]
  generalize aD _ _ _=L at ih' ⊢
  by_cases hz:m.getD n 0=0
  ·simp only [ip,go_sem,h3,h4,iN,Int.natCast_add,Int.natCast_one,e3,e1,e2,hz,Int.natCast_zero]
   exact ih' _ _ rfl rfl
  ·simp only [ip,go_sem,h3,h4,iN,Int.natCast_add,Int.natCast_one,e3,e1,e2,hz,Int.natCast_eq_zero]
theorem eg {m:List Nat} (hb:Lb m) (h:m.length < 4611686018427387904):R F.natural_trim [lm m] []=some (lm (aq (ac m)),[]):=by
 refine aE Kk Kj (D5 false) rfl ?_
 have h1:eO 1 (lm m) none (some (I (iN m m.length:Nat))) none=some (lm (aq (ac m))):=by
  rw [Ci (a:=0) (b:=iN m m.length) rfl (sI rfl (tD _ _)) (tD _ _),List.drop_zero,Nat.sub_zero,E7 hb]
 simp only [rk,yC,go_sem,Mi m h m.length (Nat.le_refl _),h1]
def llm (l:List (List Nat)):AV:=.sl 1 (l.map fun m=>[lm m])
theorem agk (l:List (List Nat)) (cs:List Sh):(l.map fun m=>[lm m]).map (cX [.o 2 cs])=l.map fun m=>[nrmL (.o 2 cs) (lm m)]:=by
 simp [List.map_map,cX]
theorem ZL (m:List Nat):R F.natural_long_1 [lm m] []=some (B (decide (256 < m.length)),[]):=by
 refine aE Gj Gi (Ba false) rfl ?_
 have e:decide ((256:Int) < (m.length:Int))=decide (256 < m.length):=by rw [decide_eq_decide]; omega
 simp only [pf,ws,go_sem,e]
theorem UL {l:List (List Nat)} (hl:l.length < 4611686018427387904):R F.natural_long [llm l] []=some (B (l.any fun m=>decide (256 < m.length)),[]):=by
 refine aE Kv Ku (D8 false) rfl ?_
 let p:List AV→Bool:=fun row=>match row with | [.sl _ rows]=>decide (256 < rows.length) | _=>false
 have hp:∀ m:List Nat,p [lm m]=decide (256 < m.length):=fun m=>by simp [p,lm,zW]
 have hn:(l.map fun m=>[lm m]).map (cX [.o 2 []])=l.map fun m=>[lm m]:=by
  rw [agk]
  simp only [go_sem]
 have h1:=Ck (k:=1) (g:=false) (f:=F.natural_long_1) (rows:=l.map fun m=>[lm m]) (p:=p) oH oG (mO false) rfl (wA false) (by simpa using hl) (fun row hr=>by
  simp only [List.mem_map] at hr
  obtain ⟨m,hm,rfl⟩:=hr
  refine ⟨lm m,rfl,rfl,?_⟩
  simp only [go_sem,ZL,hp])
 have h2:=yR (k:=1) mN mM (kZ false) rfl (gX false) (nJ false) hn h1
 have h3:(l.map fun m=>[lm m]).any p=l.any fun m=>decide (256 < m.length):=by
  rw [List.any_map]
  congr 1
  funext m
  exact hp m
 rw [h3] at h2
 simp only [rm,yD,llm,go_sem,xj _ (gh false),hn,h2]
end Go.Ab
namespace Go.Ab
open Go Go.IntWalk
set_option maxRecDepth 4000
theorem tt {p:Prop} (h:p):p=True:=eq_true h
theorem ff {p:Prop} (h:¬ p):p=False:=eq_false h
theorem lW (a:List Nat):R F.natural_long [.sl 1 [[lm a]]] []=some (B (decide (256 < a.length)),[]):=by
 have:=UL (l:=[a]) (by simp)
 simpa [llm] using this
theorem qh (a b:List Nat):R F.natural_long [.sl 1 [[lm a],[lm b]]] []=some (B (decide (256 < a.length) || decide (256 < b.length)),[]):=by
 have:=UL (l:=[a,b]) (by simp)
 simpa [llm] using this
def gI (n:Nat):AV:=if 256 < (aq n).length then .tup [lm [],I 9] else .tup [lm (aq n),I 0]
theorem yS {m:List Nat} (hb:Lb m) (h:m.length < 4611686018427387904):R F.natural_done [lm m] []=some (gI (ac m),[]):=by
 refine aE Ky Kx (D9 false) rfl ?_
 by_cases hl:256 < (aq (ac m)).length
 ·simp only [m5,sv,gI,go_sem,auA,auz,auB,auC,eg hb h,lW,hl]
 ·simp only [m5,sv,gI,go_sem,auA,auz,auB,auC,eg hb h,lW,hl,UK]
theorem AM {a:List Nat} {i:Nat} (h:i < a.length):ac (a.take (i+1))=ac (a.take i)+4294967296 ^ i*a.getD i 0:=by
 rw [List.take_add_one,fO]
 have:a[i]?.toList=[a.getD i 0]:=by simp [h]
 rw [this,List.length_take,Nat.min_eq_left (by omega)]
 simp [ac]
theorem Ue {a:List Nat} {i:Nat} (h:a.length≤i):ac (a.take (i+1))=ac (a.take i)+4294967296 ^ i*a.getD i 0:=by
 rw [List.take_of_length_le (by omega),List.take_of_length_le h]
 simp [List.getD_eq_getElem?_getD,List.getElem?_eq_none h]
theorem iO (a:List Nat) (i:Nat):ac (a.take (i+1))=ac (a.take i)+4294967296 ^ i*a.getD i 0:=by
 rcases Nat.lt_or_ge i a.length with h | h
 ·exact AM h
 ·exact Ue h
def UM (n i:Nat):Nat:=n / 4294967296 ^ i % 4294967296
theorem acZ {k n i:Nat} (h:i < k):(dy k n)[i]?=some (UM n i):=by
 induction k generalizing n i with
 | zero=>omega
 | succ k ih =>
  cases i with
  | zero=>simp [dy,UM]
  | succ i =>
   simp only [dy,List.getElem?_cons_succ]
   rw [ih (by omega)]
   simp only [UM,Nat.pow_succ,Nat.mul_comm _ 4294967296,Nat.div_div_eq_div_mul]
theorem Q8 {k n:Nat} {l:List Nat} (hl:l.length=k) (h:∀ i,i < k→l.getD i 0=UM n i):l=dy k n:=by
 refine List.ext_getElem? fun i=>?_
 rcases Nat.lt_or_ge i k with hi | hi
 ·rw [acZ hi]
  have:=h i hi
  rw [List.getD_eq_getElem?_getD,List.getElem?_eq_getElem (by omega)] at this
  rw [List.getElem?_eq_getElem (by omega)]
  exact congrArg some this
 ·rw [List.getElem?_eq_none (by omega),List.getElem?_eq_none (by rw [cr]; omega)]
def fu (a b:List Nat):Nat→Nat
 | 0=>0
 | i+1=>(a.getD i 0+b.getD i 0+fu a b i) / 4294967296
def wC (a b:List Nat) (i:Nat):Nat:=(a.getD i 0+b.getD i 0+fu a b i) % 4294967296
theorem yT {a b:List Nat} (ha:Lb a) (hb:Lb b):∀ i,fu a b i≤1
 | 0=>by simp [fu]
 | i+1=>by
  have h1:=cA ha i
  have h2:=cA hb i
  have h3:=yT ha hb i
  simp only [fu]
  omega
def dX (a b:List Nat) (i:Nat):List Nat:=(List.range i).map (wC a b)
theorem wD (f:Nat→Nat) (i:Nat):ac ((List.range (i+1)).map f)=ac ((List.range i).map f)+4294967296 ^ i*f i:=by
 rw [List.range_succ,List.map_append,fO]
 simp [ac]
theorem Gn (a b:List Nat):∀ i,ac (dX a b i)+4294967296 ^ i*fu a b i=ac (a.take i)+ac (b.take i)
 | 0=>by simp [dX,fu,ac]
 | i+1=>by
  have ih:=Gn a b i
  rw [iO a i,iO b i]
  simp only [dX] at ih ⊢
  rw [wD,Nat.pow_succ]
  have e:fu a b (i+1)*4294967296+wC a b i=a.getD i 0+b.getD i 0+fu a b i:=by
   simp only [fu,wC]
   omega
  have h1:4294967296 ^ i*4294967296*fu a b (i+1)+4294967296 ^ i*wC a b i=4294967296 ^ i*(a.getD i 0+b.getD i 0+fu a b i):=by
   rw [← e,Nat.mul_add,Nat.mul_assoc,Nat.mul_comm 4294967296]
  simp only [Nat.mul_add] at h1
  omega
theorem eR (a b:List Nat) (i:Nat):(dX a b i).length=i:=by simp [dX]
theorem UN (a b:List Nat) (i:Nat):Lb (dX a b i):=fun x hx=>by
 simp only [dX,List.mem_map] at hx
 obtain ⟨j,_,rfl⟩:=hx
 simp only [wC]
 omega
theorem ac0 {a b:List Nat} (ha:Lb a) (hb:Lb b) (hl:b.length≤a.length):dX a b a.length++[fu a b a.length]=dy (a.length+1) (ac a+ac b):=by
 have h:=Gn a b a.length
 rw [List.take_length,List.take_of_length_le hl] at h
 have h1:Lb (dX a b a.length++[fu a b a.length]):=nI.2 ⟨UN _ _ _,fU.2 ⟨by have:=yT ha hb a.length; omega,BT⟩⟩
 have h2:ac (dX a b a.length++[fu a b a.length])=ac a+ac b:=by
  rw [fO,eR]
  simp only [ac]
  omega
 rw [← h2]
 have:=zN h1
 simpa [eR] using this.symm
theorem wE {α:Type} (l:List α) (n:Nat) (x z:α) (h:0 < n):(l++List.replicate n z).set l.length x=(l++[x])++List.replicate (n - 1) z:=by
 obtain ⟨n,rfl⟩:∃ m,n=m+1:=⟨n - 1,by omega⟩
 rw [List.replicate_succ,List.set_append_right _ _ (Nat.le_refl _)]
 simp
theorem ac1 {a b:List Nat} (ha:Lb a) (hb:Lb b) (_hl:b.length≤a.length) (h2:a.length < 4611686018427387904):∀ (k i:Nat),i+k=a.length→∀ (s:ag) (h:ab),s 0=lm a→s 1=lm b→s 5=.rsl 20 none 1 0 (a.length+1)→s 6=U (fu a b i:Nat) →
  s 21=lm a→s 22=I (a.length:Nat)→s 23=I i→h 20=.ar 1 (aQ (dX a b i++List.replicate (k+1) 0)) →
  aB 0 [0,5,6] (aD (am R (aO false) gA) [0,1,5,6,21,22,23] [20] s h) =
   some (.normal,⟨upd (upd (upd (fun _=>.any) 6 (U (fu a b a.length:Nat))) 5 (.rsl 20 none 1 0 (a.length+1))) 0 (lm a),upd (fun _=>.dead) 20 (.ar 1 (aQ (dX a b a.length++[0])))⟩):=by
 intro k
 induction k with
 | zero =>
  intro i hi s h h0 h1 h5 h6 h21 h22 h23 hh
  have:i=a.length:=by omega
  subst this
  rw [ao]
  simp only [gA,go_sem,auz,h0,h1,h5,h6,h21,h22,h23,hh,Int.lt_irrefl,List.contains_cons,BEq.rfl,Bool.true_or]
 | succ k ih =>
  intro i hi s h h0 h1 h5 h6 h21 h22 h23 hh
  have ih':=ih (i+1) (by omega)
  have e1:((i:Int) < (a.length:Int))=True:=tt (by omega)
  have e2:bu (aQ a) (i:Int)=some (.ipt [U (a.getD i 0:Nat)]):=bF rfl (by omega)
  have e3:IntKind.i64.wrap ((i:Int)+1)=((i+1:Nat):Int):=wi (by omega) (by omega)
  have e4:(0≤(i:Int))=True:=tt (by omega)
  have e5:((i:Int) < ((a.length+1:Nat):Int))=True:=tt (by omega)
  have e6:=Q7 (cA ha i) (cA hb i) (yT ha hb i)
  have e7:(aQ (dX a b i++List.replicate (k+1+1) 0))[i]?=some [U (0:Nat)]:=by
   rw [vA (by simp [eR])]
   simp [List.getD_eq_getElem?_getD,eR]
  have e8:(aQ (dX a b i++List.replicate (k+1+1) 0)).set i [U ((a.getD i 0+b.getD i 0+fu a b i) % 4294967296:Nat)]=aQ (dX a b (i+1)++List.replicate (k+1) 0):=by
   rw [vB]
   have:=wE (dX a b i) (k+1+1) (wC a b i) 0 (by omega)
   rw [eR] at this
   rw [show (a.getD i 0+b.getD i 0+fu a b i) % 4294967296=wC a b i from rfl,this]
   simp [dX,List.range_succ]
  rw [ao]
  generalize aD _ _ _=L at ih' ⊢
  by_cases hb':i < b.length
  ·have e9:((i:Int) < (b.length:Int))=True:=tt (by omega)
   have e10:bu (aQ b) (i:Int)=some (.ipt [U (b.getD i 0:Nat)]):=bF rfl hb'
   simp only [gA,go_sem,auA,auz,auB,h0,h1,h5,h6,h21,h22,h23,hh,List.contains_cons,BEq.rfl,Bool.true_or,e1,e2,e3,e4,e5,e6,e7,e8,e9,e10,Int.toNat_natCast,Nat.zero_add]
   exact ih' _ _ rfl rfl rfl rfl rfl rfl rfl rfl
  ·have e9:((i:Int) < (b.length:Int))=False:=ff (by omega)
   have e10:b.getD i 0=0:=by simp [List.getD_eq_getElem?_getD,List.getElem?_eq_none (show b.length≤i from by omega)]
   have e6':=Q7 (cA ha i) (y:=0) (by omega) (yT ha hb i)
   simp only [Int.natCast_zero] at e6'
   have e8':(aQ (dX a b i++List.replicate (k+1+1) 0)).set i [U ((a.getD i 0+0+fu a b i) % 4294967296:Nat)]=aQ (dX a b (i+1)++List.replicate (k+1) 0):=by
    have e8':=e8
    rw [e10] at e8'
    exact e8'
   simp only [gA,go_sem,auA,auz,auB,h0,h1,h5,h6,h21,h22,h23,hh,List.contains_cons,BEq.rfl,Bool.true_or,e1,e2,e3,e4,e5,e7,e8',e9,Int.toNat_natCast,Nat.zero_add,e6']
   refine ih' _ _ rfl rfl rfl ?_ rfl rfl rfl rfl
   simp only [fu,e10]
   rfl
theorem nK {i j:Int} {l c:Nat} (hi:i=l) (hj:j=c) (h:l≤c) (hc:c < 9223372036854775808):lz (I i) (I j)=some (l,c):=by
 subst hi hj
 simp only [lz]
 rw [if_pos (by omega)]
 simp
def Gp:Cmd:=.seq (.ops [0,1,5] [cm 17 0,co 18 (.len false (.t 17)),co 19 (.bin .add (.t 18) (.c (.v (.int .i64 1)))),⟨(some 20),none,.mkSl 1 [(.v (.int .u32 0))] 4 (.t 19) (.t 19)⟩,cm 5 20]) (.seq (.ops [0,1,5,6] [co 6 (.mv (.c (.v (.int .u32 0))))]) (.seq (.seq (.ops [0,1,5,6,21,22,23] [cm 21 0,co 22 (.len false (.t 21)),co 23 (.mv (.c (.v (.int .i64 0))))]) (.block 0 [0,5,6] (.loop [0,1,5,6,21,22,23] [20] gA))) (.seq (.ops [5] [cm 47 5,cm 48 0,co 49 (.len false (.t 48)),cm 50 6,co 51 (.iadrS 1 (.t 47) (.t 49)),⟨none,none,.store 1 (.t 51) (.t 50)⟩]) (.seq (.ops [4] [cm 52 5,cm 4 52]) (.ret)))))
theorem Q9 {a b:List Nat} (ha:Lb a) (hb:Lb b) (hl:b.length≤a.length) (h2:a.length≤100000):∀ (s:ag),s 0=lm a→s 1=lm b →
  am R (aO false) Gp s (fun _=>.dead)=some (.ret,⟨upd (fun _=>.any) 4 (.rsl 20 none 1 0 (a.length+1)),upd (upd (fun _=>.dead) 20 (.ar 1 (aQ (dX a b a.length++[0])))) 20 (.ar 1 (aQ (dy (a.length+1) (ac a+ac b))))⟩):=by
 intro s h0 h1
 have e1:IntKind.i64.wrap ((a.length:Int)+1)=((a.length+1:Nat):Int):=wi (by omega) (by omega)
 have e2:=nK (i:=((a.length+1:Nat):Int)) (j:=((a.length+1:Nat):Int)) (l:=a.length+1) (c:=a.length+1) rfl rfl (Nat.le_refl _) (by omega)
 have e3:((a.length+1)*4≤140737488355328)=True:=tt (by omega)
 have e4:=ac1 ha hb hl (by omega) a.length 0 (by omega)
 have e5:aQ (List.replicate (a.length+1) 0)=aQ (dX a b 0++List.replicate (a.length+1) 0):=rfl
 have e6:(0≤(a.length:Int))=True:=tt (by omega)
 have e7:((a.length:Int) < ((a.length+1:Nat):Int))=True:=tt (by omega)
 have e8:(aQ (dX a b a.length++[0]))[a.length]?=some [U (0:Nat)]:=by
  rw [vA (by simp [eR])]
  simp [List.getD_eq_getElem?_getD,eR]
 have e9:(aQ (dX a b a.length++[0])).set a.length [U (fu a b a.length:Nat)]=aQ (dy (a.length+1) (ac a+ac b)):=by
  rw [vB]
  have:=wE (dX a b a.length) 1 (fu a b a.length) 0 (by omega)
  rw [eR] at this
  rw [show [0]=List.replicate 1 0 from rfl,this]
  simp only [Nat.sub_self,List.replicate_zero,List.append_nil]
  rw [ac0 ha hb hl]
 simp only [Gp,go_sem,h0,h1,e1,e2,e3,vC,e5]
 rw [e4 _ _ rfl rfl rfl rfl rfl rfl rfl rfl]
 simp only [go_sem,auB,e6,e7,e8,e9,Int.toNat_natCast,Nat.zero_add]
theorem Ra:AI=.seq (.ops [0,1] [co 4 (.mv (.c .emp))]) (.seq (.seq (.ops [0,1,14] [cm 10 0,co 11 (.len false (.t 10)),cm 12 1,co 13 (.len false (.t 12)),co 14 (.bin .lss (.t 11) (.t 13))]) (.cond (.t 14) (.ops [0,1] [cm 15 1,cm 16 0,cm 0 15,cm 1 16]) (.skip))) Gp):=rfl
theorem ZM {a b:List Nat} (ha:Lb a) (hb:Lb b) (h1:a.length≤100000) (h2:b.length≤100000):R F.natural_add [lm a,lm b] []=some (lm (dy (max a.length b.length+1) (ac a+ac b)),[]):=by
 refine aE N8 N7 (Gg false) rfl ?_
 by_cases h:a.length < b.length
 ·have e1:((a.length:Int) < (b.length:Int))=True:=tt (by omega)
  have e2:=Q9 hb ha (by omega) h2
  simp only [oB,Ra,go_sem,e1]
  rw [e2 _ rfl rfl]
  simp only [go_sem,auB,cr,Nat.zero_add,Nat.le_refl]
  rw [Nat.max_eq_right (by omega),Nat.add_comm (ac a)]
 ·have e1:((a.length:Int) < (b.length:Int))=False:=ff (by omega)
  have e2:=Q9 ha hb (by omega) h1
  simp only [oB,Ra,go_sem,e1]
  rw [e2 _ rfl rfl]
  simp only [go_sem,auB,cr,Nat.zero_add,Nat.le_refl]
  rw [Nat.max_eq_left (by omega)]
theorem ZN {a b:List Nat} (ha:Lb a) (hb:Lb b) (h1:a.length≤256) (h2:b.length≤256):R F.natural_Add [lm a,lm b] []=some (gI (ac a+ac b),[]):=by
 refine aE NP NO (F1 false) rfl ?_
 have e1:(256 < a.length)=False:=ff (by omega)
 have e2:(256 < b.length)=False:=ff (by omega)
 have e3:ac (dy (max a.length b.length+1) (ac a+ac b))=ac a+ac b:=by
  rw [lU,Nat.mod_eq_of_lt]
  have h1:=dI ha
  have h2:=dI hb
  have h3:4294967296 ^ a.length≤4294967296 ^ max a.length b.length:=Nat.pow_le_pow_right (by omega) (by omega)
  have h4:4294967296 ^ b.length≤4294967296 ^ max a.length b.length:=Nat.pow_le_pow_right (by omega) (by omega)
  rw [Nat.pow_succ]
  omega
 have e4:=yS (oE (max a.length b.length+1) (ac a+ac b)) (by rw [cr]; omega)
 rw [e3] at e4
 unfold gI at e4 ⊢
 by_cases hl:256 < (aq (ac a+ac b)).length
 ·simp only [hl,if_true] at e4 ⊢
  simp only [ov,ug,go_sem,auA,auz,auB,auC,e1,e2,qh,ZM ha hb (by omega) (by omega),e4]
 ·simp only [hl,if_false] at e4 ⊢
  simp only [ov,ug,go_sem,auA,auz,auB,auC,e1,e2,qh,ZM ha hb (by omega) (by omega),e4]
end Go.Ab
namespace Go.Ab
open Go Go.IntWalk
set_option maxRecDepth 4000
def bK (x y:Nat):Int:=if x < y then -1 else if y < x then 1 else 0
theorem oI {x y:Nat} (h:(aq x).length < (aq y).length):x < y:=by
 have h1:=jH x
 have hy:y ≠ 0:=by rintro rfl; rw [eE] at h; simp at h
 have h2:=Zh hy
 have h3:4294967296 ^ (aq x).length≤4294967296 ^ ((aq y).length - 1):=Nat.pow_le_pow_right (by omega) (by omega)
 omega
def mF:Cmd:=.seq (.ops [4] [co 4 (.mv (.c (.v (.int .i64 0))))]) (.ret)
theorem ac2 {a b:List Nat} (ha:Lb a) (hb:Lb b) (hl:a.length=b.length) (h2:a.length≤100000):∀ (k:Nat),k≤a.length→∀ (s:ag) (h:ab),s 0=lm a→s 1=lm b→s 5=I ((k:Int) - 1) →
  bX (aB 0 [] (aD (am R (aO false) fh) [0,1,5] [] s h)) (am R (aO false) mF)=some (.ret,⟨upd (fun _=>.any) 4 (I (bK (ac (a.take k)) (ac (b.take k)))),fun _=>.dead⟩):=by
 intro k
 induction k with
 | zero =>
  intro hk s h h0 h1 h5
  rw [ao]
  generalize aD _ _ _=L
  have e1:(0≤((0:Nat):Int) - 1)=False:=ff (by omega)
  have e2:bK (ac []) (ac [])=0:=rfl
  simp only [fh,mF,go_sem,h0,h1,h5,e1,e2]
 | succ k ih =>
  intro hk s h h0 h1 h5
  have ih':=ih (by omega)
  have e1:(0≤((k+1:Nat):Int) - 1)=True:=tt (by omega)
  have e2:bu (aQ a) (((k+1:Nat):Int) - 1)=some (.ipt [U (a.getD k 0:Nat)]):=bF (by omega) (by omega)
  have e3:bu (aQ b) (((k+1:Nat):Int) - 1)=some (.ipt [U (b.getD k 0:Nat)]):=bF (by omega) (by omega)
  have e4:IntKind.i64.wrap (((k+1:Nat):Int) - 1 - 1)=(k:Int) - 1:=by rw [i64_in] <;> omega
  have va:=iO a k
  have vb:=iO b k
  have la:=dI (qt ha k)
  have lb:=dI (qt hb k)
  rw [List.length_take,Nat.min_eq_left (by omega)] at la lb
  rw [ao]
  generalize aD _ _ _=L at ih' ⊢
  rcases Nat.lt_trichotomy (a.getD k 0) (b.getD k 0) with hlt | heq | hgt
  ·have e5:((a.getD k 0:Int) < (b.getD k 0:Int))=True:=tt (by omega)
   have e6:bK (ac (a.take (k+1))) (ac (b.take (k+1)))=-1:=by
    have:4294967296 ^ k*(a.getD k 0+1)≤4294967296 ^ k*b.getD k 0:=Nat.mul_le_mul_left _ hlt
    rw [Nat.mul_add] at this
    simp only [bK]
    rw [if_pos (by omega)]
   simp only [fh,mF,go_sem,h0,h1,h5,e1,e2,e3,e5,e6]
  ·have e5:((a.getD k 0:Int) < (b.getD k 0:Int))=False:=ff (by omega)
   have e7:((b.getD k 0:Int) < (a.getD k 0:Int))=False:=ff (by omega)
   have e6:bK (ac (a.take (k+1))) (ac (b.take (k+1)))=bK (ac (a.take k)) (ac (b.take k)):=by
    rw [va,vb,heq]
    simp only [bK]
    repeat' split
    all_goals first | rfl | omega
   simp only [fh,go_sem,h0,h1,h5,e1,e2,e3,e5,e6,e7,e4]
   exact ih' _ _ rfl rfl rfl
  ·have e5:((a.getD k 0:Int) < (b.getD k 0:Int))=False:=ff (by omega)
   have e7:((b.getD k 0:Int) < (a.getD k 0:Int))=True:=tt (by omega)
   have e6:bK (ac (a.take (k+1))) (ac (b.take (k+1)))=1:=by
    have:4294967296 ^ k*(b.getD k 0+1)≤4294967296 ^ k*a.getD k 0:=Nat.mul_le_mul_left _ hgt
    rw [Nat.mul_add] at this
    simp only [bK]
    rw [if_neg (by omega),if_pos (by omega)]
   simp only [fh,mF,go_sem,h0,h1,h5,e1,e2,e3,e5,e6,e7]
theorem Gq:AB=.seq (.ops [0,1] [co 4 (.mv (.c (.v (.int .i64 0))))]) (.seq (.ops [0,1] [cm 6 0,⟨(some 7),none,.call (.c (.fn F.natural_trim [] [])) [(.t 6)]⟩,cm 8 1,⟨(some 9),none,.call (.c (.fn F.natural_trim [] [])) [(.t 8)]⟩,cm 0 7,cm 1 9]) (.seq (.seq (.ops [0,1,14] [cm 10 0,co 11 (.len false (.t 10)),cm 12 1,co 13 (.len false (.t 12)),co 14 (.bin .neq (.t 11) (.t 13))]) (.cond (.t 14) (.seq (.seq (.ops [19] [cm 15 0,co 16 (.len false (.t 15)),cm 17 1,co 18 (.len false (.t 17)),co 19 (.bin .lss (.t 16) (.t 18))]) (.cond (.t 19) (.seq (.ops [4] [co 4 (.mv (.c (.v (.int .i64 (-1)))))]) (.ret)) (.skip))) (.seq (.ops [4] [co 4 (.mv (.c (.v (.int .i64 1))))]) (.ret))) (.skip))) (.seq (.seq (.ops [0,1,5] [cm 20 0,co 21 (.len false (.t 20)),co 22 (.bin .sub (.t 21) (.c (.v (.int .i64 1)))),cm 5 22]) (.block 0 [] (.loop [0,1,5] [] fh))) mF))):=rfl
theorem dK (m:List Nat) (h:Lb m):(aq (ac m)).length≤m.length:=hG (dI h)
theorem wF {a b:List Nat} (ha:Lb a) (hb:Lb b) (h1:a.length≤100000) (h2:b.length≤100000):R F.natural_Cmp [lm a,lm b] []=some (I (bK (ac a) (ac b)),[]):=by
 refine aE Nn Nm (FL false) rfl ?_
 have la:=dK a ha
 have lb:=dK b hb
 rcases Nat.lt_trichotomy (aq (ac a)).length (aq (ac b)).length with hlt | heq | hgt
 ·have e1:((aq (ac a)).length:Int)=((aq (ac b)).length:Int)↔False:=⟨fun h=>by omega,False.elim⟩
  have e2:(((aq (ac a)).length:Int) < ((aq (ac b)).length:Int))=True:=tt (by omega)
  have e3:bK (ac a) (ac b)=-1:=by simp [bK,oI hlt]
  simp only [kH,Gq,go_sem,auA,auz,eg ha (by omega),eg hb (by omega),e1,e2,e3]
 ·have e1:(((aq (ac a)).length:Int)=((aq (ac b)).length:Int))=True:=tt (by omega)
  have e2:IntKind.i64.wrap (((aq (ac b)).length:Int) - 1)=((aq (ac b)).length:Int) - 1:=by rw [i64_in] <;> omega
  have e3:=ac2 (bo (ac a)) (bo (ac b)) heq (by omega) (aq (ac a)).length (Nat.le_refl _)
  rw [List.take_length,heq,List.take_length,aW,aW] at e3
  simp only [kH,Gq,go_sem,auA,auz,eg ha (by omega),eg hb (by omega),heq,e2]
  rw [e3 _ _ rfl rfl rfl]
  simp only [go_sem]
 ·have e1:((aq (ac a)).length:Int)=((aq (ac b)).length:Int)↔False:=⟨fun h=>by omega,False.elim⟩
  have e2:(((aq (ac a)).length:Int) < ((aq (ac b)).length:Int))=False:=ff (by omega)
  have e3:bK (ac a) (ac b)=1:=by
   have:=oI hgt
   simp only [bK]
   rw [if_neg (by omega),if_pos this]
  simp only [kH,Gq,go_sem,auA,auz,eg ha (by omega),eg hb (by omega),e1,e2,e3]
theorem agl (v:BitVec 32):v.toNat / 2147483648=if v.msb=true then 1 else 0:=by
 have h:=v.isLt
 rw [BitVec.msb_eq_decide]
 split <;> rename_i h1 <;> simp at h1 <;> omega
theorem Xo {x y c:Nat} (hx:x < 4294967296) (hy:y < 4294967296) (hc:c≤1) (D:BitVec 32) (hD:D.toNat=(x+4294967296 - y - c) % 4294967296) :
  ((~~~(BitVec.ofNat 32 x) &&& BitVec.ofNat 32 y) ||| (~~~(BitVec.ofNat 32 x ^^^ BitVec.ofNat 32 y) &&& D)).toNat / 2147483648=if x < y+c then 1 else 0:=by
 rw [agl]
 have h1:(BitVec.ofNat 32 x).msb=decide (2147483648≤x):=by rw [BitVec.msb_eq_decide]; simp; omega
 have h2:(BitVec.ofNat 32 y).msb=decide (2147483648≤y):=by rw [BitVec.msb_eq_decide]; simp; omega
 have h3:D.msb=decide (2147483648≤(x+4294967296 - y - c) % 4294967296):=by rw [BitVec.msb_eq_decide,hD]
 rw [BitVec.msb_or,BitVec.msb_and,BitVec.msb_and,BitVec.msb_not,BitVec.msb_not,BitVec.msb_xor,h1,h2,h3]
 by_cases a1:2147483648≤x <;> by_cases a2:2147483648≤y <;> by_cases a3:x < y+c <;> simp [a1,a2,a3] <;> omega
theorem ofI (n:Nat):BitVec.ofInt 32 (n:Int)=BitVec.ofNat 32 n:=by simp
theorem apm (v:BitVec 32):IntKind.u32.wrap (v.toNat:Int)=(v.toNat:Int):=by
 have:=v.isLt
 rw [IntKind.wrap_u32]
 omega
theorem Rb {x y c:Nat} (hx:x < 4294967296) (hy:y < 4294967296) (hc:c≤1):R F.bits_Sub32 [U x,U y,U c] []=some (.tup [U (((x+4294967296 - y - c) % 4294967296:Nat)),U ((if x < y+c then 1 else 0:Nat))],[]):=by
 refine aE Q3 Q2 (Iy false) rfl ?_
 have e1:IntKind.u32.wrap ((x:Int) - y)=(((x+4294967296 - y) % 4294967296:Nat):Int):=by rw [IntKind.wrap_u32]; omega
 have e2:IntKind.u32.wrap ((((x+4294967296 - y) % 4294967296:Nat):Int) - c)=(((x+4294967296 - y - c) % 4294967296:Nat):Int):=by rw [IntKind.wrap_u32]; omega
 have b:IntKind.u32.bits=32:=rfl
 have e3:BitVec.ofInt 32 (if IntKind.u32.signed=true then (-1:Int) else IntKind.u32.max)=BitVec.allOnes 32:=by decide
 have e4:∀ v:BitVec 32,BitVec.allOnes 32 ^^^ v = ~~~v:=fun v=>BitVec.not_def.symm
 have e5:∀ v:BitVec 32,BitVec.ofNat 32 v.toNat=v:=fun v=>by simp
 have key:=Xo hx hy hc (BitVec.ofNat 32 ((x+4294967296 - y - c) % 4294967296)) (by simp)
 have sh:∀ v:BitVec 32,dZ .shr (.v (.int .u32 (v.toNat:Int))) (.v (.int .u64 31))=some (.v (.int .u32 ((v.toNat / 2147483648:Nat):Int))):=fun v=>by
  rw [JA,if_neg (by decide)]
  simp only [b,show min (31:Int).toNat 32=31 from rfl,Option.some.injEq,AV.v.injEq,Value.int.injEq,true_and]
  rw [Int.fdiv_eq_ediv_of_nonneg _ (by decide)]
  omega
 simp only [uo,BQ,go_sem,e1,e2,ofI,e3,e5,apm,sh]
 rw [← e4,← e4] at key
 exact congrArg (fun n:Nat=>some (AV.tup [AV.v (Value.int IntKind.u32 ((x+4294967296 - y - c) % 4294967296:Nat)),U (n:Int)],([]:List Ob))) key
def gY (a b:List Nat):Nat→Nat
 | 0=>0
 | i+1=>if a.getD i 0 < b.getD i 0+gY a b i then 1 else 0
def wG (a b:List Nat) (i:Nat):Nat:=(a.getD i 0+4294967296 - b.getD i 0 - gY a b i) % 4294967296
def fC (a b:List Nat) (i:Nat):List Nat:=(List.range i).map (wG a b)
theorem yU (a b:List Nat) (i:Nat):gY a b i≤1:=by
 cases i with
 | zero=>simp [gY]
 | succ i=>simp only [gY]; split <;> omega
theorem Rc {a b:List Nat} (ha:Lb a) (hb:Lb b):∀ i,ac (fC a b i)+ac (b.take i)=ac (a.take i)+4294967296 ^ i*gY a b i
 | 0=>by simp [fC,gY,ac]
 | i+1=>by
  have ih:=Rc ha hb i
  rw [iO a i,iO b i]
  simp only [fC] at ih ⊢
  rw [wD,Nat.pow_succ]
  have h1:=cA ha i
  have h2:=cA hb i
  have h3:=yU a b i
  have e:wG a b i+b.getD i 0+gY a b i=a.getD i 0+4294967296*gY a b (i+1):=by
   simp only [wG,gY]
   split <;> omega
  have h4:4294967296 ^ i*(wG a b i+b.getD i 0+gY a b i)=4294967296 ^ i*(a.getD i 0+4294967296*gY a b (i+1)):=by rw [e]
  simp only [Nat.mul_add] at h4
  rw [← Nat.mul_assoc] at h4
  omega
theorem kh (a b:List Nat) (i:Nat):(fC a b i).length=i:=by simp [fC]
theorem KN (a b:List Nat) (i:Nat):Lb (fC a b i):=fun x hx=>by
 simp only [fC,List.mem_map] at hx
 obtain ⟨j,_,rfl⟩:=hx
 simp only [wG]
 omega
theorem Re {a b:List Nat} (ha:Lb a) (hb:Lb b) (hl:b.length≤a.length) (hv:ac b≤ac a):fC a b a.length=dy a.length (ac a - ac b):=by
 have h:=Rc ha hb a.length
 rw [List.take_length,List.take_of_length_le hl] at h
 have h1:=dI (KN a b a.length)
 rw [kh] at h1
 have hz:gY a b a.length=0:=by
  have:=yU a b a.length
  rcases Nat.eq_zero_or_pos (gY a b a.length) with h0 | h0
  ·exact h0
  ·have:gY a b a.length=1:=by omega
   rw [this] at h
   omega
 rw [hz] at h
 have h2:=zN (KN a b a.length)
 rw [kh,show ac (fC a b a.length)=ac a - ac b from by omega] at h2
 exact h2.symm
theorem ac3 {a b:List Nat} (ha:Lb a) (hb:Lb b) (h2:a.length≤100000):∀ (k i:Nat),i+k=a.length→∀ (s:ag) (h:ab),s 1=lm b→s 5=.rsl 16 none 1 0 a.length→s 6=U (gY a b i:Nat) →
  s 17=lm a→s 18=I (a.length:Nat)→s 19=I i→h 16=.ar 1 (aQ (fC a b i++List.replicate k 0)) →
  aB 0 [5] (aD (am R (aO false) jn) [1,5,6,17,18,19] [16] s h) =
   some (.normal,⟨upd (fun _=>.any) 5 (.rsl 16 none 1 0 a.length),upd (fun _=>.dead) 16 (.ar 1 (aQ (fC a b a.length)))⟩):=by
 intro k
 induction k with
 | zero =>
  intro i hi s h h1 h5 h6 h17 h18 h19 hh
  have:i=a.length:=by omega
  subst this
  rw [ao]
  simp only [List.replicate_zero,List.append_nil] at hh
  simp only [jn,go_sem,auD,h1,h5,h6,h17,h18,h19,hh,Int.lt_irrefl]
 | succ k ih =>
  intro i hi s h h1 h5 h6 h17 h18 h19 hh
  have ih':=ih (i+1) (by omega)
  have e1:((i:Int) < (a.length:Int))=True:=tt (by omega)
  have e2:bu (aQ a) (i:Int)=some (.ipt [U (a.getD i 0:Nat)]):=bF rfl (by omega)
  have e3:IntKind.i64.wrap ((i:Int)+1)=((i+1:Nat):Int):=wi (by omega) (by omega)
  have e4:(0≤(i:Int))=True:=tt (by omega)
  have e7:(aQ (fC a b i++List.replicate (k+1) 0))[i]?=some [U (0:Nat)]:=by
   rw [vA (by simp [kh])]
   simp [List.getD_eq_getElem?_getD,kh]
  have e8:(aQ (fC a b i++List.replicate (k+1) 0)).set i [U ((a.getD i 0+4294967296 - b.getD i 0 - gY a b i) % 4294967296:Nat)]=aQ (fC a b (i+1)++List.replicate k 0):=by
   rw [vB]
   have:=wE (fC a b i) (k+1) (wG a b i) 0 (by omega)
   rw [kh] at this
   rw [show (a.getD i 0+4294967296 - b.getD i 0 - gY a b i) % 4294967296=wG a b i from rfl,this]
   simp [fC,List.range_succ]
  rw [ao]
  generalize aD _ _ _=L at ih' ⊢
  by_cases hb':i < b.length
  ·have e6:=Rb (cA ha i) (cA hb i) (yU a b i)
   have e9:((i:Int) < (b.length:Int))=True:=tt (by omega)
   have e10:bu (aQ b) (i:Int)=some (.ipt [U (b.getD i 0:Nat)]):=bF rfl hb'
   simp only [jn,go_sem,auA,auz,auB,auD,h1,h5,h6,h17,h18,h19,hh,e1,e2,e3,e4,e6,e7,e8,e9,e10,Int.toNat_natCast,Nat.zero_add]
   exact ih' _ _ rfl rfl rfl rfl rfl rfl rfl
  ·have e9:((i:Int) < (b.length:Int))=False:=ff (by omega)
   have e10:b.getD i 0=0:=by simp [List.getD_eq_getElem?_getD,List.getElem?_eq_none (show b.length≤i from by omega)]
   have e6':=Rb (cA ha i) (y:=0) (by omega) (yU a b i)
   simp only [Int.natCast_zero] at e6'
   have e8':(aQ (fC a b i++List.replicate (k+1) 0)).set i [U ((a.getD i 0+4294967296 - 0 - gY a b i) % 4294967296:Nat)]=aQ (fC a b (i+1)++List.replicate k 0):=by
    have e8':=e8
    rw [e10] at e8'
    exact e8'
   simp only [jn,go_sem,auA,auz,auB,auD,h1,h5,h6,h17,h18,h19,hh,e1,e2,e3,e4,e6',e7,e8',e9,Int.toNat_natCast,Nat.zero_add]
   refine ih' _ _ rfl rfl ?_ rfl rfl rfl rfl
   simp only [gY,e10,Nat.zero_add]
   rfl
theorem ZO {a b:List Nat} (ha:Lb a) (hb:Lb b) (h1:a.length≤100000) (h2:b.length≤100000) (hv:ac b≤ac a):R F.natural_sub [lm a,lm b] []=some (lm (dy (aq (ac a)).length (ac a - ac b)),[]):=by
 refine aE Oc Oa (Gh false) rfl ?_
 have la:=dK a ha
 have lb:(aq (ac b)).length≤(aq (ac a)).length:=by
  rcases Nat.lt_or_ge (aq (ac a)).length (aq (ac b)).length with h | h
  ·have:=oI h; omega
  ·exact h
 have e2:=nK (i:=((aq (ac a)).length:Int)) (j:=((aq (ac a)).length:Int)) rfl rfl (Nat.le_refl _) (by omega)
 have e3:((aq (ac a)).length*4≤140737488355328)=True:=tt (by omega)
 have e4:=ac3 (bo (ac a)) (bo (ac b)) (by omega) (aq (ac a)).length 0 (by omega)
 have e5:aQ (List.replicate (aq (ac a)).length 0)=aQ (fC (aq (ac a)) (aq (ac b)) 0++List.replicate (aq (ac a)).length 0):=rfl
 have e6:=Re (bo (ac a)) (bo (ac b)) lb (by rw [aW,aW]; exact hv)
 rw [aW,aW] at e6
 simp only [sz,AJ,go_sem,auA,auz,eg ha (by omega),eg hb (by omega),e2,e3,vC,e5]
 rw [e4 _ _ rfl rfl rfl rfl rfl rfl rfl]
 simp only [go_sem,auB,auC,e6,cr,Nat.zero_add,Nat.le_refl]
theorem ZP {a b:List Nat} (ha:Lb a) (hb:Lb b) (h1:a.length≤256) (h2:b.length≤256):R F.natural_Sub [lm a,lm b] []=some (if ac a < ac b then .tup [lm [],I 2] else gI (ac a - ac b),[]):=by
 refine aE NS NR (F3 false) rfl ?_
 have e1:(256 < a.length)=False:=ff (by omega)
 have e2:(256 < b.length)=False:=ff (by omega)
 by_cases hv:ac a < ac b
 ·have e3:bK (ac a) (ac b)=-1:=by simp [bK,hv]
  simp only [kL,pQ,go_sem,auA,auz,auB,auC,auE,e1,e2,qh,wF ha hb (by omega) (by omega),e3,hv]
 ·have e3:(bK (ac a) (ac b) < 0)=False:=ff (by simp only [bK]; split <;> (try split) <;> omega)
  have e5:ac (dy (aq (ac a)).length (ac a - ac b))=ac a - ac b:=by
   rw [lU,Nat.mod_eq_of_lt]
   have:=jH (ac a)
   omega
  have e4:=yS (oE (aq (ac a)).length (ac a - ac b)) (by rw [cr]; have:=dK a ha; omega)
  rw [e5] at e4
  unfold gI at e4 ⊢
  by_cases hl:256 < (aq (ac a - ac b)).length
  ·simp only [hl,if_true] at e4 ⊢
   simp only [kL,pQ,go_sem,auA,auz,auB,auC,e1,e2,qh,wF ha hb (by omega) (by omega),e3,hv,ZO ha hb (by omega) (by omega) (by omega),e4]
  ·simp only [hl,if_false] at e4 ⊢
   simp only [kL,pQ,go_sem,auA,auz,auB,auC,e1,e2,qh,wF ha hb (by omega) (by omega),e3,hv,ZO ha hb (by omega) (by omega) (by omega),e4]
end Go.Ab
namespace Go.Ab
open Go Go.IntWalk
set_option maxRecDepth 4000
def mi (x:Nat):Nat→List Nat→List Nat→List Nat × Nat
 | c,y::bs,o::s=>(((x*y+o+c) % 4294967296)::(mi x ((x*y+o+c) / 4294967296) bs s).1,(mi x ((x*y+o+c) / 4294967296) bs s).2)
 | c,_,s=>(s,c)
theorem ZQ (x:Nat):∀ (bs s r:List Nat) (c:Nat),bs.length≤s.length→mi x c bs (s++r)=((mi x c bs s).1++r,(mi x c bs s).2)
 | [],s,r,c,_=>by simp [mi]
 | y::bs,[],r,c,h=>by simp at h
 | y::bs,o::s,r,c,h=>by
  have ih:=ZQ x bs s r ((x*y+o+c) / 4294967296) (by simpa using h)
  simp only [List.cons_append,mi,ih]
theorem Cm (x:Nat):∀ (bs s:List Nat) (c:Nat),(mi x c bs s).1.length=s.length
 | [],s,c=>by simp [mi]
 | y::bs,[],c=>by simp [mi]
 | y::bs,o::s,c=>by simp [mi,Cm x bs s]
theorem ae9 (x:Nat):∀ (bs s:List Nat) (c:Nat),Lb s→Lb (mi x c bs s).1
 | [],s,c,h=>by simpa [mi] using h
 | y::bs,[],c,h=>by simpa [mi] using h
 | y::bs,o::s,c,h=>by
  simp only [mi]
  exact fU.2 ⟨by omega,ae9 x bs s _ (fU.1 h).2⟩
theorem ZR {x y o c:Nat} (hx:x < 4294967296) (hy:y < 4294967296) (ho:o < 4294967296) (hc:c < 4294967296):x*y+o+c < 18446744073709551616:=by
 have:x*y≤4294967295*4294967295:=Nat.mul_le_mul (by omega) (by omega)
 omega
theorem Gr {x:Nat} (hx:x < 4294967296):∀ (bs s:List Nat) (c:Nat),Lb bs→Lb s→c < 4294967296→(mi x c bs s).2 < 4294967296
 | [],s,c,_,_,hc=>by simpa [mi] using hc
 | y::bs,[],c,_,_,hc=>by simpa [mi] using hc
 | y::bs,o::s,c,hb,hs,hc=>by
  simp only [mi]
  have:=ZR hx (fU.1 hb).1 (fU.1 hs).1 hc
  exact Gr hx bs s _ (fU.1 hb).2 (fU.1 hs).2 (by omega)
theorem ZS (x:Nat):∀ (bs s:List Nat) (c:Nat),bs.length=s.length→ac (mi x c bs s).1+4294967296 ^ s.length*(mi x c bs s).2=ac s+x*ac bs+c
 | [],[],c,_=>by simp [mi,ac]
 | [],o::s,c,h=>by simp at h
 | y::bs,[],c,h=>by simp at h
 | y::bs,o::s,c,h=>by
  have ih:=ZS x bs s ((x*y+o+c) / 4294967296) (by simpa using h)
  simp only [mi,ac,List.length_cons,Nat.pow_succ]
  have e1:4294967296 ^ s.length*4294967296*(mi x ((x*y+o+c) / 4294967296) bs s).2=4294967296*(4294967296 ^ s.length*(mi x ((x*y+o+c) / 4294967296) bs s).2):=by
   rw [Nat.mul_comm (4294967296 ^ s.length) 4294967296,Nat.mul_assoc]
  have e2:x*(y+4294967296*ac bs)=x*y+4294967296*(x*ac bs):=by
   rw [Nat.mul_add]
   congr 1
   rw [← Nat.mul_assoc,Nat.mul_comm x,Nat.mul_assoc]
  rw [e1,e2]
  omega
theorem Xp {a b:List Nat} (hb:Lb b) {x i n:Nat} (hx:x < 4294967296) (h2:b.length≤100000) (hi:i≤100000):∀ (bs:List Nat) (k:Nat) (D S:List Nat) (c:Nat),b.drop k=bs→k≤b.length→D.length=i+k→bs.length≤S.length→(D++S).length=n→Lb S→c < 4294967296 →
  ∀ (s:ag) (h:ab),s 18=lm a→s 19=I (a.length:Nat)→s 20=I i→s 1=lm b→s 5=.rsl 17 none 1 0 n→s 6=I i→s 7=U x→s 8=W c→s 25=lm b→s 26=I (b.length:Nat)→s 27=I k→h 17=.ar 1 (aQ (D++S)) →
  aB 2 [1,5,6,8,18,19,20] (aD (am R (aO false) lQ) [1,5,6,7,8,18,19,20,25,26,27] [17] s h) =
   some (.normal,⟨upd (upd (upd (upd (upd (upd (upd (fun _=>.any) 20 (I i)) 19 (I (a.length:Nat))) 18 (lm a)) 8 (W ((mi x c bs S).2:Nat))) 6 (I i)) 5 (.rsl 17 none 1 0 n)) 1 (lm b),upd (fun _=>.dead) 17 (.ar 1 (aQ (D++(mi x c bs S).1)))⟩):=by
 intro bs
 induction bs with
 | nil =>
  intro k D S c hd hk hD hS hn hLS hc s h h18 h19 h20 h1 h5 h6 h7 h8 h25 h26 h27 hh
  have:k=b.length:=by
   have:=congrArg List.length hd
   simp at this
   omega
  subst this
  rw [ao]
  simp only [lQ,go_sem,auD,h18,h19,h20,h1,h5,h6,h7,h8,h25,h26,h27,hh,Int.lt_irrefl,mi]
 | cons y bs ih =>
  intro k D S c hd hk hD hS hn hLS hc s h h18 h19 h20 h1 h5 h6 h7 h8 h25 h26 h27 hh
  obtain ⟨o,S,rfl⟩:∃ o S',S=o::S':=by
   cases S with
   | nil=>simp at hS
   | cons o S=>exact ⟨o,S,rfl⟩
  have hlt:k < b.length:=by
   have:=congrArg List.length hd
   simp at this
   omega
  have hy:b.getD k 0=y:=by
   have:=congrArg (·[0]?) hd
   simp only [List.getElem?_drop,Nat.add_zero,List.getElem?_cons_zero] at this
   rw [List.getD_eq_getElem?_getD,this]
   rfl
  have hyb:y < 4294967296:=by rw [← hy]; exact cA hb k
  have hob:o < 4294967296:=(fU.1 hLS).1
  have hml:=ZR hx hyb hob hc
  have hxy:x*y < 18446744073709551616:=by omega
  have ih':=ih (k+1) (D++[(x*y+o+c) % 4294967296]) S ((x*y+o+c) / 4294967296) (by rw [← List.drop_drop,hd]; rfl) hlt (by simp [hD]; omega) (by simpa using hS) (by simpa using hn) (fU.1 hLS).2 (by omega)
  have e1:((k:Int) < (b.length:Int))=True:=tt (by omega)
  have e2:bu (aQ b) (k:Int)=some (.ipt [U (y:Nat)]):=by rw [bF rfl hlt,hy]
  have e3:IntKind.i64.wrap ((k:Int)+1)=((k+1:Nat):Int):=wi (by omega) (by omega)
  have e4:IntKind.i64.wrap ((i:Int)+(k:Int))=((i+k:Nat):Int):=wi (by omega) (by omega)
  have e5:(0≤((i+k:Nat):Int))=True:=tt (by omega)
  have hin:i+k < n:=by rw [← hn]; simp [hD]
  have e6:(((i+k:Nat):Int) < (n:Int))=True:=tt (by omega)
  have e7:(aQ (D++o::S))[i+k]?=some [U (o:Nat)]:=by
   rw [vA (by simp [hD])]
   simp [List.getD_eq_getElem?_getD,hD]
  have f1:IntKind.u64.wrap (x:Int)=x:=gj rfl (by omega)
  have f2:IntKind.u64.wrap (y:Int)=y:=gj rfl (by omega)
  have f3:IntKind.u64.wrap ((x:Int)*(y:Int))=((x*y:Nat):Int):=gj (by simp) hxy
  have f4:IntKind.u64.wrap (o:Int)=o:=gj rfl (by omega)
  have f5:IntKind.u64.wrap (((x*y:Nat):Int)+(o:Int))=((x*y+o:Nat):Int):=gj (by omega) (by omega)
  have f6:IntKind.u64.wrap (((x*y+o:Nat):Int)+(c:Int))=((x*y+o+c:Nat):Int):=gj (by omega) (by omega)
  have f7:IntKind.u32.wrap ((x*y+o+c:Nat):Int)=(((x*y+o+c) % 4294967296:Nat):Int):=KM rfl
  have f8:=rC (n:=x*y+o+c) (k:=32) (kk:=.u64) (j:=32) rfl rfl (by omega)
  have f9:(aQ (D++o::S)).set (i+k) [U ((x*y+o+c) % 4294967296:Nat)]=aQ (D++[(x*y+o+c) % 4294967296]++S):=by
   rw [vB,← hD,List.set_append_right _ _ (Nat.le_refl _)]
   simp
  rw [ao]
  generalize aD _ _ _=L at ih' ⊢
  simp only [lQ,go_sem,auB,auD,h18,h19,h20,h1,h5,h6,h7,h8,h25,h26,h27,hh,e1,e2,e3,e4,e5,e6,e7,f1,f2,f3,f4,f5,f6,f7,f8,f9,Int.toNat_natCast,Nat.zero_add,mi]
  rw [ih' _ _ rfl rfl rfl rfl rfl rfl rfl rfl rfl rfl rfl rfl]
  simp only [List.append_assoc,List.singleton_append]
def cp (a b:List Nat) (i:Nat):List Nat:=dy (i+b.length) (ac (a.take i)*ac b)
theorem ZT {a b:List Nat} (ha:Lb a) (hb:Lb b) {i:Nat} (hi:i < a.length) :
  (cp a b i).take i++((mi (a.getD i 0) 0 b ((cp a b i).drop i)).1++[(mi (a.getD i 0) 0 b ((cp a b i).drop i)).2])=cp a b (i+1):=by
 have hx:=cA ha i
 have hP:(cp a b i).length=i+b.length:=cr _ _
 have hLP:Lb (cp a b i):=oE _ _
 have hS:((cp a b i).drop i).length=b.length:=by simp [hP]
 have h1:=ZS (a.getD i 0) b ((cp a b i).drop i) 0 hS.symm
 have h2:=Gr hx b ((cp a b i).drop i) 0 hb (vr hLP i) (by omega)
 have h3:=ae9 (a.getD i 0) b ((cp a b i).drop i) 0 (vr hLP i)
 have h4:=Cm (a.getD i 0) b ((cp a b i).drop i) 0
 have hvP:ac (cp a b i)=ac (a.take i)*ac b:=by
  unfold cp
  rw [lU,Nat.mod_eq_of_lt]
  have e1:=dI (qt ha i)
  have e2:=dI hb
  rw [List.length_take,Nat.min_eq_left (by omega)] at e1
  rw [Nat.pow_add]
  exact Nat.mul_lt_mul'' e1 e2
 have hsplit:ac (cp a b i)=ac ((cp a b i).take i)+4294967296 ^ i*ac ((cp a b i).drop i):=by
  conv=>lhs; rw [← List.take_append_drop i (cp a b i)]
  rw [fO,List.length_take,hP,Nat.min_eq_left (by omega)]
 have hLb:Lb ((cp a b i).take i++((mi (a.getD i 0) 0 b ((cp a b i).drop i)).1++[(mi (a.getD i 0) 0 b ((cp a b i).drop i)).2])) :=
  nI.2 ⟨qt hLP i,nI.2 ⟨h3,fU.2 ⟨h2,BT⟩⟩⟩
 have hval:ac ((cp a b i).take i++((mi (a.getD i 0) 0 b ((cp a b i).drop i)).1++[(mi (a.getD i 0) 0 b ((cp a b i).drop i)).2]))=ac (a.take (i+1))*ac b:=by
  rw [fO,fO,List.length_take,hP,Nat.min_eq_left (by omega),h4,iO a i,Nat.add_mul,← hvP,hsplit]
  simp only [ac,Nat.mul_zero,Nat.add_zero] at h1 ⊢
  rw [h1,Nat.mul_add,Nat.mul_assoc]
  omega
 have hlen:((cp a b i).take i++((mi (a.getD i 0) 0 b ((cp a b i).drop i)).1++[(mi (a.getD i 0) 0 b ((cp a b i).drop i)).2])).length=i+1+b.length:=by
  simp only [List.length_append,List.length_take,hP,h4,hS,List.length_cons,List.length_nil]
  omega
 have:=zN hLb
 rw [hlen,hval] at this
 exact this.symm
theorem ac4 {a b:List Nat} (ha:Lb a) (hb:Lb b) (h1:a.length≤100000) (h2:b.length≤100000):∀ (k i:Nat),i+k=a.length→∀ (s:ag) (h:ab),s 1=lm b→s 5=.rsl 17 none 1 0 (a.length+b.length) →
  s 18=lm a→s 19=I (a.length:Nat)→s 20=I i→h 17=.ar 1 (aQ (cp a b i++List.replicate k 0)) →
  aB 0 [5] (aD (am R (aO false) lR) [1,5,18,19,20] [17] s h) =
   some (.normal,⟨upd (fun _=>.any) 5 (.rsl 17 none 1 0 (a.length+b.length)),upd (fun _=>.dead) 17 (.ar 1 (aQ (cp a b a.length)))⟩):=by
 intro k
 induction k with
 | zero =>
  intro i hi s h h1 h5 h18 h19 h20 hh
  have:i=a.length:=by omega
  subst this
  rw [ao]
  simp only [List.replicate_zero,List.append_nil] at hh
  simp only [lR,go_sem,auD,h1,h5,h18,h19,h20,hh,Int.lt_irrefl]
 | succ k ih =>
  intro i hi s h g1 h5 h18 h19 h20 hh
  have ih':=ih (i+1) (by omega)
  have hx:=cA ha i
  have hP:(cp a b i).length=i+b.length:=cr _ _
  have hLP:Lb (cp a b i):=oE _ _
  have hsp:cp a b i++List.replicate (k+1) 0=(cp a b i).take i++((cp a b i).drop i++List.replicate (k+1) 0):=by rw [← List.append_assoc,List.take_append_drop]
  have e1:((i:Int) < (a.length:Int))=True:=tt (by omega)
  have e2:bu (aQ a) (i:Int)=some (.ipt [U (a.getD i 0:Nat)]):=bF rfl (by omega)
  have e3:IntKind.i64.wrap ((i:Int)+1)=((i+1:Nat):Int):=wi (by omega) (by omega)
  have e4:IntKind.i64.wrap ((i:Int)+(b.length:Int))=((i+b.length:Nat):Int):=wi (by omega) (by omega)
  have e5:(0≤((i+b.length:Nat):Int))=True:=tt (by omega)
  have e6:(((i+b.length:Nat):Int) < ((a.length+b.length:Nat):Int))=True:=tt (by omega)
  have lp:=Xp (a:=a) hb (x:=a.getD i 0) (i:=i) (n:=a.length+b.length) hx h2 (by omega) b 0 ((cp a b i).take i) ((cp a b i).drop i++List.replicate (k+1) 0) 0 rfl (Nat.zero_le _) (by simp [hP]) (by simp [hP]) (by simp [hP]; omega)
   (nI.2 ⟨vr hLP i,fun y hy=>by rw [List.eq_of_mem_replicate hy]; omega⟩) (by omega)
  rw [ZQ _ _ _ _ _ (by simp [hP])] at lp
  have ml:(mi (a.getD i 0) 0 b ((cp a b i).drop i)).1.length=b.length:=by rw [Cm]; simp [hP]
  have mc:=Gr hx b ((cp a b i).drop i) 0 hb (vr hLP i) (by omega)
  have ps:=ZT ha hb (show i < a.length from by omega)
  rw [hsp] at hh
  generalize mi (a.getD i 0) 0 b ((cp a b i).drop i)=r at *
  have f1:IntKind.u32.wrap (r.2:Int)=(r.2:Int):=AL rfl mc
  have hlen:((cp a b i).take i++r.1).length=i+b.length:=by simp [hP,ml]
  have e7:(aQ ((cp a b i).take i++(r.1++List.replicate (k+1) 0)))[i+b.length]?=some [U (0:Nat)]:=by
   rw [← List.append_assoc,vA (by simp [hP,ml]),List.getD_eq_getElem?_getD,List.getElem?_append_right (by omega)]
   simp [hlen]
  have e8:(aQ ((cp a b i).take i++(r.1++List.replicate (k+1) 0))).set (i+b.length) [U (r.2:Nat)]=aQ (cp a b (i+1)++List.replicate k 0):=by
   rw [← List.append_assoc,vB]
   have:=wE ((cp a b i).take i++r.1) (k+1) r.2 0 (by omega)
   rw [hlen] at this
   have e:(cp a b i).take i++r.1++[r.2]=cp a b (i+1):=by rw [List.append_assoc]; exact ps
   rw [this,e]
   rfl
  rw [ao]
  generalize aD _ _ _=L at ih' ⊢
  simp only [lR,go_sem,auD,g1,h5,h18,h19,h20,hh,e1,e2]
  rw [lp _ _ rfl rfl rfl rfl rfl rfl rfl rfl rfl rfl rfl rfl]
  simp only [go_sem,auB,e3,e4,e5,e6,e7,e8,f1,Int.toNat_natCast,Nat.zero_add]
  exact ih' _ _ rfl rfl rfl rfl rfl rfl
theorem aiX {a b:List Nat} (ha:Lb a) (hb:Lb b) (h1:a.length≤100000) (h2:b.length≤100000):R F.natural_mul [lm a,lm b] []=some (lm (dy (a.length+b.length) (ac a*ac b)),[]):=by
 refine aE NZ NY (F6 false) rfl ?_
 have e1:IntKind.i64.wrap ((a.length:Int)+(b.length:Int))=((a.length+b.length:Nat):Int):=wi (by omega) (by omega)
 have e2:=nK (i:=((a.length+b.length:Nat):Int)) (j:=((a.length+b.length:Nat):Int)) rfl rfl (Nat.le_refl _) (by omega)
 have e3:((a.length+b.length)*4≤140737488355328)=True:=tt (by omega)
 have e4:=ac4 ha hb h1 h2 a.length 0 (by omega)
 have e0:cp a b 0=List.replicate b.length 0:=by
  have:∀ n,dy n 0=List.replicate n 0:=fun n=>by
   induction n with
   | zero=>rfl
   | succ n ih=>simp [dy,ih,List.replicate_succ]
  simp [cp,ac,this]
 have e5:aQ (List.replicate (a.length+b.length) 0)=aQ (cp a b 0++List.replicate a.length 0):=by
  rw [e0,List.replicate_append_replicate,Nat.add_comm]
 have e6:cp a b a.length=dy (a.length+b.length) (ac a*ac b):=by rw [cp,List.take_length]
 simp only [sw,AG,go_sem,e1,e2,e3,vC,e5]
 rw [e4 _ _ rfl rfl rfl rfl rfl rfl]
 simp only [go_sem,auB,auC,e6,cr,Nat.zero_add,Nat.le_refl]
theorem ZU {a b:List Nat} (ha:Lb a) (hb:Lb b) (h1:a.length≤256) (h2:b.length≤256):R F.natural_Mul [lm a,lm b] []=some (gI (ac a*ac b),[]):=by
 refine aE NF NE (FW false) rfl ?_
 have e1:(256 < a.length)=False:=ff (by omega)
 have e2:(256 < b.length)=False:=ff (by omega)
 have la:=dK a ha
 have lb:=dK b hb
 have e3:=aiX (bo (ac a)) (bo (ac b)) (by omega) (by omega)
 rw [aW,aW] at e3
 have e4:=yS (oE ((aq (ac a)).length+(aq (ac b)).length) (ac a*ac b)) (by rw [cr]; omega)
 rw [lU,Nat.mod_eq_of_lt (by rw [Nat.pow_add]; exact Nat.mul_lt_mul'' (jH _) (jH _))] at e4
 unfold gI at e4 ⊢
 by_cases hl:256 < (aq (ac a*ac b)).length
 ·simp only [hl,if_true] at e4 ⊢
  simp only [oi,ue,go_sem,auA,auz,auB,auC,e1,e2,qh,eg ha (by omega),eg hb (by omega),e3,e4]
 ·simp only [hl,if_false] at e4 ⊢
  simp only [oi,ue,go_sem,auA,auz,auB,auC,e1,e2,qh,eg ha (by omega),eg hb (by omega),e3,e4]
end Go.Ab
namespace Go.Ab
open Go Go.IntWalk
set_option maxRecDepth 4000
theorem vD {n m:Nat} {i j:Int} (hi:i=n) (hj:j=m) (hm:m ≠ 0):dZ .rem (.v (.int .i64 i)) (.v (.int .i64 j))=some (.v (.int .i64 ((n % m:Nat):Int))):=by
 subst hi hj
 rw [Uz,if_neg (by omega),Int.tmod_eq_emod_of_nonneg (by omega)]
 rfl
theorem vE {n m:Nat} {i j:Int} (hi:i=n) (hj:j=m) (hm:m ≠ 0) (hn:n < 9223372036854775808):dZ .quo (.v (.int .i64 i)) (.v (.int .i64 j))=some (.v (.int .i64 ((n / m:Nat):Int))):=by
 subst hi hj
 rw [afu,if_neg (by omega),Int.tdiv_eq_ediv_of_nonneg (by omega)]
 have:n / m≤n:=Nat.div_le_self _ _
 rw [wi (n:=n / m) (by simp) (by omega)]
theorem OH {n k:Nat} {i:Int} {kk:IntKind} {j:Int} (hi:i=n) (hj:j=k) (hk:k≤64) (h:n*2 ^ k < 18446744073709551616):dZ .shl (.v (.int .u64 i)) (.v (.int kk j))=some (.v (.int .u64 ((n*2 ^ k:Nat):Int))):=by
 subst hi hj
 rw [afv,if_neg (by omega)]
 have:min (k:Int).toNat IntKind.u64.bits=k:=by simp [IntKind.bits]; omega
 rw [this,gj (n:=n*2 ^ k) (by simp) h]
theorem Xq {m n:Nat} {i j:Int} (hi:i=m) (hj:j=n) (hm:m < 18446744073709551616) (hn:n < 18446744073709551616):dZ .or (.v (.int .u64 i)) (.v (.int .u64 j))=some (.v (.int .u64 ((m ||| n:Nat):Int))):=by
 subst hi hj
 rw [aiq]
 have e:(BitVec.ofInt IntKind.u64.bits (m:Int) ||| BitVec.ofInt IntKind.u64.bits (n:Int)).toNat=m ||| n:=by
  show (BitVec.ofInt 64 (m:Int) ||| BitVec.ofInt 64 (n:Int)).toNat=m ||| n
  rw [BitVec.toNat_or]
  simp
  rw [Nat.mod_eq_of_lt hm,Nat.mod_eq_of_lt hn]
 rw [e]
 rw [gj rfl (Nat.or_lt_two_pow (n:=64) hm hn)]
theorem Iz {x c k:Nat} (hc:c < 2 ^ k):x*2 ^ k ||| c=x*2 ^ k+c:=by
 have:=Nat.shiftLeft_add_eq_or_of_lt hc x
 rw [Nat.shiftLeft_eq] at this
 exact this.symm
def dS (a:List Nat) (r:Nat):Nat→Nat
 | 0=>0
 | i+1=>(a.getD i 0*2 ^ r+dS a r i) / 4294967296
def jz (a:List Nat) (r i:Nat):List Nat:=(List.range i).map fun j=>(a.getD j 0*2 ^ r+dS a r j) % 4294967296
theorem yV {a:List Nat} (ha:Lb a) {r:Nat}:∀ i,dS a r i < 2 ^ r
 | 0=>by simp only [dS]; exact Nat.two_pow_pos r
 | i+1=>by
  have ih:=yV ha (r:=r) i
  have:=cA ha i
  simp only [dS]
  rw [Nat.div_lt_iff_lt_mul (by omega)]
  have h1:a.getD i 0*2 ^ r+2 ^ r≤4294967296*2 ^ r:=by
   rw [← Nat.succ_mul]
   exact Nat.mul_le_mul_right _ (by omega)
  rw [Nat.mul_comm 4294967296] at h1
  omega
theorem oJ (a:List Nat) (r i:Nat):(jz a r i).length=i:=by simp [jz]
theorem aiY (a:List Nat) (r i:Nat):Lb (jz a r i):=fun x hx=>by
 simp only [jz,List.mem_map] at hx
 obtain ⟨j,_,rfl⟩:=hx
 omega
theorem UO (a:List Nat) (r:Nat):∀ i,ac (jz a r i)+4294967296 ^ i*dS a r i=ac (a.take i)*2 ^ r
 | 0=>by simp [jz,dS,ac]
 | i+1=>by
  have ih:=UO a r i
  rw [iO a i]
  simp only [jz] at ih ⊢
  rw [wD,Nat.pow_succ]
  have e:dS a r (i+1)*4294967296+(a.getD i 0*2 ^ r+dS a r i) % 4294967296=a.getD i 0*2 ^ r+dS a r i:=by
   simp only [dS]
   omega
  have h1:4294967296 ^ i*(dS a r (i+1)*4294967296+(a.getD i 0*2 ^ r+dS a r i) % 4294967296)=4294967296 ^ i*(a.getD i 0*2 ^ r+dS a r i):=by rw [e]
  simp only [Nat.mul_add] at h1
  have h2:4294967296 ^ i*4294967296*dS a r (i+1)=4294967296 ^ i*(dS a r (i+1)*4294967296):=by rw [Nat.mul_assoc,Nat.mul_comm 4294967296]
  have h3:(ac (a.take i)+4294967296 ^ i*a.getD i 0)*2 ^ r=ac (a.take i)*2 ^ r+4294967296 ^ i*(a.getD i 0*2 ^ r):=by rw [Nat.add_mul,Nat.mul_assoc]
  omega
theorem ac5 {a:List Nat} (ha:Lb a) {n q:Nat} (h1:a.length≤100000) (hq:q≤100000):∀ (k i:Nat),i+k=a.length→∀ (s:ag) (h:ab),s 1=I (n:Nat)→s 5=.rsl 20 none 1 0 (q+i)→s 6=W (dS a (n % 32) i:Nat)→s 21=lm a→s 22=I (a.length:Nat)→s 23=I i →
  h 20=.ar 1 (aQ (List.replicate q 0++jz a (n % 32) i))→h 38=.dead →
  aB 0 [5,6] (aD (am R (aO false) lS) [1,5,6,21,22,23] [20,38] s h) =
   some (.normal,⟨upd (upd (fun _=>.any) 6 (W (dS a (n % 32) a.length:Nat))) 5 (.rsl 20 none 1 0 (q+a.length)),upd (upd (fun _=>.dead) 38 .dead) 20 (.ar 1 (aQ (List.replicate q 0++jz a (n % 32) a.length)))⟩):=by
 intro k
 induction k with
 | zero =>
  intro i hi s h g1 h5 h6 h21 h22 h23 hh hh2
  have:i=a.length:=by omega
  subst this
  rw [ao]
  simp only [lS,go_sem,auD,g1,h5,h6,h21,h22,h23,hh,hh2,Int.lt_irrefl]
 | succ k ih =>
  intro i hi s h g1 h5 h6 h21 h22 h23 hh hh2
  have ih':=ih (i+1) (by omega)
  have hx:=cA ha i
  have hr:n % 32 < 32:=Nat.mod_lt _ (by omega)
  have hc:=yV ha (r:=n % 32) i
  have hp:2 ^ (n % 32)≤2 ^ 31:=Nat.pow_le_pow_right (by omega) (by omega)
  have hxp:a.getD i 0*2 ^ (n % 32)≤4294967295*2 ^ 31:=Nat.mul_le_mul (by omega) hp
  have e1:((i:Int) < (a.length:Int))=True:=tt (by omega)
  have e2:bu (aQ a) (i:Int)=some (.ipt [U (a.getD i 0:Nat)]):=bF rfl (by omega)
  have e3:IntKind.i64.wrap ((i:Int)+1)=((i+1:Nat):Int):=wi (by omega) (by omega)
  have e4:IntKind.u64.wrap (a.getD i 0:Int)=(a.getD i 0:Int):=gj rfl (by omega)
  have e5:=vD (n:=n) (m:=32) (j:=32) rfl rfl (by omega)
  have e6:=OH (n:=a.getD i 0) (k:=n % 32) (kk:=.i64) rfl rfl (by omega) (by omega)
  have e7:=Xq (m:=a.getD i 0*2 ^ (n % 32)) (n:=dS a (n % 32) i) rfl rfl (by omega) (by omega)
  rw [Iz hc] at e7
  have e8:IntKind.u32.wrap ((a.getD i 0*2 ^ (n % 32)+dS a (n % 32) i:Nat):Int)=(((a.getD i 0*2 ^ (n % 32)+dS a (n % 32) i) % 4294967296:Nat):Int):=KM rfl
  have e9:=rC (n:=a.getD i 0*2 ^ (n % 32)+dS a (n % 32) i) (k:=32) (kk:=.u64) (j:=32) rfl rfl (by omega)
  have f1:aQ (List.replicate q 0++jz a (n % 32) i)++[[U ((a.getD i 0*2 ^ (n % 32)+dS a (n % 32) i) % 4294967296:Nat)]]=aQ (List.replicate q 0++jz a (n % 32) (i+1)):=by
   rw [show [[U ((a.getD i 0*2 ^ (n % 32)+dS a (n % 32) i) % 4294967296:Nat)]]=aQ [(a.getD i 0*2 ^ (n % 32)+dS a (n % 32) i) % 4294967296] from rfl,u9,List.append_assoc]
   simp [jz,List.range_succ]
  have f2:(q+i=(List.replicate q 0++jz a (n % 32) i).length)=True:=tt (by simp [oJ])
  have f3:((q+i+1)*4≤140737488355328)=True:=tt (by omega)
  rw [ao]
  generalize aD _ _ _=L at ih' ⊢
  simp only [lS,go_sem,auB,auC,auD,g1,h5,h6,h21,h22,h23,hh,hh2,e1,e2,e3,e4,e5,e6,e7,e8,e9,f1,f2,f3,true_or,Nat.zero_add,Nat.le_refl]
  exact ih' _ _ rfl rfl rfl rfl rfl rfl rfl rfl
theorem qu (n:Nat):4294967296 ^ (n / 32)*2 ^ (n % 32)=2 ^ n:=by
 rw [show (4294967296:Nat)=2 ^ 32 from rfl,← Nat.pow_mul,← Nat.pow_add]
 congr 1
 omega
theorem UP {a:List Nat} (ha:Lb a) (n:Nat):List.replicate (n / 32) 0++jz a (n % 32) a.length++[dS a (n % 32) a.length]=dy (n / 32+a.length+1) (ac a*2 ^ n):=by
 have hr:n % 32 < 32:=Nat.mod_lt _ (by omega)
 have hc:=yV ha (r:=n % 32) a.length
 have hp:2 ^ (n % 32)≤2 ^ 31:=Nat.pow_le_pow_right (by omega) (by omega)
 have h:=UO a (n % 32) a.length
 rw [List.take_length] at h
 have hLb:Lb (List.replicate (n / 32) 0++jz a (n % 32) a.length++[dS a (n % 32) a.length]) :=
  nI.2 ⟨nI.2 ⟨fun y hy=>by rw [List.eq_of_mem_replicate hy]; omega,aiY _ _ _⟩,fU.2 ⟨by omega,BT⟩⟩
 have hv:ac (List.replicate (n / 32) 0++jz a (n % 32) a.length++[dS a (n % 32) a.length])=ac a*2 ^ n:=by
  rw [List.append_assoc,fO,Mf,fO,oJ,List.length_replicate]
  simp only [ac,Nat.mul_zero,Nat.add_zero,Nat.zero_add]
  rw [h,← qu n,Nat.mul_left_comm]
 have:=zN hLb
 rw [hv] at this
 rw [← this]
 congr 1
 simp [oJ]
 omega
theorem ZV {a:List Nat} (ha:Lb a) {n:Nat} (h1:a.length≤100000) (hn:n≤65536):R F.natural_shl [lm a,I n] []=some (lm (dy (n / 32+(aq (ac a)).length+1) (ac a*2 ^ n)),[]):=by
 refine aE N5 N4 (Gc false) rfl ?_
 have la:=dK a ha
 have hc:=yV (bo (ac a)) (r:=n % 32) (aq (ac a)).length
 have hp:2 ^ (n % 32)≤2 ^ 31:=Nat.pow_le_pow_right (by omega) (by have:n % 32 < 32:=Nat.mod_lt _ (by omega); omega)
 have e1:=vE (n:=n) (m:=32) (j:=32) rfl rfl (by omega) (by omega)
 have e2:IntKind.i64.wrap (((n / 32:Nat):Int)+((aq (ac a)).length:Int))=((n / 32+(aq (ac a)).length:Nat):Int):=wi (by omega) (by omega)
 have e3:IntKind.i64.wrap (((n / 32+(aq (ac a)).length:Nat):Int)+1)=((n / 32+(aq (ac a)).length+1:Nat):Int):=wi (by omega) (by omega)
 have e4:=nK (i:=((n / 32:Nat):Int)) (j:=((n / 32+(aq (ac a)).length+1:Nat):Int)) rfl rfl (by omega) (by omega)
 have e5:((n / 32+(aq (ac a)).length+1)*4≤140737488355328)=True:=tt (by omega)
 have e6:=ac5 (bo (ac a)) (n:=n) (q:=n / 32) (by omega) (by omega) (aq (ac a)).length 0 (by omega)
 have e7:aQ (List.replicate (n / 32) 0)=aQ (List.replicate (n / 32) 0++jz (aq (ac a)) (n % 32) 0):=by simp [jz]
 have e8:IntKind.u32.wrap ((dS (aq (ac a)) (n % 32) (aq (ac a)).length:Nat):Int)=((dS (aq (ac a)) (n % 32) (aq (ac a)).length:Nat):Int):=AL rfl (by omega)
 have f1:aQ (List.replicate (n / 32) 0++jz (aq (ac a)) (n % 32) (aq (ac a)).length)++[[U (dS (aq (ac a)) (n % 32) (aq (ac a)).length:Nat)]]=aQ (dy (n / 32+(aq (ac a)).length+1) (ac a*2 ^ n)):=by
  have:=UP (bo (ac a)) n
  rw [aW] at this
  rw [← this,show [[U (dS (aq (ac a)) (n % 32) (aq (ac a)).length:Nat)]]=aQ [dS (aq (ac a)) (n % 32) (aq (ac a)).length] from rfl,u9]
 have f2:(n / 32+(aq (ac a)).length=(List.replicate (n / 32) 0++jz (aq (ac a)) (n % 32) (aq (ac a)).length).length)=True:=tt (by simp [oJ])
 simp only [sy,AH,go_sem,auA,auz,eg ha (by omega),e1,e2,e3,e4,e5,vC,e7]
 rw [e6 _ _ rfl rfl rfl rfl rfl rfl rfl rfl]
 simp only [go_sem,auB,auC,e8,f1,f2,e5,true_or,Nat.zero_add,Nat.le_refl,cr]
theorem ZW {a:List Nat} (ha:Lb a) {n:Int} (h1:a.length≤256):R F.natural_Shl [lm a,I n] []=some (if n < 0∨65536 < n then .tup [lm [],I 2] else gI (ac a*2 ^ n.toNat),[]):=by
 refine aE NL NK (F0 false) rfl ?_
 have e1:(256 < a.length)=False:=ff (by omega)
 by_cases hn:n < 0
 ·simp only [iR,mq,go_sem,auA,auz,auB,auC,e1,lW,hn,true_or]
 by_cases hn2:65536 < n
 ·simp only [iR,mq,go_sem,auA,auz,auB,auC,e1,lW,hn,hn2,or_true]
 obtain ⟨m,rfl⟩:=Int.eq_ofNat_of_zero_le (show 0≤n by omega)
 have la:=dK a ha
 have e3:ac (dy (m / 32+(aq (ac a)).length+1) (ac a*2 ^ m))=ac a*2 ^ m:=by
  rw [lU,Nat.mod_eq_of_lt]
  have h:=jH (ac a)
  have h2:2 ^ m≤4294967296 ^ (m / 32+1):=by
   rw [show (4294967296:Nat)=2 ^ 32 from rfl,← Nat.pow_mul]
   exact Nat.pow_le_pow_right (by omega) (by omega)
  rw [show m / 32+(aq (ac a)).length+1=(aq (ac a)).length+(m / 32+1) from by omega,Nat.pow_add]
  exact Nat.mul_lt_mul_of_lt_of_le h h2 (Nat.pow_pos (by omega))
 have e4:=yS (oE (m / 32+(aq (ac a)).length+1) (ac a*2 ^ m)) (by rw [cr]; omega)
 rw [e3] at e4
 unfold gI at e4 ⊢
 by_cases hl:256 < (aq (ac a*2 ^ m)).length
 ·simp only [hl,if_true] at e4
  simp only [iR,mq,go_sem,auA,auz,auB,auC,e1,lW,hn,hn2,ZV ha (n:=m) (by omega) (by omega),e4,or_false,Int.toNat_natCast,hl]
 ·simp only [hl,if_false] at e4
  simp only [iR,mq,go_sem,auA,auz,auB,auC,e1,lW,hn,hn2,ZV ha (n:=m) (by omega) (by omega),e4,or_false,Int.toNat_natCast,hl]
theorem wH {l:List Nat} (h:Lb l) (i:Nat):ac (l.drop i)=ac l / 4294967296 ^ i:=by
 rcases Nat.lt_or_ge l.length i with hi | hi
 ·rw [List.drop_of_length_le (by omega)]
  have:=dI h
  have h2:4294967296 ^ l.length≤4294967296 ^ i:=Nat.pow_le_pow_right (by omega) (by omega)
  rw [Nat.div_eq_of_lt (by omega)]
  rfl
 ·have h1:ac l=ac (l.take i)+4294967296 ^ i*ac (l.drop i):=by
   conv=>lhs; rw [← List.take_append_drop i l]
   rw [fO,List.length_take,Nat.min_eq_left hi]
  have h2:=dI (qt h i)
  rw [List.length_take,Nat.min_eq_left hi] at h2
  rw [h1,Nat.add_mul_div_left _ _ (Nat.pow_pos (by omega)),Nat.div_eq_of_lt h2]
  omega
theorem eY (l:List Nat) (i:Nat):ac (l.drop i)=l.getD i 0+4294967296*ac (l.drop (i+1)):=by
 rcases Nat.lt_or_ge i l.length with hi | hi
 ·rw [List.drop_eq_getElem_cons hi,ac]
  simp [List.getD_eq_getElem?_getD,hi]
 ·rw [List.drop_of_length_le hi,List.drop_of_length_le (by omega)]
  simp [List.getD_eq_getElem?_getD,List.getElem?_eq_none hi,ac]
def nL (a:List Nat) (r i:Nat):Nat:=(a.getD i 0+4294967296*a.getD (i+1) 0) / 2 ^ r % 4294967296
theorem agm {a:List Nat} (ha:Lb a) {r:Nat} (hr:r≤32) (i:Nat):nL a r i=UM (ac a / 2 ^ r) i:=by
 unfold nL UM
 have e0:ac a / 2 ^ r / 4294967296 ^ i=ac (a.drop i) / 2 ^ r:=by rw [Nat.div_div_eq_div_mul,Nat.mul_comm,← Nat.div_div_eq_div_mul,← wH ha]
 rw [e0,eY a i,eY a (i+1)]
 generalize ac (a.drop (i+1+1))=w
 have e:(4294967296:Nat)=2 ^ r*2 ^ (32 - r):=by rw [← Nat.pow_add,show r+(32 - r)=32 from by omega]
 have h1:a.getD i 0+4294967296*(a.getD (i+1) 0+4294967296*w)=(a.getD i 0+4294967296*a.getD (i+1) 0)+2 ^ r*(2 ^ (32 - r)*4294967296*w):=by
  have:2 ^ r*(2 ^ (32 - r)*4294967296*w)=4294967296*4294967296*w:=by
   rw [← Nat.mul_assoc,← Nat.mul_assoc,← e]
  rw [this,Nat.mul_add]
  omega
 rw [h1,Nat.add_mul_div_left _ _ (Nat.two_pow_pos r),Nat.mul_assoc,Nat.mul_left_comm,Nat.add_mul_mod_self_left]
def hH (a:List Nat) (r i:Nat):List Nat:=(List.range i).map (nL a r)
theorem mG (a:List Nat) (r i:Nat):(hH a r i).length=i:=by simp [hH]
theorem Rf {a:List Nat} (ha:Lb a) {r:Nat} (hr:r≤32):hH a r a.length=dy a.length (ac a / 2 ^ r):=by
 refine Q8 (mG _ _ _) fun i hi=>?_
 rw [← agm ha hr]
 simp [hH,hi]
theorem ac6 {a:List Nat} (ha:Lb a) {n:Nat} (h1:a.length≤100000):∀ (k i:Nat),i+k=a.length→∀ (s:ag) (h:ab),s 0=lm a→s 1=I (n:Nat)→s 5=.rsl 22 none 1 0 a.length→s 23=lm a→s 24=I (a.length:Nat)→s 25=I i →
  h 22=.ar 1 (aQ (hH a (n % 32) i++List.replicate k 0)) →
  aB 0 [5] (aD (am R (aO false) jo) [0,1,5,23,24,25] [22] s h) =
   some (.normal,⟨upd (fun _=>.any) 5 (.rsl 22 none 1 0 a.length),upd (fun _=>.dead) 22 (.ar 1 (aQ (hH a (n % 32) a.length)))⟩):=by
 intro k
 induction k with
 | zero =>
  intro i hi s h h0 g1 h5 h23 h24 h25 hh
  have:i=a.length:=by omega
  subst this
  rw [ao]
  simp only [List.replicate_zero,List.append_nil] at hh
  simp only [jo,go_sem,auD,h0,g1,h5,h23,h24,h25,hh,Int.lt_irrefl]
 | succ k ih =>
  intro i hi s h h0 g1 h5 h23 h24 h25 hh
  have ih':=ih (i+1) (by omega)
  have hx:=cA ha i
  have hy:=cA ha (i+1)
  have hr:n % 32 < 32:=Nat.mod_lt _ (by omega)
  have e1:((i:Int) < (a.length:Int))=True:=tt (by omega)
  have e2:bu (aQ a) (i:Int)=some (.ipt [U (a.getD i 0:Nat)]):=bF rfl (by omega)
  have e3:IntKind.i64.wrap ((i:Int)+1)=((i+1:Nat):Int):=wi (by omega) (by omega)
  have e4:IntKind.u64.wrap (a.getD i 0:Int)=(a.getD i 0:Int):=gj rfl (by omega)
  have e5:=vD (n:=n) (m:=32) (j:=32) rfl rfl (by omega)
  have e6:(0≤(i:Int))=True:=tt (by omega)
  have e7:(aQ (hH a (n % 32) i++List.replicate (k+1) 0))[i]?=some [U (0:Nat)]:=by
   rw [vA (by simp [mG])]
   simp [List.getD_eq_getElem?_getD,mG]
  have e8:(aQ (hH a (n % 32) i++List.replicate (k+1) 0)).set i [U (nL a (n % 32) i:Nat)]=aQ (hH a (n % 32) (i+1)++List.replicate k 0):=by
   rw [vB]
   have:=wE (hH a (n % 32) i) (k+1) (nL a (n % 32) i) 0 (by omega)
   rw [mG] at this
   rw [this]
   simp [hH,List.range_succ]
  rw [ao]
  generalize aD _ _ _=L at ih' ⊢
  by_cases hl:i+1 < a.length
  ·have f1:(((i+1:Nat):Int) < (a.length:Int))=True:=tt (by omega)
   have f2:bu (aQ a) ((i+1:Nat):Int)=some (.ipt [U (a.getD (i+1) 0:Nat)]):=bF rfl hl
   have f3:IntKind.u64.wrap (a.getD (i+1) 0:Int)=(a.getD (i+1) 0:Int):=gj rfl (by omega)
   have f4:=OH (n:=a.getD (i+1) 0) (k:=32) (kk:=.u64) (j:=32) rfl rfl (by omega) (by omega)
   have f5:=Xq (m:=a.getD i 0) (n:=a.getD (i+1) 0*2 ^ 32) rfl rfl (by omega) (by omega)
   rw [Nat.or_comm,Iz (show a.getD i 0 < 2 ^ 32 from by omega)] at f5
   have f6:=rC (n:=a.getD (i+1) 0*2 ^ 32+a.getD i 0) (k:=n % 32) (kk:=.i64) rfl rfl (by omega)
   have f7:IntKind.u32.wrap (((a.getD (i+1) 0*2 ^ 32+a.getD i 0) / 2 ^ (n % 32):Nat):Int)=((nL a (n % 32) i:Nat):Int):=by
    rw [KM rfl]
    unfold nL
    rw [show a.getD (i+1) 0*2 ^ 32+a.getD i 0=a.getD i 0+4294967296*a.getD (i+1) 0 from by omega]
   simp only [jo,go_sem,auB,auD,h0,g1,h5,h23,h24,h25,hh,e1,e2,e3,e4,e5,e6,e7,e8,f1,f2,f3,f4,f5,f6,f7,Int.toNat_natCast,Nat.zero_add]
   exact ih' _ _ rfl rfl rfl rfl rfl rfl rfl
  ·have f1:(((i+1:Nat):Int) < (a.length:Int))=False:=ff (by omega)
   have f2:a.getD (i+1) 0=0:=by simp [List.getD_eq_getElem?_getD,List.getElem?_eq_none (show a.length≤i+1 from by omega)]
   have f6:=rC (n:=a.getD i 0) (k:=n % 32) (kk:=.i64) rfl rfl (by omega)
   have f7:IntKind.u32.wrap ((a.getD i 0 / 2 ^ (n % 32):Nat):Int)=((nL a (n % 32) i:Nat):Int):=by
    rw [KM rfl]
    unfold nL
    rw [f2]
    rfl
   simp only [jo,go_sem,auB,auD,h0,g1,h5,h23,h24,h25,hh,e1,e2,e3,e4,e5,e6,e7,e8,f1,f6,f7,Int.toNat_natCast,Nat.zero_add]
   exact ih' _ _ rfl rfl rfl rfl rfl rfl rfl
theorem aiZ {a:List Nat} (ha:Lb a) {n:Nat} (h1:a.length≤100000) (hn:n≤100000000):R F.natural_shr [lm a,I n] []=some (lm (dy ((aq (ac a)).length - n / 32) (ac a / 2 ^ n)),[]):=by
 refine aE Of Oe (Gk false) rfl ?_
 have la:=dK a ha
 have e1:=vE (n:=n) (m:=32) (j:=32) rfl rfl (by omega) (by omega)
 by_cases hl:(aq (ac a)).length≤n / 32
 ·have e2:(((aq (ac a)).length:Int)≤((n / 32:Nat):Int))=True:=tt (by omega)
  have e3:dy ((aq (ac a)).length - n / 32) (ac a / 2 ^ n)=[]:=by rw [show (aq (ac a)).length - n / 32=0 from by omega]; rfl
  simp only [oC,uj,go_sem,auA,auz,eg ha (by omega),e1,e2,e3]
 ·have e2:(((aq (ac a)).length:Int)≤((n / 32:Nat):Int))=False:=ff (by omega)
  have hD:((aq (ac a)).drop (n / 32)).length=(aq (ac a)).length - n / 32:=by simp
  have hLD:Lb ((aq (ac a)).drop (n / 32)):=vr (bo _) _
  have e3:eO 1 (lm (aq (ac a))) (some (I (n / 32:Nat))) none none=some (lm ((aq (ac a)).drop (n / 32))):=by
   rw [Ci (a:=n / 32) (b:=(aq (ac a)).length) (sI rfl (by omega)) rfl (Nat.le_refl _),List.take_of_length_le (by omega)]
  have hv:ac ((aq (ac a)).drop (n / 32)) / 2 ^ (n % 32)=ac a / 2 ^ n:=by
   rw [wH (bo _),aW,Nat.div_div_eq_div_mul,qu]
  have e6:=Rf hLD (r:=n % 32) (by omega)
  rw [hv,hD] at e6
  generalize (aq (ac a)).drop (n / 32)=D at *
  have e4:=nK (i:=(D.length:Int)) (j:=(D.length:Int)) rfl rfl (Nat.le_refl _) (by omega)
  have e5:(D.length*4≤140737488355328)=True:=tt (by omega)
  have e7:=ac6 hLD (n:=n) (by omega) D.length 0 (by omega)
  have e8:aQ (List.replicate D.length 0)=aQ (hH D (n % 32) 0++List.replicate D.length 0):=by simp [hH]
  rw [← hD] at e6 ⊢
  simp only [oC,uj,go_sem,auA,auz,eg ha (by omega),e1,e2,e3,e4,e5,vC,e8]
  rw [e7 _ _ rfl rfl rfl rfl rfl rfl rfl]
  simp only [go_sem,auB,auC,e6,cr,Nat.zero_add,Nat.le_refl]
theorem ZX {a:List Nat} (ha:Lb a) {n:Int} (h1:a.length≤256):R F.natural_Shr [lm a,I n] []=some (if n < 0∨65536 < n then .tup [lm [],I 2] else .tup [lm (aq (ac a / 2 ^ n.toNat)),I 0],[]):=by
 refine aE N2 N1 (Ga false) rfl ?_
 have e1:(256 < a.length)=False:=ff (by omega)
 by_cases hn:n < 0
 ·simp only [kO,pS,go_sem,auA,auz,auB,auC,e1,lW,hn,true_or]
 by_cases hn2:65536 < n
 ·simp only [kO,pS,go_sem,auA,auz,auB,auC,e1,lW,hn,hn2,or_true]
 obtain ⟨m,rfl⟩:=Int.eq_ofNat_of_zero_le (show 0≤n by omega)
 have la:=dK a ha
 have hlt:=jH (ac a)
 have h32:ac a / 2 ^ m < 4294967296 ^ ((aq (ac a)).length - m / 32):=by
  rw [Nat.div_lt_iff_lt_mul (Nat.two_pow_pos m),← qu m]
  refine Nat.lt_of_lt_of_le hlt ?_
  rw [← Nat.mul_assoc,← Nat.pow_add]
  refine Nat.le_trans (Nat.pow_le_pow_right (by omega) (show (aq (ac a)).length≤(aq (ac a)).length - m / 32+m / 32 by omega)) (Nat.le_mul_of_pos_right _ (Nat.two_pow_pos _))
 have e3:ac (dy ((aq (ac a)).length - m / 32) (ac a / 2 ^ m))=ac a / 2 ^ m:=by
  rw [lU,Nat.mod_eq_of_lt h32]
 have e4:=yS (oE ((aq (ac a)).length - m / 32) (ac a / 2 ^ m)) (by rw [cr]; omega)
 rw [e3] at e4
 have hl:¬ 256 < (aq (ac a / 2 ^ m)).length:=by
  have:=hG h32
  omega
 unfold gI at e4
 simp only [hl,if_false] at e4
 simp only [kO,pS,go_sem,auA,auz,auB,auC,e1,lW,hn,hn2,aiZ ha (n:=m) (by omega) (by omega),e4,or_false,Int.toNat_natCast]
end Go.Ab
namespace Go.Ab
open Go Go.IntWalk
set_option maxRecDepth 4000
def ai (n:Nat):Nat:=if n=0 then 0 else n.log2+1
theorem bO {n k:Nat}:ai n≤k↔n < 2 ^ k:=by
 unfold ai
 split
 ·rename_i h
  subst h
  exact ⟨fun _=>Nat.two_pow_pos k,fun _=>Nat.zero_le _⟩
 ·rename_i h
  rw [Nat.succ_le_iff]
  exact Nat.log2_lt h
theorem Gs {q k:Nat} (h:ai q≤k):ai (q+1)≤k+1:=by
 rw [bO] at h ⊢
 rw [Nat.pow_succ]
 omega
theorem ac7 {n k:Nat} (h:n≤k):ai (2 ^ n - 1)≤k:=bO.2 (by
 have h1:=Nat.two_pow_pos n
 have h2:=Nat.pow_le_pow_right (n:=2) (by decide) h
 omega)
theorem ac8 (k:Nat):ai 1≤k+1:=bO.2 (Nat.one_lt_two_pow (by omega))
theorem Mj {x y k:Nat} (h:x≤y) (h2:ai y≤k):ai x≤k:=bO.2 (Nat.lt_of_le_of_lt h (bO.1 h2))
theorem iV {n k:Nat}:k < ai n↔2 ^ k≤n:=by
 have:=@bO n k
 omega
theorem tI:ai 0=0:=rfl
theorem fj {n:Nat} (h:n ≠ 0):0 < ai n:=by
 rw [iV]
 omega
theorem hJ (n k:Nat):ai (n / 2 ^ k)=ai n - k:=by
 have h:∀ j,ai (n / 2 ^ k)≤j↔ai n - k≤j:=fun j=>by
  rw [bO,Nat.div_lt_iff_lt_mul (Nat.two_pow_pos k),← Nat.pow_add,← bO]
  omega
 have h1:=(h _).1 (Nat.le_refl _)
 have h2:=(h _).2 (Nat.le_refl _)
 omega
theorem dw {n:Nat} (k:Nat) (hn:n ≠ 0):ai (n*2 ^ k)=ai n+k:=by
 have h:=hJ (n*2 ^ k) k
 rw [Nat.mul_div_cancel _ (Nat.two_pow_pos k)] at h
 have h2:k < ai (n*2 ^ k):=by
  rw [iV]
  exact Nat.le_mul_of_pos_left _ (by omega)
 omega
def OI:ByteArray:=⟨#[0,1,2,2,3,3,3,3,4,4,4,4,4,4,4,4,5,5,5,5,5,5,5,5,5,5,5,5,5,5,5,5,6,6,6,6,6,6,6,6,6,6,6,6,6,6,6,6,6,6,6,6,6,6,6,6,6,6,6,6,6,6,6,6,7,7,7,7,7,7,7,7,7,7,7,7,7,7,7,7,7,7,7,7,7,7,7,7,7,7,7,7,7,7,7,7,7,7,7,7,7,7,7,7,7,7,7,7,7,7,7,7,7,7,7,7,7,7,7,7,7,7,7,7,7,7,7,7,8,8,8,8,8,8,8,8,8,8,8,8,8,8,8,8,8,8,8,8,8,8,8,8,8,8,8,8,8,8,8,8,8,8,8,8,8,8,8,8,8,8,8,8,8,8,8,8,8,8,8,8,8,8,8,8,8,8,8,8,8,8,8,8,8,8,8,8,8,8,8,8,8,8,8,8,8,8,8,8,8,8,8,8,8,8,8,8,8,8,8,8,8,8,8,8,8,8,8,8,8,8,8,8,8,8,8,8,8,8,8,8,8,8,8,8,8,8,8,8,8,8,8,8,8,8,8,8]⟩
theorem ac9:((List.range 256).all fun x=>(OI[x]?).map (·.toNat) == some (ai x))=true:=by decide +kernel
theorem Xr {x:Nat} (h:x < 256):C2 (.v (.string OI)) (.v (.int .u8 x))=some (.v (.int .u8 (ai x:Nat))):=by
 have:=List.all_eq_true.1 ac9 x (List.mem_range.2 h)
 simp only [beq_iff_eq] at this
 simp only [C2]
 rw [if_pos (by omega),Int.toNat_natCast]
 cases hq:OI[x]? with
 | none=>rw [hq] at this; cases this
 | some y =>
  rw [hq] at this
  simp only [Option.map_some,Option.some.injEq] at this ⊢
  rw [this]
theorem zX:BO=.seq (.ops [0,2] [co 2 (.mv (.c (.v (.int .i64 0))))]) (.seq (.seq (.ops [0,2,4] [cm 3 0,co 4 (.bin .geq (.t 3) (.c (.v (.int .u32 65536))))]) (.cond (.t 4) (.seq (.ops [0] [cm 5 0,co 6 (.bin .shr (.t 5) (.c (.v (.int .u64 16)))),cm 0 6]) (.ops [0,2] [co 2 (.mv (.c (.v (.int .i64 16))))])) (.skip))) (.seq (.seq (.ops [0,2,8] [cm 7 0,co 8 (.bin .geq (.t 7) (.c (.v (.int .u32 256))))]) (.cond (.t 8) (.seq (.ops [0,2] [cm 9 0,co 10 (.bin .shr (.t 9) (.c (.v (.int .u64 8)))),cm 0 10]) (.ops [0,2] [cm 11 2,co 12 (.bin .add (.t 11) (.c (.v (.int .i64 8)))),cm 2 12])) (.skip))) (.seq (.ops [2] [cm 13 2,cm 14 0,co 15 (.cv .u8 (.t 14)),co 16 (.idxS (.c (.v (.string OI))) (.t 15)),co 17 (.cv .i64 (.t 16)),co 18 (.bin .add (.t 13) (.t 17)),cm 2 18]) (.ret)))):=rfl
theorem w8 {i:Int} {n:Nat} (h:i=n) (hn:n < 256):IntKind.u8.wrap i=n:=by rw [IntKind.wrap_u8]; omega
theorem Dh {n k:Nat} {i:Int} {kk:IntKind} {j:Int} (hi:i=n) (hj:j=k) (hk:k≤32):dZ .shr (.v (.int .u32 i)) (.v (.int kk j))=some (.v (.int .u32 ((n / 2 ^ k:Nat):Int))):=by
 subst hi hj
 rw [JA,if_neg (by omega)]
 have:min (k:Int).toNat IntKind.u32.bits=k:=by simp [IntKind.bits]; omega
 rw [this]
 simp only [Option.some.injEq,AV.v.injEq,Value.int.injEq,true_and]
 rw [Int.fdiv_eq_ediv_of_nonneg _ (Int.pow_nonneg (by omega))]
 simp
theorem xt {x:Nat} (k:Nat) (h:2 ^ k≤x):ai x=k+ai (x / 2 ^ k):=by
 have:=hJ x k
 have:=iV.2 h
 omega
theorem ada {x:Nat} (hx:x < 4294967296):R F.bits_Len32 [U x] []=some (I (ai x:Nat),[]):=by
 refine aE QU QT (Iv false) rfl ?_
 have fin:∀ {y:Nat},y < 256→∀ {n:Nat},n≤24→IntKind.u8.wrap (y:Int)=y∧IntKind.i64.wrap (ai y:Int)=(ai y:Int)∧IntKind.i64.wrap ((n:Int)+(ai y:Int))=((n+ai y:Nat):Int):=fun {y} hy {n} hn=>by
  have:ai y≤8:=bO.2 hy
  exact ⟨w8 rfl hy,wi rfl (by omega),wi (by omega) (by omega)⟩
 have s16:=Dh (n:=x) (k:=16) (kk:=.u64) (j:=16) rfl rfl (by omega)
 by_cases h1:65536≤x
 ·have e1:((65536:Int)≤(x:Int))=True:=tt (by omega)
  have b1:=xt 16 h1
  have s8:=Dh (n:=x / 2 ^ 16) (k:=8) (kk:=.u64) (j:=8) rfl rfl (by omega)
  by_cases h2:256≤x / 2 ^ 16
  ·have e2:((256:Int)≤((x / 2 ^ 16:Nat):Int))=True:=tt (by omega)
   have b2:=xt 8 h2
   have hy:x / 2 ^ 16 / 2 ^ 8 < 256:=by omega
   obtain ⟨f1,f2,f3⟩:=fin hy (n:=24) (by omega)
   have g:IntKind.i64.wrap (24:Int)=24:=by rw [i64_in] <;> omega
   have f3':IntKind.i64.wrap ((24:Int)+(ai (x / 2 ^ 16 / 2 ^ 8):Int))=((ai x:Nat):Int):=by rw [b1,b2]; rw [wi (n:=24+ai (x / 2 ^ 16 / 2 ^ 8)) (by omega) (by have:=(bO (k:=8)).2 hy; omega)]; omega
   simp only [jF,zX,go_sem,e1,s16,e2,s8,g,f1,Xr hy,f2,f3',Int.reduceAdd]
  ·have e2:((256:Int)≤((x / 2 ^ 16:Nat):Int))=False:=ff (by omega)
   have hy:x / 2 ^ 16 < 256:=by omega
   obtain ⟨f1,f2,f3⟩:=fin hy (n:=16) (by omega)
   have f3':IntKind.i64.wrap ((16:Int)+(ai (x / 2 ^ 16):Int))=((ai x:Nat):Int):=by rw [b1]; rw [wi (n:=16+ai (x / 2 ^ 16)) (by omega) (by have:=(bO (k:=8)).2 hy; omega)]
   simp only [jF,zX,go_sem,auE,auF,e1,s16,e2,f1,Xr hy,f2,f3']
 ·have e1:((65536:Int)≤(x:Int))=False:=ff (by omega)
  have s8:=Dh (n:=x) (k:=8) (kk:=.u64) (j:=8) rfl rfl (by omega)
  by_cases h2:256≤x
  ·have e2:((256:Int)≤(x:Int))=True:=tt (by omega)
   have b2:=xt 8 h2
   have hy:x / 2 ^ 8 < 256:=by omega
   obtain ⟨f1,f2,f3⟩:=fin hy (n:=8) (by omega)
   have g:IntKind.i64.wrap (8:Int)=8:=by rw [i64_in] <;> omega
   have f3':IntKind.i64.wrap ((8:Int)+(ai (x / 2 ^ 8):Int))=((ai x:Nat):Int):=by rw [b2]; rw [wi (n:=8+ai (x / 2 ^ 8)) (by omega) (by have:=(bO (k:=8)).2 hy; omega)]
   simp only [jF,zX,go_sem,auE,auF,e1,e2,s8,g,f1,Xr hy,f2,f3',Int.reduceAdd]
  ·have e2:((256:Int)≤(x:Int))=False:=ff (by omega)
   have hy:x < 256:=by omega
   obtain ⟨f1,f2,f3⟩:=fin hy (n:=0) (by omega)
   have f3':IntKind.i64.wrap ((0:Int)+(ai x:Int))=((ai x:Nat):Int):=by rw [wi (n:=ai x) (by omega) (by have:=(bO (k:=8)).2 hy; omega)]
   simp only [jF,zX,go_sem,auE,auF,e1,e2,f1,Xr hy,f2,f3']
theorem Rg {n:Nat} (h:n ≠ 0):ai n=32*((aq n).length - 1)+ai ((aq n).getD ((aq n).length - 1) 0):=by
 induction n using Nat.strongRecOn with
 | ind n ih =>
  rw [mE h,List.length_cons,Nat.add_sub_cancel]
  by_cases h0:n / 4294967296=0
  ·rw [h0,eE]
   simp
   congr 1
   omega
  ·have h1:=ih _ (by omega) h0
   have h2:(aq (n / 4294967296)).length ≠ 0:=by
    intro e
    exact h0 (jG.1 (List.length_eq_zero_iff.1 e))
   obtain ⟨k,hk⟩:∃ k,(aq (n / 4294967296)).length=k+1:=⟨_,(Nat.succ_pred_eq_of_pos (by omega)).symm⟩
   rw [hk] at h1 ⊢
   rw [sA]
   simp only [Nat.add_sub_cancel] at h1
   have h3:=xt (x:=n) 32 (by omega)
   rw [show (2:Nat) ^ 32=4294967296 from rfl,h1] at h3
   omega
theorem Di {m:List Nat} (hb:Lb m) (h1:m.length≤100000):R F.natural_Bits [lm m] []=some (I (ai (ac m):Nat),[]):=by
 refine aE Ks Kr (D7 false) rfl ?_
 have la:=dK m hb
 by_cases h:ac m=0
 ·have e1:((0:Nat):Int)=0:=rfl
  simp only [mZ,su,go_sem,auA,auz,eg hb (by omega),h,eE,e1,tI]
 ·have hne:(aq (ac m)).length ≠ 0:=fun e=>h (jG.1 (List.length_eq_zero_iff.1 e))
  have e1:(((aq (ac m)).length:Int)=0)=False:=ff (by omega)
  have e2:IntKind.i64.wrap (((aq (ac m)).length:Int) - 1)=(((aq (ac m)).length - 1:Nat):Int):=wi (by omega) (by omega)
  have e3:IntKind.i64.wrap (32*(((aq (ac m)).length - 1:Nat):Int))=((32*((aq (ac m)).length - 1):Nat):Int):=wi (by omega) (by omega)
  have e4:bu (aQ (aq (ac m))) (((aq (ac m)).length - 1:Nat):Int)=some (.ipt [U ((aq (ac m)).getD ((aq (ac m)).length - 1) 0:Nat)]):=bF rfl (by omega)
  have e5:=ada (cA (bo (ac m)) ((aq (ac m)).length - 1))
  have e6:ai ((aq (ac m)).getD ((aq (ac m)).length - 1) 0)≤32:=bO.2 (cA (bo (ac m)) _)
  have e7:IntKind.i64.wrap (((32*((aq (ac m)).length - 1):Nat):Int)+(ai ((aq (ac m)).getD ((aq (ac m)).length - 1) 0):Int))=((ai (ac m):Nat):Int):=by
   rw [Rg h]
   exact wi (by omega) (by omega)
  simp only [mZ,su,go_sem,auA,auz,eg hb (by omega),e1,e2,e3,e4,e5,e7]
end Go.Ab
namespace Go.Ab
open Go Go.IntWalk
set_option maxRecDepth 4000
structure Rd where
 neg:Bool
 m:List Nat
 e:Int
def aj (d:Rd):List AV:=[B d.neg,lm d.m,I d.e]
def ae (d:Rd):AV:=.agg (aj d)
def aX:Rd:=⟨false,[],0⟩
def oR (n:Nat) (e:Int):Bool:=decide (n=0) || (decide (n≤4096) && (decide (-16384≤e) && (decide (e≤16384) && decide ((n:Int)+e≤16384))))
def vd (d:Rd):Bool:=if d.m.length=0 then !d.neg && decide (d.e=0) else decide (d.m.length≤256) && (decide (d.m.getD 0 0 % 2=1) && (decide (d.m.getD (d.m.length - 1) 0 ≠ 0) && oR (ai (ac d.m)) d.e))
theorem qv {m:List Nat} (hb:Lb m) (h1:m.length≤100000):R F.dyadic_size [lm m] []=some (I (ai (ac m):Nat),[]):=by
 refine aE NC NB (FV false) rfl ?_
 simp only [so,AE,go_sem,auA,auz,Di hb h1]
theorem IA {d:Rd} (hb:Lb d.m) (h1:d.m.length≤100000):R F.dyadic_inRange [ae d] []=some (B (oR (ai (ac d.m)) d.e),[]):=by
 refine aE FJ FI (A4 false) rfl ?_
 unfold oR
 have hn:ai (ac d.m)=0↔((ai (ac d.m):Nat):Int)=0:=by omega
 by_cases a1:ai (ac d.m)=0
 ·have e9:=qv hb h1
  rw [a1,Int.natCast_zero] at e9
  simp only [eC,gz,ae,aj,go_sem,auA,auz,auB,e9,a1]
 have e1:(((ai (ac d.m):Nat):Int)=0)=False:=ff (by omega)
 by_cases a2:¬ (ai (ac d.m)≤4096)
 ·have e2:(((ai (ac d.m):Nat):Int)≤4096)=False:=ff (by omega)
  simp only [eC,gz,ae,aj,go_sem,auA,auz,qv hb h1,e1,a1,e2,a2]
 replace a2:=Decidable.not_not.1 a2
 have e2:(((ai (ac d.m):Nat):Int)≤4096)=True:=tt (by omega)
 by_cases a3:¬ (-16384≤d.e)
 ·simp only [eC,gz,ae,aj,go_sem,auA,auz,qv hb h1,e1,a1,e2,a2,a3]
 replace a3:=Decidable.not_not.1 a3
 by_cases a4:¬ (d.e≤16384)
 ·simp only [eC,gz,ae,aj,go_sem,auA,auz,qv hb h1,e1,a1,e2,a2,a3,a4]
 replace a4:=Decidable.not_not.1 a4
 have e3:IntKind.i64.wrap (((ai (ac d.m):Nat):Int)+d.e)=((ai (ac d.m):Nat):Int)+d.e:=by rw [i64_in]; omega
 simp only [eC,gz,ae,aj,go_sem,auA,auz,qv hb h1,e1,a1,e2,a2,a3,a4,e3]
def I64 (n:Int):Prop:=-9223372036854775808≤n∧n < 9223372036854775808
structure Ok0 (d:Rd):Prop where
 lb:Lb d.m
 len:d.m.length < 4611686018427387904
theorem eF {d:Rd} (ok:Ok0 d):R F.dyadic_Valid [ae d] []=some (B (vd d),[]):=by
 refine aE JZ JY (DW false) rfl ?_
 unfold vd
 have hl:=ok.len
 by_cases a0:d.m.length=0
 ·rw [if_pos a0]
  have e1:((d.m.length:Int)=0)=True:=tt (by omega)
  cases hn:d.neg with
  | true=>simp only [eJ,gw,ae,aj,hn,go_sem,auA,auz,e1]
  | false=>simp only [eJ,gw,ae,aj,hn,go_sem,auA,auz,e1]
 rw [if_neg a0]
 have e1:((d.m.length:Int)=0)=False:=ff (by omega)
 by_cases a1:¬ d.m.length≤256
 ·have e2:((d.m.length:Int)≤256)=False:=ff (by omega)
  rw [decide_eq_false a1,Bool.false_and]
  simp only [eJ,gw,ae,aj,go_sem,auA,auz,auB,e1,e2]
 replace a1:=Decidable.not_not.1 a1
 have e2:((d.m.length:Int)≤256)=True:=tt (by omega)
 have e3:bu (aQ d.m) 0=some (.ipt [U (d.m.getD 0 0:Nat)]):=bF rfl (by omega)
 have e4:dZ .rem (.v (.int .u32 (d.m.getD 0 0:Nat))) (.v (.int .u32 2))=some (.v (.int .u32 ((d.m.getD 0 0 % 2:Nat):Int))):=by
  rw [Uz,if_neg (by decide),Int.tmod_eq_emod_of_nonneg (by omega)]
  rfl
 rw [decide_eq_true a1,Bool.true_and]
 by_cases a2:¬ d.m.getD 0 0 % 2=1
 ·have e5:(((d.m.getD 0 0 % 2:Nat):Int)=1)=False:=ff (by omega)
  rw [decide_eq_false a2,Bool.false_and]
  simp only [eJ,gw,ae,aj,go_sem,auA,auz,auB,e1,e2,e3,e4,e5]
 replace a2:=Decidable.not_not.1 a2
 have e5:(((d.m.getD 0 0 % 2:Nat):Int)=1)=True:=tt (by omega)
 rw [decide_eq_true a2,Bool.true_and]
 have e6:IntKind.i64.wrap ((d.m.length:Int) - 1)=((d.m.length - 1:Nat):Int):=wi (by omega) (by omega)
 have e7:bu (aQ d.m) ((d.m.length - 1:Nat):Int)=some (.ipt [U (d.m.getD (d.m.length - 1) 0:Nat)]):=bF rfl (by omega)
 by_cases a3:d.m.getD (d.m.length - 1) 0=0
 ·have e8:((d.m.getD (d.m.length - 1) 0:Int)=0)=True:=tt (by omega)
  rw [decide_eq_false (p:=d.m.getD (d.m.length - 1) 0 ≠ 0) (fun h=>h a3),Bool.false_and]
  simp only [eJ,gw,ae,aj,go_sem,auA,auz,auB,e1,e2,e3,e4,e5,e6,e7,e8]
 have e8:((d.m.getD (d.m.length - 1) 0:Int)=0)=False:=ff (by omega)
 rw [decide_eq_true (p:=d.m.getD (d.m.length - 1) 0 ≠ 0) a3,Bool.true_and]
 have e9:=IA (d:=d) ok.lb (by omega)
 simp only [ae,aj] at e9
 simp only [eJ,gw,ae,aj,go_sem,auA,auz,auB,e1,e2,e3,e4,e5,e6,e7,e8,e9]
theorem KO {d:Rd} (ok:Ok0 d):R F.dyadic_Sign [ae d] []=some (I (if vd d=false∨d.m.length=0 then 0 else if d.neg=true then -1 else 1),[]):=by
 refine aE M0 MZ (Fk false) rfl ?_
 have hl:=ok.len
 have e9:=eF ok
 simp only [ae,aj] at e9
 cases hv:vd d with
 | false =>
  rw [hv] at e9
  rw [if_pos (Or.inl rfl)]
  simp only [iP,mf,ae,aj,go_sem,auA,auz,auB,e9]
 | true =>
  rw [hv] at e9
  by_cases a0:d.m.length=0
  ·have e1:((d.m.length:Int)=0)=True:=tt (by omega)
   rw [if_pos (Or.inr a0)]
   simp only [iP,mf,ae,aj,go_sem,auA,auz,auB,e9,e1]
  ·have e1:((d.m.length:Int)=0)=False:=ff (by omega)
   rw [if_neg (fun h=>h.elim (fun h=>nomatch h) a0)]
   cases hn:d.neg with
   | true =>
    rw [hn] at e9
    rw [if_pos rfl]
    simp only [iP,mf,ae,aj,hn,go_sem,auA,auz,auB,e9,e1]
   | false =>
    rw [hn] at e9
    rw [if_neg (fun h=>nomatch h)]
    simp only [iP,mf,ae,aj,hn,go_sem,auA,auz,auB,e9,e1]
end Go.Ab
namespace Go.Ab
open Go Go.IntWalk
set_option maxRecDepth 4000
theorem Xs (m:List Nat) (h2:m.length < 4611686018427387904):∀ (n:Nat),n≤m.length→∀ (s:ag) (h:ab),s 0=lm m→s 3=I n →
  aB 0 [0,3] (aD (am R (aO false) gg) [0,3] [] s h)=some (.normal,⟨upd (upd (fun _=>.any) 3 (I (iN m n))) 0 (lm m),fun _=>.dead⟩):=by
 intro n
 induction n with
 | zero =>
  intro h1 s h h3 h4
  rw [ao]
  simp only [gg,go_sem,h3,h4,iN,Int.natCast_zero,Int.lt_irrefl]
 | succ n ih =>
  intro h1 s h h3 h4
  have hn:n < m.length:=h1
  have e3:IntKind.i64.wrap ((n:Int)+1 - 1)=n:=wi (by omega) (by omega)
  have e1:bu (aQ m) (n:Int)=some (.ipt [U (m.getD n 0:Nat)]):=bF rfl hn
  have e2:((0:Int) < (n:Int)+1)=True:=eq_true (by omega)
  have ih':=ih (by omega)
  rw [ao]
  generalize aD _ _ _=L at ih' ⊢
  by_cases hz:m.getD n 0=0
  ·simp only [gg,go_sem,h3,h4,iN,Int.natCast_add,Int.natCast_one,e3,e1,e2,hz,Int.natCast_zero]
   exact ih' _ _ rfl rfl
  ·simp only [gg,go_sem,h3,h4,iN,Int.natCast_add,Int.natCast_one,e3,e1,e2,hz,Int.natCast_eq_zero]
theorem Rh {m:List Nat} (hb:Lb m) (h:m.length < 4611686018427387904):R F.dyadic_trimmed [lm m] []=some (lm (aq (ac m)),[]):=by
 refine aE F8 F7 (A8 false) rfl ?_
 have h1:eO 1 (lm m) none (some (I (iN m m.length:Nat))) none=some (lm (aq (ac m))):=by
  rw [Ci (a:=0) (b:=iN m m.length) rfl (sI rfl (tD _ _)) (tD _ _),List.drop_zero,Nat.sub_zero,E7 hb]
 simp only [pd,wn,go_sem,Xs m h m.length (Nat.le_refl _),h1]
theorem yd {e:Int}:R F.dyadic_exponent [I e] []=some (B (decide (-32768≤e) && decide (e≤32768)),[]):=by
 refine aE Ed Ec (zV false) rfl ?_
 by_cases a1:¬ (-32768≤e)
 ·simp only [j3,pg,go_sem,a1]
 replace a1:=Decidable.not_not.1 a1
 simp only [j3,pg,go_sem,a1]
theorem zY {d:Rd} (hb:Lb d.m) (h1:d.m.length≤100000):R F.dyadic_checked [ae d] []=some (if oR (ai (ac d.m)) d.e=true then .tup [ae d,I 0] else .tup [ae aX,I 9],[]):=by
 refine aE FY FX (A7 false) rfl ?_
 have e9:=IA hb h1
 simp only [ae,aj] at e9
 cases hv:oR (ai (ac d.m)) d.e with
 | false =>
  rw [hv] at e9
  rw [if_neg (fun h=>nomatch h)]
  simp only [ku,qf,ae,aj,aX,go_sem,auA,auz,auB,e9]
 | true =>
  rw [hv] at e9
  rw [if_pos rfl]
  simp only [ku,qf,ae,aj,go_sem,auA,auz,auB,e9]
theorem Rj (h:ab) (m:List Nat):nT h 1 (lm m)=some (aQ m):=aci h 1 _
theorem zZ {m:List Nat} (h0:m ≠ []) (h1:m.length≤100000):R F.slices_Clone_uint32_uint32_ [lm m] []=some (lm m,[]):=by
 refine aE rN rM (qg false) rfl ?_
 have e1:C1 false (lm m)=some (B false):=by
  cases m with
  | nil=>exact absurd rfl h0
  | cons x m=>rfl
 have e2:((True∨False)∧(0+m.length)*4≤140737488355328)=True:=eq_true ⟨Or.inl trivial,by omega⟩
 have e3:(0+(0+m.length)≤m.length)=True:=eq_true (by omega)
 have e4:(0+m.length=m.length)=True:=eq_true (by omega)
 simp only [fN,kj,go_sem,auB,auC,e1,Rj,e2,e3,e4]
end Go.Ab
namespace Go.Ab
open Go Go.IntWalk
set_option maxRecDepth 4000
theorem ye:ah.E F.bits_TrailingZeros32=some tzF:=by kernel_rfl
theorem Cn {x:Nat} (h:x ≠ 0) (hx:x < 4294967296):R F.bits_TrailingZeros32 [U x] []=some (I (tz x:Nat),[]):=by
 unfold R
 rw [zH ye]
 show (if 0 < (x:Int)∧(x:Int) < 4294967296∧([]:List Ob)=[] then some (I (Mg 32 (x:Int).toNat:Nat),([]:List Ob)) else none)=_
 rw [if_pos ⟨by omega,by omega,rfl⟩,Int.toNat_natCast,aiA 32 x h (by omega)]
theorem adb (m:List Nat) (hb:Lb m) (h2:m.length≤100000):∀ (k i:Nat),i+k=m.length→ac (m.drop i) ≠ 0→∀ (s:ag) (h:ab),s 6=lm m→s 7=I m.length→s 8=I i→s 3=I (32*i:Nat) →
  aB 0 [3] (aD (am R (aO false) m6) [3,6,7,8] [] s h)=some (.ret,⟨upd (fun _=>.any) 2 (I (32*i+tz (ac (m.drop i)):Nat)),fun _=>.dead⟩):=by
 intro k
 induction k with
 | zero =>
  intro i hi hv
  rw [List.drop_eq_nil_of_le (by omega)] at hv
  exact absurd rfl hv
 | succ k ih =>
  intro i hi hv s h h6 h7 h8 h3
  have e1:((i:Int) < m.length)=True:=tt (by omega)
  have e2:bu (aQ m) (i:Int)=some (.ipt [U (m.getD i 0:Nat)]):=bF rfl (by omega)
  have hx:m.getD i 0 < 4294967296:=cA hb i
  rw [eY] at hv
  rw [ao]
  have e4:IntKind.i64.wrap (((32*i:Nat):Int)+32)=((32*(i+1):Nat):Int):=wi (by omega) (by omega)
  have e5:IntKind.i64.wrap ((i:Int)+1)=((i+1:Nat):Int):=wi (by omega) (by omega)
  by_cases hz:m.getD i 0=0
  ·have e3:((m.getD i 0:Int)=0)=True:=tt (by omega)
   have hv':ac (m.drop (i+1)) ≠ 0:=by
    intro h0
    rw [hz,h0] at hv
    exact hv rfl
   have ih':=ih (i+1) (by omega) hv'
   have e6:tz (ac (m.drop i))=32+tz (ac (m.drop (i+1))):=by
    rw [eY,hz,Nat.zero_add]
    exact HE 32 hv'
   have e7:32*i+tz (ac (m.drop i))=32*(i+1)+tz (ac (m.drop (i+1))):=by omega
   rw [e7]
   generalize aD _ _ _=L at ih' ⊢
   simp only [m6,go_sem,h3,h6,h7,h8,e1,e2,e3,e4,e5]
   exact ih' _ _ rfl rfl rfl rfl
  ·have e3:((m.getD i 0:Int)=0)=False:=ff (by omega)
   have e6:tz (ac (m.drop i))=tz (m.getD i 0):=by
    rw [eY]
    exact aiz (k:=32) _ hz hx
   have e8:tz (m.getD i 0) < 32:=Oz (k:=32) hz hx
   have e7:IntKind.i64.wrap (((32*i:Nat):Int)+(tz (m.getD i 0):Nat))=((32*i+tz (m.getD i 0):Nat):Int):=wi (by omega) (by omega)
   rw [e6]
   simp only [m6,go_sem,auA,auz,h3,h6,h7,h8,e1,e2,e3,Cn hz hx,e7]
theorem ai0 {m:List Nat} (hb:Lb m) (h1:m.length≤100000) (hv:ac m ≠ 0):R F.dyadic_low [lm m] []=some (I (tz (ac m):Nat),[]):=by
 refine aE QR QQ (Ir false) rfl ?_
 have h3:=adb m hb h1 m.length 0 (Nat.zero_add _) hv
 simp only [Nat.mul_zero,Nat.zero_add,List.drop_zero,Int.natCast_zero] at h3
 simp only [ui,BN,go_sem]
 rw [h3 _ _ rfl rfl rfl rfl]
 simp only [go_sem]
def bD (neg:Bool) (M:Nat) (e:Int):Rd:=if M=0 then aX else ⟨neg,aq (M / 2 ^ tz M),e+tz M⟩
def Exq (e:Int):Prop:=-1000000≤e∧e≤1000000
theorem kV {neg:Bool} {m:List Nat} {e:Int} (hb:Lb m) (h1:m.length≤256) (he:Exq e):R F.dyadic_canonical [B neg,lm m,I e] []=some (ae (bD neg (ac m) e),[]):=by
 refine aE Cb Ca (yN false) rfl ?_
 obtain ⟨he1,he2⟩:=he
 unfold bD
 by_cases h0:ac m=0
 ·have hd:R F.dyadic_trimmed [lm m] []=some (lm [],[]):=by
   rw [Rh hb (by omega),h0,eE]
  have e0:(([]:List Nat).length:Int)=0:=rfl
  rw [if_pos h0]
  simp only [jv,nG,ae,aj,aX,go_sem,auA,auz,auB,hd,List.length_nil,Int.natCast_zero]
 have hn:aq (ac m) ≠ []:=fun h=>h0 (jG.1 h)
 have hl:0 < (aq (ac m)).length:=by
  cases h:aq (ac m) with
  | nil=>exact absurd h hn
  | cons x l=>exact Nat.succ_pos _
 have hl2:(aq (ac m)).length≤256:=Nat.le_trans (dK m hb) h1
 have hdb:Lb (aq (ac m)):=bo _
 have e1:(((aq (ac m)).length:Int)=0)=False:=ff (by omega)
 have ht:tz (ac m) < 32*256:=Oz (k:=32*256) h0 (by
  have:=dI hb
  have h3:4294967296 ^ m.length≤4294967296 ^ 256:=Nat.pow_le_pow_right (by decide) h1
  have h4:(2:Nat) ^ (32*256)=4294967296 ^ 256:=Nat.pow_mul 2 32 256
  rw [h4]
  exact Nat.lt_of_lt_of_le this h3)
 have hlow:=ai0 hdb (by omega) (by rw [aW]; exact h0)
 rw [aW] at hlow
 have hs:=ZX (n:=(tz (ac m):Nat)) hdb hl2
 rw [if_neg (by omega),aW,Int.toNat_natCast] at hs
 have hq:aq (ac m / 2 ^ tz (ac m)) ≠ []:=by
  intro h
  have:=(sC h0).2
  rw [jG.1 h] at this
  exact absurd this (by decide)
 have hq2:(aq (ac m / 2 ^ tz (ac m))).length≤100000:=by
  have h5:(aq (ac m / 2 ^ tz (ac m))).length≤m.length:=hG (Nat.lt_of_le_of_lt (Nat.div_le_self _ _) (dI hb))
  omega
 have hc:=zZ hq hq2
 have e2:IntKind.i64.wrap (e+(tz (ac m):Nat))=e+(tz (ac m):Nat):=by rw [i64_in]; omega
 rw [if_neg h0]
 simp only [jv,nG,ae,aj,go_sem,auA,auz,auB,Rh hb (Nat.lt_of_le_of_lt h1 (by decide)),e1,hlow,hs,hc,UK,e2]
end Go.Ab
namespace Go.Ab
open Go Go.IntWalk
set_option maxRecDepth 4000
theorem wI {d:Rd} (h:vd d=true) (h0:d.m.length ≠ 0):d.m.length≤256∧d.m.getD 0 0 % 2=1∧d.m.getD (d.m.length - 1) 0 ≠ 0∧oR (ai (ac d.m)) d.e=true:=by
 unfold vd at h
 rw [if_neg h0] at h
 simp only [Bool.and_eq_true,decide_eq_true_eq] at h
 exact h
theorem oK {d:Rd} (h:vd d=true) (h0:d.m.length=0):d=aX:=by
 unfold vd at h
 rw [if_pos h0] at h
 simp only [Bool.and_eq_true,decide_eq_true_eq,Bool.not_eq_true'] at h
 obtain ⟨n,m,e⟩:=d
 obtain ⟨h1,h2⟩:=h
 simp only at h1 h2 h0
 rw [aX,h1,h2,List.length_eq_zero_iff.1 h0]
theorem yW {n:Nat} {e:Int} (h:oR n e=true) (h0:n ≠ 0):n≤4096∧-16384≤e∧e≤16384∧(n:Int)+e≤16384:=by
 unfold oR at h
 simp only [Bool.or_eq_true,Bool.and_eq_true,decide_eq_true_eq] at h
 exact h.resolve_left h0
theorem dE {d:Rd} (h:vd d=true) (_hb:Lb d.m):d.m.length≤256∧-16384≤d.e∧d.e≤16384∧ai (ac d.m)≤4096:=by
 by_cases h0:d.m.length=0
 ·rw [oK h h0]
  exact ⟨by decide,by decide,by decide,by decide⟩
 obtain ⟨h1,h2,h3,h4⟩:=wI h h0
 have hv:ac d.m ≠ 0:=by
  intro hz
  have:=eY d.m 0
  rw [List.drop_zero] at this
  omega
 have hn:ai (ac d.m) ≠ 0:=by
  have:=fj hv
  omega
 obtain ⟨h5,h6,h7,h8⟩:=yW h4 hn
 exact ⟨h1,h6,h7,h5⟩
def aJ (d:Rd):Int:=if vd d=false∨d.m.length=0 then 0 else (ai (ac d.m):Nat)+d.e
theorem tJ {d:Rd} (ok:Ok0 d):R F.dyadic_Top [ae d] []=some (I (aJ d),[]):=by
 refine aE QE QD (Ii false) rfl ?_
 have hl:=ok.len
 have e9:=eF ok
 simp only [ae,aj] at e9
 unfold aJ
 cases hv:vd d with
 | false =>
  rw [hv] at e9
  rw [if_pos (Or.inl rfl)]
  simp only [mn,re,ae,aj,go_sem,auA,auz,auB,e9]
 | true =>
  rw [hv] at e9
  by_cases a0:d.m.length=0
  ·have e1:((d.m.length:Int)=0)=True:=tt (by omega)
   rw [if_pos (Or.inr a0)]
   simp only [mn,re,ae,aj,go_sem,auA,auz,auB,e9,e1]
  ·have e1:((d.m.length:Int)=0)=False:=ff (by omega)
   rw [if_neg (fun h=>h.elim (fun h=>nomatch h) a0)]
   obtain ⟨h1,h2,h3,h4⟩:=dE hv ok.lb
   have e2:IntKind.i64.wrap (((ai (ac d.m):Nat):Int)+d.e)=((ai (ac d.m):Nat):Int)+d.e:=by rw [i64_in]; omega
   simp only [mn,re,ae,aj,go_sem,auA,auz,auB,auC,auD,e9,e1,qv ok.lb (Nat.le_trans h1 (by decide)),e2]
theorem Co {d:Rd} (ok:Ok0 d):R F.dyadic_Neg [ae d] []=some (ae (if vd d=false∨d.m.length=0 then aX else ⟨!d.neg,d.m,d.e⟩),[]):=by
 refine aE QO QN (Il false) rfl ?_
 have hl:=ok.len
 have e9:=eF ok
 simp only [ae,aj] at e9
 cases hv:vd d with
 | false =>
  rw [hv] at e9
  rw [if_pos (Or.inl rfl)]
  simp only [mp,ri,ae,aj,aX,go_sem,auA,auz,auB,e9]
 | true =>
  rw [hv] at e9
  by_cases a0:d.m.length=0
  ·have e1:((d.m.length:Int)=0)=True:=tt (by omega)
   rw [if_pos (Or.inr a0)]
   simp only [mp,ri,ae,aj,aX,go_sem,auA,auz,auB,e9,e1]
  ·have e1:((d.m.length:Int)=0)=False:=ff (by omega)
   rw [if_neg (fun h=>h.elim (fun h=>nomatch h) a0)]
   obtain ⟨h1,h2,h3,h4⟩:=dE hv ok.lb
   have hc:=zZ (m:=d.m) (fun h=>a0 (by rw [h]; rfl)) (Nat.le_trans h1 (by decide))
   simp only [mp,ri,ae,aj,go_sem,auA,auz,auB,auC,auD,e9,e1,hc]
theorem IB {d:Rd} (ok:Ok0 d):R F.dyadic_Abs [ae d] []=some (ae (if vd d=false∨d.m.length=0 then aX else ⟨false,d.m,d.e⟩),[]):=by
 refine aE QX QW (Iw false) rfl ?_
 have hl:=ok.len
 have e9:=eF ok
 simp only [ae,aj] at e9
 cases hv:vd d with
 | false =>
  rw [hv] at e9
  rw [if_pos (Or.inl rfl)]
  simp only [mr,rr,ae,aj,aX,go_sem,auA,auz,auB,e9]
 | true =>
  rw [hv] at e9
  by_cases a0:d.m.length=0
  ·have e1:((d.m.length:Int)=0)=True:=tt (by omega)
   rw [if_pos (Or.inr a0)]
   simp only [mr,rr,ae,aj,aX,go_sem,auA,auz,auB,e9,e1]
  ·have e1:((d.m.length:Int)=0)=False:=ff (by omega)
   rw [if_neg (fun h=>h.elim (fun h=>nomatch h) a0)]
   obtain ⟨h1,h2,h3,h4⟩:=dE hv ok.lb
   have hc:=zZ (m:=d.m) (fun h=>a0 (by rw [h]; rfl)) (Nat.le_trans h1 (by decide))
   simp only [mr,rr,ae,aj,go_sem,auA,auz,auB,auC,auD,e9,e1,hc]
end Go.Ab
namespace Go.Ab
open Go Go.IntWalk
set_option maxRecDepth 4000
theorem ve {m:List Nat} (hb:Lb m) (h1:m.length≤256) {k:Nat} (hk:k≤65536) (hl:(aq (ac m*2 ^ k)).length≤256):R F.dyadic_shifted [lm m,I k] []=some (lm (aq (ac m*2 ^ k)),[]):=by
 refine aE FN FM (A5 false) rfl ?_
 have hs:=ZW (n:=(k:Nat)) hb h1
 rw [if_neg (by omega),Int.toNat_natCast,gI,if_neg (by omega)] at hs
 simp only [o7,wj,go_sem,auA,auz,auB,hs]
theorem agn {neg:Bool} {m:List Nat} {e:Int} (hb:Lb m) (hl:m.length < 4611686018427387904):R F.dyadic_Make [B neg,lm m,I e] []=some (if 256 < m.length∨e < -32768∨32768 < e then .tup [ae aX,I 1]
  else if oR (ai (ac (bD neg (ac m) e).m)) (bD neg (ac m) e).e=true then .tup [ae (bD neg (ac m) e),I 0] else .tup [ae aX,I 9],[]):=by
 refine aE Oi Oh (Gl false) rfl ?_
 by_cases a1:256 < m.length
 ·have e1:((256:Int) < m.length)=True:=tt (by omega)
  rw [if_pos (Or.inl a1)]
  simp only [iS,mu,ae,aj,aX,go_sem,auA,auz,auB,e1]
 have e1:((256:Int) < m.length)=False:=ff (by omega)
 by_cases a2:e < -32768∨32768 < e
 ·have e2:(decide (-32768≤e) && decide (e≤32768))=false:=by
   rcases a2 with a2 | a2
   ·rw [decide_eq_false (by omega),Bool.false_and]
   ·rw [decide_eq_false (p:=e≤32768) (by omega),Bool.and_false]
  rw [if_pos (Or.inr a2)]
  simp only [iS,mu,ae,aj,aX,go_sem,auA,auz,auB,e1,yd,e2]
 have e2:(decide (-32768≤e) && decide (e≤32768))=true:=by
  rw [decide_eq_true (by omega),decide_eq_true (by omega)]
  rfl
 rw [if_neg (fun h=>h.elim a1 a2)]
 have hc:=kV (neg:=neg) (e:=e) hb (by omega) ⟨by omega,by omega⟩
 have hL:Lb (bD neg (ac m) e).m:=by
  unfold bD
  split
  ·exact fun x hx=>nomatch hx
  ·exact bo _
 have hN:(bD neg (ac m) e).m.length≤100000:=by
  unfold bD
  split
  ·exact Nat.zero_le _
  ·have h5:(aq (ac m / 2 ^ tz (ac m))).length≤m.length:=hG (Nat.lt_of_le_of_lt (Nat.div_le_self _ _) (dI hb))
   exact Nat.le_trans h5 (by omega)
 have hd:=zY hL hN
 generalize bD neg (ac m) e=d at hc hd ⊢
 simp only [ae,aj] at hc hd
 cases hv:oR (ai (ac d.m)) d.e with
 | false =>
  rw [hv,if_neg (fun h=>nomatch h)] at hd
  rw [if_neg (fun h=>nomatch h)]
  simp only [iS,mu,ae,aj,aX,go_sem,auA,auz,auB,e1,yd,e2,hc,hd]
 | true =>
  rw [hv,if_pos rfl] at hd
  rw [if_pos rfl]
  simp only [iS,mu,ae,aj,go_sem,auA,auz,auB,e1,yd,e2,hc,hd]
def mg (d:Rd):Nat:=ac d.m*2 ^ (d.e+16384).toNat
def zI (d:Rd):Int:=if d.neg=true then -(mg d:Int) else mg d
theorem adc {x y k:Nat} (hk:0 < k):bK (x*k) (y*k)=bK x y:=by
 unfold bK
 have h1:(x*k < y*k)↔x < y:=Nat.mul_lt_mul_right hk
 have h2:(y*k < x*k)↔y < x:=Nat.mul_lt_mul_right hk
 by_cases a:x < y
 ·rw [if_pos a,if_pos (h1.2 a)]
 ·rw [if_neg a,if_neg (fun h=>a (h1.1 h))]
  by_cases b:y < x
  ·rw [if_pos b,if_pos (h2.2 b)]
  ·rw [if_neg b,if_neg (fun h=>b (h2.1 h))]
theorem Aa {x y:Nat} (h:ai x < ai y):x < y:=by
 have h1:=(bO (n:=x) (k:=ai x)).1 (Nat.le_refl _)
 have h2:=iV.1 h
 omega
theorem cE {d:Rd} (h:vd d=true) (h0:d.m.length ≠ 0):ac d.m ≠ 0:=by
 obtain ⟨h1,h2,h3,h4⟩:=wI h h0
 intro hz
 have:=eY d.m 0
 rw [List.drop_zero] at this
 omega
theorem Dj {d:Rd} (h:vd d=true) (hb:Lb d.m) (h0:d.m.length ≠ 0):(ai (mg d):Int)=aJ d+16384:=by
 obtain ⟨h1,h2,h3,h4⟩:=dE h hb
 unfold mg aJ
 rw [dw _ (cE h h0),if_neg (fun h'=>h'.elim (fun h''=>by rw [h] at h''; exact nomatch h'') h0)]
 omega
theorem nM {d:Rd} {e:Int} (h1:-16384≤e) (h2:e≤d.e):mg d=ac d.m*2 ^ (d.e - e).toNat*2 ^ (e+16384).toNat:=by
 unfold mg
 rw [Nat.mul_assoc,← Nat.pow_add]
 congr 2
 omega
theorem aV {n k:Nat} (h:ai n≤32*k):(aq n).length≤k:=by
 refine hG ?_
 have:=bO.1 h
 rw [Nat.pow_mul] at this
 exact this
theorem Xt {a b:Rd} (oa:Ok0 a) (ob:Ok0 b) (va:vd a=true) (vb:vd b=true) (na:a.m.length ≠ 0) (nb:b.m.length ≠ 0):R F.dyadic_compare [ae a,ae b] []=some (I (bK (mg a) (mg b)),[]):=by
 refine aE Fo Fl (AU false) rfl ?_
 have ta:=tJ oa
 have tb:=tJ ob
 have ba:=Dj va oa.lb na
 have bb:=Dj vb ob.lb nb
 simp only [ae,aj] at ta tb
 by_cases h1:aJ a < aJ b
 ·have h2:bK (mg a) (mg b)=-1:=by
   rw [bK,if_pos (Aa (by omega))]
  have e1:(aJ a < aJ b)=True:=tt h1
  rw [h2]
  simp only [im,lJ,ae,aj,go_sem,auA,auz,auB,auC,auD,ta,tb,e1]
 have e1:(aJ a < aJ b)=False:=ff h1
 by_cases h2:aJ b < aJ a
 ·have h3:bK (mg a) (mg b)=1:=by
   have:=Aa (x:=mg b) (y:=mg a) (by omega)
   rw [bK,if_neg (by omega),if_pos this]
  have e2:(aJ b < aJ a)=True:=tt h2
  rw [h3]
  simp only [im,lJ,ae,aj,go_sem,auA,auz,auB,auC,auD,ta,tb,e1,e2]
 have e2:(aJ b < aJ a)=False:=ff h2
 obtain ⟨a1,a2,a3,a4⟩:=dE va oa.lb
 obtain ⟨b1,b2,b3,b4⟩:=dE vb ob.lb
 obtain ⟨e,hm⟩:∃ e,(if b.e < a.e then b.e else a.e)=e:=⟨_,rfl⟩
 have hea:e≤a.e∧e≤b.e∧(e=a.e∨e=b.e):=by
  split at hm <;> omega
 obtain ⟨m1,m2,m3⟩:=hea
 have ka:IntKind.i64.wrap (a.e - e)=(((a.e - e).toNat:Nat):Int):=wi (by omega) (by omega)
 have kb:IntKind.i64.wrap (b.e - e)=(((b.e - e).toNat:Nat):Int):=wi (by omega) (by omega)
 have hta:aJ a=(ai (ac a.m):Nat)+a.e:=by
  rw [aJ,if_neg (fun h'=>h'.elim (fun h''=>by rw [va] at h''; exact nomatch h'') na)]
 have htb:aJ b=(ai (ac b.m):Nat)+b.e:=by
  rw [aJ,if_neg (fun h'=>h'.elim (fun h''=>by rw [vb] at h''; exact nomatch h'') nb)]
 have la:(aq (ac a.m*2 ^ (a.e - e).toNat)).length≤256:=aV (by
  rw [dw _ (cE va na)]
  omega)
 have lb:(aq (ac b.m*2 ^ (b.e - e).toNat)).length≤256:=aV (by
  rw [dw _ (cE vb nb)]
  omega)
 have sa:=ve oa.lb a1 (k:=(a.e - e).toNat) (by omega) la
 have sb:=ve ob.lb b1 (k:=(b.e - e).toNat) (by omega) lb
 have hc:=wF (bo (ac a.m*2 ^ (a.e - e).toNat)) (bo (ac b.m*2 ^ (b.e - e).toNat)) (Nat.le_trans la (by decide)) (Nat.le_trans lb (by decide))
 rw [aW,aW,← adc (k:=2 ^ (e+16384).toNat) (Nat.two_pow_pos _),← nM (by omega) m1,← nM (by omega) m2] at hc
 simp only [im,lJ,ae,aj,go_sem,auA,auz,auB,auC,auD,ta,tb,e1,e2,hm,ka,kb,sa,sb,hc]
end Go.Ab
namespace Go.Ab
open Go Go.IntWalk
set_option maxRecDepth 4000
def bR (x y:Int):Int:=if x < y then -1 else if y < x then 1 else 0
def cu (d:Rd):Int:=if d.m.length=0 then 0 else if d.neg=true then -1 else 1
theorem UQ {d:Rd} (h0:d.m.length=0):mg d=0:=by
 unfold mg
 rw [List.length_eq_zero_iff.1 h0]
 exact Nat.zero_mul _
theorem IC {d:Rd} (h:vd d=true) (h0:d.m.length ≠ 0):0 < mg d :=
 Nat.mul_pos (Nat.pos_of_ne_zero (cE h h0)) (Nat.two_pow_pos _)
theorem Ac (d:Rd) (h:vd d=true):(cu d=0∧zI d=0∧d.m.length=0)∨(cu d=-1∧zI d=-(mg d:Int)∧0 < mg d∧d.m.length ≠ 0)∨(cu d=1∧zI d=mg d∧0 < mg d∧d.m.length ≠ 0):=by
 unfold cu zI
 by_cases h0:d.m.length=0
 ·refine Or.inl ⟨if_pos h0,?_,h0⟩
  rw [UQ h0]
  split <;> rfl
 ·rw [if_neg h0]
  have:=IC h h0
  by_cases hn:d.neg=true
  ·exact Or.inr (Or.inl ⟨if_pos hn,if_pos hn,this,h0⟩)
  ·exact Or.inr (Or.inr ⟨if_neg hn,if_neg hn,this,h0⟩)
theorem wJ {d:Rd} (ok:Ok0 d) (hv:vd d=true):R F.dyadic_Sign [ae d] []=some (I (cu d),[]):=by
 rw [KO ok]
 unfold cu
 by_cases h0:d.m.length=0
 ·rw [if_pos (Or.inr h0),if_pos h0]
 ·rw [if_neg (fun h'=>h'.elim (fun h''=>by rw [hv] at h''; exact nomatch h'') h0),if_neg h0]
theorem vF {a b:Rd} (oa:Ok0 a) (ob:Ok0 b):R F.dyadic_Cmp [ae a,ae b] []=some (I (if vd a=true∧vd b=true then bR (zI a) (zI b) else 0),[]):=by
 refine aE PY PX (HH false) rfl ?_
 have va:=eF oa
 have vb:=eF ob
 simp only [ae,aj] at va vb
 cases ha:vd a with
 | false =>
  rw [ha] at va
  rw [if_neg (fun h=>nomatch h.1)]
  simp only [fV,jc,ae,aj,go_sem,auA,auz,auB,va]
 | true =>
 rw [ha] at va
 cases hb:vd b with
 | false =>
  rw [hb] at vb
  rw [if_neg (fun h=>nomatch h.2)]
  simp only [fV,jc,ae,aj,go_sem,auA,auz,auB,va,vb]
 | true =>
 rw [hb] at vb
 rw [if_pos ⟨rfl,rfl⟩]
 have sa:=wJ oa ha
 have sb:=wJ ob hb
 have ca:=Ac a ha
 have cb:=Ac b hb
 simp only [ae,aj] at sa sb
 by_cases h1:cu a < cu b
 ·have e1:(cu a < cu b)=True:=tt h1
  have e2:bR (zI a) (zI b)=-1:=if_pos (by omega)
  rw [e2]
  simp only [fV,jc,ae,aj,go_sem,auA,auz,auB,auC,auD,va,vb,sa,sb,e1]
 have e1:(cu a < cu b)=False:=ff h1
 by_cases h2:cu b < cu a
 ·have e2:(cu b < cu a)=True:=tt h2
  have e3:bR (zI a) (zI b)=1:=by rw [bR,if_neg (by omega),if_pos (by omega)]
  rw [e3]
  simp only [fV,jc,ae,aj,go_sem,auA,auz,auB,auC,auD,va,vb,sa,sb,e1,e2]
 have e2:(cu b < cu a)=False:=ff h2
 by_cases h3:cu a=0
 ·have e3:(cu a=0)=True:=tt h3
  have e4:bR (zI a) (zI b)=0:=by rw [bR,if_neg (by omega),if_neg (by omega)]
  rw [e4]
  simp only [fV,jc,ae,aj,go_sem,auA,auz,auB,auC,auD,va,vb,sa,sb,e1,e2,e3]
 have e3:(cu a=0)=False:=ff h3
 have hc:=Xt oa ob ha hb (by omega) (by omega)
 simp only [ae,aj] at hc
 have e4:IntKind.i64.wrap (cu a*bK (mg a) (mg b))=bR (zI a) (zI b):=by
  have hp:cu a*bK (mg a) (mg b)=bR (zI a) (zI b):=by
   rcases ca with ca | ca | ca
   ·omega
   ·rw [ca.1,ca.2.1]
    rw [show zI b=-(mg b:Int) by omega]
    unfold bK bR
    by_cases x:mg a < mg b
    ·rw [if_pos x,if_neg (by omega),if_pos (by omega)]; rfl
    ·by_cases y:mg b < mg a
     ·rw [if_neg x,if_pos y,if_pos (by omega)]; rfl
     ·rw [if_neg x,if_neg y,if_neg (by omega),if_neg (by omega)]; rfl
   ·rw [ca.1,ca.2.1]
    rw [show zI b=(mg b:Int) by omega]
    unfold bK bR
    by_cases x:mg a < mg b
    ·rw [if_pos x,if_pos (by omega)]; rfl
    ·by_cases y:mg b < mg a
     ·rw [if_neg x,if_pos y,if_neg (by omega),if_pos (by omega)]; rfl
     ·rw [if_neg x,if_neg y,if_neg (by omega),if_neg (by omega)]; rfl
  rw [hp]
  unfold bR
  split
  ·decide
  ·split <;> decide
 simp only [fV,jc,ae,aj,go_sem,auA,auz,auB,auC,auD,va,vb,sa,sb,e1,e2,e3,hc,e4]
end Go.Ab
namespace Go.Ab
open Go Go.IntWalk
set_option maxRecDepth 4000
theorem Cp (x y:Nat):ai (x*y)≤ai x+ai y:=by
 rw [bO,Nat.pow_add]
 exact Nat.mul_lt_mul'' (bO.1 (Nat.le_refl _)) (bO.1 (Nat.le_refl _))
theorem vG (neg:Bool) (M:Nat) (e:Int):Lb (bD neg M e).m:=by
 unfold bD
 split
 ·exact fun x hx=>nomatch hx
 ·exact bo _
theorem Ad {neg:Bool} {M:Nat} {e:Int} {k:Nat} (h:ai M≤32*k):(bD neg M e).m.length≤k:=by
 unfold bD
 split
 ·exact Nat.zero_le _
 ·refine aV ?_
  rw [hJ]
  omega
def Ae (d:Rd):AV:=if oR (ai (ac d.m)) d.e=true then .tup [ae d,I 0] else .tup [ae aX,I 9]
def OJ (a b:Rd):AV:=if vd a=true∧vd b=true then if a.m.length=0∨b.m.length=0 then .tup [ae aX,I 0] else if 4096 < ai (ac a.m)+ai (ac b.m) - 1 then .tup [ae aX,I 9] else Ae (bD (a.neg != b.neg) (ac a.m*ac b.m) (a.e+b.e)) else .tup [ae aX,I 1]
theorem tK (a b:Bool):(true != (a == b))=(a != b):=by cases a <;> cases b <;> rfl
theorem ago {a b:Rd} (oa:Ok0 a) (ob:Ok0 b):R F.dyadic_Mul [ae a,ae b] []=some (OJ a b,[]):=by
 refine aE Qt Qs (H9 false) rfl ?_
 unfold OJ
 have va:=eF oa
 have vb:=eF ob
 simp only [ae,aj] at va vb
 cases ha:vd a with
 | false =>
  rw [ha] at va
  rw [if_neg (fun h=>nomatch h.1)]
  simp only [eW,gM,ae,aj,aX,go_sem,auA,auz,auB,va]
 | true =>
 rw [ha] at va
 cases hb:vd b with
 | false =>
  rw [hb] at vb
  rw [if_neg (fun h=>nomatch h.2)]
  simp only [eW,gM,ae,aj,aX,go_sem,auA,auz,auB,va,vb]
 | true =>
 rw [hb] at vb
 rw [if_pos ⟨rfl,rfl⟩]
 by_cases a0:a.m.length=0
 ·have e1:((a.m.length:Int)=0)=True:=tt (by omega)
  rw [if_pos (Or.inl a0)]
  simp only [eW,gM,ae,aj,aX,go_sem,auA,auz,auB,va,vb,e1]
 have e1:((a.m.length:Int)=0)=False:=ff (by omega)
 by_cases b0:b.m.length=0
 ·have e2:((b.m.length:Int)=0)=True:=tt (by omega)
  rw [if_pos (Or.inr b0)]
  simp only [eW,gM,ae,aj,aX,go_sem,auA,auz,auB,va,vb,e1,e2]
 have e2:((b.m.length:Int)=0)=False:=ff (by omega)
 rw [if_neg (fun h=>h.elim a0 b0)]
 obtain ⟨a1,a2,a3,a4⟩:=dE ha oa.lb
 obtain ⟨b1,b2,b3,b4⟩:=dE hb ob.lb
 have za:=qv oa.lb (Nat.le_trans a1 (by decide))
 have zb:=qv ob.lb (Nat.le_trans b1 (by decide))
 have pa:=fj (cE ha a0)
 have w1:IntKind.i64.wrap (((ai (ac a.m):Nat):Int)+(ai (ac b.m):Nat))=((ai (ac a.m)+ai (ac b.m):Nat):Int):=wi (by omega) (by omega)
 have w2:IntKind.i64.wrap (((ai (ac a.m)+ai (ac b.m):Nat):Int) - 1)=((ai (ac a.m)+ai (ac b.m) - 1:Nat):Int):=wi (by omega) (by omega)
 by_cases c0:4096 < ai (ac a.m)+ai (ac b.m) - 1
 ·have e3:((4096:Int) < ((ai (ac a.m)+ai (ac b.m) - 1:Nat):Int))=True:=tt (by omega)
  rw [if_pos c0]
  simp only [eW,gM,ae,aj,aX,go_sem,auA,auz,auB,auC,auD,va,vb,e1,e2,za,zb,w1,w2,e3]
 have e3:((4096:Int) < ((ai (ac a.m)+ai (ac b.m) - 1:Nat):Int))=False:=ff (by omega)
 rw [if_neg c0]
 have hp:=Cp (ac a.m) (ac b.m)
 have hl:(aq (ac a.m*ac b.m)).length≤129:=aV (by omega)
 have hm:=ZU oa.lb ob.lb a1 b1
 rw [gI,if_neg (by omega)] at hm
 have w3:IntKind.i64.wrap (a.e+b.e)=a.e+b.e:=i64_in _ ⟨by omega,by omega⟩
 have hc:=kV (neg:=a.neg != b.neg) (e:=a.e+b.e) (bo (ac a.m*ac b.m)) (Nat.le_trans hl (by decide)) ⟨by omega,by omega⟩
 rw [aW] at hc
 have hd:=zY (vG (a.neg != b.neg) (ac a.m*ac b.m) (a.e+b.e)) (Nat.le_trans (Ad (k:=129) (by omega)) (by decide))
 unfold Ae
 generalize bD (a.neg != b.neg) (ac a.m*ac b.m) (a.e+b.e)=d at hc hd ⊢
 simp only [ae,aj] at hc hd
 cases hv:oR (ai (ac d.m)) d.e with
 | false =>
  rw [hv,if_neg (fun h=>nomatch h)] at hd
  rw [if_neg (fun h=>nomatch h)]
  simp only [eW,gM,ae,aj,aX,go_sem,auA,auz,auB,auC,auD,va,vb,e1,e2,za,zb,w1,w2,w3,e3,hm,tK,hc,hd]
 | true =>
  rw [hv,if_pos rfl] at hd
  rw [if_pos rfl]
  simp only [eW,gM,ae,aj,go_sem,auA,auz,auB,auC,auD,va,vb,e1,e2,za,zb,w1,w2,w3,e3,hm,tK,hc,hd]
theorem ID {p:Int}:R F.round_precise [I p] []=some (B (decide (8≤p) && decide (p≤512)),[]):=by
 refine aE It Is (Ch false) rfl ?_
 by_cases a1:¬ (8≤p)
 ·simp only [lT,rp,go_sem,a1]
 replace a1:=Decidable.not_not.1 a1
 simp only [lT,rp,go_sem,a1]
end Go.Ab
namespace Go.Ab
open Go Go.IntWalk
set_option maxRecDepth 4000
theorem Af {m:List Nat} (hb:Lb m):ai (ac m)≤32*m.length:=by
 rw [bO,Nat.pow_mul]
 exact dI hb
def qw (m:List Nat) (e:Int) (more:Bool):AV:=.agg [lm m,I e,B more]
theorem alD {d:Rd}:R F.round_of [ae d] []=some (qw d.m d.e false,[]):=by
 refine aE Xl Xk (NX false) rfl ?_
 simp only [xU,Hy,ae,aj,qw,go_sem,auA,auz,auB]
theorem vH {m:List Nat} (hb:Lb m) (h1:m.length≤256) {k:Nat} (hk:k≤65536) (hl:(aq (ac m*2 ^ k)).length≤256):R F.round_shl [lm m,I k] []=some (lm (aq (ac m*2 ^ k)),[]):=by
 refine aE T9 T8 (KH false) rfl ?_
 have hs:=ZW (n:=(k:Nat)) hb h1
 rw [if_neg (by omega),Int.toNat_natCast,gI,if_neg (by omega)] at hs
 simp only [wr,EG,go_sem,auA,auz,auB,hs]
theorem ZY {x y:Nat}:bK x y=0↔x=y:=by
 unfold bK
 constructor
 ·intro h
  split at h
  ·exact nomatch h
  ·split at h
   ·exact nomatch h
   ·omega
 ·intro h
  rw [if_neg (by omega),if_neg (by omega)]
theorem ade {x n:Nat}:x / 2 ^ (min n (ai x))=x / 2 ^ n∧(x / 2 ^ (min n (ai x))*2 ^ (min n (ai x))=x↔x % 2 ^ n=0):=by
 by_cases h:n≤ai x
 ·rw [Nat.min_eq_left h]
  refine ⟨rfl,?_⟩
  have:=Nat.div_add_mod x (2 ^ n)
  rw [Nat.mul_comm] at this
  omega
 ·have hb:x < 2 ^ ai x:=bO.1 (Nat.le_refl _)
  have hn:x < 2 ^ n:=bO.1 (by omega)
  rw [Nat.min_eq_right (by omega),Nat.div_eq_of_lt hb,Nat.div_eq_of_lt hn,Nat.mod_eq_of_lt hn,Nat.zero_mul]
  exact ⟨rfl,⟨fun h=>h.symm,fun h=>h.symm⟩⟩
theorem KP {m:List Nat} (hb:Lb m) (h1:m.length≤256) {n:Nat} (hn:n < 4611686018427387904):R F.round_shr [lm m,I n] []=some (.tup [lm (aq (ac m / 2 ^ n)),B (decide (ac m % 2 ^ n ≠ 0))],[]):=by
 refine aE Uc Ub (KI false) rfl ?_
 have hB:=Di hb (Nat.le_trans h1 (by decide))
 have hlen:=Af hb
 obtain ⟨q1,q2⟩:=ade (x:=ac m) (n:=n)
 generalize hk:min n (ai (ac m))=k at q1 q2
 have k1:k≤8192:=by omega
 have hs:=ZX (n:=(k:Nat)) hb h1
 rw [if_neg (by omega),Int.toNat_natCast,q1] at hs
 rw [q1] at q2
 have hle:ac m / 2 ^ n*2 ^ k≤ac m:=by
  rw [← q1]
  exact Nat.div_mul_le_self _ _
 have l1:(aq (ac m / 2 ^ n)).length≤m.length:=hG (Nat.lt_of_le_of_lt (Nat.div_le_self _ _) (dI hb))
 have l2:(aq (ac m / 2 ^ n*2 ^ k)).length≤m.length:=hG (Nat.lt_of_le_of_lt hle (dI hb))
 have hl:=vH (bo (ac m / 2 ^ n)) (by omega) (k:=k) (by omega) (by rw [aW]; omega)
 rw [aW] at hl
 have hc:=wF (bo (ac m / 2 ^ n*2 ^ k)) hb (by omega) (by omega)
 rw [aW] at hc
 have hz:decide (ac m % 2 ^ n ≠ 0)=!decide (bK (ac m / 2 ^ n*2 ^ k) (ac m)=0):=by
  rw [← decide_not,decide_eq_decide,ne_eq,not_congr (ZY.trans q2)]
 rw [hz]
 generalize bK (ac m / 2 ^ n*2 ^ k) (ac m)=c at hc ⊢
 by_cases h:ai (ac m) < n
 ·have e2:k=ai (ac m):=by omega
  have e1:((k:Int) < n)=True:=tt (by omega)
  rw [← e2] at hB
  simp only [rq,xV,go_sem,auA,auz,auB,hB,e1,hs,hl,hc]
 ·have e1:(((ai (ac m):Nat):Int) < n)=False:=ff (by omega)
  have e2:k=n:=by omega
  subst e2
  simp only [rq,xV,go_sem,auA,auz,auB,hB,e1,hs,hl,hc]
end Go.Ab
namespace Go.Ab
open Go Go.IntWalk
set_option maxRecDepth 4000
def xu (l:List Rd):List (List AV):=l.map aj
def xv (l:List Rd):AV:=.sl 3 (xu l)
@[go_sem] theorem asj (l:List Rd):(xu l).length=l.length:=by simp [xu]
theorem agp {l:List Rd} {i:Int} {n:Nat} {d:Rd} (hi:i=n) (h:l[n]?=some d):bu (xu l) i=some (.ipt (aj d)):=by
 subst hi
 simp [bu,xu,h]
theorem Xu (p:Int) (l:List Rd) (ok:∀ d ∈ l,Ok0 d) (h2:l.length≤100000):∀ (k i:Nat),i+k=l.length→∀ (s:ag) (h:ab),s 0=I p→s 7=xv l→s 8=I l.length→s 9=I i →
  ∃ hh,aB 0 [0] (aD (am R (aO false) jm) [0,7,8,9] [] s h)=if ((l.drop i).all vd)=true then some (.normal,⟨upd (fun _=>.any) 0 (I p),fun _=>.dead⟩) else some (.ret,⟨upd (fun _=>.any) 4 (I 1),hh⟩):=by
 intro k
 induction k with
 | zero =>
  intro i hi s h h0 h7 h8 h9
  have e1:((i:Int) < l.length)=False:=ff (by omega)
  rw [List.drop_eq_nil_of_le (by omega),ao,List.all_nil,if_pos rfl]
  refine ⟨fun _=>.dead,?_⟩
  simp only [jm,go_sem,h0,h7,h8,h9,e1]
 | succ k ih =>
  intro i hi s h h0 h7 h8 h9
  have hlt:i < l.length:=by omega
  have e1:((i:Int) < l.length)=True:=tt (by omega)
  have e2:bu (xu l) (i:Int)=some (.ipt (aj l[i])):=agp rfl (List.getElem?_eq_getElem hlt)
  have e5:IntKind.i64.wrap ((i:Int)+1)=((i+1:Nat):Int):=wi (by omega) (by omega)
  have e3:=eF (ok l[i] (List.getElem_mem hlt))
  rw [List.drop_eq_getElem_cons hlt,List.all_cons,ao]
  have ih':=ih (i+1) (by omega)
  generalize l[i]=d at e2 e3 ⊢
  simp only [ae] at e3
  simp only [aj] at e2 e3
  generalize aD _ _ _=L at ih' ⊢
  cases hv:vd d with
  | false =>
   rw [hv] at e3
   refine ⟨?hh,?_⟩
   rotate_left
   rw [Bool.false_and,if_neg Bool.false_ne_true]
   simp only [jm,go_sem,auA,auz,auB,h0,h7,h8,h9,xv,e1,e2,e3]
   rfl
  | true =>
   rw [hv] at e3
   rw [Bool.true_and]
   simp only [jm,go_sem,auA,auz,auB,h0,h7,h8,h9,xv,e1,e2,e3,e5]
   exact ih' _ _ rfl rfl rfl rfl
def bC (p:Int) (l:List Rd):Int:=if l.all vd=true then (if 8≤p∧p≤512 then 0 else 2) else 1
theorem Ag {p:Int} {l:List Rd} (ok:∀ d ∈ l,Ok0 d) (h2:l.length≤100000):R F.round_fault [I p,xv l] []=some (I (bC p l),[]):=by
 refine aE NV NU (F5 false) rfl ?_
 have h3:=Xu p l ok h2 l.length 0 (Nat.zero_add _)
 simp only [List.drop_zero,Int.natCast_zero] at h3
 unfold bC
 cases ha:l.all vd with
 | false =>
  rw [ha] at h3
  simp only [if_neg (fun h:false=true=>nomatch h)] at h3 ⊢
  simp only [kM,pR,go_sem,xv]
  rw [(h3 _ _ rfl rfl rfl rfl).choose_spec]
  simp only [go_sem]
 | true =>
  rw [ha] at h3
  simp only [] at h3 ⊢
  by_cases hp:8≤p∧p≤512
  ·have e1:(decide (8≤p) && decide (p≤512))=true:=by rw [decide_eq_true hp.1,decide_eq_true hp.2]; rfl
   have e2:=ID (p:=p)
   rw [e1] at e2
   rw [if_pos hp]
   simp only [kM,pR,go_sem,xv]
   rw [(h3 _ _ rfl rfl rfl rfl).choose_spec]
   simp only [go_sem,auA,auz,e2]
  ·have e1:(decide (8≤p) && decide (p≤512))=false:=by
    by_cases h8:8≤p
    ·rw [decide_eq_false (p:=p≤512) (fun h=>hp ⟨h8,h⟩),Bool.and_false]
    ·rw [decide_eq_false h8,Bool.false_and]
   have e2:=ID (p:=p)
   rw [e1] at e2
   rw [if_neg hp]
   simp only [kM,pR,go_sem,xv]
   rw [(h3 _ _ rfl rfl rfl rfl).choose_spec]
   simp only [go_sem,auA,auz,e2]
end Go.Ab
namespace Go.Ab
open Go Go.IntWalk
set_option maxRecDepth 4000
def de:Cmd:=.seq (.seq (.ops [1,2,6,8,9,55] [cm 52 2,cm 53 52,cg 54 53 true (.mv (.t 10)),co 55 (.pick (.t 53) (.t 54) (.c (.v (.bool false))))]) (.cond (.t 55) (.ops [1,2,6,8,9] [cm 57 9,⟨(some 58),none,.buildSl 1 [(.v (.int .u32 0))] 1 [(0,(.c (.v (.int .u32 1))))]⟩,⟨(some 59),none,.call (.c (.fn F.natural_Add [] [])) [(.t 57),(.t 58)]⟩,cm 56 59,co 60 (.ext 0 (.t 56)),co 61 (.ext 1 (.t 56)),cm 9 60]) (.skip))) (.seq (.seq (.ops [1,2,6,8,9,66] [cm 62 9,⟨(some 63),none,.call (.c (.fn F.natural_Bits [] [])) [(.t 62)]⟩,cm 64 8,co 65 (.bin .add (.t 63) (.t 64)),co 66 (.bin .gtr (.t 65) (.c (.v (.int .i64 16384))))]) (.cond (.t 66) (.seq (.seq (.ops [1,6,67] [cm 67 2]) (.cond (.t 67) (.seq (.ops [6,7] [co 68 (.build [(.v (.bool false)),.emp,(.v (.int .i64 0))] []),⟨none,none,.store 3 (.t 6) (.t 68)⟩,co 7 (.mv (.c (.v (.int .i64 9))))]) (.ret)) (.skip))) (.seq (.ops [1,6,9] [⟨(some 70),none,.buildSl 1 [(.v (.int .u32 0))] 1 [(0,(.c (.v (.int .u32 1))))]⟩,cm 71 1,⟨(some 72),none,.call (.c (.fn F.round_shl [] [])) [(.t 70),(.t 71)]⟩,⟨(some 73),none,.buildSl 1 [(.v (.int .u32 0))] 1 [(0,(.c (.v (.int .u32 1))))]⟩,⟨(some 74),none,.call (.c (.fn F.natural_Sub [] [])) [(.t 72),(.t 73)]⟩,cm 69 74,co 75 (.ext 0 (.t 69)),co 76 (.ext 1 (.t 69)),cm 9 75]) (.ops [6,8,9] [cm 77 1,co 78 (.bin .sub (.c (.v (.int .i64 16384))) (.t 77)),cm 8 78]))) (.skip))) (.seq (.ops [6,7] [cm 79 9,cm 80 8,⟨(some 81),none,.call (.c (.fn F.dyadic_Make [] [])) [(.c (.v (.bool false))),(.t 79),(.t 80)]⟩,co 82 (.ext 0 (.t 81)),co 83 (.ext 1 (.t 81)),⟨none,none,.store 3 (.t 6) (.t 82)⟩,cm 7 83]) (.ret)))
theorem qi:EF=.seq (.ops [1,2,3,6] [⟨(some 3),none,.box 3 (.t 0)⟩,⟨(some 6),none,.alloc [(.v (.bool false)),.emp,(.v (.int .i64 0))]⟩,co 7 (.mv (.c (.v (.int .i64 0))))]) (.seq (.dops [1,2,3,6,8] [co 13 (.fadr 1 (.t 3)),⟨(some 14),none,.load 1 false (.t 13)⟩,co 15 (.fadr 0 (.t 3)),⟨(some 16),none,.load 1 false (.t 15)⟩,⟨(some 17),none,.call (.c (.fn F.natural_Bits [] [])) [(.t 16)]⟩,co 18 (.bin .add (.t 14) (.t 17)),cm 19 1,co 20 (.bin .sub (.t 18) (.t 19)),co 21 (.mnx false (.t 20) [(.c (.v (.int .i64 (-16384))))]),cm 8 21] [(1,4)]) (.seq (.dops [1,2,3,6,8,10] [co 22 (.fadr 0 (.t 3)),⟨(some 23),none,.load 1 false (.t 22)⟩,co 24 (.fadr 2 (.t 3)),⟨(some 25),none,.load 1 false (.t 24)⟩,cm 9 23,cm 10 25] []) (.seq (.seq (.ops [1,2,3,6,8,10,29] [co 26 (.fadr 1 (.t 3)),⟨(some 27),none,.load 1 false (.t 26)⟩,cm 28 8,co 29 (.bin .geq (.t 27) (.t 28))]) (.cond (.t 29) (.ops [1,2,6,8,9,10] [co 30 (.fadr 0 (.t 3)),⟨(some 31),none,.load 1 false (.t 30)⟩,co 32 (.fadr 1 (.t 3)),⟨(some 33),none,.load 1 false (.t 32)⟩,cm 34 8,co 35 (.bin .sub (.t 33) (.t 34)),⟨(some 36),none,.call (.c (.fn F.round_shl [] [])) [(.t 31),(.t 35)]⟩,cm 9 36]) (.seq (.ops [1,2,6,8,10,11,12] [co 38 (.fadr 0 (.t 3)),⟨(some 39),none,.load 1 false (.t 38)⟩,cm 40 8,co 41 (.fadr 1 (.t 3)),⟨(some 42),none,.load 1 false (.t 41)⟩,co 43 (.bin .sub (.t 40) (.t 42)),⟨(some 44),none,.call (.c (.fn F.round_shr [] [])) [(.t 39),(.t 43)]⟩,cm 37 44,co 45 (.ext 0 (.t 37)),co 46 (.ext 1 (.t 37)),cm 11 45,cm 12 46]) (.ops [1,2,6,8,9,10] [cm 47 11,cm 48 10,cm 49 48,cg 50 49 false (.mv (.t 12)),co 51 (.pick (.t 49) (.c (.v (.bool true))) (.t 50)),cm 9 47,cm 10 51])))) de))):=rfl
def dL (M:Nat) (e:Int) (p:Int):Int:=if e+(ai M:Nat) - p < -16384 then -16384 else e+(ai M:Nat) - p
def nN (M:Nat) (e:Int) (more:Bool) (u:Int):Nat × Bool:=if u≤e then (M*2 ^ (e - u).toNat,more) else (M / 2 ^ (u - e).toNat,more || decide (M % 2 ^ (u - e).toNat ≠ 0))
def kl (up:Bool) (q:Nat × Bool):Nat:=if (up && q.2)=true then q.1+1 else q.1
def vf (q:Nat) (u:Int):AV:=Ae (bD false q u)
def Rk (p:Int) (up:Bool) (q:Nat) (u:Int):AV:=if 16384 < (ai q:Nat)+u then (if up=true then .tup [ae aX,I 9] else vf (2 ^ p.toNat - 1) (16384 - p)) else vf q u
theorem UR {q:Nat} {u:Int} (hq:ai q≤8192) (h1:-32768≤u) (h2:u≤32768):R F.dyadic_Make [B false,lm (aq q),I u] []=some (vf q u,[]):=by
 have hl:(aq q).length≤256:=aV (by omega)
 rw [agn (bo q) (Nat.lt_of_le_of_lt hl (by decide)),if_neg (by omega),aW]
 rfl
theorem ZZ {q:Nat} (hq:ai q≤8000):R F.natural_Add [lm (aq q),lm [1]] []=some (.tup [lm (aq (q+1)),I 0],[]):=by
 have hl:(aq q).length≤250:=aV (by omega)
 have h1:Lb [1]:=fun x hx=>by
  rw [List.mem_singleton.1 hx]
  decide
 have h2:ai (q+1)≤8001:=Gs hq
 have hl2:(aq (q+1)).length≤256:=aV (by omega)
 rw [ZN (bo q) h1 (by omega) (by decide),aW]
 show some (gI (q+1),[])=_
 rw [gI,if_neg (by omega)]
theorem KQ:ac [1]=1:=rfl
theorem Z0:Lb [1]:=fun x hx=>by
 rw [List.mem_singleton.1 hx]
 decide
theorem ai1 (n:Nat) (hn:n≤1000):R F.round_shl [lm [1],I (n:Nat)] []=some (lm (aq (2 ^ n)),[])∧R F.natural_Sub [lm (aq (2 ^ n)),lm [1]] []=some (.tup [lm (aq (2 ^ n - 1)),I 0],[]):=by
 have hb:ai (2 ^ n)≤n+1:=by
  rw [bO]
  exact Nat.pow_lt_pow_right (by decide) (Nat.lt_succ_self n)
 have h1:(aq (2 ^ n)).length≤256:=aV (by omega)
 have h2:=vH Z0 (by decide) (k:=n) (by omega) (by rw [KQ,Nat.one_mul]; exact h1)
 rw [KQ,Nat.one_mul] at h2
 have h3:=ZP (bo (2 ^ n)) Z0 h1 (by decide)
 have h4:0 < 2 ^ n:=Nat.two_pow_pos n
 have h5:ai (2 ^ n - 1)≤n:=by
  rw [bO]
  omega
 have h6:(aq (2 ^ n - 1)).length≤256:=aV (by omega)
 rw [aW,KQ,if_neg (by omega),gI,if_neg (by omega)] at h3
 exact ⟨h2,h3⟩
theorem wK:AV.sl 1 [[AV.v (.int .u32 1)]]=lm [1]:=rfl
theorem Gt {n:Nat} {u:Int} {up more:Bool} {q:Nat} (hp:8≤n∧n≤512) (hq:ai q≤7000) (hu:-16384≤u∧u≤60000) (s:ag) (z:Ob)
  (h1:s 1=I (n:Nat)) (h2:s 2=B up) (h6:s 6=.ref 6 none 0 0 0) (h8:s 8=I u) (h9:s 9=lm (aq q)) (h10:s 10=B more) :
  gq false [[.o 0 [],.o 2 [],.o 0 []],[]] [.cell 6 3 true,.t 7] 0 (am R (aO false) de s (upd (upd (fun _=>.dead) 3 z) 6 (.bx [.v (.bool false),.emp,.v (.int .i64 0)])))=some (Rk (n:Nat) up (kl up (q,more)) u,[]):=by
 have hi:=ZZ (q:=q) (by omega)
 obtain ⟨t1,t2⟩:=ai1 n (by omega)
 have hb:ai (kl up (q,more))≤7001:=by
  unfold kl
  split
  ·exact Gs hq
  ·exact Nat.le_trans hq (by decide)
 have hB:=Di (bo (kl up (q,more))) (Nat.le_trans (aV (k:=256) (by omega)) (by decide))
 rw [aW] at hB
 have w1:IntKind.i64.wrap (((ai (kl up (q,more)):Nat):Int)+u)=((ai (kl up (q,more)):Nat):Int)+u:=i64_in _ ⟨by omega,by omega⟩
 have w2:IntKind.i64.wrap (16384 - (n:Int))=16384 - (n:Int):=i64_in _ ⟨by omega,by omega⟩
 have hm2:R F.dyadic_Make [B false,lm (aq (2 ^ n - 1)),I (16384 - (n:Int))] []=some (vf (2 ^ n - 1) (16384 - (n:Int)),[]):=UR (ac7 (by omega)) (by omega) (by omega)
 unfold Rk
 by_cases ho:16384 < ((ai (kl up (q,more)):Nat):Int)+u
 ·have e1:(16384 < ((ai (kl up (q,more)):Nat):Int)+u)=True:=tt ho
  rw [if_pos ho,Int.toNat_natCast]
  clear ho hb
  cases up with
  | false =>
   simp only [kl,Bool.false_and,if_neg Bool.false_ne_true] at hB w1 e1 ⊢
   unfold vf Ae at hm2 ⊢
   generalize bD false (2 ^ n - 1) (16384 - (n:Int))=dd at hm2 ⊢
   simp only [ae,aj] at hm2
   cases hv:oR (ai (ac dd.m)) dd.e with
   | true =>
    rw [hv] at hm2
    rw [if_pos rfl] at hm2 ⊢
    simp only [de,ae,aj,go_sem,auA,auz,auB,auC,h1,h2,h6,h8,h9,h10,hB,w1,e1,w2,t1,t2,wK,hm2]
   | false =>
    rw [hv] at hm2
    rw [if_neg Bool.false_ne_true] at hm2 ⊢
    simp only [de,ae,aj,aX,go_sem,auA,auz,auB,auC,h1,h2,h6,h8,h9,h10,hB,w1,e1,w2,t1,t2,wK,hm2]
  | true =>
   cases more with
   | false =>
    simp only [kl,Bool.and_false,if_neg Bool.false_ne_true] at hB w1 e1 ⊢
    simp only [de,ae,aj,aX,go_sem,auA,auz,auB,auC,h1,h2,h6,h8,h9,h10,hB,w1,e1]
   | true =>
    simp only [kl,Bool.and_true,if_true] at hB w1 e1 ⊢
    simp only [de,ae,aj,aX,go_sem,auA,auz,auB,auC,h1,h2,h6,h8,h9,h10,hB,w1,e1,hi,wK]
 ·have e1:(16384 < ((ai (kl up (q,more)):Nat):Int)+u)=False:=ff ho
  rw [if_neg ho]
  have hm:=UR (q:=kl up (q,more)) (u:=u) (by omega) (by omega) (by omega)
  clear ho hb
  cases up with
  | false =>
   simp only [kl,Bool.false_and,if_neg Bool.false_ne_true] at hB w1 e1 hm ⊢
   unfold vf Ae at hm ⊢
   generalize bD false q u=dd at hm ⊢
   simp only [ae,aj] at hm
   cases hv:oR (ai (ac dd.m)) dd.e with
   | true =>
    rw [hv] at hm
    rw [if_pos rfl] at hm ⊢
    simp only [de,ae,aj,go_sem,auA,auz,auB,auC,h1,h2,h6,h8,h9,h10,hB,w1,e1,hm]
   | false =>
    rw [hv] at hm
    rw [if_neg Bool.false_ne_true] at hm ⊢
    simp only [de,ae,aj,aX,go_sem,auA,auz,auB,auC,h1,h2,h6,h8,h9,h10,hB,w1,e1,hm]
  | true =>
   cases more with
   | false =>
    simp only [kl,Bool.and_false,if_neg Bool.false_ne_true] at hB w1 e1 hm ⊢
    unfold vf Ae at hm ⊢
    generalize bD false q u=dd at hm ⊢
    simp only [ae,aj] at hm
    cases hv:oR (ai (ac dd.m)) dd.e with
    | true =>
     rw [hv] at hm
     rw [if_pos rfl] at hm ⊢
     simp only [de,ae,aj,go_sem,auA,auz,auB,auC,h1,h2,h6,h8,h9,h10,hB,w1,e1,hm]
    | false =>
     rw [hv] at hm
     rw [if_neg Bool.false_ne_true] at hm ⊢
     simp only [de,ae,aj,aX,go_sem,auA,auz,auB,auC,h1,h2,h6,h8,h9,h10,hB,w1,e1,hm]
   | true =>
    simp only [kl,Bool.and_true,if_true] at hB w1 e1 hm ⊢
    unfold vf Ae at hm ⊢
    generalize bD false (q+1) u=dd at hm ⊢
    simp only [ae,aj] at hm
    cases hv:oR (ai (ac dd.m)) dd.e with
    | true =>
     rw [hv] at hm
     rw [if_pos rfl] at hm ⊢
     simp only [de,ae,aj,go_sem,auA,auz,auB,auC,h1,h2,h6,h8,h9,h10,hB,w1,e1,hi,wK,hm]
    | false =>
     rw [hv] at hm
     rw [if_neg Bool.false_ne_true] at hm ⊢
     simp only [de,ae,aj,aX,go_sem,auA,auz,auB,auC,h1,h2,h6,h8,h9,h10,hB,w1,e1,hi,wK,hm]
theorem ai2 {M:List Nat} (hb:Lb M) (hl:M.length≤256) {e:Int} {n:Nat} {more up:Bool} (he:-40000≤e∧e≤40000) (hp:8≤n∧n≤512):R F.round_cut [qw M e more,I (n:Nat),B up] []=some (Rk (n:Nat) up (kl up (nN (ac M) e more (dL (ac M) e (n:Nat)))) (dL (ac M) e (n:Nat)),[]):=by
 refine aE T6 T5 (KG false) rfl ?_
 have hB:=Di hb (Nat.le_trans hl (by decide))
 have hlen:=Af hb
 have w1:IntKind.i64.wrap (e+(ai (ac M):Nat))=e+(ai (ac M):Nat):=i64_in _ ⟨by omega,by omega⟩
 have w2:IntKind.i64.wrap (e+(ai (ac M):Nat) - (n:Nat))=e+(ai (ac M):Nat) - (n:Nat):=i64_in _ ⟨by omega,by omega⟩
 obtain ⟨u,hu⟩:∃ u,dL (ac M) e (n:Nat)=u:=⟨_,rfl⟩
 rw [hu]
 unfold dL at hu
 unfold nN
 have hu1:-16384≤u∧e+(ai (ac M):Nat) - (n:Nat)≤u∧(u=-16384∨u=e+(ai (ac M):Nat) - (n:Nat)):=by
  split at hu <;> omega
 by_cases hc:u≤e
 ·have e1:(u≤e)=True:=tt hc
  rw [if_pos hc]
  have w3:IntKind.i64.wrap (e - u)=(((e - u).toNat:Nat):Int):=wi (by omega) (by omega)
  have hq:ai (ac M*2 ^ (e - u).toNat)≤7000:=by
   by_cases h0:ac M=0
   ·rw [h0,Nat.zero_mul]
    exact Nat.zero_le _
   ·rw [dw _ h0]
    omega
  by_cases h64:(e - u).toNat≤65536
  ·have hs:=vH hb (by omega) (k:=(e - u).toNat) h64 (aV (by omega))
   simp only [nH,qi,qw,go_sem,auA,auz,auB,auC,auD,hB,w1,w2,hu,e1,w3,hs]
   exact Gt hp hq (by omega) _ _ rfl rfl rfl rfl rfl rfl
  ·omega
 ·have e1:(u≤e)=False:=ff hc
  rw [if_neg hc]
  have w3:IntKind.i64.wrap (u - e)=(((u - e).toNat:Nat):Int):=wi (by omega) (by omega)
  have hs:=KP hb (by omega) (n:=(u - e).toNat) (by omega)
  have hq:ai (ac M / 2 ^ (u - e).toNat)≤7000:=by
   rw [hJ]
   omega
  cases more with
  | false =>
   rw [Bool.false_or]
   simp only [nH,qi,qw,go_sem,auA,auz,auB,auC,auD,hB,w1,w2,hu,e1,w3,hs]
   exact Gt hp hq (by omega) _ _ rfl rfl rfl rfl rfl rfl
  | true =>
   rw [Bool.true_or]
   simp only [nH,qi,qw,go_sem,auA,auz,auB,auC,auD,hB,w1,w2,hu,e1,w3,hs]
   exact Gt hp hq (by omega) _ _ rfl rfl rfl rfl rfl rfl
end Go.Ab
namespace Go.Ab
open Go Go.IntWalk
set_option maxRecDepth 4000
def dk (d:Rd):Rd × Int:=if oR (ai (ac d.m)) d.e=true then (d,0) else (aX,9)
def rD (p:Int) (up:Bool) (q:Nat) (u:Int):Rd × Int:=if 16384 < (ai q:Nat)+u then (if up=true then (aX,9) else dk (bD false (2 ^ p.toNat - 1) (16384 - p))) else dk (bD false q u)
def rV (r:Rd × Int):AV:=.tup [ae r.1,I r.2]
theorem Dk (d:Rd):Ae d=rV (dk d):=by
 unfold Ae dk
 split <;> rfl
theorem agq (p:Int) (up:Bool) (q:Nat) (u:Int):Rk p up q u=rV (rD p up q u):=by
 unfold Rk rD vf
 split
 ·split
  ·rfl
  ·exact Dk _
 ·exact Dk _
theorem adf (n:Nat):ai (2 ^ n - 1)≤n:=by
 rw [bO]
 have:=Nat.two_pow_pos n
 omega
theorem ags (p:Int) (up:Bool) (q:Nat) (u:Int):Lb (rD p up q u).1.m:=by
 have h0:Lb aX.m:=fun x hx=>nomatch hx
 have hc:∀ d:Rd,Lb d.m→Lb (dk d).1.m:=fun d hd=>by
  unfold dk
  split
  ·exact hd
  ·exact h0
 unfold rD
 split
 ·split
  ·exact h0
  ·exact hc _ (vG _ _ _)
 ·exact hc _ (vG _ _ _)
theorem adg (p:Int) (up:Bool) (q:Nat) (u:Int) (hp:p.toNat≤8000) (hq:ai q≤8000):(rD p up q u).1.m.length≤256:=by
 have h0:aX.m.length≤256:=Nat.zero_le _
 have hc:∀ d:Rd,d.m.length≤256→(dk d).1.m.length≤256:=fun d hd=>by
  unfold dk
  split
  ·exact hd
  ·exact h0
 unfold rD
 split
 ·split
  ·exact h0
  ·exact hc _ (Ad (Nat.le_trans (adf _) (by omega)))
 ·exact hc _ (Ad (by omega))
def fR (d:Rd):Rd:=if vd d=false∨d.m.length=0 then aX else ⟨!d.neg,d.m,d.e⟩
def eG (M:Nat) (e:Int) (more:Bool) (p:Int) (up:Bool):Rd × Int:=rD p up (kl up (nN M e more (dL M e p))) (dL M e p)
def lX (neg:Bool) (r:Rd × Int):Rd × Int:=if r.2=0∧neg=true then (fR r.1,r.2) else r
theorem Z3 {M:Nat} {e:Int} {more up:Bool} {n:Nat} (_hM:ai M≤8192) (hp:8≤n∧n≤512) (_he:-40000≤e∧e≤40000):ai (kl up (nN M e more (dL M e (n:Nat))))≤7001:=by
 have hq:ai (nN M e more (dL M e (n:Nat))).1≤7000:=by
  obtain ⟨u,hu⟩:∃ u,dL M e (n:Nat)=u:=⟨_,rfl⟩
  rw [hu]
  unfold dL at hu
  have hu1:-16384≤u∧e+(ai M:Nat) - (n:Nat)≤u∧(u=-16384∨u=e+(ai M:Nat) - (n:Nat)):=by
   split at hu <;> omega
  unfold nN
  split
  ·by_cases h0:M=0
   ·rw [h0,Nat.zero_mul]
    exact Nat.zero_le _
   ·rw [dw _ h0]
    omega
  ·rw [hJ]
   omega
 generalize nN M e more (dL M e (n:Nat))=q at hq ⊢
 unfold kl
 split
 ·exact Gs hq
 ·exact Nat.le_trans hq (by decide)
theorem Cq {M:List Nat} (hb:Lb M) (hl:M.length≤256) {e:Int} {n:Nat} {more up neg:Bool} (he:-40000≤e∧e≤40000) (hp:8≤n∧n≤512):R F.round_signed [B neg,qw M e more,I (n:Nat),B up] []=some (rV (lX neg (eG (ac M) e more (n:Nat) (up != neg))),[]):=by
 refine aE Ko Kn (D6 false) rfl ?_
 have hc:=ai2 (more:=more) (up:=up != neg) hb hl he hp
 have hlen:=Af hb
 have hB:=Z3 (M:=ac M) (e:=e) (more:=more) (up:=up != neg) (by omega) hp he
 rw [agq] at hc
 have hL:=ags (n:Nat) (up != neg) (kl (up != neg) (nN (ac M) e more (dL (ac M) e (n:Nat)))) (dL (ac M) e (n:Nat))
 have hN:=adg (n:Nat) (up != neg) (kl (up != neg) (nN (ac M) e more (dL (ac M) e (n:Nat)))) (dL (ac M) e (n:Nat)) (by omega) (by omega)
 unfold eG
 generalize rD (n:Nat) (up != neg) (kl (up != neg) (nN (ac M) e more (dL (ac M) e (n:Nat)))) (dL (ac M) e (n:Nat))=r at hc hL hN ⊢
 obtain ⟨d,x⟩:=r
 have hn:=Co (d:=d) ⟨hL,Nat.lt_of_le_of_lt hN (by decide)⟩
 simp only [rV,ae,aj,qw] at hc hn
 unfold lX fR
 by_cases hx:x=0
 ·have e1:(x=0)=True:=tt hx
  cases neg with
  | false =>
   rw [if_neg (fun h=>nomatch h.2)]
   simp only [j1,oA,rV,ae,aj,qw,go_sem,auA,auz,auB,tK,hc,e1]
  | true =>
   rw [if_pos ⟨hx,rfl⟩]
   generalize (if vd d=false∨d.m.length=0 then aX else (⟨!d.neg,d.m,d.e⟩:Rd))=d2 at hn ⊢
   simp only [j1,oA,rV,ae,aj,qw,go_sem,auA,auz,auB,tK,hc,e1,hn]
 ·have e1:(x=0)=False:=ff hx
  rw [if_neg (fun h=>hx h.1)]
  simp only [j1,oA,rV,ae,aj,qw,go_sem,auA,auz,auB,tK,hc,e1]
end Go.Ab
namespace Go.Ab
open Go Go.IntWalk
set_option maxRecDepth 4000
def mw (d:Rd) (p:Int) (up:Bool):Rd × Int:=if bC p [d]=0 then lX d.neg (eG (ac d.m) d.e false p (up != d.neg)) else (aX,bC p [d])
theorem qx {p:Int} {l:List Rd} (h:bC p l=0):l.all vd=true∧8≤p∧p≤512:=by
 unfold bC at h
 split at h
 ·rename_i h1
  split at h
  ·rename_i h2
   exact ⟨h1,h2⟩
  ·exact nomatch h
 ·exact nomatch h
theorem wL {d:Rd} (h:vd d=true) (hb:Lb d.m):d.m.length≤128:=by
 obtain ⟨h1,h2,h3,h4⟩:=dE h hb
 by_cases h0:d.m.length=0
 ·omega
 obtain ⟨g1,g2,g3,g4⟩:=wI h h0
 have h5:4294967296 ^ (d.m.length - 1)≤ac d.m:=by
  have h6:=AM (a:=d.m) (i:=d.m.length - 1) (by omega)
  rw [show d.m.length - 1+1=d.m.length by omega,List.take_length] at h6
  rw [h6]
  exact Nat.le_trans (Nat.le_mul_of_pos_right _ (Nat.pos_of_ne_zero g3)) (Nat.le_add_left _ _)
 have h7:32*(d.m.length - 1) < ai (ac d.m):=by
  rw [iV,Nat.pow_mul]
  exact h5
 omega
theorem Ah {d:Rd} (ok:Ok0 d) {p:Int} {up:Bool}:R F.round_round [ae d,I p,B up] []=some (rV (mw d p up),[]):=by
 refine aE Nz Ny (FU false) rfl ?_
 have hf:R F.round_fault [I p,.sl 3 [[B d.neg,lm d.m,I d.e]]] []=some (I (bC p [d]),[]):=Ag (p:=p) (l:=[d]) (fun x hx=>by rw [List.mem_singleton.1 hx]; exact ok) (show 1≤100000 by decide)
 unfold mw
 by_cases h0:bC p [d]=0
 ·obtain ⟨v1,v2,v3⟩:=qx h0
  have v4:vd d=true:=by simpa using v1
  obtain ⟨h1,h2,h3,h4⟩:=dE v4 ok.lb
  have h5:=wL v4 ok.lb
  rw [if_pos h0]
  rw [h0] at hf
  obtain ⟨n,rfl⟩:=Int.eq_ofNat_of_zero_le (show 0≤p by omega)
  have hs:=Cq (M:=d.m) (e:=d.e) (n:=n) (more:=false) (up:=up) (neg:=d.neg) ok.lb (by omega) ⟨by omega,by omega⟩ ⟨by omega,by omega⟩
  have ho:=alD (d:=d)
  generalize lX d.neg (eG (ac d.m) d.e false (n:Nat) (up != d.neg))=r at hs ⊢
  simp only [rV,ae,aj,qw] at hs ho
  simp only [og,ud,rV,ae,aj,go_sem,auA,auz,auB,auC,auD,hf,hs,ho]
 ·have e1:(bC p [d]=0)=False:=ff h0
  rw [if_neg h0]
  simp only [og,ud,rV,ae,aj,aX,go_sem,auA,auz,auB,auC,hf,e1]
theorem ai3 {d:Rd} (ok:Ok0 d) {p:Int}:R F.round_Up [ae d,I p] []=some (rV (mw d p true),[]):=by
 refine aE WU WT (M3 false) rfl ?_
 have hr:=Ah ok (p:=p) (up:=true)
 generalize mw d p true=r at hr ⊢
 simp only [rV,ae,aj] at hr
 simp only [xO,Hs,rV,ae,aj,go_sem,auA,auz,auB,hr]
theorem adh {d:Rd} (ok:Ok0 d) {p:Int}:R F.round_Down [ae d,I p] []=some (rV (mw d p false),[]):=by
 refine aE Qq Qp (H2 false) rfl ?_
 have hr:=Ah ok (p:=p) (up:=false)
 generalize mw d p false=r at hr ⊢
 simp only [rV,ae,aj] at hr
 simp only [ub,BK,rV,ae,aj,go_sem,auA,auz,auB,hr]
end Go.Ab
namespace Go.Ab
open Go Go.IntWalk
set_option maxRecDepth 4000
def Cr (a b:Rd) (p:Int) (up:Bool):Rd × Int:=if bC p [a,b]=0 then (if a.m.length=0∨b.m.length=0 then (aX,0) else lX (a.neg != b.neg) (eG (ac a.m*ac b.m) (a.e+b.e) false p (up != (a.neg != b.neg)))) else (aX,bC p [a,b])
theorem US {a b:Rd} (oa:Ok0 a) (ob:Ok0 b) {p:Int} {up:Bool}:R F.round_mul [ae a,ae b,I p,B up] []=some (rV (Cr a b p up),[]):=by
 refine aE TQ TP (Kb false) rfl ?_
 have hf:R F.round_fault [I p,.sl 3 [[B a.neg,lm a.m,I a.e],[B b.neg,lm b.m,I b.e]]] []=some (I (bC p [a,b]),[]):=Ag (p:=p) (l:=[a,b]) (fun x hx=>by
  rcases List.mem_cons.1 hx with h | h
  ·rw [h]; exact oa
  ·rw [List.mem_singleton.1 h]; exact ob) (show 2≤100000 by decide)
 unfold Cr
 by_cases h0:bC p [a,b]=0
 ·obtain ⟨v1,v2,v3⟩:=qx h0
  have v4:vd a=true∧vd b=true:=by simpa using v1
  obtain ⟨va,vb⟩:=v4
  obtain ⟨a1,a2,a3,a4⟩:=dE va oa.lb
  obtain ⟨b1,b2,b3,b4⟩:=dE vb ob.lb
  rw [if_pos h0]
  rw [h0] at hf
  by_cases a0:a.m.length=0
  ·have e1:((a.m.length:Int)=0)=True:=tt (by omega)
   rw [if_pos (Or.inl a0)]
   simp only [kJ,pB,rV,ae,aj,aX,go_sem,auA,auz,auB,auC,hf,e1]
  have e1:((a.m.length:Int)=0)=False:=ff (by omega)
  by_cases b0:b.m.length=0
  ·have e2:((b.m.length:Int)=0)=True:=tt (by omega)
   rw [if_pos (Or.inr b0)]
   simp only [kJ,pB,rV,ae,aj,aX,go_sem,auA,auz,auB,auC,hf,e1,e2]
  have e2:((b.m.length:Int)=0)=False:=ff (by omega)
  rw [if_neg (fun h=>h.elim a0 b0)]
  obtain ⟨n,rfl⟩:=Int.eq_ofNat_of_zero_le (show 0≤p by omega)
  have hp:=Cp (ac a.m) (ac b.m)
  have hl:(aq (ac a.m*ac b.m)).length≤256:=aV (by omega)
  have hm:=ZU oa.lb ob.lb a1 b1
  rw [gI,if_neg (by omega)] at hm
  have w3:IntKind.i64.wrap (a.e+b.e)=a.e+b.e:=i64_in _ ⟨by omega,by omega⟩
  have hs:=Cq (M:=aq (ac a.m*ac b.m)) (e:=a.e+b.e) (n:=n) (more:=false) (up:=up) (neg:=a.neg != b.neg) (bo _) hl ⟨by omega,by omega⟩ ⟨by omega,by omega⟩
  rw [aW] at hs
  generalize lX (a.neg != b.neg) (eG (ac a.m*ac b.m) (a.e+b.e) false (n:Nat) (up != (a.neg != b.neg)))=r at hs ⊢
  simp only [rV,ae,aj,qw] at hs
  simp only [kJ,pB,rV,ae,aj,go_sem,auA,auz,auB,auC,hf,e1,e2,hm,w3,tK,hs]
 ·have e1:(bC p [a,b]=0)=False:=ff h0
  rw [if_neg h0]
  simp only [kJ,pB,rV,ae,aj,aX,go_sem,auA,auz,auB,auC,hf,e1]
theorem adi {a b:Rd} (oa:Ok0 a) (ob:Ok0 b) {p:Int}:R F.round_MulUp [ae a,ae b,I p] []=some (rV (Cr a b p true),[]):=by
 refine aE Nf Nd (FA false) rfl ?_
 have hr:=US oa ob (p:=p) (up:=true)
 generalize Cr a b p true=r at hr ⊢
 simp only [rV,ae,aj] at hr
 simp only [si,AA,rV,ae,aj,go_sem,auA,auz,auB,hr]
theorem Xv {a b:Rd} (oa:Ok0 a) (ob:Ok0 b) {p:Int}:R F.round_MulDown [ae a,ae b,I p] []=some (rV (Cr a b p false),[]):=by
 refine aE Ig If (B5 false) rfl ?_
 have hr:=US oa ob (p:=p) (up:=false)
 generalize Cr a b p false=r at hr ⊢
 simp only [rV,ae,aj] at hr
 simp only [p8,xp,rV,ae,aj,go_sem,auA,auz,auB,hr]
end Go.Ab
namespace Go.Ab
open Go Go.IntWalk
set_option maxRecDepth 4000
theorem ai4 {n:Int} (hn:I64 n):R F.dyadic_Int [I n] []=some (ae (bD (decide (n < 0)) n.natAbs 0),[]):=by
 refine aE Qw Qv (Ia false) rfl ?_
 obtain ⟨h1,h2⟩:=hn
 obtain ⟨x,hx⟩:∃ x:Nat,n.natAbs=x:=⟨_,rfl⟩
 have hv:ac [x % 4294967296,x / 4294967296]=x:=by
  show x % 4294967296+4294967296*(x / 4294967296+4294967296*0)=x
  omega
 have hL:Lb [x % 4294967296,x / 4294967296]:=fun y hy=>by
  rcases List.mem_cons.1 hy with h | h
  ·omega
  ·rw [List.mem_singleton.1 h]
   omega
 have hc:∀ neg,R F.dyadic_canonical [B neg,.sl 1 [[.v (.int .u32 ((x % 4294967296:Nat):Int))],[.v (.int .u32 ((x / 4294967296:Nat):Int))]],I 0] []=some (ae (bD neg x 0),[]):=fun neg=>by
  have:=kV (neg:=neg) (e:=0) hL (by show 2≤256; decide) ⟨by decide,by decide⟩
  rw [hv] at this
  exact this
 have w2:IntKind.u32.wrap (x:Int)=((x % 4294967296:Nat):Int):=KM rfl
 have w3:IntKind.u32.wrap ((x / 4294967296:Nat):Int)=((x / 4294967296:Nat):Int):=AL rfl (by omega)
 have w4:dZ .shr (.v (.int .u64 (x:Int))) (.v (.int .u64 32))=some (.v (.int .u64 ((x / 4294967296:Nat):Int))):=rC (k:=32) rfl rfl (by decide)
 rw [hx]
 by_cases h0:n < 0
 ·have e1:(n < 0)=True:=tt h0
  have w5:IntKind.u64.wrap (0 - IntKind.u64.wrap n)=(x:Int):=by
   have q:∀ z:Int,IntKind.u64.wrap z=z % 18446744073709551616:=fun z=>rfl
   rw [q,q]
   omega
  have hc':=hc (decide (n < 0))
  generalize bD (decide (n < 0)) x 0=d at hc' ⊢
  rw [decide_eq_true h0] at hc'
  simp only [ae,aj] at hc'
  simp only [pM,wh,ae,aj,go_sem,auA,auz,auB,auC,e1,w2,w3,w4,w5,hc']
 ·have e1:(n < 0)=False:=ff h0
  have w5:IntKind.u64.wrap n=(x:Int):=gj (by omega) (by omega)
  have hc':=hc (decide (n < 0))
  generalize bD (decide (n < 0)) x 0=d at hc' ⊢
  rw [decide_eq_false h0] at hc'
  simp only [ae,aj] at hc'
  simp only [pM,wh,ae,aj,go_sem,auA,auz,auB,auC,e1,w2,w3,w4,w5,hc']
end Go.Ab
namespace Go.Ab
open Go Go.IntWalk
set_option maxRecDepth 4000
def pm (a b:Rd) (p:Int):Int :=
 if aJ a - aJ b≤2 then (if b.e < (if aJ a - p - 8 < a.e then aJ a - p - 8 else a.e) then b.e else (if aJ a - p - 8 < a.e then aJ a - p - 8 else a.e))
 else (if aJ a - p - 8 < a.e then aJ a - p - 8 else a.e)
def yZ (b:Rd) (l:Int):Nat × Bool:=if l≤b.e then (ac b.m*2 ^ (b.e - l).toNat,false) else (ac b.m / 2 ^ (l - b.e).toNat,decide (ac b.m % 2 ^ (l - b.e).toNat ≠ 0))
def m9 (y:Nat × Bool):Nat:=if y.2=true then y.1+1 else y.1
def ur (a b:Rd) (p:Int):(Nat × Int × Bool) × Bool :=
 let l:=pm a b p
 let x:=ac a.m*2 ^ (a.e - l).toNat
 let y:=yZ b l
 if a.neg=b.neg then ((x+y.1,l,y.2),false)
 else if x < m9 y then ((m9 y - x,l,false),true)
 else ((x - m9 y,l,y.2),false)
theorem KR {a b:Rd} {p:Int}:pm a b p≤a.e:=by
 unfold pm
 have h:(if aJ a - p - 8 < a.e then aJ a - p - 8 else a.e)≤a.e:=by
  split <;> omega
 generalize (if aJ a - p - 8 < a.e then aJ a - p - 8 else a.e)=z at h ⊢
 split
 ·split <;> omega
 ·exact h
theorem fk {d:Rd} (h:vd d=true) (h0:d.m.length ≠ 0):aJ d=(ai (ac d.m):Nat)+d.e:=by
 rw [aJ,if_neg (fun h'=>h'.elim (fun h''=>by rw [h] at h''; exact nomatch h'') h0)]
theorem Gu {a b:Rd} {p:Int} (va:vd a=true) (vb:vd b=true) (la:Lb a.m) (lb:Lb b.m) (na:a.m.length ≠ 0) (nb:b.m.length ≠ 0) (hp:8≤p∧p≤512) (ht:aJ b≤aJ a) :
  aJ a - pm a b p≤4098:=by
 obtain ⟨a1,a2,a3,a4⟩:=dE va la
 obtain ⟨b1,b2,b3,b4⟩:=dE vb lb
 have e1:=fk va na
 have e2:=fk vb nb
 unfold pm
 have h:aJ a - (if aJ a - p - 8 < a.e then aJ a - p - 8 else a.e)≤4098:=by
  split <;> omega
 generalize (if aJ a - p - 8 < a.e then aJ a - p - 8 else a.e)=z at h ⊢
 split
 ·split <;> omega
 ·exact h
end Go.Ab
namespace Go.Ab
open Go Go.IntWalk
set_option maxRecDepth 4000
def ia:Cmd:=.seq (.seq (.ops [6,8,9,10,11,68] [co 64 (.fadr 0 (.t 3)),⟨(some 65),none,.load 1 false (.t 64)⟩,co 66 (.fadr 0 (.t 4)),⟨(some 67),none,.load 1 false (.t 66)⟩,co 68 (.eqc false 0 (.t 65) (.t 67))]) (.cond (.t 68) (.seq (.ops [6,8,11,12] [cm 70 9,cm 71 10,⟨(some 72),none,.call (.c (.fn F.natural_Add [] [])) [(.t 70),(.t 71)]⟩,cm 69 72,co 73 (.ext 0 (.t 69)),co 74 (.ext 1 (.t 69)),cm 12 73,cm 13 74]) (.seq (.ops [6,7] [cm 75 12,cm 76 8,cm 77 11,co 78 (.build [.emp,(.v (.int .i64 0)),(.v (.bool false))] [(0,1,(.t 75)),(1,1,(.t 76)),(2,1,(.t 77))]),⟨none,none,.store 3 (.t 6) (.t 78)⟩,co 7 (.mv (.c (.v (.bool false))))]) (.ret))) (.skip))) (.seq (.seq (.ops [6,8,9,10,11,79] [cm 79 11]) (.cond (.t 79) (.ops [6,8,9,10,11] [cm 81 10,⟨(some 82),none,.buildSl 1 [(.v (.int .u32 0))] 1 [(0,(.c (.v (.int .u32 1))))]⟩,⟨(some 83),none,.call (.c (.fn F.natural_Add [] [])) [(.t 81),(.t 82)]⟩,cm 80 83,co 84 (.ext 0 (.t 80)),co 85 (.ext 1 (.t 80)),cm 10 84]) (.skip))) (.seq (.seq (.ops [6,8,9,10,11,89] [cm 86 9,cm 87 10,⟨(some 88),none,.call (.c (.fn F.natural_Cmp [] [])) [(.t 86),(.t 87)]⟩,co 89 (.bin .lss (.t 88) (.c (.v (.int .i64 0))))]) (.cond (.t 89) (.seq (.ops [6,8,14] [cm 91 10,cm 92 9,⟨(some 93),none,.call (.c (.fn F.natural_Sub [] [])) [(.t 91),(.t 92)]⟩,cm 90 93,co 94 (.ext 0 (.t 90)),co 95 (.ext 1 (.t 90)),cm 14 94,cm 15 95]) (.seq (.ops [6,7] [cm 96 14,cm 97 8,co 98 (.build [.emp,(.v (.int .i64 0)),(.v (.bool false))] [(0,1,(.t 96)),(1,1,(.t 97)),(2,1,(.c (.v (.bool false))))]),⟨none,none,.store 3 (.t 6) (.t 98)⟩,co 7 (.mv (.c (.v (.bool true))))]) (.ret))) (.skip))) (.seq (.ops [6,8,11,16] [cm 100 9,cm 101 10,⟨(some 102),none,.call (.c (.fn F.natural_Sub [] [])) [(.t 100),(.t 101)]⟩,cm 99 102,co 103 (.ext 0 (.t 99)),co 104 (.ext 1 (.t 99)),cm 16 103,cm 17 104]) (.seq (.ops [6,7] [cm 105 16,cm 106 8,cm 107 11,co 108 (.build [.emp,(.v (.int .i64 0)),(.v (.bool false))] [(0,1,(.t 105)),(1,1,(.t 106)),(2,1,(.t 107))]),⟨none,none,.store 3 (.t 6) (.t 108)⟩,co 7 (.mv (.c (.v (.bool false))))]) (.ret)))))
theorem j6:EE=.seq (.ops [2,3,4,6] [⟨(some 3),none,.box 3 (.t 0)⟩,⟨(some 4),none,.box 3 (.t 1)⟩,⟨(some 6),none,.alloc [.emp,(.v (.int .i64 0)),(.v (.bool false))]⟩,co 7 (.mv (.c (.v (.bool false))))]) (.seq (.dops [3,4,6,8] [co 18 (.fadr 2 (.t 3)),⟨(some 19),none,.load 1 false (.t 18)⟩,⟨(some 20),none,.load 3 true (.t 3)⟩,⟨(some 21),none,.call (.c (.fn F.dyadic_Top [] [])) [(.t 20)]⟩,cm 22 2,co 23 (.bin .sub (.t 21) (.t 22)),co 24 (.bin .sub (.t 23) (.c (.v (.int .i64 8)))),co 25 (.mnx true (.t 19) [(.t 24)]),cm 8 25] [(1,3)]) (.seq (.seq (.dops [3,4,6,8,31] [⟨(some 26),none,.load 3 true (.t 3)⟩,⟨(some 27),none,.call (.c (.fn F.dyadic_Top [] [])) [(.t 26)]⟩,⟨(some 28),none,.load 3 true (.t 4)⟩,⟨(some 29),none,.call (.c (.fn F.dyadic_Top [] [])) [(.t 28)]⟩,co 30 (.bin .sub (.t 27) (.t 29)),co 31 (.bin .leq (.t 30) (.c (.v (.int .i64 2))))] [(1,2)]) (.cond (.t 31) (.ops [3,4,6,8] [cm 32 8,co 33 (.fadr 2 (.t 4)),⟨(some 34),none,.load 1 false (.t 33)⟩,co 35 (.mnx true (.t 32) [(.t 34)]),cm 8 35]) (.skip))) (.seq (.ops [3,4,6,8,9] [co 36 (.fadr 1 (.t 3)),⟨(some 37),none,.load 1 false (.t 36)⟩,co 38 (.fadr 2 (.t 3)),⟨(some 39),none,.load 1 false (.t 38)⟩,cm 40 8,co 41 (.bin .sub (.t 39) (.t 40)),⟨(some 42),none,.call (.c (.fn F.round_shl [] [])) [(.t 37),(.t 41)]⟩,cm 9 42]) (.seq (.ops [3,4,6,8,9] [co 10 (.mv (.c .emp))]) (.seq (.ops [3,4,6,8,9,11] [co 11 (.mv (.c (.v (.bool false))))]) (.seq (.seq (.ops [3,4,6,8,9,11,46] [co 43 (.fadr 2 (.t 4)),⟨(some 44),none,.load 1 false (.t 43)⟩,cm 45 8,co 46 (.bin .geq (.t 44) (.t 45))]) (.cond (.t 46) (.ops [3,4,6,8,9,10,11] [co 47 (.fadr 1 (.t 4)),⟨(some 48),none,.load 1 false (.t 47)⟩,co 49 (.fadr 2 (.t 4)),⟨(some 50),none,.load 1 false (.t 49)⟩,cm 51 8,co 52 (.bin .sub (.t 50) (.t 51)),⟨(some 53),none,.call (.c (.fn F.round_shl [] [])) [(.t 48),(.t 52)]⟩,cm 10 53]) (.ops [3,4,6,8,9,10,11] [co 55 (.fadr 1 (.t 4)),⟨(some 56),none,.load 1 false (.t 55)⟩,cm 57 8,co 58 (.fadr 2 (.t 4)),⟨(some 59),none,.load 1 false (.t 58)⟩,co 60 (.bin .sub (.t 57) (.t 59)),⟨(some 61),none,.call (.c (.fn F.round_shr [] [])) [(.t 56),(.t 60)]⟩,cm 54 61,co 62 (.ext 0 (.t 54)),co 63 (.ext 1 (.t 54)),cm 10 62,cm 11 63]))) ia)))))):=rfl
def KS (an bn:Bool) (X Y:Nat) (l:Int) (lost:Bool):(Nat × Int × Bool) × Bool :=
 if an=bn then ((X+Y,l,lost),false) else if X < m9 (Y,lost) then ((m9 (Y,lost) - X,l,false),true) else ((X - m9 (Y,lost),l,lost),false)
def sV (r:(Nat × Int × Bool) × Bool):AV:=.tup [qw (aq r.1.1) r.1.2.1 r.1.2.2,B r.2]
theorem wM {x y k:Nat} (hx:ai x≤k) (hy:ai y≤k):ai (x+y)≤k+1:=by
 rw [bO] at hx hy ⊢
 rw [Nat.pow_succ]
 omega
theorem UT {x y:Nat} (hx:ai x≤5000) (hy:ai y≤5000):R F.natural_Add [lm (aq x),lm (aq y)] []=some (.tup [lm (aq (x+y)),I 0],[]):=by
 have h1:(aq x).length≤200:=aV (by omega)
 have h2:(aq y).length≤200:=aV (by omega)
 have h3:=wM hx hy
 have h4:(aq (x+y)).length≤200:=aV (by omega)
 rw [ZN (bo x) (bo y) (by omega) (by omega),aW,aW,gI,if_neg (by omega)]
theorem Dl {x y:Nat} (hx:ai x≤5000) (hy:ai y≤5000) (h:y≤x):R F.natural_Sub [lm (aq x),lm (aq y)] []=some (.tup [lm (aq (x - y)),I 0],[]):=by
 have h1:(aq x).length≤200:=aV (by omega)
 have h2:(aq y).length≤200:=aV (by omega)
 have h3:ai (x - y)≤5000:=by
  rw [bO] at hx ⊢
  omega
 have h4:(aq (x - y)).length≤200:=aV (by omega)
 rw [ZP (bo x) (bo y) (by omega) (by omega),aW,aW,if_neg (by omega),gI,if_neg (by omega)]
theorem Ai {an bn:Bool} {ma mb:AV} {ea eb:AV} {X Y:Nat} {l:Int} {lost:Bool} (hX:ai X≤4100) (hY:ai Y≤4100) (s:ag)
  (h3:s 3=.ref 3 none 0 0 0) (h4:s 4=.ref 4 none 0 0 0) (h6:s 6=.ref 6 none 0 0 0) (h8:s 8=I l) (h9:s 9=lm (aq X)) (h10:s 10=lm (aq Y)) (h11:s 11=B lost) :
  gq false [[.o 2 [],.o 0 [],.o 0 []],[]] [.cell 6 3 true,.t 7] 0 (am R (aO false) ia s (upd (upd (upd (fun _=>.dead) 3 (.bx [.v (.bool an),ma,ea])) 4 (.bx [.v (.bool bn),mb,eb])) 6 (.bx [.emp,.v (.int .i64 0),.v (.bool false)])))=some (sV (KS an bn X Y l lost),[]):=by
 unfold KS
 by_cases hs:an=bn
 ·subst hs
  rw [if_pos rfl]
  have e1:(false != (an == an))=true:=by cases an <;> rfl
  have ha:=UT (x:=X) (y:=Y) (by omega) (by omega)
  simp only [ia,sV,qw,go_sem,auA,auz,auB,h3,h4,h6,h8,h9,h10,h11,e1,ha]
 ·rw [if_neg hs]
  have e1:(false != (an == bn))=false:=by cases an <;> cases bn <;> first | rfl | exact absurd rfl hs
  have hU:ai (m9 (Y,lost))≤4101:=by
   unfold m9
   split
   ·exact wM hY (ac8 _)
   ·exact Nat.le_trans hY (by decide)
  have hi:=ZZ (q:=Y) (by omega)
  have hc:=wF (bo X) (bo (m9 (Y,lost))) (Nat.le_trans (aV (k:=200) (by omega)) (by decide)) (Nat.le_trans (aV (k:=200) (by omega)) (by decide))
  rw [aW,aW] at hc
  by_cases hx:X < m9 (Y,lost)
  ·have ha:=Dl (x:=m9 (Y,lost)) (y:=X) (by omega) (by omega) (by omega)
   rw [if_pos hx]
   rw [bK,if_pos hx] at hc
   cases lost with
   | false =>
    simp only [m9,if_neg Bool.false_ne_true] at hc ha ⊢
    simp only [ia,sV,qw,go_sem,auA,auz,auB,auC,auE,h3,h4,h6,h8,h9,h10,h11,e1,hc,ha]
   | true =>
    simp only [m9,if_true] at hc ha ⊢
    simp only [ia,sV,qw,go_sem,auA,auz,auB,auC,auE,h3,h4,h6,h8,h9,h10,h11,e1,wK,hi,hc,ha]
  ·have ha:=Dl (x:=X) (y:=m9 (Y,lost)) (by omega) (by omega) (by omega)
   rw [if_neg hx]
   have hd:(bK X (m9 (Y,lost)) < 0)=False:=ff (by
    unfold bK
    rw [if_neg hx]
    split <;> decide)
   cases lost with
   | false =>
    simp only [m9,if_neg Bool.false_ne_true] at hc ha hd ⊢
    simp only [ia,sV,qw,go_sem,auA,auz,auB,auC,h3,h4,h6,h8,h9,h10,h11,e1,hc,hd,ha]
   | true =>
    simp only [m9,if_true] at hc ha hd ⊢
    simp only [ia,sV,qw,go_sem,auA,auz,auB,auC,h3,h4,h6,h8,h9,h10,h11,e1,wK,hi,hc,hd,ha]
end Go.Ab
namespace Go.Ab
open Go Go.IntWalk
set_option maxRecDepth 4000
theorem KT (a b:Rd) (p:Int):ur a b p=KS a.neg b.neg (ac a.m*2 ^ (a.e - pm a b p).toNat) (yZ b (pm a b p)).1 (pm a b p) (yZ b (pm a b p)).2:=rfl
theorem ai5 {a b:Rd} (oa:Ok0 a) (ob:Ok0 b) (va:vd a=true) (vb:vd b=true) (na:a.m.length ≠ 0) (nb:b.m.length ≠ 0) {p:Int} (hp:8≤p∧p≤512) (ht:aJ b≤aJ a) :
  R F.round_sum [ae a,ae b,I p] []=some (sV (ur a b p),[]):=by
 refine aE T3 T2 (Kq false) rfl ?_
 have ta:=tJ oa
 have tb:=tJ ob
 simp only [ae,aj] at ta tb
 have e1:=fk va na
 have e2:=fk vb nb
 obtain ⟨a1,a2,a3,a4⟩:=dE va oa.lb
 obtain ⟨b1,b2,b3,b4⟩:=dE vb ob.lb
 have l1:=KR (a:=a) (b:=b) (p:=p)
 have l2:=Gu va vb oa.lb ob.lb na nb hp ht
 have w1:IntKind.i64.wrap (aJ a - p)=aJ a - p:=i64_in _ ⟨by omega,by omega⟩
 have w2:IntKind.i64.wrap (aJ a - p - 8)=aJ a - p - 8:=i64_in _ ⟨by omega,by omega⟩
 have w3:IntKind.i64.wrap (aJ a - aJ b)=aJ a - aJ b:=i64_in _ ⟨by omega,by omega⟩
 rw [KT]
 obtain ⟨l,hl⟩:∃ l,pm a b p=l:=⟨_,rfl⟩
 rw [hl] at l1 l2 ⊢
 unfold pm at hl
 obtain ⟨z,hz⟩:∃ z,(if aJ a - p - 8 < a.e then aJ a - p - 8 else a.e)=z:=⟨_,rfl⟩
 rw [hz] at hl
 have w4:IntKind.i64.wrap (a.e - l)=(((a.e - l).toNat:Nat):Int):=wi (by omega) (by omega)
 have hX:ai (ac a.m*2 ^ (a.e - l).toNat)≤4100:=by
  rw [dw _ (cE va na)]
  omega
 have sX:=vH oa.lb a1 (k:=(a.e - l).toNat) (by omega) (aV (by omega))
 by_cases h2:aJ a - aJ b≤2
 ·have f1:(aJ a - aJ b≤2)=True:=tt h2
  rw [if_pos h2] at hl
  by_cases hb:l≤b.e
  ·have f2:(l≤b.e)=True:=tt hb
   have w5:IntKind.i64.wrap (b.e - l)=(((b.e - l).toNat:Nat):Int):=wi (by omega) (by omega)
   have hY:ai (ac b.m*2 ^ (b.e - l).toNat)≤4100:=by
    rw [dw _ (cE vb nb)]
    omega
   have sY:=vH ob.lb b1 (k:=(b.e - l).toNat) (by omega) (aV (by omega))
   rw [yZ,if_pos hb]
   simp only [kN,j6,ae,aj,go_sem,auA,auz,auB,auC,auD,ta,tb,w1,w2,w3,w4,w5,hz,hl,f1,f2,sX,sY]
   exact Ai hX hY _ rfl rfl rfl rfl rfl rfl rfl
  ·have f2:(l≤b.e)=False:=ff hb
   have w5:IntKind.i64.wrap (l - b.e)=(((l - b.e).toNat:Nat):Int):=wi (by omega) (by omega)
   have hY:ai (ac b.m / 2 ^ (l - b.e).toNat)≤4100:=by
    rw [hJ]
    omega
   have sY:=KP ob.lb b1 (n:=(l - b.e).toNat) (by omega)
   rw [yZ,if_neg hb]
   simp only [kN,j6,ae,aj,go_sem,auA,auz,auB,auC,auD,ta,tb,w1,w2,w3,w4,w5,hz,hl,f1,f2,sX,sY]
   exact Ai hX hY _ rfl rfl rfl rfl rfl rfl rfl
 ·have f1:(aJ a - aJ b≤2)=False:=ff h2
  rw [if_neg h2] at hl
  by_cases hb:l≤b.e
  ·have f2:(l≤b.e)=True:=tt hb
   have w5:IntKind.i64.wrap (b.e - l)=(((b.e - l).toNat:Nat):Int):=wi (by omega) (by omega)
   have hY:ai (ac b.m*2 ^ (b.e - l).toNat)≤4100:=by
    rw [dw _ (cE vb nb)]
    omega
   have sY:=vH ob.lb b1 (k:=(b.e - l).toNat) (by omega) (aV (by omega))
   rw [yZ,if_pos hb]
   simp only [kN,j6,ae,aj,go_sem,auA,auz,auB,auC,auD,ta,tb,w1,w2,w3,w4,w5,hz,hl,f1,f2,sX,sY]
   exact Ai hX hY _ rfl rfl rfl rfl rfl rfl rfl
  ·have f2:(l≤b.e)=False:=ff hb
   have w5:IntKind.i64.wrap (l - b.e)=(((l - b.e).toNat:Nat):Int):=wi (by omega) (by omega)
   have hY:ai (ac b.m / 2 ^ (l - b.e).toNat)≤4100:=by
    rw [hJ]
    omega
   have sY:=KP ob.lb b1 (n:=(l - b.e).toNat) (by omega)
   rw [yZ,if_neg hb]
   simp only [kN,j6,ae,aj,go_sem,auA,auz,auB,auC,auD,ta,tb,w1,w2,w3,w4,w5,hz,hl,f1,f2,sX,sY]
   exact Ai hX hY _ rfl rfl rfl rfl rfl rfl rfl
end Go.Ab
namespace Go.Ab
open Go Go.IntWalk
set_option maxRecDepth 4000
def Rl (a b:Rd) (p:Int) (up:Bool):Rd × Int :=
 let s:=ur a b p
 if s.1.1=0∧s.1.2.2=false then (aX,0) else lX (a.neg != s.2) (eG s.1.1 s.1.2.1 s.1.2.2 p (up != (a.neg != s.2)))
def KU (a b:Rd) (p:Int) (up:Bool):Rd × Int :=
 if bC p [a,b]=0 then (if a.m.length=0 then mw b p up else if b.m.length=0 then mw a p up else if aJ a < aJ b then Rl b a p up else Rl a b p up)
 else (aX,bC p [a,b])
theorem Gv {a b:Rd} (oa:Ok0 a) (ob:Ok0 b) {p:Int} {up:Bool} (h:bC p [a,b] ≠ 0∨a.m.length=0∨b.m.length=0):R F.round_add [ae a,ae b,I p,B up] []=some (rV (KU a b p up),[]):=by
 refine aE EJ EI (yM false) rfl ?_
 have hf:R F.round_fault [I p,.sl 3 [[B a.neg,lm a.m,I a.e],[B b.neg,lm b.m,I b.e]]] []=some (I (bC p [a,b]),[]):=Ag (p:=p) (l:=[a,b]) (fun x hx=>by
  rcases List.mem_cons.1 hx with h | h
  ·rw [h]; exact oa
  ·rw [List.mem_singleton.1 h]; exact ob) (show 2≤100000 by decide)
 have ra:=Ah oa (p:=p) (up:=up)
 have rb:=Ah ob (p:=p) (up:=up)
 unfold KU
 generalize mw a p up=qa at ra ⊢
 generalize mw b p up=qb at rb ⊢
 simp only [rV,ae,aj] at ra rb
 by_cases h0:bC p [a,b]=0
 ·rw [if_pos h0]
  rw [h0] at hf
  by_cases a0:a.m.length=0
  ·have e1:((a.m.length:Int)=0)=True:=tt (by omega)
   rw [if_pos a0]
   simp only [jk,pA,rV,ae,aj,go_sem,auA,auz,auB,auC,hf,e1,rb]
  have e1:((a.m.length:Int)=0)=False:=ff (by omega)
  have b0:b.m.length=0:=(h.resolve_left (fun h'=>h' h0)).resolve_left a0
  have e2:((b.m.length:Int)=0)=True:=tt (by omega)
  rw [if_neg a0,if_pos b0]
  simp only [jk,pA,rV,ae,aj,go_sem,auA,auz,auB,auC,hf,e1,e2,ra]
 ·have e1:(bC p [a,b]=0)=False:=ff h0
  rw [if_neg h0]
  simp only [jk,pA,rV,ae,aj,aX,go_sem,auA,auz,auB,auC,hf,e1]
end Go.Ab
namespace Go.Ab
open Go Go.IntWalk
set_option maxRecDepth 4000
theorem adj {N k:Nat} {f u:Int} {more:Bool} (hm:more=decide (N % 2 ^ k ≠ 0)) (hu:more=true→f+k < u):nN (N / 2 ^ k) (f+k) more u=nN N f false u:=by
 unfold nN
 by_cases h:u≤f+k
 ·rw [if_pos h]
  have hf:more=false:=by
   cases more with
   | false=>rfl
   | true=>exact absurd (hu rfl) (by omega)
  subst hf
  have h0:N % 2 ^ k=0:=by
   have:=of_decide_eq_false hm.symm
   omega
  obtain ⟨M,rfl⟩:=Nat.dvd_of_mod_eq_zero h0
  rw [Nat.mul_div_cancel_left _ (Nat.two_pow_pos k)]
  by_cases h2:u≤f
  ·rw [if_pos h2,show (f+k - u).toNat=k+(f - u).toNat by omega,Nat.pow_add,Nat.mul_comm (2 ^ k) M,Nat.mul_assoc]
  ·rw [if_neg h2]
   obtain ⟨j,hj⟩:∃ j,(f+k - u).toNat=j:=⟨_,rfl⟩
   obtain ⟨i,hi⟩:∃ i,(u - f).toNat=i:=⟨_,rfl⟩
   have hk:k=i+j:=by omega
   rw [hj,hi,hk,Nat.pow_add,Nat.mul_assoc,Nat.mul_div_cancel_left _ (Nat.two_pow_pos i),Nat.mul_mod_right,Nat.mul_comm M]
   rfl
 ·rw [if_neg h,if_neg (by omega)]
  obtain ⟨j,hj⟩:∃ j,(u - (f+k)).toNat=j:=⟨_,rfl⟩
  rw [show (u - f).toNat=k+j by omega,hj,Nat.pow_add,Nat.div_div_eq_div_mul,Nat.mod_mul,hm]
  refine Prod.ext rfl ?_
  show (decide (N % 2 ^ k ≠ 0) || decide (N / 2 ^ k % 2 ^ j ≠ 0))=(false || decide (N % 2 ^ k+2 ^ k*(N / 2 ^ k % 2 ^ j) ≠ 0))
  have h2:=Nat.two_pow_pos k
  rw [Bool.false_or,← Bool.decide_or]
  congr 1
  refine propext ⟨fun h3 h4=>?_,fun h3=>?_⟩
  ·obtain ⟨h5,h6⟩:=Nat.add_eq_zero_iff.1 h4
   rcases Nat.mul_eq_zero.1 h6 with h7 | h7
   ·omega
   ·exact h3.elim (fun h8=>h8 h5) (fun h8=>h8 h7)
  ·by_cases h5:N % 2 ^ k=0
   ·refine Or.inr fun h6=>h3 ?_
    rw [h5,h6,Nat.mul_zero]
   ·exact Or.inl h5
theorem Z4 {N k:Nat} {f p:Int} (hM:N / 2 ^ k ≠ 0):dL (N / 2 ^ k) (f+k) p=dL N f p:=by
 have h1:=fj hM
 rw [hJ] at h1
 unfold dL
 rw [hJ,show f+(k:Int)+((ai N - k:Nat):Int) - p=f+(ai N:Nat) - p by omega]
theorem UU {N k:Nat} {f p:Int} {more up:Bool} (hM:N / 2 ^ k ≠ 0) (hm:more=decide (N % 2 ^ k ≠ 0)) (hp:more=true→p < (ai (N / 2 ^ k):Nat)):eG (N / 2 ^ k) (f+k) more p up=eG N f false p up:=by
 unfold eG
 have hu:more=true→f+k < dL (N / 2 ^ k) (f+k) p:=fun h=>by
  have:=hp h
  unfold dL
  split <;> omega
 rw [adj hm hu,Z4 hM]
theorem Cs {M k:Nat} {f p:Int} {up:Bool} (hM:M ≠ 0):eG (M*2 ^ k) f false p up=eG M (f+k) false p up:=by
 have h1:M*2 ^ k / 2 ^ k=M:=Nat.mul_div_cancel _ (Nat.two_pow_pos k)
 have:=UU (N:=M*2 ^ k) (k:=k) (f:=f) (p:=p) (more:=false) (up:=up) (by rw [h1]; exact hM) (by rw [Nat.mul_mod_left]; rfl) (fun h=>absurd h Bool.false_ne_true)
 rw [h1] at this
 exact this.symm
def nc (z f p:Int) (up:Bool):Rd × Int:=if z=0 then (aX,0) else lX (decide (z < 0)) (eG z.natAbs f false p (up != decide (z < 0)))
theorem KV {n:Nat} {f p:Int} {up neg:Bool} (h:n ≠ 0):nc (if neg=true then -(n:Int) else n) f p up=lX neg (eG n f false p (up != neg)):=by
 unfold nc
 cases neg with
 | true =>
  rw [if_pos rfl,if_neg (by omega),show decide (-(n:Int) < 0)=true from decide_eq_true (by omega),Int.natAbs_neg,Int.natAbs_natCast]
 | false =>
  rw [if_neg Bool.false_ne_true,if_neg (by omega),show decide ((n:Int) < 0)=false from decide_eq_false (by omega),Int.natAbs_natCast]
theorem Z5 {z f p:Int} {k:Nat} {up:Bool}:nc (z*2 ^ k) f p up=nc z (f+k) p up:=by
 unfold nc
 by_cases h:z=0
 ·rw [h,Int.zero_mul,if_pos rfl,if_pos rfl]
 ·have h2:(0:Int) < 2 ^ k:=Int.pow_pos (by decide)
  have h3:z*2 ^ k ≠ 0:=fun h3=>by
   rcases Int.mul_eq_zero.1 h3 with h4 | h4
   ·exact h h4
   ·omega
  have h4:decide (z*2 ^ k < 0)=decide (z < 0):=by
   congr 1
   refine propext ⟨fun h5=>?_,fun h5=>Int.mul_neg_of_neg_of_pos h5 h2⟩
   refine Int.not_le.1 fun h6=>?_
   have:=Int.mul_nonneg h6 (Int.le_of_lt h2)
   omega
  rw [if_neg h,if_neg h3,h4,Int.natAbs_mul,Int.natAbs_pow,show (2:Int).natAbs=2 from rfl,Cs (fun h5=>h (Int.natAbs_eq_zero.1 h5))]
end Go.Ab
namespace Go.Ab
open Go Go.IntWalk
set_option maxRecDepth 4000
def bw (neg:Bool) (n:Nat):Int:=if neg=true then -(n:Int) else n
theorem cK (n:Nat):bw true n=-(n:Int):=rfl
theorem cL (n:Nat):bw false n=(n:Int):=rfl
def Rm (an:Bool) (p:Int) (up:Bool) (s:(Nat × Int × Bool) × Bool):Rd × Int:=if s.1.1=0∧s.1.2.2=false then (aX,0) else lX (an != s.2) (eG s.1.1 s.1.2.1 s.1.2.2 p (up != (an != s.2)))
theorem Aj {an:Bool} {p:Int} {up:Bool} {N K:Nat} {f:Int} {more t:Bool} (hM:N / 2 ^ K ≠ 0) (hm:more=decide (N % 2 ^ K ≠ 0)) (hp:more=true→p < (ai (N / 2 ^ K):Nat)) :
  Rm an p up ((N / 2 ^ K,f+K,more),t)=nc (bw (an != t) N) f p up:=by
 have h0:N ≠ 0:=fun h=>by
  rw [h,Nat.zero_div] at hM
  exact hM rfl
 unfold bw
 rw [KV h0,Rm,if_neg (fun h=>hM h.1)]
 show lX (an != t) (eG (N / 2 ^ K) (f+K) more p (up != (an != t)))=_
 rw [UU hM hm hp]
theorem adk {x Y K:Nat} {f p:Int} {up an bn:Bool} (hx:x ≠ 0) (hlost:Y % 2 ^ K ≠ 0→p < (ai (x - (Y / 2 ^ K+1)):Nat)∧p < (ai (x+Y / 2 ^ K):Nat)∧Y / 2 ^ K+1 < x) :
  Rm an p up (KS an bn x (Y / 2 ^ K) (f+K) (decide (Y % 2 ^ K ≠ 0)))=nc (bw an (x*2 ^ K)+bw bn Y) f p up:=by
 have h2:=Nat.two_pow_pos K
 have hd:=Nat.div_add_mod Y (2 ^ K)
 have hlt:=Nat.mod_lt Y h2
 unfold KS
 by_cases hs:an=bn
 ·subst hs
  rw [if_pos rfl]
  have e1:x+Y / 2 ^ K=(x*2 ^ K+Y) / 2 ^ K:=by
   rw [Nat.mul_comm x,Nat.mul_add_div h2]
  have e2:(x*2 ^ K+Y) % 2 ^ K=Y % 2 ^ K:=by
   rw [Nat.mul_comm x,Nat.mul_add_mod]
  have e3:bw an (x*2 ^ K)+bw an Y=bw (an != false) (x*2 ^ K+Y):=by
   cases an
   ·show bw false _+bw false _=bw false _
    rw [cL,cL,cL]
    omega
   ·show bw true _+bw true _=bw true _
    rw [cK,cK,cK]
    omega
  rw [e3,e1,Aj]
  ·rw [← e1]
   exact fun h=>hx (Nat.add_eq_zero_iff.1 h).1
  ·rw [e2]
  ·intro h
   rw [← e1]
   exact (hlost (of_decide_eq_true h)).2.1
 ·have hbn:bn=!an:=by
   cases an <;> cases bn <;> first | rfl | exact absurd rfl hs
  subst hbn
  rw [if_neg hs]
  by_cases hl:Y % 2 ^ K ≠ 0
  ·obtain ⟨g1,g2,g3⟩:=hlost hl
   have e0:m9 (Y / 2 ^ K,decide (Y % 2 ^ K ≠ 0))=Y / 2 ^ K+1:=by
    unfold m9
    rw [if_pos (decide_eq_true hl)]
   rw [e0,if_neg (by omega)]
   obtain ⟨y,hy⟩:∃ y,Y / 2 ^ K=y:=⟨_,rfl⟩
   rw [hy] at hd g1 g2 g3 ⊢
   have e1:(x - (y+1))*2 ^ K+(2 ^ K - Y % 2 ^ K)=x*2 ^ K - Y:=by
    have e4:(x - (y+1))*2 ^ K=x*2 ^ K - (2 ^ K*y+2 ^ K):=by
     rw [Nat.sub_mul,Nat.add_mul,Nat.one_mul,Nat.mul_comm y]
    have e5:2 ^ K*y+2 ^ K≤x*2 ^ K:=by
     have:(y+1)*2 ^ K≤x*2 ^ K:=Nat.mul_le_mul_right _ (by omega)
     rw [Nat.add_mul,Nat.one_mul,Nat.mul_comm y] at this
     exact this
    omega
   have e6:(x*2 ^ K - Y) / 2 ^ K=x - (y+1):=by
    rw [← e1,Nat.mul_comm (x - (y+1)),Nat.mul_add_div h2,Nat.div_eq_of_lt (by omega)]
    rfl
   have e7:(x*2 ^ K - Y) % 2 ^ K=2 ^ K - Y % 2 ^ K:=by
    rw [← e1,Nat.mul_comm (x - (y+1)),Nat.mul_add_mod,Nat.mod_eq_of_lt (by omega)]
   have e8:Y≤x*2 ^ K:=by
    have:(y+1)*2 ^ K≤x*2 ^ K:=Nat.mul_le_mul_right _ (by omega)
    rw [Nat.add_mul,Nat.one_mul,Nat.mul_comm y] at this
    omega
   have e3:bw an (x*2 ^ K)+bw (!an) Y=bw (an != false) (x*2 ^ K - Y):=by
    cases an
    ·show bw false _+bw true _=bw false _
     simp only [cK,cL]
     omega
    ·show bw true _+bw false _=bw true _
     simp only [cK,cL]
     omega
   rw [e3,← e6,Aj]
   ·rw [e6]
    omega
   ·rw [e7]
    rw [decide_eq_true hl]
    exact (decide_eq_true (by omega)).symm
   ·intro _
    rw [e6]
    exact g1
  ·have hl0:Y % 2 ^ K=0:=by omega
   have e0:m9 (Y / 2 ^ K,decide (Y % 2 ^ K ≠ 0))=Y / 2 ^ K:=by
    unfold m9
    rw [if_neg (fun h=>hl (of_decide_eq_true h))]
   rw [e0,hl0,show decide ((0:Nat) ≠ 0)=false from rfl]
   rw [hl0,Nat.add_zero] at hd
   obtain ⟨y,hy⟩:∃ y,Y / 2 ^ K=y:=⟨_,rfl⟩
   rw [hy] at hd ⊢
   subst hd
   by_cases hxy:x < y
   ·rw [if_pos hxy]
    have e6:((y - x)*2 ^ K) / 2 ^ K=y - x:=Nat.mul_div_cancel _ h2
    have e9:x*2 ^ K≤y*2 ^ K:=Nat.mul_le_mul_right _ (by omega)
    have e3:bw an (x*2 ^ K)+bw (!an) (2 ^ K*y)=bw (an != true) ((y - x)*2 ^ K):=by
     rw [Nat.sub_mul,Nat.mul_comm _ y]
     cases an
     ·show bw false _+bw true _=bw true _
      simp only [cK,cL]
      omega
     ·show bw true _+bw false _=bw false _
      simp only [cK,cL]
      omega
    rw [e3]
    have:=Aj (an:=an) (p:=p) (up:=up) (N:=(y - x)*2 ^ K) (K:=K) (f:=f) (more:=false) (t:=true) (by rw [e6]; omega) (by rw [Nat.mul_mod_left]; rfl) (fun h=>absurd h Bool.false_ne_true)
    rw [e6] at this
    exact this
   ·rw [if_neg hxy]
    by_cases hE:x=y
    ·subst hE
     have e3:bw an (x*2 ^ K)+bw (!an) (2 ^ K*x)=0:=by
      rw [Nat.mul_comm _ x]
      cases an
      ·show bw false _+bw true _=0
       simp only [cK,cL]
       omega
      ·show bw true _+bw false _=0
       simp only [cK,cL]
       omega
     rw [e3,Rm,if_pos ⟨Nat.sub_self x,rfl⟩,nc,if_pos rfl]
    ·have e6:((x - y)*2 ^ K) / 2 ^ K=x - y:=Nat.mul_div_cancel _ h2
     have e9:y*2 ^ K≤x*2 ^ K:=Nat.mul_le_mul_right _ (by omega)
     have e3:bw an (x*2 ^ K)+bw (!an) (2 ^ K*y)=bw (an != false) ((x - y)*2 ^ K):=by
      rw [Nat.sub_mul,Nat.mul_comm _ y]
      cases an
      ·show bw false _+bw true _=bw false _
       simp only [cK,cL]
       omega
      ·show bw true _+bw false _=bw true _
       simp only [cK,cL]
       omega
     rw [e3]
     have:=Aj (an:=an) (p:=p) (up:=up) (N:=(x - y)*2 ^ K) (K:=K) (f:=f) (more:=false) (t:=false) (by rw [e6]; omega) (by rw [Nat.mul_mod_left]; rfl) (fun h=>absurd h Bool.false_ne_true)
     rw [e6] at this
     exact this
end Go.Ab
namespace Go.Ab
open Go Go.IntWalk
set_option maxRecDepth 4000
theorem alE {b:Rd} {l:Int} (h1:-40000≤l) (h2:-40000≤b.e):yZ b l=(ac b.m*2 ^ (b.e+40000).toNat / 2 ^ (l+40000).toNat,decide (ac b.m*2 ^ (b.e+40000).toNat % 2 ^ (l+40000).toNat ≠ 0)):=by
 unfold yZ
 by_cases h:l≤b.e
 ·rw [if_pos h,show (b.e+40000).toNat=(b.e - l).toNat+(l+40000).toNat by omega,Nat.pow_add,← Nat.mul_assoc,Nat.mul_div_cancel _ (Nat.two_pow_pos _),Nat.mul_mod_left]
  rfl
 ·have h3:=Nat.two_pow_pos (b.e+40000).toNat
  rw [if_neg h,show (l+40000).toNat=(l - b.e).toNat+(b.e+40000).toNat by omega,Nat.pow_add,Nat.mul_div_mul_right _ _ h3,Nat.mul_mod_mul_right]
  refine Prod.ext rfl ?_
  show decide _=decide _
  congr 1
  refine propext ⟨fun h4 h5=>?_,fun h4 h5=>h4 ?_⟩
  ·rcases Nat.mul_eq_zero.1 h5 with h6 | h6
   ·exact h4 h6
   ·omega
  ·rw [h5,Nat.zero_mul]
theorem Rn {d:Rd} {k:Nat} (_h:-16384≤d.e) (n:Nat) (hn:n=(d.e+16384).toNat+k):zI d*2 ^ k=bw d.neg (ac d.m*2 ^ n):=by
 subst hn
 have h1:(mg d:Int)*2 ^ k=((ac d.m*2 ^ ((d.e+16384).toNat+k):Nat):Int):=by
  unfold mg
  rw [Nat.pow_add,← Nat.mul_assoc,Int.natCast_mul _ (2 ^ k),Int.natCast_pow]
  rfl
 unfold zI bw
 cases d.neg with
 | true=>rw [if_pos rfl,if_pos rfl,Int.neg_mul,h1]
 | false=>rw [if_neg Bool.false_ne_true,if_neg Bool.false_ne_true,h1]
theorem Z6 {a b:Rd} {p:Int} (h:b.e < pm a b p):2 < aJ a - aJ b∧pm a b p≤aJ a - p - 8:=by
 unfold pm at h ⊢
 by_cases h1:aJ a - aJ b≤2
 ·rw [if_pos h1] at h
  split at h <;> omega
 ·rw [if_neg h1]
  split <;> omega
theorem UV {a b:Rd} (oa:Ok0 a) (ob:Ok0 b) (va:vd a=true) (vb:vd b=true) (na:a.m.length ≠ 0) (nb:b.m.length ≠ 0) {p:Int} {up:Bool} (hp:8≤p∧p≤512) (ht:aJ b≤aJ a) :
  Rl a b p up=nc (zI a+zI b) (-16384) p up:=by
 have e1:=fk va na
 have e2:=fk vb nb
 obtain ⟨a1,a2,a3,a4⟩:=dE va oa.lb
 obtain ⟨b1,b2,b3,b4⟩:=dE vb ob.lb
 have l1:=KR (a:=a) (b:=b) (p:=p)
 have l2:=Gu va vb oa.lb ob.lb na nb hp ht
 have l3:=Z6 (a:=a) (b:=b) (p:=p)
 have ba:=fj (cE va na)
 have bb:=fj (cE vb nb)
 show Rm a.neg p up (ur a b p)=_
 rw [KT]
 obtain ⟨l,hl⟩:∃ l,pm a b p=l:=⟨_,rfl⟩
 rw [hl] at l1 l2 l3 ⊢
 obtain ⟨K,hK⟩:∃ K,(l+40000).toNat=K:=⟨_,rfl⟩
 obtain ⟨n1,hn1⟩:∃ n,(a.e - l).toNat=n:=⟨_,rfl⟩
 obtain ⟨n2,hn2⟩:∃ n,(b.e+40000).toNat=n:=⟨_,rfl⟩
 have hx:ac a.m*2 ^ n1 ≠ 0:=Nat.mul_ne_zero (cE va na) (Nat.pos_iff_ne_zero.1 (Nat.two_pow_pos _))
 rw [alE (by omega) (by omega),hK,hn1,hn2]
 have bx:ai (ac a.m*2 ^ n1)=ai (ac a.m)+n1:=dw _ (cE va na)
 have by':ai (ac b.m*2 ^ n2 / 2 ^ K)=ai (ac b.m)+n2 - K:=by rw [hJ,dw _ (cE vb nb)]
 have hlK:l=-40000+(K:Int):=by omega
 rw [hlK,adk hx]
 ·obtain ⟨k,hk⟩:∃ k:Nat,k=23616:=⟨_,rfl⟩
  rw [Nat.mul_assoc,← Nat.pow_add,← Rn (k:=k) a2 (n1+K) (by omega),← Rn (k:=k) b2 n2 (by omega),← Int.add_mul,Z5,show (-40000:Int)+(k:Nat)=-16384 by omega]
 ·intro hne
  have hb:b.e < l:=by
   refine Int.not_le.1 fun h=>hne ?_
   rw [show n2=(b.e - l).toNat+K by omega,Nat.pow_add,← Nat.mul_assoc,Nat.mul_mod_left]
  obtain ⟨g1,g2⟩:=l3 hb
  obtain ⟨X,hX⟩:∃ X,ac a.m*2 ^ n1=X:=⟨_,rfl⟩
  obtain ⟨Y,hY⟩:∃ Y,ac b.m*2 ^ n2 / 2 ^ K=Y:=⟨_,rfl⟩
  rw [hX] at bx ⊢
  rw [hY] at by' ⊢
  obtain ⟨t,hT⟩:∃ t,ai X=t+4:=⟨ai X - 4,by omega⟩
  have hX2:2 ^ (t+3)≤X:=iV.1 (by omega)
  have hY2:Y < 2 ^ (t+1):=bO.1 (by omega)
  have q1:2 ^ (t+3)=4*2 ^ (t+1):=by rw [Nat.pow_succ,Nat.pow_succ]; omega
  have q2:2 ^ (t+2)=2*2 ^ (t+1):=by rw [Nat.pow_succ]; omega
  have g3:t+2 < ai (X - (Y+1)):=iV.2 (by omega)
  have g4:t+3 < ai (X+Y):=iV.2 (by omega)
  exact ⟨by omega,by omega,by omega⟩
def gB (a b:Rd) (p:Int) (up:Bool):Rd × Int:=if bC p [a,b]=0 then nc (zI a+zI b) (-16384) p up else (aX,bC p [a,b])
def cP (a b:Rd) (p:Int) (up:Bool):Rd × Int:=if bC p [a,b]=0 then nc (zI a*zI b) (-32768) p up else (aX,bC p [a,b])
theorem gC {d:Rd} (h:d.m.length=0):zI d=0:=by
 unfold zI
 rw [UQ h]
 split <;> rfl
theorem agt {p:Int} {up:Bool} (hp:8≤p∧p≤512):eG 0 0 false p up=(aX,0):=by
 have hu:-600≤dL 0 0 p∧dL 0 0 p≤0:=by
  unfold dL
  rw [tI]
  split <;> omega
 unfold eG
 obtain ⟨u,he⟩:∃ u,dL 0 0 p=u:=⟨_,rfl⟩
 rw [he] at hu ⊢
 have hq:kl up (nN 0 0 false u)=0:=by
  unfold nN kl
  rw [if_pos (show u≤0 by omega),Nat.zero_mul,Bool.and_false,if_neg Bool.false_ne_true]
 unfold rD
 rw [hq,tI,if_neg (by omega)]
 unfold bD dk
 rw [if_pos rfl,if_pos (by decide)]
theorem xw {d:Rd} (ok:Ok0 d) {p:Int} {up:Bool}:mw d p up=if bC p [d]=0 then nc (zI d) (-16384) p up else (aX,bC p [d]):=by
 unfold mw
 by_cases h0:bC p [d]=0
 ·obtain ⟨v1,v2,v3⟩:=qx h0
  have v4:vd d=true:=by simpa using v1
  obtain ⟨h1,h2,h3,h4⟩:=dE v4 ok.lb
  rw [if_pos h0,if_pos h0]
  by_cases hd:d.m.length=0
  ·have hz:=oK v4 hd
   subst hz
   rw [gC rfl,nc,if_pos rfl]
   show lX false (eG 0 0 false p (up != false))=_
   rw [agt ⟨v2,v3⟩]
   rfl
  ·have hv:=cE v4 hd
   have hm:=IC v4 hd
   unfold zI
   rw [KV (by omega)]
   unfold mg
   rw [Cs hv,show -16384+(((d.e+16384).toNat:Nat):Int)=d.e by omega]
 ·rw [if_neg h0,if_neg h0]
theorem agu {a b:Rd} (oa:Ok0 a) (ob:Ok0 b) {p:Int} {up:Bool}:KU a b p up=gB a b p up:=by
 unfold KU gB
 by_cases h0:bC p [a,b]=0
 ·obtain ⟨v1,hp⟩:=qx h0
  have v4:vd a=true∧vd b=true:=by simpa using v1
  have f1:∀ d,vd d=true→bC p [d]=0:=fun d hd=>by
   unfold bC
   rw [if_pos (by simpa using hd),if_pos hp]
  rw [if_pos h0,if_pos h0]
  by_cases a0:a.m.length=0
  ·rw [if_pos a0,xw ob,if_pos (f1 b v4.2),gC a0,Int.zero_add]
  rw [if_neg a0]
  by_cases b0:b.m.length=0
  ·rw [if_pos b0,xw oa,if_pos (f1 a v4.1),gC b0,Int.add_zero]
  rw [if_neg b0]
  by_cases ht:aJ a < aJ b
  ·rw [if_pos ht,UV ob oa v4.2 v4.1 b0 a0 hp (by omega),Int.add_comm]
  ·rw [if_neg ht,UV oa ob v4.1 v4.2 a0 b0 hp (by omega)]
 ·rw [if_neg h0,if_neg h0]
theorem UW {a b:Rd} (oa:Ok0 a) (ob:Ok0 b) {p:Int} {up:Bool}:Cr a b p up=cP a b p up:=by
 unfold Cr cP
 by_cases h0:bC p [a,b]=0
 ·obtain ⟨v1,hp⟩:=qx h0
  have v4:vd a=true∧vd b=true:=by simpa using v1
  obtain ⟨va,vb⟩:=v4
  obtain ⟨a1,a2,a3,a4⟩:=dE va oa.lb
  obtain ⟨b1,b2,b3,b4⟩:=dE vb ob.lb
  rw [if_pos h0,if_pos h0]
  by_cases a0:a.m.length=0
  ·rw [if_pos (Or.inl a0),gC a0,Int.zero_mul,nc,if_pos rfl]
  by_cases b0:b.m.length=0
  ·rw [if_pos (Or.inr b0),gC b0,Int.mul_zero,nc,if_pos rfl]
  rw [if_neg (fun h=>h.elim a0 b0)]
  have hz:zI a*zI b=bw (a.neg != b.neg) (mg a*mg b):=by
   unfold zI bw
   cases a.neg <;> cases b.neg <;> simp [Int.mul_neg,Int.neg_mul]
  have hm:mg a*mg b=ac a.m*ac b.m*2 ^ ((a.e+16384).toNat+(b.e+16384).toNat):=by
   unfold mg
   rw [Nat.pow_add]
   ac_rfl
  have hv:ac a.m*ac b.m ≠ 0:=Nat.mul_ne_zero (cE va a0) (cE vb b0)
  rw [hz]
  unfold bw
  rw [KV (Nat.mul_ne_zero (Nat.pos_iff_ne_zero.1 (IC va a0)) (Nat.pos_iff_ne_zero.1 (IC vb b0))),hm,Cs hv]
  rw [show -32768+(((a.e+16384).toNat+(b.e+16384).toNat:Nat):Int)=a.e+b.e by omega]
 ·rw [if_neg h0,if_neg h0]
end Go.Ab
namespace Go.Ab
open Go Go.IntWalk
set_option maxRecDepth 4000
theorem ki {neg:Bool} {M:Nat} {e:Int} (h:M ≠ 0):bD neg M e=⟨neg,aq (M / 2 ^ tz M),e+tz M⟩:=by
 unfold bD
 rw [if_neg h]
theorem gP {neg:Bool} {e:Int}:bD neg 0 e=aX:=by
 unfold bD
 rw [if_pos rfl]
theorem lY {neg:Bool} {M k:Nat} {e:Int}:bD neg (M*2 ^ k) e=bD neg M (e+k):=by
 by_cases h:M=0
 ·rw [h,Nat.zero_mul,gP,gP]
 ·have h2:M*2 ^ k ≠ 0:=Nat.mul_ne_zero h (Nat.pos_iff_ne_zero.1 (Nat.two_pow_pos k))
  rw [ki h,ki h2,Nat.mul_comm M,HE k h,Nat.pow_add,Nat.mul_div_mul_left _ _ (Nat.two_pow_pos k)]
  rw [show e+((k+tz M:Nat):Int)=e+k+tz M by omega]
theorem Ak {neg:Bool} {M:Nat} {e:Int} (h:M ≠ 0):ac (bD neg M e).m=M / 2 ^ tz M∧(bD neg M e).e=e+tz M∧M / 2 ^ tz M % 2=1∧ai (M / 2 ^ tz M)+tz M=ai M:=by
 obtain ⟨h1,h2⟩:=sC h
 refine ⟨?_,?_,h2,?_⟩
 ·rw [ki h]
  exact aW _
 ·rw [ki h]
 ·have h3:=dw (n:=M / 2 ^ tz M) (tz M) (by omega)
  rw [Nat.mul_comm,← h1] at h3
  exact h3.symm
theorem UX {neg:Bool} {M:Nat} {e:Int} (h:oR (ai (ac (bD neg M e).m)) (bD neg M e).e=true):vd (bD neg M e)=true:=by
 by_cases h0:M=0
 ·subst h0
  rw [gP]
  rfl
 ·obtain ⟨g1,g2,g3,g4⟩:=Ak (neg:=neg) (e:=e) h0
  have hn:M / 2 ^ tz M ≠ 0:=by omega
  rw [g1] at h
  have hb:=(yW h (Nat.pos_iff_ne_zero.1 (fj hn))).1
  rw [ki h0] at h ⊢
  unfold vd
  have hl:(aq (M / 2 ^ tz M)).length≤128:=aV (by omega)
  have hl0:(aq (M / 2 ^ tz M)).length ≠ 0:=fun h5=>hn (jG.1 (List.length_eq_zero_iff.1 h5))
  have ht:(aq (M / 2 ^ tz M)).getD ((aq (M / 2 ^ tz M)).length - 1) 0 ≠ 0:=(BV _).resolve_left (fun h5=>hn (jG.1 h5))
  have ho:(aq (M / 2 ^ tz M)).getD 0 0 % 2=1:=by
   rw [mE hn]
   show (M / 2 ^ tz M) % 4294967296 % 2=1
   omega
  rw [aW,if_neg hl0,decide_eq_true (p:=(aq (M / 2 ^ tz M)).length≤256) (by omega),decide_eq_true ho,decide_eq_true ht]
  exact h
theorem Z7 (q:Nat):ai (q+1)≤ai q+1:=by
 rw [bO,Nat.pow_succ]
 have:=bO.1 (Nat.le_refl (ai q))
 have:=Nat.two_pow_pos (ai q)
 omega
theorem Ct {z f p:Int} {up:Bool}:vd (nc z f p up).1=true∧Ok0 (nc z f p up).1:=by
 have h0:vd aX=true∧Ok0 aX:=⟨rfl,⟨fun x hx=>(nomatch hx),by decide⟩⟩
 have hc:∀ (q:Nat) (u:Int),vd (dk (bD false q u)).1=true∧Ok0 (dk (bD false q u)).1:=fun q u=>by
  unfold dk
  by_cases h:oR (ai (ac (bD false q u).m)) (bD false q u).e=true
  ·rw [if_pos h]
   have hv:=UX h
   have hb:=vG false q u
   exact ⟨hv,hb,Nat.lt_of_le_of_lt (wL hv hb) (by decide)⟩
  ·rw [if_neg h]
   exact h0
 have he:∀ (up:Bool) (q:Nat) (u:Int),vd (rD p up q u).1=true∧Ok0 (rD p up q u).1:=fun up q u=>by
  unfold rD
  split
  ·split
   ·exact h0
   ·exact hc _ _
  ·exact hc _ _
 have hs:∀ (neg:Bool) (r:Rd × Int),(vd r.1=true∧Ok0 r.1)→vd (lX neg r).1=true∧Ok0 (lX neg r).1:=fun neg r hr=>by
  unfold lX fR
  split
  ·show vd (if vd r.1=false∨r.1.m.length=0 then aX else ⟨!r.1.neg,r.1.m,r.1.e⟩)=true∧Ok0 (if vd r.1=false∨r.1.m.length=0 then aX else ⟨!r.1.neg,r.1.m,r.1.e⟩)
   split
   ·exact h0
   ·rename_i h5
    have h6:r.1.m.length ≠ 0:=fun h7=>h5 (Or.inr h7)
    refine ⟨?_,hr.2.1,hr.2.2⟩
    have h7:=hr.1
    unfold vd at h7 ⊢
    rw [if_neg h6] at h7 ⊢
    exact h7
  ·exact hr
 unfold nc
 split
 ·exact h0
 ·exact hs _ _ (he _ _ _)
end Go.Ab
namespace Go.Ab
open Go Go.IntWalk
set_option maxRecDepth 4000
def my:Cmd:=.seq (.ops [2,3,4,8,11,12] [⟨(some 52),none,.load 3 true (.t 4)⟩,⟨(some 53),none,.load 3 true (.t 5)⟩,cm 54 2,⟨(some 55),none,.call (.c (.fn F.round_sum [] [])) [(.t 52),(.t 53),(.t 54)]⟩,cm 51 55,co 56 (.ext 0 (.t 51)),co 57 (.ext 1 (.t 51)),⟨(some 11),none,.alloc [.emp,(.v (.int .i64 0)),(.v (.bool false))]⟩,⟨none,none,.store 3 (.t 11) (.t 56)⟩,cm 12 57]) (.seq (.seq (.ops [2,3,4,8,11,12,66] [co 58 (.fadr 0 (.t 11)),⟨(some 59),none,.load 1 false (.t 58)⟩,co 60 (.len false (.t 59)),co 61 (.bin .eql (.t 60) (.c (.v (.int .i64 0)))),cm 62 61,cg 63 62 true (.fadr 2 (.t 11)),⟨(some 64),(some (62,true)),.load 1 false (.t 63)⟩,cg 65 62 true (.un .not (.t 64)),co 66 (.pick (.t 62) (.t 65) (.c (.v (.bool false))))]) (.cond (.t 66) (.seq (.ops [8,9] [co 67 (.build [(.v (.bool false)),.emp,(.v (.int .i64 0))] []),⟨none,none,.store 3 (.t 8) (.t 67)⟩,co 9 (.mv (.c (.v (.int .i64 0))))]) (.ret)) (.skip))) (.seq (.ops [8,9] [co 68 (.fadr 0 (.t 4)),⟨(some 69),none,.load 1 false (.t 68)⟩,cm 70 12,co 71 (.eqc true 0 (.t 69) (.t 70)),⟨(some 72),none,.load 3 true (.t 11)⟩,cm 73 2,cm 74 3,⟨(some 75),none,.call (.c (.fn F.round_signed [] [])) [(.t 71),(.t 72),(.t 73),(.t 74)]⟩,co 76 (.ext 0 (.t 75)),co 77 (.ext 1 (.t 75)),⟨none,none,.store 3 (.t 8) (.t 76)⟩,cm 9 77]) (.ret)))
theorem tL:pA=.seq (.ops [2,3,4,5,8] [⟨(some 4),none,.box 3 (.t 0)⟩,⟨(some 5),none,.box 3 (.t 1)⟩,⟨(some 8),none,.alloc [(.v (.bool false)),.emp,(.v (.int .i64 0))]⟩,co 9 (.mv (.c (.v (.int .i64 0))))]) (.seq (.seq (.ops [2,3,4,5,8,10] [cm 13 2,⟨(some 14),none,.load 3 true (.t 4)⟩,⟨(some 15),none,.load 3 true (.t 5)⟩,⟨(some 16),none,.buildSl 3 [(.v (.bool false)),.emp,(.v (.int .i64 0))] 2 [(0,(.t 14)),(1,(.t 15))]⟩,⟨(some 17),none,.call (.c (.fn F.round_fault [] [])) [(.t 13),(.t 16)]⟩,cm 10 17]) (.seq (.ops [2,3,4,5,8,10,19] [cm 18 10,co 19 (.bin .neq (.t 18) (.c (.v (.int .i64 0))))]) (.cond (.t 19) (.seq (.ops [8,9] [co 20 (.build [(.v (.bool false)),.emp,(.v (.int .i64 0))] []),cm 21 10,⟨none,none,.store 3 (.t 8) (.t 20)⟩,cm 9 21]) (.ret)) (.skip)))) (.seq (.block 0 [2,3,4,5,8] (.seq (.ops [2,3,4,5,8,22] [co 23 (.fadr 1 (.t 4)),⟨(some 24),none,.load 1 false (.t 23)⟩,co 25 (.len false (.t 24)),co 26 (.bin .eql (.t 25) (.c (.v (.int .i64 0)))),cm 22 26]) (.cond (.t 22) (.seq (.ops [8,9] [⟨(some 27),none,.load 3 true (.t 5)⟩,cm 28 2,cm 29 3,⟨(some 30),none,.call (.c (.fn F.round_round [] [])) [(.t 27),(.t 28),(.t 29)]⟩,co 31 (.ext 0 (.t 30)),co 32 (.ext 1 (.t 30)),⟨none,none,.store 3 (.t 8) (.t 31)⟩,cm 9 32]) (.ret)) (.seq (.ops [2,3,4,5,8,33] [co 34 (.fadr 1 (.t 5)),⟨(some 35),none,.load 1 false (.t 34)⟩,co 36 (.len false (.t 35)),co 37 (.bin .eql (.t 36) (.c (.v (.int .i64 0)))),cm 33 37]) (.cond (.t 33) (.seq (.ops [8,9] [⟨(some 38),none,.load 3 true (.t 4)⟩,cm 39 2,cm 40 3,⟨(some 41),none,.call (.c (.fn F.round_round [] [])) [(.t 38),(.t 39),(.t 40)]⟩,co 42 (.ext 0 (.t 41)),co 43 (.ext 1 (.t 41)),⟨none,none,.store 3 (.t 8) (.t 42)⟩,cm 9 43]) (.ret)) (.skip)))))) (.seq (.seq (.dops [2,3,4,5,8,48] [⟨(some 44),none,.load 3 true (.t 4)⟩,⟨(some 45),none,.call (.c (.fn F.dyadic_Top [] [])) [(.t 44)]⟩,⟨(some 46),none,.load 3 true (.t 5)⟩,⟨(some 47),none,.call (.c (.fn F.dyadic_Top [] [])) [(.t 46)]⟩,co 48 (.bin .lss (.t 45) (.t 47))] [(1,2)]) (.cond (.t 48) (.ops [2,3,4,5,8] [⟨(some 49),none,.load 3 true (.t 5)⟩,⟨(some 50),none,.load 3 true (.t 4)⟩,⟨none,none,.store 3 (.t 4) (.t 49)⟩,⟨none,none,.store 3 (.t 5) (.t 50)⟩]) (.skip))) my))):=rfl
theorem agv {a b:Rd} (oa:Ok0 a) (ob:Ok0 b) (va:vd a=true) (vb:vd b=true) (na:a.m.length ≠ 0) (nb:b.m.length ≠ 0) {p:Int} (hp:8≤p∧p≤512) (ht:aJ b≤aJ a) :
  ai (ur a b p).1.1≤4120∧-40000≤(ur a b p).1.2.1∧(ur a b p).1.2.1≤40000:=by
 have e1:=fk va na
 have e2:=fk vb nb
 obtain ⟨a1,a2,a3,a4⟩:=dE va oa.lb
 obtain ⟨b1,b2,b3,b4⟩:=dE vb ob.lb
 have l1:=KR (a:=a) (b:=b) (p:=p)
 have l2:=Gu va vb oa.lb ob.lb na nb hp ht
 have ba:=fj (cE va na)
 have bb:=fj (cE vb nb)
 rw [KT]
 obtain ⟨l,hl⟩:∃ l,pm a b p=l:=⟨_,rfl⟩
 rw [hl] at l1 l2 ⊢
 have hX:ai (ac a.m*2 ^ (a.e - l).toNat)≤4100:=by
  rw [dw _ (cE va na)]
  omega
 have hY:ai (yZ b l).1≤4100:=by
  unfold yZ
  split
  ·rw [dw _ (cE vb nb)]
   omega
  ·show ai (_ / _)≤_
   rw [hJ]
   omega
 generalize (yZ b l).1=Y at hY ⊢
 generalize (yZ b l).2=lost
 generalize ac a.m*2 ^ (a.e - l).toNat=X at hX ⊢
 have hU:ai (m9 (Y,lost))≤4101:=by
  unfold m9
  split
  ·have:=Z7 Y
   show ai (Y+1)≤4101
   omega
  ·show ai Y≤4101
   omega
 have hm:∀ x y:Nat,x≤y→ai y≤4101→ai x≤4101:=fun x y h1 h2=>Mj h1 h2
 generalize hYU:m9 (Y,lost)=YU at hU
 unfold KS
 rw [hYU]
 split
 ·have:=wM hX hY
  exact ⟨Nat.le_trans this (by decide),by show -40000≤l; omega,by show l≤40000; omega⟩
 ·split
  ·exact ⟨Nat.le_trans (hm _ _ (Nat.sub_le _ _) hU) (by decide),by show -40000≤l; omega,by show l≤40000; omega⟩
  ·exact ⟨Nat.le_trans (hm _ _ (Nat.sub_le _ _) (Nat.le_trans hX (by decide))) (by decide),by show -40000≤l; omega,by show l≤40000; omega⟩
theorem Mk {a b:Rd} (oa:Ok0 a) (ob:Ok0 b) (va:vd a=true) (vb:vd b=true) (na:a.m.length ≠ 0) (nb:b.m.length ≠ 0) {n:Nat} {up:Bool} (hp:8≤n∧n≤512) (ht:aJ b≤aJ a) (s:ag) (h:ab)
  (h2:s 2=I (n:Nat)) (h3:s 3=B up) (h4:s 4=.ref 4 none 0 0 0) (h5:s 5=.ref 5 none 0 0 0) (h8:s 8=.ref 8 none 0 0 0)
  (k4:h 4=.bx (aj a)) (k5:h 5=.bx (aj b)) (k8:h 8=.bx [.v (.bool false),.emp,.v (.int .i64 0)]) (kd:∀ i,i ≠ 4→i ≠ 5→i ≠ 8→i ≠ 16→h i=.dead) :
  gq false [[.o 0 [],.o 2 [],.o 0 []],[]] [.cell 8 3 true,.t 9] 0 (am R (aO false) my s h)=some (rV (Rl a b (n:Nat) up),[]):=by
 have hs:=ai5 oa ob va vb na nb (p:=(n:Nat)) ⟨by omega,by omega⟩ ht
 obtain ⟨g1,g2,g3⟩:=agv oa ob va vb na nb (p:=(n:Nat)) ⟨by omega,by omega⟩ ht
 have hl:(aq (ur a b (n:Nat)).1.1).length≤256:=aV (by omega)
 have hg:=fun neg up=>Cq (M:=aq (ur a b (n:Nat)).1.1) (e:=(ur a b (n:Nat)).1.2.1) (n:=n) (more:=(ur a b (n:Nat)).1.2.2) (up:=up) (neg:=neg) (bo _) hl ⟨g2,g3⟩ hp
 unfold Rl
 generalize ur a b (n:Nat)=z at hs g1 g2 g3 hl hg ⊢
 obtain ⟨⟨M,l,more⟩,t⟩:=z
 simp only [sV,ae,aj,qw] at hs hg k4 k5
 simp only [aW] at hg
 have hw:=hg (a.neg != t) up
 generalize hr:lX (a.neg != t) (eG M l more (n:Nat) (up != (a.neg != t)))=r at hw
 simp only [rV,ae,aj] at hw
 by_cases hM:M=0
 ·have e1:(((aq M).length:Int)=0)=True:=tt (by rw [hM,eE]; rfl)
  cases more with
  | false =>
   rw [if_pos ⟨hM,rfl⟩]
   clear hr
   simp only [my,rV,ae,aj,aX,go_sem,auA,auz,auB,ne_eq,not_false_eq_true,h2,h3,h4,h5,h8,k4,k5,k8,kd,hs,e1]
  | true =>
   rw [if_neg (fun h=>Bool.false_ne_true h.2.symm)]
   rw [show lX (a.neg != t) (eG M l true (n:Nat) (up != (a.neg != t)))=r from hr]
   clear hr
   simp only [my,rV,ae,aj,go_sem,auA,auz,auB,ne_eq,not_false_eq_true,h2,h3,h4,h5,h8,k4,k5,k8,kd,hs,e1,tK,hw]
 ·have e1:(((aq M).length:Int)=0)=False:=ff (fun h=>hM (jG.1 (List.length_eq_zero_iff.1 (by omega))))
  rw [if_neg (fun h=>hM h.1)]
  rw [show lX (a.neg != t) (eG M l more (n:Nat) (up != (a.neg != t)))=r from hr]
  clear hr
  simp only [my,rV,ae,aj,go_sem,auA,auz,auB,ne_eq,not_false_eq_true,h2,h3,h4,h5,h8,k4,k5,k8,kd,hs,e1,tK,hw]
theorem adl {a b:Rd} (oa:Ok0 a) (ob:Ok0 b) {p:Int} {up:Bool} (h0:bC p [a,b]=0) (a0:a.m.length ≠ 0) (b0:b.m.length ≠ 0):R F.round_add [ae a,ae b,I p,B up] []=some (rV (KU a b p up),[]):=by
 refine aE EJ EI (yM false) rfl ?_
 have hf:R F.round_fault [I p,.sl 3 [[B a.neg,lm a.m,I a.e],[B b.neg,lm b.m,I b.e]]] []=some (I (bC p [a,b]),[]):=Ag (p:=p) (l:=[a,b]) (fun x hx=>by
  rcases List.mem_cons.1 hx with h | h
  ·rw [h]; exact oa
  ·rw [List.mem_singleton.1 h]; exact ob) (show 2≤100000 by decide)
 rw [h0] at hf
 obtain ⟨v1,hp⟩:=qx h0
 have v4:vd a=true∧vd b=true:=by simpa using v1
 obtain ⟨va,vb⟩:=v4
 have ta:=tJ oa
 have tb:=tJ ob
 simp only [ae,aj] at ta tb
 obtain ⟨n,rfl⟩:=Int.eq_ofNat_of_zero_le (show 0≤p by omega)
 have e1:((a.m.length:Int)=0)=False:=ff (by omega)
 have e2:((b.m.length:Int)=0)=False:=ff (by omega)
 unfold KU
 rw [if_pos h0,if_neg a0,if_neg b0]
 by_cases ht:aJ a < aJ b
 ·have e3:(aJ a < aJ b)=True:=tt ht
  rw [if_pos ht]
  simp only [jk,tL,ae,aj,go_sem,auA,auz,auB,auC,auD,hf,e1,e2,ta,tb,e3]
  refine Mk ob oa vb va b0 a0 (by omega) (by omega) _ _ rfl rfl rfl rfl rfl rfl rfl rfl fun i h4 h5 h8 h16=>?_
  simp only [gk,h4,h5,h8,h16,if_false]
 ·have e3:(aJ a < aJ b)=False:=ff ht
  rw [if_neg ht]
  simp only [jk,tL,ae,aj,go_sem,auA,auz,auB,auC,auD,hf,e1,e2,ta,tb,e3]
  refine Mk oa ob va vb a0 b0 (by omega) (by omega) _ _ rfl rfl rfl rfl rfl rfl rfl rfl fun i h4 h5 h8 h16=>?_
  simp only [gk,h4,h5,h8,h16,if_false]
theorem UY {a b:Rd} (oa:Ok0 a) (ob:Ok0 b) {p:Int} {up:Bool}:R F.round_add [ae a,ae b,I p,B up] []=some (rV (gB a b p up),[]):=by
 rw [← agu oa ob]
 by_cases h0:bC p [a,b]=0
 ·by_cases a0:a.m.length=0
  ·exact Gv oa ob (Or.inr (Or.inl a0))
  ·by_cases b0:b.m.length=0
   ·exact Gv oa ob (Or.inr (Or.inr b0))
   ·exact adl oa ob h0 a0 b0
 ·exact Gv oa ob (Or.inl h0)
theorem Ro {a b:Rd} (oa:Ok0 a) (ob:Ok0 b) {p:Int}:R F.round_AddUp [ae a,ae b,I p] []=some (rV (gB a b p true),[]):=by
 refine aE M9 M8 (Fz false) rfl ?_
 have hr:=UY oa ob (p:=p) (up:=true)
 generalize gB a b p true=r at hr ⊢
 simp only [rV,ae,aj] at hr
 simp only [sf,Az,rV,ae,aj,go_sem,auA,auz,auB,hr]
theorem IE {a b:Rd} (oa:Ok0 a) (ob:Ok0 b) {p:Int}:R F.round_AddDown [ae a,ae b,I p] []=some (rV (gB a b p false),[]):=by
 refine aE H7 H6 (B3 false) rfl ?_
 have hr:=UY oa ob (p:=p) (up:=false)
 generalize gB a b p false=r at hr ⊢
 simp only [rV,ae,aj] at hr
 simp only [pZ,xk,rV,ae,aj,go_sem,auA,auz,auB,hr]
theorem Cu {a b:Rd} (oa:Ok0 a) (ob:Ok0 b) {p:Int}:R F.round_MulUp [ae a,ae b,I p] []=some (rV (cP a b p true),[]):=by
 rw [← UW oa ob]
 exact adi oa ob
theorem yf {a b:Rd} (oa:Ok0 a) (ob:Ok0 b) {p:Int}:R F.round_MulDown [ae a,ae b,I p] []=some (rV (cP a b p false),[]):=by
 rw [← UW oa ob]
 exact Xv oa ob
def fS (d:Rd) (p:Int) (up:Bool):Rd × Int:=if bC p [d]=0 then nc (zI d) (-16384) p up else (aX,bC p [d])
theorem UZ {d:Rd} (ok:Ok0 d) {p:Int}:R F.round_Up [ae d,I p] []=some (rV (fS d p true),[]):=by
 have h:=xw ok (p:=p) (up:=true)
 rw [fS,← h]
 exact ai3 ok
theorem Ml {d:Rd} (ok:Ok0 d) {p:Int}:R F.round_Down [ae d,I p] []=some (rV (fS d p false),[]):=by
 have h:=xw ok (p:=p) (up:=false)
 rw [fS,← h]
 exact adh ok
end Go.Ab
