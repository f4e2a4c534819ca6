/-
  A law of ranges holds at every input that the statement speaks of, under the conditions that its card names. Part F1.
-/
import Derived.Test.YtfdhicohflnjnaaGreatDoorE1
open Nat renaming reduceAdd → auz, reduceMul → auA, reduceLeDiff → auB, reduceLT → auC, reduceBEq → auD, reduceSub → auI, reduceMod → auJ
open Int renaming reduceLT → auE, reduceToNat → auF, reduceLE → auG, reduceEq → auH
namespace Go.Ab
open Go Go.IntWalk
set_option maxRecDepth 4000
structure Ri where
 lo:Rd
 hi:Rd
 all:Bool
def aK (x:Ri):List AV:=[B x.lo.neg,lm x.lo.m,I x.lo.e,B x.hi.neg,lm x.hi.m,I x.hi.e,B x.all]
def aC (x:Ri):AV:=.agg (aK x)
def fD:Ri:=⟨aX,aX,true⟩
structure OkI (x:Ri):Prop where
 lo:Ok0 x.lo
 hi:Ok0 x.hi
def z0 (d:Rd):Bool:=!d.neg && (decide (d.m.length=0) && decide (d.e=0))
def vi (x:Ri):Bool:=if x.all=true then z0 x.lo && z0 x.hi else vd x.lo && (vd x.hi && decide (zI x.lo≤zI x.hi))
def kI (x:Ri):Bool:=!x.all && vi x
def fl (p:Int):Bool:=decide (8≤p) && decide (p≤512)
theorem rF {p:Int}:R F.interval_permitted [I p] []=some (B (fl p),[]):=by
 refine aE zS zR (wY false) rfl ?_
 unfold fl
 by_cases h1:8≤p
 ·have e1:(8≤p)=True:=tt h1
  simp only [gT,lM,go_sem,e1,decide_true,Bool.true_and]
 ·have e1:(8≤p)=False:=ff h1
  simp only [gT,lM,go_sem,e1,decide_false,Bool.false_and]
theorem jq:R F.interval_Whole [] []=some (aC fD,[]):=by
 refine aE Fg Ff (AT false) rfl ?_
 simp only [oZ,wc,aC,aK,fD,aX,go_sem,auA,auz,auB]
theorem afa {d:Rd}:R F.interval_Valid_1 [ae d] []=some (B (z0 d),[]):=by
 refine aE B8 B7 (yK false) rfl ?_
 unfold z0
 cases hn:d.neg with
 | true=>simp only [eM,gN,ae,aj,go_sem,auA,auz,hn,Bool.not_true,Bool.false_and]
 | false =>
  by_cases h1:d.m.length=0
  ·have e1:((d.m.length:Int)=0)=True:=tt (by omega)
   by_cases h2:d.e=0
   ·have e2:(d.e=0)=True:=tt h2
    rw [decide_eq_true h1,decide_eq_true h2]
    simp only [eM,gN,ae,aj,go_sem,auA,auz,hn,e1,e2,Bool.not_false,Bool.true_and]
   ·have e2:(d.e=0)=False:=ff h2
    rw [decide_eq_true h1,decide_eq_false h2]
    simp only [eM,gN,ae,aj,go_sem,auA,auz,hn,e1,e2,Bool.not_false,Bool.true_and]
  ·have e1:((d.m.length:Int)=0)=False:=ff (by omega)
   rw [decide_eq_false h1]
   simp only [eM,gN,ae,aj,go_sem,auA,auz,hn,e1,Bool.not_false,Bool.true_and,Bool.false_and]
theorem qy {x y:Int}:(bR x y≤0)=(x≤y):=by
 unfold bR
 refine propext ?_
 split
 ·omega
 ·split <;> omega
theorem xx {x:Ri} (ok:OkI x):R F.interval_Valid [aC x] []=some (B (vi x),[]):=by
 refine aE Ft Fr (AW false) rfl ?_
 unfold vi
 have zl:=afa (d:=x.lo)
 have zh:=afa (d:=x.hi)
 have vl:=eF ok.lo
 have vh:=eF ok.hi
 have hc:=vF ok.lo ok.hi
 simp only [ae,aj] at zl zh vl vh hc
 cases ha:x.all with
 | true =>
  rw [if_pos rfl]
  cases h1:z0 x.lo with
  | true =>
   rw [h1] at zl
   simp only [eB,gx,aC,aK,go_sem,auA,auz,auB,ha,zl,zh,Bool.true_and]
  | false =>
   rw [h1] at zl
   simp only [eB,gx,aC,aK,go_sem,auA,auz,auB,ha,zl,Bool.false_and]
 | false =>
  rw [if_neg Bool.false_ne_true]
  cases h1:vd x.lo with
  | false =>
   rw [h1] at vl
   simp only [eB,gx,aC,aK,go_sem,auA,auz,auB,ha,vl,Bool.false_and]
  | true =>
   rw [h1] at vl
   cases h2:vd x.hi with
   | false =>
    rw [h2] at vh
    simp only [eB,gx,aC,aK,go_sem,auA,auz,auB,ha,vl,vh,Bool.true_and,Bool.false_and]
   | true =>
    rw [h2] at vh
    rw [h1,h2,if_pos ⟨rfl,rfl⟩] at hc
    simp only [eB,gx,aC,aK,go_sem,auA,auz,auB,ha,vl,vh,hc,qy,Bool.true_and]
theorem jr {d:Rd} (ok:Ok0 d) (hv:vd d=true):R F.interval_Point [ae d] []=some (aC ⟨d,d,false⟩,[]):=by
 refine aE Fa E9 (AR false) rfl ?_
 have vl:=eF ok
 rw [hv] at vl
 simp only [ae,aj] at vl
 simp only [oW,vZ,ae,aj,aC,aK,go_sem,auA,auz,auB,vl]
def kw (r s:Rd × Int):Ri:=if r.2=0∧s.2=0 then ⟨r.1,s.1,false⟩ else fD
theorem Dm {a b:Rd} {e f:Int}:R F.interval_made [ae a,I e,ae b,I f] []=some (aC (kw (a,e) (b,f)),[]):=by
 refine aE H4 H3 (B2 false) rfl ?_
 have hw:=jq
 simp only [aC,aK] at hw
 unfold kw
 by_cases h1:e=0
 ·have e1:(e=0)=True:=tt h1
  by_cases h2:f=0
  ·have e2:(f=0)=True:=tt h2
   rw [if_pos ⟨h1,h2⟩]
   simp only [jg,mU,ae,aj,aC,aK,go_sem,auA,auz,auB,e1,e2]
  ·have e2:(f=0)=False:=ff h2
   rw [if_neg (fun h=>h2 h.2)]
   simp only [jg,mU,ae,aj,aC,aK,go_sem,auA,auz,auB,e1,e2,hw]
 ·have e1:(e=0)=False:=ff h1
  rw [if_neg (fun h=>h1 h.1)]
  simp only [jg,mU,ae,aj,aC,aK,go_sem,auA,auz,auB,e1,hw]
end Go.Ab
namespace Go.Ab
open Go Go.IntWalk
set_option maxRecDepth 4000
def da (l:List Ri):List (List AV):=l.map aK
@[go_sem] theorem oL (l:List Ri):(da l).length=l.length:=by simp [da]
theorem KW {l:List Ri} {i:Int} {n:Nat} {d:Ri} (hi:i=n) (h:l[n]?=some d):bu (da l) i=some (.ipt (aK d)):=by
 subst hi
 simp [bu,da,h]
theorem Xw (l:List Ri) (ok:∀ d ∈ l,OkI d) (h2:l.length≤100000):∀ (k i:Nat),i+k=l.length→∀ (s:ag) (h:ab),s 5=.sl 7 (da l)→s 6=I l.length→s 7=I i →
  ∃ hh,aB 0 [] (aD (am R (aO false) eL) [5,6,7] [] s h)=if ((l.drop i).all kI)=true then some (.normal,⟨fun _=>.any,fun _=>.dead⟩) else some (.ret,⟨upd (fun _=>.any) 2 (B false),hh⟩):=by
 intro k
 induction k with
 | zero =>
  intro i hi s h h5 h6 h7
  have e1:((i:Int) < l.length)=False:=ff (by omega)
  rw [List.drop_eq_nil_of_le (by omega),ao,List.all_nil,if_pos rfl]
  refine ⟨fun _=>.dead,?_⟩
  simp only [eL,go_sem,h5,h6,h7,e1]
 | succ k ih =>
  intro i hi s h h5 h6 h7
  have hlt:i < l.length:=by omega
  have e1:((i:Int) < l.length)=True:=tt (by omega)
  have e2:bu (da l) (i:Int)=some (.ipt (aK l[i])):=KW rfl (List.getElem?_eq_getElem hlt)
  have e5:IntKind.i64.wrap ((i:Int)+1)=((i+1:Nat):Int):=wi (by omega) (by omega)
  have e3:=xx (ok l[i] (List.getElem_mem hlt))
  rw [List.drop_eq_getElem_cons hlt,List.all_cons,ao]
  have ih':=ih (i+1) (by omega)
  generalize l[i]=d at e2 e3 ⊢
  simp only [aC] at e3
  simp only [aK] at e2 e3
  generalize aD _ _ _=L at ih' ⊢
  unfold kI at ih' ⊢
  cases ha:d.all with
  | true =>
   refine ⟨?hh,?_⟩
   rotate_left
   rw [Bool.not_true,Bool.false_and,Bool.false_and,if_neg Bool.false_ne_true]
   simp only [eL,go_sem,auA,auz,auB,h5,h6,h7,e1,e2,ha]
   rfl
  | false =>
   rw [ha] at e3
   cases hv:vi d with
   | false =>
    rw [hv] at e3
    refine ⟨?hh2,?_⟩
    rotate_left
    rw [Bool.and_false,Bool.false_and,if_neg Bool.false_ne_true]
    simp only [eL,go_sem,auA,auz,auB,h5,h6,h7,e1,e2,e3,ha]
    rfl
   | true =>
    rw [hv] at e3
    rw [Bool.not_false,Bool.true_and,Bool.true_and]
    simp only [eL,go_sem,auA,auz,auB,h5,h6,h7,e1,e2,e3,e5,ha]
    exact ih' _ _ rfl rfl rfl
theorem Rq {l:List Ri} (ok:∀ d ∈ l,OkI d) (h2:l.length≤100000):R F.interval_known [.sl 7 (da l)] []=some (B (l.all kI),[]):=by
 refine aE Fw Fv (AX false) rfl ?_
 have h3:=Xw l ok h2 l.length 0 (Nat.zero_add _)
 simp only [List.drop_zero,Int.natCast_zero] at h3
 cases ha:l.all kI with
 | false =>
  rw [ha] at h3
  simp only [if_neg (fun h:false=true=>nomatch h)] at h3 ⊢
  simp only [kr,pY,go_sem]
  rw [(h3 _ _ rfl rfl rfl).choose_spec]
  simp only [go_sem]
 | true =>
  rw [ha] at h3
  simp only [] at h3 ⊢
  simp only [kr,pY,go_sem]
  rw [(h3 _ _ rfl rfl rfl).choose_spec]
  simp only [go_sem]
theorem nO {x:Ri} (ok:OkI x):R F.interval_known [.sl 7 [[B x.lo.neg,lm x.lo.m,I x.lo.e,B x.hi.neg,lm x.hi.m,I x.hi.e,B x.all]]] []=some (B (kI x),[]):=by
 have h:=Rq (l:=[x]) (fun d hd=>by rw [List.mem_singleton.1 hd]; exact ok) (show 1≤100000 by decide)
 rw [List.all_cons,List.all_nil,Bool.and_true] at h
 exact h
theorem Cv {x y:Ri} (ox:OkI x) (oy:OkI y):R F.interval_known [.sl 7 [[B x.lo.neg,lm x.lo.m,I x.lo.e,B x.hi.neg,lm x.hi.m,I x.hi.e,B x.all],[B y.lo.neg,lm y.lo.m,I y.lo.e,B y.hi.neg,lm y.hi.m,I y.hi.e,B y.all]]] []=some (B (kI x && kI y),[]):=by
 have h:=Rq (l:=[x,y]) (fun d hd=>by
  rcases List.mem_cons.1 hd with h | h
  ·rw [h]; exact ox
  ·rw [List.mem_singleton.1 h]; exact oy) (show 2≤100000 by decide)
 rw [List.all_cons,List.all_cons,List.all_nil,Bool.and_true] at h
 exact h
def ut (x y:Ri) (p:Int):Ri:=if (kI x && kI y && fl p)=true then kw (gB x.lo y.lo p false) (gB x.hi y.hi p true) else fD
theorem U0 {x y:Ri} (ox:OkI x) (oy:OkI y) {p:Int}:R F.interval_Add [aC x,aC y,I p] []=some (aC (ut x y p),[]):=by
 refine aE JL JK (DQ false) rfl ?_
 have hk:=Cv ox oy
 have hp:=rF (p:=p)
 have hw:=jq
 have hd:=IE ox.lo oy.lo (p:=p)
 have hu:=Ro ox.hi oy.hi (p:=p)
 unfold ut
 generalize gB x.lo y.lo p false=r at hd ⊢
 generalize gB x.hi y.hi p true=q at hu ⊢
 obtain ⟨r1,r2⟩:=r
 obtain ⟨q1,q2⟩:=q
 have hm:=Dm (a:=r1) (b:=q1) (e:=r2) (f:=q2)
 generalize kw (r1,r2) (q1,q2)=z at hm ⊢
 simp only [aC,aK,rV,ae,aj] at hw hd hu hm
 cases h1:(kI x && kI y) with
 | false =>
  rw [h1] at hk
  rw [Bool.false_and,if_neg Bool.false_ne_true]
  simp only [jS,nZ,aC,aK,go_sem,auA,auz,auB,auC,hk,hw]
 | true =>
  rw [h1] at hk
  cases h2:fl p with
  | false =>
   rw [h2] at hp
   rw [Bool.true_and,if_neg Bool.false_ne_true]
   simp only [jS,nZ,aC,aK,go_sem,auA,auz,auB,auC,hk,hp,hw]
  | true =>
   rw [h2] at hp
   rw [Bool.true_and,if_pos rfl]
   simp only [jS,nZ,aC,aK,go_sem,auA,auz,auB,auC,hk,hp,hw,hd,hu,hm]
end Go.Ab
namespace Go.Ab
open Go Go.IntWalk
set_option maxRecDepth 4000
def fm (a b:Rd):Int:=if vd a=true∧vd b=true then bR (zI a) (zI b) else 0
def fA (a b:Rd):Rd:=if fm a b≤0 then a else b
def fB (a b:Rd):Rd:=if 0≤fm a b then a else b
theorem KX {a b:Rd} (oa:Ok0 a) (ob:Ok0 b):R F.interval_less [ae a,ae b] []=some (ae (fA a b),[]):=by
 refine aE HX HW (B1 false) rfl ?_
 have hc:=vF oa ob
 rw [show (if vd a=true∧vd b=true then bR (zI a) (zI b) else 0)=fm a b from rfl] at hc
 simp only [ae,aj] at hc
 unfold fA
 by_cases h:fm a b≤0
 ·have e1:(fm a b≤0)=True:=tt h
  rw [if_pos h]
  simp only [lL,qY,ae,aj,go_sem,auA,auz,auB,hc,e1]
 ·have e1:(fm a b≤0)=False:=ff h
  rw [if_neg h]
  simp only [lL,qY,ae,aj,go_sem,auA,auz,auB,hc,e1]
theorem KY {a b:Rd} (oa:Ok0 a) (ob:Ok0 b):R F.interval_more [ae a,ae b] []=some (ae (fB a b),[]):=by
 refine aE HU HT (B0 false) rfl ?_
 have hc:=vF oa ob
 rw [show (if vd a=true∧vd b=true then bR (zI a) (zI b) else 0)=fm a b from rfl] at hc
 simp only [ae,aj] at hc
 unfold fB
 by_cases h:0≤fm a b
 ·have e1:(0≤fm a b)=True:=tt h
  rw [if_pos h]
  simp only [lK,qX,ae,aj,go_sem,auA,auz,auB,hc,e1]
 ·have e1:(0≤fm a b)=False:=ff h
  rw [if_neg h]
  simp only [lK,qX,ae,aj,go_sem,auA,auz,auB,hc,e1]
theorem alF {x:Ri} (h:kI x=true):vd x.lo=true∧vd x.hi=true∧zI x.lo≤zI x.hi∧x.all=false:=by
 unfold kI vi at h
 cases ha:x.all with
 | true =>
  rw [ha] at h
  exact absurd h Bool.false_ne_true
 | false =>
  rw [ha] at h
  simpa using h
def U1 (x:Ri):Int:=if 0 < cu x.lo then 1 else if cu x.hi < 0 then -1 else 0
theorem adm {x:Ri} (ok:OkI x) (hx:kI x=true):R F.interval_Sign [aC x] []=some (I (U1 x),[]):=by
 refine aE In Im (Cd false) rfl ?_
 obtain ⟨v1,v2,v3,v4⟩:=alF hx
 have hk:=nO ok
 rw [hx] at hk
 have s1:=wJ ok.lo v1
 have s2:=wJ ok.hi v2
 simp only [ae,aj] at s1 s2
 unfold U1
 by_cases h1:0 < cu x.lo
 ·have e1:(0 < cu x.lo)=True:=tt h1
  rw [if_pos h1]
  simp only [jl,mY,aC,aK,go_sem,auA,auz,auB,auC,hk,s1,e1]
 ·have e1:(0 < cu x.lo)=False:=ff h1
  rw [if_neg h1]
  by_cases h2:cu x.hi < 0
  ·have e2:(cu x.hi < 0)=True:=tt h2
   rw [if_pos h2]
   simp only [jl,mY,aC,aK,go_sem,auA,auz,auB,auC,hk,s1,e1,s2,e2]
  ·have e2:(cu x.hi < 0)=False:=ff h2
   rw [if_neg h2]
   simp only [jl,mY,aC,aK,go_sem,auA,auz,auB,auC,hk,s1,e1,s2,e2]
def rG (d:Rd):Rd:=if vd d=false∨d.m.length=0 then aX else ⟨false,d.m,d.e⟩
theorem bq:vd aX=true∧Ok0 aX:=⟨rfl,⟨fun x hx=>(nomatch hx),by decide⟩⟩
theorem qz {d:Rd} (ok:Ok0 d):Ok0 (rG d):=by
 unfold rG
 split
 ·exact bq.2
 ·exact ⟨ok.1,ok.2⟩
def KZ (x:Ri):Rd:=if U1 x=0 then aX else fA (rG x.lo) (rG x.hi)
def Xx (x:Ri):Rd:=fB (rG x.lo) (rG x.hi)
theorem ai6 {x:Ri} (ok:OkI x) (hx:kI x=true):R F.interval_Mig [aC x] []=some (.tup [ae (KZ x),B true],[]):=by
 refine aE KB KA (Ea false) rfl ?_
 have hk:=nO ok
 rw [hx] at hk
 have hs:=adm ok hx
 have a1:=IB ok.lo
 have a2:=IB ok.hi
 rw [show (if vd x.lo=false∨x.lo.m.length=0 then aX else (⟨false,x.lo.m,x.lo.e⟩:Rd))=rG x.lo from rfl] at a1
 rw [show (if vd x.hi=false∨x.hi.m.length=0 then aX else (⟨false,x.hi.m,x.hi.e⟩:Rd))=rG x.hi from rfl] at a2
 have hl:=KX (qz ok.lo) (qz ok.hi)
 unfold KZ
 generalize rG x.lo=b1 at a1 hl ⊢
 generalize rG x.hi=b2 at a2 hl ⊢
 generalize fA b1 b2=b3 at hl ⊢
 simp only [aC,aK,ae,aj] at hs a1 a2 hl
 by_cases h1:U1 x=0
 ·have e1:(U1 x=0)=True:=tt h1
  rw [if_pos h1]
  simp only [m7,sx,aC,aK,ae,aj,aX,go_sem,auA,auz,auB,auC,hk,hs,e1]
 ·have e1:(U1 x=0)=False:=ff h1
  rw [if_neg h1]
  simp only [m7,sx,aC,aK,ae,aj,go_sem,auA,auz,auB,auC,auD,hk,hs,e1,a1,a2,hl]
theorem ai7 {x:Ri} (ok:OkI x) (hx:kI x=true):R F.interval_Mag [aC x] []=some (.tup [ae (Xx x),B true],[]):=by
 refine aE KE KD (Eb false) rfl ?_
 have hk:=nO ok
 rw [hx] at hk
 have a1:=IB ok.lo
 have a2:=IB ok.hi
 rw [show (if vd x.lo=false∨x.lo.m.length=0 then aX else (⟨false,x.lo.m,x.lo.e⟩:Rd))=rG x.lo from rfl] at a1
 rw [show (if vd x.hi=false∨x.hi.m.length=0 then aX else (⟨false,x.hi.m,x.hi.e⟩:Rd))=rG x.hi from rfl] at a2
 have hl:=KY (qz ok.lo) (qz ok.hi)
 unfold Xx
 generalize rG x.lo=b1 at a1 hl ⊢
 generalize rG x.hi=b2 at a2 hl ⊢
 generalize fB b1 b2=b3 at hl ⊢
 simp only [ae,aj] at a1 a2 hl
 simp only [rn,yE,aC,aK,ae,aj,go_sem,auA,auz,auB,auC,auD,hk,a1,a2,hl]
def Cw (x:Ri):Ri:=if kI x=true then ⟨KZ x,Xx x,false⟩ else fD
theorem agw {x:Ri} (ok:OkI x):R F.interval_Abs [aC x] []=some (aC (Cw x),[]):=by
 refine aE Kd Kc (D4 false) rfl ?_
 have hk:=nO ok
 have hw:=jq
 unfold Cw
 simp only [aC,aK] at hw
 cases hx:kI x with
 | false =>
  rw [hx] at hk
  rw [if_neg Bool.false_ne_true]
  simp only [mX,sq,aC,aK,go_sem,auA,auz,auB,auC,hk,hw]
 | true =>
  rw [hx] at hk
  rw [if_pos rfl]
  have h1:=ai6 ok hx
  have h2:=ai7 ok hx
  generalize KZ x=b1 at h1 ⊢
  generalize Xx x=b2 at h2 ⊢
  simp only [aC,aK,ae,aj] at h1 h2
  simp only [mX,sq,aC,aK,go_sem,auA,auz,auB,auC,hk,h1,h2]
end Go.Ab
namespace Go.Ab
open Go Go.IntWalk
set_option maxRecDepth 4000
set_option maxHeartbeats 1000000
def vg (dn up:Rd→Rd→Rd × Int) (pr:Nat→Rd × Rd):Nat→Nat→Rd × Rd→Option (Rd × Rd)
 | 0,_,o=>some o
 | k+1,i,o=>if (dn (pr i).1 (pr i).2).2=0∧(up (pr i).1 (pr i).2).2=0 then
   vg dn up pr k (i+1) (if fm (dn (pr i).1 (pr i).2).1 o.1 < 0 then (dn (pr i).1 (pr i).2).1 else o.1,if 0 < fm (up (pr i).1 (pr i).2).1 o.2 then (up (pr i).1 (pr i).2).1 else o.2)
  else none
def td (dn up:Rd→Rd→Rd × Int) (pr:Nat→Rd × Rd):Option (Rd × Rd) :=
 if (dn (pr 0).1 (pr 0).2).2=0∧(up (pr 0).1 (pr 0).2).2=0 then vg dn up pr 3 1 ((dn (pr 0).1 (pr 0).2).1,(up (pr 0).1 (pr 0).2).1) else none
def IF:Option (Rd × Rd)→Ri
 | some o=>⟨o.1,o.2,false⟩
 | none=>fD
def Dn (x:Option (Ex × St)) (o:Option (Rd × Rd)):Prop:=match o with
 | some q=>∃ hh,x=some (.normal,⟨upd (upd (fun _=>.any) 12 (.ref 12 none 0 0 0)) 10 (.ref 10 none 0 0 0),hh⟩)∧hh 10=.bx [.v (.bool false),.emp,.v (.int .i64 0),.v (.bool false),.emp,.v (.int .i64 0),.v (.bool false)]∧hh 12=.bx (aK ⟨q.1,q.2,false⟩)
 | none=>∃ hh,x=some (.ret,⟨upd (fun _=>.any) 10 (.ref 10 none 0 0 0),hh⟩)∧hh 10=.bx (aK fD)
theorem oM {a b:Rd} {p:Int} {up:Bool}:Ok0 (cP a b p up).1:=by
 unfold cP
 split
 ·exact Ct.2
 ·exact bq.2
theorem Z8 {p:Int} {A:AV} {pr:Nat→Rd × Rd} (hA:eH [10,12] A=A) (hidx:∀ i:Nat,i < 4→C3 4 6 true A (I i)=some (.agg [B (pr i).1.neg,lm (pr i).1.m,I (pr i).1.e,B (pr i).2.neg,lm (pr i).2.m,I (pr i).2.e]))
  (hok:∀ i,Ok0 (pr i).1∧Ok0 (pr i).2):∀ (k i:Nat),i+k=4→1≤i→∀ (lo hi:Rd) (s:ag) (h:ab),Ok0 lo→Ok0 hi→s 2=I p→s 3=.fn F.round_MulDown [] []→s 4=.fn F.round_MulUp [] []→s 10=.ref 10 none 0 0 0→s 12=.ref 12 none 0 0 0→s 40=A→s 41=I i →
  h 10=.bx [.v (.bool false),.emp,.v (.int .i64 0),.v (.bool false),.emp,.v (.int .i64 0),.v (.bool false)]→h 12=.bx (aK ⟨lo,hi,false⟩) →
  Dn (aB 0 [10,12] (aD (am R (aO false) bk) [2,3,4,10,12,40,41] [10,12] s h)) (vg (fun a b=>cP a b p false) (fun a b=>cP a b p true) pr k i (lo,hi)):=by
 intro k
 induction k with
 | zero =>
  intro i hi4 h1 lo hi s h olo ohi h2 h3 h4 h10 h12 h40 h41 k10 k12
  have e1:((i:Int) < 4)=False:=ff (by omega)
  simp only [aK] at k12
  rw [ao]
  refine ⟨?hh0,?_,?_,?_⟩
  rotate_left
  ·simp only [bk,go_sem,auD,h2,h3,h4,h10,h12,h40,h41,k10,k12,hA,e1]
   rfl
  ·rfl
  ·rfl
 | succ k ih =>
  intro i hi4 h1 lo hi s h olo ohi h2 h3 h4 h10 h12 h40 h41 k10 k12
  have e1:((i:Int) < 4)=True:=tt (by omega)
  have e0:((i:Int)=0)=False:=ff (by omega)
  have ei:=hidx i (by omega)
  have e5:IntKind.i64.wrap ((i:Int)+1)=((i+1:Nat):Int):=wi (by omega) (by omega)
  have hd:=yf (hok i).1 (hok i).2 (p:=p)
  have hu:=Cu (hok i).1 (hok i).2 (p:=p)
  have hw:=jq
  have okd:=oM (a:=(pr i).1) (b:=(pr i).2) (p:=p) (up:=false)
  have oku:=oM (a:=(pr i).1) (b:=(pr i).2) (p:=p) (up:=true)
  have c1:=vF okd olo
  have c2:=vF oku ohi
  rw [show ∀ a b:Rd,(if vd a=true∧vd b=true then bR (zI a) (zI b) else 0)=fm a b from fun _ _=>rfl] at c1 c2
  have ih':=ih (i+1) (by omega) (by omega)
  unfold vg
  simp only [aK] at k12
  show Dn _ (if (cP (pr i).1 (pr i).2 p false).2=0∧(cP (pr i).1 (pr i).2 p true).2=0 then _ else none)
  generalize cP (pr i).1 (pr i).2 p false=r at hd okd c1 ⊢
  generalize cP (pr i).1 (pr i).2 p true=q at hu oku c2 ⊢
  obtain ⟨r1,r2⟩:=r
  obtain ⟨q1,q2⟩:=q
  show Dn _ (if r2=0∧q2=0 then vg (fun a b=>cP a b p false) (fun a b=>cP a b p true) pr k (i+1) (if fm r1 lo < 0 then r1 else lo,if 0 < fm q1 hi then q1 else hi) else none)
  simp only [rV,ae,aj,aC,aK,fD,aX] at hd hu hw c1 c2
  rw [ao]
  generalize aD _ _ _=L at ih' ⊢
  by_cases hr:r2=0
  ·have er:(r2=0)=True:=tt hr
   by_cases hq:q2=0
   ·have eq:(q2=0)=True:=tt hq
    rw [if_pos (show r2=0∧q2=0 from ⟨hr,hq⟩)]
    by_cases g1:fm r1 lo < 0
    ·have f1:(fm r1 lo < 0)=True:=tt g1
     by_cases g2:0 < fm q1 hi
     ·have f2:(0 < fm q1 hi)=True:=tt g2
      rw [if_pos g1,if_pos g2]
      simp only [bk,Int.cast_ofNat_Int,go_sem,auA,auz,auB,auE,auG,auF,auD,h2,h3,h4,h10,h12,h40,h41,k10,k12,hA,e1,e0,ei,hd,hu,er,eq,c1,c2,f1,f2,e5]
      exact ih' r1 q1 _ _ okd oku rfl rfl rfl rfl rfl rfl rfl rfl rfl
     ·have f2:(0 < fm q1 hi)=False:=ff g2
      rw [if_pos g1,if_neg g2]
      simp only [bk,Int.cast_ofNat_Int,go_sem,auA,auz,auB,auE,auG,auF,auD,h2,h3,h4,h10,h12,h40,h41,k10,k12,hA,e1,e0,ei,hd,hu,er,eq,c1,c2,f1,f2,e5]
      exact ih' r1 hi _ _ okd ohi rfl rfl rfl rfl rfl rfl rfl rfl rfl
    ·have f1:(fm r1 lo < 0)=False:=ff g1
     by_cases g2:0 < fm q1 hi
     ·have f2:(0 < fm q1 hi)=True:=tt g2
      rw [if_neg g1,if_pos g2]
      simp only [bk,Int.cast_ofNat_Int,go_sem,auA,auz,auB,auE,auG,auF,auD,h2,h3,h4,h10,h12,h40,h41,k10,k12,hA,e1,e0,ei,hd,hu,er,eq,c1,c2,f1,f2,e5]
      exact ih' lo q1 _ _ olo oku rfl rfl rfl rfl rfl rfl rfl rfl rfl
     ·have f2:(0 < fm q1 hi)=False:=ff g2
      rw [if_neg g1,if_neg g2]
      simp only [bk,Int.cast_ofNat_Int,go_sem,auA,auz,auB,auE,auG,auF,auD,h2,h3,h4,h10,h12,h40,h41,k10,k12,hA,e1,e0,ei,hd,hu,er,eq,c1,c2,f1,f2,e5]
      exact ih' lo hi _ _ olo ohi rfl rfl rfl rfl rfl rfl rfl rfl rfl
   ·have eq:(q2=0)=False:=ff hq
    rw [if_neg (show ¬(r2=0∧q2=0) from fun h=>hq h.2)]
    refine ⟨?hh1,?_,?_⟩
    rotate_left
    ·simp only [bk,Int.cast_ofNat_Int,go_sem,auA,auz,auB,auE,auG,auF,auD,h2,h3,h4,h10,h12,h40,h41,k10,k12,hA,e1,ei,hd,hu,er,eq,hw]
     rfl
    ·rfl
  ·have er:(r2=0)=False:=ff hr
   rw [if_neg (show ¬(r2=0∧q2=0) from fun h=>hr h.1)]
   refine ⟨?hh2,?_,?_⟩
   rotate_left
   ·simp only [bk,Int.cast_ofNat_Int,go_sem,auA,auz,auB,auE,auG,auF,auD,h2,h3,h4,h10,h12,h40,h41,k10,k12,hA,e1,ei,hd,hu,er,hw]
    rfl
   ·rfl
theorem Xy {p:Int} {A:AV} {pr:Nat→Rd × Rd} (hA:eH [10,12] A=A) (hidx:∀ i:Nat,i < 4→C3 4 6 true A (I i)=some (.agg [B (pr i).1.neg,lm (pr i).1.m,I (pr i).1.e,B (pr i).2.neg,lm (pr i).2.m,I (pr i).2.e]))
  (hok:∀ i,Ok0 (pr i).1∧Ok0 (pr i).2) (s:ag) (h:ab) (h2:s 2=I p) (h3:s 3=.fn F.round_MulDown [] []) (h4:s 4=.fn F.round_MulUp [] []) (h10:s 10=.ref 10 none 0 0 0) (h12:s 12=.ref 12 none 0 0 0) (h40:s 40=A) (h41:s 41=I 0)
  (k10:h 10=.bx [.v (.bool false),.emp,.v (.int .i64 0),.v (.bool false),.emp,.v (.int .i64 0),.v (.bool false)]) (k12:h 12=.bx [.v (.bool false),.emp,.v (.int .i64 0),.v (.bool false),.emp,.v (.int .i64 0),.v (.bool false)]) :
  Dn (aB 0 [10,12] (aD (am R (aO false) bk) [2,3,4,10,12,40,41] [10,12] s h)) (td (fun a b=>cP a b p false) (fun a b=>cP a b p true) pr):=by
 have ei:=hidx 0 (by decide)
 simp only [Int.natCast_zero] at ei
 have hd:=yf (hok 0).1 (hok 0).2 (p:=p)
 have hu:=Cu (hok 0).1 (hok 0).2 (p:=p)
 have hw:=jq
 have okd:=oM (a:=(pr 0).1) (b:=(pr 0).2) (p:=p) (up:=false)
 have oku:=oM (a:=(pr 0).1) (b:=(pr 0).2) (p:=p) (up:=true)
 have ih':=Z8 (p:=p) (A:=A) (pr:=pr) hA hidx hok 3 1 rfl (by decide)
 unfold td
 show Dn _ (if (cP (pr 0).1 (pr 0).2 p false).2=0∧(cP (pr 0).1 (pr 0).2 p true).2=0 then vg (fun a b=>cP a b p false) (fun a b=>cP a b p true) pr 3 1 ((cP (pr 0).1 (pr 0).2 p false).1,(cP (pr 0).1 (pr 0).2 p true).1) else none)
 generalize cP (pr 0).1 (pr 0).2 p false=r at hd okd ⊢
 generalize cP (pr 0).1 (pr 0).2 p true=q at hu oku ⊢
 obtain ⟨r1,r2⟩:=r
 obtain ⟨q1,q2⟩:=q
 show Dn _ (if r2=0∧q2=0 then vg (fun a b=>cP a b p false) (fun a b=>cP a b p true) pr 3 1 (r1,q1) else none)
 simp only [rV,ae,aj,aC,aK,fD,aX] at hd hu hw
 rw [ao]
 generalize aD _ _ _=L at ih' ⊢
 have e5:IntKind.i64.wrap 1=1:=rfl
 have e6:IntKind.i64.wrap (0+1)=1:=rfl
 by_cases hr:r2=0
 ·have er:(r2=0)=True:=tt hr
  by_cases hq:q2=0
  ·have eq:(q2=0)=True:=tt hq
   rw [if_pos (show r2=0∧q2=0 from ⟨hr,hq⟩)]
   simp only [bk,Int.cast_ofNat_Int,go_sem,auA,auz,auB,auE,auG,auF,auD,h2,h3,h4,h10,h12,h40,h41,k10,k12,hA,ei,hd,hu,er,eq,e6]
   exact ih' r1 q1 _ _ okd oku rfl rfl rfl rfl rfl rfl rfl rfl rfl
  ·have eq:(q2=0)=False:=ff hq
   rw [if_neg (show ¬(r2=0∧q2=0) from fun h=>hq h.2)]
   refine ⟨?hh3,?_,?_⟩
   rotate_left
   ·simp only [bk,Int.cast_ofNat_Int,go_sem,auA,auz,auB,auE,auG,auF,auD,h2,h3,h4,h10,h12,h40,h41,k10,k12,hA,ei,hd,hu,er,eq,hw]
    rfl
   ·rfl
 ·have er:(r2=0)=False:=ff hr
  rw [if_neg (show ¬(r2=0∧q2=0) from fun h=>hr h.1)]
  refine ⟨?hh4,?_,?_⟩
  rotate_left
  ·simp only [bk,Int.cast_ofNat_Int,go_sem,auA,auz,auB,auE,auG,auF,auD,h2,h3,h4,h10,h12,h40,h41,k10,k12,hA,ei,hd,hu,er,hw]
   rfl
  ·rfl
def EK (x y:Ri) (i:Nat):Rd × Rd:=match i with
 | 0=>(x.lo,y.lo)
 | 1=>(x.lo,y.hi)
 | 2=>(x.hi,y.lo)
 | _=>(x.hi,y.hi)
def Cx (x y:Ri) (p:Int):Ri:=if (kI x && kI y && fl p)=true then IF (td (fun a b=>cP a b p false) (fun a b=>cP a b p true) (EK x y)) else fD
def pn:Cmd:=.seq (.seq (.ops [2,3,4,10,12,40,41] [⟨(some 40),none,.load 24 true (.t 11)⟩,co 41 (.mv (.c (.v (.int .i64 0))))]) (.block 0 [10,12] (.loop [2,3,4,10,12,40,41] [10,12] bk))) (.seq (.ops [10] [⟨(some 95),none,.load 7 true (.t 12)⟩,⟨none,none,.store 7 (.t 10) (.t 95)⟩]) (.ret))
theorem yg:xn=.seq (.ops [2,3,4,5,6,10] [⟨(some 5),none,.box 7 (.t 0)⟩,⟨(some 6),none,.box 7 (.t 1)⟩,⟨(some 10),none,.alloc [(.v (.bool false)),.emp,(.v (.int .i64 0)),(.v (.bool false)),.emp,(.v (.int .i64 0)),(.v (.bool false))]⟩]) (.seq (.ops [2,3,4,10,11] [co 19 (.fadr 0 (.t 5)),⟨(some 20),none,.load 3 true (.t 19)⟩,co 21 (.fadr 0 (.t 6)),⟨(some 22),none,.load 3 true (.t 21)⟩,co 23 (.build [(.v (.bool false)),.emp,(.v (.int .i64 0)),(.v (.bool false)),.emp,(.v (.int .i64 0))] [(0,3,(.t 20)),(3,3,(.t 22))]),co 24 (.fadr 0 (.t 5)),⟨(some 25),none,.load 3 true (.t 24)⟩,co 26 (.fadr 3 (.t 6)),⟨(some 27),none,.load 3 true (.t 26)⟩,co 28 (.build [(.v (.bool false)),.emp,(.v (.int .i64 0)),(.v (.bool false)),.emp,(.v (.int .i64 0))] [(0,3,(.t 25)),(3,3,(.t 27))]),co 29 (.fadr 3 (.t 5)),⟨(some 30),none,.load 3 true (.t 29)⟩,co 31 (.fadr 0 (.t 6)),⟨(some 32),none,.load 3 true (.t 31)⟩,co 33 (.build [(.v (.bool false)),.emp,(.v (.int .i64 0)),(.v (.bool false)),.emp,(.v (.int .i64 0))] [(0,3,(.t 30)),(3,3,(.t 32))]),co 34 (.fadr 3 (.t 5)),⟨(some 35),none,.load 3 true (.t 34)⟩,co 36 (.fadr 3 (.t 6)),⟨(some 37),none,.load 3 true (.t 36)⟩,co 38 (.build [(.v (.bool false)),.emp,(.v (.int .i64 0)),(.v (.bool false)),.emp,(.v (.int .i64 0))] [(0,3,(.t 35)),(3,3,(.t 37))]),co 39 (.build [(.v (.bool false)),.emp,(.v (.int .i64 0)),(.v (.bool false)),.emp,(.v (.int .i64 0)),(.v (.bool false)),.emp,(.v (.int .i64 0)),(.v (.bool false)),.emp,(.v (.int .i64 0)),(.v (.bool false)),.emp,(.v (.int .i64 0)),(.v (.bool false)),.emp,(.v (.int .i64 0)),(.v (.bool false)),.emp,(.v (.int .i64 0)),(.v (.bool false)),.emp,(.v (.int .i64 0))] [(0,6,(.t 23)),(6,6,(.t 28)),(12,6,(.t 33)),(18,6,(.t 38))]),⟨(some 11),none,.alloc [(.v (.bool false)),.emp,(.v (.int .i64 0)),(.v (.bool false)),.emp,(.v (.int .i64 0)),(.v (.bool false)),.emp,(.v (.int .i64 0)),(.v (.bool false)),.emp,(.v (.int .i64 0)),(.v (.bool false)),.emp,(.v (.int .i64 0)),(.v (.bool false)),.emp,(.v (.int .i64 0)),(.v (.bool false)),.emp,(.v (.int .i64 0)),(.v (.bool false)),.emp,(.v (.int .i64 0))]⟩,⟨none,none,.store 24 (.t 11) (.t 39)⟩]) (.seq (.ops [2,3,4,10,11,12] [⟨(some 12),none,.alloc [(.v (.bool false)),.emp,(.v (.int .i64 0)),(.v (.bool false)),.emp,(.v (.int .i64 0)),(.v (.bool false))]⟩]) pn)):=rfl
theorem ai8 {x y:Ri} (ox:OkI x) (oy:OkI y) (i:Nat):Ok0 (EK x y i).1∧Ok0 (EK x y i).2:=by
 unfold EK
 split
 ·exact ⟨ox.1,oy.1⟩
 ·exact ⟨ox.1,oy.2⟩
 ·exact ⟨ox.2,oy.1⟩
 ·exact ⟨ox.2,oy.2⟩
def Xz (x y:Ri):List AV:=[B x.lo.neg,lm x.lo.m,I x.lo.e,B y.lo.neg,lm y.lo.m,I y.lo.e,B x.lo.neg,lm x.lo.m,I x.lo.e,B y.hi.neg,lm y.hi.m,I y.hi.e,B x.hi.neg,lm x.hi.m,I x.hi.e,B y.lo.neg,lm y.lo.m,I y.lo.e,B x.hi.neg,lm x.hi.m,I x.hi.e,B y.hi.neg,lm y.hi.m,I y.hi.e]
theorem Z9 {x y:Ri} (ox:OkI x) (oy:OkI y) {p:Int} (s:ag) (h:ab) (h2:s 2=I p) (h3:s 3=.fn F.round_MulDown [] []) (h4:s 4=.fn F.round_MulUp [] []) (h10:s 10=.ref 10 none 0 0 0) (h11:s 11=.ref 11 none 0 0 0) (h12:s 12=.ref 12 none 0 0 0)
  (k10:h 10=.bx [.v (.bool false),.emp,.v (.int .i64 0),.v (.bool false),.emp,.v (.int .i64 0),.v (.bool false)]) (k11:h 11=.bx (Xz x y)) (k12:h 12=.bx [.v (.bool false),.emp,.v (.int .i64 0),.v (.bool false),.emp,.v (.int .i64 0),.v (.bool false)]) :
  gq false [[.o 0 [],.o 2 [],.o 0 [],.o 0 [],.o 2 [],.o 0 [],.o 0 []]] [.cell 10 7 true] 0 (am R (aO false) pn s h)=some (aC (IF (td (fun a b=>cP a b p false) (fun a b=>cP a b p true) (EK x y))),[]):=by
 obtain ⟨A,hAe⟩:∃ A:AV,A=.agg (Xz x y):=⟨_,rfl⟩
 have hA:eH [10,12] A=A:=by
  rw [hAe]
  rfl
 have hf:=Xy (p:=p) (A:=A) (pr:=EK x y) hA (fun i hi=>by
  rw [hAe]
  match i,hi with
  | 0,_=>rfl
  | 1,_=>rfl
  | 2,_=>rfl
  | 3,_=>rfl) (ai8 ox oy)
 have hl:fw h 24 true (.ref 11 none 0 0 0)=some (A,h,[]):=by
  rw [hAe]
  simp only [Xz] at k11 ⊢
  simp only [go_sem,auA,auz,auB,k11]
 have hP:∀ (s:ag) (h:ab),s 2=I p→s 3=.fn F.round_MulDown [] []→s 4=.fn F.round_MulUp [] []→s 10=.ref 10 none 0 0 0→s 12=.ref 12 none 0 0 0→s 40=A→s 41=I 0→h 10=.bx [.v (.bool false),.emp,.v (.int .i64 0),.v (.bool false),.emp,.v (.int .i64 0),.v (.bool false)]→h 12=.bx [.v (.bool false),.emp,.v (.int .i64 0),.v (.bool false),.emp,.v (.int .i64 0),.v (.bool false)] →
   gq false [[.o 0 [],.o 2 [],.o 0 [],.o 0 [],.o 2 [],.o 0 [],.o 0 []]] [.cell 10 7 true] 0 (bX (aB 0 [10,12] (aD (am R (aO false) bk) [2,3,4,10,12,40,41] [10,12] s h)) (am R (aO false) (.seq (.ops [10] [⟨(some 95),none,.load 7 true (.t 12)⟩,⟨none,none,.store 7 (.t 10) (.t 95)⟩]) (.ret))))=some (aC (IF (td (fun a b=>cP a b p false) (fun a b=>cP a b p true) (EK x y))),[]):=fun s h a2 a3 a4 a10 a12 a40 a41 b10 b12=>by
  have hg:=hf s h a2 a3 a4 a10 a12 a40 a41 b10 b12
  cases ho:td (fun a b=>cP a b p false) (fun a b=>cP a b p true) (EK x y) with
  | none =>
   rw [ho] at hg
   obtain ⟨hh,g1,g2⟩:=hg
   rw [g1]
   simp only [aK,fD,aX] at g2
   simp only [IF,fD,aC,aK,aX,g2,go_sem,auA,auz,auB]
  | some q =>
   rw [ho] at hg
   obtain ⟨hh,g1,g2,g3⟩:=hg
   rw [g1]
   simp only [aK] at g2 g3
   simp only [IF,aC,aK,g2,g3,go_sem,auA,auz,auB]
 unfold pn
 generalize hLL:aD (am R (aO false) bk) [2,3,4,10,12,40,41] [10,12]=L at hP
 have hX:∀ s h,am R (aO false) (.loop [2,3,4,10,12,40,41] [10,12] bk) s h=L s h:=fun s h=>by rw [← hLL]; rfl
 clear hAe hf
 show gq _ _ _ _ (bX (bX (am R (aO false) (.ops [2,3,4,10,12,40,41] [⟨(some 40),none,.load 24 true (.t 11)⟩,co 41 (.mv (.c (.v (.int .i64 0))))]) s h) fun s h=>aB 0 [10,12] (am R (aO false) (.loop [2,3,4,10,12,40,41] [10,12] bk) s h)) _)=_
 simp only [hX]
 simp only [go_sem,h2,h3,h4,h10,h11,h12,hl]
 exact hP _ _ rfl rfl rfl rfl rfl rfl rfl k10 k12
theorem agx {x y:Ri} (ox:OkI x) (oy:OkI y) {p:Int}:R F.interval_four [aC x,aC y,I p,.fn F.round_MulDown [] [],.fn F.round_MulUp [] []] []=some (aC (IF (td (fun a b=>cP a b p false) (fun a b=>cP a b p true) (EK x y))),[]):=by
 refine aE Ic Ib (B4 false) rfl ?_
 simp only [p7,yg,aC,aK,go_sem,auA,auz,auB]
 exact Z9 ox oy _ _ rfl rfl rfl rfl rfl rfl rfl rfl rfl
theorem U2 {x y:Ri} (ox:OkI x) (oy:OkI y) {p:Int}:R F.interval_Mul [aC x,aC y,I p] []=some (aC (Cx x y p),[]):=by
 refine aE JR JQ (DS false) rfl ?_
 have hk:=Cv ox oy
 have hp:=rF (p:=p)
 have hw:=jq
 have hf:=agx ox oy (p:=p)
 unfold Cx
 generalize IF (td (fun a b=>cP a b p false) (fun a b=>cP a b p true) (EK x y))=z at hf ⊢
 simp only [aC,aK] at hw hf
 cases h1:(kI x && kI y) with
 | false =>
  rw [h1] at hk
  rw [Bool.false_and,if_neg Bool.false_ne_true]
  simp only [jT,n5,aC,aK,go_sem,auA,auz,auB,auC,hk,hw]
 | true =>
  rw [h1] at hk
  cases h2:fl p with
  | false =>
   rw [h2] at hp
   rw [Bool.true_and,if_neg Bool.false_ne_true]
   simp only [jT,n5,aC,aK,go_sem,auA,auz,auB,auC,hk,hp,hw]
  | true =>
   rw [h2] at hp
   rw [Bool.true_and,if_pos rfl]
   simp only [jT,n5,aC,aK,go_sem,auA,auz,auB,auC,hk,hp,hf]
end Go.Ab
namespace Go.Ab
open Go Go.IntWalk
set_option maxRecDepth 4000
set_option maxHeartbeats 1000000
def ls (d:Rd) (p:Int) (up:Bool):Nat→Rd × Int→Rd × Int
 | 0,r=>r
 | k+1,r=>if r.2=0 then ls d p up k (cP r.1 d p up) else r
def pw (d:Rd) (n:Nat) (p:Int) (up:Bool):Rd × Int:=ls d p up (n - 1) (fS d p up)
theorem yX {d:Rd} {p:Int} {up:Bool}:Ok0 (fS d p up).1:=by
 unfold fS
 split
 ·exact Ct.2
 ·exact bq.2
theorem ai9 {d:Rd} {p:Int} {up:Bool}:∀ (k:Nat) (r:Rd × Int),Ok0 r.1→Ok0 (ls d p up k r).1:=by
 intro k
 induction k with
 | zero=>exact fun r h=>h
 | succ k ih =>
  intro r h
  unfold ls
  split
  ·exact ih _ oM
  ·exact h
theorem XA {d:Rd} {n:Nat} {p:Int} {up:Bool}:Ok0 (pw d n p up).1:=ai9 _ _ yX
def gQ:Cmd:=.seq (.seq (.ops [1,2,4,5,10,12,13,14] [co 14 (.mv (.c (.v (.int .i64 1))))]) (.block 0 [10,12,13] (.loop [1,2,4,5,10,12,13,14] [5,10,12] aR))) (.seq (.ops [10,11] [⟨(some 39),none,.load 3 true (.t 12)⟩,cm 40 13,⟨none,none,.store 3 (.t 10) (.t 39)⟩,cm 11 40]) (.ret))
theorem oS:wo=.seq (.ops [1,2,3,4,5,10] [⟨(some 5),none,.box 3 (.t 0)⟩,⟨(some 10),none,.alloc [(.v (.bool false)),.emp,(.v (.int .i64 0))]⟩,co 11 (.mv (.c (.v (.int .i64 0))))]) (.seq (.ops [1,2,4,5,10,12,13] [cm 16 3,⟨(some 17),none,.load 3 true (.t 5)⟩,cm 18 2,⟨(some 19),none,.call (.t 16) [(.t 17),(.t 18)]⟩,cm 15 19,co 20 (.ext 0 (.t 15)),co 21 (.ext 1 (.t 15)),⟨(some 12),none,.alloc [(.v (.bool false)),.emp,(.v (.int .i64 0))]⟩,⟨none,none,.store 3 (.t 12) (.t 20)⟩,cm 13 21]) gQ):=rfl
theorem aaa {d:Rd} (ok:Ok0 d) {p:Int} {n:Nat} (hn:n≤100000):∀ (k i:Nat),i+k=n→∀ (r:Rd × Int),Ok0 r.1→∀ (s:ag) (h:ab),s 1=I n→s 2=I p→s 4=.fn F.round_MulUp [] []→s 5=.ref 5 none 0 0 0→s 10=.ref 10 none 0 0 0→s 12=.ref 12 none 0 0 0→s 13=I r.2→s 14=I i →
  h 5=.bx (aj d)→h 10=.bx [.v (.bool false),.emp,.v (.int .i64 0)]→h 12=.bx (aj r.1) →
  ∃ hh,aB 0 [10,12,13] (aD (am R (aO false) aR) [1,2,4,5,10,12,13,14] [5,10,12] s h)=some (.normal,⟨upd (upd (upd (fun _=>.any) 13 (I (ls d p true k r).2)) 12 (.ref 12 none 0 0 0)) 10 (.ref 10 none 0 0 0),hh⟩)∧hh 10=.bx [.v (.bool false),.emp,.v (.int .i64 0)]∧hh 12=.bx (aj (ls d p true k r).1):=by
 intro k
 induction k with
 | zero =>
  intro i hi r hr s h h1 h2 h4 h5 h10 h12 h13 h14 k5 k10 k12
  have e1:((i:Int) < n)=False:=ff (by omega)
  obtain ⟨r1,r2⟩:=r
  simp only [aj] at k5 k12
  rw [ao]
  refine ⟨?hh0,?_,?_,?_⟩
  rotate_left
  ·simp only [aR,ls,go_sem,auD,h1,h2,h4,h5,h10,h12,h13,h14,k5,k10,k12,e1]
   rfl
  ·rfl
  ·rfl
 | succ k ih =>
  intro i hi r hr s h h1 h2 h4 h5 h10 h12 h13 h14 k5 k10 k12
  have e1:((i:Int) < n)=True:=tt (by omega)
  have e5:IntKind.i64.wrap ((i:Int)+1)=((i+1:Nat):Int):=wi (by omega) (by omega)
  obtain ⟨r1,r2⟩:=r
  have hm:=Cu hr ok (p:=p)
  have okm:=oM (a:=r1) (b:=d) (p:=p) (up:=true)
  have ih':=ih (i+1) (by omega)
  unfold ls
  show ∃ hh,_=some (Ex.normal,(⟨upd (upd (upd (fun _=>AV.any) 13 (I (if r2=0 then ls d p true k (cP r1 d p true) else (r1,r2)).2)) 12 _) 10 _,hh⟩:St))∧_∧hh 12=.bx (aj (if r2=0 then ls d p true k (cP r1 d p true) else (r1,r2)).1)
  generalize cP r1 d p true=q at hm okm ⊢
  obtain ⟨q1,q2⟩:=q
  simp only [rV,ae,aj] at hm k5 k12
  rw [ao]
  by_cases hr:r2=0
  ·have er:(r2=0)=True:=tt hr
   rw [if_pos hr]
   generalize aD _ _ _=L at ih' ⊢
   simp only [aR,aj,go_sem,auA,auz,auB,auD,h1,h2,h4,h5,h10,h12,h13,h14,k5,k10,k12,e1,er,hm,e5]
   exact ih' (q1,q2) okm _ _ rfl rfl rfl rfl rfl rfl rfl rfl rfl rfl rfl
  ·have er:(r2=0)=False:=ff hr
   rw [if_neg hr]
   refine ⟨?hh1,?_,?_,?_⟩
   rotate_left
   ·simp only [aR,go_sem,auD,h1,h2,h4,h5,h10,h12,h13,h14,k5,k10,k12,e1,er]
    rfl
   ·rfl
   ·rfl
theorem aab {d:Rd} (ok:Ok0 d) {p:Int} {n:Nat} (hn:n≤100000) {r:Rd × Int} (hr:Ok0 r.1) (s:ag) (h:ab) (h1:s 1=I n) (h2:s 2=I p) (h4:s 4=.fn F.round_MulUp [] []) (h5:s 5=.ref 5 none 0 0 0) (h10:s 10=.ref 10 none 0 0 0) (h12:s 12=.ref 12 none 0 0 0) (h13:s 13=I r.2)
  (k5:h 5=.bx (aj d)) (k10:h 10=.bx [.v (.bool false),.emp,.v (.int .i64 0)]) (k12:h 12=.bx (aj r.1)) :
  gq false [[.o 0 [],.o 2 [],.o 0 []],[]] [.cell 10 3 true,.t 11] 0 (am R (aO false) gQ s h)=some (rV (ls d p true (n - 1) r),[]):=by
 have hl:∀ (s:ag) (h:ab),s 1=I n→s 2=I p→s 4=.fn F.round_MulUp [] []→s 5=.ref 5 none 0 0 0→s 10=.ref 10 none 0 0 0→s 12=.ref 12 none 0 0 0→s 13=I r.2→s 14=I 1 →
  h 5=.bx (aj d)→h 10=.bx [.v (.bool false),.emp,.v (.int .i64 0)]→h 12=.bx (aj r.1) →
  ∃ hh,aB 0 [10,12,13] (aD (am R (aO false) aR) [1,2,4,5,10,12,13,14] [5,10,12] s h)=some (.normal,⟨upd (upd (upd (fun _=>.any) 13 (I (ls d p true (n - 1) r).2)) 12 (.ref 12 none 0 0 0)) 10 (.ref 10 none 0 0 0),hh⟩)∧hh 10=.bx [.v (.bool false),.emp,.v (.int .i64 0)]∧hh 12=.bx (aj (ls d p true (n - 1) r).1):=by
  by_cases h0:n=0
  ·intro s h a1 a2 a4 a5 a10 a12 a13 a14 b5 b10 b12
   have e1:((1:Int) < (n:Nat))=False:=ff (by omega)
   subst h0
   obtain ⟨r1,r2⟩:=r
   simp only [aj] at b5 b12
   rw [ao]
   refine ⟨?hh0,?_,?_,?_⟩
   rotate_left
   ·simp only [aR,ls,go_sem,auI,auD,a1,a2,a4,a5,a10,a12,a13,a14,b5,b10,b12,e1]
    rfl
   ·rfl
   ·rfl
  ·have:=aaa ok (p:=p) hn (n - 1) 1 (by omega) r hr
   intro s h a1 a2 a4 a5 a10 a12 a13 a14
   exact this s h a1 a2 a4 a5 a10 a12 a13 a14
 generalize ls d p true (n - 1) r=q at hl ⊢
 obtain ⟨r1,r2⟩:=r
 obtain ⟨q1,q2⟩:=q
 have hP:∀ (s:ag) (h:ab),s 1=I n→s 2=I p→s 4=.fn F.round_MulUp [] []→s 5=.ref 5 none 0 0 0→s 10=.ref 10 none 0 0 0→s 12=.ref 12 none 0 0 0→s 13=I r2→s 14=I 1 →
  h 5=.bx (aj d)→h 10=.bx [.v (.bool false),.emp,.v (.int .i64 0)]→h 12=.bx (aj r1) →
  gq false [[.o 0 [],.o 2 [],.o 0 []],[]] [.cell 10 3 true,.t 11] 0 (bX (aB 0 [10,12,13] (aD (am R (aO false) aR) [1,2,4,5,10,12,13,14] [5,10,12] s h)) (am R (aO false) (.seq (.ops [10,11] [⟨(some 39),none,.load 3 true (.t 12)⟩,cm 40 13,⟨none,none,.store 3 (.t 10) (.t 39)⟩,cm 11 40]) (.ret))))=some (rV (q1,q2),[]):=fun s h a1 a2 a4 a5 a10 a12 a13 a14 b5 b10 b12=>by
  obtain ⟨hh,g1,g2,g3⟩:=hl s h a1 a2 a4 a5 a10 a12 a13 a14 b5 b10 b12
  rw [g1]
  simp only [aj] at g3
  simp only [rV,ae,aj,g2,g3,go_sem,auA,auz,auB]
 unfold gQ
 generalize hLL:aD (am R (aO false) aR) [1,2,4,5,10,12,13,14] [5,10,12]=L at hP
 have hX:∀ s h,am R (aO false) (.loop [1,2,4,5,10,12,13,14] [5,10,12] aR) s h=L s h:=fun s h=>by rw [← hLL]; rfl
 show gq _ _ _ _ (bX (bX (am R (aO false) (.ops [1,2,4,5,10,12,13,14] [co 14 (.mv (.c (.v (.int .i64 1))))]) s h) fun s h=>aB 0 [10,12,13] (am R (aO false) (.loop [1,2,4,5,10,12,13,14] [5,10,12] aR) s h)) _)=_
 simp only [hX]
 simp only [go_sem,h1,h2,h4,h5,h10,h12,h13]
 exact hP _ _ rfl rfl rfl rfl rfl rfl rfl rfl k5 k10 k12
theorem agy {d:Rd} (ok:Ok0 d) {p:Int} {n:Nat} (hn:n≤100000):R F.interval_power [ae d,I n,I p,.fn F.round_Up [] [],.fn F.round_MulUp [] []] []=some (rV (pw d n p true),[]):=by
 refine aE wz wx (rR false) rfl ?_
 have hr:=UZ ok (p:=p)
 have okr:=yX (d:=d) (p:=p) (up:=true)
 have ht:=aab ok (p:=p) hn okr
 unfold pw
 generalize fS d p true=r at hr okr ht ⊢
 obtain ⟨r1,r2⟩:=r
 simp only [rV,ae,aj] at hr
 simp only [kv,oS,ae,aj,go_sem,auA,auz,auB,hr]
 exact ht _ _ rfl rfl rfl rfl rfl rfl rfl rfl rfl rfl
theorem aac {d:Rd} (ok:Ok0 d) {p:Int} {n:Nat} (hn:n≤100000):∀ (k i:Nat),i+k=n→∀ (r:Rd × Int),Ok0 r.1→∀ (s:ag) (h:ab),s 1=I n→s 2=I p→s 4=.fn F.round_MulDown [] []→s 5=.ref 5 none 0 0 0→s 10=.ref 10 none 0 0 0→s 12=.ref 12 none 0 0 0→s 13=I r.2→s 14=I i →
  h 5=.bx (aj d)→h 10=.bx [.v (.bool false),.emp,.v (.int .i64 0)]→h 12=.bx (aj r.1) →
  ∃ hh,aB 0 [10,12,13] (aD (am R (aO false) aR) [1,2,4,5,10,12,13,14] [5,10,12] s h)=some (.normal,⟨upd (upd (upd (fun _=>.any) 13 (I (ls d p false k r).2)) 12 (.ref 12 none 0 0 0)) 10 (.ref 10 none 0 0 0),hh⟩)∧hh 10=.bx [.v (.bool false),.emp,.v (.int .i64 0)]∧hh 12=.bx (aj (ls d p false k r).1):=by
 intro k
 induction k with
 | zero =>
  intro i hi r hr s h h1 h2 h4 h5 h10 h12 h13 h14 k5 k10 k12
  have e1:((i:Int) < n)=False:=ff (by omega)
  obtain ⟨r1,r2⟩:=r
  simp only [aj] at k5 k12
  rw [ao]
  refine ⟨?hh0,?_,?_,?_⟩
  rotate_left
  ·simp only [aR,ls,go_sem,auD,h1,h2,h4,h5,h10,h12,h13,h14,k5,k10,k12,e1]
   rfl
  ·rfl
  ·rfl
 | succ k ih =>
  intro i hi r hr s h h1 h2 h4 h5 h10 h12 h13 h14 k5 k10 k12
  have e1:((i:Int) < n)=True:=tt (by omega)
  have e5:IntKind.i64.wrap ((i:Int)+1)=((i+1:Nat):Int):=wi (by omega) (by omega)
  obtain ⟨r1,r2⟩:=r
  have hm:=yf hr ok (p:=p)
  have okm:=oM (a:=r1) (b:=d) (p:=p) (up:=false)
  have ih':=ih (i+1) (by omega)
  unfold ls
  show ∃ hh,_=some (Ex.normal,(⟨upd (upd (upd (fun _=>AV.any) 13 (I (if r2=0 then ls d p false k (cP r1 d p false) else (r1,r2)).2)) 12 _) 10 _,hh⟩:St))∧_∧hh 12=.bx (aj (if r2=0 then ls d p false k (cP r1 d p false) else (r1,r2)).1)
  generalize cP r1 d p false=q at hm okm ⊢
  obtain ⟨q1,q2⟩:=q
  simp only [rV,ae,aj] at hm k5 k12
  rw [ao]
  by_cases hr:r2=0
  ·have er:(r2=0)=True:=tt hr
   rw [if_pos hr]
   generalize aD _ _ _=L at ih' ⊢
   simp only [aR,aj,go_sem,auA,auz,auB,auD,h1,h2,h4,h5,h10,h12,h13,h14,k5,k10,k12,e1,er,hm,e5]
   exact ih' (q1,q2) okm _ _ rfl rfl rfl rfl rfl rfl rfl rfl rfl rfl rfl
  ·have er:(r2=0)=False:=ff hr
   rw [if_neg hr]
   refine ⟨?hh1,?_,?_,?_⟩
   rotate_left
   ·simp only [aR,go_sem,auD,h1,h2,h4,h5,h10,h12,h13,h14,k5,k10,k12,e1,er]
    rfl
   ·rfl
   ·rfl
theorem aad {d:Rd} (ok:Ok0 d) {p:Int} {n:Nat} (hn:n≤100000) {r:Rd × Int} (hr:Ok0 r.1) (s:ag) (h:ab) (h1:s 1=I n) (h2:s 2=I p) (h4:s 4=.fn F.round_MulDown [] []) (h5:s 5=.ref 5 none 0 0 0) (h10:s 10=.ref 10 none 0 0 0) (h12:s 12=.ref 12 none 0 0 0) (h13:s 13=I r.2)
  (k5:h 5=.bx (aj d)) (k10:h 10=.bx [.v (.bool false),.emp,.v (.int .i64 0)]) (k12:h 12=.bx (aj r.1)) :
  gq false [[.o 0 [],.o 2 [],.o 0 []],[]] [.cell 10 3 true,.t 11] 0 (am R (aO false) gQ s h)=some (rV (ls d p false (n - 1) r),[]):=by
 have hl:∀ (s:ag) (h:ab),s 1=I n→s 2=I p→s 4=.fn F.round_MulDown [] []→s 5=.ref 5 none 0 0 0→s 10=.ref 10 none 0 0 0→s 12=.ref 12 none 0 0 0→s 13=I r.2→s 14=I 1 →
  h 5=.bx (aj d)→h 10=.bx [.v (.bool false),.emp,.v (.int .i64 0)]→h 12=.bx (aj r.1) →
  ∃ hh,aB 0 [10,12,13] (aD (am R (aO false) aR) [1,2,4,5,10,12,13,14] [5,10,12] s h)=some (.normal,⟨upd (upd (upd (fun _=>.any) 13 (I (ls d p false (n - 1) r).2)) 12 (.ref 12 none 0 0 0)) 10 (.ref 10 none 0 0 0),hh⟩)∧hh 10=.bx [.v (.bool false),.emp,.v (.int .i64 0)]∧hh 12=.bx (aj (ls d p false (n - 1) r).1):=by
  by_cases h0:n=0
  ·intro s h a1 a2 a4 a5 a10 a12 a13 a14 b5 b10 b12
   have e1:((1:Int) < (n:Nat))=False:=ff (by omega)
   subst h0
   obtain ⟨r1,r2⟩:=r
   simp only [aj] at b5 b12
   rw [ao]
   refine ⟨?hh0,?_,?_,?_⟩
   rotate_left
   ·simp only [aR,ls,go_sem,auI,auD,a1,a2,a4,a5,a10,a12,a13,a14,b5,b10,b12,e1]
    rfl
   ·rfl
   ·rfl
  ·have:=aac ok (p:=p) hn (n - 1) 1 (by omega) r hr
   intro s h a1 a2 a4 a5 a10 a12 a13 a14
   exact this s h a1 a2 a4 a5 a10 a12 a13 a14
 generalize ls d p false (n - 1) r=q at hl ⊢
 obtain ⟨r1,r2⟩:=r
 obtain ⟨q1,q2⟩:=q
 have hP:∀ (s:ag) (h:ab),s 1=I n→s 2=I p→s 4=.fn F.round_MulDown [] []→s 5=.ref 5 none 0 0 0→s 10=.ref 10 none 0 0 0→s 12=.ref 12 none 0 0 0→s 13=I r2→s 14=I 1 →
  h 5=.bx (aj d)→h 10=.bx [.v (.bool false),.emp,.v (.int .i64 0)]→h 12=.bx (aj r1) →
  gq false [[.o 0 [],.o 2 [],.o 0 []],[]] [.cell 10 3 true,.t 11] 0 (bX (aB 0 [10,12,13] (aD (am R (aO false) aR) [1,2,4,5,10,12,13,14] [5,10,12] s h)) (am R (aO false) (.seq (.ops [10,11] [⟨(some 39),none,.load 3 true (.t 12)⟩,cm 40 13,⟨none,none,.store 3 (.t 10) (.t 39)⟩,cm 11 40]) (.ret))))=some (rV (q1,q2),[]):=fun s h a1 a2 a4 a5 a10 a12 a13 a14 b5 b10 b12=>by
  obtain ⟨hh,g1,g2,g3⟩:=hl s h a1 a2 a4 a5 a10 a12 a13 a14 b5 b10 b12
  rw [g1]
  simp only [aj] at g3
  simp only [rV,ae,aj,g2,g3,go_sem,auA,auz,auB]
 unfold gQ
 generalize hLL:aD (am R (aO false) aR) [1,2,4,5,10,12,13,14] [5,10,12]=L at hP
 have hX:∀ s h,am R (aO false) (.loop [1,2,4,5,10,12,13,14] [5,10,12] aR) s h=L s h:=fun s h=>by rw [← hLL]; rfl
 show gq _ _ _ _ (bX (bX (am R (aO false) (.ops [1,2,4,5,10,12,13,14] [co 14 (.mv (.c (.v (.int .i64 1))))]) s h) fun s h=>aB 0 [10,12,13] (am R (aO false) (.loop [1,2,4,5,10,12,13,14] [5,10,12] aR) s h)) _)=_
 simp only [hX]
 simp only [go_sem,h1,h2,h4,h5,h10,h12,h13]
 exact hP _ _ rfl rfl rfl rfl rfl rfl rfl rfl k5 k10 k12
theorem agz {d:Rd} (ok:Ok0 d) {p:Int} {n:Nat} (hn:n≤100000):R F.interval_power [ae d,I n,I p,.fn F.round_Down [] [],.fn F.round_MulDown [] []] []=some (rV (pw d n p false),[]):=by
 refine aE wz wx (rR false) rfl ?_
 have hr:=Ml ok (p:=p)
 have okr:=yX (d:=d) (p:=p) (up:=false)
 have ht:=aad ok (p:=p) hn okr
 unfold pw
 generalize fS d p false=r at hr okr ht ⊢
 obtain ⟨r1,r2⟩:=r
 simp only [rV,ae,aj] at hr
 simp only [kv,oS,ae,aj,go_sem,auA,auz,auB,hr]
 exact ht _ _ rfl rfl rfl rfl rfl rfl rfl rfl rfl rfl
end Go.Ab
namespace Go.Ab
open Go Go.IntWalk
set_option maxRecDepth 4000
set_option maxHeartbeats 1000000
def sS (d:Rd):Int:=if vd d=false∨d.m.length=0 then 0 else if d.neg=true then -1 else 1
theorem yY {d:Rd} (ok:Ok0 d):Ok0 (fR d):=by
 unfold fR
 split
 ·exact bq.2
 ·exact ⟨ok.1,ok.2⟩
theorem aja {d:Rd} (h:sS d < 0):¬ sS (fR d) < 0:=by
 unfold sS at h
 split at h
 ·omega
 ·split at h
  ·rename_i h1 h2
   unfold sS fR
   rw [if_neg h1]
   split
   ·decide
   ·simp [h2]
  ·omega
def yh (d:Rd) (n:Nat) (p:Int) (up:Bool):Rd × Int:=if sS d < 0 then (fR (pw (fR d) n p (!up)).1,(pw (fR d) n p (!up)).2) else pw d n p up
theorem U3 {d:Rd} (ok:Ok0 d) (hs:¬ sS d < 0) {p:Int} {n:Nat} (hn:n≤100000) {up:Bool}:R F.interval_end [ae d,I n,I p,B up] []=some (rV (pw d n p up),[]):=by
 refine aE yP yO (uF false) rfl ?_
 have h1:=KO ok
 rw [show (if vd d=false∨d.m.length=0 then (0:Int) else if d.neg=true then -1 else 1)=sS d from rfl] at h1
 have e1:(sS d < 0)=False:=ff hs
 cases up with
 | true =>
  have h2:=agy ok (p:=p) hn
  generalize pw d n p true=q at h2 ⊢
  obtain ⟨q1,q2⟩:=q
  simp only [rV,ae,aj] at h1 h2
  simp only [jY,oj,rV,ae,aj,go_sem,auA,auz,auB,h1,e1,h2]
 | false =>
  have h2:=agz ok (p:=p) hn
  generalize pw d n p false=q at h2 ⊢
  obtain ⟨q1,q2⟩:=q
  simp only [rV,ae,aj] at h1 h2
  simp only [jY,oj,rV,ae,aj,go_sem,auA,auz,auB,h1,e1,h2]
theorem IG {d:Rd} (ok:Ok0 d) {p:Int} {n:Nat} (hn:n≤100000) {up:Bool}:R F.interval_end [ae d,I n,I p,B up] []=some (rV (yh d n p up),[]):=by
 unfold yh
 by_cases hs:sS d < 0
 ·rw [if_pos hs]
  refine aE yP yO (uF false) rfl ?_
  have h1:=KO ok
  rw [show (if vd d=false∨d.m.length=0 then (0:Int) else if d.neg=true then -1 else 1)=sS d from rfl] at h1
  have e1:(sS d < 0)=True:=tt hs
  have h2:=Co ok
  rw [show (if vd d=false∨d.m.length=0 then aX else (⟨!d.neg,d.m,d.e⟩:Rd))=fR d from rfl] at h2
  have h3:=U3 (yY ok) (aja hs) (p:=p) hn (up:=!up)
  have okq:=XA (d:=fR d) (n:=n) (p:=p) (up:=!up)
  generalize fR d=nd at h2 h3 okq ⊢
  generalize pw nd n p (!up)=q at h3 okq ⊢
  obtain ⟨q1,q2⟩:=q
  have h4:=Co (d:=q1) okq
  rw [show (if vd q1=false∨q1.m.length=0 then aX else (⟨!q1.neg,q1.m,q1.e⟩:Rd))=fR q1 from rfl] at h4
  generalize hnq:fR q1=nq at h4
  show _=some (rV (nq,q2),[])
  simp only [rV,ae,aj] at h1 h2 h3 h4
  simp only [jY,oj,rV,ae,aj,go_sem,auA,auz,auB,h1,e1,h2,h3,h4]
 ·rw [if_neg hs]
  exact U3 ok hs hn
def one:Rd:=⟨false,[1],0⟩
theorem Rr:R F.dyadic_Int [I 1] []=some (ae one,[]):=by
 have h:=ai4 (n:=1) (by unfold I64; omega)
 have h2:bD (decide ((1:Int) < 0)) (1:Int).natAbs 0=one:=by
  show bD false 1 0=one
  rw [ki (by decide),yG (by decide)]
  show (⟨false,aq 1,0⟩:Rd)=one
  rw [mE (by decide)]
  show (⟨false,1::aq 0,0⟩:Rd)=one
  rw [eE]
  rfl
 rw [h2] at h
 exact h
theorem tM:vd one=true∧Ok0 one:=⟨by decide,⟨fun x hx=>by rw [List.mem_singleton.1 hx]; decide,by decide⟩⟩
def yi (x:Ri) (n:Nat) (p:Int):Ri:=if (kI x && fl p && decide (n≤16))=true then (if n=0 then ⟨one,one,false⟩ else
 kw (yh (if n % 2=0 then Cw x else x).lo n p false) (yh (if n % 2=0 then Cw x else x).hi n p true)) else fD
theorem Gw {a b:Rd} (oa:Ok0 a) (ob:Ok0 b):Ok0 (fA a b):=by
 unfold fA
 split
 ·exact oa
 ·exact ob
theorem Gx {a b:Rd} (oa:Ok0 a) (ob:Ok0 b):Ok0 (fB a b):=by
 unfold fB
 split
 ·exact oa
 ·exact ob
theorem U4 {x:Ri} (ok:OkI x):OkI (Cw x):=by
 unfold Cw
 split
 ·refine ⟨?_,Gx (qz ok.lo) (qz ok.hi)⟩
  show Ok0 (KZ x)
  unfold KZ
  split
  ·exact bq.2
  ·exact Gw (qz ok.lo) (qz ok.hi)
 ·exact ⟨bq.2,bq.2⟩
theorem U5 {d:Rd} (_ok:Ok0 d) {n:Nat} {p:Int} {up:Bool}:Ok0 (yh d n p up).1:=by
 unfold yh
 split
 ·exact yY XA
 ·exact XA
theorem Cy {x:Ri} (ok:OkI x) {p:Int} {n:Nat} (hn:n≤100000):R F.interval_Power [aC x,I n,I p] []=some (aC (yi x n p),[]):=by
 refine aE FC FB (AY false) rfl ?_
 have hk:=nO ok
 have hp:=rF (p:=p)
 have hw:=jq
 have n0:((n:Int) < 0)=False:=ff (by omega)
 unfold yi
 simp only [aC,aK] at hw
 cases h1:kI x with
 | false =>
  rw [h1] at hk
  rw [Bool.false_and,Bool.false_and,if_neg Bool.false_ne_true]
  simp only [dD,fg,aC,aK,go_sem,auA,auz,auB,auC,hk,hw]
 | true =>
  rw [h1] at hk
  cases h2:fl p with
  | false =>
   rw [h2] at hp
   rw [Bool.true_and,Bool.false_and,if_neg Bool.false_ne_true]
   simp only [dD,fg,aC,aK,go_sem,auA,auz,auB,auC,hk,hp,hw]
  | true =>
   rw [h2] at hp
   rw [Bool.true_and,Bool.true_and]
   by_cases h3:n≤16
   ·have e3:(16 < (n:Int))=False:=ff (by omega)
    rw [if_pos (decide_eq_true h3)]
    by_cases h4:n=0
    ·have e4:((n:Int)=0)=True:=tt (by omega)
     rw [if_pos h4]
     have g1:=Rr
     have g2:=jr tM.2 tM.1
     simp only [one,aC,aK,ae,aj] at g1 g2
     simp only [dD,fg,one,aC,aK,go_sem,auA,auz,auB,auC,hk,hp,n0,e3,e4,g1,g2]
    ·have e4:((n:Int)=0)=False:=ff (by omega)
     rw [if_neg h4]
     by_cases h5:n % 2=0
     ·have e5:((n:Int).tmod 2=0)=True:=tt (by rw [Int.tmod_eq_emod_of_nonneg (by omega)]; omega)
      rw [if_pos h5]
      have ha:=agw ok
      have oa:=U4 ok
      generalize Cw x=y at ha oa ⊢
      have g1:=IG oa.lo hn (p:=p) (up:=false)
      have g2:=IG oa.hi hn (p:=p) (up:=true)
      generalize yh y.lo n p false=r at g1 ⊢
      generalize yh y.hi n p true=q at g2 ⊢
      obtain ⟨r1,r2⟩:=r
      obtain ⟨q1,q2⟩:=q
      have hm:=Dm (a:=r1) (b:=q1) (e:=r2) (f:=q2)
      generalize kw (r1,r2) (q1,q2)=z at hm ⊢
      simp only [aC,aK,ae,aj,rV] at ha g1 g2 hm
      simp only [dD,fg,aC,aK,go_sem,auA,auz,auB,auC,auH,hk,hp,n0,e3,e4,e5,ha,g1,g2,hm]
     ·have e5:((n:Int).tmod 2=0)=False:=ff (by rw [Int.tmod_eq_emod_of_nonneg (by omega)]; omega)
      rw [if_neg h5]
      have g1:=IG ok.lo hn (p:=p) (up:=false)
      have g2:=IG ok.hi hn (p:=p) (up:=true)
      generalize yh x.lo n p false=r at g1 ⊢
      generalize yh x.hi n p true=q at g2 ⊢
      obtain ⟨r1,r2⟩:=r
      obtain ⟨q1,q2⟩:=q
      have hm:=Dm (a:=r1) (b:=q1) (e:=r2) (f:=q2)
      generalize kw (r1,r2) (q1,q2)=z at hm ⊢
      simp only [aC,aK,ae,aj,rV] at g1 g2 hm
      simp only [dD,fg,aC,aK,go_sem,auA,auz,auB,auC,auH,hk,hp,n0,e3,e4,e5,g1,g2,hm]
   ·have e3:(16 < (n:Int))=True:=tt (by omega)
    rw [if_neg (fun h=>h3 (of_decide_eq_true h))]
    simp only [dD,fg,aC,aK,go_sem,auA,auz,auB,auC,hk,hp,n0,e3,hw]
def K0 (x:Ri) (e:Nat) (p:Int):Ri:=if e≤16 then yi x e p else Cx (yi x 16 p) (yi x (e - 16) p) p
theorem Rs {r s:Rd × Int} (h1:Ok0 r.1) (h2:Ok0 s.1):OkI (kw r s):=by
 unfold kw
 split
 ·exact ⟨h1,h2⟩
 ·exact ⟨bq.2,bq.2⟩
theorem K1 {x:Ri} (ok:OkI x) {n:Nat} {p:Int}:OkI (yi x n p):=by
 unfold yi
 have h:OkI (if n % 2=0 then Cw x else x):=by
  split
  ·exact U4 ok
  ·exact ok
 split
 ·split
  ·exact ⟨tM.2,tM.2⟩
  ·exact Rs (U5 h.1) (U5 h.2)
 ·exact ⟨bq.2,bq.2⟩
theorem agA {x:Ri} (ok:OkI x) {p:Int} {e:Nat} (hn:e≤100000):R F.bound_power [aC x,I e,I p] []=some (aC (K0 x e p),[]):=by
 refine aE MW MV (Fj false) rfl ?_
 unfold K0
 by_cases h1:e≤16
 ·have e1:((e:Int)≤16)=True:=tt (by omega)
  rw [if_pos h1]
  have h2:=Cy ok hn (p:=p)
  generalize yi x e p=z at h2 ⊢
  simp only [aC,aK] at h2
  simp only [n6,tY,aC,aK,go_sem,auA,auz,auB,e1,h2]
 ·have e1:((e:Int)≤16)=False:=ff (by omega)
  rw [if_neg h1]
  have h2:=Cy ok (show 16≤100000 by decide) (p:=p)
  have h3:=Cy ok (show e - 16≤100000 by omega) (p:=p)
  have o2:=K1 ok (n:=16) (p:=p)
  have o3:=K1 ok (n:=e - 16) (p:=p)
  have w1:IntKind.i64.wrap ((e:Int) - 16)=((e - 16:Nat):Int):=wi (by omega) (by omega)
  generalize yi x 16 p=z2 at h2 o2 ⊢
  generalize yi x (e - 16) p=z3 at h3 o3 ⊢
  have h4:=U2 o2 o3 (p:=p)
  generalize Cx z2 z3 p=z4 at h4 ⊢
  simp only [aC,aK,Int.cast_ofNat_Int] at h2 h3 h4
  simp only [n6,tY,aC,aK,go_sem,auA,auz,auB,auC,auD,e1,h2,h3,h4,w1]
end Go.Ab
namespace Go.Ab
open Go Go.IntWalk
set_option maxRecDepth 4000
set_option maxHeartbeats 1000000
def be (l:List Int):List (List AV):=l.map fun (n:Int)=>[I n]
@[go_sem] theorem Do (l:List Int):(be l).length=l.length:=by simp [be]
theorem kW {l:List Int} {i:Int} {n:Nat} {d:Int} (hi:i=n) (h:l[n]?=some d):bu (be l) i=some (.ipt [I d]):=by
 subst hi
 simp [bu,be,h]
theorem Ru {x:Int}:R F.cmp_isNaN_int_ [I x] []=some (B false,[]):=by
 refine aE Ge Gd (A9 false) rfl ?_
 simp only [pe,wq,go_sem]
theorem aae {x y:Int}:R F.cmp_Compare_int_ [I x,I y] []=some (I (bR x y),[]):=by
 refine aE Cf Ce (yQ false) rfl ?_
 have h1:=Ru (x:=x)
 have h2:=Ru (x:=y)
 unfold bR
 by_cases e1:x < y
 ·have f1:(x < y)=True:=tt e1
  rw [if_pos e1]
  simp only [ge,jZ,go_sem,auA,auz,h1,h2,f1]
 ·have f1:(x < y)=False:=ff e1
  rw [if_neg e1]
  by_cases e2:y < x
  ·have f2:(y < x)=True:=tt e2
   rw [if_pos e2]
   simp only [ge,jZ,go_sem,auA,auz,h1,h2,f1,f2]
  ·have f2:(y < x)=False:=ff e2
   rw [if_neg e2]
   simp only [ge,jZ,go_sem,auA,auz,h1,h2,f1,f2]
def js:List Int→List Int→Int
 | [],[]=>0
 | [],_::_=>-1
 | _::_,[]=>1
 | x::xs,y::ys=>if bR x y=0 then js xs ys else bR x y
theorem adn {a b:List Int} (hl:a.length=b.length) (h2:a.length≤100000):∀ (k i:Nat),i+k=a.length→∀ (s:ag) (h:ab),s 0=.sl 1 (be a)→s 1=.sl 1 (be b)→s 9=.sl 1 (be a)→s 10=I a.length→s 11=I i →
  ∃ hh,aB 0 [0,1] (aD (am R (aO false) df) [0,1,9,10,11] [] s h)=if js (a.drop i) (b.drop i)=0 then some (.normal,⟨upd (upd (fun _=>.any) 1 (.sl 1 (be b))) 0 (.sl 1 (be a)),fun _=>.dead⟩) else some (.ret,⟨upd (fun _=>.any) 4 (I (js (a.drop i) (b.drop i))),hh⟩):=by
 intro k
 induction k with
 | zero =>
  intro i hi s h h0 h1 h9 h10 h11
  have e1:((i:Int) < a.length)=False:=ff (by omega)
  rw [List.drop_eq_nil_of_le (by omega),List.drop_eq_nil_of_le (by omega),ao]
  refine ⟨fun _=>.dead,?_⟩
  show _=if (0:Int)=0 then _ else _
  rw [if_pos rfl]
  simp only [df,go_sem,h0,h1,h9,h10,h11,e1]
 | succ k ih =>
  intro i hi s h h0 h1 h9 h10 h11
  have hlt:i < a.length:=by omega
  have hlt2:i < b.length:=by omega
  have e1:((i:Int) < a.length)=True:=tt (by omega)
  have e4:((b.length:Int)≤(i:Int))=False:=ff (by omega)
  have e2:bu (be a) (i:Int)=some (.ipt [I a[i]]):=kW rfl (List.getElem?_eq_getElem hlt)
  have e3:bu (be b) (i:Int)=some (.ipt [I b[i]]):=kW rfl (List.getElem?_eq_getElem hlt2)
  have e5:IntKind.i64.wrap ((i:Int)+1)=((i+1:Nat):Int):=wi (by omega) (by omega)
  rw [List.drop_eq_getElem_cons hlt,List.drop_eq_getElem_cons hlt2,ao]
  have ih':=ih (i+1) (by omega)
  have hc:=aae (x:=a[i]) (y:=b[i])
  generalize a[i]=x at e2 hc ⊢
  generalize b[i]=y at e3 hc ⊢
  generalize aD _ _ _=L at ih' ⊢
  unfold js
  by_cases hz:bR x y=0
  ·have e6:(bR x y=0)=True:=tt hz
   simp only [if_pos hz]
   simp only [df,go_sem,auA,auz,h0,h1,h9,h10,h11,e1,e2,e3,e4,e5,hc,e6]
   exact ih' _ _ rfl rfl rfl rfl rfl
  ·have e6:(bR x y=0)=False:=ff hz
   simp only [if_neg hz]
   refine ⟨?hh,?_⟩
   rotate_left
   simp only [df,go_sem,auA,auz,h0,h1,h9,h10,h11,e1,e2,e3,e4,hc,e6]
   rfl
theorem XB {a b:List Int} (hl:a.length=b.length) (h2:a.length≤100000):R F.slices_Compare_int_int_ [.sl 1 (be a),.sl 1 (be b)] []=some (I (js a b),[]):=by
 refine aE uY uX (sE false) rfl ?_
 have h3:=adn hl h2 a.length 0 (Nat.zero_add _)
 simp only [List.drop_zero,Int.natCast_zero] at h3
 by_cases hz:js a b=0
 ·simp only [if_pos hz] at h3
  have e1:((a.length:Int) < b.length)=False:=ff (by omega)
  simp only [eX,iI,go_sem]
  rw [(h3 _ _ rfl rfl rfl rfl rfl).choose_spec,hz]
  simp only [go_sem,e1]
 ·simp only [if_neg hz] at h3
  simp only [eX,iI,go_sem]
  rw [(h3 _ _ rfl rfl rfl rfl rfl).choose_spec]
  simp only [go_sem]
def bV:List Int→Int
 | []=>0
 | x::l=>x+bV l
def sm (l:List Int):Prop:=l.length≤1000∧∀ x ∈ l,0≤x∧x≤32
theorem Gy {l:List Int} {i:Nat} (h:i < l.length):bV (l.take (i+1))=bV (l.take i)+l[i]:=by
 induction l generalizing i with
 | nil=>exact absurd h (Nat.not_lt_zero _)
 | cons a l ih =>
  cases i with
  | zero=>simp [bV]
  | succ i =>
   have:=ih (i:=i) (by simpa using h)
   simp only [List.take_succ_cons,bV,List.getElem_cons_succ]
   rw [this]
   omega
theorem Rw {l:List Int} (h:∀ x ∈ l,0≤x∧x≤32):0≤bV l∧bV l≤32*l.length:=by
 induction l with
 | nil=>exact ⟨Int.le_refl _,Int.le_refl _⟩
 | cons a l ih =>
  have h1:=h a (List.mem_cons_self ..)
  have h2:=ih (fun x hx=>h x (List.mem_cons_of_mem _ hx))
  simp only [bV,List.length_cons]
  omega
theorem ado {a:List Int} (h2:sm a):∀ (k i:Nat),i+k=a.length→∀ (s:ag) (h:ab),s 3=I (bV (a.take i))→s 6=.sl 1 (be a)→s 7=I a.length→s 8=I i →
  aB 0 [3] (aD (am R (aO false) lP) [3,6,7,8] [] s h)=some (.normal,⟨upd (fun _=>.any) 3 (I (bV a)),fun _=>.dead⟩):=by
 intro k
 induction k with
 | zero =>
  intro i hi s h h3 h6 h7 h8
  have e1:((i:Int) < a.length)=False:=ff (by omega)
  rw [List.take_of_length_le (by omega)] at h3
  rw [ao]
  simp only [lP,go_sem,h3,h6,h7,h8,e1]
 | succ k ih =>
  intro i hi s h h3 h6 h7 h8
  have hlt:i < a.length:=by omega
  obtain ⟨g1,g2⟩:=h2
  have e1:((i:Int) < a.length)=True:=tt (by omega)
  have e2:bu (be a) (i:Int)=some (.ipt [I a[i]]):=kW rfl (List.getElem?_eq_getElem hlt)
  have e5:IntKind.i64.wrap ((i:Int)+1)=((i+1:Nat):Int):=wi (by omega) (by omega)
  have b1:=Rw (l:=a.take i) (fun x hx=>g2 x (List.mem_of_mem_take hx))
  have b2:=g2 a[i] (List.getElem_mem hlt)
  have b3:(a.take i).length≤1000:=by simp only [List.length_take]; omega
  have e6:IntKind.i64.wrap (bV (a.take i)+a[i])=bV (a.take (i+1)):=by
   rw [Gy hlt]
   exact i64_in _ ⟨by omega,by omega⟩
  have ih':=ih (i+1) (by omega)
  generalize a[i]=x at e2 e6 ⊢
  rw [ao]
  generalize aD _ _ _=L at ih' ⊢
  simp only [lP,go_sem,h3,h6,h7,h8,e1,e2,e5,e6]
  exact ih' _ _ rfl rfl rfl rfl
theorem tN {a:List Int} (h2:sm a):R F.poly_degree [.sl 1 (be a)] []=some (I (bV a),[]):=by
 refine aE Nq Np (FP false) rfl ?_
 have h3:=ado h2 a.length 0 (Nat.zero_add _)
 simp only [List.take_zero,bV,Int.natCast_zero] at h3
 simp only [sk,AC,go_sem]
 rw [h3 _ _ rfl rfl rfl rfl]
 simp only [go_sem]
def ce (a b:List Int):Int:=if bR (bV a) (bV b)=0 then js b a else bR (bV a) (bV b)
theorem Rx {a b:List Int} (ha:sm a) (hb:sm b) (hl:a.length=b.length):R F.poly_order [.sl 1 (be a),.sl 1 (be b)] []=some (I (ce a b),[]):=by
 refine aE QH QG (Ij false) rfl ?_
 have d1:=tN ha
 have d2:=tN hb
 have d3:=aae (x:=bV a) (y:=bV b)
 have d4:=XB hl.symm (by have:=hb.1; omega)
 unfold ce
 by_cases hz:bR (bV a) (bV b)=0
 ·have e6:(bR (bV a) (bV b)=0)=True:=tt hz
  rw [if_pos hz]
  simp only [pO,wk,go_sem,auA,auz,d1,d2,d3,d4,e6]
 ·have e6:(bR (bV a) (bV b)=0)=False:=ff hz
  rw [if_neg hz]
  simp only [pO,wk,go_sem,auA,auz,d1,d2,d3,e6]
end Go.Ab
namespace Go.Ab
open Go Go.IntWalk
set_option maxRecDepth 4000
set_option maxHeartbeats 1000000
structure Rt where
 exps:List Int
 c:Rd
structure Rp where
 vars:Int
 terms:List Rt
def cw (t:Rt):List AV:=[.sl 1 (be t.exps),B t.c.neg,lm t.c.m,I t.c.e]
def bp (l:List Rt):List (List AV):=l.map cw
def dq (a:Rp):AV:=.agg [I a.vars,.sl 4 (bp a.terms)]
@[go_sem] theorem mH (l:List Rt):(bp l).length=l.length:=by simp [bp]
theorem oN {l:List Rt} {i:Int} {n:Nat} {d:Rt} (hi:i=n) (h:l[n]?=some d):bu (bp l) i=some (.ipt (cw d)):=by
 subst hi
 simp [bu,bp,h]
theorem tO {α:Type} {f:α→α} {l:List α} (h:∀ x ∈ l,f x=x):l.map f=l:=(List.map_congr_left (g:=fun c=>c) h).trans (List.map_id' _)
@[go_sem] theorem K2 (l:List Rt):(bp l).map (cX [.o 2 [],.o 0 [],.o 2 [],.o 0 []])=bp l:=by
 refine tO fun x hx=>?_
 simp only [bp,List.mem_map] at hx
 obtain ⟨t,ht,rfl⟩:=hx
 simp only [cw,go_sem]
structure OkT (t:Rt):Prop where
 c:Ok0 t.c
 len:t.exps.length≤100000
structure OkP (a:Rp):Prop where
 t:∀ t ∈ a.terms,OkT t
def qj (e:Int):Bool:=decide (e < 0) || decide (32 < e)
theorem ajb {e:Int}:R F.poly_Valid_1 [I e] []=some (B (qj e),[]):=by
 refine aE Ka J9 (D3 false) rfl ?_
 unfold qj
 by_cases h:e < 0
 ·have e1:(e < 0)=True:=tt h
  simp only [mW,sj,go_sem,e1,decide_true,Bool.true_or]
 ·have e1:(e < 0)=False:=ff h
  simp only [mW,sj,go_sem,e1,decide_false,Bool.false_or]
theorem adp {l:List Int} (h2:l.length≤100000):R F.slices_ContainsFunc_int_int_ [.sl 1 (be l),.fn F.poly_Valid_1 [] []] []=some (B (l.any qj),[]):=by
 let p:List AV→Bool:=fun row=>match row with | [.v (.int _ e)]=>qj e | _=>false
 have h1:=Ck (k:=1) (g:=false) (f:=F.poly_Valid_1) (rows:=be l) (p:=p) tH tG (rB false) rfl (yL false) (by rw [Do]; omega) (fun row hr=>by
  simp only [be,List.mem_map] at hr
  obtain ⟨e,he,rfl⟩:=hr
  refine ⟨I e,rfl,rfl,?_⟩
  simp only [go_sem,ajb,p])
 have h2:=yR (k:=1) rz ry (pE false) rfl (lq false) (sD false) (by simp only [go_sem]) h1
 have h3:(be l).any p=l.any qj:=by
  unfold be
  rw [List.any_map]
  rfl
 rw [h3] at h2
 exact h2
def y5 (v:Int) (t:Rt):Bool:=decide ((t.exps.length:Int)=v) && (vd t.c && (decide (t.c.m.length ≠ 0) && (!(t.exps.any qj) && decide (bV t.exps≤32))))
def Gz:Option Rt→Rt→Bool
 | none,_=>true
 | some q,t=>decide (ce q.exps t.exps < 0)
def wN (v:Int):Option Rt→List Rt→Bool
 | _,[]=>true
 | pr,t::l=>y5 v t && (Gz pr t && wN v (some t) l)
theorem wO {v:Int} {t:Rt} (h:y5 v t=true):(t.exps.length:Int)=v∧vd t.c=true∧t.c.m.length ≠ 0∧t.exps.any qj=false∧bV t.exps≤32:=by
 unfold y5 at h
 simpa using h
theorem oO {l:List Int} (h:l.any qj=false):∀ x ∈ l,0≤x∧x≤32:=by
 intro x hx
 have h1:=List.any_eq_false.1 h x hx
 unfold qj at h1
 simp only [Bool.or_eq_true,decide_eq_true_eq,not_or] at h1
 omega
theorem agB {a:Rp} (ok:OkP a) (hv:a.vars≤8) (h2:a.terms.length≤500):∀ (k i:Nat),i+k=a.terms.length→∀ (pr:Option Rt),(i=0→pr=none)→(0 < i→∃ q,pr=some q∧a.terms[i - 1]?=some q∧y5 a.vars q=true) →
  ∀ (s:ag) (h:ab),s 1=.ref 1 none 0 0 0→s 20=.sl 4 (bp a.terms)→s 21=I a.terms.length→s 22=I i→h 1=.bx [I a.vars,.sl 4 (bp a.terms)] →
  ∃ hh,aB 0 [] (aD (am R (aO false) cR) [1,20,21,22] [1] s h)=if wN a.vars pr (a.terms.drop i)=true then some (.normal,⟨fun _=>.any,hh⟩) else some (.ret,⟨upd (fun _=>.any) 2 (B false),hh⟩):=by
 intro k
 induction k with
 | zero =>
  intro i hi pr p0 p1 s h h1 h20 h21 h22 k1
  have e1:((i:Int) < a.terms.length)=False:=ff (by omega)
  rw [List.drop_eq_nil_of_le (by omega),ao]
  refine ⟨?hh0,?_⟩
  rotate_left
  show _=if true=true then _ else _
  rw [if_pos rfl]
  simp only [cR,go_sem,auD,h1,h20,h21,h22,k1,e1]
  rfl
 | succ k ih =>
  intro i hi pr p0 p1 s h h1 h20 h21 h22 k1
  have hlt:i < a.terms.length:=by omega
  have e1:((i:Int) < a.terms.length)=True:=tt (by omega)
  have e2:bu (bp a.terms) (i:Int)=some (.ipt (cw a.terms[i])):=oN rfl (List.getElem?_eq_getElem hlt)
  have e5:IntKind.i64.wrap ((i:Int)+1)=((i+1:Nat):Int):=wi (by omega) (by omega)
  have okt:=ok.t a.terms[i] (List.getElem_mem hlt)
  have hnext:a.terms[i+1 - 1]?=some a.terms[i]:=List.getElem?_eq_getElem hlt
  rw [List.drop_eq_getElem_cons hlt,ao]
  have ih':=ih (i+1) (by omega) (some a.terms[i]) (fun h=>absurd h (Nat.succ_ne_zero _))
  generalize a.terms[i]=t at e2 okt ih' hnext ⊢
  generalize aD _ _ _=L at ih' ⊢
  have hvd:=eF okt.c
  have hct:=adp okt.len
  simp only [cw] at e2
  simp only [ae,aj] at hvd
  unfold wN
  cases hb:y5 a.vars t with
  | false =>
   simp only [Bool.false_and,if_neg Bool.false_ne_true]
   unfold y5 at hb
   by_cases c1:(t.exps.length:Int)=a.vars
   ·have f1:((t.exps.length:Int)=a.vars)=True:=tt c1
    rw [decide_eq_true c1,Bool.true_and] at hb
    cases c2:vd t.c with
    | false =>
     rw [c2] at hvd
     refine ⟨?hh2,?_⟩
     rotate_left
     simp only [cR,go_sem,auA,auz,auB,auD,h1,h20,h21,h22,k1,e1,e2,f1,hvd]
     rfl
    | true =>
     rw [c2] at hvd hb
     rw [Bool.true_and] at hb
     by_cases c3:t.c.m.length=0
     ·have f3:((t.c.m.length:Int)=0)=True:=tt (by omega)
      refine ⟨?hh3,?_⟩
      rotate_left
      simp only [cR,go_sem,auA,auz,auB,auD,h1,h20,h21,h22,k1,e1,e2,f1,hvd,f3]
      rfl
     ·have f3:((t.c.m.length:Int)=0)=False:=ff (by omega)
      rw [decide_eq_true c3,Bool.true_and] at hb
      cases c4:t.exps.any qj with
      | true =>
       rw [c4] at hct
       refine ⟨?hh4,?_⟩
       rotate_left
       simp only [cR,go_sem,auA,auz,auB,auD,h1,h20,h21,h22,k1,e1,e2,f1,hvd,f3,hct]
       rfl
      | false =>
       rw [c4] at hct hb
       rw [Bool.not_false,Bool.true_and] at hb
       have hdg:=tN (a:=t.exps) ⟨by omega,oO c4⟩
       have f5:(32 < bV t.exps)=True:=tt (by have:=of_decide_eq_false hb; omega)
       refine ⟨?hh5,?_⟩
       rotate_left
       simp only [cR,go_sem,auA,auz,auB,auD,h1,h20,h21,h22,k1,e1,e2,f1,hvd,f3,hct,hdg,f5]
       rfl
   ·have f1:((t.exps.length:Int)=a.vars)=False:=ff c1
    refine ⟨?hh1,?_⟩
    rotate_left
    simp only [cR,go_sem,auA,auz,auB,auD,h1,h20,h21,h22,k1,e1,e2,f1]
    rfl
  | true =>
   obtain ⟨c1,c2,c3,c4,c5⟩:=wO hb
   have f1:((t.exps.length:Int)=a.vars)=True:=tt c1
   rw [c2] at hvd
   have f3:((t.c.m.length:Int)=0)=False:=ff (by omega)
   rw [c4] at hct
   have hdg:=tN (a:=t.exps) ⟨by omega,oO c4⟩
   have f5:(32 < bV t.exps)=False:=ff (by omega)
   simp only [Bool.true_and]
   by_cases hi0:i=0
   ·have f6:(0 < (i:Int))=False:=ff (by omega)
    rw [p0 hi0]
    simp only [Gz,Bool.true_and]
    simp only [cR,go_sem,auA,auz,auB,auD,h1,h20,h21,h22,k1,e1,e2,f1,hvd,f3,hct,hdg,f5,f6,e5]
    exact ih' (fun _=>⟨t,rfl,hnext,hb⟩) _ _ rfl rfl rfl rfl rfl
   ·have f6:(0 < (i:Int))=True:=tt (by omega)
    obtain ⟨q,q1,q2,q3⟩:=p1 (by omega)
    obtain ⟨d1,d2,d3,d4,d5⟩:=wO q3
    rw [q1]
    have e7:IntKind.i64.wrap ((i:Int) - 1)=((i - 1:Nat):Int):=wi (by omega) (by omega)
    have e8:bu (bp a.terms) ((i - 1:Nat):Int)=some (.ipt (cw q)):=oN rfl q2
    simp only [cw] at e8
    have ho:=Rx (a:=q.exps) (b:=t.exps) ⟨by omega,oO d4⟩ ⟨by omega,oO c4⟩ (by omega)
    simp only [Gz]
    by_cases c6:ce q.exps t.exps < 0
    ·have f7:(0≤ce q.exps t.exps)=False:=ff (by omega)
     simp only [decide_eq_true c6,Bool.true_and]
     simp only [cR,go_sem,auA,auz,auB,auC,auD,h1,h20,h21,h22,k1,e1,e2,f1,hvd,f3,hct,hdg,f5,f6,e5,e7,e8,ho,f7]
     exact ih' (fun _=>⟨t,rfl,hnext,hb⟩) _ _ rfl rfl rfl rfl rfl
    ·have f7:(0≤ce q.exps t.exps)=True:=tt (by omega)
     simp only [decide_eq_false c6,Bool.false_and,if_neg Bool.false_ne_true]
     refine ⟨?hh7,?_⟩
     rotate_left
     simp only [cR,go_sem,auA,auz,auB,auC,auD,h1,h20,h21,h22,k1,e1,e2,f1,hvd,f3,hct,hdg,f5,f6,e7,e8,ho,f7]
     rfl
def vp (a:Rp):Bool:=decide (0≤a.vars) && (decide (a.vars≤8) && (decide (a.terms.length≤500) && wN a.vars none a.terms))
theorem Cz {a:Rp} (ok:OkP a):R F.poly_Valid [dq a] []=some (B (vp a),[]):=by
 refine aE Qg Qf (HZ false) rfl ?_
 unfold vp
 by_cases c1:0≤a.vars
 ·have f1:(a.vars < 0)=False:=ff (by omega)
  rw [decide_eq_true c1,Bool.true_and]
  by_cases c2:a.vars≤8
  ·have f2:(8 < a.vars)=False:=ff (by omega)
   rw [decide_eq_true c2,Bool.true_and]
   by_cases c3:a.terms.length≤500
   ·have f3:(500 < (a.terms.length:Int))=False:=ff (by omega)
    rw [decide_eq_true c3,Bool.true_and]
    have h3:=agB ok c2 c3 a.terms.length 0 (Nat.zero_add _) none (fun _=>rfl) (fun h=>absurd h (Nat.lt_irrefl _))
    simp only [List.drop_zero,Int.natCast_zero] at h3
    cases hb:wN a.vars none a.terms with
    | true =>
     rw [hb] at h3
     simp only [] at h3
     simp only [hF,kE,dq,go_sem,auA,auz,f1,f2,f3]
     rw [(h3 _ _ rfl rfl rfl rfl rfl).choose_spec]
     simp only [go_sem]
    | false =>
     rw [hb] at h3
     simp only [if_neg Bool.false_ne_true] at h3
     simp only [hF,kE,dq,go_sem,auA,auz,f1,f2,f3]
     rw [(h3 _ _ rfl rfl rfl rfl rfl).choose_spec]
     simp only [go_sem]
   ·have f3:(500 < (a.terms.length:Int))=True:=tt (by omega)
    rw [decide_eq_false c3,Bool.false_and]
    simp only [hF,kE,dq,go_sem,auA,auz,f1,f2,f3]
  ·have f2:(8 < a.vars)=True:=tt (by omega)
   rw [decide_eq_false c2,Bool.false_and]
   simp only [hF,kE,dq,go_sem,auA,auz,f1,f2]
 ·have f1:(a.vars < 0)=True:=tt (by omega)
  rw [decide_eq_false c1,Bool.false_and]
  simp only [hF,kE,dq,go_sem,auA,auz,f1]
end Go.Ab
namespace Go.Ab
open Go Go.IntWalk
set_option maxRecDepth 4000
set_option maxHeartbeats 1000000
@[go_sem] theorem ask (l:List Ri):(da l).map (cX [.o 0 [],.o 2 [],.o 0 [],.o 0 [],.o 2 [],.o 0 [],.o 0 []])=da l:=by
 refine tO fun x hx=>?_
 simp only [da,List.mem_map] at hx
 obtain ⟨t,ht,rfl⟩:=hx
 simp only [aK,go_sem]
theorem XC {x:Ri} (ok:OkI x):R F.bound_domain_1 [aC x] []=some (B (!kI x),[]):=by
 refine aE FR FQ (A6 false) rfl ?_
 have hv:=xx ok
 simp only [aC,aK] at hv
 unfold kI
 cases h1:vi x with
 | false =>
  rw [h1] at hv
  rw [Bool.and_false]
  simp only [kt,p9,aC,aK,go_sem,auA,auz,auB,hv,Bool.not_false]
 | true =>
  rw [h1] at hv
  rw [Bool.and_true,Bool.not_not]
  simp only [kt,p9,aC,aK,go_sem,auA,auz,auB,hv]
theorem adq {l:List Ri} (ok:∀ x ∈ l,OkI x) (h2:l.length≤100000):R F.slices_ContainsFunc_api_Interval_api_Interval_ [.sl 7 (da l),.fn F.bound_domain_1 [] []] []=some (B (l.any fun x=>!kI x),[]):=by
 let p:List AV→Bool:=fun row=>match row with | [.v (.bool n1),.sl _ m1,.v (.int _ e1),.v (.bool n2),.sl _ m2,.v (.int _ e2),.v (.bool a)]=>!kI ⟨⟨n1,m1.map (fun r=>match r with | [.v (.int _ x)]=>x.toNat | _=>0),e1⟩,⟨n2,m2.map (fun r=>match r with | [.v (.int _ x)]=>x.toNat | _=>0),e2⟩,a⟩ | _=>false
 have hmm:∀ m:List Nat,(aQ m).map (fun r=>match r with | [.v (.int _ x)]=>x.toNat | _=>0)=m:=fun m=>by
  unfold aQ
  rw [List.map_map]
  exact (List.map_congr_left (g:=fun c=>c) fun x _=>by simp).trans (List.map_id' _)
 have hp:∀ x:Ri,p (aK x)=!kI x:=fun x=>by
  show (!kI ⟨⟨x.lo.neg,(aQ x.lo.m).map _,x.lo.e⟩,⟨x.hi.neg,(aQ x.hi.m).map _,x.hi.e⟩,x.all⟩)=_
  rw [hmm,hmm]
 have h1:=Ck (k:=7) (g:=true) (f:=F.bound_domain_1) (rows:=da l) (p:=p) cT cS (cD false) rfl (ww false) (by rw [oL]; omega) (fun row hr=>by
  simp only [da,List.mem_map] at hr
  obtain ⟨x,hx,rfl⟩:=hr
  have hd:=XC (ok x hx)
  refine ⟨aC x,rfl,rfl,?_⟩
  rw [hp]
  simp only [aC,aK] at hd
  simp only [aC,aK,go_sem,hd])
 have h2:=yR (k:=7) cC cB (ck false) rfl (bS false) (cO false) (by simp only [go_sem]) h1
 have h3:(da l).any p=l.any fun x=>!kI x:=by
  unfold da
  rw [List.any_map]
  congr 1
  funext x
  exact hp x
 rw [h3] at h2
 exact h2
def kX (a:Rp) (dom:List Ri):Bool:=vp a && (decide ((dom.length:Int)=a.vars) && !(dom.any fun x=>!kI x))
theorem aaf {a:Rp} {dom:List Ri} (oa:OkP a) (od:∀ x ∈ dom,OkI x) (h2:dom.length≤100000):R F.bound_domain [dq a,.sl 7 (da dom)] []=some (B (kX a dom),[]):=by
 refine aE J2 J1 (DX false) rfl ?_
 have hv:=Cz oa
 have hc:=adq od h2
 simp only [dq] at hv
 unfold kX
 cases h1:vp a with
 | false =>
  rw [h1] at hv
  rw [Bool.false_and]
  simp only [jW,n8,dq,go_sem,auA,auz,auB,hv]
 | true =>
  rw [h1] at hv
  rw [Bool.true_and]
  by_cases h3:(dom.length:Int)=a.vars
  ·have e3:((dom.length:Int)=a.vars)=True:=tt h3
   rw [decide_eq_true h3,Bool.true_and]
   simp only [jW,n8,dq,go_sem,auA,auz,auB,hv,e3,hc]
  ·have e3:((dom.length:Int)=a.vars)=False:=ff h3
   rw [decide_eq_false h3,Bool.false_and]
   simp only [jW,n8,dq,go_sem,auA,auz,auB,hv,e3]
theorem Dp {a:Rp} {dom:List Ri} (oa:OkP a) (od:∀ x ∈ dom,OkI x) (h2:dom.length≤100000) {p:Int}:R F.bound_fits [dq a,.sl 7 (da dom),I p] []=some (B (kX a dom && fl p),[]):=by
 refine aE P9 P8 (HO false) rfl ?_
 have hd:=aaf oa od h2
 simp only [dq] at hd
 unfold fl
 cases h1:kX a dom with
 | false =>
  rw [h1] at hd
  rw [Bool.false_and]
  simp only [me,qU,dq,go_sem,auA,auz,auB,hd]
 | true =>
  rw [h1] at hd
  rw [Bool.true_and]
  by_cases h3:8≤p
  ·have e3:(8≤p)=True:=tt h3
   simp only [me,qU,dq,go_sem,auA,auz,auB,hd,e3,decide_true,Bool.true_and]
  ·have e3:(8≤p)=False:=ff h3
   simp only [me,qU,dq,go_sem,auA,auz,auB,hd,e3,decide_false,Bool.false_and]
theorem GA:R F.bound_whole [] []=some (aC fD,[]):=by
 refine aE MT MS (Fi false) rfl ?_
 simp only [sd,Ay,aC,aK,fD,aX,go_sem,auA,auz,auB]
def EL (p:Int):List Ri→List Int→Ri→Ri
 | d::ds,e::es,x=>EL p ds es (if 0 < e then Cx x (K0 d e.toNat p) p else x)
 | _,_,x=>x
theorem ajc {dn up:Rd→Rd→Rd × Int} {pr:Nat→Rd × Rd} (h1:∀ a b,Ok0 (dn a b).1) (h2:∀ a b,Ok0 (up a b).1):OkI (IF (td dn up pr)):=by
 have hN:∀ (k i:Nat) (o:Rd × Rd),Ok0 o.1→Ok0 o.2→OkI (IF (vg dn up pr k i o)):=by
  intro k
  induction k with
  | zero=>exact fun i o g1 g2=>⟨g1,g2⟩
  | succ k ih =>
   intro i o g1 g2
   unfold vg
   split
   ·refine ih _ _ ?_ ?_
    ·show Ok0 (if _ then _ else _)
     split
     ·exact h1 _ _
     ·exact g1
    ·show Ok0 (if _ then _ else _)
     split
     ·exact h2 _ _
     ·exact g2
   ·exact ⟨bq.2,bq.2⟩
 unfold td
 split
 ·exact hN _ _ _ (h1 _ _) (h2 _ _)
 ·exact ⟨bq.2,bq.2⟩
theorem K3 {x y:Ri} {p:Int}:OkI (Cx x y p):=by
 unfold Cx
 split
 ·exact ajc (fun _ _=>oM) (fun _ _=>oM)
 ·exact ⟨bq.2,bq.2⟩
theorem Dq {a b:Rd} {p:Int} {up:Bool}:Ok0 (gB a b p up).1:=by
 unfold gB
 split
 ·exact Ct.2
 ·exact bq.2
theorem agC {x y:Ri} {p:Int}:OkI (ut x y p):=by
 unfold ut
 split
 ·exact Rs Dq Dq
 ·exact ⟨bq.2,bq.2⟩
theorem agD {x:Ri} (ok:OkI x) {e:Nat} {p:Int}:OkI (K0 x e p):=by
 unfold K0
 split
 ·exact K1 ok
 ·exact K3
theorem ajd {p:Int}:∀ (ds:List Ri) (es:List Int) (x:Ri),OkI x→OkI (EL p ds es x):=by
 intro ds
 induction ds with
 | nil=>exact fun es x h=>by cases es <;> exact h
 | cons d ds ih =>
  intro es x h
  cases es with
  | nil=>exact h
  | cons e es =>
   unfold EL
   refine ih _ _ ?_
   split
   ·exact K3
   ·exact h
theorem alG {dom:List Ri} (od:∀ x ∈ dom,OkI x) {es:List Int} (hl:dom.length=es.length) (h2:dom.length≤100000) (he:∀ e ∈ es,0≤e∧e≤32) {p:Int} {c3 c6 c7 c9:List AV} {rw':AV} {n j:Int}
  (q3:aT [3,6,7,9,10] (.bx c3)=true) (q6:aT [3,6,7,9,10] (.bx c6)=true) (q7:aT [3,6,7,9,10] (.bx c7)=true) (q9:aT [3,6,7,9,10] (.bx c9)=true) (qr:eH [3,6,7,9,10] rw'=rw') :
  ∀ (k i:Nat),i+k=es.length→∀ (x:Ri),OkI x→∀ (s:ag) (h:ab),s 1=.sl 7 (da dom)→s 2=I p→s 6=.ref 6 none 0 0 0→s 7=.ref 7 none 0 0 0→s 10=.ref 10 none 0 0 0→s 22=rw'→s 23=I n→s 24=I j→s 32=.sl 1 (be es)→s 33=I es.length→s 34=I i →
  h 3=.bx c3→h 6=.bx c6→h 7=.bx c7→h 9=.bx c9→h 10=.bx (aK x) →
  ∃ hh,aB 2 [1,2,6,7,10,22,23,24] (aD (am R (aO false) eZ) [1,2,6,7,10,22,23,24,32,33,34] [3,6,7,9,10] s h)=some (.normal,⟨upd (upd (upd (upd (upd (upd (upd (upd (fun _=>.any) 24 (I j)) 23 (I n)) 22 rw') 10 (.ref 10 none 0 0 0)) 7 (.ref 7 none 0 0 0)) 6 (.ref 6 none 0 0 0)) 2 (I p)) 1 (.sl 7 (da dom)),hh⟩) ∧
   hh 3=.bx c3∧hh 6=.bx c6∧hh 7=.bx c7∧hh 10=.bx (aK (EL p (dom.drop i) (es.drop i) x))∧∀ a,a ≠ 3→a ≠ 6→a ≠ 7→a ≠ 9→a ≠ 10→hh a=.dead:=by
 intro k
 induction k with
 | zero =>
  intro i hi x ox s h h1 h2' h6 h7 h10 h22 h23 h24 h32 h33 h34 k3 k6 k7 k9 k10
  have e1:((i:Int) < es.length)=False:=ff (by omega)
  rw [List.drop_eq_nil_of_le (by omega),List.drop_eq_nil_of_le (by omega),ao]
  simp only [aK] at k10
  refine ⟨?hh0,?_,?_,?_,?_,?_,?_⟩
  rotate_left
  ·simp only [eZ,go_sem,auD,h1,h2',h6,h7,h10,h22,h23,h24,h32,h33,h34,k3,k6,k7,k9,k10,q3,q6,q7,q9,qr,e1]
   rfl
  ·rfl
  ·rfl
  ·rfl
  ·rfl
  ·intro a a3 a6 a7 a9 a10
   simp only [gk,a3,a6,a7,a9,a10,if_false]
 | succ k ih =>
  intro i hi x ox s h h1 h2' h6 h7 h10 h22 h23 h24 h32 h33 h34 k3 k6 k7 k9 k10
  have hlt:i < es.length:=by omega
  have hlt2:i < dom.length:=by omega
  have e1:((i:Int) < es.length)=True:=tt (by omega)
  have e2:bu (be es) (i:Int)=some (.ipt [I es[i]]):=kW rfl (List.getElem?_eq_getElem hlt)
  have e3:bu (da dom) (i:Int)=some (.ipt (aK dom[i])):=KW rfl (List.getElem?_eq_getElem hlt2)
  have e5:IntKind.i64.wrap ((i:Int)+1)=((i+1:Nat):Int):=wi (by omega) (by omega)
  have oki:=od dom[i] (List.getElem_mem hlt2)
  have hb:=he es[i] (List.getElem_mem hlt)
  rw [List.drop_eq_getElem_cons hlt,List.drop_eq_getElem_cons hlt2,ao]
  have ih':=ih (i+1) (by omega)
  unfold EL
  generalize es[i]=e at e2 hb ⊢
  generalize dom[i]=d at e3 oki ⊢
  obtain ⟨m,rfl⟩:=Int.eq_ofNat_of_zero_le hb.1
  rw [Int.toNat_natCast]
  have hpw:=agA oki (e:=m) (by omega) (p:=p)
  have opw:=agD oki (e:=m) (p:=p)
  generalize K0 d m p=y at hpw opw ⊢
  have hmu:=U2 ox opw (p:=p)
  have omu:=K3 (x:=x) (y:=y) (p:=p)
  generalize Cx x y p=z at hmu omu ⊢
  generalize aD _ _ _=L at ih' ⊢
  simp only [aC,aK] at e3 hpw hmu k10
  by_cases hm:0 < (m:Int)
  ·have f1:(0 < (m:Int))=True:=tt hm
   rw [if_pos hm]
   simp only [eZ,go_sem,auA,auz,auB,auC,auD,h1,h2',h6,h7,h10,h22,h23,h24,h32,h33,h34,k3,k6,k7,k9,k10,q3,q6,q7,q9,qr,e1,e2,e3,f1,hpw,hmu,e5]
   exact ih' z omu _ _ rfl rfl rfl rfl rfl rfl rfl rfl rfl rfl rfl rfl rfl rfl rfl rfl
  ·have f1:(0 < (m:Int))=False:=ff hm
   rw [if_neg hm]
   simp only [eZ,go_sem,auA,auz,auB,auC,auD,h1,h2',h6,h7,h10,h22,h23,h24,h32,h33,h34,k3,k6,k7,k9,k10,q3,q6,q7,q9,qr,e1,e2,e3,f1,hpw,hmu,e5]
   exact ih' x ox _ _ rfl rfl rfl rfl rfl rfl rfl rfl rfl rfl rfl rfl rfl rfl rfl rfl
end Go.Ab
namespace Go.Ab
open Go Go.IntWalk
set_option maxRecDepth 4000
set_option maxHeartbeats 1000000
def U6 (p:Int) (dom:List Ri):List Rt→Ri→Ri
 | [],s=>s
 | t::l,s=>U6 p dom l (ut s (EL p dom t.exps ⟨t.c,t.c,false⟩) p)
theorem U7 {v:Int}:∀ (l:List Rt) (pr:Option Rt),wN v pr l=true→∀ t ∈ l,y5 v t=true:=by
 intro l
 induction l with
 | nil=>exact fun pr h t ht=>nomatch ht
 | cons a l ih =>
  intro pr h t ht
  unfold wN at h
  simp only [Bool.and_eq_true] at h
  rcases List.mem_cons.1 ht with h1 | h1
  ·rw [h1]
   exact h.1
  ·exact ih _ h.2.2 t h1
theorem aag {a:Rp} {dom:List Ri} (oa:OkP a) (od:∀ x ∈ dom,OkI x) (hv:∀ t ∈ a.terms,y5 a.vars t=true) (hl:(dom.length:Int)=a.vars) (h8:a.vars≤8) (h5:a.terms.length≤500) {p:Int} :
  ∀ (k i:Nat),i+k=a.terms.length→∀ (x:Ri),OkI x→∀ (s:ag) (h:ab),s 1=.sl 7 (da dom)→s 2=I p→s 6=.ref 6 none 0 0 0→s 7=.ref 7 none 0 0 0→s 22=.sl 4 (bp a.terms)→s 23=I a.terms.length→s 24=I i →
  h 3=.bx [I a.vars,.sl 4 (bp a.terms)]→h 6=.bx [.v (.bool false),.emp,.v (.int .i64 0),.v (.bool false),.emp,.v (.int .i64 0),.v (.bool false)]→h 7=.bx (aK x) →
  ∃ hh,aB 0 [6,7] (aD (am R (aO false) gr) [1,2,6,7,22,23,24] [3,6,7] s h)=some (.normal,⟨upd (upd (fun _=>.any) 7 (.ref 7 none 0 0 0)) 6 (.ref 6 none 0 0 0),hh⟩)∧hh 6=.bx [.v (.bool false),.emp,.v (.int .i64 0),.v (.bool false),.emp,.v (.int .i64 0),.v (.bool false)]∧hh 7=.bx (aK (U6 p dom (a.terms.drop i) x)):=by
 intro k
 induction k with
 | zero =>
  intro i hi x ox s h h1 h2 h6 h7 h22 h23 h24 k3 k6 k7
  have e1:((i:Int) < a.terms.length)=False:=ff (by omega)
  rw [List.drop_eq_nil_of_le (by omega),ao]
  simp only [aK] at k7
  refine ⟨?hh0,?_,?_,?_⟩
  rotate_left
  ·simp only [gr,go_sem,auD,h1,h2,h6,h7,h22,h23,h24,k3,k6,k7,e1]
   rfl
  ·rfl
  ·rfl
 | succ k ih =>
  intro i hi x ox s h h1 h2 h6 h7 h22 h23 h24 k3 k6 k7
  have hlt:i < a.terms.length:=by omega
  have e1:((i:Int) < a.terms.length)=True:=tt (by omega)
  have e2:bu (bp a.terms) (i:Int)=some (.ipt (cw a.terms[i])):=oN rfl (List.getElem?_eq_getElem hlt)
  have e5:IntKind.i64.wrap ((i:Int)+1)=((i+1:Nat):Int):=wi (by omega) (by omega)
  have okt:=oa.t a.terms[i] (List.getElem_mem hlt)
  obtain ⟨c1,c2,c3,c4,c5⟩:=wO (hv a.terms[i] (List.getElem_mem hlt))
  rw [List.drop_eq_getElem_cons hlt,ao]
  have ih':=ih (i+1) (by omega)
  unfold U6
  generalize a.terms[i]=t at e2 okt c1 c2 c3 c4 c5 ⊢
  have hpt:=jr okt.c c2
  have hin:=alG (dom:=dom) od (es:=t.exps) (by omega) (by omega) (oO c4) (p:=p) (c3:=[I a.vars,.sl 4 (bp a.terms)]) (c6:=[.v (.bool false),.emp,.v (.int .i64 0),.v (.bool false),.emp,.v (.int .i64 0),.v (.bool false)]) (c7:=aK x) (c9:=cw t) (rw':=.sl 4 (bp a.terms)) (n:=a.terms.length) (j:=i) rfl rfl rfl rfl rfl t.exps.length 0 (Nat.zero_add _) ⟨t.c,t.c,false⟩ ⟨okt.c,okt.c⟩
  simp only [List.drop_zero,Int.natCast_zero] at hin
  have oy:=ajd (p:=p) dom t.exps ⟨t.c,t.c,false⟩ ⟨okt.c,okt.c⟩
  generalize EL p dom t.exps ⟨t.c,t.c,false⟩=y at hin oy ⊢
  have hadd:=U0 ox oy (p:=p)
  have oz:=agC (x:=x) (y:=y) (p:=p)
  generalize ut x y p=z at hadd oz ⊢
  generalize hL0:aD (am R (aO false) eZ) [1,2,6,7,10,22,23,24,32,33,34] [3,6,7,9,10]=L0 at hin
  have hin2:∀ (S:ag) (H:ab) (X:Option (Ex × St)),aB 2 [1,2,6,7,10,22,23,24] (L0 S H)=X→S 1=.sl 7 (da dom)→S 2=I p→S 6=.ref 6 none 0 0 0→S 7=.ref 7 none 0 0 0→S 10=.ref 10 none 0 0 0→S 22=.sl 4 (bp a.terms)→S 23=I a.terms.length→S 24=I i→S 32=.sl 1 (be t.exps)→S 33=I t.exps.length→S 34=I 0 →
   H 3=.bx [I a.vars,.sl 4 (bp a.terms)]→H 6=.bx [.v (.bool false),.emp,.v (.int .i64 0),.v (.bool false),.emp,.v (.int .i64 0),.v (.bool false)]→H 7=.bx (aK x)→H 9=.bx (cw t)→H 10=.bx (aK ⟨t.c,t.c,false⟩) →
   ∃ hh,X=some (.normal,⟨upd (upd (upd (upd (upd (upd (upd (upd (fun _=>.any) 24 (I i)) 23 (I a.terms.length)) 22 (.sl 4 (bp a.terms))) 10 (.ref 10 none 0 0 0)) 7 (.ref 7 none 0 0 0)) 6 (.ref 6 none 0 0 0)) 2 (I p)) 1 (.sl 7 (da dom)),hh⟩) ∧
    hh 3=.bx [I a.vars,.sl 4 (bp a.terms)]∧hh 6=.bx [.v (.bool false),.emp,.v (.int .i64 0),.v (.bool false),.emp,.v (.int .i64 0),.v (.bool false)]∧hh 7=.bx (aK x)∧hh 10=.bx (aK y)∧∀ a,a ≠ 3→a ≠ 6→a ≠ 7→a ≠ 9→a ≠ 10→hh a=.dead:=fun S H X hX=>by
   rw [← hX]
   exact hin S H
  have hX:∀ s h,am R (aO false) (.loop [1,2,6,7,10,22,23,24,32,33,34] [3,6,7,9,10] eZ) s h=L0 s h:=fun s h=>by rw [← hL0]; rfl
  clear hL0
  generalize aD _ _ _=L at ih' ⊢
  clear hin
  simp only [cw] at e2 hin2
  simp only [aC,aK,ae,aj] at hpt hadd k7 hin2
  simp only [gr,hX,go_sem,auA,auz,auB,auD,h1,h2,h6,h7,h22,h23,h24,k3,k6,k7,e1,e2,hpt]
  generalize hB:aB 2 [1,2,6,7,10,22,23,24] (L0 _ _)=X
  obtain ⟨hh,g0,g3,g6,g7,g10,gd⟩:=hin2 _ _ _ hB rfl rfl rfl rfl rfl rfl rfl rfl rfl rfl rfl rfl rfl rfl rfl rfl
  rw [g0]
  simp only [go_sem,auA,auz,auB,ne_eq,not_false_eq_true,g7,g10,gd,hadd,e5]
  refine ih' z oz _ _ ?_ ?_ ?_ ?_ ?_ ?_ ?_ ?_ ?_ ?_
  all_goals first | rfl | exact g3 | exact g6
def nP (a:Rp) (dom:List Ri) (p:Int):Ri:=if (kX a dom && fl p)=true then U6 p dom a.terms ⟨aX,aX,false⟩ else fD
theorem Ry {a:Rp} {dom:List Ri} (oa:OkP a) (od:∀ x ∈ dom,OkI x) (h2:dom.length≤100000) {p:Int}:R F.bound_Naive [dq a,.sl 7 (da dom),I p] []=some (aC (nP a dom p),[]):=by
 refine aE MP MO (E8 false) rfl ?_
 have hf:=Dp oa od h2 (p:=p)
 have hw:=GA
 unfold nP
 simp only [dq] at hf
 simp only [aC,aK] at hw
 cases hb:(kX a dom && fl p) with
 | false =>
  rw [hb] at hf
  rw [if_neg Bool.false_ne_true]
  simp only [nY,tX,dq,aC,aK,go_sem,auA,auz,auB,hf,hw]
 | true =>
  rw [hb] at hf
  rw [if_pos rfl]
  simp only [kX,vp,Bool.and_eq_true,decide_eq_true_eq] at hb
  obtain ⟨⟨⟨v1,v2,v3,v4⟩,v5,v6⟩,v7⟩:=hb
  have ho:=aag oa od (U7 _ _ v4) v5 v2 v3 (p:=p) a.terms.length 0 (Nat.zero_add _) ⟨aX,aX,false⟩ ⟨bq.2,bq.2⟩
  simp only [List.drop_zero,Int.natCast_zero] at ho
  generalize U6 p dom a.terms ⟨aX,aX,false⟩=z at ho ⊢
  have hpt:=jr bq.2 bq.1
  generalize hL0:aD (am R (aO false) gr) [1,2,6,7,22,23,24] [3,6,7]=L0 at ho
  have hX:∀ s h,am R (aO false) (.loop [1,2,6,7,22,23,24] [3,6,7] gr) s h=L0 s h:=fun s h=>by rw [← hL0]; rfl
  clear hL0
  have ho2:∀ (S:ag) (H:ab) (X:Option (Ex × St)),aB 0 [6,7] (L0 S H)=X→S 1=.sl 7 (da dom)→S 2=I p→S 6=.ref 6 none 0 0 0→S 7=.ref 7 none 0 0 0→S 22=.sl 4 (bp a.terms)→S 23=I a.terms.length→S 24=I 0 →
   H 3=.bx [I a.vars,.sl 4 (bp a.terms)]→H 6=.bx [.v (.bool false),.emp,.v (.int .i64 0),.v (.bool false),.emp,.v (.int .i64 0),.v (.bool false)]→H 7=.bx (aK ⟨aX,aX,false⟩) →
   ∃ hh,X=some (.normal,⟨upd (upd (fun _=>.any) 7 (.ref 7 none 0 0 0)) 6 (.ref 6 none 0 0 0),hh⟩)∧hh 6=.bx [.v (.bool false),.emp,.v (.int .i64 0),.v (.bool false),.emp,.v (.int .i64 0),.v (.bool false)]∧hh 7=.bx (aK z):=fun S H X hX=>by
   rw [← hX]
   exact ho S H
  clear ho
  simp only [aC,aK,ae,aj,aX] at hpt ho2
  simp only [nY,tX,hX,dq,aC,aK,go_sem,auA,auz,auB,hf,hpt]
  generalize hB:aB 0 [6,7] (L0 _ _)=X
  obtain ⟨hh,g0,g6,g7⟩:=ho2 _ _ _ hB rfl rfl rfl rfl rfl rfl rfl rfl rfl rfl
  rw [g0]
  simp only [go_sem,auA,auz,auB,g6,g7]
end Go.Ab
namespace Go.Ab
open Go Go.IntWalk
set_option maxRecDepth 4000
set_option maxHeartbeats 1000000
theorem CA {n:Nat} {i:Int} (hi:i=n) (hn:n < 18446744073709551616):dZ .and (.v (.int .u64 i)) (.v (.int .u64 4294967295))=some (.v (.int .u64 ((n % 4294967296:Nat):Int))):=by
 subst hi
 rw [UA]
 have e:(BitVec.ofInt IntKind.u64.bits (n:Int) &&& BitVec.ofInt IntKind.u64.bits 4294967295).toNat=n % 4294967296:=by
  show (BitVec.ofInt 64 (n:Int) &&& BitVec.ofInt 64 4294967295).toNat=n % 4294967296
  rw [BitVec.toNat_and]
  have e2:(BitVec.ofInt 64 (n:Int)).toNat=n:=by
   simp
   omega
  rw [e2,show (BitVec.ofInt 64 4294967295).toNat=2 ^ 32 - 1 from by decide,Nat.and_two_pow_sub_one_eq_mod]
 rw [e]
 rw [gj rfl (by omega)]
theorem Rz {n:Nat} {i:Int} (hi:i=n) (hn:n < 4294967296):dZ .and (.v (.int .u32 i)) (.v (.int .u32 1))=some (.v (.int .u32 ((n % 2:Nat):Int))):=by
 subst hi
 rw [UA]
 have e:(BitVec.ofInt IntKind.u32.bits (n:Int) &&& BitVec.ofInt IntKind.u32.bits 1).toNat=n % 2:=by
  show (BitVec.ofInt 32 (n:Int) &&& BitVec.ofInt 32 1).toNat=n % 2
  rw [BitVec.toNat_and]
  have e2:(BitVec.ofInt 32 (n:Int)).toNat=n:=by
   simp
   omega
  rw [e2,show (BitVec.ofInt 32 1).toNat=2 ^ 1 - 1 from by decide,Nat.and_two_pow_sub_one_eq_mod]
 rw [e]
 rw [AL rfl (by omega)]
theorem XD (m:List Nat) (h2:m.length < 4611686018427387904):∀ (n:Nat),n≤m.length→∀ (s:ag) (h:ab),s 0=lm m→s 3=I n →
  aB 0 [0,3] (aD (am R (aO false) AF) [0,3] [] s h)=some (.normal,⟨upd (upd (fun _=>.any) 3 (I (iN m n))) 0 (lm m),fun _=>.dead⟩):=Mi m h2
theorem wP {m:List Nat} (hb:Lb m) (h:m.length≤10000000):R F.r02_trim [lm m] []=some (lm (aq (ac m)),[]):=by
 refine aE Xi Xh (NJ false) rfl ?_
 have h1:eO 1 (lm m) none (some (I (iN m m.length:Nat))) none=some (lm (aq (ac m))):=by
  rw [Ci (a:=0) (b:=iN m m.length) rfl (sI rfl (tD _ _)) (tD _ _),List.drop_zero,Nat.sub_zero,E7 hb]
 have hl:=dK m hb
 have e1:((aq (ac m)).length*4≤140737488355328)=True:=tt (by omega)
 simp only [xS,Hx,go_sem,auB,auC,XD m (by omega) m.length (Nat.le_refl _),h1,Rj,e1,List.nil_append,List.length_nil,true_or,Nat.zero_add,Nat.le_refl,List.replicate_zero]
theorem aah:∀ (x b:Nat),x < 4294967296→b+ai x≤100000000→∀ (s:ag) (h:ab),s 3=I b→s 4=U x →
  aB 0 [3] (aD (am R (aO false) pL) [3,4] [] s h)=some (.normal,⟨upd (fun _=>.any) 3 (I (b+ai x:Nat)),fun _=>.dead⟩):=by
 intro x
 induction x using Nat.strongRecOn with
 | ind x ih =>
  intro b hx hb s h h3 h4
  rw [ao]
  by_cases h0:x=0
  ·have e1:(0 < (x:Int))=False:=ff (by omega)
   rw [h0,tI,Nat.add_zero]
   rw [h0] at e1 h4
   simp only [pL,go_sem,h3,h4,e1]
  ·have e1:(0 < (x:Int))=True:=tt (by omega)
   have e2:=Dh (n:=x) (k:=1) (kk:=.u64) (j:=1) rfl rfl (by omega)
   have e3:IntKind.i64.wrap ((b:Int)+1)=((b+1:Nat):Int):=wi (by omega) (by omega)
   have e4:ai x=1+ai (x / 2 ^ 1):=by
    have h5:=hJ x 1
    have h6:=fj h0
    omega
   have ih':=ih (x / 2 ^ 1) (by omega) (b+1) (by omega) (by omega)
   rw [show b+ai x=b+1+ai (x / 2 ^ 1) by omega]
   generalize aD _ _ _=L at ih' ⊢
   simp only [pL,go_sem,h3,h4,e1,e2,e3]
   exact ih' _ _ rfl rfl
theorem RA {m:List Nat} (hb:Lb m) (h:m.length≤1000000) (hc:s9 m):R F.r02_bits [lm m] []=some (I (ai (ac m):Nat),[]):=by
 refine aE WR WQ (M2 false) rfl ?_
 by_cases h0:m.length=0
 ·have:m=[]:=List.length_eq_zero_iff.1 h0
  subst this
  simp only [s7,zL,go_sem,List.length_nil,Int.natCast_zero,ac,tI]
 ·have e1:((m.length:Int)=0)=False:=ff (by omega)
  have e2:IntKind.i64.wrap ((m.length:Int) - 1)=((m.length - 1:Nat):Int):=wi (by omega) (by omega)
  have e3:IntKind.i64.wrap (32*((m.length - 1:Nat):Int))=((32*(m.length - 1):Nat):Int):=wi (by omega) (by omega)
  have e4:bu (aQ m) ((m.length - 1:Nat):Int)=some (.ipt [U (m.getD (m.length - 1) 0:Nat)]):=bF rfl (by omega)
  have hx:=cA hb (m.length - 1)
  have e5:=aah (m.getD (m.length - 1) 0) (32*(m.length - 1)) hx (by have:=(bO (k:=32)).2 hx; omega)
  have e6:32*(m.length - 1)+ai (m.getD (m.length - 1) 0)=ai (ac m):=by
   have hne:m ≠ []:=fun h=>h0 (by rw [h]; rfl)
   have h7:=Rg (BU hc hne)
   rw [sB hb hc] at h7
   exact h7.symm
  rw [e6] at e5
  simp only [s7,zL,go_sem,e1,e2,e3,e4]
  rw [e5 _ _ rfl rfl]
  simp only [go_sem]
theorem RB {m:List Nat} (hb:Lb m) (n:Nat):m.getD (n / 32) 0 / 2 ^ (n % 32) % 2=ac m / 2 ^ n % 2:=by
 have h1:ac m / 2 ^ n=ac (m.drop (n / 32)) / 2 ^ (n % 32):=by
  rw [wH hb,Nat.div_div_eq_div_mul,qu]
 rw [h1,eY]
 have hr:n % 32 < 32:=Nat.mod_lt _ (by omega)
 have e:(4294967296:Nat)=2 ^ (n % 32)*(2*2 ^ (31 - n % 32)):=by
  rw [← Nat.pow_succ',← Nat.pow_add,show n % 32+(31 - n % 32+1)=32 by omega]
 generalize ac (m.drop (n / 32+1))=w
 rw [show 4294967296*w=2 ^ (n % 32)*(2*(2 ^ (31 - n % 32)*w)) by
  conv=>lhs; rw [e]
  rw [Nat.mul_assoc,Nat.mul_assoc],Nat.add_mul_div_left _ _ (Nat.two_pow_pos _),Nat.add_mul_mod_self_left]
theorem aai {n:Nat} (h:n ≠ 0) {k:Nat} (hk:k≤tz n):n / 2 ^ k % 2=if k=tz n then 1 else 0:=by
 obtain ⟨h1,h2⟩:=sC h
 by_cases hh:k=tz n
 ·rw [if_pos hh,hh]
  exact h2
 ·rw [if_neg hh]
  obtain ⟨j,hj⟩:∃ j,tz n=k+(j+1):=⟨tz n - k - 1,by omega⟩
  have h3:n=2 ^ k*(2*(2 ^ j*(n / 2 ^ tz n))):=by
   conv=>lhs; rw [h1,hj]
   rw [Nat.pow_add,Nat.pow_succ,hj,Nat.pow_add,Nat.pow_succ]
   ac_rfl
  rw [h3,Nat.mul_div_cancel_left _ (Nat.two_pow_pos k),Nat.mul_mod_right]
theorem XE {m:List Nat} (hb:Lb m) (h:m.length≤1000000) (hv:ac m ≠ 0):∀ (k i:Nat),i+k=tz (ac m)→∀ (s:ag) (h:ab),s 0=lm m→s 3=I i →
  aB 0 [3] (aD (am R (aO false) oo) [0,3] [] s h)=some (.normal,⟨upd (fun _=>.any) 3 (I (tz (ac m):Nat)),fun _=>.dead⟩):=by
 have htz:tz (ac m) < 32*m.length:=by
  refine Oz hv ?_
  have:=dI hb
  rw [Nat.pow_mul]
  exact this
 intro k
 induction k with
 | zero =>
  intro i hi s h h0 h3
  have hi':i=tz (ac m):=by omega
  have e1:=vE (n:=i) (m:=32) (j:=32) rfl rfl (by omega) (by omega)
  have e2:=vD (n:=i) (m:=32) (j:=32) rfl rfl (by omega)
  have e3:bu (aQ m) ((i / 32:Nat):Int)=some (.ipt [U (m.getD (i / 32) 0:Nat)]):=bF rfl (by omega)
  have hx:=cA hb (i / 32)
  have e4:IntKind.u64.wrap ((i % 32:Nat):Int)=((i % 32:Nat):Int):=gj rfl (by omega)
  have e5:=Dh (n:=m.getD (i / 32) 0) (k:=i % 32) (kk:=.u64) (j:=((i % 32:Nat):Int)) rfl rfl (by omega)
  have e6:=Rz (n:=m.getD (i / 32) 0 / 2 ^ (i % 32)) rfl (Nat.lt_of_le_of_lt (Nat.div_le_self _ _) hx)
  have e7:=RB hb i
  rw [aai hv (by omega),if_pos hi'] at e7
  rw [e7] at e6
  rw [ao]
  rw [← hi']
  simp only [oo,go_sem,auH,h0,h3,e1,e2,e3,e4,e5,e6,Int.natCast_one]
 | succ k ih =>
  intro i hi s h h0 h3
  have e1:=vE (n:=i) (m:=32) (j:=32) rfl rfl (by omega) (by omega)
  have e2:=vD (n:=i) (m:=32) (j:=32) rfl rfl (by omega)
  have e3:bu (aQ m) ((i / 32:Nat):Int)=some (.ipt [U (m.getD (i / 32) 0:Nat)]):=bF rfl (by omega)
  have hx:=cA hb (i / 32)
  have e4:IntKind.u64.wrap ((i % 32:Nat):Int)=((i % 32:Nat):Int):=gj rfl (by omega)
  have e5:=Dh (n:=m.getD (i / 32) 0) (k:=i % 32) (kk:=.u64) (j:=((i % 32:Nat):Int)) rfl rfl (by omega)
  have e6:=Rz (n:=m.getD (i / 32) 0 / 2 ^ (i % 32)) rfl (Nat.lt_of_le_of_lt (Nat.div_le_self _ _) hx)
  have e7:=RB hb i
  rw [aai hv (by omega),if_neg (by omega)] at e7
  rw [e7] at e6
  have e8:IntKind.i64.wrap ((i:Int)+1)=((i+1:Nat):Int):=wi (by omega) (by omega)
  have ih':=ih (i+1) (by omega)
  rw [ao]
  generalize aD _ _ _=L at ih' ⊢
  simp only [oo,go_sem,h0,h3,e1,e2,e3,e4,e5,e6,e8,Int.natCast_zero]
  exact ih' _ _ rfl rfl
theorem aaj {m:List Nat} (hb:Lb m) (h:m.length≤1000000) (hv:ac m ≠ 0):R F.r02_zeros [lm m] []=some (I (tz (ac m):Nat),[]):=by
 refine aE TW TV (Kh false) rfl ?_
 have h3:=XE hb h hv (tz (ac m)) 0 (Nat.zero_add _)
 simp only [Int.natCast_zero] at h3
 simp only [wm,ED,go_sem]
 rw [h3 _ _ rfl rfl]
 simp only [go_sem]
end Go.Ab
namespace Go.Ab
open Go Go.IntWalk
set_option maxRecDepth 4000
set_option maxHeartbeats 1000000
theorem aak {a:List Nat} (ha:Lb a) {n q:Nat} (h1:a.length≤100000) (hq:q≤100000):∀ (k i:Nat),i+k=a.length→∀ (s:ag) (h:ab),s 0=lm a→s 1=I (n:Nat)→s 5=.rsl 11 none 1 0 (q+i)→s 6=W (dS a (n % 32) i:Nat)→s 7=I i →
  h 11=.ar 1 (aQ (List.replicate q 0++jz a (n % 32) i))→h 34=.dead →
  aB 0 [5,6] (aD (am R (aO false) pP) [0,1,5,6,7] [11,34] s h) =
   some (.normal,⟨upd (upd (fun _=>.any) 6 (W (dS a (n % 32) a.length:Nat))) 5 (.rsl 11 none 1 0 (q+a.length)),upd (upd (fun _=>.dead) 34 .dead) 11 (.ar 1 (aQ (List.replicate q 0++jz a (n % 32) a.length)))⟩):=by
 intro k
 induction k with
 | zero =>
  intro i hi s h h0 g1 h5 h6 h7 hh hh2
  have:i=a.length:=by omega
  subst this
  rw [ao]
  simp only [pP,go_sem,auD,h0,g1,h5,h6,h7,hh,hh2,Int.lt_irrefl]
 | succ k ih =>
  intro i hi s h h0 g1 h5 h6 h7 hh hh2
  have ih':=ih (i+1) (by omega)
  have hx:=cA ha i
  have hr:n % 32 < 32:=Nat.mod_lt _ (by omega)
  have hc:=yV ha (r:=n % 32) i
  have hp:2 ^ (n % 32)≤2 ^ 31:=Nat.pow_le_pow_right (by omega) (by omega)
  have hxp:a.getD i 0*2 ^ (n % 32)≤4294967295*2 ^ 31:=Nat.mul_le_mul (by omega) hp
  have e1:((i:Int) < (a.length:Int))=True:=tt (by omega)
  have e2:bu (aQ a) (i:Int)=some (.ipt [U (a.getD i 0:Nat)]):=bF rfl (by omega)
  have e3:IntKind.i64.wrap ((i:Int)+1)=((i+1:Nat):Int):=wi (by omega) (by omega)
  have e4:IntKind.u64.wrap (a.getD i 0:Int)=(a.getD i 0:Int):=gj rfl (by omega)
  have e5:=vD (n:=n) (m:=32) (j:=32) rfl rfl (by omega)
  have e5':IntKind.u64.wrap ((n % 32:Nat):Int)=((n % 32:Nat):Int):=gj rfl (by omega)
  have e6:=OH (n:=a.getD i 0) (k:=n % 32) (kk:=.u64) (j:=((n % 32:Nat):Int)) rfl rfl (by omega) (by omega)
  have e7:=Xq (m:=a.getD i 0*2 ^ (n % 32)) (n:=dS a (n % 32) i) rfl rfl (by omega) (by omega)
  rw [Iz hc] at e7
  have e10:=CA (n:=a.getD i 0*2 ^ (n % 32)+dS a (n % 32) i) rfl (by omega)
  have e8:IntKind.u32.wrap (((a.getD i 0*2 ^ (n % 32)+dS a (n % 32) i) % 4294967296:Nat):Int)=(((a.getD i 0*2 ^ (n % 32)+dS a (n % 32) i) % 4294967296:Nat):Int):=AL rfl (by omega)
  have e9:=rC (n:=a.getD i 0*2 ^ (n % 32)+dS a (n % 32) i) (k:=32) (kk:=.u64) (j:=32) rfl rfl (by omega)
  have f1:aQ (List.replicate q 0++jz a (n % 32) i)++[[U ((a.getD i 0*2 ^ (n % 32)+dS a (n % 32) i) % 4294967296:Nat)]]=aQ (List.replicate q 0++jz a (n % 32) (i+1)):=by
   rw [show [[U ((a.getD i 0*2 ^ (n % 32)+dS a (n % 32) i) % 4294967296:Nat)]]=aQ [(a.getD i 0*2 ^ (n % 32)+dS a (n % 32) i) % 4294967296] from rfl,u9,List.append_assoc]
   simp [jz,List.range_succ]
  have f2:(q+i=(List.replicate q 0++jz a (n % 32) i).length)=True:=tt (by simp [oJ])
  have f3:((q+i+1)*4≤140737488355328)=True:=tt (by omega)
  rw [ao]
  generalize aD _ _ _=L at ih' ⊢
  simp only [pP,go_sem,auB,auC,auD,h0,g1,h5,h6,h7,hh,hh2,e1,e2,e3,e4,e5,e5',e6,e7,e8,e9,e10,f1,f2,f3,true_or,Nat.zero_add,Nat.le_refl]
  exact ih' _ _ rfl rfl rfl rfl rfl rfl rfl
theorem RE {a:List Nat} (ha:Lb a) {n:Nat} (h1:a.length≤10000) (hn:n≤100000):R F.r02_left [lm a,I n] []=some (lm (aq (ac a*2 ^ n)),[]):=by
 refine aE Xc Xb (NH false) rfl ?_
 have hc:=yV ha (r:=n % 32) a.length
 have hp:2 ^ (n % 32)≤2 ^ 31:=Nat.pow_le_pow_right (by omega) (by have:n % 32 < 32:=Nat.mod_lt _ (by omega); omega)
 have e1:=vE (n:=n) (m:=32) (j:=32) rfl rfl (by omega) (by omega)
 have e4:=nK (i:=((n / 32:Nat):Int)) (j:=((n / 32:Nat):Int)) rfl rfl (Nat.le_refl _) (by omega)
 have e5:(n / 32*4≤140737488355328)=True:=tt (by omega)
 have e6:=aak ha (n:=n) (q:=n / 32) (by omega) (by omega) a.length 0 (by omega)
 have e7:aQ (List.replicate (n / 32) 0)=aQ (List.replicate (n / 32) 0++jz a (n % 32) 0):=by simp [jz]
 have e8:IntKind.u32.wrap ((dS a (n % 32) a.length:Nat):Int)=((dS a (n % 32) a.length:Nat):Int):=AL rfl (by omega)
 have hall:=UP ha n
 have f1:aQ (List.replicate (n / 32) 0++jz a (n % 32) a.length)++[[U (dS a (n % 32) a.length:Nat)]]=aQ (dy (n / 32+a.length+1) (ac a*2 ^ n)):=by
  rw [← hall,show [[U (dS a (n % 32) a.length:Nat)]]=aQ [dS a (n % 32) a.length] from rfl,u9]
 have f2:(n / 32+a.length=(List.replicate (n / 32) 0++jz a (n % 32) a.length).length)=True:=tt (by simp [oJ])
 have f3:((n / 32+a.length+1)*4≤140737488355328)=True:=tt (by omega)
 have ht:=wP (oE (n / 32+a.length+1) (ac a*2 ^ n)) (by rw [cr]; omega)
 have hv:ac (dy (n / 32+a.length+1) (ac a*2 ^ n))=ac a*2 ^ n:=by
  rw [lU,Nat.mod_eq_of_lt]
  have h:=dI ha
  have h2:2 ^ n≤4294967296 ^ (n / 32+1):=by
   rw [show (4294967296:Nat)=2 ^ 32 from rfl,← Nat.pow_mul]
   exact Nat.pow_le_pow_right (by omega) (by omega)
  rw [show n / 32+a.length+1=a.length+(n / 32+1) from by omega,Nat.pow_add]
  exact Nat.mul_lt_mul_of_lt_of_le h h2 (Nat.pow_pos (by omega))
 rw [hv] at ht
 have f4:(aQ (dy (n / 32+a.length+1) (ac a*2 ^ n))).take (n / 32+a.length+1)=aQ (dy (n / 32+a.length+1) (ac a*2 ^ n)):=by
  rw [List.take_of_length_le]
  rw [KJ,cr]
  exact Nat.le_refl _
 simp only [xQ,Hv,go_sem,e1,e4,e5,vC,e7]
 rw [e6 _ _ rfl rfl rfl rfl rfl rfl rfl]
 simp only [go_sem,auA,auz,auB,auC,e8,f1,f2,f3,f4,true_or,Nat.zero_add,Nat.le_refl,cr,ht]
def xy (d:Nat) (out:List Nat) (x:AV) (o:Ob):Prop:=(out=[]∧x=.emp∧o=.dead)∨(0 < out.length∧x=.rsl d none 1 0 out.length∧o=.ar 1 (aQ out))
theorem sJ {d v:Nat}:xy d ([]++[v]) (.rsl d none 1 0 1) (.ar 1 [[U (v:Nat)]]):=Or.inr ⟨by simp,rfl,rfl⟩
theorem qk {d v:Nat} {out:List Nat}:xy d (out++[v]) (.rsl d none 1 0 (out.length+1)) (.ar 1 (aQ (out++[v]))):=Or.inr ⟨by simp,by rw [List.length_append]; rfl,rfl⟩
theorem nQ (out:List Nat) (v:Nat):aQ out++[[U (v:Nat)]]=aQ (out++[v]):=by simp [aQ]
theorem aal (a:List Nat) (r i:Nat):hH a r (i+1)=hH a r i++[nL a r i]:=by simp [hH,List.range_succ]
theorem XF {a:List Nat} (ha:Lb a) {n:Nat} (h1:a.length≤100000):∀ (k i:Nat),i+k=a.length→∀ (s:ag) (h:ab),s 0=lm a→s 1=I (n:Nat)→s 6=I i→xy 51 (hH a (n % 32) i) (s 5) (h 51) →
  ∃ x hh,aB 0 [5] (aD (am R (aO false) dC) [0,1,5,6] [51] s h)=some (.normal,⟨upd (fun _=>.any) 5 x,hh⟩)∧xy 51 (hH a (n % 32) a.length) x (hh 51)∧∀ a,a ≠ 51→hh a=.dead:=by
 intro k
 induction k with
 | zero =>
  intro i hi s h h0 g1 h6 hacc
  have:i=a.length:=by omega
  subst this
  rw [ao]
  rcases hacc with ⟨g2,h5,hh⟩ | ⟨g2,h5,hh⟩
  ·refine ⟨.emp,?hh0,?_,Or.inl ⟨g2,rfl,?_⟩,?_⟩
   rotate_left
   ·simp only [dC,go_sem,h0,g1,h5,h6,hh,Int.lt_irrefl]
    rfl
   ·rfl
   ·intro b hb
    simp only [gk,hb,if_false]
  ·refine ⟨.rsl 51 none 1 0 (hH a (n % 32) a.length).length,?hh1,?_,Or.inr ⟨g2,rfl,?_⟩,?_⟩
   rotate_left
   ·simp only [dC,go_sem,auD,h0,g1,h5,h6,hh,Int.lt_irrefl]
    rfl
   ·rfl
   ·intro b hb
    simp only [gk,hb,if_false]
 | succ k ih =>
  intro i hi s h h0 g1 h6 hacc
  have ih':=ih (i+1) (by omega)
  have hx:=cA ha i
  have hy:=cA ha (i+1)
  have hr:n % 32 < 32:=Nat.mod_lt _ (by omega)
  have e1:((i:Int) < (a.length:Int))=True:=tt (by omega)
  have e2:bu (aQ a) (i:Int)=some (.ipt [U (a.getD i 0:Nat)]):=bF rfl (by omega)
  have e3:IntKind.i64.wrap ((i:Int)+1)=((i+1:Nat):Int):=wi (by omega) (by omega)
  have e4:IntKind.u64.wrap (a.getD i 0:Int)=(a.getD i 0:Int):=gj rfl (by omega)
  have e5:=vD (n:=n) (m:=32) (j:=32) rfl rfl (by omega)
  have e5':IntKind.u64.wrap ((n % 32:Nat):Int)=((n % 32:Nat):Int):=gj rfl (by omega)
  have q1:((hH a (n % 32) i).length+1)*4≤140737488355328:=by rw [mG]; omega
  have f3:=tt q1
  have hlt:∀ w:Nat,w < 18446744073709551616→w / 2 ^ (n % 32) < 18446744073709551616:=fun w hw=>Nat.lt_of_le_of_lt (Nat.div_le_self _ _) hw
  rw [ao]
  rw [aal] at ih'
  generalize aD _ _ _=L at ih' ⊢
  by_cases hl:i+1 < a.length
  ·have f1:(((i+1:Nat):Int) < (a.length:Int))=True:=tt (by omega)
   have f2:bu (aQ a) ((i+1:Nat):Int)=some (.ipt [U (a.getD (i+1) 0:Nat)]):=bF rfl hl
   have f5:IntKind.u64.wrap (a.getD (i+1) 0:Int)=(a.getD (i+1) 0:Int):=gj rfl (by omega)
   have f6:=OH (n:=a.getD (i+1) 0) (k:=32) (kk:=.u64) (j:=32) rfl rfl (by omega) (by omega)
   have f7:=Xq (m:=a.getD i 0) (n:=a.getD (i+1) 0*2 ^ 32) rfl rfl (by omega) (by omega)
   rw [Nat.or_comm,Iz hx,show a.getD (i+1) 0*2 ^ 32+a.getD i 0=a.getD i 0+4294967296*a.getD (i+1) 0 by omega] at f7
   have f8:=rC (n:=a.getD i 0+4294967296*a.getD (i+1) 0) (k:=n % 32) (kk:=.u64) (j:=((n % 32:Nat):Int)) rfl rfl (by omega)
   have f9:=CA (n:=(a.getD i 0+4294967296*a.getD (i+1) 0) / 2 ^ (n % 32)) rfl (hlt _ (by omega))
   rw [show (a.getD i 0+4294967296*a.getD (i+1) 0) / 2 ^ (n % 32) % 4294967296=nL a (n % 32) i from rfl] at f9
   have f10:IntKind.u32.wrap ((nL a (n % 32) i:Nat):Int)=((nL a (n % 32) i:Nat):Int):=AL rfl (Nat.mod_lt _ (by omega))
   rcases hacc with ⟨g2,h5,hh⟩ | ⟨g2,h5,hh⟩
   ·simp only [dC,go_sem,auA,auz,auB,auC,h0,g1,h5,h6,hh,e1,e2,e3,e4,e5,e5',f1,f2,f5,f6,f7,f8,f9,f10]
    rw [g2] at ih'
    exact ih' _ _ rfl rfl rfl sJ
   ·simp only [dC,go_sem,auB,auC,auD,h0,g1,h5,h6,hh,e1,e2,e3,e4,e5,e5',f1,f2,f3,f5,f6,f7,f8,f9,f10,true_or,Nat.zero_add,Nat.le_refl,nQ]
    exact ih' _ _ rfl rfl rfl qk
  ·have f1:(((i+1:Nat):Int) < (a.length:Int))=False:=ff (by omega)
   have hz:a.getD (i+1) 0=0:=by
    rw [List.getD_eq_getElem?_getD,List.getElem?_eq_none (by omega)]
    rfl
   have f8:=rC (n:=a.getD i 0) (k:=n % 32) (kk:=.u64) (j:=((n % 32:Nat):Int)) rfl rfl (by omega)
   have f9:=CA (n:=a.getD i 0 / 2 ^ (n % 32)) rfl (hlt _ (by omega))
   rw [show a.getD i 0 / 2 ^ (n % 32) % 4294967296=nL a (n % 32) i by unfold nL; rw [hz,Nat.mul_zero,Nat.add_zero]] at f9
   have f10:IntKind.u32.wrap ((nL a (n % 32) i:Nat):Int)=((nL a (n % 32) i:Nat):Int):=AL rfl (Nat.mod_lt _ (by omega))
   rcases hacc with ⟨g2,h5,hh⟩ | ⟨g2,h5,hh⟩
   ·simp only [dC,go_sem,auA,auz,auB,auC,h0,g1,h5,h6,hh,e1,e2,e3,e4,e5,e5',f1,f8,f9,f10]
    rw [g2] at ih'
    exact ih' _ _ rfl rfl rfl sJ
   ·simp only [dC,go_sem,auB,auC,auD,h0,g1,h5,h6,hh,e1,e2,e3,e4,e5,e5',f1,f3,f8,f9,f10,true_or,Nat.zero_add,Nat.le_refl,nQ]
    exact ih' _ _ rfl rfl rfl qk
theorem GB (m:List Nat):(aQ m).take m.length=aQ m:=by
 rw [List.take_of_length_le]
 rw [KJ]
 exact Nat.le_refl _
theorem aam {a:List Nat} (ha:Lb a) {n:Nat} (h1:a.length≤10000) (hn:n≤1000000):R F.r02_right [lm a,I n] []=some (lm (aq (ac a / 2 ^ n)),[]):=by
 refine aE T0 TZ (Ki false) rfl ?_
 have e1:=vE (n:=n) (m:=32) (j:=32) rfl rfl (by omega) (by omega)
 by_cases hq:a.length≤n / 32
 ·have e2:((a.length:Int)≤((n / 32:Nat):Int))=True:=tt (by omega)
  have hz:ac a / 2 ^ n=0:=by
   rw [← qu n,← Nat.div_div_eq_div_mul,← wH ha,List.drop_of_length_le hq]
   exact Nat.zero_div _
  rw [hz,eE]
  simp only [rj,xT,go_sem,e1,e2]
 ·have e2:((a.length:Int)≤((n / 32:Nat):Int))=False:=ff (by omega)
  have e3:eO 1 (lm a) (some (I (n / 32:Nat))) none none=some (lm (a.drop (n / 32))):=by
   rw [Ci (a:=n / 32) (b:=a.length) (sI rfl (by omega)) rfl (Nat.le_refl _),List.take_of_length_le (by rw [List.length_drop]; omega)]
  have hd:=vr ha (n / 32)
  have hl:(a.drop (n / 32)).length≤10000:=by rw [List.length_drop]; omega
  have hv:ac a / 2 ^ n=ac (a.drop (n / 32)) / 2 ^ (n % 32):=by
   rw [wH ha,Nat.div_div_eq_div_mul,qu]
  rw [hv]
  have hr:=XF hd (n:=n) (by omega) (a.drop (n / 32)).length 0 (Nat.zero_add _)
  simp only [Int.natCast_zero] at hr
  have hall:=Rf hd (r:=n % 32) (by have:n % 32 < 32:=Nat.mod_lt _ (by omega); omega)
  have hL:=mG (a.drop (n / 32)) (n % 32) (a.drop (n / 32)).length
  have hLb:Lb (hH (a.drop (n / 32)) (n % 32) (a.drop (n / 32)).length):=by
   rw [hall]
   exact oE _ _
  have hvv:ac (hH (a.drop (n / 32)) (n % 32) (a.drop (n / 32)).length)=ac (a.drop (n / 32)) / 2 ^ (n % 32):=by
   rw [hall,lU,Nat.mod_eq_of_lt]
   exact Nat.lt_of_le_of_lt (Nat.div_le_self _ _) (dI hd)
  generalize a.drop (n / 32)=m at e3 hd hl hr hall hL hLb hvv ⊢
  have ht:=wP hLb (by rw [hL]; omega)
  rw [hvv] at ht
  have q0:xy 51 (hH m (n % 32) 0) .emp .dead:=Or.inl ⟨rfl,rfl,rfl⟩
  generalize hLL:aD (am R (aO false) dC) [0,1,5,6] [51]=L at hr
  have hX:∀ s h,am R (aO false) (.loop [0,1,5,6] [51] dC) s h=L s h:=fun s h=>by rw [← hLL]; rfl
  clear hLL
  generalize hH m (n % 32) 0=o0 at hr q0
  generalize hH m (n % 32) m.length=out at hr hall hL hLb hvv ht
  generalize aq (ac m / 2 ^ (n % 32))=res at ht ⊢
  have hr2:∀ (S:ag) (H:ab) (X:Option (Ex × St)),aB 0 [5] (L S H)=X→S 0=lm m→S 1=I n→S 6=I 0→S 5=.emp→H 51=.dead→∃ x hh,X=some (.normal,⟨upd (fun _=>.any) 5 x,hh⟩)∧xy 51 out x (hh 51)∧∀ a,a ≠ 51→hh a=.dead:=fun S H X hX a0 a1 a6 a5 b=>by
   rw [← hX]
   exact hr S H a0 a1 a6 (by rw [a5,b]; exact q0)
  simp only [rj,xT,hX,go_sem,e1,e2,e3]
  generalize hB:aB 0 [5] (L _ _)=X
  obtain ⟨x,hh,g0,hacc,gd⟩:=hr2 _ _ _ hB rfl rfl rfl rfl rfl
  rw [g0]
  rcases hacc with ⟨c1,c2,c3⟩ | ⟨c1,c2,c3⟩
  ·rw [c1] at ht
   simp only [go_sem,auA,auz,c2,ht,ne_eq,not_false_eq_true,gd]
  ·simp only [go_sem,auA,auz,c2,c3,ht,ne_eq,not_false_eq_true,gd,GB,Nat.zero_add,Nat.le_refl]
end Go.Ab
namespace Go.Ab
open Go Go.IntWalk
set_option maxRecDepth 4000
set_option maxHeartbeats 1000000
theorem K4 {m:List Nat} {i:Nat} (h:m.length≤i):m.getD i 0=0:=by
 rw [List.getD_eq_getElem?_getD,List.getElem?_eq_none h]
 rfl
theorem aan (a b:List Nat) (i:Nat):dX a b (i+1)=dX a b i++[wC a b i]:=by simp [dX,List.range_succ]
theorem aao (a b:List Nat) (i:Nat):fC a b (i+1)=fC a b i++[wG a b i]:=by simp [fC,List.range_succ]
theorem aap {a b:List Nat} (ha:Lb a) (hb:Lb b) (h1:a.length≤100000) (h2:b.length≤100000):∀ (k i:Nat),i+k=max a.length b.length→∀ (s:ag) (h:ab),s 0=lm a→s 1=lm b→s 6=W (fu a b i:Nat)→s 7=I i→xy 49 (dX a b i) (s 5) (h 49) →
  ∃ x hh,aB 0 [5,6] (aD (am R (aO false) dc) [0,1,5,6,7] [49] s h)=some (.normal,⟨upd (upd (fun _=>.any) 6 (W (fu a b (max a.length b.length):Nat))) 5 x,hh⟩)∧xy 49 (dX a b (max a.length b.length)) x (hh 49)∧∀ a,a ≠ 49→hh a=.dead:=by
 intro k
 induction k with
 | zero =>
  intro i hi s h h0 g1 h6 h7 hacc
  have e1:((i:Int) < (a.length:Int))=False:=ff (by omega)
  have e2:((i:Int) < (b.length:Int))=False:=ff (by omega)
  have:i=max a.length b.length:=by omega
  rw [← this]
  rw [ao]
  rcases hacc with ⟨g2,h5,hh⟩ | ⟨g2,h5,hh⟩
  ·refine ⟨.emp,?hh0,?_,Or.inl ⟨g2,rfl,?_⟩,?_⟩
   rotate_left
   ·simp only [dc,go_sem,h0,g1,h5,h6,h7,hh,e1,e2]
    rfl
   ·rfl
   ·intro b hb
    simp only [gk,hb,if_false]
  ·refine ⟨.rsl 49 none 1 0 (dX a b i).length,?hh1,?_,Or.inr ⟨g2,rfl,?_⟩,?_⟩
   rotate_left
   ·simp only [dc,go_sem,auD,h0,g1,h5,h6,h7,hh,e1,e2]
    rfl
   ·rfl
   ·intro b hb
    simp only [gk,hb,if_false]
 | succ k ih =>
  intro i hi s h h0 g1 h6 h7 hacc
  have ih':=ih (i+1) (by omega)
  have hx:=cA ha i
  have hy:=cA hb i
  have hc:=yT ha hb i
  have e3:IntKind.i64.wrap ((i:Int)+1)=((i+1:Nat):Int):=wi (by omega) (by omega)
  have q1:((dX a b i).length+1)*4≤140737488355328:=by rw [eR]; omega
  have f3:=tt q1
  have e4:IntKind.u64.wrap (a.getD i 0:Int)=(a.getD i 0:Int):=gj rfl (by omega)
  have e5:IntKind.u64.wrap (b.getD i 0:Int)=(b.getD i 0:Int):=gj rfl (by omega)
  have f8:=rC (n:=a.getD i 0+b.getD i 0+fu a b i) (k:=32) (kk:=.u64) (j:=32) rfl rfl (by omega)
  rw [show (a.getD i 0+b.getD i 0+fu a b i) / 2 ^ 32=fu a b (i+1) from rfl] at f8
  have f9:=CA (n:=a.getD i 0+b.getD i 0+fu a b i) rfl (by omega)
  rw [show (a.getD i 0+b.getD i 0+fu a b i) % 4294967296=wC a b i from rfl] at f9
  have f10:IntKind.u32.wrap ((wC a b i:Nat):Int)=((wC a b i:Nat):Int):=AL rfl (Nat.mod_lt _ (by omega))
  rw [ao]
  rw [aan] at ih'
  generalize aD _ _ _=L at ih' ⊢
  by_cases hla:i < a.length
  ·have e1:((i:Int) < (a.length:Int))=True:=tt (by omega)
   have e2:bu (aQ a) (i:Int)=some (.ipt [U (a.getD i 0:Nat)]):=bF rfl hla
   have w1:IntKind.u64.wrap ((fu a b i:Int)+(a.getD i 0:Int))=((a.getD i 0+fu a b i:Nat):Int):=gj (by omega) (by omega)
   by_cases hlb:i < b.length
   ·have e6:((i:Int) < (b.length:Int))=True:=tt (by omega)
    have e7:bu (aQ b) (i:Int)=some (.ipt [U (b.getD i 0:Nat)]):=bF rfl hlb
    have w2:IntKind.u64.wrap (((a.getD i 0+fu a b i:Nat):Int)+(b.getD i 0:Int))=((a.getD i 0+b.getD i 0+fu a b i:Nat):Int):=gj (by omega) (by omega)
    rcases hacc with ⟨g2,h5,hh⟩ | ⟨g2,h5,hh⟩
    ·simp only [dc,go_sem,auA,auz,auB,auC,h0,g1,h5,h6,h7,hh,e1,e2,e3,e4,e5,e6,e7,w1,w2,f8,f9,f10]
     rw [g2] at ih'
     exact ih' _ _ rfl rfl rfl rfl sJ
    ·simp only [dc,go_sem,auB,auC,auD,h0,g1,h5,h6,h7,hh,e1,e2,e3,e4,e5,e6,e7,w1,w2,f3,f8,f9,f10,true_or,Nat.zero_add,Nat.le_refl,nQ]
     exact ih' _ _ rfl rfl rfl rfl qk
   ·have e6:((i:Int) < (b.length:Int))=False:=ff (by omega)
    have hz:=K4 (m:=b) (i:=i) (by omega)
    have w2:((a.getD i 0+fu a b i:Nat):Int)=((a.getD i 0+b.getD i 0+fu a b i:Nat):Int):=by omega
    rw [w2] at w1
    rcases hacc with ⟨g2,h5,hh⟩ | ⟨g2,h5,hh⟩
    ·simp only [dc,go_sem,auA,auz,auB,auC,h0,g1,h5,h6,h7,hh,e1,e2,e3,e4,e6,w1,f8,f9,f10]
     rw [g2] at ih'
     exact ih' _ _ rfl rfl rfl rfl sJ
    ·simp only [dc,go_sem,auB,auC,auD,h0,g1,h5,h6,h7,hh,e1,e2,e3,e4,e6,w1,f3,f8,f9,f10,true_or,Nat.zero_add,Nat.le_refl,nQ]
     exact ih' _ _ rfl rfl rfl rfl qk
  ·have e1:((i:Int) < (a.length:Int))=False:=ff (by omega)
   have hlb:i < b.length:=by omega
   have e6:((i:Int) < (b.length:Int))=True:=tt (by omega)
   have e7:bu (aQ b) (i:Int)=some (.ipt [U (b.getD i 0:Nat)]):=bF rfl hlb
   have hz:=K4 (m:=a) (i:=i) (by omega)
   have w2:IntKind.u64.wrap ((fu a b i:Int)+(b.getD i 0:Int))=((a.getD i 0+b.getD i 0+fu a b i:Nat):Int):=gj (by omega) (by omega)
   rcases hacc with ⟨g2,h5,hh⟩ | ⟨g2,h5,hh⟩
   ·simp only [dc,go_sem,auA,auz,auB,auC,h0,g1,h5,h6,h7,hh,e1,e3,e5,e6,e7,w2,f8,f9,f10]
    rw [g2] at ih'
    exact ih' _ _ rfl rfl rfl rfl sJ
   ·simp only [dc,go_sem,auB,auC,auD,h0,g1,h5,h6,h7,hh,e1,e3,e5,e6,e7,w2,f3,f8,f9,f10,true_or,Nat.zero_add,Nat.le_refl,nQ]
    exact ih' _ _ rfl rfl rfl rfl qk
theorem adr {a b:List Nat} (_ha:Lb a) (_hb:Lb b) {L:Nat} (h1:a.length≤L) (h2:b.length≤L):ac (dX a b L++[fu a b L])=ac a+ac b:=by
 have h:=Gn a b L
 rw [List.take_of_length_le h1,List.take_of_length_le h2] at h
 rw [fO,eR,← h]
 simp [ac]
theorem ads {a b:List Nat} (ha:Lb a) (hb:Lb b) (h1:a.length≤10000) (h2:b.length≤10000):R F.r02_plus [lm a,lm b] []=some (lm (aq (ac a+ac b)),[]):=by
 refine aE Xf Xe (NI false) rfl ?_
 obtain ⟨M,hM⟩:∃ M,max a.length b.length=M:=⟨_,rfl⟩
 have hr:=aap ha hb (by omega) (by omega) M 0 (by omega)
 simp only [Int.natCast_zero] at hr
 rw [hM] at hr
 have hsv:=adr ha hb (L:=M) (by omega) (by omega)
 have hc:=yT ha hb M
 have hL:=eR a b M
 have hLb:=UN a b M
 have q0:xy 49 (dX a b 0) .emp .dead:=Or.inl ⟨rfl,rfl,rfl⟩
 have c0:fu a b 0=0:=rfl
 rw [c0] at hr
 simp only [Int.natCast_zero] at hr
 generalize dX a b 0=o0 at hr q0
 generalize dX a b M=out at hr hsv hL hLb
 generalize fu a b M=c at hr hsv hc
 have ht:=wP (m:=out++[c]) (nI.2 ⟨hLb,fU.2 ⟨by omega,BT⟩⟩) (by rw [List.length_append]; simp; omega)
 rw [hsv] at ht
 have e8:IntKind.u32.wrap (c:Int)=(c:Int):=AL rfl (by omega)
 have q1:(out.length+1)*4≤140737488355328:=by omega
 have f3:=tt q1
 have f4:=GB (out++[c])
 rw [show (out++[c]).length=out.length+1 by simp] at f4
 generalize aq (ac a+ac b)=res at ht ⊢
 generalize hLL:aD (am R (aO false) dc) [0,1,5,6,7] [49]=L at hr
 have hX:∀ s h,am R (aO false) (.loop [0,1,5,6,7] [49] dc) s h=L s h:=fun s h=>by rw [← hLL]; rfl
 clear hLL
 have hr2:∀ (S:ag) (H:ab) (X:Option (Ex × St)),aB 0 [5,6] (L S H)=X→S 0=lm a→S 1=lm b→S 6=W 0→S 7=I 0→S 5=.emp→H 49=.dead→∃ x hh,X=some (.normal,⟨upd (upd (fun _=>.any) 6 (W c)) 5 x,hh⟩)∧xy 49 out x (hh 49)∧∀ a,a ≠ 49→hh a=.dead:=fun S H X hX a0 a1 a6 a7 a5 b=>by
  rw [← hX]
  exact hr S H a0 a1 a6 a7 (by rw [a5,b]; exact q0)
 simp only [xR,Hw,hX,go_sem]
 generalize hB:aB 0 [5,6] (L _ _)=X
 obtain ⟨x,hh,g0,hacc,gd⟩:=hr2 _ _ _ hB rfl rfl rfl rfl rfl rfl
 rw [g0]
 rcases hacc with ⟨c1,c2,c3⟩ | ⟨c1,c2,c3⟩
 ·rw [c1] at ht
  have ht':R F.r02_trim [.sl 1 [[U c]]] []=some (lm res,[]):=ht
  simp only [go_sem,auA,auz,auB,auC,c2,e8,ht',ne_eq,not_false_eq_true,gd]
 ·simp only [go_sem,auA,auz,auB,auC,c2,c3,e8,f3,f4,ht,ne_eq,not_false_eq_true,gd,nQ,true_or,Nat.zero_add,Nat.le_refl,List.length_singleton,KJ,List.length_append]
theorem XG {a b:List Nat} (ha:Lb a) (hb:Lb b) (h1:a.length≤100000):∀ (k i:Nat),i+k=a.length→∀ (s:ag) (h:ab),s 0=lm a→s 1=lm b→s 6=W (gY a b i:Nat)→s 7=I i→xy 41 (fC a b i) (s 5) (h 41) →
  ∃ x hh,aB 0 [5] (aD (am R (aO false) dB) [0,1,5,6,7] [41] s h)=some (.normal,⟨upd (fun _=>.any) 5 x,hh⟩)∧xy 41 (fC a b a.length) x (hh 41)∧∀ a,a ≠ 41→hh a=.dead:=by
 intro k
 induction k with
 | zero =>
  intro i hi s h h0 g1 h6 h7 hacc
  have e1:((i:Int) < (a.length:Int))=False:=ff (by omega)
  have:i=a.length:=by omega
  rw [← this]
  rw [ao]
  rcases hacc with ⟨g2,h5,hh⟩ | ⟨g2,h5,hh⟩
  ·refine ⟨.emp,?hh0,?_,Or.inl ⟨g2,rfl,?_⟩,?_⟩
   rotate_left
   ·simp only [dB,go_sem,h0,g1,h5,h6,h7,hh,e1]
    rfl
   ·rfl
   ·intro b hb
    simp only [gk,hb,if_false]
  ·refine ⟨.rsl 41 none 1 0 (fC a b i).length,?hh1,?_,Or.inr ⟨g2,rfl,?_⟩,?_⟩
   rotate_left
   ·simp only [dB,go_sem,auD,h0,g1,h5,h6,h7,hh,e1]
    rfl
   ·rfl
   ·intro b hb
    simp only [gk,hb,if_false]
 | succ k ih =>
  intro i hi s h h0 g1 h6 h7 hacc
  have ih':=ih (i+1) (by omega)
  have hx:=cA ha i
  have hy:=cA hb i
  have hc:=yU a b i
  have hla:i < a.length:=by omega
  have e1:((i:Int) < (a.length:Int))=True:=tt (by omega)
  have e2:bu (aQ a) (i:Int)=some (.ipt [U (a.getD i 0:Nat)]):=bF rfl hla
  have e3:IntKind.i64.wrap ((i:Int)+1)=((i+1:Nat):Int):=wi (by omega) (by omega)
  have q1:((fC a b i).length+1)*4≤140737488355328:=by rw [kh]; omega
  have f3:=tt q1
  have e4:IntKind.u64.wrap (a.getD i 0:Int)=(a.getD i 0:Int):=gj rfl (by omega)
  have e5:IntKind.u64.wrap (b.getD i 0:Int)=(b.getD i 0:Int):=gj rfl (by omega)
  have w3:IntKind.u64.wrap ((a.getD i 0:Int)+4294967296)=((a.getD i 0+4294967296:Nat):Int):=gj (by omega) (by omega)
  have w4:IntKind.u64.wrap (((a.getD i 0+4294967296:Nat):Int) - ((b.getD i 0+gY a b i:Nat):Int))=((a.getD i 0+4294967296 - b.getD i 0 - gY a b i:Nat):Int):=gj (by omega) (by omega)
  have f8:=rC (n:=a.getD i 0+4294967296 - b.getD i 0 - gY a b i) (k:=32) (kk:=.u64) (j:=32) rfl rfl (by omega)
  have w5:IntKind.u64.wrap (1 - (((a.getD i 0+4294967296 - b.getD i 0 - gY a b i) / 2 ^ 32:Nat):Int))=((gY a b (i+1):Nat):Int):=by
   refine gj ?_ (by have:=yU a b (i+1); omega)
   show _=(((if a.getD i 0 < b.getD i 0+gY a b i then 1 else 0:Nat)):Int)
   split <;> omega
  have f9:=CA (n:=a.getD i 0+4294967296 - b.getD i 0 - gY a b i) rfl (by omega)
  rw [show (a.getD i 0+4294967296 - b.getD i 0 - gY a b i) % 4294967296=wG a b i from rfl] at f9
  have f10:IntKind.u32.wrap ((wG a b i:Nat):Int)=((wG a b i:Nat):Int):=AL rfl (Nat.mod_lt _ (by omega))
  rw [ao]
  rw [aao] at ih'
  generalize aD _ _ _=L at ih' ⊢
  by_cases hlb:i < b.length
  ·have e6:((i:Int) < (b.length:Int))=True:=tt (by omega)
   have e7:bu (aQ b) (i:Int)=some (.ipt [U (b.getD i 0:Nat)]):=bF rfl hlb
   have w2:IntKind.u64.wrap ((gY a b i:Int)+(b.getD i 0:Int))=((b.getD i 0+gY a b i:Nat):Int):=gj (by omega) (by omega)
   rcases hacc with ⟨g2,h5,hh⟩ | ⟨g2,h5,hh⟩
   ·simp only [dB,go_sem,auA,auz,auB,auC,h0,g1,h5,h6,h7,hh,e1,e2,e3,e4,e5,e6,e7,w2,w3,w4,w5,f8,f9,f10]
    rw [g2] at ih'
    exact ih' _ _ rfl rfl rfl rfl sJ
   ·simp only [dB,go_sem,auB,auC,auD,h0,g1,h5,h6,h7,hh,e1,e2,e3,e4,e5,e6,e7,w2,w3,w4,w5,f3,f8,f9,f10,true_or,Nat.zero_add,Nat.le_refl,nQ]
    exact ih' _ _ rfl rfl rfl rfl qk
  ·have e6:((i:Int) < (b.length:Int))=False:=ff (by omega)
   have hz:=K4 (m:=b) (i:=i) (by omega)
   have w2:((b.getD i 0+gY a b i:Nat):Int)=(gY a b i:Int):=by omega
   rw [w2] at w4
   rcases hacc with ⟨g2,h5,hh⟩ | ⟨g2,h5,hh⟩
   ·simp only [dB,go_sem,auA,auz,auB,auC,h0,g1,h5,h6,h7,hh,e1,e2,e3,e4,e6,w3,w4,w5,f8,f9,f10]
    rw [g2] at ih'
    exact ih' _ _ rfl rfl rfl rfl sJ
   ·simp only [dB,go_sem,auB,auC,auD,h0,g1,h5,h6,h7,hh,e1,e2,e3,e4,e6,w3,w4,w5,f3,f8,f9,f10,true_or,Nat.zero_add,Nat.le_refl,nQ]
    exact ih' _ _ rfl rfl rfl rfl qk
theorem Mm {a b:List Nat} (ha:Lb a) (hb:Lb b) (h1:a.length≤10000) (h2:b.length≤a.length) (hv:ac b≤ac a):R F.r02_minus [lm a,lm b] []=some (lm (aq (ac a - ac b)),[]):=by
 refine aE TT TS (Kg false) rfl ?_
 have hr:=XG ha hb (by omega) a.length 0 (by omega)
 simp only [Int.natCast_zero] at hr
 have hall:=Re ha hb h2 hv
 have hsv:ac (fC a b a.length)=ac a - ac b:=by
  rw [hall,lU,Nat.mod_eq_of_lt]
  exact Nat.lt_of_le_of_lt (Nat.sub_le _ _) (dI ha)
 have hL:=kh a b a.length
 have hLb:=KN a b a.length
 have q0:xy 41 (fC a b 0) .emp .dead:=Or.inl ⟨rfl,rfl,rfl⟩
 have c0:gY a b 0=0:=rfl
 rw [c0] at hr
 simp only [Int.natCast_zero] at hr
 clear hall
 generalize fC a b 0=o0 at hr q0
 generalize fC a b a.length=out at hr hsv hL hLb
 have ht:=wP (m:=out) hLb (by omega)
 rw [hsv] at ht
 generalize aq (ac a - ac b)=res at ht ⊢
 generalize hLL:aD (am R (aO false) dB) [0,1,5,6,7] [41]=L at hr
 have hX:∀ s h,am R (aO false) (.loop [0,1,5,6,7] [41] dB) s h=L s h:=fun s h=>by rw [← hLL]; rfl
 clear hLL
 have hr2:∀ (S:ag) (H:ab) (X:Option (Ex × St)),aB 0 [5] (L S H)=X→S 0=lm a→S 1=lm b→S 6=W 0→S 7=I 0→S 5=.emp→H 41=.dead→∃ x hh,X=some (.normal,⟨upd (fun _=>.any) 5 x,hh⟩)∧xy 41 out x (hh 41)∧∀ a,a ≠ 41→hh a=.dead:=fun S H X hX a0 a1 a6 a7 a5 b=>by
  rw [← hX]
  exact hr S H a0 a1 a6 a7 (by rw [a5,b]; exact q0)
 simp only [wl,EC,hX,go_sem]
 generalize hB:aB 0 [5] (L _ _)=X
 obtain ⟨x,hh,g0,hacc,gd⟩:=hr2 _ _ _ hB rfl rfl rfl rfl rfl rfl
 rw [g0]
 rcases hacc with ⟨c1,c2,c3⟩ | ⟨c1,c2,c3⟩
 ·rw [c1] at ht
  simp only [go_sem,auA,auz,c2,ht,ne_eq,not_false_eq_true,gd]
 ·simp only [go_sem,auA,auz,c2,c3,ht,ne_eq,not_false_eq_true,gd,GB,Nat.zero_add,Nat.le_refl]
end Go.Ab
namespace Go.Ab
open Go Go.IntWalk
set_option maxRecDepth 4000
set_option maxHeartbeats 1000000
theorem aaq {a b:List Nat} (ha:Lb a) (hb:Lb b) (hl:a.length=b.length) (h2:a.length≤100000):∀ (k:Nat),k≤a.length→∀ (s:ag) (h:ab),s 0=lm a→s 1=lm b→s 5=I ((k:Int) - 1) →
  bX (aB 0 [] (aD (am R (aO false) dv) [0,1,5] [] s h)) (am R (aO false) mF)=some (.ret,⟨upd (fun _=>.any) 4 (I (bK (ac (a.take k)) (ac (b.take k)))),fun _=>.dead⟩):=by
 intro k
 induction k with
 | zero =>
  intro hk s h h0 h1 h5
  rw [ao]
  generalize aD _ _ _=L
  have e1:(0≤((0:Nat):Int) - 1)=False:=ff (by omega)
  have e2:bK (ac []) (ac [])=0:=rfl
  simp only [dv,mF,go_sem,h0,h1,h5,e1,e2]
 | succ k ih =>
  intro hk s h h0 h1 h5
  have ih':=ih (by omega)
  have e1:(0≤((k+1:Nat):Int) - 1)=True:=tt (by omega)
  have e2:bu (aQ a) (((k+1:Nat):Int) - 1)=some (.ipt [U (a.getD k 0:Nat)]):=bF (by omega) (by omega)
  have e3:bu (aQ b) (((k+1:Nat):Int) - 1)=some (.ipt [U (b.getD k 0:Nat)]):=bF (by omega) (by omega)
  have e4:IntKind.i64.wrap (((k+1:Nat):Int) - 1 - 1)=(k:Int) - 1:=by rw [i64_in] <;> omega
  have va:=iO a k
  have vb:=iO b k
  have la:=dI (qt ha k)
  have lb:=dI (qt hb k)
  rw [List.length_take,Nat.min_eq_left (by omega)] at la lb
  rw [ao]
  generalize aD _ _ _=L at ih' ⊢
  rcases Nat.lt_trichotomy (a.getD k 0) (b.getD k 0) with hlt | heq | hgt
  ·have e5:((a.getD k 0:Int) < (b.getD k 0:Int))=True:=tt (by omega)
   have e6:bK (ac (a.take (k+1))) (ac (b.take (k+1)))=-1:=by
    have:4294967296 ^ k*(a.getD k 0+1)≤4294967296 ^ k*b.getD k 0:=Nat.mul_le_mul_left _ hlt
    rw [Nat.mul_add] at this
    simp only [bK]
    rw [if_pos (by omega)]
   simp only [dv,mF,go_sem,h0,h1,h5,e1,e2,e3,e5,e6]
  ·have e5:((a.getD k 0:Int) < (b.getD k 0:Int))=False:=ff (by omega)
   have e7:((b.getD k 0:Int) < (a.getD k 0:Int))=False:=ff (by omega)
   have e6:bK (ac (a.take (k+1))) (ac (b.take (k+1)))=bK (ac (a.take k)) (ac (b.take k)):=by
    rw [va,vb,heq]
    simp only [bK]
    repeat' split
    all_goals first | rfl | omega
   simp only [dv,go_sem,h0,h1,h5,e1,e2,e3,e5,e6,e7,e4]
   exact ih' _ _ rfl rfl rfl
  ·have e5:((a.getD k 0:Int) < (b.getD k 0:Int))=False:=ff (by omega)
   have e7:((b.getD k 0:Int) < (a.getD k 0:Int))=True:=tt (by omega)
   have e6:bK (ac (a.take (k+1))) (ac (b.take (k+1)))=1:=by
    have:4294967296 ^ k*(b.getD k 0+1)≤4294967296 ^ k*a.getD k 0:=Nat.mul_le_mul_left _ hgt
    rw [Nat.mul_add] at this
    simp only [bK]
    rw [if_neg (by omega),if_pos (by omega)]
   simp only [dv,mF,go_sem,h0,h1,h5,e1,e2,e3,e5,e6,e7]
theorem EM {a b:List Nat} (ha:Lb a) (hb:Lb b) (h1:a.length≤100000) (_h2:b.length≤100000) (hc:a.length=b.length∨(s9 a∧s9 b)):R F.r02_compare [lm a,lm b] []=some (I (bK (ac a) (ac b)),[]):=by
 refine aE Nt Ns (FS false) rfl ?_
 by_cases hl:a.length=b.length
 ·have e1:((a.length:Int)=(b.length:Int))=True:=tt (by omega)
  have e2:IntKind.i64.wrap ((b.length:Int) - 1)=(b.length:Int) - 1:=i64_in _ ⟨by omega,by omega⟩
  have e3:IntKind.i64.wrap ((a.length:Int) - 1)=(a.length:Int) - 1:=i64_in _ ⟨by omega,by omega⟩
  have hL:=aaq ha hb hl h1 a.length (Nat.le_refl _)
  rw [List.take_length,hl,List.take_length,← hl] at hL
  generalize hLL:aD (am R (aO false) dv) [0,1,5] []=L at hL
  have hX:∀ s h,am R (aO false) (.loop [0,1,5] [] dv) s h=L s h:=fun s h=>by rw [← hLL]; rfl
  have hL2:∀ s h,s 0=lm a→s 1=lm b→s 5=I ((a.length:Int) - 1)→gq false [[]] [.t 4] 0 (bX (aB 0 [] (L s h)) (am R (aO false) (.seq (.ops [4] [co 4 (.mv (.c (.v (.int .i64 0))))]) (.ret))))=some (I (bK (ac a) (ac b)),[]):=fun s h a0 a1 a5=>by
   rw [show (.seq (.ops [4] [co 4 (.mv (.c (.v (.int .i64 0))))]) (.ret):Cmd)=mF from rfl,hL s h a0 a1 a5]
   simp only [go_sem]
  show gq false [[]] [.t 4] 0 (am R (aO false) mo _ _)=_
  unfold mo
  show gq false [[]] [.t 4] 0 (bX (am R (aO false) (.ops [0,1] [co 4 (.mv (.c (.v (.int .i64 0))))]) _ _) fun s h=>bX (am R (aO false) (.seq (.ops [0,1,10] [cm 6 0,co 7 (.len false (.t 6)),cm 8 1,co 9 (.len false (.t 8)),co 10 (.bin .neq (.t 7) (.t 9))]) (.cond (.t 10) (.seq (.seq (.ops [15] [cm 11 0,co 12 (.len false (.t 11)),cm 13 1,co 14 (.len false (.t 13)),co 15 (.bin .lss (.t 12) (.t 14))]) (.cond (.t 15) (.seq (.ops [4] [co 4 (.mv (.c (.v (.int .i64 (-1)))))]) (.ret)) (.skip))) (.seq (.ops [4] [co 4 (.mv (.c (.v (.int .i64 1))))]) (.ret))) (.skip))) s h) fun s h=>bX (bX (am R (aO false) (.ops [0,1,5] [cm 16 0,co 17 (.len false (.t 16)),co 18 (.bin .sub (.t 17) (.c (.v (.int .i64 1)))),cm 5 18]) s h) fun s h=>aB 0 [] (am R (aO false) (.loop [0,1,5] [] dv) s h)) (am R (aO false) (.seq (.ops [4] [co 4 (.mv (.c (.v (.int .i64 0))))]) (.ret))))=_
  simp only [hX]
  generalize hT:am R (aO false) (.seq (.ops [4] [co 4 (.mv (.c (.v (.int .i64 0))))]) (.ret))=T at hL2 ⊢
  simp only [go_sem,e1,e3]
  exact hL2 _ _ rfl rfl rfl
 ·have e1:((a.length:Int)=(b.length:Int))=False:=ff (by omega)
  obtain ⟨ca,cb⟩:=hc.resolve_left hl
  by_cases hlt:a.length < b.length
  ·have e2:((a.length:Int) < (b.length:Int))=True:=tt (by omega)
   have e3:bK (ac a) (ac b)=-1:=by
    have:=oI (x:=ac a) (y:=ac b) (by rw [sB ha ca,sB hb cb]; exact hlt)
    unfold bK
    rw [if_pos this]
   rw [e3]
   simp only [oe,mo,go_sem,e1,e2]
  ·have e2:((a.length:Int) < (b.length:Int))=False:=ff (by omega)
   have e3:bK (ac a) (ac b)=1:=by
    have:=oI (x:=ac b) (y:=ac a) (by rw [sB ha ca,sB hb cb]; omega)
    unfold bK
    rw [if_neg (by omega),if_pos this]
   rw [e3]
   simp only [oe,mo,go_sem,e1,e2]
end Go.Ab
namespace Go.Ab
open Go Go.IntWalk
set_option maxRecDepth 4000
set_option maxHeartbeats 1000000
end Go.Ab
namespace Go.Ab
open Go Go.IntWalk
set_option maxRecDepth 4000
set_option maxHeartbeats 1000000
end Go.Ab
namespace Go.Ab
open Go Go.IntWalk
set_option maxRecDepth 4000
set_option maxHeartbeats 1000000
end Go.Ab
namespace Go.Ab
open Go Go.IntWalk
set_option maxRecDepth 4000
set_option maxHeartbeats 1000000
theorem xz {d:Rd} (ok:Ok0 d):R F.r02_Valid [ae d] []=some (B (vd d),[]):=by
 refine aE TB TA (JI false) rfl ?_
 unfold vd
 have hl:=ok.len
 by_cases a0:d.m.length=0
 ·rw [if_pos a0]
  have e1:((d.m.length:Int)=0)=True:=tt (by omega)
  cases hn:d.neg with
  | true=>simp only [dW,fE,ae,aj,hn,go_sem,auA,auz,e1,Bool.not_true,Bool.false_and]
  | false=>simp only [dW,fE,ae,aj,hn,go_sem,auA,auz,e1,Bool.not_false,Bool.true_and]
 rw [if_neg a0]
 have e1:((d.m.length:Int)=0)=False:=ff (by omega)
 by_cases a1:¬ d.m.length≤256
 ·have e2:(256 < (d.m.length:Int))=True:=tt (by omega)
  rw [decide_eq_false a1,Bool.false_and]
  simp only [dW,fE,ae,aj,go_sem,auA,auz,e1,e2]
 replace a1:=Decidable.not_not.1 a1
 have e2:(256 < (d.m.length:Int))=False:=ff (by omega)
 have e3:bu (aQ d.m) 0=some (.ipt [U (d.m.getD 0 0:Nat)]):=bF rfl (by omega)
 have e6:IntKind.i64.wrap ((d.m.length:Int) - 1)=((d.m.length - 1:Nat):Int):=wi (by omega) (by omega)
 have e7:bu (aQ d.m) ((d.m.length - 1:Nat):Int)=some (.ipt [U (d.m.getD (d.m.length - 1) 0:Nat)]):=bF rfl (by omega)
 have hx:=cA ok.lb 0
 rw [decide_eq_true a1,Bool.true_and]
 by_cases a3:d.m.getD (d.m.length - 1) 0=0
 ·have e8:((d.m.getD (d.m.length - 1) 0:Int)=0)=True:=tt (by omega)
  rw [decide_eq_false (p:=d.m.getD (d.m.length - 1) 0 ≠ 0) (fun h=>h a3),Bool.false_and,Bool.and_false]
  simp only [dW,fE,ae,aj,go_sem,auA,auz,e1,e2,e6,e7,e8]
 have e8:((d.m.getD (d.m.length - 1) 0:Int)=0)=False:=ff (by omega)
 rw [decide_eq_true (p:=d.m.getD (d.m.length - 1) 0 ≠ 0) a3,Bool.true_and]
 have e4:=Rz (n:=d.m.getD 0 0) rfl hx
 by_cases a2:¬ d.m.getD 0 0 % 2=1
 ·have e5:(((d.m.getD 0 0 % 2:Nat):Int)=0)=True:=tt (by omega)
  rw [decide_eq_false a2,Bool.false_and]
  simp only [dW,fE,ae,aj,go_sem,auA,auz,e1,e2,e3,e4,e5,e6,e7,e8]
 replace a2:=Decidable.not_not.1 a2
 have e5:(((d.m.getD 0 0 % 2:Nat):Int)=0)=False:=ff (by omega)
 rw [decide_eq_true a2,Bool.true_and]
 have hv:ac d.m ≠ 0:=BU (Or.inr a3) (fun h=>a0 (by rw [h]; rfl))
 have hbp:=fj hv
 unfold oR
 rw [decide_eq_false (p:=ai (ac d.m)=0) (by omega),Bool.false_or]
 by_cases a4:d.e < -16384
 ·have f1:(d.e < -16384)=True:=tt a4
  rw [decide_eq_false (p:=-16384≤d.e) (by omega),Bool.false_and,Bool.and_false]
  simp only [dW,fE,ae,aj,go_sem,auA,auz,e1,e2,e3,e4,e5,e6,e7,e8,f1]
 have f1:(d.e < -16384)=False:=ff a4
 rw [decide_eq_true (p:=-16384≤d.e) (by omega),Bool.true_and]
 by_cases a5:16384 < d.e
 ·have f2:(16384 < d.e)=True:=tt a5
  rw [decide_eq_false (p:=d.e≤16384) (by omega),Bool.false_and,Bool.and_false]
  simp only [dW,fE,ae,aj,go_sem,auA,auz,e1,e2,e3,e4,e5,e6,e7,e8,f1,f2]
 have f2:(16384 < d.e)=False:=ff a5
 rw [decide_eq_true (p:=d.e≤16384) (by omega),Bool.true_and]
 have hb:=RA ok.lb (by omega) (Or.inr a3)
 have hbl:=Af ok.lb
 have w1:IntKind.i64.wrap (((ai (ac d.m):Nat):Int)+d.e)=((ai (ac d.m):Nat):Int)+d.e:=i64_in _ ⟨by omega,by omega⟩
 by_cases a6:ai (ac d.m)≤4096
 ·have f3:(((ai (ac d.m):Nat):Int)≤4096)=True:=tt (by omega)
  rw [decide_eq_true a6,Bool.true_and]
  simp only [dW,fE,ae,aj,go_sem,auA,auz,e1,e2,e3,e4,e5,e6,e7,e8,f1,f2,hb,f3,w1]
 ·have f3:(((ai (ac d.m):Nat):Int)≤4096)=False:=ff (by omega)
  rw [decide_eq_false a6,Bool.false_and]
  simp only [dW,fE,ae,aj,go_sem,auA,auz,e1,e2,e3,e4,e5,e6,e7,e8,f1,f2,hb,f3]
theorem RF {neg:Bool} {m:List Nat} {e:Int} (hb:Lb m) (h1:m.length≤9000) (he:-1000000≤e∧e≤1000000):R F.r02_Of [B neg,lm m,I e] []=some (ae (bD neg (ac m) e),[]):=by
 refine aE acB acA (TN false) rfl ?_
 have ht:=wP hb (by omega)
 have la:=dK m hb
 obtain ⟨M,hM⟩:∃ M,ac m=M:=⟨_,rfl⟩
 rw [hM] at ht la ⊢
 by_cases h0:M=0
 ·have e1:(((aq M).length:Int)=0)=True:=tt (by rw [h0,eE]; rfl)
  rw [h0,gP]
  rw [h0] at ht e1
  simp only [xq,EY,ae,aj,aX,go_sem,auA,auz,auB,ht,e1]
 ·have e1:(((aq M).length:Int)=0)=False:=ff (fun h=>h0 (jG.1 (List.length_eq_zero_iff.1 (by omega))))
  have hz:=aaj (bo M) (by omega) (by rw [aW]; exact h0)
  rw [aW] at hz
  have htz:tz M < 32*(aq M).length:=by
   refine Oz h0 ?_
   have:=dI (bo M)
   rw [aW] at this
   rw [Nat.pow_mul]
   exact this
  have hr:=aam (bo M) (n:=tz M) (by omega) (by omega)
  rw [aW] at hr
  have w1:IntKind.i64.wrap (e+((tz M:Nat):Int))=e+((tz M:Nat):Int):=i64_in _ ⟨by omega,by omega⟩
  rw [ki h0]
  simp only [xq,EY,ae,aj,go_sem,auA,auz,auB,ht,e1,hz,hr,w1]
def XH (d:Rd):Rd:=⟨!d.neg && decide (0 < d.m.length),d.m,d.e⟩
theorem agE {d:Rd}:R F.r02_Neg [ae d] []=some (ae (XH d),[]):=by
 refine aE ZC ZB (QC false) rfl ?_
 unfold XH
 cases hn:d.neg with
 | true=>simp only [uT,BM,ae,aj,go_sem,auA,auz,auB,hn,Bool.not_true,Bool.false_and]
 | false =>
  have e:decide (0 < (d.m.length:Int))=decide (0 < d.m.length):=by rw [decide_eq_decide]; omega
  simp only [uT,BM,ae,aj,go_sem,auA,auz,auB,hn,Bool.not_false,Bool.true_and,e]
theorem agF {d:Rd} (h:vd d=true):XH d=fR d:=by
 unfold XH fR
 by_cases h0:d.m.length=0
 ·rw [if_pos (Or.inr h0),decide_eq_false (by omega),Bool.and_false]
  have:=oK h h0
  subst this
  rfl
 ·rw [if_neg (fun h2=>h2.elim (fun h3=>by rw [h] at h3; exact Bool.false_ne_true h3.symm) h0),decide_eq_true (by omega),Bool.and_true]
theorem U8 {d:Rd} (h:vd d=true):zI (fR d)=-zI d∧vd (fR d)=true:=by
 unfold fR
 by_cases h0:d.m.length=0
 ·rw [if_pos (Or.inr h0),gC h0]
  exact ⟨by rw [gC rfl]; rfl,rfl⟩
 ·rw [if_neg (fun h2=>h2.elim (fun h3=>by rw [h] at h3; exact Bool.false_ne_true h3.symm) h0)]
  constructor
  ·unfold zI mg
   cases d.neg <;> simp
  ·unfold vd at h ⊢
   rw [if_neg h0] at h ⊢
   exact h
theorem GC {d:Rd}:R F.r02_Sign [ae d] []=some (I (cu d),[]):=by
 refine aE W8 W7 (Nl false) rfl ?_
 unfold cu
 by_cases h0:d.m.length=0
 ·have e1:((d.m.length:Int)=0)=True:=tt (by omega)
  rw [if_pos h0]
  simp only [py,uR,ae,aj,go_sem,auA,auz,e1]
 ·have e1:((d.m.length:Int)=0)=False:=ff (by omega)
  rw [if_neg h0]
  cases hn:d.neg with
  | true =>
   rw [if_pos rfl]
   simp only [py,uR,ae,aj,go_sem,auA,auz,e1,hn]
  | false =>
   rw [if_neg Bool.false_ne_true]
   simp only [py,uR,ae,aj,go_sem,auA,auz,e1,hn]
theorem RG {d:Rd} (h:vd d=true):s9 d.m:=by
 by_cases h0:d.m.length=0
 ·exact Or.inl (List.length_eq_zero_iff.1 h0)
 ·exact Or.inr (wI h h0).2.2.1
theorem U9 {d:Rd} (ok:Ok0 d) (h:vd d=true):R F.r02_Top [ae d] []=some (I (aJ d),[]):=by
 refine aE Zw Zv (QA false) rfl ?_
 by_cases h0:d.m.length=0
 ·have e1:((d.m.length:Int)=0)=True:=tt (by omega)
  rw [aJ,if_pos (Or.inr h0)]
  simp only [uS,BL,ae,aj,go_sem,auA,auz,e1]
 ·have e1:((d.m.length:Int)=0)=False:=ff (by omega)
  obtain ⟨h1,h2,h3,h4⟩:=dE h ok.lb
  rw [fk h h0]
  have hb:=RA ok.lb (by omega) (RG h)
  have w1:IntKind.i64.wrap (((ai (ac d.m):Nat):Int)+d.e)=((ai (ac d.m):Nat):Int)+d.e:=i64_in _ ⟨by omega,by omega⟩
  simp only [uS,BL,ae,aj,go_sem,auA,auz,auB,auC,auD,e1,hb,w1]
def dF (z f:Int):Rd:=bD (decide (z < 0)) z.natAbs f
theorem vI {neg:Bool} {n:Nat} {f:Int}:bD neg n f=dF (bw neg n) f:=by
 unfold dF
 by_cases h0:n=0
 ·subst h0
  rw [gP]
  cases neg <;> exact gP.symm
 ·cases neg with
  | false =>
   rw [cL,Int.natAbs_natCast,decide_eq_false (by omega)]
  | true =>
   rw [cK,Int.natAbs_neg,Int.natAbs_natCast,decide_eq_true (by omega)]
theorem aar {n:Nat} (h:n % 2=1) (k:Nat):tz (n*2 ^ k)=k:=by
 rw [Nat.mul_comm,HE k (by omega),yG h,Nat.add_zero]
theorem y6 {d:Rd} (ok:Ok0 d) (h:vd d=true):dF (zI d) (-16384)=d:=by
 by_cases h0:d.m.length=0
 ·rw [gC h0]
  have:=oK h h0
  subst this
  exact gP
 ·obtain ⟨h1,h2,h3,h4⟩:=wI h h0
  obtain ⟨g1,g2,g3,g4⟩:=dE h ok.lb
  have hz:zI d=bw d.neg (mg d):=by
   unfold zI bw
   rfl
  rw [hz,← vI]
  unfold mg
  rw [lY,ki (cE h h0)]
  have ho:ac d.m % 2=1:=by
   have:=eY d.m 0
   rw [List.drop_zero] at this
   omega
  rw [yG ho,Nat.pow_zero,Nat.div_one,sB ok.lb (RG h)]
  obtain ⟨n,m,e⟩:=d
  show (⟨n,m,-16384+(((e+16384).toNat:Nat):Int)+((0:Nat):Int)⟩:Rd)=_
  rw [show -16384+(((e+16384).toNat:Nat):Int)+((0:Nat):Int)=e by have:-16384≤e:=g2; omega]
theorem rH {x y:Nat} (h:x≤y):(aq x).length≤(aq y).length:=Nat.not_lt.1 fun h2=>by
 have:=oI h2
 omega
theorem agG {a b:Rd} (oa:Ok0 a) (ob:Ok0 b) (va:vd a=true) (vb:vd b=true):R F.r02_Sum [ae a,ae b] []=some (ae (dF (zI a+zI b) (-16384)),[]):=by
 refine aE Zz Zy (QB false) rfl ?_
 by_cases a0:a.m.length=0
 ·have e1:((a.m.length:Int)=0)=True:=tt (by omega)
  rw [gC a0,Int.zero_add,y6 ob vb]
  simp only [lO,qq,ae,aj,go_sem,auA,auz,auB,e1]
 have e1:((a.m.length:Int)=0)=False:=ff (by omega)
 by_cases b0:b.m.length=0
 ·have e2:((b.m.length:Int)=0)=True:=tt (by omega)
  rw [gC b0,Int.add_zero,y6 oa va]
  simp only [lO,qq,ae,aj,go_sem,auA,auz,auB,e1,e2]
 have e2:((b.m.length:Int)=0)=False:=ff (by omega)
 obtain ⟨a1,a2,a3,a4⟩:=dE va oa.lb
 obtain ⟨b1,b2,b3,b4⟩:=dE vb ob.lb
 obtain ⟨e,he⟩:∃ e,(if b.e < a.e then b.e else a.e)=e:=⟨_,rfl⟩
 have he1:-16384≤e∧e≤a.e∧e≤b.e:=by
  split at he <;> omega
 have w1:IntKind.i64.wrap (a.e - e)=(((a.e - e).toNat:Nat):Int):=wi (by omega) (by omega)
 have w2:IntKind.i64.wrap (b.e - e)=(((b.e - e).toNat:Nat):Int):=wi (by omega) (by omega)
 have l1:=RE oa.lb (n:=(a.e - e).toNat) (by omega) (by omega)
 have l2:=RE ob.lb (n:=(b.e - e).toNat) (by omega) (by omega)
 have z1:zI a=bw a.neg (ac a.m*2 ^ (a.e - e).toNat*2 ^ (e+16384).toNat):=by
  rw [show zI a=bw a.neg (mg a) from rfl,nM he1.1 he1.2.1]
 have z2:zI b=bw b.neg (ac b.m*2 ^ (b.e - e).toNat*2 ^ (e+16384).toNat):=by
  rw [show zI b=bw b.neg (mg b) from rfl,nM he1.1 he1.2.2]
 have bx:ai (ac a.m*2 ^ (a.e - e).toNat)≤36864:=by
  rw [dw _ (cE va a0)]
  omega
 have by':ai (ac b.m*2 ^ (b.e - e).toNat)≤36864:=by
  rw [dw _ (cE vb b0)]
  omega
 rw [z1,z2]
 generalize ac a.m*2 ^ (a.e - e).toNat=x at l1 bx ⊢
 generalize ac b.m*2 ^ (b.e - e).toNat=y at l2 by' ⊢
 have lx:(aq x).length≤1152:=aV (by omega)
 have ly:(aq y).length≤1152:=aV (by omega)
 have hsum:∀ (n:Bool) (z:Nat),bD n z e=dF (bw n (z*2 ^ (e+16384).toNat)) (-16384):=fun n z=>by
  rw [← vI,lY,show -16384+(((e+16384).toNat:Nat):Int)=e by omega]
 have hcp:=EM (bo x) (bo y) (by omega) (by omega) (Or.inr ⟨BV x,BV y⟩)
 rw [aW,aW] at hcp
 by_cases hs:a.neg=b.neg
 ·have p1:=ads (bo x) (bo y) (by omega) (by omega)
  rw [aW,aW] at p1
  have bz:ai (x+y)≤36865:=wM bx by'
  have o1:=RF (neg:=a.neg) (m:=aq (x+y)) (e:=e) (bo _) (Nat.le_trans (aV (k:=1153) (by omega)) (by decide)) ⟨by omega,by omega⟩
  rw [aW,hsum] at o1
  have hz:bw a.neg (x*2 ^ (e+16384).toNat)+bw b.neg (y*2 ^ (e+16384).toNat)=bw a.neg ((x+y)*2 ^ (e+16384).toNat):=by
   rw [← hs,Nat.add_mul]
   cases a.neg
   ·rw [cL,cL,cL]
    omega
   ·rw [cK,cK,cK]
    omega
  rw [hz]
  generalize dF (bw a.neg ((x+y)*2 ^ (e+16384).toNat)) (-16384)=r at o1 ⊢
  have hs2:(a.neg == b.neg)=true:=by rw [hs]; exact beq_self_eq_true _
  have hs3:(false != (a.neg == b.neg))=true:=by rw [hs2]; rfl
  simp only [ae,aj] at o1
  simp only [lO,qq,ae,aj,go_sem,auA,auz,auB,auC,auD,e1,e2,he,w1,w2,l1,l2,hs3,p1,o1]
 ·have hs2:(a.neg == b.neg)=false:=by
   cases ha:a.neg <;> cases hb:b.neg <;> first | rfl | (rw [ha,hb] at hs; exact absurd rfl hs)
  have hs3:(false != (a.neg == b.neg))=false:=by rw [hs2]; rfl
  have hbn:b.neg=!a.neg:=by
   cases ha:a.neg <;> cases hb:b.neg <;> first | rfl | (rw [ha,hb] at hs; exact absurd rfl hs)
  by_cases hlt:x < y
  ·have e5:(0≤bK x y)=False:=ff (by unfold bK; rw [if_pos hlt]; decide)
   have m1:=Mm (bo y) (bo x) (by omega) (rH (by omega)) (by rw [aW,aW]; omega)
   rw [aW,aW] at m1
   have o1:=RF (neg:=b.neg) (m:=aq (y - x)) (e:=e) (bo _) (Nat.le_trans (rH (Nat.sub_le _ _)) (by omega)) ⟨by omega,by omega⟩
   rw [aW,hsum] at o1
   have hmul:x*2 ^ (e+16384).toNat≤y*2 ^ (e+16384).toNat:=Nat.mul_le_mul_right _ (by omega)
   have hz:bw a.neg (x*2 ^ (e+16384).toNat)+bw b.neg (y*2 ^ (e+16384).toNat)=bw b.neg ((y - x)*2 ^ (e+16384).toNat):=by
    rw [hbn,Nat.sub_mul]
    cases a.neg
    ·rw [Bool.not_false,cL,cK,cK]
     omega
    ·rw [Bool.not_true,cL,cK,cL]
     omega
   rw [hz]
   generalize dF (bw b.neg ((y - x)*2 ^ (e+16384).toNat)) (-16384)=r at o1 ⊢
   simp only [ae,aj] at o1
   simp only [lO,qq,ae,aj,go_sem,auA,auz,auB,auC,auD,e1,e2,he,w1,w2,l1,l2,hs3,hcp,e5,m1,o1]
  ·have e5:(0≤bK x y)=True:=tt (by unfold bK; rw [if_neg hlt]; split <;> decide)
   have m1:=Mm (bo x) (bo y) (by omega) (rH (by omega)) (by rw [aW,aW]; omega)
   rw [aW,aW] at m1
   have o1:=RF (neg:=a.neg) (m:=aq (x - y)) (e:=e) (bo _) (Nat.le_trans (rH (Nat.sub_le _ _)) (by omega)) ⟨by omega,by omega⟩
   rw [aW,hsum] at o1
   have hmul:y*2 ^ (e+16384).toNat≤x*2 ^ (e+16384).toNat:=Nat.mul_le_mul_right _ (by omega)
   have hz:bw a.neg (x*2 ^ (e+16384).toNat)+bw b.neg (y*2 ^ (e+16384).toNat)=bw a.neg ((x - y)*2 ^ (e+16384).toNat):=by
    rw [hbn,Nat.sub_mul]
    cases a.neg
    ·rw [Bool.not_false,cL,cK,cL]
     omega
    ·rw [Bool.not_true,cL,cK,cK]
     omega
   rw [hz]
   generalize dF (bw a.neg ((x - y)*2 ^ (e+16384).toNat)) (-16384)=r at o1 ⊢
   simp only [ae,aj] at o1
   simp only [lO,qq,ae,aj,go_sem,auA,auz,auB,auC,auD,e1,e2,he,w1,w2,l1,l2,hs3,hcp,e5,m1,o1]
end Go.Ab
namespace Go.Ab
open Go Go.IntWalk
set_option maxRecDepth 4000
set_option maxHeartbeats 1000000
theorem apn:(true == true)=true:=rfl
theorem apo:(true == false)=false:=rfl
theorem apq:(false == true)=false:=rfl
theorem apr:(false == false)=true:=rfl
theorem aje:(false != true)=true:=rfl
theorem ajf:(false != false)=false:=rfl
theorem adt (z f:Int):cu (dF z f)=if z < 0 then -1 else if 0 < z then 1 else 0:=by
 unfold dF
 by_cases h0:z=0
 ·subst h0
  show cu (bD _ 0 _)=_
  rw [gP]
  rfl
 ·have hn:z.natAbs ≠ 0:=by omega
  rw [ki hn]
  obtain ⟨h1,h2⟩:=sC hn
  have hl:(aq (z.natAbs / 2 ^ tz z.natAbs)).length ≠ 0:=fun h=>by
   have:=jG.1 (List.length_eq_zero_iff.1 h)
   omega
  unfold cu
  show (if (aq (z.natAbs / 2 ^ tz z.natAbs)).length=0 then (0:Int) else if decide (z < 0)=true then -1 else 1)=_
  rw [if_neg hl]
  by_cases h3:z < 0
  ·rw [decide_eq_true h3,if_pos rfl,if_pos h3]
  ·rw [decide_eq_false h3,if_neg Bool.false_ne_true,if_neg h3,if_pos (by omega)]
theorem aas {a b:Rd} (oa:Ok0 a) (ob:Ok0 b) (va:vd a=true) (vb:vd b=true) (na:a.m.length ≠ 0) (nb:b.m.length ≠ 0) (h:aJ a < aJ b):mg a < mg b:=by
 have h1:=Dj va oa.lb na
 have h2:=Dj vb ob.lb nb
 exact Aa (by omega)
theorem K5 {a b:Rd} (oa:Ok0 a) (ob:Ok0 b) (va:vd a=true) (vb:vd b=true):R F.r02_Cmp [ae a,ae b] []=some (I (bR (zI a) (zI b)),[]):=by
 refine aE Zn Zm (Qe false) rfl ?_
 have s1:=GC (d:=a)
 have s2:=GC (d:=b)
 have t1:=U9 oa va
 have t2:=U9 ob vb
 have n1:=agE (d:=b)
 rw [agF vb] at n1
 obtain ⟨hz,hvn⟩:=U8 vb
 have u1:=agG oa (yY ob) va hvn
 rw [hz] at u1
 have u2:=GC (d:=dF (zI a+-zI b) (-16384))
 rw [adt] at u2
 have hca:=Ac a va
 have hcb:=Ac b vb
 generalize dF (zI a+-zI b) (-16384)=sm at u1 u2
 generalize fR b=nb at n1 u1
 simp only [ae,aj] at s1 s2 t1 t2 n1 u1 u2
 by_cases hs:cu a=cu b
 ·have e1:(cu a=cu b)=True:=tt hs
  by_cases h0:cu a=0
  ·have e2:(cu a=0)=True:=tt h0
   have hr:bR (zI a) (zI b)=0:=by
    have:zI a=0:=by omega
    have:zI b=0:=by omega
    unfold bR
    rw [if_neg (by omega),if_neg (by omega)]
   rw [hr]
   simp only [gH,jV,ae,aj,go_sem,auA,auz,auB,auC,auD,s1,s2,e1,e2]
   try simp only [hs,h0,go_sem,auA,auz,auI,auB,auC,auE,auG,auH,auF,auD,auJ]
  ·have e2:(cu a=0)=False:=ff h0
   have na:a.m.length ≠ 0:=by omega
   have nb':b.m.length ≠ 0:=by omega
   by_cases ht:aJ a=aJ b
   ·have e3:(aJ a=aJ b)=True:=tt ht
    have hr:bR (zI a) (zI b)=if zI a+-zI b < 0 then -1 else if 0 < zI a+-zI b then 1 else 0:=by
     unfold bR
     repeat' split
     all_goals omega
    rw [hr]
    generalize (if zI a+-zI b < 0 then (-1:Int) else if 0 < zI a+-zI b then 1 else 0)=c at u2 ⊢
    simp only [gH,jV,ae,aj,go_sem,auA,auz,auB,auC,auD,s1,s2,t1,t2,e1,e2,e3,n1,u1,u2]
   ·have e3:(aJ a=aJ b)=False:=ff ht
    by_cases hlt:aJ a < aJ b
    ·have e4:(aJ a < aJ b)=True:=tt hlt
     have hm:=aas oa ob va vb na nb' hlt
     by_cases hp:0 < cu a
     ·have e5:(0 < cu a)=True:=tt hp
      have hr:bR (zI a) (zI b)=-1:=by
       unfold bR
       rw [if_pos (by omega)]
      rw [hr]
      simp only [gH,jV,ae,aj,go_sem,auA,auz,auB,auC,auD,s1,s2,t1,t2,e1,e2,e3,e4,e5,decide_true,apn,aje]
     ·have e5:(0 < cu a)=False:=ff hp
      have hr:bR (zI a) (zI b)=1:=by
       unfold bR
       rw [if_neg (by omega),if_pos (by omega)]
      rw [hr]
      simp only [gH,jV,ae,aj,go_sem,auA,auz,auB,auC,auD,s1,s2,t1,t2,e1,e2,e3,e4,e5,decide_true,decide_false,apo,ajf]
    ·have e4:(aJ a < aJ b)=False:=ff hlt
     have hm:=aas ob oa vb va nb' na (by omega)
     by_cases hp:0 < cu a
     ·have e5:(0 < cu a)=True:=tt hp
      have hr:bR (zI a) (zI b)=1:=by
       unfold bR
       rw [if_neg (by omega),if_pos (by omega)]
      rw [hr]
      simp only [gH,jV,ae,aj,go_sem,auA,auz,auB,auC,auD,s1,s2,t1,t2,e1,e2,e3,e4,e5,decide_true,decide_false,apq,ajf]
     ·have e5:(0 < cu a)=False:=ff hp
      have hr:bR (zI a) (zI b)=-1:=by
       unfold bR
       rw [if_pos (by omega)]
      rw [hr]
      simp only [gH,jV,ae,aj,go_sem,auA,auz,auB,auC,auD,s1,s2,t1,t2,e1,e2,e3,e4,e5,decide_true,decide_false,apr,aje]
 ·have e1:(cu a=cu b)=False:=ff hs
  by_cases hlt:cu a < cu b
  ·have e2:(cu a < cu b)=True:=tt hlt
   have hr:bR (zI a) (zI b)=-1:=by
    unfold bR
    rw [if_pos (by omega)]
   rw [hr]
   simp only [gH,jV,ae,aj,go_sem,auA,auz,auB,auC,auD,s1,s2,e1,e2]
  ·have e2:(cu a < cu b)=False:=ff hlt
   have hr:bR (zI a) (zI b)=1:=by
    unfold bR
    rw [if_neg (by omega),if_pos (by omega)]
   rw [hr]
   simp only [gH,jV,ae,aj,go_sem,auA,auz,auB,auC,auD,s1,s2,e1,e2]
theorem Mn {d:Rd} (hb:Lb d.m) (hl:d.m.length≤100000):R F.r02_Equal [ae d,ae d] []=some (B true,[]):=by
 refine aE TK TJ (J4 false) rfl ?_
 have hc:=EM hb hb hl hl (Or.inl rfl)
 have e1:bK (ac d.m) (ac d.m)=0:=by
  unfold bK
  rw [if_neg (Nat.lt_irrefl _),if_neg (Nat.lt_irrefl _)]
 rw [e1] at hc
 have e2:(false != (d.neg == d.neg))=true:=by rw [beq_self_eq_true]; rfl
 simp only [wg,EB,ae,aj,go_sem,auA,auz,e2,hc]
end Go.Ab
namespace Go.Ab
open Go Go.IntWalk
set_option maxRecDepth 4000
set_option maxHeartbeats 1000000
theorem aat {a b:Rd} (oa:Ok0 a) (ob:Ok0 b) (va:vd a=true) (vb:vd b=true):bD (a.neg != b.neg) (ac a.m*ac b.m) (a.e+b.e)=dF (zI a*zI b) (-32768):=by
 obtain ⟨a1,a2,a3,a4⟩:=dE va oa.lb
 obtain ⟨b1,b2,b3,b4⟩:=dE vb ob.lb
 have hz:zI a*zI b=bw (a.neg != b.neg) (mg a*mg b):=by
  unfold zI bw
  cases a.neg <;> cases b.neg <;> simp [Int.mul_neg,Int.neg_mul]
 have hm:mg a*mg b=ac a.m*ac b.m*2 ^ ((a.e+16384).toNat+(b.e+16384).toNat):=by
  unfold mg
  rw [Nat.pow_add]
  ac_rfl
 rw [hz,← vI,hm,lY,show -32768+(((a.e+16384).toNat+(b.e+16384).toNat:Nat):Int)=a.e+b.e by omega]
end Go.Ab
namespace Go.Ab
open Go Go.IntWalk
set_option maxRecDepth 4000
set_option maxHeartbeats 2000000
theorem Va {a b:Rd} {p:Int} {up:Bool}:vd (gB a b p up).1=true:=by
 unfold gB
 split
 ·exact Ct.1
 ·exact bq.1
theorem Vb {d:Rd} {p:Int} {up:Bool}:vd (fS d p up).1=true:=by
 unfold fS
 split
 ·exact Ct.1
 ·exact bq.1
theorem RH {d:Rd}:R F.r05_zero [ae d] []=some (B (z0 d),[]):=by
 refine aE WO WN (MY false) rfl ?_
 unfold z0
 cases hn:d.neg with
 | true=>simp only [mD,qW,ae,aj,go_sem,auA,auz,hn,Bool.not_true,Bool.false_and]
 | false =>
  by_cases h1:d.m.length=0
  ·have e1:((d.m.length:Int)=0)=True:=tt (by omega)
   by_cases h2:d.e=0
   ·have e2:(d.e=0)=True:=tt h2
    rw [decide_eq_true h1,decide_eq_true h2]
    simp only [mD,qW,ae,aj,go_sem,auA,auz,hn,e1,e2,Bool.not_false,Bool.true_and]
   ·have e2:(d.e=0)=False:=ff h2
    rw [decide_eq_true h1,decide_eq_false h2]
    simp only [mD,qW,ae,aj,go_sem,auA,auz,hn,e1,e2,Bool.not_false,Bool.true_and]
  ·have e1:((d.m.length:Int)=0)=False:=ff (by omega)
   rw [decide_eq_false h1]
   simp only [mD,qW,ae,aj,go_sem,auA,auz,hn,e1,Bool.not_false,Bool.true_and,Bool.false_and]
theorem CB {x:Ri} (ok:OkI x):R F.r05_Valid [aC x] []=some (B (vi x),[]):=by
 refine aE Tv Tu (JG false) rfl ?_
 unfold vi
 have zl:=RH (d:=x.lo)
 have zh:=RH (d:=x.hi)
 have vl:=xz ok.lo
 have vh:=xz ok.hi
 simp only [ae,aj] at zl zh vl vh
 cases ha:x.all with
 | true =>
  rw [if_pos rfl]
  cases h1:z0 x.lo with
  | true =>
   rw [h1] at zl
   simp only [ja,mB,aC,aK,go_sem,auA,auz,auB,ha,zl,zh,Bool.true_and]
  | false =>
   rw [h1] at zl
   simp only [ja,mB,aC,aK,go_sem,auA,auz,auB,ha,zl,Bool.false_and]
 | false =>
  rw [if_neg Bool.false_ne_true]
  cases h1:vd x.lo with
  | false =>
   rw [h1] at vl
   simp only [ja,mB,aC,aK,go_sem,auA,auz,auB,ha,vl,Bool.false_and]
  | true =>
   rw [h1] at vl
   cases h2:vd x.hi with
   | false =>
    rw [h2] at vh
    simp only [ja,mB,aC,aK,go_sem,auA,auz,auB,ha,vl,vh,Bool.true_and,Bool.false_and]
   | true =>
    rw [h2] at vh
    have hc:=K5 ok.lo ok.hi h1 h2
    simp only [ae,aj] at hc
    simp only [ja,mB,aC,aK,go_sem,auA,auz,auB,ha,vl,vh,hc,qy,Bool.true_and]
theorem Dr {a b:Rd} (va:vd a=true) (vb:vd b=true):fm a b=bR (zI a) (zI b):=by unfold fm; rw [if_pos ⟨va,vb⟩]
end Go.Ab
namespace Go.Ab
open Go Go.IntWalk
set_option maxRecDepth 4000
set_option maxHeartbeats 1000000
end Go.Ab
namespace Go.Ab
open Go Go.IntWalk
set_option maxRecDepth 4000
set_option maxHeartbeats 1000000
theorem pT (x y:Int):(x < y∧bR x y=-1)∨(x=y∧bR x y=0)∨(y < x∧bR x y=1):=by
 unfold bR
 rcases Int.lt_trichotomy x y with h | h | h
 ·exact Or.inl ⟨h,if_pos h⟩
 ·exact Or.inr (Or.inl ⟨h,by rw [if_neg (by omega)]; exact if_neg (by omega)⟩)
 ·exact Or.inr (Or.inr ⟨h,by rw [if_neg (by omega)]; exact if_pos h⟩)
end Go.Ab
namespace Go.Ab
open Go Go.IntWalk
set_option maxRecDepth 4000
set_option maxHeartbeats 1000000
theorem XI {a:List Int} (h2:sm a):∀ (k i:Nat),i+k=a.length→∀ (s:ag) (h:ab),s 0=.sl 1 (be a)→s 3=I (bV (a.take i))→s 4=I i →
  aB 0 [3] (aD (am R (aO false) rh) [0,3,4] [] s h)=some (.normal,⟨upd (fun _=>.any) 3 (I (bV a)),fun _=>.dead⟩):=by
 intro k
 induction k with
 | zero =>
  intro i hi s h h0 h3 h4
  have e1:((i:Int) < a.length)=False:=ff (by omega)
  rw [List.take_of_length_le (by omega)] at h3
  rw [ao]
  simp only [rh,go_sem,h0,h3,h4,e1]
 | succ k ih =>
  intro i hi s h h0 h3 h4
  have hlt:i < a.length:=by omega
  obtain ⟨g1,g2⟩:=h2
  have e1:((i:Int) < a.length)=True:=tt (by omega)
  have e2:bu (be a) (i:Int)=some (.ipt [I a[i]]):=kW rfl (List.getElem?_eq_getElem hlt)
  have e5:IntKind.i64.wrap ((i:Int)+1)=((i+1:Nat):Int):=wi (by omega) (by omega)
  have b1:=Rw (l:=a.take i) (fun x hx=>g2 x (List.mem_of_mem_take hx))
  have b2:=g2 a[i] (List.getElem_mem hlt)
  have b3:(a.take i).length≤1000:=by simp only [List.length_take]; omega
  have e6:IntKind.i64.wrap (bV (a.take i)+a[i])=bV (a.take (i+1)):=by
   rw [Gy hlt]
   exact i64_in _ ⟨by omega,by omega⟩
  have ih':=ih (i+1) (by omega)
  generalize a[i]=x at e2 e6 ⊢
  rw [ao]
  generalize aD _ _ _=L at ih' ⊢
  simp only [rh,go_sem,h0,h3,h4,e1,e2,e5,e6]
  exact ih' _ _ rfl rfl rfl
theorem RI {a:List Int} (h2:sm a):R F.r23_sum [.sl 1 (be a)] []=some (I (bV a),[]):=by
 refine aE ZF ZE (QM false) rfl ?_
 have h3:=XI h2 a.length 0 (Nat.zero_add _)
 simp only [List.take_zero,bV,Int.natCast_zero] at h3
 simp only [zM,Me,go_sem]
 rw [h3 _ _ rfl rfl rfl]
 simp only [go_sem]
theorem XJ {a b:List Int} (hl:a.length=b.length) (h2:a.length≤100000):∀ (k i:Nat),i+k=a.length→∀ (s:ag) (h:ab),s 0=.sl 1 (be a)→s 1=.sl 1 (be b)→s 7=I i →
  ∃ hh,aB 0 [] (aD (am R (aO false) gy) [0,1,7] [] s h)=if js (b.drop i) (a.drop i)=0 then some (.normal,⟨fun _=>.any,fun _=>.dead⟩) else some (.ret,⟨upd (fun _=>.any) 4 (I (js (b.drop i) (a.drop i))),hh⟩):=by
 intro k
 induction k with
 | zero =>
  intro i hi s h h0 h1 h7
  have e1:((i:Int) < a.length)=False:=ff (by omega)
  rw [List.drop_eq_nil_of_le (by omega),List.drop_eq_nil_of_le (by omega),ao]
  refine ⟨fun _=>.dead,?_⟩
  show _=if (0:Int)=0 then _ else _
  rw [if_pos rfl]
  simp only [gy,go_sem,h0,h1,h7,e1]
 | succ k ih =>
  intro i hi s h h0 h1 h7
  have hlt:i < a.length:=by omega
  have hlt2:i < b.length:=by omega
  have e1:((i:Int) < a.length)=True:=tt (by omega)
  have e2:bu (be a) (i:Int)=some (.ipt [I a[i]]):=kW rfl (List.getElem?_eq_getElem hlt)
  have e3:bu (be b) (i:Int)=some (.ipt [I b[i]]):=kW rfl (List.getElem?_eq_getElem hlt2)
  have e5:IntKind.i64.wrap ((i:Int)+1)=((i+1:Nat):Int):=wi (by omega) (by omega)
  rw [List.drop_eq_getElem_cons hlt,List.drop_eq_getElem_cons hlt2,ao]
  have ih':=ih (i+1) (by omega)
  generalize a[i]=x at e2 ⊢
  generalize b[i]=y at e3 ⊢
  generalize aD _ _ _=L at ih' ⊢
  unfold js
  rcases pT y x with ⟨g,e⟩ | ⟨g,e⟩ | ⟨g,e⟩
  ·have e6:(y < x)=True:=tt g
   simp only [e,↓reduceIte,auH,Int.reduceNeg]
   refine ⟨?hh1,?_⟩
   rotate_left
   simp only [gy,go_sem,h0,h1,h7,e1,e2,e3,e6]
   rfl
  ·have e6:(y < x)=False:=ff (by omega)
   have e7:(x < y)=False:=ff (by omega)
   simp only [e,↓reduceIte]
   simp only [gy,go_sem,h0,h1,h7,e1,e2,e3,e5,e6,e7]
   exact ih' _ _ rfl rfl rfl
  ·have e6:(y < x)=False:=ff (by omega)
   have e7:(x < y)=True:=tt (by omega)
   simp only [e,↓reduceIte,auH]
   refine ⟨?hh2,?_⟩
   rotate_left
   simp only [gy,go_sem,h0,h1,h7,e1,e2,e3,e6,e7]
   rfl
theorem RJ {a b:List Int} (ha:sm a) (hb:sm b) (hl:a.length=b.length):R F.r23_Compare [.sl 1 (be a),.sl 1 (be b)] []=some (I (ce a b),[]):=by
 refine aE M6 M5 (Fy false) rfl ?_
 have d1:=RI ha
 have d2:=RI hb
 have h3:=XJ hl (by have:=ha.1; omega) a.length 0 (Nat.zero_add _)
 simp only [List.drop_zero,Int.natCast_zero] at h3
 unfold ce
 rcases pT (bV a) (bV b) with ⟨g,e⟩ | ⟨g,e⟩ | ⟨g,e⟩
 ·have e6:(bV a < bV b)=True:=tt g
  rw [e,if_neg (by decide)]
  simp only [iQ,mj,go_sem,auA,auz,d1,d2,e6]
 ·have e6:(bV a < bV b)=False:=ff (by omega)
  have e7:(bV b < bV a)=False:=ff (by omega)
  rw [e,if_pos rfl]
  by_cases hz:js b a=0
  ·simp only [if_pos hz] at h3
   simp only [iQ,mj,go_sem,auA,auz,d1,d2,e6,e7]
   rw [(h3 _ _ rfl rfl rfl).choose_spec,hz]
   simp only [go_sem]
  ·simp only [if_neg hz] at h3
   simp only [iQ,mj,go_sem,auA,auz,d1,d2,e6,e7]
   rw [(h3 _ _ rfl rfl rfl).choose_spec]
   simp only [go_sem]
 ·have e6:(bV a < bV b)=False:=ff (by omega)
  have e7:(bV b < bV a)=True:=tt (by omega)
  rw [e,if_neg (by decide)]
  simp only [iQ,mj,go_sem,auA,auz,d1,d2,e6,e7]
theorem aau {t:Rt} (h2:t.exps.length≤1000):∀ (k i:Nat),i+k=t.exps.length→(∀ x ∈ t.exps.take i,0≤x∧x≤32)→∀ (s:ag) (h:ab),s 3=.ref 3 none 0 0 0→s 5=I (bV (t.exps.take i))→s 6=I i→h 3=.bx (cw t) →
  ∃ hh,aB 0 [5] (aD (am R (aO false) fX) [3,5,6] [3] s h)=if (t.exps.drop i).any qj=true then some (.ret,⟨upd (fun _=>.any) 4 (B false),hh⟩) else some (.normal,⟨upd (fun _=>.any) 5 (I (bV t.exps)),hh⟩):=by
 intro k
 induction k with
 | zero =>
  intro i hi hg s h h3 h5 h6 k3
  have e1:((i:Int) < t.exps.length)=False:=ff (by omega)
  rw [List.take_of_length_le (by omega)] at h5
  rw [List.drop_eq_nil_of_le (by omega),ao]
  simp only [cw] at k3
  refine ⟨?hh,?_⟩
  rotate_left
  show _=if false=true then _ else _
  rw [if_neg Bool.false_ne_true]
  simp only [fX,go_sem,auA,auz,auD,h3,h5,h6,k3,e1]
  rfl
 | succ k ih =>
  intro i hi hg s h h3 h5 h6 k3
  have hlt:i < t.exps.length:=by omega
  have e1:((i:Int) < t.exps.length)=True:=tt (by omega)
  have e2:bu (be t.exps) (i:Int)=some (.ipt [I t.exps[i]]):=kW rfl (List.getElem?_eq_getElem hlt)
  have e5:IntKind.i64.wrap ((i:Int)+1)=((i+1:Nat):Int):=wi (by omega) (by omega)
  have b1:=Rw hg
  have b3:(t.exps.take i).length≤1000:=by simp only [List.length_take]; omega
  have ih':=ih (i+1) (by omega)
  have htk:t.exps.take (i+1)=t.exps.take i++[t.exps[i]]:=by rw [List.take_add_one,List.getElem?_eq_getElem hlt]; rfl
  have hst:=Gy hlt
  rw [List.drop_eq_getElem_cons hlt,List.any_cons,ao]
  simp only [cw] at k3
  rw [hst] at ih'
  rw [htk] at ih'
  generalize t.exps[i]=x at e2 ih' ⊢
  generalize aD _ _ _=L at ih' ⊢
  unfold qj at ih' ⊢
  by_cases g1:x < 0
  ·have e6:(x < 0)=True:=tt g1
   simp only [decide_eq_true g1,Bool.true_or]
   refine ⟨?hh1,?_⟩
   rotate_left
   rw [if_pos trivial]
   simp only [fX,go_sem,auA,auz,auD,h3,h5,h6,k3,e1,e2,e6]
   rfl
  ·have e6:(x < 0)=False:=ff g1
   by_cases g2:32 < x
   ·have e7:(32 < x)=True:=tt g2
    simp only [decide_eq_false g1,decide_eq_true g2,Bool.false_or,Bool.true_or]
    refine ⟨?hh2,?_⟩
    rotate_left
    rw [if_pos trivial]
    simp only [fX,go_sem,auA,auz,auD,h3,h5,h6,k3,e1,e2,e6,e7]
    rfl
   ·have e7:(32 < x)=False:=ff g2
    simp only [decide_eq_false g1,decide_eq_false g2,Bool.false_or]
    have e8:IntKind.i64.wrap (bV (t.exps.take i)+x)=bV (t.exps.take i)+x:=i64_in _ ⟨by omega,by omega⟩
    simp only [fX,go_sem,auA,auz,auD,h3,h5,h6,k3,e1,e2,e5,e6,e7,e8]
    exact ih' (fun y hy=>by
     rcases List.mem_append.1 hy with h | h
     ·exact hg y h
     ·rw [List.mem_singleton.1 h]
      omega) _ _ rfl rfl rfl rfl
theorem aav {v:Int} {t:Rt} (ok:OkT t) (hv:v≤1000):R F.r23_term [I v,.agg (cw t)] []=some (B (y5 v t),[]):=by
 refine aE WY WX (M4 false) rfl ?_
 have hvd:=xz ok.c
 simp only [ae,aj] at hvd
 unfold y5
 by_cases c1:(t.exps.length:Int)=v
 ·have f1:((t.exps.length:Int)=v)=True:=tt c1
  rw [decide_eq_true c1,Bool.true_and]
  cases c2:vd t.c with
  | false =>
   rw [c2] at hvd
   rw [Bool.false_and]
   simp only [kf,n9,cw,go_sem,auA,auz,auB,f1,hvd]
  | true =>
   rw [c2] at hvd
   rw [Bool.true_and]
   by_cases c3:t.c.m.length=0
   ·have f3:((t.c.m.length:Int)=0)=True:=tt (by omega)
    rw [decide_eq_false (p:=t.c.m.length ≠ 0) (fun h=>h c3),Bool.false_and]
    simp only [kf,n9,cw,go_sem,auA,auz,auB,f1,hvd,f3]
   ·have f3:((t.c.m.length:Int)=0)=False:=ff (by omega)
    rw [decide_eq_true (p:=t.c.m.length ≠ 0) c3,Bool.true_and]
    have hL:=aau (t:=t) (by omega) t.exps.length 0 (Nat.zero_add _) (fun x hx=>by rw [List.take_zero] at hx; exact nomatch hx)
    simp only [List.drop_zero,List.take_zero,bV,Int.natCast_zero] at hL
    generalize hLL:aD (am R (aO false) fX) [3,5,6] [3]=L at hL
    have hX:∀ s h,am R (aO false) (.loop [3,5,6] [3] fX) s h=L s h:=fun s h=>by rw [← hLL]; rfl
    clear hLL
    have hL2:∀ (S:ag) (H:ab) (X:Option (Ex × St)),aB 0 [5] (L S H)=X→S 3=.ref 3 none 0 0 0→S 5=I 0→S 6=I 0→H 3=.bx (cw t)→∃ hh,X=if t.exps.any qj=true then some (.ret,⟨upd (fun _=>.any) 4 (B false),hh⟩) else some (.normal,⟨upd (fun _=>.any) 5 (I (bV t.exps)),hh⟩):=fun S H X hX=>by
     rw [← hX]
     exact hL S H
    simp only [cw] at hL2
    cases c4:t.exps.any qj with
    | true =>
     simp only [c4] at hL2
     rw [Bool.not_true,Bool.false_and]
     simp only [kf,n9,hX,cw,go_sem,auA,auz,auB,f1,hvd,f3]
     generalize hB:aB 0 [5] (L _ _)=X
     obtain ⟨hh,g0⟩:=hL2 _ _ _ hB rfl rfl rfl rfl
     rw [g0]
     simp only [go_sem]
    | false =>
     simp only [c4,if_neg Bool.false_ne_true] at hL2
     rw [Bool.not_false,Bool.true_and]
     simp only [kf,n9,hX,cw,go_sem,auA,auz,auB,f1,hvd,f3]
     generalize hB:aB 0 [5] (L _ _)=X
     obtain ⟨hh,g0⟩:=hL2 _ _ _ hB rfl rfl rfl rfl
     rw [g0]
     simp only [go_sem]
 ·have f1:((t.exps.length:Int)=v)=False:=ff c1
  rw [decide_eq_false c1,Bool.false_and]
  simp only [kf,n9,cw,go_sem,auA,auz,f1]
theorem aaw {a:Rp} (ok:OkP a) (hv:a.vars≤8) (h2:a.terms.length≤500):∀ (k i:Nat),i+k=a.terms.length→∀ (pr:Option Rt),(i=0→pr=none)→(0 < i→∃ q,pr=some q∧a.terms[i - 1]?=some q∧y5 a.vars q=true) →
  ∀ (s:ag) (h:ab),s 1=.ref 1 none 0 0 0→s 3=I i→h 1=.bx [I a.vars,.sl 4 (bp a.terms)] →
  ∃ hh,aB 0 [] (aD (am R (aO false) gu) [1,3] [1] s h)=if wN a.vars pr (a.terms.drop i)=true then some (.normal,⟨fun _=>.any,hh⟩) else some (.ret,⟨upd (fun _=>.any) 2 (B false),hh⟩):=by
 intro k
 induction k with
 | zero =>
  intro i hi pr p0 p1 s h h1 h3 k1
  have e1:((i:Int) < a.terms.length)=False:=ff (by omega)
  rw [List.drop_eq_nil_of_le (by omega),ao]
  refine ⟨?hh0,?_⟩
  rotate_left
  show _=if true=true then _ else _
  rw [if_pos rfl]
  simp only [gu,go_sem,auA,auz,auD,h1,h3,k1,e1]
  rfl
 | succ k ih =>
  intro i hi pr p0 p1 s h h1 h3 k1
  have hlt:i < a.terms.length:=by omega
  have e1:((i:Int) < a.terms.length)=True:=tt (by omega)
  have e2:bu (bp a.terms) (i:Int)=some (.ipt (cw a.terms[i])):=oN rfl (List.getElem?_eq_getElem hlt)
  have e5:IntKind.i64.wrap ((i:Int)+1)=((i+1:Nat):Int):=wi (by omega) (by omega)
  have okt:=ok.t a.terms[i] (List.getElem_mem hlt)
  have hnext:a.terms[i+1 - 1]?=some a.terms[i]:=List.getElem?_eq_getElem hlt
  rw [List.drop_eq_getElem_cons hlt,ao]
  have ih':=ih (i+1) (by omega) (some a.terms[i]) (fun h=>absurd h (Nat.succ_ne_zero _))
  generalize a.terms[i]=t at e2 okt ih' hnext ⊢
  generalize aD _ _ _=L at ih' ⊢
  have htm:=aav okt (v:=a.vars) (by omega)
  simp only [cw] at e2 htm
  unfold wN
  cases hb:y5 a.vars t with
  | false =>
   rw [hb] at htm
   simp only [Bool.false_and,if_neg Bool.false_ne_true]
   refine ⟨?hh2,?_⟩
   rotate_left
   simp only [gu,go_sem,auA,auz,auB,auC,auD,h1,h3,k1,e1,e2,htm]
   rfl
  | true =>
   rw [hb] at htm
   obtain ⟨c1,c2,c3,c4,c5⟩:=wO hb
   simp only [Bool.true_and]
   by_cases hi0:i=0
   ·have f6:(0 < (i:Int))=False:=ff (by omega)
    rw [p0 hi0]
    simp only [Gz,Bool.true_and]
    simp only [gu,go_sem,auA,auz,auB,auC,auD,h1,h3,k1,e1,e2,htm,f6,e5]
    exact ih' (fun _=>⟨t,rfl,hnext,hb⟩) _ _ rfl rfl rfl
   ·have f6:(0 < (i:Int))=True:=tt (by omega)
    obtain ⟨q,q1,q2,q3⟩:=p1 (by omega)
    obtain ⟨d1,d2,d3,d4,d5⟩:=wO q3
    rw [q1]
    have e7:IntKind.i64.wrap ((i:Int) - 1)=((i - 1:Nat):Int):=wi (by omega) (by omega)
    have e8:bu (bp a.terms) ((i - 1:Nat):Int)=some (.ipt (cw q)):=oN rfl q2
    simp only [cw] at e8
    have ho:=RJ (a:=q.exps) (b:=t.exps) ⟨by omega,oO d4⟩ ⟨by omega,oO c4⟩ (by omega)
    simp only [Gz]
    by_cases c6:ce q.exps t.exps < 0
    ·have f7:(0≤ce q.exps t.exps)=False:=ff (by omega)
     simp only [decide_eq_true c6,Bool.true_and]
     simp only [gu,go_sem,auA,auz,auB,auC,auD,h1,h3,k1,e1,e2,htm,f6,e5,e7,e8,ho,f7]
     exact ih' (fun _=>⟨t,rfl,hnext,hb⟩) _ _ rfl rfl rfl
    ·have f7:(0≤ce q.exps t.exps)=True:=tt (by omega)
     simp only [decide_eq_false c6,Bool.false_and,if_neg Bool.false_ne_true]
     refine ⟨?hh7,?_⟩
     rotate_left
     simp only [gu,go_sem,auA,auz,auB,auC,auD,h1,h3,k1,e1,e2,htm,f6,e7,e8,ho,f7]
     rfl
theorem XK {a:Rp} (ok:OkP a):R F.r23_Valid [dq a] []=some (B (vp a),[]):=by
 refine aE TE TD (JJ false) rfl ?_
 unfold vp
 by_cases c1:0≤a.vars
 ·have f1:(a.vars < 0)=False:=ff (by omega)
  rw [decide_eq_true c1,Bool.true_and]
  by_cases c2:a.vars≤8
  ·have f2:(8 < a.vars)=False:=ff (by omega)
   rw [decide_eq_true c2,Bool.true_and]
   by_cases c3:a.terms.length≤500
   ·have f3:(500 < (a.terms.length:Int))=False:=ff (by omega)
    rw [decide_eq_true c3,Bool.true_and]
    have h3:=aaw ok c2 c3 a.terms.length 0 (Nat.zero_add _) none (fun _=>rfl) (fun h=>absurd h (Nat.lt_irrefl _))
    simp only [List.drop_zero,Int.natCast_zero] at h3
    cases hb:wN a.vars none a.terms with
    | true =>
     rw [hb] at h3
     simp only [] at h3
     simp only [je,mC,dq,go_sem,auA,auz,f1,f2,f3]
     rw [(h3 _ _ rfl rfl rfl).choose_spec]
     simp only [go_sem]
    | false =>
     rw [hb] at h3
     simp only [if_neg Bool.false_ne_true] at h3
     simp only [je,mC,dq,go_sem,auA,auz,f1,f2,f3]
     rw [(h3 _ _ rfl rfl rfl).choose_spec]
     simp only [go_sem]
   ·have f3:(500 < (a.terms.length:Int))=True:=tt (by omega)
    rw [decide_eq_false c3,Bool.false_and]
    simp only [je,mC,dq,go_sem,auA,auz,f1,f2,f3]
  ·have f2:(8 < a.vars)=True:=tt (by omega)
   rw [decide_eq_false c2,Bool.false_and]
   simp only [je,mC,dq,go_sem,auA,auz,f1,f2]
 ·have f1:(a.vars < 0)=True:=tt (by omega)
  rw [decide_eq_false c1,Bool.false_and]
  simp only [je,mC,dq,go_sem,auA,auz,f1]
end Go.Ab
namespace Go.Ab
open Go Go.IntWalk
set_option maxRecDepth 4000
set_option maxHeartbeats 1000000
end Go.Ab
namespace Go.Ab
open Go Go.IntWalk
set_option maxRecDepth 4000
set_option maxHeartbeats 1000000
def Ds (d:Rd):Bool:=decide (20 < d.m.length) || (decide (300 < d.e) || decide (d.e < -300))
theorem CC {d:Rd}:R F.l24_long [ae d] []=some (B (Ds d),[]):=by
 refine aE WK WJ (MR false) rfl ?_
 unfold Ds
 by_cases h1:20 < d.m.length
 ·have e1:(20 < (d.m.length:Int))=True:=tt (by omega)
  rw [decide_eq_true h1,Bool.true_or]
  simp only [pt,uQ,ae,aj,go_sem,auA,auz,e1]
 ·have e1:(20 < (d.m.length:Int))=False:=ff (by omega)
  rw [decide_eq_false h1,Bool.false_or]
  by_cases h2:300 < d.e
  ·have e2:(300 < d.e)=True:=tt h2
   rw [decide_eq_true h2,Bool.true_or]
   simp only [pt,uQ,ae,aj,go_sem,auA,auz,e1,e2]
  ·have e2:(300 < d.e)=False:=ff h2
   rw [decide_eq_false h2,Bool.false_or]
   simp only [pt,uQ,ae,aj,go_sem,auA,auz,e1,e2]
theorem RK (m:List Nat):(aQ m).map (fun r=>match r with | [.v (.int _ x)]=>x.toNat | _=>0)=m:=by
 unfold aQ
 rw [List.map_map]
 exact (List.map_congr_left (g:=fun c=>c) fun x _=>by simp).trans (List.map_id' _)
def CD (x:Ri):Bool:=Ds x.lo || Ds x.hi
theorem adu {x:Ri}:R F.l24_near_1 [aC x] []=some (B (CD x),[]):=by
 refine aE P7 P6 (HN false) rfl ?_
 have h1:=CC (d:=x.lo)
 have h2:=CC (d:=x.hi)
 simp only [ae,aj] at h1 h2
 unfold CD
 cases g1:Ds x.lo with
 | true =>
  rw [g1] at h1
  rw [Bool.true_or]
  simp only [pK,we,aC,aK,go_sem,auA,auz,auB,h1]
 | false =>
  rw [g1] at h1
  rw [Bool.false_or]
  simp only [pK,we,aC,aK,go_sem,auA,auz,auB,h1,h2]
theorem adv {l:List Ri} (h2:l.length≤100000):R F.slices_ContainsFunc_api_Interval_api_Interval_ [.sl 7 (da l),.fn F.l24_near_1 [] []] []=some (B (l.any CD),[]):=by
 let p:List AV→Bool:=fun row=>match row with | [.v (.bool n1),.sl _ m1,.v (.int _ e1),.v (.bool n2),.sl _ m2,.v (.int _ e2),.v (.bool a)]=>CD ⟨⟨n1,m1.map (fun r=>match r with | [.v (.int _ x)]=>x.toNat | _=>0),e1⟩,⟨n2,m2.map (fun r=>match r with | [.v (.int _ x)]=>x.toNat | _=>0),e2⟩,a⟩ | _=>false
 have hp:∀ x:Ri,p (aK x)=CD x:=fun x=>by
  show CD ⟨⟨x.lo.neg,(aQ x.lo.m).map _,x.lo.e⟩,⟨x.hi.neg,(aQ x.hi.m).map _,x.hi.e⟩,x.all⟩=_
  rw [RK,RK]
 have h1:=Ck (k:=7) (g:=true) (f:=F.l24_near_1) (rows:=da l) (p:=p) cT cS (cD false) rfl (BX false) (by rw [oL]; omega) (fun row hr=>by
  simp only [da,List.mem_map] at hr
  obtain ⟨x,hx,rfl⟩:=hr
  have hd:=adu (x:=x)
  refine ⟨aC x,rfl,rfl,?_⟩
  rw [hp]
  simp only [aC,aK] at hd
  simp only [aC,aK,go_sem,hd])
 have h2:=yR (k:=7) cC cB (ck false) rfl (bS false) (cO false) (by simp only [go_sem]) h1
 have h3:(da l).any p=l.any CD:=by
  unfold da
  rw [List.any_map]
  congr 1
  funext x
  exact hp x
 rw [h3] at h2
 exact h2
def XL (l:List Ri):Bool:=decide (l.length≤8) && !(l.any CD)
theorem agH {l:List Ri}:R F.l24_near [.sl 7 (da l)] []=some (B (XL l),[]):=by
 refine aE WG WF (MN false) rfl ?_
 unfold XL
 by_cases h1:l.length≤8
 ·have e1:((l.length:Int)≤8)=True:=tt (by omega)
  rw [decide_eq_true h1,Bool.true_and]
  have hc:=adv (l:=l) (by omega)
  simp only [s6,zK,go_sem,auA,auz,e1,hc]
 ·have e1:((l.length:Int)≤8)=False:=ff (by omega)
  rw [decide_eq_false h1,Bool.false_and]
  simp only [s6,zK,go_sem,e1]
structure Len1 (x:Ri):Prop where
 lo:Lb x.lo.m∧x.lo.m.length≤100000
 hi:Lb x.hi.m∧x.hi.m.length≤100000
theorem aax {x:Ri} (h:Len1 x):R F.r05_Equal [aC x,aC x] []=some (B true,[]):=by
 refine aE TH TG (JT false) rfl ?_
 have h1:=Mn h.lo.1 h.lo.2
 have h2:=Mn h.hi.1 h.hi.2
 simp only [ae,aj] at h1 h2
 have e2:(false != (x.all == x.all))=true:=by rw [beq_self_eq_true]; rfl
 simp only [wd,EA,aC,aK,go_sem,auA,auz,auB,e2,h1,h2]
theorem XM {x:Ri} (h:Len1 x):R F.l24_equal [aC x,aC x] []=some (B true,[]):=by
 refine aE Ty Tx (JH false) rfl ?_
 have h1:=aax h
 simp only [aC,aK] at h1
 cases ha:x.all with
 | true =>
  rw [ha] at h1
  simp only [qS,xN,aC,aK,go_sem,auA,auz,auB,ha]
 | false =>
  rw [ha] at h1
  simp only [qS,xN,aC,aK,go_sem,auA,auz,auB,ha,h1]
def VI (x:Ri):Prop:=(vd x.lo=true∧Ok0 x.lo)∧(vd x.hi=true∧Ok0 x.hi)
theorem VI.len {x:Ri} (h:VI x):Len1 x:=⟨⟨h.1.2.1,Nat.le_trans (wL h.1.1 h.1.2.1) (by decide)⟩,⟨h.2.2.1,Nat.le_trans (wL h.2.1 h.2.2.1) (by decide)⟩⟩
theorem adw:VI fD:=⟨bq,bq⟩
theorem agI {x y:Ri} {p:Int}:VI (ut x y p):=by
 unfold ut
 split
 ·unfold kw
  split
  ·exact ⟨⟨Va,Dq⟩,⟨Va,Dq⟩⟩
  ·exact adw
 ·exact adw
theorem ajg {p:Int} {dom:List Ri}:∀ (l:List Rt) (s:Ri),VI s→VI (U6 p dom l s):=by
 intro l
 induction l with
 | nil=>exact fun s h=>h
 | cons t l ih=>exact fun s h=>ih _ agI
theorem xA {a:Rp} {dom:List Ri} {p:Int}:VI (nP a dom p):=by
 unfold nP
 split
 ·exact ajg _ _ ⟨bq,bq⟩
 ·exact adw
end Go.Ab
namespace Go.Ab
open Go Go.IntWalk
set_option maxRecDepth 4000
set_option maxHeartbeats 1000000
def RL (a:Rp):Int:=if vp a=true then (match a.terms.getLast? with | none=>-1 | some t=>bV t.exps) else -1
theorem XN {a:Rp} (h:vp a=true):0≤a.vars∧a.vars≤8∧a.terms.length≤500∧wN a.vars none a.terms=true:=by
 simp only [vp,Bool.and_eq_true,decide_eq_true_eq] at h
 exact ⟨h.1,h.2.1,h.2.2.1,h.2.2.2⟩
theorem K6 {a:Rp} (h:vp a=true) {t:Rt} (ht:t ∈ a.terms):sm t.exps∧(t.exps.length:Int)=a.vars∧vd t.c=true∧t.c.m.length ≠ 0∧bV t.exps≤32:=by
 obtain ⟨v1,v2,v3,v4⟩:=XN h
 obtain ⟨c1,c2,c3,c4,c5⟩:=wO (U7 _ _ v4 t ht)
 exact ⟨⟨by omega,oO c4⟩,c1,c2,c3,c5⟩
theorem aay {a:Rp} (ok:OkP a):R F.poly_Degree [dq a] []=some (I (RL a),[]):=by
 refine aE Ni Nh (FF false) rfl ?_
 have hv:=Cz ok
 unfold RL
 simp only [dq] at hv
 cases hb:vp a with
 | false =>
  rw [hb] at hv
  rw [if_neg Bool.false_ne_true]
  simp only [kF,pN,dq,go_sem,auA,auz,auB,hv]
 | true =>
  rw [hb] at hv
  rw [if_pos rfl]
  obtain ⟨v1,v2,v3,v4⟩:=XN hb
  by_cases h0:a.terms.length=0
  ·have e1:((a.terms.length:Int)=0)=True:=tt (by omega)
   have e4:a.terms.getLast?=none:=by
    rw [List.length_eq_zero_iff.1 h0]
    rfl
   rw [e4]
   simp only [kF,pN,dq,go_sem,auA,auz,auB,hv,e1]
  ·have e1:((a.terms.length:Int)=0)=False:=ff (by omega)
   have e2:IntKind.i64.wrap ((a.terms.length:Int) - 1)=((a.terms.length - 1:Nat):Int):=by rw [i64_in] <;> omega
   have hlt:a.terms.length - 1 < a.terms.length:=by omega
   have e3:bu (bp a.terms) ((a.terms.length - 1:Nat):Int)=some (.ipt (cw a.terms[a.terms.length - 1])):=oN rfl (List.getElem?_eq_getElem hlt)
   have e4:a.terms.getLast?=some a.terms[a.terms.length - 1]:=by rw [List.getLast?_eq_getElem?,List.getElem?_eq_getElem hlt]
   obtain ⟨c1,c2,c3,c4,c5⟩:=K6 hb (List.getElem_mem hlt)
   rw [e4]
   generalize a.terms[a.terms.length - 1]=t at e3 c1 c2 c3 c4 c5 ⊢
   have hd:=tN c1
   simp only [cw] at e3
   simp only [kF,pN,dq,go_sem,auA,auz,auB,hv,e1,e2,e3,hd]
def rI (x:Int):List Int→Nat→Int
 | [],_=>-1
 | y::l,i=>if x=y then i else rI x l (i+1)
theorem adx {l:List Int} (h2:l.length≤100000) (x:Int):∀ (k i:Nat),i+k=l.length→∀ (s:ag) (h:ab),s 0=.sl 1 (be l)→s 1=I x→s 7=I l.length→s 8=I i →
  ∃ hh,bX (aB 0 [] (aD (am R (aO false) cQ) [0,1,7,8] [] s h)) (am R (aO false) (.seq (.ops [4] [co 4 (.mv (.c (I (-1))))]) (.ret)))=some (.ret,⟨upd (fun _=>.any) 4 (I (rI x (l.drop i) i)),hh⟩):=by
 intro k
 induction k with
 | zero =>
  intro i hi s h h0 h1 h7 h8
  have e1:((i:Int) < l.length)=False:=ff (by omega)
  rw [List.drop_eq_nil_of_le (by omega),ao]
  refine ⟨?hh0,?_⟩
  rotate_left
  ·simp only [cQ,rI,go_sem,h0,h1,h7,h8,e1]
   rfl
 | succ k ih =>
  intro i hi s h h0 h1 h7 h8
  have hlt:i < l.length:=by omega
  have e1:((i:Int) < l.length)=True:=tt (by omega)
  have e2:bu (be l) (i:Int)=some (.ipt [I l[i]]):=kW rfl (List.getElem?_eq_getElem hlt)
  have e5:IntKind.i64.wrap ((i:Int)+1)=((i+1:Nat):Int):=wi (by omega) (by omega)
  have ih':=ih (i+1) (by omega)
  rw [List.drop_eq_getElem_cons hlt,ao]
  unfold rI
  generalize aD _ _ _=L at ih' ⊢
  generalize l[i]=y at e2 ⊢
  by_cases hxy:x=y
  ·have e3:(x=y)=True:=tt hxy
   rw [if_pos hxy]
   refine ⟨?hh1,?_⟩
   rotate_left
   ·simp only [cQ,go_sem,h0,h1,h7,h8,e1,e2,e3]
    rfl
  ·have e3:(x=y)=False:=ff hxy
   rw [if_neg hxy]
   simp only [cQ,go_sem,h0,h1,h7,h8,e1,e2,e3,e5] at ih' ⊢
   exact ih' _ _ rfl rfl rfl rfl
theorem ady {l:List Int} (h2:l.length≤100000) {x:Int}:R F.slices_Index_int_int_ [.sl 1 (be l),I x] []=some (I (rI x l 0),[]):=by
 refine aE w9 w7 (uq false) rfl ?_
 have h:=adx h2 x l.length 0 (Nat.zero_add _)
 simp only [List.drop_zero,Int.natCast_zero] at h
 have h':∀ (S:ag) (H:ab) (X:Option (Ex × St)),bX (aB 0 [] (aD (am R (aO false) cQ) [0,1,7,8] [] S H)) (am R (aO false) (.seq (.ops [4] [co 4 (.mv (.c (I (-1))))]) (.ret)))=X→S 0=.sl 1 (be l)→S 1=I x→S 7=I l.length→S 8=I 0→∃ hh,X=some (.ret,⟨upd (fun _=>.any) 4 (I (rI x l 0)),hh⟩):=fun S H X hX=>by
  rw [← hX]
  exact h S H
 simp only [jj,oQ,go_sem]
 generalize hB:bX (aB 0 [] (aD _ _ _ _ _)) _=X
 obtain ⟨hh,h3⟩:=h' _ _ _ hB rfl rfl rfl rfl
 rw [h3]
 simp only [go_sem]
end Go.Ab
namespace Go.Ab
open Go Go.IntWalk
set_option maxRecDepth 4000
set_option maxHeartbeats 1000000
def Mo:Option Rd→List AV
 | none=>[B false,.emp,I 0]
 | some d=>aj d
def wQ (l:List (Option Rd)):List (List AV):=l.map Mo
@[go_sem] theorem asl (l:List (Option Rd)):(wQ l).length=l.length:=by simp [wQ]
theorem agJ {l:List (Option Rd)} {i:Nat} {o:Option Rd} (h:l[i]?=some o):(wQ l)[i]?=some (Mo o):=by simp [wQ,h]
theorem agK (l:List (Option Rd)) (i:Nat) (d:Rd):(wQ l).set i (aj d)=wQ (l.set i (some d)):=by simp [wQ,List.map_set,Mo]
theorem agL (n:Nat):List.replicate n [B false,.emp,I 0]=wQ (List.replicate n none):=by simp [wQ,Mo]
def odV (l:List (Option Rd)):List Rd:=l.map fun o=>o.getD aX
theorem agM (l:List (Option Rd)):(wQ l).map (cX [.o 0 [],.o 2 [],.o 0 []])=xu (odV l):=by
 simp only [wQ,odV,xu,List.map_map]
 refine List.map_congr_left fun o _=>?_
 cases o with
 | none=>simp only [Function.comp,Mo,aj,aX,Option.getD,go_sem]
 | some d=>simp only [Function.comp,Mo,aj,Option.getD,go_sem]
theorem agN (o:Option Rd) (d:Rd):(((Mo o).set 0 (B d.neg)).set 1 (lm d.m)).set 2 (I d.e)=aj d∧(3≤(Mo o).length)=True:=by
 cases o <;> exact ⟨rfl,tt (Nat.le_refl 3)⟩
def yj:List Rt→List (Option Rd)→List (Option Rd)
 | [],o=>o
 | t::l,o=>yj l (o.set (rI 1 t.exps 0+1).toNat (some t.c))
theorem Vc (x:Int):∀ (l:List Int) (i:Nat),-1≤rI x l i∧rI x l i < l.length+i
 | [],i=>by
  unfold rI
  simp only [List.length_nil]
  omega
 | y::l,i=>by
  unfold rI
  have:=Vc x l (i+1)
  simp only [List.length_cons]
  split <;> omega
theorem adz {a:Rp} (hv:∀ t ∈ a.terms,(t.exps.length:Int)=a.vars) (h8:a.vars≤8) (h5:a.terms.length≤500):∀ (k i:Nat),i+k=a.terms.length→∀ (o:List (Option Rd)),(o.length:Int)=a.vars+1→∀ (s:ag) (h:ab),
  s 4=.rsl 18 none 3 0 o.length→s 20=.sl 4 (bp a.terms)→s 21=I a.terms.length→s 22=I i→h 1=.bx [I a.vars,.sl 4 (bp a.terms)] →h 18=.ar 3 (wQ o) →
  ∃ hh,aB 0 [4] (aD (am R (aO false) ij) [4,20,21,22] [1,18] s h)=some (.normal,⟨upd (fun _=>.any) 4 (.rsl 18 none 3 0 o.length),hh⟩)∧hh 18=.ar 3 (wQ (yj (a.terms.drop i) o)):=by
 intro k
 induction k with
 | zero =>
  intro i hi o ho s h h4 h20 h21 h22 k1 k18
  have e1:((i:Int) < a.terms.length)=False:=ff (by omega)
  rw [List.drop_eq_nil_of_le (by omega),ao]
  refine ⟨?hh0,?_,?_⟩
  rotate_left
  ·simp only [ij,go_sem,auD,h4,h20,h21,h22,k1,k18,e1]
   rfl
  ·rfl
 | succ k ih =>
  intro i hi o ho s h h4 h20 h21 h22 k1 k18
  have hlt:i < a.terms.length:=by omega
  have e1:((i:Int) < a.terms.length)=True:=tt (by omega)
  have e2:bu (bp a.terms) (i:Int)=some (.ipt (cw a.terms[i])):=oN rfl (List.getElem?_eq_getElem hlt)
  have e5:IntKind.i64.wrap ((i:Int)+1)=((i+1:Nat):Int):=wi (by omega) (by omega)
  have c1:=hv a.terms[i] (List.getElem_mem hlt)
  rw [List.drop_eq_getElem_cons hlt,ao]
  have ih':=ih (i+1) (by omega)
  unfold yj
  generalize a.terms[i]=t at e2 c1 ⊢
  have hx:=ady (l:=t.exps) (x:=1) (by omega)
  obtain ⟨x1,x2⟩:=Vc 1 t.exps 0
  have e6:IntKind.i64.wrap (rI 1 t.exps 0+1)=((rI 1 t.exps 0+1).toNat:Int):=by rw [i64_in] <;> omega
  generalize hn:(rI 1 t.exps 0+1).toNat=n at e6 ⊢
  have hn2:n < o.length:=by omega
  have e7:(0≤(n:Int))=True:=tt (by omega)
  have e8:((n:Int) < (o.length:Int))=True:=tt (by omega)
  have e9:=agJ (List.getElem?_eq_getElem hn2)
  obtain ⟨e10,e11⟩:=agN o[n] t.c
  have ih2:=ih' (o.set n (some t.c)) (by rw [List.length_set]; exact ho)
  rw [List.length_set] at ih2
  generalize aD _ _ _=L at ih2 ⊢
  simp only [cw] at e2
  simp only [ij,go_sem,auA,auz,auB,auC,auD,h4,h20,h21,h22,k1,k18,e1,e2,hx,e6,e7,e8,e9,e10,e11,e5,agK,Int.toNat_natCast,Nat.zero_add]
  exact ih2 _ _ rfl rfl rfl rfl rfl rfl
theorem GD:∀ (l:List Rt) (o:List (Option Rd)),(yj l o).length=o.length
 | [],o=>rfl
 | t::l,o=>by
  unfold yj
  rw [GD l,List.length_set]
def Dt (a:Rp):Bool:=vp a && decide (RL a≤1)
def yk (a:Rp):List Rd:=odV (yj a.terms (List.replicate (a.vars.toNat+1) none))
def XO (a:Rp):AV:=if Dt a=true then .tup [xv (yk a),B true] else .tup [xv [],B false]
theorem Mp {a:Rp} (ok:OkP a):R F.bound_Linear [dq a] []=some (XO a,[]):=by
 refine aE JV JU (DT false) rfl ?_
 have hv:=Cz ok
 have hd:=aay ok
 unfold XO Dt
 simp only [dq] at hv hd
 cases hb:vp a with
 | false =>
  rw [hb] at hv
  rw [Bool.false_and,if_neg Bool.false_ne_true]
  simp only [jU,n7,dq,go_sem,auA,auz,auB,hv,xv,xu]
 | true =>
  rw [hb] at hv
  rw [Bool.true_and]
  generalize hg:RL a=g at hd ⊢
  by_cases h1:g≤1
  ·have e1:(1 < g)=False:=ff (by omega)
   rw [if_pos (decide_eq_true h1)]
   obtain ⟨v1,v2,v3,v4⟩:=XN hb
   have hl:=adz (a:=a) (fun t ht=>(K6 hb ht).2.1) v2 v3 a.terms.length 0 (Nat.zero_add _) (List.replicate (a.vars.toNat+1) none) (by rw [List.length_replicate]; omega)
   simp only [List.drop_zero,Int.natCast_zero,List.length_replicate] at hl
   have hl2:=GD a.terms (List.replicate (a.vars.toNat+1) none)
   have hn:=agM (yj a.terms (List.replicate (a.vars.toNat+1) none))
   unfold yk
   generalize yj a.terms (List.replicate (a.vars.toNat+1) none)=O at hl hl2 hn ⊢
   rw [List.length_replicate] at hl2
   generalize hN:a.vars.toNat+1=N at hl hl2 ⊢
   have e2:IntKind.i64.wrap (a.vars+1)=(N:Int):=by rw [i64_in] <;> omega
   have e3:=nK (i:=(N:Int)) (j:=(N:Int)) (l:=N) (c:=N) rfl rfl (Nat.le_refl _) (by omega)
   have e4:(N*40≤140737488355328)=True:=tt (by omega)
   have e5:(0+N≤O.length)=True:=tt (by omega)
   have e6:(N=O.length)=True:=tt hl2.symm
   have h':∀ (S:ag) (H:ab) (X:Option (Ex × St)),aB 0 [4] (aD (am R (aO false) ij) [4,20,21,22] [1,18] S H)=X→S 4=.rsl 18 none 3 0 N→S 20=.sl 4 (bp a.terms)→S 21=I a.terms.length→S 22=I 0→H 1=.bx [I a.vars,.sl 4 (bp a.terms)]→H 18=.ar 3 (wQ (List.replicate N none)) →
     ∃ hh,X=some (.normal,⟨upd (fun _=>.any) 4 (.rsl 18 none 3 0 N),hh⟩)∧hh 18=.ar 3 (wQ O):=fun S H X hX=>by
    rw [← hX]
    exact hl S H
   simp only [jU,n7,dq,go_sem,auA,auz,auB,hv,hd,e1,e2,e3,e4,agL]
   generalize hB:aB 0 [4] (aD _ _ _ _ _)=X
   obtain ⟨hh,g0,g1⟩:=h' _ _ _ hB rfl rfl rfl rfl rfl rfl
   rw [g0]
   simp only [go_sem,auB,auC,g1,e5,e6,hn,xv]
  ·have e1:(1 < g)=True:=tt (by omega)
   rw [if_neg (fun h=>h1 (of_decide_eq_true h))]
   simp only [jU,n7,dq,go_sem,auA,auz,auB,hv,hd,e1,xv,xu]
end Go.Ab
namespace Go.Ab
open Go Go.IntWalk
set_option maxRecDepth 4000
set_option maxHeartbeats 1000000
def mP (a b:Rd):Rd × Int:=if (vd a && vd b)=true then dk (dF (zI a*zI b) (-32768)) else (aX,1)
def nR (a b:Rd):Rd × Int:=if (vd a && vd b)=true then dk (dF (zI a+zI b) (-16384)) else (aX,1)
theorem K7 {z f:Int}:vd (dk (dF z f)).1=true∧Ok0 (dk (dF z f)).1:=by
 unfold dk dF
 by_cases h:oR (ai (ac (bD (decide (z < 0)) z.natAbs f).m)) (bD (decide (z < 0)) z.natAbs f).e=true
 ·rw [if_pos h]
  have hv:=UX h
  have hb:=vG (decide (z < 0)) z.natAbs f
  exact ⟨hv,hb,Nat.lt_of_le_of_lt (wL hv hb) (by decide)⟩
 ·rw [if_neg h]
  exact bq
theorem Vd (a b:Rd):vd (mP a b).1=true∧Ok0 (mP a b).1:=by
 unfold mP
 split
 ·exact K7
 ·exact bq
theorem agO (a b:Rd):vd (nR a b).1=true∧Ok0 (nR a b).1:=by
 unfold nR
 split
 ·exact K7
 ·exact bq
theorem Du {d:Rd} (h:vd d=true) (h0:d.m.length ≠ 0):ac d.m % 2=1:=by
 obtain ⟨h1,h2,h3,h4⟩:=wI h h0
 cases hm:d.m with
 | nil=>rw [hm] at h0; exact absurd rfl h0
 | cons x l =>
  rw [hm] at h2
  have h2':x % 2=1:=h2
  show (x+4294967296*ac l) % 2=1
  omega
theorem RM {x y:Nat} (hx:x ≠ 0) (hy:y ≠ 0):ai x+ai y - 2 < ai (x*y):=by
 have h1:=fj hx
 have h2:=fj hy
 have h3:2 ^ (ai x - 1)≤x:=iV.1 (by omega)
 have h4:2 ^ (ai y - 1)≤y:=iV.1 (by omega)
 rw [iV,show ai x+ai y - 2=(ai x - 1)+(ai y - 1) by omega,Nat.pow_add]
 exact Nat.mul_le_mul h3 h4
theorem agP {a b:Rd} (oa:Ok0 a) (ob:Ok0 b):OJ a b=rV (mP a b):=by
 unfold OJ mP
 by_cases hv:vd a=true∧vd b=true
 ·obtain ⟨va,vb⟩:=hv
  rw [if_pos ⟨va,vb⟩,va,vb,Bool.true_and,if_pos rfl,← aat oa ob va vb]
  by_cases h0:a.m.length=0∨b.m.length=0
  ·rw [if_pos h0]
   have:ac a.m*ac b.m=0:=by
    rcases h0 with h0 | h0
    ·rw [List.length_eq_zero_iff.1 h0]
     exact Nat.zero_mul _
    ·rw [List.length_eq_zero_iff.1 h0]
     exact Nat.mul_zero _
   rw [this,gP]
   rfl
  ·rw [if_neg h0]
   have a0:a.m.length ≠ 0:=fun h=>h0 (.inl h)
   have b0:b.m.length ≠ 0:=fun h=>h0 (.inr h)
   have x0:=cE va a0
   have y0:=cE vb b0
   by_cases hb:4096 < ai (ac a.m)+ai (ac b.m) - 1
   ·rw [if_pos hb]
    have h1:=RM x0 y0
    have ho:ac a.m*ac b.m % 2=1:=by rw [Nat.mul_mod,Du va a0,Du vb b0]
    have ht:=aar ho 0
    rw [Nat.pow_zero,Nat.mul_one] at ht
    obtain ⟨g1,g2,g3,g4⟩:=Ak (neg:=a.neg != b.neg) (e:=a.e+b.e) (Nat.mul_ne_zero x0 y0)
    unfold dk
    rw [if_neg]
    ·rfl
    ·intro h2
     rw [g1,ht,Nat.pow_zero,Nat.div_one] at h2
     have h3:=(yW h2 (by omega)).1
     omega
   ·rw [if_neg hb]
    exact Dk _
 ·rw [if_neg hv,if_neg]
  ·rfl
  ·intro h
   rw [Bool.and_eq_true] at h
   exact hv h
theorem Ve {a b:Rd} (oa:Ok0 a) (ob:Ok0 b):R F.dyadic_Mul [ae a,ae b] []=some (rV (mP a b),[]):=by
 rw [← agP oa ob]
 exact ago oa ob
def Vf (m:Rd) (x:Ri):Rd:=if cu m < 0 then x.hi else x.lo
def Vg (m:Rd) (x:Ri):Rd:=if cu m < 0 then x.lo else x.hi
def XP (c:Rd) (a b:Rd × Int) (p:Int):Ri:=if a.2=0∧b.2=0 then kw (gB c a.1 p false) (gB c b.1 p true) else fD
def Dv (c m:Rd) (x:Ri) (p:Int):Ri:=XP c (mP m (Vf m x)) (mP m (Vg m x)) p
theorem agQ {c m:Rd} {x:Ri} (oc:Ok0 c) (om:Ok0 m) (vm:vd m=true) (ox:OkI x) {p:Int}:R F.bound_line [ae c,ae m,aC x,I p] []=some (aC (Dv c m x p),[]):=by
 refine aE Qc Qb (HP false) rfl ?_
 have hs:=wJ om vm
 have hw:=GA
 unfold Dv XP kw
 simp only [ae,aj] at hs
 simp only [aC,aK,fD] at hw
 have key:∀ lo hi:Rd,lo=Vf m x→hi=Vg m x→Ok0 lo→Ok0 hi→gq false dY.rs dY.res 0 (am R (aO false) dY.body (oT [ae c,ae m,aC x,I p]) fun _=>.dead)=some (aC (if (mP m lo).2=0∧(mP m hi).2=0 then (if (gB c (mP m lo).1 p false).2=0∧(gB c (mP m hi).1 p true).2=0 then ⟨(gB c (mP m lo).1 p false).1,(gB c (mP m hi).1 p true).1,false⟩ else fD) else fD),[]):=by
  intro lo hi e1 e2 ol oh
  have h1:=Ve om ol
  have h2:=Ve om oh
  have o1:=(Vd m lo).2
  have o2:=(Vd m hi).2
  generalize mP m lo=A at h1 o1 ⊢
  generalize mP m hi=D at h2 o2 ⊢
  have h3:=IE oc o1 (p:=p)
  have h4:=Ro oc o2 (p:=p)
  generalize gB c A.1 p false=Y at h3 ⊢
  generalize gB c D.1 p true=Z at h4 ⊢
  obtain ⟨A1,A2⟩:=A
  obtain ⟨D1,D2⟩:=D
  obtain ⟨Y1,Y2⟩:=Y
  obtain ⟨Z1,Z2⟩:=Z
  unfold Vf at e1
  unfold Vg at e2
  simp only [rV,ae,aj] at h1 h2 h3 h4
  have hc:((cu m < 0)=True∧lo=x.hi∧hi=x.lo)∨((cu m < 0)=False∧lo=x.lo∧hi=x.hi):=by
   by_cases hm:cu m < 0
   ·rw [if_pos hm] at e1 e2
    exact .inl ⟨tt hm,e1,e2⟩
   ·rw [if_neg hm] at e1 e2
    exact .inr ⟨ff hm,e1,e2⟩
  clear e1 e2
  rcases hc with ⟨e0,rfl,rfl⟩ | ⟨e0,rfl,rfl⟩
  all_goals
   by_cases a1:A2=0
   ·have f1:(A2=0)=True:=tt a1
    by_cases a2:D2=0
    ·have f2:(D2=0)=True:=tt a2
     rw [if_pos ⟨a1,a2⟩]
     by_cases a3:Y2=0
     ·have f3:(Y2=0)=True:=tt a3
      by_cases a4:Z2=0
      ·have f4:(Z2=0)=True:=tt a4
       rw [if_pos ⟨a3,a4⟩]
       simp only [dY,kD,ae,aj,aC,aK,go_sem,auA,auz,auB,auC,auD,hs,e0,h1,h2,h3,h4,f1,f2,f3,f4]
      ·have f4:(Z2=0)=False:=ff a4
       rw [if_neg (fun h=>a4 h.2)]
       simp only [dY,kD,ae,aj,aC,aK,fD,go_sem,auA,auz,auB,auC,auD,hs,e0,h1,h2,h3,h4,f1,f2,f3,f4,hw]
     ·have f3:(Y2=0)=False:=ff a3
      rw [if_neg (fun h=>a3 h.1)]
      simp only [dY,kD,ae,aj,aC,aK,fD,go_sem,auA,auz,auB,auC,auD,hs,e0,h1,h2,h3,h4,f1,f2,f3,hw]
    ·have f2:(D2=0)=False:=ff a2
     rw [if_neg (fun h=>a2 h.2)]
     simp only [dY,kD,ae,aj,aC,aK,fD,go_sem,auA,auz,auB,auC,auD,hs,e0,h1,h2,f1,f2,hw]
   ·have f1:(A2=0)=False:=ff a1
    rw [if_neg (fun h=>a1 h.1)]
    simp only [dY,kD,ae,aj,aC,aK,fD,go_sem,auA,auz,auB,auC,auD,hs,e0,h1,h2,f1,hw]
 by_cases hm:cu m < 0
 ·exact key _ _ rfl rfl (by unfold Vf; rw [if_pos hm]; exact ox.hi) (by unfold Vg; rw [if_pos hm]; exact ox.lo)
 ·exact key _ _ rfl rfl (by unfold Vf; rw [if_neg hm]; exact ox.lo) (by unfold Vg; rw [if_neg hm]; exact ox.hi)
end Go.Ab
namespace Go.Ab
open Go Go.IntWalk
set_option maxRecDepth 4000
set_option maxHeartbeats 1000000
theorem Vh:∀ (l:List Rt) (o:List (Option Rd)),(∀ t ∈ l,vd t.c=true∧Ok0 t.c)→(∀ x ∈ o,∀ d,x=some d→vd d=true∧Ok0 d)→∀ x ∈ yj l o,∀ d,x=some d→vd d=true∧Ok0 d
 | [],o,_,ho=>ho
 | t::l,o,hl,ho=>by
  unfold yj
  refine Vh l _ (fun u hu=>hl u (List.mem_cons_of_mem _ hu)) fun x hx d hd=>?_
  rcases List.mem_or_eq_of_mem_set hx with h | h
  ·exact ho x h d hd
  ·rw [h] at hd
   obtain rfl:=Option.some.inj hd
   exact hl t (List.mem_cons_self ..)
theorem agR {a:Rp} (oa:OkP a) (hv:vp a=true):(∀ d ∈ yk a,vd d=true∧Ok0 d)∧(yk a).length=a.vars.toNat+1:=by
 constructor
 ·intro d hd
  simp only [yk,odV,List.mem_map] at hd
  obtain ⟨o,ho,rfl⟩:=hd
  have:=Vh a.terms (List.replicate (a.vars.toNat+1) none) (fun t ht=>⟨(K6 hv ht).2.2.1,(oa.t t ht).c⟩) (fun x hx d hd=>by
   rw [List.eq_of_mem_replicate hx] at hd
   exact nomatch hd) o ho
  cases o with
  | none=>exact bq
  | some d=>exact this d rfl
 ·simp [yk,odV,GD]
theorem ajh (a l):bu (a::l) 0=some (.ipt a):=by simp [bu]
theorem aji (a b l):bu (a::b::l) 1=some (.ipt b):=by simp [bu]
theorem adA {a:Rp} {dom:List Ri} (oa:OkP a) (od:∀ x ∈ dom,OkI x) {p:Int} (hf:(kX a dom && fl p)=true) (hl:Dt a=true) (h1:a.vars=1) {c m:Rd} {x:Ri} (hlin:yk a=[c,m]) (hdom:dom=[x]) :
  R F.bound_Bernstein [dq a,.sl 7 (da dom),I p] []=some (aC (Dv c m x p),[]):=by
 refine aE uC uB (rt false) rfl ?_
 have h2:dom.length≤100000:=by rw [hdom]; exact (by decide:1≤100000)
 have hf1:=Dp oa od h2 (p:=p)
 rw [hf] at hf1
 have hL:=Mp oa
 unfold XO at hL
 rw [if_pos hl,hlin] at hL
 have hv:vp a=true:=by
  simp only [Dt,Bool.and_eq_true] at hl
  exact hl.1
 obtain ⟨k1,k2⟩:=agR oa hv
 rw [hlin] at k1
 have kc:=k1 c (List.mem_cons_self ..)
 have km:=k1 m (List.mem_cons_of_mem _ (List.mem_cons_self ..))
 have hn:=agQ kc.2 km.2 km.1 (od x (by rw [hdom]; exact List.mem_cons_self ..)) (p:=p)
 generalize Dv c m x p=z at hn ⊢
 subst hdom
 have e1:(a.vars=1)=True:=tt h1
 simp only [dq,da,List.map_cons,List.map_nil,aK] at hf1 hL
 simp only [xv,xu,List.map_cons,List.map_nil,aj] at hL
 simp only [ae,aj,aC,aK] at hn
 simp only [jR,oV,dq,da,List.map_cons,List.map_nil,aC,aK,go_sem,auA,auz,auB,auC,hf1,hL,hn,e1,ajh,aji]
end Go.Ab
namespace Go.Ab
open Go Go.IntWalk
set_option maxRecDepth 4000
theorem agS {z:Int} {j:Nat} (h:(dk (dF z (-16384 - j))).2=0):zI (dk (dF z (-16384 - j))).1*2 ^ j=z:=by
 unfold dk at h ⊢
 by_cases hr:oR (ai (ac (dF z (-16384 - j)).m)) (dF z (-16384 - j)).e=true
 ·rw [if_pos hr]
  show zI (dF z (-16384 - j))*2 ^ j=z
  unfold dF at hr ⊢
  by_cases h0:z.natAbs=0
  ·rw [h0,gP]
   have:z=0:=by omega
   rw [this,gC rfl,Int.zero_mul]
  ·obtain ⟨g1,g2,g3,g4⟩:=Ak (neg:=decide (z < 0)) (e:=-16384 - (j:Int)) h0
   obtain ⟨t1,t2⟩:=sC h0
   have hp:ai (ac (bD (decide (z < 0)) z.natAbs (-16384 - j)).m) ≠ 0:=by
    rw [g1]
    exact Nat.pos_iff_ne_zero.1 (fj (by omega))
   have he:=yW hr hp
   rw [g2] at he
   rw [ki h0]
   unfold zI mg
   rw [aW]
   have ht:(-16384 - (j:Int)+(tz z.natAbs:Nat)+16384).toNat+j=tz z.natAbs:=by omega
   generalize (-16384 - (j:Int)+(tz z.natAbs:Nat)+16384).toNat=k at ht ⊢
   have hm:(((z.natAbs / 2 ^ tz z.natAbs*2 ^ k:Nat):Int))*2 ^ j=z.natAbs:=by
    have:z.natAbs / 2 ^ tz z.natAbs*2 ^ k*2 ^ j=z.natAbs:=by
     rw [Nat.mul_assoc,← Nat.pow_add,ht,Nat.mul_comm]
     exact t1.symm
    have h3:=congrArg (Nat.cast (R:=Int)) this
    rw [Int.natCast_mul,Int.natCast_pow] at h3
    exact h3
   show (if decide (z < 0)=true then -(((z.natAbs / 2 ^ tz z.natAbs*2 ^ k:Nat):Int)) else ((z.natAbs / 2 ^ tz z.natAbs*2 ^ k:Nat):Int))*2 ^ j=z
   by_cases hz:z < 0
   ·rw [decide_eq_true hz,if_pos rfl,Int.neg_mul,hm]
    omega
   ·rw [decide_eq_false hz,if_neg Bool.false_ne_true,hm]
    omega
 ·rw [if_neg hr] at h
  exact absurd h (show ((9:Int)=0)→False by decide)
def jt (x:Ri) (p:Int):Ri:=if (fl p && kI x)=true then kw (fS x.lo p false) (fS x.hi p true) else fD
end Go.Ab
namespace Go.Ab
open Go Go.IntWalk
set_option maxRecDepth 4000
set_option maxHeartbeats 1000000
end Go.Ab
namespace Go.Ab
open Go Go.IntWalk
set_option maxRecDepth 4000
set_option maxHeartbeats 1000000
abbrev zb:List AV:=[B false,.emp,I 0]
end Go.Ab
namespace Go.Ab
open Go Go.IntWalk
set_option maxRecDepth 4000
set_option maxHeartbeats 1000000
end Go.Ab
namespace Go.Ab
open Go Go.IntWalk
set_option maxRecDepth 4000
set_option maxHeartbeats 1000000
end Go.Ab
namespace Go.Ab
open Go Go.IntWalk
set_option maxRecDepth 4000
set_option maxHeartbeats 1000000
end Go.Ab
namespace Go.Ab
open Go Go.IntWalk
set_option maxRecDepth 4000
set_option maxHeartbeats 1000000
@[go_sem] theorem asm (l:List Rd):(xu l).map (cX [.o 0 [],.o 2 [],.o 0 []])=xu l:=by
 refine tO fun x hx=>?_
 simp only [xu,List.mem_map] at hx
 obtain ⟨t,ht,rfl⟩:=hx
 simp only [aj,go_sem]
end Go.Ab
namespace Go.Ab
open Go Go.IntWalk
set_option maxRecDepth 4000
set_option maxHeartbeats 2000000
theorem aaA {x:Ri} (ox:OkI x) {p:Int}:R F.interval_Round [aC x,I p] []=some (aC (jt x p),[]):=by
 refine aE Fd Fc (AS false) rfl ?_
 have hk:=nO ox
 have hp:=rF (p:=p)
 have hw:=jq
 have hd:=Ml ox.lo (p:=p)
 have hu:=UZ ox.hi (p:=p)
 unfold jt
 generalize fS x.lo p false=r at hd ⊢
 generalize fS x.hi p true=q at hu ⊢
 obtain ⟨r1,r2⟩:=r
 obtain ⟨q1,q2⟩:=q
 have hm:=Dm (a:=r1) (b:=q1) (e:=r2) (f:=q2)
 generalize kw (r1,r2) (q1,q2)=z at hm ⊢
 simp only [aC,aK,rV,ae,aj] at hw hd hu hm
 cases h1:kI x with
 | false =>
  rw [h1] at hk
  rw [Bool.and_false,if_neg Bool.false_ne_true]
  simp only [ig,lH,aC,aK,go_sem,auA,auz,auB,auC,hk,hw]
 | true =>
  rw [h1] at hk
  cases h2:fl p with
  | false =>
   rw [h2] at hp
   rw [Bool.false_and,if_neg Bool.false_ne_true]
   simp only [ig,lH,aC,aK,go_sem,auA,auz,auB,auC,hk,hp,hw]
  | true =>
   rw [h2] at hp
   rw [Bool.and_self,if_pos rfl]
   simp only [ig,lH,aC,aK,go_sem,auA,auz,auB,auC,hk,hp,hw,hd,hu,hm]
def K8 (x:Ri):Ri:=if kI x=true then ⟨fR x.hi,fR x.lo,false⟩ else fD
theorem agT {x:Ri} (ox:OkI x):OkI (K8 x):=by
 unfold K8
 split
 ·exact ⟨yY ox.hi,yY ox.lo⟩
 ·exact ⟨bq.2,bq.2⟩
theorem agU {x:Ri} (ox:OkI x):R F.interval_Neg [aC x] []=some (aC (K8 x),[]):=by
 refine aE J6 J5 (DY false) rfl ?_
 have hk:=nO ox
 have hw:=jq
 have h1:R F.dyadic_Neg [ae x.lo] []=some (ae (fR x.lo),[]):=Co ox.lo
 have h2:R F.dyadic_Neg [ae x.hi] []=some (ae (fR x.hi),[]):=Co ox.hi
 unfold K8
 generalize fR x.lo=r at h1 ⊢
 generalize fR x.hi=q at h2 ⊢
 simp only [aC,aK,ae,aj] at hw h1 h2
 cases h0:kI x with
 | false =>
  rw [h0] at hk
  rw [if_neg Bool.false_ne_true]
  simp only [mV,sg,aC,aK,go_sem,auA,auz,auB,auC,hk,hw]
 | true =>
  rw [h0] at hk
  rw [if_pos rfl]
  simp only [mV,sg,aC,aK,go_sem,auA,auz,auB,auC,auD,hk,h1,h2]
def adB (x y:Ri) (p:Int):Ri:=ut x (K8 y) p
theorem agV {x y:Ri} (ox:OkI x) (oy:OkI y) {p:Int}:R F.interval_Sub [aC x,aC y,I p] []=some (aC (adB x y p),[]):=by
 refine aE JO JN (DR false) rfl ?_
 have h1:=agU oy
 have h2:=U0 ox (agT oy) (p:=p)
 unfold adB
 generalize K8 y=z at h1 h2 ⊢
 generalize ut x z p=w at h2 ⊢
 simp only [aC,aK] at h1 h2
 simp only [qT,yB,aC,aK,go_sem,auA,auz,auB,auC,auD,h1,h2]
def OK (x y:Ri):Ri:=if (kI x && kI y)=true then ⟨fA x.lo y.lo,fB x.hi y.hi,false⟩ else fD
theorem adC {x y:Ri} (ox:OkI x) (oy:OkI y):R F.interval_Hull [aC x,aC y] []=some (aC (OK x y),[]):=by
 refine aE HR HQ (BZ false) rfl ?_
 have hk:=Cv ox oy
 have hw:=jq
 have h1:=KX ox.lo oy.lo
 have h2:=KY ox.hi oy.hi
 unfold OK
 generalize fA x.lo y.lo=r at h1 ⊢
 generalize fB x.hi y.hi=q at h2 ⊢
 simp only [aC,aK,ae,aj] at hw h1 h2
 cases h0:(kI x && kI y) with
 | false =>
  rw [h0] at hk
  rw [if_neg Bool.false_ne_true]
  simp only [lI,qV,aC,aK,go_sem,auA,auz,auB,auC,hk,hw]
 | true =>
  rw [h0] at hk
  rw [if_pos rfl]
  simp only [lI,qV,aC,aK,go_sem,auA,auz,auB,auC,auD,hk,h1,h2]
def wR:Ri:=⟨aX,aX,false⟩
def pU (x y:Ri):Ri × Bool:=if (vi x && vi y)=true then (if x.all=true then (y,true) else if y.all=true then (x,true) else if fm (fB x.lo y.lo) (fA x.hi y.hi)≤0 then (⟨fB x.lo y.lo,fA x.hi y.hi,false⟩,true) else (wR,false)) else (wR,false)
theorem adD {x y:Ri} (ox:OkI x) (oy:OkI y):R F.interval_Meet [aC x,aC y] []=some (.tup [aC (pU x y).1,B (pU x y).2],[]):=by
 refine aE HJ HI (BW false) rfl ?_
 have hx:=xx ox
 have hy:=xx oy
 have h1:=KY ox.lo oy.lo
 have h2:=KX ox.hi oy.hi
 have hc:=vF (Gx ox.lo oy.lo) (Gw ox.hi oy.hi)
 rw [show (if vd (fB x.lo y.lo)=true∧vd (fA x.hi y.hi)=true then bR (zI (fB x.lo y.lo)) (zI (fA x.hi y.hi)) else 0)=fm (fB x.lo y.lo) (fA x.hi y.hi) from rfl] at hc
 unfold pU
 generalize fm (fB x.lo y.lo) (fA x.hi y.hi)=cc at hc ⊢
 generalize fB x.lo y.lo=r at h1 hc ⊢
 generalize fA x.hi y.hi=q at h2 hc ⊢
 simp only [aC,aK,ae,aj] at hx hy h1 h2 hc
 cases v1:vi x with
 | false =>
  rw [v1] at hx
  rw [Bool.false_and,if_neg Bool.false_ne_true]
  simp only [dV,fK,aC,aK,wR,aX,go_sem,auA,auz,auB,hx]
  try rfl
 | true =>
  rw [v1] at hx
  cases v2:vi y with
  | false =>
   rw [v2] at hy
   rw [Bool.and_false,if_neg Bool.false_ne_true]
   simp only [dV,fK,aC,aK,wR,aX,go_sem,auA,auz,auB,hx,hy]
   try rfl
  | true =>
   rw [v2] at hy
   rw [Bool.and_self,if_pos rfl]
   cases a1:x.all with
   | true =>
    rw [a1] at hx
    rw [if_pos rfl]
    simp only [dV,fK,aC,aK,go_sem,auA,auz,auB,hx,hy,a1]
   | false =>
    rw [a1] at hx
    rw [if_neg Bool.false_ne_true]
    cases a2:y.all with
    | true =>
     rw [a2] at hy
     rw [if_pos rfl]
     simp only [dV,fK,aC,aK,go_sem,auA,auz,auB,hx,hy,a1,a2]
    | false =>
     rw [a2] at hy
     rw [if_neg Bool.false_ne_true]
     by_cases h3:cc≤0
     ·have e1:(0 < cc)=False:=eq_false (by omega)
      rw [if_pos h3]
      simp only [dV,fK,aC,aK,go_sem,auA,auz,auB,auC,auD,hx,hy,a1,a2,h1,h2,hc,e1]
     ·have e1:(0 < cc)=True:=eq_true (by omega)
      rw [if_neg h3]
      simp only [dV,fK,aC,aK,wR,aX,go_sem,auA,auz,auB,auC,auD,hx,hy,a1,a2,h1,h2,hc,e1]
      try rfl
end Go.Ab
namespace Go.Ab
open Go Go.IntWalk
set_option maxRecDepth 4000
set_option maxHeartbeats 1000000
theorem RN {d:Rd} (h:vd d=true):dk d=(d,0):=by
 unfold dk
 by_cases h0:d.m.length=0
 ·rw [oK h h0]
  rfl
 ·rw [if_pos (wI h h0).2.2.2]
theorem Mq {d:Rd} (ok:Ok0 d) (h:vd d=true):bD d.neg (ac d.m) d.e=d:=by
 have h1:=y6 ok h
 obtain ⟨g1,g2,g3,g4⟩:=dE h ok.lb
 have hz:zI d=bw d.neg (mg d):=rfl
 rw [hz,← vI] at h1
 unfold mg at h1
 rw [lY,show -16384+(((d.e+16384).toNat:Nat):Int)=d.e by omega] at h1
 exact h1
theorem Vi {N k:Nat} {neg:Bool} (ho:N % 2=1) (hb:4096 < ai N):dk (bD neg (N*2 ^ k) (-16384))=(aX,9):=by
 have h0:N ≠ 0:=by omega
 rw [lY]
 obtain ⟨g1,g2,g3,g4⟩:=Ak (neg:=neg) (e:=-16384+(k:Int)) h0
 have ht:=aar ho 0
 rw [Nat.pow_zero,Nat.mul_one] at ht
 unfold dk
 rw [if_neg]
 intro h2
 rw [g1,ht,Nat.pow_zero,Nat.div_one] at h2
 have h3:=(yW h2 (by omega)).1
 omega
theorem RP {a b:Rd} (oa:Ok0 a) (ob:Ok0 b) (va:vd a=true) (vb:vd b=true) (na:a.m.length ≠ 0) (nb:b.m.length ≠ 0) {e:Int} (he:e=if b.e < a.e then b.e else a.e) (h:4097 < aJ a - e) (hg:1 < aJ a - aJ b) :
  dk (dF (zI a+zI b) (-16384))=(aX,9)∧dk (dF (zI b+zI a) (-16384))=(aX,9):=by
 obtain ⟨a1,a2,a3,a4⟩:=dE va oa.lb
 obtain ⟨b1,b2,b3,b4⟩:=dE vb ob.lb
 have e1:=fk va na
 have e2:=fk vb nb
 have he1:-16384≤e∧e≤a.e∧e≤b.e∧(e=a.e∨e=b.e):=by
  rw [he]
  split <;> omega
 have hne:a.e ≠ b.e:=by omega
 have z1:zI a=bw a.neg (ac a.m*2 ^ (a.e - e).toNat*2 ^ (e+16384).toNat):=by
  rw [show zI a=bw a.neg (mg a) from rfl,nM he1.1 he1.2.1]
 have z2:zI b=bw b.neg (ac b.m*2 ^ (b.e - e).toNat*2 ^ (e+16384).toNat):=by
  rw [show zI b=bw b.neg (mg b) from rfl,nM he1.1 he1.2.2.1]
 have bx:(ai (ac a.m*2 ^ (a.e - e).toNat):Int)=aJ a - e:=by
  rw [dw _ (cE va na)]
  omega
 have by':(ai (ac b.m*2 ^ (b.e - e).toNat):Int)=aJ b - e:=by
  rw [dw _ (cE vb nb)]
  omega
 have oX:=Du va na
 have oY:=Du vb nb
 have odd:(ac a.m*2 ^ (a.e - e).toNat+ac b.m*2 ^ (b.e - e).toNat) % 2=1:=by
  rcases he1.2.2.2 with h1 | h1
  ·obtain ⟨k,hk⟩:∃ k,(b.e - e).toNat=k+1:=⟨(b.e - e).toNat - 1,by omega⟩
   rw [show (a.e - e).toNat=0 by omega,hk,Nat.pow_zero,Nat.mul_one,Nat.pow_succ,← Nat.mul_assoc]
   omega
  ·obtain ⟨k,hk⟩:∃ k,(a.e - e).toNat=k+1:=⟨(a.e - e).toNat - 1,by omega⟩
   rw [show (b.e - e).toNat=0 by omega,hk,Nat.pow_zero,Nat.mul_one,Nat.pow_succ,← Nat.mul_assoc]
   omega
 rw [Int.add_comm (zI b),and_self,z1,z2]
 generalize ac a.m*2 ^ (a.e - e).toNat=x at bx odd ⊢
 generalize ac b.m*2 ^ (b.e - e).toNat=y at by' odd ⊢
 generalize (e+16384).toNat=k
 have hx:2 ^ (ai x - 1)≤x:=iV.1 (by omega)
 have hy:y < 2 ^ (ai x - 2):=by
  have h3:y < 2 ^ ai y:=bO.1 (Nat.le_refl _)
  exact Nat.lt_of_lt_of_le h3 (Nat.pow_le_pow_right (by omega) (by omega))
 have hp:2 ^ (ai x - 1)=2 ^ (ai x - 2)*2:=by
  rw [← Nat.pow_succ]
  congr 1
  omega
 have hbig:∀ N:Nat,x - y≤N→4096 < ai N:=fun N hN=>by
  have h5:ai x - 2 < ai N:=iV.2 (by omega)
  omega
 have hsum:∀ (n:Bool) (z:Nat),dF (bw n (z*2 ^ k)) (-16384)=bD n (z*2 ^ k) (-16384):=fun n z=>vI.symm
 have hmul:y*2 ^ k≤x*2 ^ k:=Nat.mul_le_mul_right _ (by omega)
 by_cases hs:a.neg=b.neg
 ·have hz:bw a.neg (x*2 ^ k)+bw b.neg (y*2 ^ k)=bw a.neg ((x+y)*2 ^ k):=by
   rw [← hs,Nat.add_mul]
   cases a.neg
   ·rw [cL,cL,cL]
    omega
   ·rw [cK,cK,cK]
    omega
  rw [hz,hsum]
  exact Vi odd (hbig _ (by omega))
 ·have hbn:b.neg=!a.neg:=by
   cases ha:a.neg <;> cases hb:b.neg <;> first | rfl | (rw [ha,hb] at hs; exact absurd rfl hs)
  have hz:bw a.neg (x*2 ^ k)+bw b.neg (y*2 ^ k)=bw a.neg ((x - y)*2 ^ k):=by
   rw [hbn,Nat.sub_mul]
   cases a.neg
   ·rw [Bool.not_false,cL,cK,cL]
    omega
   ·rw [Bool.not_true,cL,cK,cK]
    omega
  rw [hz,hsum]
  exact Vi (by omega) (hbig _ (Nat.le_refl _))
def kY:Cmd:=.seq (.dops [2,3,4,6,9,10] [fa 65 1 2,ld 66 1 65,fa 67 2 2,ld 68 1 67,cm 69 6,b2 70 .sub 68 69,ca 71 F.dyadic_shifted [.t 66,.t 70],fa 72 1 3,ld 73 1 72,fa 74 2 3,ld 75 1 74,cm 76 6,b2 77 .sub 75 76,ca 78 F.dyadic_shifted [.t 73,.t 77],cm 9 71,cm 10 78] [(6,8),(6,10)]) (.seq (.seq (.ops [2,3,4,6,9,10,83] [fa 79 0 2,ld 80 1 79,fa 81 0 3,ld 82 1 81,co 83 (.eqc false 0 (.t 80) (.t 82))]) (.cond (.t 83) (.seq (.ops [2,4,6,11] [cm 85 9,cm 86 10,ca 87 F.natural_Add [.t 85,.t 86],cm 84 87,co 88 (.ext 0 (.t 84)),co 89 (.ext 1 (.t 84)),cm 11 88,cm 12 89]) (.seq (.ops [4,5] [fa 90 0 2,ld 91 1 90,cm 92 11,cm 93 6,ca 94 F.dyadic_canonical [.t 91,.t 92,.t 93],ca 95 F.dyadic_checked [.t 94],co 96 (.ext 0 (.t 95)),co 97 (.ext 1 (.t 95)),sr 3 (.t 4) (.t 96),cm 5 97]) (.ret))) (.skip))) (.seq (.seq (.ops [2,3,4,6,9,10,101] [cm 98 9,cm 99 10,ca 100 F.natural_Cmp [.t 98,.t 99],co 101 (.bin .lss (.t 100) (.c (I 0)))]) (.cond (.t 101) (.ops [2,4,6,9,10] [la 102 3 3,cm 103 10,cm 104 9,sr 3 (.t 2) (.t 102),cm 9 103,cm 10 104]) (.skip))) (.seq (.ops [2,4,6,13] [cm 106 9,cm 107 10,ca 108 F.natural_Sub [.t 106,.t 107],cm 105 108,co 109 (.ext 0 (.t 105)),co 110 (.ext 1 (.t 105)),cm 13 109,cm 14 110]) (.seq (.ops [4,5] [fa 111 0 2,ld 112 1 111,cm 113 13,cm 114 6,ca 115 F.dyadic_canonical [.t 112,.t 113,.t 114],ca 116 F.dyadic_checked [.t 115],co 117 (.ext 0 (.t 116)),co 118 (.ext 1 (.t 116)),sr 3 (.t 4) (.t 117),cm 5 118]) (.ret)))))
theorem jx:rg=.seq (.ops [2,3,4] [bx 2 3 (.t 0),bx 3 3 (.t 1),al 4 [B false,.emp,I 0],co 5 (.mv (.c (I 0)))]) (.seq (.seq (.ops [2,3,4,24] [fa 15 1 2,ld 16 1 15,co 17 (.len false (.t 16)),co 18 (.bin .eql (.t 17) (.c (I 0))),cm 19 18,cg 20 19 false (.fadr 1 (.t 3)),⟨(some 21),(some (19,false)),.load 1 false (.t 20)⟩,cg 22 19 false (.len false (.t 21)),cg 23 19 false (.bin .eql (.t 22) (.c (I 0))),co 24 (.pick (.t 19) (.c (B true)) (.t 23))]) (.cond (.t 24) (.seq (.seq (.ops [2,3,4,28] [fa 25 1 2,ld 26 1 25,co 27 (.len false (.t 26)),co 28 (.bin .eql (.t 27) (.c (I 0)))]) (.cond (.t 28) (.ops [2,4] [la 29 3 3,sr 3 (.t 2) (.t 29)]) (.skip))) (.seq (.ops [4,5] [fa 30 0 2,ld 31 1 30,fa 32 1 2,ld 33 1 32,fa 34 2 2,ld 35 1 34,ca 36 F.dyadic_canonical [.t 31,.t 33,.t 35],sr 3 (.t 4) (.t 36),co 5 (.mv (.c (I 0)))]) (.ret))) (.skip))) (.seq (.ops [2,3,4,6] [fa 37 2 2,ld 38 1 37,fa 39 2 3,ld 40 1 39,co 41 (.mnx true (.t 38) [.t 40]),cm 6 41]) (.seq (.dops [2,3,4,6,7,8] [la 42 3 2,ca 43 F.dyadic_Top [.t 42],la 44 3 3,ca 45 F.dyadic_Top [.t 44],cm 7 43,cm 8 45] [(1,2)]) (.seq (.seq (.ops [2,3,4,6,63] [cm 46 7,cm 47 8,co 48 (.mnx false (.t 46) [.t 47]),cm 49 6,b2 50 .sub 48 49,co 51 (.bin .gtr (.t 50) (.c (I 4097))),cm 52 51,cg 53 52 true (.mv (.t 7)),cg 54 52 true (.mv (.t 8)),cg 55 52 true (.bin .sub (.t 53) (.t 54)),cg 56 52 true (.bin .gtr (.t 55) (.c (I 1))),cg 57 52 true (.mv (.t 56)),cg 58 57 false (.mv (.t 8)),cg 59 57 false (.mv (.t 7)),cg 60 57 false (.bin .sub (.t 58) (.t 59)),cg 61 57 false (.bin .gtr (.t 60) (.c (I 1))),cg 62 52 true (.pick (.t 57) (.c (B true)) (.t 61)),co 63 (.pick (.t 52) (.t 62) (.c (B false)))]) (.cond (.t 63) (.seq (.ops [4,5] [co 64 (.build [B false,.emp,I 0] []),sr 3 (.t 4) (.t 64),co 5 (.mv (.c (I 9)))]) (.ret)) (.skip))) kY)))):=rfl
theorem Mr {a b:Rd} (oa:Ok0 a) (ob:Ok0 b) (va:vd a=true) (vb:vd b=true) (na:a.m.length ≠ 0) (nb:b.m.length ≠ 0) {e:Int} (he1:-16384≤e∧e≤a.e∧e≤b.e) (hX:aJ a - e≤5000) (hY:aJ b - e≤5000) (s:ag)
  (h2:s 2=.ref 2 none 0 0 0) (h3:s 3=.ref 3 none 0 0 0) (h4:s 4=.ref 4 none 0 0 0) (h6:s 6=I e) :
  gq false [[.o 0 [],.o 2 [],.o 0 []],[]] [.cell 4 3 true,.t 5] 0 (am R (aO false) kY s (upd (upd (upd (fun _=>.dead) 2 (.bx (aj a))) 3 (.bx (aj b))) 4 (.bx [B false,.emp,I 0])))=some (rV (dk (dF (zI a+zI b) (-16384))),[]):=by
 obtain ⟨a1,a2,a3,a4⟩:=dE va oa.lb
 obtain ⟨b1,b2,b3,b4⟩:=dE vb ob.lb
 have e1:=fk va na
 have e2:=fk vb nb
 have w1:IntKind.i64.wrap (a.e - e)=(((a.e - e).toNat:Nat):Int):=wi (by omega) (by omega)
 have w2:IntKind.i64.wrap (b.e - e)=(((b.e - e).toNat:Nat):Int):=wi (by omega) (by omega)
 have z1:zI a=bw a.neg (ac a.m*2 ^ (a.e - e).toNat*2 ^ (e+16384).toNat):=by
  rw [show zI a=bw a.neg (mg a) from rfl,nM he1.1 he1.2.1]
 have z2:zI b=bw b.neg (ac b.m*2 ^ (b.e - e).toNat*2 ^ (e+16384).toNat):=by
  rw [show zI b=bw b.neg (mg b) from rfl,nM he1.1 he1.2.2]
 have bx:ai (ac a.m*2 ^ (a.e - e).toNat)≤5000:=by
  rw [dw _ (cE va na)]
  omega
 have by':ai (ac b.m*2 ^ (b.e - e).toNat)≤5000:=by
  rw [dw _ (cE vb nb)]
  omega
 have l1:=ve oa.lb a1 (k:=(a.e - e).toNat) (by omega) (Nat.le_trans (aV (k:=157) (by omega)) (by decide))
 have l2:=ve ob.lb b1 (k:=(b.e - e).toNat) (by omega) (Nat.le_trans (aV (k:=157) (by omega)) (by decide))
 rw [z1,z2]
 generalize ac a.m*2 ^ (a.e - e).toNat=x at l1 bx ⊢
 generalize ac b.m*2 ^ (b.e - e).toNat=y at l2 by' ⊢
 have hsum:∀ (n:Bool) (z:Nat),bD n z e=dF (bw n (z*2 ^ (e+16384).toNat)) (-16384):=fun n z=>by
  rw [← vI,lY,show -16384+(((e+16384).toNat:Nat):Int)=e by omega]
 have lx:(aq x).length≤157:=aV (by omega)
 have ly:(aq y).length≤157:=aV (by omega)
 have hq:Exq e:=⟨by omega,by omega⟩
 have hcp:=wF (bo x) (bo y) (by omega) (by omega)
 rw [aW,aW] at hcp
 have chk:∀ (n:Bool) (z:Nat),ai z≤5001→R F.dyadic_canonical [B n,lm (aq z),I e] []=some (ae (bD n z e),[])∧R F.dyadic_checked [ae (bD n z e)] []=some (rV (dk (bD n z e)),[]):=fun n z hz=>by
  have hl:(aq z).length≤157:=aV (by omega)
  have c1:=kV (neg:=n) (m:=aq z) (e:=e) (bo z) (by omega) hq
  rw [aW] at c1
  refine ⟨c1,?_⟩
  rw [zY (vG n z e) (Nat.le_trans (Ad (k:=157) (by omega)) (by decide))]
  exact congrArg (fun v=>some (v,[])) (Dk _)
 by_cases hs:a.neg=b.neg
 ·have p1:=UT (x:=x) (y:=y) bx by'
  obtain ⟨c1,c2⟩:=chk a.neg (x+y) (wM bx by')
  have hz:bw a.neg (x*2 ^ (e+16384).toNat)+bw b.neg (y*2 ^ (e+16384).toNat)=bw a.neg ((x+y)*2 ^ (e+16384).toNat):=by
   rw [← hs,Nat.add_mul]
   cases a.neg
   ·rw [cL,cL,cL]
    omega
   ·rw [cK,cK,cK]
    omega
  rw [hz,← hsum]
  generalize bD a.neg (x+y) e=r at c1 c2 ⊢
  generalize dk r=q at c2 ⊢
  obtain ⟨q1,q2⟩:=q
  have hs2:(a.neg == b.neg)=true:=by rw [hs]; exact beq_self_eq_true _
  have hs3:(false != (a.neg == b.neg))=true:=by rw [hs2]; rfl
  simp only [rV,ae,aj] at c1 c2
  simp only [kY,rV,ae,aj,go_sem,auA,auz,auB,auC,auD,h2,h3,h4,h6,w1,w2,l1,l2,hs3,p1,c1,c2]
 ·have hs2:(a.neg == b.neg)=false:=by
   cases ha:a.neg <;> cases hb:b.neg <;> first | rfl | (rw [ha,hb] at hs; exact absurd rfl hs)
  have hs3:(false != (a.neg == b.neg))=false:=by rw [hs2]; rfl
  have hbn:b.neg=!a.neg:=by
   cases ha:a.neg <;> cases hb:b.neg <;> first | rfl | (rw [ha,hb] at hs; exact absurd rfl hs)
  have hb1:∀ u v:Nat,ai u≤5000→ai (u - v)≤5001:=fun u v hu=>Mj (Nat.sub_le u v) (Nat.le_trans hu (by decide))
  by_cases hlt:x < y
  ·have e5:(bK x y < 0)=True:=tt (by unfold bK; rw [if_pos hlt]; decide)
   have m1:=Dl (x:=y) (y:=x) by' bx (by omega)
   obtain ⟨c1,c2⟩:=chk b.neg (y - x) (hb1 _ _ by')
   have hmul:x*2 ^ (e+16384).toNat≤y*2 ^ (e+16384).toNat:=Nat.mul_le_mul_right _ (by omega)
   have hz:bw a.neg (x*2 ^ (e+16384).toNat)+bw b.neg (y*2 ^ (e+16384).toNat)=bw b.neg ((y - x)*2 ^ (e+16384).toNat):=by
    rw [hbn,Nat.sub_mul]
    cases a.neg
    ·rw [Bool.not_false,cL,cK,cK]
     omega
    ·rw [Bool.not_true,cL,cK,cL]
     omega
   rw [hz,← hsum]
   generalize bD b.neg (y - x) e=r at c1 c2 ⊢
   generalize dk r=q at c2 ⊢
   obtain ⟨q1,q2⟩:=q
   simp only [rV,ae,aj] at c1 c2
   simp only [kY,rV,ae,aj,go_sem,auA,auz,auB,auC,auD,h2,h3,h4,h6,w1,w2,l1,l2,hs3,hcp,e5,m1,c1,c2]
  ·have e5:(bK x y < 0)=False:=ff (by unfold bK; rw [if_neg hlt]; split <;> decide)
   have m1:=Dl (x:=x) (y:=y) bx by' (by omega)
   obtain ⟨c1,c2⟩:=chk a.neg (x - y) (hb1 _ _ bx)
   have hmul:y*2 ^ (e+16384).toNat≤x*2 ^ (e+16384).toNat:=Nat.mul_le_mul_right _ (by omega)
   have hz:bw a.neg (x*2 ^ (e+16384).toNat)+bw b.neg (y*2 ^ (e+16384).toNat)=bw a.neg ((x - y)*2 ^ (e+16384).toNat):=by
    rw [hbn,Nat.sub_mul]
    cases a.neg
    ·rw [Bool.not_false,cL,cK,cL]
     omega
    ·rw [Bool.not_true,cL,cK,cK]
     omega
   rw [hz,← hsum]
   generalize bD a.neg (x - y) e=r at c1 c2 ⊢
   generalize dk r=q at c2 ⊢
   obtain ⟨q1,q2⟩:=q
   simp only [rV,ae,aj] at c1 c2
   simp only [kY,rV,ae,aj,go_sem,auA,auz,auB,auC,auD,h2,h3,h4,h6,w1,w2,l1,l2,hs3,hcp,e5,m1,c1,c2]
theorem agW {a b:Rd} (oa:Ok0 a) (ob:Ok0 b) (va:vd a=true) (vb:vd b=true):R F.dyadic_sum [ae a,ae b] []=some (rV (dk (dF (zI a+zI b) (-16384))),[]):=by
 refine aE QK QJ (Ik false) rfl ?_
 by_cases a0:a.m.length=0
 ·have e1:((a.m.length:Int)=0)=True:=tt (by omega)
  have hz:=oK va a0
  obtain ⟨b1,b2,b3,b4⟩:=dE vb ob.lb
  have c1:=kV (neg:=b.neg) (m:=b.m) (e:=b.e) ob.lb (by omega) ⟨by omega,by omega⟩
  have hr:bD b.neg (ac b.m) b.e=b:=Mq ob vb
  have hk:dk (dF (zI a+zI b) (-16384))=(b,0):=by
   rw [gC a0,Int.zero_add,y6 ob vb]
   exact RN vb
  rw [hr] at c1
  rw [hk]
  simp only [ae,aj] at c1
  simp only [fY,rg,rV,ae,aj,go_sem,auA,auz,auB,e1,c1]
 have e1:((a.m.length:Int)=0)=False:=ff (by omega)
 obtain ⟨a1,a2,a3,a4⟩:=dE va oa.lb
 by_cases b0:b.m.length=0
 ·have e2:((b.m.length:Int)=0)=True:=tt (by omega)
  have c1:=kV (neg:=a.neg) (m:=a.m) (e:=a.e) oa.lb (by omega) ⟨by omega,by omega⟩
  have hr:bD a.neg (ac a.m) a.e=a:=Mq oa va
  have hk:dk (dF (zI a+zI b) (-16384))=(a,0):=by
   rw [gC b0,Int.add_zero,y6 oa va]
   exact RN va
  rw [hr] at c1
  rw [hk]
  simp only [ae,aj] at c1
  simp only [fY,rg,rV,ae,aj,go_sem,auA,auz,auB,e1,e2,c1]
 have e2:((b.m.length:Int)=0)=False:=ff (by omega)
 obtain ⟨b1,b2,b3,b4⟩:=dE vb ob.lb
 have ta:=tJ oa
 have tb:=tJ ob
 have q1:=fk va a0
 have q2:=fk vb b0
 have p1:=fj (cE va a0)
 have p2:=fj (cE vb b0)
 simp only [ae,aj] at ta tb
 have g1:=fun h2 h3=>(RP oa ob va vb a0 b0 rfl h2 h3).1
 have g2:=fun h2 h3=>(RP ob oa vb va b0 a0 rfl h2 h3).2
 obtain ⟨e,he⟩:∃ e,(if b.e < a.e then b.e else a.e)=e:=⟨_,rfl⟩
 have he2:(if a.e < b.e then a.e else b.e)=e:=by
  rw [← he]
  by_cases h:b.e < a.e
  ·rw [if_pos h,if_neg (by omega)]
  ·rw [if_neg h]
   by_cases h2:a.e < b.e
   ·rw [if_pos h2]
   ·rw [if_neg h2]
    omega
 rw [he] at g1
 rw [he2] at g2
 have he1:-16384≤e∧e≤a.e∧e≤b.e:=by
  split at he <;> omega
 obtain ⟨M,hM⟩:∃ M,(if aJ a < aJ b then aJ b else aJ a)=M:=⟨_,rfl⟩
 have hM1:aJ a≤M∧aJ b≤M∧(M=aJ a∨M=aJ b):=by
  split at hM <;> omega
 have w1:IntKind.i64.wrap (M - e)=M - e:=i64_in _ ⟨by omega,by omega⟩
 have w2:IntKind.i64.wrap (aJ a - aJ b)=aJ a - aJ b:=i64_in _ ⟨by omega,by omega⟩
 have w3:IntKind.i64.wrap (aJ b - aJ a)=aJ b - aJ a:=i64_in _ ⟨by omega,by omega⟩
 by_cases h1:4097 < M - e
 ·have f1:(4097 < M - e)=True:=tt h1
  by_cases h2:1 < aJ a - aJ b
  ·have f2:(1 < aJ a - aJ b)=True:=tt h2
   rw [g1 (by omega) h2]
   simp only [fY,jx,rV,aX,ae,aj,go_sem,auA,auz,auB,auC,auD,e1,e2,he,ta,tb,hM,w1,w2,f1,f2]
  ·have f2:(1 < aJ a - aJ b)=False:=ff h2
   by_cases h3:1 < aJ b - aJ a
   ·have f3:(1 < aJ b - aJ a)=True:=tt h3
    rw [g2 (by omega) h3]
    simp only [fY,jx,rV,aX,ae,aj,go_sem,auA,auz,auB,auC,auD,e1,e2,he,ta,tb,hM,w1,w2,w3,f1,f2,f3]
   ·have f3:(1 < aJ b - aJ a)=False:=ff h3
    simp only [fY,jx,rV,ae,aj,go_sem,auA,auz,auB,auC,auD,e1,e2,he,ta,tb,hM,w1,w2,w3,f1,f2,f3]
    exact Mr oa ob va vb a0 b0 he1 (by omega) (by omega) _ rfl rfl rfl rfl
 ·have f1:(4097 < M - e)=False:=ff h1
  simp only [fY,jx,rV,ae,aj,go_sem,auA,auz,auB,auC,auD,e1,e2,he,ta,tb,hM,w1,f1]
  exact Mr oa ob va vb a0 b0 he1 (by omega) (by omega) _ rfl rfl rfl rfl
theorem agX {a b:Rd} (oa:Ok0 a) (ob:Ok0 b):R F.dyadic_Add [ae a,ae b] []=some (rV (nR a b),[]):=by
 refine aE Qj Qi (H0 false) rfl ?_
 have v1:=eF oa
 have v2:=eF ob
 simp only [ae,aj] at v1 v2
 unfold nR
 cases va:vd a with
 | false =>
  rw [va] at v1
  rw [Bool.false_and,if_neg Bool.false_ne_true]
  simp only [mh,qZ,rV,aX,ae,aj,go_sem,auA,auz,auB,v1]
 | true =>
  rw [va] at v1
  cases vb:vd b with
  | false =>
   rw [vb] at v2
   rw [Bool.and_false,if_neg Bool.false_ne_true]
   simp only [mh,qZ,rV,aX,ae,aj,go_sem,auA,auz,auB,v1,v2]
  | true =>
   rw [vb] at v2
   have hs:=agW oa ob va vb
   rw [Bool.and_self,if_pos rfl]
   generalize dk (dF (zI a+zI b) (-16384))=q at hs ⊢
   obtain ⟨q1,q2⟩:=q
   simp only [rV,ae,aj] at hs
   simp only [mh,qZ,rV,ae,aj,go_sem,auA,auz,auB,v1,v2,hs]
end Go.Ab
namespace Go.Ab
open Go Go.IntWalk
theorem Ms:∀ {a b:List Int},a.length=b.length→js b a=- js a b
 | [],[],_=>rfl
 | x::a,y::b,h=>by
  unfold js
  rcases pT x y with ⟨g,e⟩ | ⟨g,e⟩ | ⟨g,e⟩ <;> rcases pT y x with ⟨g',e'⟩ | ⟨g',e'⟩ | ⟨g',e'⟩ <;> rw [e,e'] <;> first | omega | (simp; done) | skip
  rw [if_pos rfl,if_pos rfl]
  exact Ms (by simpa using h)
 | [],_::_,h=>by simp at h
 | _::_,[],h=>by simp at h
theorem Vj:∀ {a b c:List Int},a.length=b.length→b.length=c.length→(js a b≤0→js b c < 0→js a c < 0)∧(js a b < 0→js b c≤0→js a c < 0)
 | [],[],[],_,_=>⟨fun _ h=>by simp [js] at h,fun h _=>by simp [js] at h⟩
 | x::a,y::b,z::c,h,h'=>by
  have ih:=Vj (a:=a) (b:=b) (c:=c) (by simpa using h) (by simpa using h')
  unfold js
  rcases pT x y with ⟨g,e⟩ | ⟨g,e⟩ | ⟨g,e⟩ <;> rcases pT y z with ⟨g',e'⟩ | ⟨g',e'⟩ | ⟨g',e'⟩ <;> rcases pT x z with ⟨g2,e2⟩ | ⟨g2,e2⟩ | ⟨g2,e2⟩ <;> rw [e,e',e2] <;> first | omega | skip
  all_goals simp
  all_goals first | exact ih | omega
 | [],[],_::_,_,h=>by simp at h
 | [],_::_,_,h,_=>by simp at h
 | _::_,[],_,h,_=>by simp at h
 | _::_,_::_,[],_,h=>by simp at h
theorem CE {a b:List Int} (h:a.length=b.length):ce b a=- ce a b:=by
 unfold ce
 rcases pT (bV a) (bV b) with ⟨g,e⟩ | ⟨g,e⟩ | ⟨g,e⟩ <;> rcases pT (bV b) (bV a) with ⟨g',e'⟩ | ⟨g',e'⟩ | ⟨g',e'⟩ <;> rw [e,e'] <;> first | omega | (simp; done) | skip
 rw [if_pos rfl,if_pos rfl]
 exact Ms h.symm
theorem K9 {a b c:List Int} (h:a.length=b.length) (h':b.length=c.length):(ce a b≤0→ce b c < 0→ce a c < 0)∧(ce a b < 0→ce b c≤0→ce a c < 0):=by
 have ih:=Vj (a:=c) (b:=b) (c:=a) h'.symm h.symm
 unfold ce
 rcases pT (bV a) (bV b) with ⟨g,e⟩ | ⟨g,e⟩ | ⟨g,e⟩ <;> rcases pT (bV b) (bV c) with ⟨g',e'⟩ | ⟨g',e'⟩ | ⟨g',e'⟩ <;> rcases pT (bV a) (bV c) with ⟨g2,e2⟩ | ⟨g2,e2⟩ | ⟨g2,e2⟩ <;> rw [e,e',e2] <;> first | omega | skip
 all_goals simp
 all_goals first | exact ⟨fun x y=>ih.2 y x,fun x y=>ih.1 y x⟩ | omega
structure VT (v:Int) (t:Rt):Prop where
 c:Ok0 t.c
 len:(t.exps.length:Int)=v
 v8:v≤8
 vc:vd t.c=true
 nz:t.c.m.length ≠ 0
 b:∀ e ∈ t.exps,0≤e∧e≤32
 d:bV t.exps≤32
theorem VT.sm {v:Int} {t:Rt} (h:VT v t):sm t.exps:=⟨by have:=h.len; have:=h.v8; omega,h.b⟩
theorem VT.ok {v:Int} {t:Rt} (h:VT v t):OkT t:=⟨h.c,by have:=h.len; have:=h.v8; omega⟩
theorem VT.l2 {v:Int} {t q:Rt} (h:VT v t) (h2:VT v q):t.exps.length=q.exps.length:=by have:=h.len; have:=h2.len; omega
structure Cl (v:Int) (l:List Rt):Prop where
 t:∀ t ∈ l,VT v t
 s:l.Pairwise fun a b=>ce a.exps b.exps < 0
theorem Cl.nil (v:Int):Cl v []:=⟨(fun _ h=>nomatch h),List.Pairwise.nil⟩
theorem Cl.cons {v:Int} {q:Rt} {l:List Rt} (h:Cl v (q::l)):VT v q∧(∀ t ∈ l,ce q.exps t.exps < 0)∧Cl v l :=
 ⟨h.t q (by simp),(List.pairwise_cons.1 h.s).1,fun t ht=>h.t t (by simp [ht]),(List.pairwise_cons.1 h.s).2⟩
theorem Cl.mk' {v:Int} {q:Rt} {l:List Rt} (h1:VT v q) (h2:∀ t ∈ l,ce q.exps t.exps < 0) (h3:Cl v l):Cl v (q::l) :=
 ⟨fun t ht=>(List.mem_cons.1 ht).elim (fun e=>e ▸ h1) (h3.t t),List.pairwise_cons.2 ⟨h2,h3.s⟩⟩
theorem aaB {v:Int} (hv:v≤8):∀ (l:List Rt) (pr:Option Rt),(∀ t ∈ l,OkT t)→wN v pr l=true→Cl v l∧∀ q,pr=some q→(q.exps.length:Int)=v→∀ t ∈ l,ce q.exps t.exps < 0
 | [],pr,_,_=>⟨Cl.nil v,fun _ _ _ t ht=>by cases ht⟩
 | t::l,pr,ok,h=>by
  unfold wN at h
  simp only [Bool.and_eq_true] at h
  obtain ⟨h1,h2,h3⟩:=h
  obtain ⟨g1,g2⟩:=aaB hv l (some t) (fun x hx=>ok x (by simp [hx])) h3
  obtain ⟨k1,k2,k3,k4,k5⟩:=wO h1
  have vt:VT v t:=⟨(ok t (by simp)).c,k1,hv,k2,k3,oO k4,k5⟩
  have gt:=g2 t rfl k1
  refine ⟨Cl.mk' vt gt g1,fun q hq hl x hx=>?_⟩
  subst hq
  unfold Gz at h2
  have h4:=of_decide_eq_true h2
  rcases List.mem_cons.1 hx with rfl | hx
  ·exact h4
  ·exact (K9 (by omega) (vt.l2 (g1.t x hx))).1 (by omega) (gt x hx)
theorem alH {a:Rp} (oa:OkP a) (h:vp a=true):Cl a.vars a.terms∧0≤a.vars∧a.vars≤8∧a.terms.length≤500:=by
 unfold vp at h
 simp only [Bool.and_eq_true,decide_eq_true_eq] at h
 exact ⟨(aaB h.2.1 _ none oa.t h.2.2.2).1,h.1,h.2.1,h.2.2.1⟩
def bL:List Rt→List Int→Nat
 | [],_=>0
 | q::l,x=>if ce q.exps x < 0 then bL l x+1 else 0
def sK:List Rt→Rt→Option (List Rt)
 | [],t=>some [t]
 | q::l,t=>if ce q.exps t.exps < 0 then (sK l t).map (q::·) else if ce q.exps t.exps=0 then (if (nR q.c t.c).2=0 then some (if (nR q.c t.c).1.m.length=0 then l else ⟨q.exps,(nR q.c t.c).1⟩::l) else none) else some (t::q::l)
theorem Dw:∀ (l:List Rt) (x:List Int),bL l x≤l.length
 | [],x=>Nat.le_refl _
 | q::l,x=>by
  unfold bL
  split
  ·exact Nat.succ_le_succ (Dw l x)
  ·exact Nat.zero_le _
theorem Vk:∀ {l:List Rt} {x:List Int} {i:Nat} {q:Rt},i < bL l x→l[i]?=some q→ce q.exps x < 0
 | [],x,i,q,h,_=>by simp [bL] at h
 | p::l,x,i,q,h,hq=>by
  unfold bL at h
  split at h
  ·rename_i hc
   cases i with
   | zero=>cases hq; exact hc
   | succ i=>exact Vk (l:=l) (i:=i) (by omega) (by simpa using hq)
  ·omega
theorem La:∀ {l:List Rt} {x:List Int} {q:Rt},l[bL l x]?=some q→0≤ce q.exps x
 | [],x,q,h=>by simp at h
 | p::l,x,q,h=>by
  unfold bL at h
  split at h
  ·exact La (l:=l) (by simpa using h)
  ·rename_i hc
   cases h
   omega
theorem agY {v:Int} {l:List Rt} {x:List Int} (c:Cl v l) (hx:(x.length:Int)=v) {i:Nat} {q:Rt} (hi:bL l x < i) (h:l[i]?=some q):0 < ce q.exps x:=by
 have hlt:=(List.getElem?_eq_some_iff.1 h).1
 have h1:l[bL l x]?=some l[bL l x]:=List.getElem?_eq_getElem (by omega)
 have h2:=La h1
 have h3:=(List.getElem?_eq_some_iff.1 h).2
 have h4:ce (l[bL l x]).exps q.exps < 0:=by
  rw [← h3]
  exact List.pairwise_iff_getElem.1 c.s _ _ (by omega) hlt hi
 have v1:=c.t _ (List.getElem_mem (by omega:bL l x < l.length))
 have v2:=c.t q (List.mem_of_getElem? h)
 generalize l[bL l x]=p at *
 have l1:x.length=p.exps.length:=by have:=v1.len; omega
 have h5:=(K9 l1 (v1.l2 v2)).1 (by rw [CE l1.symm]; omega) h4
 rw [CE (by have:=v2.len; omega:x.length=q.exps.length)]
 omega
theorem Vl:∀ (l:List Rt) (t:Rt),sK l t=match l[bL l t.exps]? with
  | none=>some (l.take (bL l t.exps)++t::l.drop (bL l t.exps))
  | some q=>if ce q.exps t.exps=0 then (if (nR q.c t.c).2=0 then some (if (nR q.c t.c).1.m.length=0 then l.take (bL l t.exps)++l.drop (bL l t.exps+1) else l.set (bL l t.exps) ⟨q.exps,(nR q.c t.c).1⟩) else none) else some (l.take (bL l t.exps)++t::l.drop (bL l t.exps))
 | [],t=>rfl
 | q::l,t=>by
  unfold sK bL
  by_cases h:ce q.exps t.exps < 0
  ·simp only [if_pos h,List.getElem?_cons_succ]
   rw [Vl l t]
   cases l[bL l t.exps]? with
   | none=>rfl
   | some p =>
    simp only []
    split
    ·split
     ·split <;> rfl
     ·rfl
    ·rfl
  ·simp only [if_neg h,List.getElem?_cons_zero,List.take_zero,List.drop_zero,List.nil_append,List.set_cons_zero,Nat.zero_add,List.drop_one,List.tail_cons]
theorem Lc {v:Int}:∀ {l l':List Rt} {t:Rt},Cl v l→VT v t→sK l t=some l'→Cl v l'∧∀ q:List Int,(q.length:Int)=v→(∀ x ∈ l,ce q x.exps < 0)→ce q t.exps < 0→∀ x ∈ l',ce q x.exps < 0
 | [],l',t,c,vt,h=>by
  cases h
  exact ⟨Cl.mk' vt (fun _ h=>by cases h) c,fun q _ _ h x hx=>by simp at hx; subst hx; exact h⟩
 | p::l,l',t,c,vt,h=>by
  obtain ⟨c1,c2,c3⟩:=c.cons
  unfold sK at h
  split at h
  ·rename_i h1
   rw [Option.map_eq_some_iff] at h
   obtain ⟨l2,h2,rfl⟩:=h
   obtain ⟨g1,g2⟩:=Lc c3 vt h2
   refine ⟨Cl.mk' c1 (g2 p.exps c1.len c2 h1) g1,fun q hq k1 k2 x hx=>?_⟩
   rcases List.mem_cons.1 hx with rfl | hx
   ·exact k1 x (by simp)
   ·exact g2 q hq (fun y hy=>k1 y (by simp [hy])) k2 x hx
  ·split at h
   ·rename_i h1 h2
    split at h
    ·rename_i h3
     cases h
     split
     ·exact ⟨c3,fun q hq k1 k2 x hx=>k1 x (by simp [hx])⟩
     ·rename_i h4
      obtain ⟨a1,a2⟩:=agO p.c t.c
      refine ⟨Cl.mk' ⟨a2,c1.len,c1.v8,a1,h4,c1.b,c1.d⟩ c2 c3,fun q hq k1 k2 x hx=>?_⟩
      rcases List.mem_cons.1 hx with rfl | hx
      ·exact k1 p (by simp)
      ·exact k1 x (by simp [hx])
    ·cases h
   ·rename_i h1 h2
    cases h
    have h3:ce t.exps p.exps < 0:=by
     rw [CE (c1.l2 vt)]
     omega
    refine ⟨Cl.mk' vt (fun x hx=>?_) c,fun q hq k1 k2 x hx=>?_⟩
    ·rcases List.mem_cons.1 hx with rfl | hx
     ·exact h3
     ·exact (K9 (vt.l2 c1) (c1.l2 (c3.t x hx))).1 (by omega) (c2 x hx)
    ·rcases List.mem_cons.1 hx with rfl | hx
     ·exact k2
     ·exact k1 x hx
theorem GE:∀ {l l':List Rt} {t:Rt},sK l t=some l'→l'.length≤l.length+1
 | [],l',t,h=>by cases h; simp
 | p::l,l',t,h=>by
  unfold sK at h
  split at h
  ·rw [Option.map_eq_some_iff] at h
   obtain ⟨l2,h2,rfl⟩:=h
   simpa using GE h2
  ·split at h
   ·split at h
    ·cases h
     split
     ·simp
      omega
     ·simp
    ·cases h
   ·cases h
    simp
def uu:List Rt→List Rt→Option (List Rt)
 | l,[]=>some l
 | l,t::ts=>(sK l t).bind fun l'=>uu l' ts
theorem RQ:∀ (ts us:List Rt) (l:List Rt),uu l (ts++us)=(uu l ts).bind fun l'=>uu l' us
 | [],us,l=>rfl
 | t::ts,us,l=>by
  show (sK l t).bind _=((sK l t).bind _).bind _
  cases sK l t with
  | none=>rfl
  | some l'=>exact RQ ts us l'
theorem Vm {v:Int}:∀ {ts l l':List Rt},Cl v l→(∀ t ∈ ts,VT v t)→uu l ts=some l'→Cl v l'∧l'.length≤l.length+ts.length
 | [],l,l',c,_,h=>by cases h; exact ⟨c,Nat.le_refl _⟩
 | t::ts,l,l',c,vt,h=>by
  unfold uu at h
  rw [Option.bind_eq_some_iff] at h
  obtain ⟨l2,h2,h3⟩:=h
  obtain ⟨g1,g2⟩:=Vm (Lc c (vt t (by simp)) h2).1 (fun x hx=>vt x (by simp [hx])) h3
  have:=GE h2
  exact ⟨g1,by simp; omega⟩
section
variable {call:dG} {md:Mode} {s:ag} {h:ab}
@[go_sem] theorem asn (d k x y rest):aF call md (⟨some d,none,.cpy k x y⟩::rest) s h=bc (cz md.nm s (some d) (Jq h k (ev s x) (ev s y))) (aF call md rest):=_root_.id rfl
@[go_sem] theorem aps (d k x lo hi rest):aF call md (⟨some d,none,.slcM k x lo hi⟩::rest) s h=bc (cz md.nm s (some d) (C4 h k (ev s x) (evo s lo) (evo s hi))) (aF call md rest):=_root_.id rfl
@[go_sem] theorem aso (d k z x rest):aF call md (⟨d,none,.clr k z x⟩::rest) s h=bc (cz md.nm s d (Jr h k z (ev s x))) (aF call md rest):=_root_.id rfl
@[go_sem] theorem apt (d k b z x n rest):aF call md (⟨some d,none,.appz k b z x n⟩::rest) s h=bc (cz md.nm s (some d) (C5 h d k b z (ev s x) (ev s n))) (aF call md rest):=_root_.id rfl
@[go_sem] theorem apu (d x rest):aF call md (⟨some d,none,.take x⟩::rest) s h=bc (cz md.nm s (some d) (GW h d (ev s x))) (aF call md rest):=_root_.id rfl
@[go_sem] theorem anS (d f zas rest):aF call md (⟨some d,none,.callC f zas⟩::rest) s h=bc (cz md.nm s (some d) ((bA call md h d (zas.map (ev s)) (ev s f)).bind (qF d))) (aF call md rest):=_root_.id rfl
@[go_sem] theorem apv (ps acc d k x y rest):bY call md ps acc (⟨some d,none,.cpy k x y⟩::rest) s h=fI call md ps acc rest s (some d) (fun _=>none) (Jq h k (ev s x) (ev s y)):=dp _ _ _ _ rfl
@[go_sem] theorem apw (ps acc d k b x y rest):bY call md ps acc (⟨some d,none,.app k b x y⟩::rest) s h=fI call md ps acc rest s (some d) (fun _=>none) (Jp h d k b (ev s x) (ev s y)):=dp _ _ _ _ rfl
@[go_sem] theorem alI (ps acc d f zas rest):bY call md ps acc (⟨some d,none,.callC f zas⟩::rest) s h=fI call md ps acc rest s (some d) (fun _=>Bi d h (jJ (zas.map (ev s)) (ev s f))) ((bA call md h d (zas.map (ev s)) (ev s f)).bind (qF d)):=dp _ _ _ _ rfl
@[go_sem] theorem anT (d h l):Bi d h l=if l.all dat=true then some ([],[2000+8*d]) else none:=_root_.id rfl
@[go_sem] theorem asp (d k r h ks):qF d (.sl k r,h,ks)=some (.sl k r,h,ks):=_root_.id rfl
@[go_sem] theorem apx (d h ks):qF d (.emp,h,ks)=some (.emp,h,ks):=_root_.id rfl
@[go_sem] theorem apy (d id k lo n h ks):qF d (.rsl id none k lo n,h,ks)=if id=2000+8*d then (kB h id k lo n (h id)).map (fun q=>(q.1,q.2.1,ks++q.2.2)) else none:=_root_.id rfl
@[go_sem] theorem asq (h k id k' lo n y):Jq h k (.rsl id none k' lo n) y=(OW y).bind fun l=>(nT h k (OV n y)).bind fun ys=>OX h id k k' lo n l ys (h id):=_root_.id rfl
@[go_sem] theorem asr (k r):OW (.sl k r)=some r.length:=_root_.id rfl
@[go_sem] theorem apz (id sub k lo n):OW (.rsl id sub k lo n)=some n:=_root_.id rfl
@[go_sem] theorem ass (m k r):OV m (.sl k r)=.sl k (r.take m):=_root_.id rfl
@[go_sem] theorem apA (m id sub k lo n):OV m (.rsl id sub k lo n)=.rsl id sub k lo (min m n):=_root_.id rfl
@[go_sem] theorem ast (h id k lo n l ys r):OX h id k k lo n l ys (.ar k r)=if lo≤r.length∧ys.length=min l n then some (.v (.int .i64 ys.length),upd h id (.ar k (r.take lo++ys++r.drop (lo+ys.length))),[]) else none:=by simp [OX]
@[go_sem] theorem apB (h k id l0 n lo hi):C4 h k (.rsl id none k l0 n) lo hi=GU h k id l0 lo hi (h id):=by simp [C4]
@[go_sem] theorem apC (h k id l0 lo hi r):GU h k id l0 lo hi (.ar k r)=if hi.isSome=true∧l0≤r.length then (jA (r.length - l0) lo hi none).map fun p=>(.rsl id none k (l0+p.1) (p.2 - p.1),h,[]) else none:=by simp [GU]
@[go_sem] theorem asu (h k z id lo n):Jr h k z (.rsl id none k lo n)=OY h k id lo n z (h id):=by simp [Jr]
@[go_sem] theorem asv (h k id lo n z r):OY h k id lo n z (.ar k r)=if lo+n≤r.length then some (.tup [],upd h id (.ar k (r.take lo++List.replicate n z++r.drop (lo+n))),[]) else none:=by simp [OY]
@[go_sem] theorem apD (h d k b z id i c m):C5 h d k b z (.rsc id k 0 i c) (.v (.int .i64 m))=if 0 < m∧c < i+m.toNat then GV h d k b id i m.toNat z (h id) else none:=by simp [C5]
@[go_sem] theorem apE (h d k b id i m z r):GV h d k b id i m z (.ar k r)=if i≤r.length∧(i+m)*b≤140737488355328 then cG h d k (r.take i++List.replicate m z) (i+m) [] else none:=by simp [GV]
@[go_sem] theorem asw (id k lo n c):ky false (.rsc id k lo n c)=some (I n):=_root_.id rfl
@[go_sem] theorem asx (id k lo n c):OT (.rsc id k lo n c)=some (I c):=_root_.id rfl
@[go_sem] theorem asy (k id l0 n c lo hi mx):eO k (.rsc id k l0 n c) lo hi mx=OQ k id l0 n c lo hi mx:=by simp [eO]
@[go_sem] theorem asz (k id l0 n c x):OQ k id l0 n c none (some x) none=(iW n c (some x)).map fun r=>.rsc id k l0 r c:=_root_.id rfl
@[go_sem] theorem asA (k id l0 n c x hi):OQ k id l0 n c (some x) hi none=(jA n (some x) hi none).map fun p=>.rsl id none k (l0+p.1) (p.2 - p.1):=_root_.id rfl
@[go_sem] theorem asB (ks id k lo n c):mQ ks (.rsc id k lo n c)=if fF ks id none=true then .any else .rsc id k lo n c:=_root_.id rfl
@[go_sem] theorem apF (h d id k i j):GW h d (.ref id none k i j)=Oo h d id (i*k+j) (h id):=_root_.id rfl
@[go_sem] theorem apG (h d id p cs):Oo h d id p (.bx cs)=C6 h d id p cs cs[p]?:=_root_.id rfl
@[go_sem] theorem anU (h d id p cs k r):C6 h d id p cs (some (.osl k r))=cG (upd h id (.bx (cs.set p .any))) d k r r.length [(id,true)]:=_root_.id rfl
@[go_sem] theorem anV (h d id p cs):C6 h d id p cs (some .emp)=some (.emp,h,[]):=_root_.id rfl
@[go_sem] theorem apH (nm:Bool) (s h):rT nm [] s h=some ⟨s,h⟩:=_root_.id rfl
@[go_sem] theorem anW (nm:Bool) (i l s h):rT nm (i::l) s h=if 200000≤i then (Jt (i - 200000) s h (s (i - 200000))).bind (fun r=>if lA nm r.2.2 then rT nm l r.1 r.2.1 else none) else if 100000≤i then rT nm l s (C7 h (s (i - 100000))) else (VK i s h (s i)).bind fun r=>if lA nm r.2.2 then rT nm l r.1 r.2.1 else none:=_root_.id rfl
@[go_sem] theorem alJ (ks):lA false ks=true:=_root_.id rfl
@[go_sem] theorem asC (i s h id k lo n):Jt i s h (.rsl id none k lo n)=Bj i s h id k lo n (h id):=_root_.id rfl
@[go_sem] theorem asD (i s h id k lo n c):Jt i s h (.rsc id k lo n c)=Bj i s h id k lo n (h id):=_root_.id rfl
@[go_sem] theorem asE (i s h id k lo n r):Bj i s h id k lo n (.ar k r)=if lo=0∧aY i=false∧cf (h i)=true then some (upd (gl [(id,false)] s) i (.rsl i none k 0 n),upd (upd h id .dead) i (.ar k r),[(id,false)]) else none:=by simp [Bj]
@[go_sem] theorem apI (h id k lo n):C7 h (.rsl id none k lo n)=(match h id with | .ar k rows=>upd h id (.ar k (rows.take (lo+n))) | _=>h):=_root_.id rfl
@[go_sem] theorem asF (nm:Bool) (s h):mS nm 0 s h=some ⟨s,h⟩:=_root_.id rfl
@[go_sem] theorem asG (nm:Bool) (i s h):mS nm (i+1) s h=(LK i s h (s i)).bind fun r=>if lA nm r.2.2 then some ⟨r.1,r.2.1⟩ else none:=_root_.id rfl
@[go_sem] theorem asH (i s h):LK i s h .emp=some (s,h,[]):=_root_.id rfl
@[go_sem] theorem asI (i s h id p k lo n):LK i s h (.rsl id (some p) k lo n)=if aY i=false then Uk i s h id p k lo n (h id) else none:=_root_.id rfl
@[go_sem] theorem at7 (i s h id p k lo n cs):Uk i s h id p k lo n (.bx cs)=G1 i s h id p k lo n cs cs[p]?:=_root_.id rfl
@[go_sem] theorem asJ (i s h id p k lo n cs r):G1 i s h id p k lo n cs (some (.osl k r))=if lo=0∧n=r.length∧cf (h i)=true then some (upd (gl [(id,true)] s) i (.rsl i none k 0 n),upd (upd h id (.bx (cs.set p .any))) i (.ar k r),[(id,true)]) else none:=by simp [G1]
@[go_sem] theorem asK (m g ps l):ach call md m g ps l s h=bc (bY call md ps [] (l.take m) s h) fun s h=>bc (mS md.nm g s h) (aF call md (l.drop m)):=_root_.id rfl
end
end Go.Ab
namespace Go.Ab
open Go Go.IntWalk
set_option maxRecDepth 4000
set_option maxHeartbeats 1000000
theorem Vn {t:Rt} {x:List Int} (ht:sm t.exps) (hx:sm x) (hl:t.exps.length=x.length):R F.poly_collector_add_1 [.agg (cw t),.sl 1 (be x)] []=some (I (ce t.exps x),[]):=by
 refine aE ya x9 (uW false) rfl ?_
 have ho:=Rx ht hx hl
 simp only [jD,pz,cw,go_sem,auA,auz,ho]
theorem agZ {v:Int} {l:List Rt} {x:List Int} (c:Cl v l) (hx:sm x) (hl:(x.length:Int)=v) (h2:l.length≤1000000):∀ (k i j:Nat),j - i≤k→i≤bL l x→bL l x≤j→j≤l.length→∀ (s:ag) (h:ab),s 0=.sl 4 (bp l)→s 1=.sl 1 (be x)→s 2=.fn F.poly_collector_add_1 [] []→s 8=I l.length→s 9=I i→s 10=I j →
  aB 0 [0,1,2,8,9] (aD (am R (aO false) bv) [0,1,2,8,9,10] [] s h)=some (.normal,⟨upd (upd (upd (upd (upd (fun _=>.any) 9 (I (bL l x))) 8 (I l.length)) 2 (.fn F.poly_collector_add_1 [] [])) 1 (.sl 1 (be x))) 0 (.sl 4 (bp l)),fun _=>.dead⟩):=by
 intro k
 induction k with
 | zero =>
  intro i j hk hi hj hn s h h0 h1 h2' h8 h9 h10
  have e1:((i:Int) < (j:Int))=False:=ff (by omega)
  obtain rfl:i=bL l x:=by omega
  rw [ao]
  simp only [bv,go_sem,h0,h1,h2',h8,h9,h10,e1]
 | succ k ih =>
  intro i j hk hi hj hn s h h0 h1 h2' h8 h9 h10
  by_cases hij:i < j
  ·have e1:((i:Int) < (j:Int))=True:=tt (by omega)
   have e2:IntKind.i64.wrap ((i:Int)+(j:Int))=((i+j:Nat):Int):=wi (by omega) (by omega)
   have hlt:(i+j) / 2 < l.length:=by omega
   have g1:IntKind.u64.wrap (((i+j:Nat)):Int)=((i+j:Nat):Int):=gj rfl (by omega)
   have g2:((1:Int) < 0)=False:=ff (by decide)
   have g3:Int.fdiv ((i+j:Nat):Int) (2 ^ (min (Int.toNat 1) 64))=(((i+j) / 2:Nat):Int):=by
    rw [show (2:Int) ^ (min (Int.toNat 1) 64)=2 from rfl,Int.fdiv_eq_ediv_of_nonneg _ (by decide)]
    omega
   have g4:IntKind.i64.wrap (((i+j) / 2:Nat):Int)=(((i+j) / 2:Nat):Int):=wi (by omega) (by omega)
   have e3:bu (bp l) (((i+j) / 2:Nat):Int)=some (.ipt (cw l[(i+j) / 2])):=oN rfl (List.getElem?_eq_getElem hlt)
   have q:=c.t _ (List.getElem_mem hlt)
   have hc:=Vn q.sm hx (by have:=q.len; omega)
   have p1:ce (l[(i+j) / 2]).exps x < 0→(i+j) / 2 < bL l x:=fun ho=>by
    rcases Nat.lt_trichotomy ((i+j) / 2) (bL l x) with h | h | h
    ·exact h
    ·have:=La (l:=l) (x:=x) (q:=l[(i+j) / 2]) (by rw [← h]; exact List.getElem?_eq_getElem hlt)
     omega
    ·have:=agY c hl h (List.getElem?_eq_getElem hlt)
     omega
   have p2:¬ ce (l[(i+j) / 2]).exps x < 0→bL l x≤(i+j) / 2:=fun ho=>by
    rcases Nat.lt_or_ge ((i+j) / 2) (bL l x) with h | h
    ·exact absurd (Vk h (List.getElem?_eq_getElem hlt)) ho
    ·exact h
   have i1:=ih ((i+j) / 2+1) j (by omega)
   have i2:=ih i ((i+j) / 2) (by omega) hi
   generalize l[(i+j) / 2]=t at e3 q hc p1 p2
   rw [ao]
   generalize aD _ _ _=L at i1 i2 ⊢
   simp only [cw] at hc e3
   by_cases ho:ce t.exps x < 0
   ·have e4:(ce t.exps x < 0)=True:=tt ho
    have e5:IntKind.i64.wrap ((((i+j) / 2:Nat):Int)+1)=(((i+j) / 2+1:Nat):Int):=wi (by omega) (by omega)
    have:=p1 ho
    simp only [bv,go_sem,auA,auz,auB,h0,h1,h2',h8,h9,h10,e1,e2,g1,g2,g3,g4,e3,hc,e4,e5]
    exact i1 (by omega) hj hn _ _ rfl rfl rfl rfl rfl rfl
   ·have e4:(ce t.exps x < 0)=False:=ff ho
    have:=p2 ho
    simp only [bv,go_sem,auA,auz,auB,h0,h1,h2',h8,h9,h10,e1,e2,g1,g2,g3,g4,e3,hc,e4]
    exact i2 this (by omega) _ _ rfl rfl rfl rfl rfl rfl
  ·exact ih i j (by omega) hi hj hn s h h0 h1 h2' h8 h9 h10
def CF (l:List Rt) (x:List Int):Bool:=match l[bL l x]? with
 | some q=>decide (ce q.exps x=0)
 | none=>false
theorem XQ {v:Int} {l:List Rt} {x:List Int} (c:Cl v l) (hx:sm x) (hl:(x.length:Int)=v) (h2:l.length≤1000000):R F.slices_BinarySearchFunc_api_Term_api_Term_Sint_ [.sl 4 (bp l),.sl 1 (be x),.fn F.poly_collector_add_1 [] []] []=some (.tup [I (bL l x),B (CF l x)],[]):=by
 refine aE iU iT (dz false) rfl ?_
 have h3:=agZ c hx hl h2 l.length 0 l.length (by omega) (Nat.zero_le _) (Dw l x) (Nat.le_refl _)
 simp only [Int.natCast_zero] at h3
 simp only [cq,dQ,go_sem]
 rw [h3 _ _ rfl rfl rfl rfl rfl rfl]
 unfold CF
 cases hq:l[bL l x]? with
 | none =>
  have:l.length≤bL l x:=List.getElem?_eq_none_iff.1 hq
  have e1:((bL l x:Int) < (l.length:Int))=False:=ff (by omega)
  simp only [go_sem,e1]
 | some q =>
  have hlt:=(List.getElem?_eq_some_iff.1 hq).1
  have e1:((bL l x:Int) < (l.length:Int))=True:=tt (by omega)
  have vq:=c.t q (List.mem_of_getElem? hq)
  have hc:=Vn vq.sm hx (by have:=vq.len; omega)
  have e3:bu (bp l) (bL l x:Int)=some (.ipt (cw q)):=oN rfl hq
  simp only [cw] at hc e3
  by_cases ho:ce q.exps x=0
  ·have e4:(ce q.exps x=0)=True:=tt ho
   simp only [go_sem,auA,auz,auB,e1,e3,hc,e4,decide_true]
  ·have e4:(ce q.exps x=0)=False:=ff ho
   simp only [go_sem,auA,auz,auB,e1,e3,hc,e4,decide_false]
end Go.Ab
namespace Go.Ab
open Go Go.IntWalk
set_option maxRecDepth 4000
set_option maxHeartbeats 1000000
theorem Mt {d:Rd} (hn:d.m.length ≠ 0) (h1:d.m.length≤100000):R F.poly_copied [ae d] []=some (ae d,[]):=by
 refine aE Nw Nv (FT false) rfl ?_
 have hc:=zZ (m:=d.m) (fun h=>hn (by rw [h]; rfl)) h1
 simp only [sn,AD,ae,aj,go_sem,auA,auz,auB,hc]
theorem Vo {h:ab} {d id p n:Nat} {cs:List AV} {rows:List (List AV)} {x:AV} (hh:h id=.bx cs) (hp:cs[p]?=some (.osl 4 rows)) (hn:n=rows.length) (hx:∃ r,x=.sl 1 r) :
  bA R (aO false) h d [.rsl id (some p) 4 0 n,x,.fn F.poly_collector_add_1 [] []] (.fn F.slices_BinarySearchFunc_api_Term_api_Term_Sint_ [] [])=(R F.slices_BinarySearchFunc_api_Term_api_Term_Sint_ (bg [[.o 5 [.o 2 [],.o 0 [],.o 2 [],.o 0 []]],[.o 2 []],[]] [.sl 4 rows,x,.fn F.poly_collector_add_1 [] []]) []).bind (OZ h):=by
 obtain ⟨r,rfl⟩:=hx
 subst hn
 unfold bA
 rw [if_pos (by simp [iY,dR,GX])]
 simp only [GY,Js,VJ,qD,go,hh,hp,pW,fp,List.nil_append,List.append_nil,dJ]
 simp
theorem RR (o:Ob):ak [o]=upd (fun _=>.dead) 1000 o:=by
 funext i
 unfold ak upd
 by_cases h:i=1000
 ·subst h
  rfl
 ·rw [if_neg h]
  split
  ·rw [List.getElem?_eq_none (by simp; omega)]
   rfl
  ·rfl
theorem te {f:FuncId} {fd:FD} {args:List AV} {o:Ob} {r:AV × List Ob} (hE:ah.E f=none) (hC:ah.C f=some fd) (hk:ah.md.keep f=false) (h1:args.length=fd.np)
  (hz:gq false fd.rs fd.res 1 (am R (aO false) fd.body (oT args) (upd (fun _=>.dead) 1000 o))=some r):R f args [o]=some r:=by
 refine HF false hE hC hk h1 (by simp) ?_
 rw [RR]
 exact hz
theorem OL {f:FuncId} {g:List AV→List Ob→Option (AV × List Ob)} {args:List AV} {hs:List Ob} (hE:ah.E f=some g):R f args hs=g args hs:=zH hE
theorem aaC:R F.slices_Clone_int_int_ [.sl 1 []] []=some (.sl 1 [],[]):=by
 rw [OL (g:=Zi) (by kernel_rfl)]
 rfl
theorem aaD {x:Int} {l:List Int} (h:l.length≤1000000):R F.slices_Clone_int_int_ [.sl 1 (be (x::l))] []=some (.osl 1 (be (x::l)),[]):=by
 rw [OL (g:=Zi) (by kernel_rfl)]
 show (if (((be l).length+1)*8≤140737488355328) then _ else _)=_
 rw [if_pos (by rw [Do]; omega)]
 rfl
def wS (c:AV) (l:List Rt):Prop:=c=.osl 4 (bp l)∨(c=.emp∧l=[])
def t3 (v:Int) (c:AV) (e:Int):Ob:=.bx [I v,c,I e]
theorem y7 {h:ab} {v e:Int} {c:AV} {l:List Rt} (hc:wS c l) (hh:h 1000=t3 v c e):qH [] 1 h []=some (.tup [],[t3 v c e]):=by
 have hp:cN 1=[1000]:=rfl
 have h2:aT [1000] (t3 v c e)=true:=by
  rcases hc with rfl | ⟨rfl,_⟩ <;> rfl
 unfold qH
 rw [hp]
 simp [hh,h2,gL,nV,pG,bg]
theorem adE {v e:Int} {c x:AV} {d:Rd} {l:List Rt} (hc:wS c l) (he:e ≠ 0):R F.poly_collector_add [.ref 1000 none 0 0 0,x,ae d] [t3 v c e]=some (.tup [],[t3 v c e]):=by
 refine te iK iJ (ew false) rfl ?_
 have e1:(e=0)=False:=ff he
 simp only [dP,fL,t3,ae,aj,go_sem,auA,auz,e1]
 exact y7 hc rfl
theorem Dx (h:ab) (i:Int) (b:Bool):OZ h (.tup [I i,B b],[])=some (.tup [I i,B b],h,[]):=rfl
theorem rJ {h:ab} {id p id2 k n:Nat} {rows:List (List AV)} {cs:List AV} (h1:h id2=.ar k rows) (hn:n=rows.length) (h2:h id=.bx cs) (hne:id ≠ id2) (hp:p < cs.length) :
  lZ h id p 1 [.rsl id2 none k 0 n]=some (upd (upd h id2 .dead) id (.bx (cs.set p (.osl k rows))),(id2,false)::(if cs[p]?.any bd then [(id,true)] else [])):=by
 have h3:upd h id2 .dead id=.bx cs:=by
  unfold upd
  rw [if_neg hne,h2]
 subst hn
 simp [lZ,Aw,h1,LI,EO,h3,hp,uG]
theorem ajj {l:List Rt} {t:Rt} {n i:Nat} (hn:n=l.length) (hi:i≤n) (h2:n≤1000000):R F.slices_Insert_api_Term_api_Term_ [.rsl 1000 none 4 0 n,I i,.sl 4 [cw t]] [.ar 4 (bp l)]=some (.osl 4 (bp (l.take i++t::l.drop i)),[.dead]):=by
 rw [OL (g:=PT 4 64) (by kernel_rfl)]
 show (if (4:Nat)=4∧(4:Nat)=4∧(4:Nat)=4∧n=(bp l).length∧(0:Int)≤(i:Int)∧(i:Int)≤(n:Int)∧(n+1)*64≤140737488355328 then some (AV.osl 4 ((bp l).take (i:Int).toNat++cw t::(bp l).drop (i:Int).toNat),[Ob.dead]) else none)=_
 rw [if_pos ⟨rfl,rfl,rfl,by rw [mH,hn],by omega,by omega,by omega⟩,Int.toNat_natCast]
 simp [bp,List.map_take,List.map_drop]
theorem ag0 {t:Rt}:R F.slices_Insert_api_Term_api_Term_ [.emp,I 0,.sl 4 [cw t]] []=some (.osl 4 (bp [t]),[]):=by
 rw [OL (g:=PT 4 64) (by kernel_rfl)]
 rfl
theorem aaE (t:Rt):nrmV [.o 5 [.o 2 [],.o 0 [],.o 2 [],.o 0 []]] (.sl 4 [cw t])=.sl 4 [cw t]:=by
 have:=K2 [t]
 simp only [bp,List.map_cons,List.map_nil] at this
 simp only [nrmV,List.headD_cons,nrmL,List.map_cons,List.map_nil,this]
theorem adF {l:List Rt} {t:Rt} {h:ab} {d a b n i:Nat} (ha:h a=.ar 4 (bp l)) (hb:h b=.ar 4 [cw t]) (hab:a ≠ b) (_hda:2000+8*d ≠ a) (hdb:2000+8*d ≠ b) (hd:h (2000+8*d)=.dead) (hn:n=l.length) (hi:i≤n) (h2:n≤1000000) :
  bA R (aO false) h d [.rsl a none 4 0 n,.v (.int .i64 i),.rsl b none 4 0 1] (.fn F.slices_Insert_api_Term_api_Term_ [] []) =
   some (.rsl (2000+8*d) none 4 0 (l.length+1),upd (upd (upd h b (.fz 4 [cw t])) a .dead) (2000+8*d) (.ar 4 (bp (l.take i++t::l.drop i))),[(a,true),(a,false)]):=by
 have hm:=ir false
 have hs:=gW false
 have hk:=gD false
 have hf:=ajj (t:=t) hn hi h2
 have hb':iY (aO false) [.rsl a none 4 0 n,.v (.int .i64 i),.rsl b none 4 0 1] (.fn F.slices_Insert_api_Term_api_Term_ [] [])=false:=by
  simp [iY,hm]
 have h1:bH h [2,0,0] [.rsl a none 4 0 n,.v (.int .i64 i),.rsl b none 4 0 1]=some ([.rsl a none 4 0 n,.v (.int .i64 i),.sl 4 [cw t]],upd h b (.fz 4 [cw t]),[]):=by
  simp [bH,ct,pp,ey,aA,ha,hb,abN,kB,kz]
 have g1:upd h b (.fz 4 [cw t]) a=.ar 4 (bp l):=by
  unfold upd
  rw [if_neg hab,ha]
 have g2:upd h b (.fz 4 [cw t]) (2000+8*d)=.dead:=by
  unfold upd
  rw [if_neg hdb,hd]
 have hr:bW (upd h b (.fz 4 [cw t])) 40 [a] 0=[a]:=by
  simp [bW,g1,j8,bE]
 have hp:bE [] ([AV.rsl a none 4 0 n,.v (.int .i64 i),.sl 4 [cw t]].flatMap bI)=[a]:=by
  simp [bI,dM,bE]
 have h3:bm [a] a=1000:=by simp [bm]
 have hnr:cx (.osl 4 (bp (l.take i++t::l.drop i)))=1:=rfl
 have hlen:(bp (l.take i++t::l.drop i)).length=l.length+1:=by
  rw [mH,List.length_append,List.length_take,List.length_cons,List.length_drop]
  omega
 have hnm:bg [[],[],[.o 5 [.o 2 [],.o 0 [],.o 2 [],.o 0 []]]] [.rsl a none 4 0 n,.v (.int .i64 i),.sl 4 [cw t]]=[.rsl a none 4 0 n,.v (.int .i64 i),.sl 4 [cw t]]:=by
  simp only [bg,aaE]
  rfl
 unfold bA
 rw [if_neg (by rw [hb']; exact Bool.false_ne_true)]
 simp only [dm,hm,List.nil_append,List.append_nil,h1,Option.bind_some,hp,hr,hs,hnm]
 simp [ix,aZ,bj,g1,aT,cf,dh,iw,h3,cY,hf,dN,hnr,cV,g2,cW,bf,pF,zg,mR,dM,fG,dH,vN,dt,mat,cM,eU,hk,zf,hm,hlen]
 exact ⟨by unfold cF; rw [if_neg (by omega)],by rw [yA]⟩
theorem adG {h:ab} {d:Nat} {r:List (List AV)} {i:Int} {b:Bool} (hR:R F.slices_BinarySearchFunc_api_Term_api_Term_Sint_ [.sl 4 [],nrmV [.o 2 []] (.sl 1 r),.fn F.poly_collector_add_1 [] []] []=some (.tup [I i,B b],[])) (h0:h (2000+8*d)=.dead) (h1:h (2000+8*d+1)=.dead) :
  bA R (aO false) h d [.emp,.sl 1 r,.fn F.poly_collector_add_1 [] []] (.fn F.slices_BinarySearchFunc_api_Term_api_Term_Sint_ [] [])=some (.tup [I i,B b],h,[]):=by
 have hm:=dR false
 have hs:=dJ false
 have hk:=dz false
 have hb':iY (aO false) [.emp,.sl 1 r,.fn F.poly_collector_add_1 [] []] (.fn F.slices_BinarySearchFunc_api_Term_api_Term_Sint_ [] [])=false:=by
  simp [iY,hm,GX]
 have h3:bH h [3,0,0] [.emp,.sl 1 r,.fn F.poly_collector_add_1 [] []]=some ([.emp,.sl 1 r,.fn F.poly_collector_add_1 [] []],h,[]):=by
  simp [bH,ct,pp,ey,aA]
 have hp:bE [] ([AV.emp,.sl 1 r,.fn F.poly_collector_add_1 [] []].flatMap bI)=[]:=by
  simp [bI,dM,bE]
 have hnm:bg [[.o 5 [.o 2 [],.o 0 [],.o 2 [],.o 0 []]],[.o 2 []],[]] [.emp,.sl 1 r,.fn F.poly_collector_add_1 [] []]=[.sl 4 [],nrmV [.o 2 []] (.sl 1 r),.fn F.poly_collector_add_1 [] []]:=by
  simp only [bg]
  rfl
 obtain ⟨q,hq⟩:∃ q,nrmV [.o 2 []] (.sl 1 r)=.sl 1 q:=⟨_,rfl⟩
 rw [hq] at hR hnm
 have hr:∀ n,bW h n [] 0=[]:=fun n=>by cases n <;> rfl
 unfold bA
 rw [if_neg (by rw [hb']; exact Bool.false_ne_true)]
 simp only [dm,hm,List.nil_append,List.append_nil,h3,Option.bind_some,hp,hr,hs,hnm]
 simp [ix,aZ,bj,dh,iw,hR,dN,cx,cV,h0,h1,cf,cW,pF,zg,mR,fG,dH,vN,dt,mat,bP,cM,eU,hk,zf,hm]
theorem aaF {t:Rt} {h:ab} {d b:Nat} (hb:h b=.ar 4 [cw t]) (hdb:2000+8*d ≠ b) (hd:h (2000+8*d)=.dead) :
  bA R (aO false) h d [.emp,.v (.int .i64 0),.rsl b none 4 0 1] (.fn F.slices_Insert_api_Term_api_Term_ [] [])=some (.rsl (2000+8*d) none 4 0 1,upd (upd h b (.fz 4 [cw t])) (2000+8*d) (.ar 4 (bp [t])),[]):=by
 have hm:=ir false
 have hs:=gW false
 have hk:=gD false
 have hf:=ag0 (t:=t)
 have hb':iY (aO false) [.emp,.v (.int .i64 0),.rsl b none 4 0 1] (.fn F.slices_Insert_api_Term_api_Term_ [] [])=false:=by
  simp [iY,hm]
 have h1:bH h [2,0,0] [.emp,.v (.int .i64 0),.rsl b none 4 0 1]=some ([.emp,.v (.int .i64 0),.sl 4 [cw t]],upd h b (.fz 4 [cw t]),[]):=by
  simp [bH,ct,pp,ey,aA,hb,kB,kz]
 have g2:upd h b (.fz 4 [cw t]) (2000+8*d)=.dead:=by
  unfold upd
  rw [if_neg hdb,hd]
 have hp:bE [] ([AV.emp,.v (.int .i64 0),.sl 4 [cw t]].flatMap bI)=[]:=by
  simp [bI,dM,bE]
 have hnr:cx (.osl 4 (bp [t]))=1:=rfl
 have hnm:bg [[],[],[.o 5 [.o 2 [],.o 0 [],.o 2 [],.o 0 []]]] [.emp,.v (.int .i64 0),.sl 4 [cw t]]=[.emp,.v (.int .i64 0),.sl 4 [cw t]]:=by
  simp only [bg,aaE]
  rfl
 have hr:∀ (h:ab) n,bW h n [] 0=[]:=fun h n=>by cases n <;> rfl
 have hlen:(bp [t]).length=1:=rfl
 unfold bA
 rw [if_neg (by rw [hb']; exact Bool.false_ne_true)]
 simp only [dm,hm,List.nil_append,List.append_nil,h1,Option.bind_some,hp,hr,hs,hnm]
 simp [ix,aZ,bj,dh,iw,hf,dN,hnr,cV,g2,cf,cW,pF,zg,mR,dM,fG,dH,vN,dt,mat,cM,eU,hk,zf,hm,hlen]
 unfold cF
 rw [if_neg (by omega)]
def ClE (x:List Int):Prop:=R F.slices_Clone_int_int_ [.sl 1 (be x)] []=some (.osl 1 (be x),[])∨R F.slices_Clone_int_int_ [.sl 1 (be x)] []=some (.sl 1 (be x),[])
theorem aaG:∀ {x:List Int},x.length≤100000→ClE x
 | [],_=>.inr aaC
 | x::l,h=>.inl (aaD (by simp at h; omega))
theorem RU {v v':Int} {l:List Rt} {t:Rt} (c:Cl v l) (vt:VT v t) (hl:l.length≤1000000) (hf:CF l t.exps=false) :
  R F.poly_collector_add [.ref 1000 none 0 0 0,.sl 1 (be t.exps),ae t.c] [t3 v' (.osl 4 (bp l)) 0]=some (.tup [],[t3 v' (.osl 4 (bp (l.take (bL l t.exps)++t::l.drop (bL l t.exps)))) 0]):=by
 refine te iK iJ (ew false) rfl ?_
 have hbs:=XQ c vt.sm vt.len hl
 rw [hf] at hbs
 have hcp:=Mt vt.nz (Nat.le_trans (wL vt.vc vt.c.lb) (by decide))
 simp only [ae,aj] at hcp
 have k1:(be t.exps).take t.exps.length=be t.exps:=List.take_of_length_le (by rw [Do]; exact Nat.le_refl _)
 have k2:(bp l).take l.length=bp l:=List.take_of_length_le (by rw [mH]; exact Nat.le_refl _)
 have hlen:(l.take (bL l t.exps)++t::l.drop (bL l t.exps)).length=l.length+1:=by
  have:=Dw l t.exps
  rw [List.length_append,List.length_take,List.length_cons,List.length_drop]
  omega
 have hp:=Dw l t.exps
 simp only [dP,fL,t3,ae,aj,go_sem,auA,auz]
 rw [Vo rfl rfl (mH l).symm ⟨_,rfl⟩]
 rcases aaG vt.ok.len with hcv | hcv
 all_goals
  simp only [go_sem,auA,auz,auB,auC,auD,hbs,Dx,hcv,hcp,Nat.zero_add,Nat.le_refl,k1]
  rw [adF rfl rfl (by decide) (by decide) (by decide) rfl rfl hp hl]
  generalize l.take (bL l t.exps)++t::l.drop (bL l t.exps)=L at hlen ⊢
  simp only [go_sem,auA,auz,auB,auD]
  rw [if_pos (by rfl),rJ rfl (by rw [mH,hlen]) rfl (by decide) (Nat.lt_of_lt_of_le (by decide) (Nat.le_refl 3))]
  simp only [go_sem]
  exact y7 (.inl rfl) rfl
theorem RW {v':Int} {v:Int} {t:Rt} (vt:VT v t) :
  R F.poly_collector_add [.ref 1000 none 0 0 0,.sl 1 (be t.exps),ae t.c] [t3 v' .emp 0]=some (.tup [],[t3 v' (.osl 4 (bp [t])) 0]):=by
 refine te iK iJ (ew false) rfl ?_
 have hbs:=XQ (l:=[]) (Cl.nil v) vt.sm vt.len (Nat.zero_le _)
 rw [show bL [] t.exps=0 from rfl,show CF [] t.exps=false from rfl,Int.natCast_zero] at hbs
 have hcp:=Mt vt.nz (Nat.le_trans (wL vt.vc vt.c.lb) (by decide))
 simp only [ae,aj] at hcp
 have k1:(be t.exps).take t.exps.length=be t.exps:=List.take_of_length_le (by rw [Do]; exact Nat.le_refl _)
 have k2:nrmV [.o 2 []] (.sl 1 (be t.exps))=.sl 1 (be t.exps):=by
  simp only [go_sem]
 have hlen:[t].length=1:=rfl
 simp only [dP,fL,t3,ae,aj,go_sem,auA,auz]
 rw [adG (by rw [k2]; exact hbs) rfl rfl]
 rcases aaG vt.ok.len with hcv | hcv
 all_goals
  simp only [go_sem,auA,auz,auB,auC,hcv,hcp,Nat.zero_add,Nat.le_refl,k1]
  rw [aaF rfl (by decide) rfl]
  simp only [go_sem,auA,auz,auB]
  rw [if_pos (by rfl),rJ rfl (show 1=(bp [t]).length from rfl) rfl (by decide) (Nat.lt_of_lt_of_le (by decide) (Nat.le_refl 3))]
  simp only [go_sem]
  exact y7 (.inl rfl) rfl
end Go.Ab
namespace Go.Ab
open Go Go.IntWalk
set_option maxRecDepth 4000
set_option maxHeartbeats 1000000
theorem CG {d n i:Nat} (h:i≤n):iW d n (some (I i))=some i:=by
 simp only [iW]
 rw [if_pos ⟨by omega,by omega⟩]
 rfl
theorem ajk {h:ab} {j k n:Nat} {rows:List (List AV)} (hj:aY j=false) (hh:h j=.ar k rows) (hn:n=rows.length) (hc:aT [1000] (h 1000)=true):qH [[]] 1 h [.rsl j none k 0 n]=some (.osl k rows,[h 1000]):=by
 subst hn
 have hp:cN 1=[1000]:=rfl
 unfold qH
 rw [if_pos]
 ·simp [nV,ni,iC,hj,hh,tQ,pG,bg,nrmV,nrmL,hp]
 ·simp [hp,hc,gL,bI,dM,hj]
theorem ajl {rows:List (List AV)} {n i:Nat} (hn:n=rows.length) (hi:i < n) (h2:n≤1000000):R F.slices_Delete_api_Term_api_Term_ [.rsl 1000 none 4 0 n,I i,I ((i+1:Nat):Int)] [.ar 4 rows]=some (.osl 4 (rows.take i++rows.drop (i+1)),[.dead]):=by
 refine te pk pj (gE false) rfl ?_
 subst hn
 have b1:iW rows.length rows.length (some (I rows.length))=some rows.length:=CG (Nat.le_refl _)
 have b2:∀ d,iW d rows.length (some (I ((i+1:Nat):Int)))=some (i+1):=fun d=>CG (by omega)
 have b3:∀ d,iW d (i+1) (some (I i))=some i:=fun d=>CG (by omega)
 have b4:∀ d,iW d rows.length (some (I i))=some i:=fun d=>CG (by omega)
 have e1:((i:Int)=((i+1:Nat):Int))=False:=ff (by omega)
 have s1:eO 4 (.rsl 1000 none 4 0 rows.length) (some (I i)) (some (I ((i+1:Nat):Int))) (some (I rows.length))=some .any:=by
  simp only [eO,if_true,jA,b1,b2,b3,Option.bind_some,Option.map_some,Option.isNone_some,if_neg Bool.false_ne_true]
 have s2:eO 4 (.rsl 1000 none 4 0 rows.length) none (some (I i)) none=some (.rsl 1000 none 4 0 i):=by
  simp only [eO,if_true,jA,b4,Gm,Option.bind_some,Option.map_some,Option.isNone_none,Nat.sub_zero,Nat.add_zero]
 have s3:eO 4 (.rsl 1000 none 4 0 rows.length) (some (I ((i+1:Nat):Int))) none none=some (.rsl 1000 none 4 (i+1) (rows.length - (i+1))):=by
  simp only [eO,if_true,jA,b2,Gm,Option.bind_some,Option.map_some,Option.isNone_none,Nat.zero_add]
 have t1:(rows.drop (i+1)).take (rows.length - (i+1))=rows.drop (i+1):=List.take_of_length_le (by rw [List.length_drop]; omega)
 have t2:(i+1+(rows.length - (i+1))≤rows.length)=True:=eq_true (by omega)
 obtain ⟨m,hm⟩:∃ m,i+(rows.length - (i+1))=m:=⟨_,rfl⟩
 obtain ⟨D,hD⟩:∃ D,rows.take i++rows.drop (i+1)=D:=⟨_,rfl⟩
 have d1:D.length=m:=by
  rw [← hD,List.length_append,List.length_take,List.length_drop]
  omega
 obtain ⟨A,hA⟩:∃ A,D++rows.drop m=A:=⟨_,rfl⟩
 have a1:A.length=rows.length:=by
  rw [← hA,List.length_append,List.length_drop,d1]
  omega
 have a2:A.take m=D:=by rw [← hA,List.take_append_of_le_length (by omega),List.take_of_length_le (by omega)]
 have e5:∀ h,EQ h 26 4 64 1000 4 0 i (rows.drop (i+1)) 4 rows=some (.rsl 1000 none 4 0 m,upd h 1000 (.ar 4 A),[]):=fun h=>by
  unfold EQ
  rw [if_pos ⟨rfl,rfl,by rw [List.length_drop]; omega⟩,List.length_drop,Nat.zero_add,hm,hD,hA]
 have e7:(i=rows.length)=False:=eq_false (by omega)
 have b5:jA rows.length (some (I m)) (some (I rows.length)) none=some (m,rows.length):=by
  simp only [jA,b1,Option.bind_some]
  rw [CG (by omega)]
  rfl
 have c1:(m+(rows.length - m)≤rows.length)=True:=eq_true (by omega)
 have c2:∀ z,(D++List.replicate (rows.length - m) z++A.drop (m+(rows.length - m))).take m=D:=fun z=>by
  rw [List.append_assoc,List.take_append_of_le_length (by omega),List.take_of_length_le (by omega)]
 rw [hD]
 simp only [ef,io,go_sem,auB,auC,s1,s2,s3,e1,t1,t2,e5,e7,false_and,and_false,a1,a2,b5,c1,c2,Nat.sub_zero,Nat.zero_add,Nat.zero_le,auI,decide_false]
 exact ajk (by rfl) (by rfl) d1.symm (by rfl)
theorem adH {l:List Rt} {h:ab} {d a n i:Nat} (ha:h a=.ar 4 (bp l)) (_hda:2000+8*d ≠ a) (hd:h (2000+8*d)=.dead) (hn:n=l.length) (hi:i < n) (h2:n≤1000000) :
  bA R (aO false) h d [.rsl a none 4 0 n,.v (.int .i64 i),.v (.int .i64 ((i+1:Nat):Int))] (.fn F.slices_Delete_api_Term_api_Term_ [] []) =
   some (.rsl (2000+8*d) none 4 0 (l.length - 1),upd (upd h a .dead) (2000+8*d) (.ar 4 (bp (l.take i++l.drop (i+1)))),[(a,true),(a,false)]):=by
 have hm:=pl false
 have hs:=oF false
 have hk:=gE false
 have hf:=ajl (rows:=bp l) (n:=n) (i:=i) (by rw [mH,hn]) hi h2
 have e1:(bp l).take i++(bp l).drop (i+1)=bp (l.take i++l.drop (i+1)):=by simp [bp,List.map_take,List.map_drop]
 rw [e1] at hf
 have hb':iY (aO false) [.rsl a none 4 0 n,.v (.int .i64 i),.v (.int .i64 ((i+1:Nat):Int))] (.fn F.slices_Delete_api_Term_api_Term_ [] [])=false:=by
  simp [iY,hm]
 have h1:bH h [2,0,0] [.rsl a none 4 0 n,.v (.int .i64 i),.v (.int .i64 ((i+1:Nat):Int))]=some ([.rsl a none 4 0 n,.v (.int .i64 i),.v (.int .i64 ((i+1:Nat):Int))],h,[]):=by
  simp [bH,ct,pp,ey,aA,ha,abN]
 have hr:bW h 40 [a] 0=[a]:=by
  simp [bW,ha,j8,bE]
 have hp:bE [] ([AV.rsl a none 4 0 n,.v (.int .i64 i),.v (.int .i64 ((i+1:Nat):Int))].flatMap bI)=[a]:=by
  simp [bI,dM,bE]
 have h3:bm [a] a=1000:=by simp [bm]
 have hnr:cx (.osl 4 (bp (l.take i++l.drop (i+1))))=1:=rfl
 have hlen:(bp (l.take i++l.drop (i+1))).length=l.length - 1:=by
  rw [mH,List.length_append,List.length_take,List.length_drop]
  omega
 unfold bA
 rw [if_neg (by rw [hb']; exact Bool.false_ne_true)]
 simp only [dm,hm,List.nil_append,List.append_nil,h1,Option.bind_some,hp,hr,hs]
 simp only [Int.natCast_add,Int.natCast_one] at hf
 simp [ix,bg,aZ,bj,ha,aT,cf,dh,iw,h3,cY,hf,dN,hnr,cV,hd,cW,bf,pF,zg,mR,dM,fG,dH,vN,dt,mat,cM,eU,hk,zf,hm,hlen]
 exact ⟨by unfold cF; rw [if_neg (by omega)],by rw [yA]⟩
theorem ag1 (h:ab) (i:Nat) (xs:List AV) (a b:AV) (r:List (List AV)):xd h 3 1000 1 4 i 1 xs [] (.bx [a,.osl 4 r,b])=(rS 3 4 i 1 xs 4 r).map fun q=>(.und,upd h 1000 (.bx [a,.osl 4 q,b]),[]):=rfl
theorem CH (a b:AV) (k:Nat) (r:List (List AV)):go 1 (.bx [a,.osl k r,b])=some (k,r):=rfl
theorem Ld (h:ab) (n:Nat) (g:Bool) (i j:Nat) (r:List (List AV)):jI h n g 4 i j (some (4,r))=(r[i]?).bind fun row=>(iu n g row j).map fun a=>(a,h,[]):=rfl
theorem adI {v v':Int} {l:List Rt} {t q:Rt} (c:Cl v l) (vt:VT v t) (hl:l.length≤1000000) (hq:l[bL l t.exps]?=some q) (ho:ce q.exps t.exps=0) :
  R F.poly_collector_add [.ref 1000 none 0 0 0,.sl 1 (be t.exps),ae t.c] [t3 v' (.osl 4 (bp l)) 0]=some (.tup [],[if (nR q.c t.c).2=0 then (if (nR q.c t.c).1.m.length=0 then t3 v' (.osl 4 (bp (l.take (bL l t.exps)++l.drop (bL l t.exps+1)))) 0 else t3 v' (.osl 4 (bp (l.set (bL l t.exps) ⟨q.exps,(nR q.c t.c).1⟩))) 0) else t3 v' (.osl 4 (bp l)) 9]):=by
 refine te iK iJ (ew false) rfl ?_
 have hbs:=XQ c vt.sm vt.len hl
 have hf:CF l t.exps=true:=by
  unfold CF
  rw [hq]
  exact decide_eq_true ho
 rw [hf] at hbs
 have vq:=c.t q (List.mem_of_getElem? hq)
 have hadd:=agX vq.c vt.c
 have hlt:=(List.getElem?_eq_some_iff.1 hq).1
 have hrow:(bp l)[bL l t.exps]?=some (cw q):=by simp [bp,hq]
 have hi0:(0≤(bL l t.exps:Int)∧(bL l t.exps:Int) < (l.length:Int))=True:=eq_true ⟨by omega,by omega⟩
 have hw:IntKind.i64.wrap ((bL l t.exps:Int)+1)=((bL l t.exps+1:Nat):Int):=wi (by omega) (by omega)
 generalize nR q.c t.c=r at hadd ⊢
 obtain ⟨s,e⟩:=r
 simp only [rV,ae,aj] at hadd
 simp only [cw] at hrow
 simp only [dP,fL,t3,ae,aj,go_sem,auA,auz]
 rw [Vo rfl rfl (mH l).symm ⟨_,rfl⟩]
 by_cases he:e=0
 ·subst he
  by_cases hs:s.m.length=0
  ·have e1:((s.m.length:Int)=0)=True:=tt (by omega)
   have hlen:(l.take (bL l t.exps)++l.drop (bL l t.exps+1)).length=l.length - 1:=by
    rw [List.length_append,List.length_take,List.length_drop]
    omega
   simp only [go_sem,auA,auz,auB,auC,auD,hbs,Dx,hi0,hrow,hadd,hs,Int.toNat_natCast,Int.natCast_zero,Nat.zero_add,CH,Ld,hw]
   rw [adH rfl (by decide) rfl rfl hlt hl]
   generalize l.take (bL l t.exps)++l.drop (bL l t.exps+1)=L at hlen ⊢
   simp only [go_sem,auA,auz,auB,auD]
   rw [rJ rfl (by rw [mH,hlen]) rfl (by decide) (Nat.lt_of_lt_of_le (by decide) (Nat.le_refl 3))]
   simp only [go_sem]
   exact y7 (.inl rfl) rfl
  ·have e1:((s.m.length:Int)=0)=False:=ff (by omega)
   have hset:(bp l).set (bL l t.exps) [.sl 1 (be q.exps),B s.neg,lm s.m,I s.e]=bp (l.set (bL l t.exps) ⟨q.exps,s⟩):=by
    unfold bp
    rw [List.map_set]
    rfl
   simp only [go_sem,auA,auz,auB,auC,auD,hbs,Dx,hi0,hrow,hadd,hs,e1,Int.toNat_natCast,Nat.zero_add,CH,Ld,hw,ag1,hset]
   exact y7 (.inl rfl) rfl
 ·have e1:(e=0)=False:=ff he
  simp only [go_sem,auA,auz,auB,auC,auD,hbs,Dx,hi0,hrow,hadd,e1,Int.toNat_natCast,Nat.zero_add,CH,Ld,hw]
  exact y7 (.inl rfl) rfl
theorem ag2 {v v':Int} {l:List Rt} {t:Rt} {cell:AV} (c:Cl v l) (vt:VT v t) (hl:l.length≤1000000) (hc:wS cell l) :
  ∃ cell' l' e',R F.poly_collector_add [.ref 1000 none 0 0 0,.sl 1 (be t.exps),ae t.c] [t3 v' cell 0]=some (.tup [],[t3 v' cell' e'])∧wS cell' l'∧((e'=0∧sK l t=some l')∨(e'=9∧sK l t=none∧l'=l)):=by
 rcases hc with rfl | ⟨rfl,rfl⟩
 ·rw [Vl]
  cases hq:l[bL l t.exps]? with
  | none =>
   exact ⟨_,_,_,RU c vt hl (by unfold CF; rw [hq]),.inl rfl,.inl ⟨rfl,rfl⟩⟩
  | some q =>
   by_cases ho:ce q.exps t.exps=0
   ·have h1:=adI (v':=v') c vt hl hq ho
    simp only [if_pos ho]
    by_cases he:(nR q.c t.c).2=0
    ·rw [if_pos he] at h1 ⊢
     by_cases hs:(nR q.c t.c).1.m.length=0
     ·rw [if_pos hs] at h1 ⊢
      exact ⟨_,_,_,h1,.inl rfl,.inl ⟨rfl,rfl⟩⟩
     ·rw [if_neg hs] at h1 ⊢
      exact ⟨_,_,_,h1,.inl rfl,.inl ⟨rfl,rfl⟩⟩
    ·rw [if_neg he] at h1 ⊢
     exact ⟨_,_,_,h1,.inl rfl,.inr ⟨rfl,rfl,rfl⟩⟩
   ·simp only [if_neg ho]
    exact ⟨_,_,_,RU c vt hl (by unfold CF; rw [hq]; exact decide_eq_false ho),.inl rfl,.inl ⟨rfl,rfl⟩⟩
 ·exact ⟨_,_,_,RW vt,.inl rfl,.inl ⟨rfl,rfl⟩⟩
end Go.Ab
namespace Go.Ab
open Go Go.IntWalk
end Go.Ab
namespace Go.Ab
open Go Go.IntWalk
def p0:Rp:=⟨0,[]⟩
def pV (r:Rp × Int):AV:=.tup [dq r.1,I r.2]
def Al (v:Int):Option (List Rt)→Rp × Int
 | none=>(p0,9)
 | some l=>if 500 < l.length then (p0,5) else (⟨v,l⟩,0)
def apJ (a b:List Int):List Int:=List.zipWith (·+·) a b
end Go.Ab
namespace Go.Ab
open Go Go.IntWalk
structure Pv (v:Int) (a:Rp):Prop where
 v:a.vars=v
 p:vp a=true
 o:OkP a
theorem Pv.cl {v:Int} {a:Rp} (h:Pv v a):Cl v a.terms:=by
 have:=(alH h.o h.p).1
 rw [h.v] at this
 exact this
end Go.Ab
