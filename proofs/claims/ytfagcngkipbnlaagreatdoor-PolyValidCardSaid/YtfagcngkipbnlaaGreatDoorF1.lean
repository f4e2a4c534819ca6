/-
  A law of polynomials holds at every input that the statement speaks of, under the conditions that its card names. Part F1.
-/
import Derived.Test.YtfagcngkipbnlaaGreatDoorProg
import Derived.Shelf.Spec.TrailingZeros
import Derived.Test.YtfagcngkipbnlaaGreatDoorRows
import Derived.Deep.Strs
import Derived.ProofKit
import Derived.LaidMore
import Derived.OpenShut
import Derived.Carry
import Derived.Shelf.Strings.BuilderK
import Derived.WalkKit
import Derived.BigCall
import Derived.Lib.Overlaps
import Derived.Laws.Externs
import Derived.Shelf.Slices.Clone
import Derived.KernelRfl
import Derived.Test.YtfagcngkipbnlaaGreatDoorE1
open Nat renaming reduceEqDiff → aee, reduceAdd → aef, reduceMul → aeg, reduceLeDiff → aeh, reduceLT → aej, reduceBEq → aei
namespace Go.Ab
open Go Go.IntWalk
def p0:Rp:=⟨0,[]⟩
def ki (v:Int):Option (List Rt)→Rp × Int
 | none=>(p0,9)
 | some l=>if 500 < l.length then (p0,5) else (⟨v,l⟩,0)
def bQ (a b:List Int):List Int:=List.zipWith (·+·) a b
end Go.Ab
namespace Go.Ab
open Go Go.IntWalk
structure Pv (v:Int) (a:Rp):Prop where
 v:a.vars=v
 p:vp a=true
 o:OkP a
theorem Pv.cl {v:Int} {a:Rp} (h:Pv v a):Cl v a.terms:=by
 have:=(dH h.o h.p).1
 rw [h.v] at this
 exact this
end Go.Ab
namespace Go.Ab
open Go Go.IntWalk
set_option maxRecDepth 4000
set_option maxHeartbeats 1000000
structure OC (o:Ob):Prop where
 cl:∀ l,aA l o=true
 ids:uk o=[]
 ren:∀ g,cC g o=o
 nd:cD o=false
structure RT (r:AV):Prop where
 ren:∀ g,uo g r=r
 mat:∀ n h,mat n h r=(r,h)
 ok:∀ l,ey l r=true
end Go.Ab
namespace Go.Ab
open Go Go.IntWalk
set_option maxRecDepth 4000
set_option maxHeartbeats 1000000
structure ColE (v:Int) (l ts:List Rt) (e:Int) (c':AV) (l':List Rt) (e':Int):Prop where
 c:mp c' l'
 r:(e'=0∧e=0∧gV l ts=some l')∨(e'=9∧(e=0→gV l ts=none))
theorem ColE.fin {v:Int} {ts:List Rt} {c':AV} {l':List Rt} {e':Int} (h:ColE v [] ts 0 c' l' e'):(if e'=0 then ki v (some l') else (p0,e'))=ki v (gV [] ts):=by
 rcases h.r with ⟨h1,_,h2⟩ | ⟨h1,h2⟩
 ·rw [if_pos h1,h2]
 ·rw [h1,if_neg (by decide),h2 rfl]
  rfl
theorem ColE.step {v:Int} {l ts:List Rt} {t:Rt} {c:AV} (hc:mp c l) {e:Int} (he:e=0∨e=9) (hC:e=0→Cl v l∧l.length+ts.length+1≤1000000) (vt:VT v t) {v':Int} :
  ∃ c1 l1 e1,R F.poly_collector_add [.ref 1000 none 0 0 0,.sl 1 (aY t.exps),aF t.c] [t3 v' c e]=some (.tup [],[t3 v' c1 e1])∧mp c1 l1∧(e1=0∨e1=9)∧(e1=0→Cl v l1∧l1.length+ts.length≤1000000)∧∀ c' l' e',ColE v l1 ts e1 c' l' e'→ColE v l (t::ts) e c' l' e':=by
 rcases he with rfl | rfl
 ·obtain ⟨h1,h2⟩:=hC rfl
  obtain ⟨c1,l1,e1,g1,g2,g3⟩:=I7 (v':=v') h1 vt (by omega) hc
  refine ⟨c1,l1,e1,g1,g2,?_,fun h0=>?_,fun c' l' e' h=>⟨h.c,?_⟩⟩
  ·rcases g3 with ⟨g,_⟩ | ⟨g,_⟩
   ·exact .inl g
   ·exact .inr g
  ·rcases g3 with ⟨_,g⟩ | ⟨g,_⟩
   ·have:=Ac g
    exact ⟨(xX h1 vt g).1,by omega⟩
   ·omega
  ·rcases g3 with ⟨g,k⟩ | ⟨g,k,_⟩
   ·subst g
    rcases h.r with ⟨q1,_,q2⟩ | ⟨q1,q2⟩
    ·refine .inl ⟨q1,rfl,?_⟩
     unfold gV
     rw [k]
     exact q2
    ·refine .inr ⟨q1,fun _=>?_⟩
     unfold gV
     rw [k]
     exact q2 rfl
   ·subst g
    rcases h.r with ⟨_,q1,_⟩ | ⟨q1,_⟩
    ·omega
    ·refine .inr ⟨q1,fun _=>?_⟩
     unfold gV
     rw [k]
     rfl
 ·refine ⟨c,l,9,Ho hc (by decide),hc,.inr rfl,fun h=>by omega,fun c' l' e' h=>⟨h.c,?_⟩⟩
  rcases h.r with ⟨_,q1,_⟩ | ⟨q1,_⟩
  ·omega
  ·exact .inr ⟨q1,fun h=>by omega⟩
end Go.Ab
namespace Go.Ab
open Go Go.IntWalk
set_option maxRecDepth 4000
set_option maxHeartbeats 1000000
end Go.Ab
namespace Go.Ab
open Go Go.IntWalk
set_option maxRecDepth 4000
set_option maxHeartbeats 1000000
def t2 (v:Int) (c:AV):Ob:=.bx [I v,c]
end Go.Ab
namespace Go.Ab
open Go Go.IntWalk
set_option maxRecDepth 4000
set_option maxHeartbeats 1000000
theorem aiG {v:Int} {q t:Rt} (vq:VT v q) (vt:VT v t):R F.r23_Compare [.sl 1 (aY q.exps),.sl 1 (aY t.exps)] []=some (I (bt q.exps t.exps),[]):=afr vq.sm vt.sm (vq.l2 vt)
end Go.Ab
namespace Go.Ab
open Go Go.IntWalk
set_option maxRecDepth 4000
set_option maxHeartbeats 1000000
end Go.Ab
namespace Go.Ab
open Go Go.IntWalk
set_option maxRecDepth 4000
set_option maxHeartbeats 1000000
def ae0:List Nat→List Nat→Bool
 | [],[]=>true
 | x::xs,y::ys=>decide (x=y) && ae0 xs ys
 | _,_=>false
theorem ahq:∀ {a b:List Nat},ae0 a b=true↔a=b
 | [],[]=>by simp [ae0]
 | x::a,y::b=>by simp [ae0,ahq]
 | [],_::_=>by simp [ae0]
 | _::_,[]=>by simp [ae0]
theorem aiH {x y:Rd} (hl:x.m.length=y.m.length) (h2:x.m.length≤100000):∀ (k i:Nat),i+k=x.m.length→∀ (s:af) (h:aa),s 2=.ref 2 none 0 0 0→s 3=.ref 3 none 0 0 0→s 5=I i→h 2=.bx (aW x)→h 3=.bx (aW y) →
  ∃ hh,aI 0 [] (aU (az R (ab false) adK) [2,3,5] [2,3] s h)=if ae0 (x.m.drop i) (y.m.drop i)=true then some (.normal,⟨fun _=>.any,hh⟩) else some (.ret,⟨upd (fun _=>.any) 4 (B false),hh⟩):=by
 intro k
 induction k with
 | zero =>
  intro i hi s h g2 g3 g5 k2 k3
  have e1:((i:Int) < x.m.length)=False:=ff (by omega)
  rw [List.drop_eq_nil_of_le (by omega),List.drop_eq_nil_of_le (by omega),aB]
  simp only [aW] at k2 k3
  refine ⟨?hh0,?_⟩
  rotate_left
  ·simp only [adK,ae0,go_sem,↓reduceIte,aee,aeg,aef,aei,g2,g3,g5,k2,k3,e1]
   rfl
 | succ k ih =>
  intro i hi s h g2 g3 g5 k2 k3
  have hlt:i < x.m.length:=by omega
  have hlt2:i < y.m.length:=by omega
  have e1:((i:Int) < x.m.length)=True:=tt (by omega)
  have e2:bH (aP x.m) (i:Int)=some (.ipt [U (x.m.getD i 0:Nat)]):=de rfl hlt
  have e3:bH (aP y.m) (i:Int)=some (.ipt [U (y.m.getD i 0:Nat)]):=de rfl hlt2
  have e5:IntKind.i64.wrap ((i:Int)+1)=((i+1:Nat):Int):=wi (by omega) (by omega)
  have ih':=ih (i+1) (by omega)
  rw [List.drop_eq_getElem_cons hlt,List.drop_eq_getElem_cons hlt2,aB]
  have v1:x.m.getD i 0=x.m[i]:=by simp [List.getD,hlt]
  have v2:y.m.getD i 0=y.m[i]:=by simp [List.getD,hlt2]
  rw [v1] at e2
  rw [v2] at e3
  generalize x.m[i]=p at e2 ⊢
  generalize y.m[i]=q at e3 ⊢
  generalize aU _ _ _=L at ih' ⊢
  unfold ae0
  simp only [aW] at k2 k3
  by_cases hpq:p=q
  ·have e4:((p:Int)=(q:Int))=True:=tt (by omega)
   rw [decide_eq_true hpq,Bool.true_and]
   simp only [adK,go_sem,↓reduceIte,aee,aeg,aef,aej,aei,g2,g3,g5,k2,k3,e1,e2,e3,e4,e5]
   exact ih' _ _ rfl rfl rfl rfl rfl
  ·have e4:((p:Int)=(q:Int))=False:=ff (by omega)
   rw [decide_eq_false hpq,Bool.false_and]
   simp only [if_neg Bool.false_ne_true]
   refine ⟨?hh1,?_⟩
   rotate_left
   ·simp only [adK,go_sem,↓reduceIte,aee,aeg,aef,aej,aei,g2,g3,g5,k2,k3,e1,e2,e3,e4]
    rfl
theorem ajS {x y:Rd} (hl:x.m.length=y.m.length) (h2:x.m.length≤100000) (s:af) (h:aa) (X:Option (Ex × St)) (hX:aI 0 [] (aU (az R (ab false) adK) [2,3,5] [2,3] s h)=X) (g2:s 2=.ref 2 none 0 0 0) (g3:s 3=.ref 3 none 0 0 0) (g5:s 5=I 0) (k2:h 2=.bx [B x.neg,lm x.m,I x.e]) (k3:h 3=.bx [B y.neg,lm y.m,I y.e]) :
  ∃ hh,X=if ae0 x.m y.m=true then some (.normal,⟨fun _=>.any,hh⟩) else some (.ret,⟨upd (fun _=>.any) 4 (B false),hh⟩):=by
 subst hX
 exact aiH hl h2 x.m.length 0 (Nat.zero_add _) s h g2 g3 g5 k2 k3
def afX (x y:Rd):Bool:=(x.neg == y.neg) && (decide (x.e=y.e) && ae0 x.m y.m)
theorem ai7 {x y:Rd}:afX x y=true↔x=y:=by
 unfold afX
 rw [Bool.and_eq_true,Bool.and_eq_true,ahq,beq_iff_eq,decide_eq_true_eq]
 constructor
 ·rintro ⟨h1,h2,h3⟩
  cases x
  cases y
  cases h1
  cases h2
  cases h3
  rfl
 ·rintro rfl
  exact ⟨rfl,rfl,rfl⟩
theorem agS:∀ {a b:List Nat},a.length ≠ b.length→ae0 a b=false
 | [],[],h=>absurd rfl h
 | x::a,y::b,h=>by
  unfold ae0
  rw [agS (fun e=>h (by simp [e])),Bool.and_false]
 | [],_::_,_=>rfl
 | _::_,[],_=>rfl
theorem aii {x y:Rd} (hx:x.m.length≤100000):R F.r23_number [aF x,aF y] []=some (B (afX x y),[]):=by
 refine aX agI agH (afP false) rfl ?_
 unfold afX
 cases h1:(x.neg == y.neg) with
 | false =>
  have h4:(true != (x.neg == y.neg))=true:=by rw [h1]; rfl
  rw [Bool.false_and]
  simp only [adN,aeK,aF,aW,go_sem,↓reduceIte,aee,aeg,aef,h4]
 | true =>
  have h4:(true != (x.neg == y.neg))=false:=by rw [h1]; rfl
  rw [Bool.true_and]
  by_cases h2:x.e=y.e
  ·have e2:(x.e=y.e)=True:=eq_true h2
   rw [decide_eq_true h2,Bool.true_and]
   by_cases h3:x.m.length=y.m.length
   ·have e3:((x.m.length:Int)=(y.m.length:Int))=True:=tt (by omega)
    have hl:=ajS (x:=x) (y:=y) h3 hx
    simp only [adN,aeK,aF,aW,go_sem,↓reduceIte,aee,aeg,aef,h4,e2,e3]
    generalize hX:aI 0 [] _=X
    obtain ⟨hh,rfl⟩:=hl _ _ _ hX rfl rfl rfl rfl rfl
    cases ae0 x.m y.m with
    | true =>
     simp only [go_sem,↓reduceIte]
    | false =>
     simp only [go_sem,↓reduceIte]
   ·have e3:((x.m.length:Int)=(y.m.length:Int))=False:=ff (by omega)
    rw [agS h3]
    simp only [adN,aeK,aF,aW,go_sem,↓reduceIte,aee,aeg,aef,h4,e2,e3]
  ·have e2:(x.e=y.e)=False:=eq_false h2
   rw [decide_eq_false h2,Bool.false_and]
   simp only [adN,aeK,aF,aW,go_sem,↓reduceIte,aee,aeg,aef,h4,e2]
def aeI:List Rt→List Rt→Bool
 | [],[]=>true
 | x::xs,y::ys=>(decide (bt x.exps y.exps=0) && afX x.c y.c) && aeI xs ys
 | _,_=>false
theorem af2:∀ {a b:List Rt},a.length ≠ b.length→aeI a b=false
 | [],[],h=>absurd rfl h
 | x::a,y::b,h=>by
  unfold aeI
  rw [af2 (fun e=>h (by simp [e])),Bool.and_false]
 | [],_::_,_=>rfl
 | _::_,[],_=>rfl
theorem agT {v:Int}:∀ {a b:List Rt},(∀ t ∈ a,VT v t)→(∀ t ∈ b,VT v t)→(aeI a b=true↔a=b)
 | [],[],_,_=>by simp [aeI]
 | x::a,y::b,ha,hb=>by
  have ih:=agT (a:=a) (b:=b) (fun t ht=>ha t (by simp [ht])) (fun t ht=>hb t (by simp [ht]))
  have vx:=ha x (by simp)
  have vy:=hb y (by simp)
  unfold aeI
  rw [Bool.and_eq_true,Bool.and_eq_true,decide_eq_true_eq,ai7,ih]
  constructor
  ·rintro ⟨⟨h1,h2⟩,rfl⟩
   have h3:=I2 (vx.l2 vy) h1
   cases x
   cases y
   cases h3
   cases h2
   rfl
  ·intro h
   cases h
   exact ⟨⟨LZ _,rfl⟩,rfl⟩
 | [],_::_,_,_=>by simp [aeI]
 | _::_,[],_,_=>by simp [aeI]
theorem aij {v:Int} {a b:Rp} (ha:∀ t ∈ a.terms,VT v t) (hb:∀ t ∈ b.terms,VT v t) (hl:a.terms.length=b.terms.length) (h2:a.terms.length≤100000):∀ (k i:Nat),i+k=a.terms.length→∀ (s:af) (h:aa),s 2=.ref 2 none 0 0 0→s 3=.ref 3 none 0 0 0→s 5=I i→h 2=.bx [I a.vars,.sl 4 (ax a.terms)]→h 3=.bx [I b.vars,.sl 4 (ax b.terms)] →
  ∃ hh,aI 0 [] (aU (az R (ab false) adM) [2,3,5] [2,3] s h)=if aeI (a.terms.drop i) (b.terms.drop i)=true then some (.normal,⟨fun _=>.any,hh⟩) else some (.ret,⟨upd (fun _=>.any) 4 (B false),hh⟩):=by
 intro k
 induction k with
 | zero =>
  intro i hi s h g2 g3 g5 k2 k3
  have e1:((i:Int) < a.terms.length)=False:=ff (by omega)
  rw [List.drop_eq_nil_of_le (by omega),List.drop_eq_nil_of_le (by omega),aB]
  refine ⟨?hh0,?_⟩
  rotate_left
  ·simp only [adM,aeI,go_sem,↓reduceIte,aee,aeg,aef,aei,g2,g3,g5,k2,k3,e1]
   rfl
 | succ k ih =>
  intro i hi s h g2 g3 g5 k2 k3
  have hlt:i < a.terms.length:=by omega
  have hlt2:i < b.terms.length:=by omega
  have e1:((i:Int) < a.terms.length)=True:=tt (by omega)
  have e2:bH (ax a.terms) (i:Int)=some (.ipt (bv a.terms[i])):=jt rfl (List.getElem?_eq_getElem hlt)
  have e3:bH (ax b.terms) (i:Int)=some (.ipt (bv b.terms[i])):=jt rfl (List.getElem?_eq_getElem hlt2)
  have e5:IntKind.i64.wrap ((i:Int)+1)=((i+1:Nat):Int):=wi (by omega) (by omega)
  have ih':=ih (i+1) (by omega)
  have vx:=ha _ (List.getElem_mem hlt)
  have vy:=hb _ (List.getElem_mem hlt2)
  rw [List.drop_eq_getElem_cons hlt,List.drop_eq_getElem_cons hlt2,aB]
  generalize a.terms[i]=x at e2 vx ⊢
  generalize b.terms[i]=y at e3 vy ⊢
  generalize aU _ _ _=L at ih' ⊢
  have hc:=aiG vx vy
  have hnum:=aii (x:=x.c) (y:=y.c) (Nat.le_trans (xq vx.vc vx.c.lb) (by decide))
  have hle:((x.exps.length:Int)=(y.exps.length:Int))=True:=tt (by have:=vx.l2 vy; omega)
  unfold aeI
  simp only [bv] at e2 e3
  simp only [aF,aW] at hnum
  by_cases ho:bt x.exps y.exps=0
  ·have e4:(bt x.exps y.exps=0)=True:=eq_true ho
   rw [decide_eq_true ho,Bool.true_and]
   cases hn:afX x.c y.c with
   | true =>
    rw [hn] at hnum
    rw [Bool.true_and]
    simp only [adM,go_sem,↓reduceIte,aee,aeg,aef,aeh,aej,aei,g2,g3,g5,k2,k3,e1,e2,e3,hle,hc,e4,hnum,e5]
    exact ih' _ _ rfl rfl rfl rfl rfl
   | false =>
    rw [hn] at hnum
    rw [Bool.false_and]
    simp only [if_neg Bool.false_ne_true]
    refine ⟨?hh1,?_⟩
    rotate_left
    ·simp only [adM,go_sem,↓reduceIte,aee,aeg,aef,aeh,aej,aei,g2,g3,g5,k2,k3,e1,e2,e3,hle,hc,e4,hnum]
     rfl
  ·have e4:(bt x.exps y.exps=0)=False:=eq_false ho
   rw [decide_eq_false ho,Bool.false_and,Bool.false_and]
   simp only [if_neg Bool.false_ne_true]
   refine ⟨?hh2,?_⟩
   rotate_left
   ·simp only [adM,go_sem,↓reduceIte,aee,aeg,aef,aeh,aej,aei,g2,g3,g5,k2,k3,e1,e2,e3,hle,hc,e4]
    rfl
theorem ajy {v:Int} {a b:Rp} (ha:∀ t ∈ a.terms,VT v t) (hb:∀ t ∈ b.terms,VT v t) (hl:a.terms.length=b.terms.length) (h2:a.terms.length≤100000) (s:af) (h:aa) (X:Option (Ex × St)) (hX:aI 0 [] (aU (az R (ab false) adM) [2,3,5] [2,3] s h)=X)
  (g2:s 2=.ref 2 none 0 0 0) (g3:s 3=.ref 3 none 0 0 0) (g5:s 5=I 0) (k2:h 2=.bx [I a.vars,.sl 4 (ax a.terms)]) (k3:h 3=.bx [I b.vars,.sl 4 (ax b.terms)]) :
  ∃ hh,X=if aeI a.terms b.terms=true then some (.normal,⟨fun _=>.any,hh⟩) else some (.ret,⟨upd (fun _=>.any) 4 (B false),hh⟩):=by
 subst hX
 exact aij ha hb hl h2 a.terms.length 0 (Nat.zero_add _) s h g2 g3 g5 k2 k3
def agq (a b:Rp):Bool:=decide (a.vars=b.vars) && aeI a.terms b.terms
theorem ai8 {a b:Rp} (ha:Cl a.vars a.terms) (hb:Cl b.vars b.terms) (h2:a.terms.length≤100000):R F.r23_Same [aZ a,aZ b] []=some (B (agq a b),[]):=by
 refine aX ahx ahw (aga false) rfl ?_
 unfold agq
 by_cases hv:a.vars=b.vars
 ·have e1:(a.vars=b.vars)=True:=eq_true hv
  rw [decide_eq_true hv,Bool.true_and]
  by_cases h3:a.terms.length=b.terms.length
  ·have e3:((a.terms.length:Int)=(b.terms.length:Int))=True:=tt (by omega)
   have hbt:=hb.t
   rw [← hv] at hbt
   have hl:=ajy (a:=a) (b:=b) ha.t hbt h3 h2
   simp only [aeG,ae7,aZ,go_sem,↓reduceIte,aee,aeg,aef,e1,e3]
   generalize hX:aI 0 [] _=X
   obtain ⟨hh,rfl⟩:=hl _ _ _ hX rfl rfl rfl rfl rfl
   cases aeI a.terms b.terms with
   | true=>simp only [go_sem,↓reduceIte]
   | false=>simp only [go_sem,↓reduceIte]
  ·have e3:((a.terms.length:Int)=(b.terms.length:Int))=False:=ff (by omega)
   rw [af2 h3]
   simp only [aeG,ae7,aZ,go_sem,↓reduceIte,aee,aeg,aef,e1,e3]
 ·have e1:(a.vars=b.vars)=False:=eq_false hv
  rw [decide_eq_false hv,Bool.false_and]
  simp only [aeG,ae7,aZ,go_sem,↓reduceIte,aee,aeg,aef,e1]
end Go.Ab
namespace Go.Ab
open Go Go.IntWalk
set_option maxRecDepth 4000
set_option maxHeartbeats 1000000
def vf (t:Rt):Bool:=decide (10 < t.c.m.length) || decide (20 < t.exps.length)
theorem KD {t:Rt}:R F.l23_great_1_1 [.agg (bv t)] []=some (B (vf t),[]):=by
 refine aX A8 A7 (w9 false) rfl ?_
 unfold vf
 by_cases h:10 < t.c.m.length
 ·have e1:(10 < (t.c.m.length:Int))=True:=tt (by omega)
  rw [decide_eq_true h,Bool.true_or]
  simp only [gL,ow,bv,go_sem,↓reduceIte,aee,aeg,aef,e1]
 ·have e1:(10 < (t.c.m.length:Int))=False:=ff (by omega)
  rw [decide_eq_false h,Bool.false_or]
  have e2:decide ((20:Int) < (t.exps.length:Int))=decide (20 < t.exps.length):=by rw [decide_eq_decide]; omega
  simp only [gL,ow,bv,go_sem,↓reduceIte,aee,aeg,aef,e1,e2]
theorem lmB (m:List Nat):(aP m).map (fun r=>match r with | [.v (.int _ x)]=>x.toNat | _=>0)=m:=by
 unfold aP
 rw [List.map_map]
 exact (List.map_congr_left (g:=fun c=>c) fun x _=>by simp).trans (List.map_id' _)
theorem izB (m:List Int):(aY m).map (fun r=>match r with | [.v (.int _ x)]=>x | _=>0)=m:=by
 unfold aY
 rw [List.map_map]
 exact (List.map_congr_left (g:=fun c=>c) fun x _=>by simp).trans (List.map_id' _)
def Dt:List AV→Rt
 | [.sl _ m1,.v (.bool n2),.sl _ m2,.v (.int _ e2)]=>⟨m1.map (fun r=>match r with | [.v (.int _ x)]=>x | _=>0),⟨n2,m2.map (fun r=>match r with | [.v (.int _ x)]=>x.toNat | _=>0),e2⟩⟩
 | _=>⟨[],et⟩
theorem EZ (t:Rt):Dt (bv t)=t:=by
 show (⟨(aY t.exps).map _,⟨t.c.neg,(aP t.c.m).map _,t.c.e⟩⟩:Rt)=t
 rw [lmB,izB]
theorem Ow {l:List Rt} (h2:l.length < 4611686018427387904):R F.slices_ContainsFunc_api_Term_api_Term_ [.sl 4 (ax l),.fn F.l23_great_1_1 [] []] []=some (B (l.any vf),[]):=by
 have h1:=Bo (k:=4) (g:=true) (f:=F.l23_great_1_1) (rows:=ax l) (p:=fun r=>vf (Dt r)) lh lg (j8 false) rfl (so false) (by rw [fD]; omega) (fun row hr=>by
  simp only [ax,List.mem_map] at hr
  obtain ⟨t,ht,rfl⟩:=hr
  have hd:=KD (t:=t)
  refine ⟨.agg (bv t),rfl,rfl,?_⟩
  rw [EZ]
  simp only [bv] at hd
  simp only [bv,go_sem,hd])
 have h2:=xT (k:=4) j5 j3 (iV false) rfl (eZ false) (kJ false) (by simp only [go_sem]) h1
 have h3:(ax l).any (fun r=>vf (Dt r))=l.any vf:=by
  unfold ax
  rw [List.any_map]
  congr 1
  funext t
  exact congrArg vf (EZ t)
 rw [h3] at h2
 exact h2
def mO (a:Rp):Bool:=(decide (40 < a.terms.length) && decide (a.terms.length≤500)) || a.terms.any vf
theorem Mg {a:Rp} (h2:a.terms.length < 4611686018427387904):R F.l23_great_1 [aZ a] []=some (B (mO a),[]):=by
 refine aX DO DN (yX false) rfl ?_
 have hc:=Ow h2
 have nr:(ax a.terms).map (ce [.o 2 [],.o 0 [],.o 2 [],.o 0 []])=ax a.terms:=tO _
 unfold mO
 by_cases h:40 < a.terms.length
 ·have e1:(40 < (a.terms.length:Int))=True:=tt (by omega)
  rw [decide_eq_true h,Bool.true_and]
  by_cases h5:a.terms.length≤500
  ·have e2:((a.terms.length:Int)≤500)=True:=tt (by omega)
   rw [decide_eq_true h5,Bool.true_or]
   simp only [gz,mT,aZ,go_sem,↓reduceIte,aee,aeg,aef,e1,e2]
  ·have e2:((a.terms.length:Int)≤500)=False:=ff (by omega)
   rw [decide_eq_false h5,Bool.false_or]
   simp only [gz,mT,aZ,go_sem,↓reduceIte,aee,aeg,aef,e1,e2,hc]
 ·have e1:(40 < (a.terms.length:Int))=False:=ff (by omega)
  rw [decide_eq_false h,Bool.false_and,Bool.false_or]
  simp only [gz,mT,aZ,go_sem,↓reduceIte,aee,aeg,aef,e1,hc]
def Jh (a:Rp):List AV:=[I a.vars,.sl 4 (ax a.terms)]
def xy (l:List Rp):List (List AV):=l.map Jh
@[go_sem] theorem QC (l:List Rp):(xy l).length=l.length:=by simp [xy]
@[go_sem] theorem ZK (l:List Rt):(ax l).map (ce [.o 2 [],.o 0 [],.o 0 [],.o 0 []])=ax l:=by
 refine qo fun x hx=>?_
 simp only [ax,List.mem_map] at hx
 obtain ⟨t,ht,rfl⟩:=hx
 simp only [bv,go_sem]
@[go_sem] theorem acg (l:List Rp):(xy l).map (ce [.o 0 [],.o 5 [.o 2 [],.o 0 [],.o 0 [],.o 0 []]])=xy l:=by
 refine qo fun x hx=>?_
 simp only [xy,List.mem_map] at hx
 obtain ⟨t,ht,rfl⟩:=hx
 simp only [Jh,go_sem]
def Sl:List AV→Rp
 | [.v (.int _ v),.sl _ r]=>⟨v,r.map Dt⟩
 | _=>p0
theorem Pp (a:Rp):Sl (Jh a)=a:=by
 show (⟨a.vars,(ax a.terms).map Dt⟩:Rp)=a
 have h:(ax a.terms).map Dt=a.terms:=by
  unfold ax
  rw [List.map_map]
  exact (List.map_congr_left (g:=fun c=>c) fun x _=>EZ x).trans (List.map_id' _)
 rw [h]
theorem Ox {l:List Rp} (hl:l.length≤10) (h2:∀ a ∈ l,a.terms.length < 4611686018427387904):R F.l23_great [.sl 2 (xy l)] []=some (B (l.any mO),[]):=by
 refine aX Ie Ic (Ca false) rfl ?_
 have h1:=Bo (k:=2) (g:=true) (f:=F.l23_great_1) (rows:=xy l) (p:=fun r=>mO (Sl r)) kZ kY (j7 false) rfl (vN false) (by rw [QC]; omega) (fun row hr=>by
  simp only [xy,List.mem_map] at hr
  obtain ⟨t,ht,rfl⟩:=hr
  have hd:=Mg (h2 t ht)
  refine ⟨.agg (Jh t),rfl,rfl,?_⟩
  rw [Pp]
  simp only [aZ] at hd
  simp only [Jh,go_sem,hd])
 have h2:=xT (k:=2) jZ jY (iU false) rfl (eY false) (kH false) (by simp only [go_sem]) h1
 have h3:(xy l).any (fun r=>mO (Sl r))=l.any mO:=by
  unfold xy
  rw [List.any_map]
  congr 1
  funext t
  exact congrArg mO (Pp t)
 rw [h3] at h2
 simp only [ov,yE,go_sem,↓reduceIte,aee,aeg,aef,h2]
theorem Ag {a:Rp} (oc:∀ t ∈ a.terms,Ok0 t.c) (h:mO a=false):OkP a:=by
 unfold mO at h
 rw [Bool.or_eq_false_iff] at h
 refine ⟨fun t ht=>⟨oc t ht,?_⟩⟩
 have:=List.any_eq_false.1 h.2 t ht
 unfold vf at this
 simp at this
 omega
structure Res (r:Rp × Int):Prop where
 cl:Cl r.1.vars r.1.terms
 len:r.1.terms.length≤100000
 z:r.2=0∨r.1=p0
end Go.Ab
namespace Go.Ab
open Go Go.IntWalk
set_option maxRecDepth 4000
set_option maxHeartbeats 2000000
def sy (a b:List Int) (i:Nat):List Int:=(bQ a b).take i++a.drop i
end Go.Ab
namespace Go.Ab
open Go Go.IntWalk
set_option maxRecDepth 4000
set_option maxHeartbeats 4000000
end Go.Ab
namespace Go.Ab
open Go Go.IntWalk
set_option maxRecDepth 4000
set_option maxHeartbeats 4000000
theorem ColE.app {v:Int} {l r r2:List Rt} {e:Int} {c1:AV} {l1:List Rt} {e1:Int} {c':AV} {l':List Rt} {e':Int} (h1:ColE v l r e c1 l1 e1) (h2:ColE v l1 r2 e1 c' l' e'):ColE v l (r++r2) e c' l' e':=by
 refine ⟨h2.c,?_⟩
 rw [Hm]
 rcases h1.r with ⟨a1,a2,a3⟩ | ⟨a1,a2⟩
 ·rw [a3]
  rcases h2.r with ⟨b1,b2,b3⟩ | ⟨b1,b2⟩
  ·exact .inl ⟨b1,a2,b3⟩
  ·exact .inr ⟨b1,fun _=>b2 a1⟩
 ·rcases h2.r with ⟨b1,b2,b3⟩ | ⟨b1,b2⟩
  ·omega
  ·exact .inr ⟨b1,fun h=>by rw [a2 h]; rfl⟩
theorem ColE.nx {v:Int} {l r:List Rt} {e:Int} {c1:AV} {l1:List Rt} {e1:Int} (h:ColE v l r e c1 l1 e1) (hC:e=0→Cl v l) (hr:∀ t ∈ r,VT v t):(e1=0∨e1=9)∧(e1=0→e=0∧Cl v l1∧l1.length≤l.length+r.length):=by
 rcases h.r with ⟨a1,a2,a3⟩ | ⟨a1,a2⟩
 ·exact ⟨.inl a1,fun _=>⟨a2,nR (hC a2) hr a3⟩⟩
 ·exact ⟨.inr a1,fun h=>by omega⟩
end Go.Ab
namespace Go.Ab
open Go Go.IntWalk
set_option maxRecDepth 4000
set_option maxHeartbeats 4000000
end Go.Ab
namespace Go.Ab
open Go Go.IntWalk
set_option maxRecDepth 4000
set_option maxHeartbeats 2000000
end Go.Ab
namespace Go.Ab
open Go Go.IntWalk
set_option maxRecDepth 4000
set_option maxHeartbeats 4000000
def XV (x:AV) (l:List Rt):Prop:=x=.sl 4 (ax l)∨(x=.emp∧l=[])
theorem XV.keep {x:AV} {l:List Rt} (h:XV x l) (hs:List Nat):ez hs x=x:=by
 rcases h with rfl | ⟨rfl,_⟩ <;> rfl
end Go.Ab
namespace Go.Ab
open Go Go.IntWalk
set_option maxRecDepth 4000
set_option maxHeartbeats 4000000
end Go.Ab
namespace Go.Ab
open Go Go.IntWalk
set_option maxRecDepth 4000
set_option maxHeartbeats 1000000
def qC:List Int→List Int→Bool
 | [],[]=>true
 | x::xs,y::ys=>decide (x=y) && qC xs ys
 | _,_=>false
theorem Mk:∀ {a b:List Int},qC a b=true↔a=b
 | [],[]=>by simp [qC]
 | x::a,y::b=>by simp [qC,Mk]
 | [],_::_=>by simp [qC]
 | _::_,[]=>by simp [qC]
theorem Jj:∀ {a b:List Int},a.length ≠ b.length→qC a b=false
 | [],[],h=>absurd rfl h
 | x::a,y::b,h=>by
  unfold qC
  rw [Jj (fun e=>h (by simp [e])),Bool.and_false]
 | [],_::_,_=>rfl
 | _::_,[],_=>rfl
theorem Oz {a b:List Int} (hl:a.length=b.length) (h2:a.length≤100000):∀ (k i:Nat),i+k=a.length→∀ (s:af) (h:aa),s 0=.sl 1 (aY a)→s 1=.sl 1 (aY b)→s 12=I a.length→s 13=I i →
  ∃ hh,aI 0 [] (aU (az R (ab false) bT) [0,1,12,13] [] s h)=if qC (a.drop i) (b.drop i)=true then some (.normal,⟨fun _=>.any,hh⟩) else some (.ret,⟨upd (fun _=>.any) 4 (B false),hh⟩):=by
 intro k
 induction k with
 | zero =>
  intro i hi s h g0 g1 g12 g13
  have e1:((i:Int) < a.length)=False:=ff (by omega)
  rw [List.drop_eq_nil_of_le (by omega),List.drop_eq_nil_of_le (by omega),aB]
  refine ⟨?hh0,?_⟩
  rotate_left
  ·simp only [bT,qC,go_sem,↓reduceIte,aee,g0,g1,g12,g13,e1]
   rfl
 | succ k ih =>
  intro i hi s h g0 g1 g12 g13
  have hlt:i < a.length:=by omega
  have hlt2:i < b.length:=by omega
  have e1:((i:Int) < a.length)=True:=tt (by omega)
  have e2:bH (aY a) (i:Int)=some (.ipt [I a[i]]):=qY rfl (List.getElem?_eq_getElem hlt)
  have e3:bH (aY b) (i:Int)=some (.ipt [I b[i]]):=qY rfl (List.getElem?_eq_getElem hlt2)
  have e5:IntKind.i64.wrap ((i:Int)+1)=((i+1:Nat):Int):=wi (by omega) (by omega)
  have ih':=ih (i+1) (by omega)
  rw [List.drop_eq_getElem_cons hlt,List.drop_eq_getElem_cons hlt2,aB]
  generalize a[i]=p at e2 ⊢
  generalize b[i]=q at e3 ⊢
  generalize aU _ _ _=L at ih' ⊢
  unfold qC
  by_cases hpq:p=q
  ·have e4:(p=q)=True:=eq_true hpq
   rw [decide_eq_true hpq,Bool.true_and]
   simp only [bT,go_sem,↓reduceIte,aee,g0,g1,g12,g13,e1,e2,e3,e4,e5]
   exact ih' _ _ rfl rfl rfl rfl
  ·have e4:(p=q)=False:=eq_false hpq
   rw [decide_eq_false hpq,Bool.false_and]
   simp only [if_neg Bool.false_ne_true]
   refine ⟨?hh1,?_⟩
   rotate_left
   ·simp only [bT,go_sem,↓reduceIte,aee,g0,g1,g12,g13,e1,e2,e3,e4]
    rfl
theorem U9 {a b:List Int} (hl:a.length=b.length) (h2:a.length≤100000) (s:af) (h:aa) (X:Option (Ex × St)) (hX:aI 0 [] (aU (az R (ab false) bT) [0,1,12,13] [] s h)=X) (g0:s 0=.sl 1 (aY a)) (g1:s 1=.sl 1 (aY b)) (g12:s 12=I a.length) (g13:s 13=I 0) :
  ∃ hh,X=if qC a b=true then some (.normal,⟨fun _=>.any,hh⟩) else some (.ret,⟨upd (fun _=>.any) 4 (B false),hh⟩):=by
 subst hX
 exact Oz hl h2 a.length 0 (Nat.zero_add _) s h g0 g1 g12 g13
theorem Sq {a b:List Int} (h2:a.length≤100000):R F.slices_Equal_int_int_ [.sl 1 (aY a),.sl 1 (aY b)] []=some (B (qC a b),[]):=by
 refine aX rT rS (qA false) rfl ?_
 by_cases h3:a.length=b.length
 ·have e3:((a.length:Int)=(b.length:Int))=True:=tt (by omega)
  have hl:=U9 (a:=a) (b:=b) h3 h2
  simp only [db,hJ,go_sem,↓reduceIte,aee,e3]
  generalize hX:aI 0 [] _=X
  obtain ⟨hh,rfl⟩:=hl _ _ _ hX rfl rfl rfl rfl
  cases qC a b with
  | true=>simp only [go_sem,↓reduceIte]
  | false=>simp only [go_sem,↓reduceIte]
 ·have e3:((a.length:Int)=(b.length:Int))=False:=ff (by omega)
  rw [Jj h3]
  simp only [db,hJ,go_sem,↓reduceIte,aee,e3]
def KE (x y:Rd):Int:=if vd x=true∧vd y=true then dM (zI x) (zI y) else 0
def Ml (x y:Rt):Bool:=qC x.exps y.exps && decide (KE x.c y.c=0)
theorem Sr {x y:Rt} (ox:OkT x) (oy:OkT y):R F.poly_Equal_1 [.agg (bv x),.agg (bv y)] []=some (B (Ml x y),[]):=by
 refine aX Ch Cg (ye false) rfl ?_
 have h1:=Sq (a:=x.exps) (b:=y.exps) (ox.len)
 have h2:=Qf ox.c oy.c
 have h3:(if vd x.c=true∧vd y.c=true then dM (zI x.c) (zI y.c) else 0)=KE x.c y.c:=rfl
 rw [h3] at h2
 simp only [aF,aW] at h2
 unfold Ml
 cases he:qC x.exps y.exps with
 | true =>
  rw [he] at h1
  rw [Bool.true_and]
  simp only [iw,pn,bv,go_sem,↓reduceIte,aee,aeg,aef,aeh,h1,h2]
 | false =>
  rw [he] at h1
  rw [Bool.false_and]
  simp only [iw,pn,bv,go_sem,↓reduceIte,aee,aeg,aef,h1]
def rN:List Rt→List Rt→Bool
 | [],[]=>true
 | x::xs,y::ys=>Ml x y && rN xs ys
 | _,_=>false
theorem Jk:∀ {a b:List Rt},a.length ≠ b.length→rN a b=false
 | [],[],h=>absurd rfl h
 | x::a,y::b,h=>by
  unfold rN
  rw [Jk (fun e=>h (by simp [e])),Bool.and_false]
 | [],_::_,_=>rfl
 | _::_,[],_=>rfl
theorem OA {a b:List Rt} (ha:∀ t ∈ a,OkT t) (hb:∀ t ∈ b,OkT t) (hl:a.length=b.length) (h2:a.length≤100000):∀ (k i:Nat),i+k=a.length→∀ (s:af) (h:aa),s 1=.sl 4 (ax b)→s 2=.fn F.poly_Equal_1 [] []→s 15=.sl 4 (ax a)→s 16=I a.length→s 17=I i →
  ∃ hh,aI 0 [] (aU (az R (ab false) aC) [1,2,15,16,17] [] s h)=if rN (a.drop i) (b.drop i)=true then some (.normal,⟨fun _=>.any,hh⟩) else some (.ret,⟨upd (fun _=>.any) 6 (B false),hh⟩):=by
 intro k
 induction k with
 | zero =>
  intro i hi s h g1 g2 g15 g16 g17
  have e1:((i:Int) < a.length)=False:=ff (by omega)
  rw [List.drop_eq_nil_of_le (by omega),List.drop_eq_nil_of_le (by omega),aB]
  refine ⟨?hh0,?_⟩
  rotate_left
  ·simp only [aC,rN,go_sem,↓reduceIte,aee,g1,g2,g15,g16,g17,e1]
   rfl
 | succ k ih =>
  intro i hi s h g1 g2 g15 g16 g17
  have hlt:i < a.length:=by omega
  have hlt2:i < b.length:=by omega
  have e1:((i:Int) < a.length)=True:=tt (by omega)
  have e2:bH (ax a) (i:Int)=some (.ipt (bv a[i])):=jt rfl (List.getElem?_eq_getElem hlt)
  have e3:bH (ax b) (i:Int)=some (.ipt (bv b[i])):=jt rfl (List.getElem?_eq_getElem hlt2)
  have e5:IntKind.i64.wrap ((i:Int)+1)=((i+1:Nat):Int):=wi (by omega) (by omega)
  have ih':=ih (i+1) (by omega)
  have vx:=ha _ (List.getElem_mem hlt)
  have vy:=hb _ (List.getElem_mem hlt2)
  rw [List.drop_eq_getElem_cons hlt,List.drop_eq_getElem_cons hlt2,aB]
  generalize a[i]=x at e2 vx ⊢
  generalize b[i]=y at e3 vy ⊢
  generalize aU _ _ _=L at ih' ⊢
  have hc:=Sr vx vy
  unfold rN
  simp only [bv] at e2 e3 hc
  cases hn:Ml x y with
  | true =>
   rw [hn] at hc
   rw [Bool.true_and]
   simp only [aC,go_sem,↓reduceIte,aee,aeg,aef,aeh,g1,g2,g15,g16,g17,e1,e2,e3,hc,e5]
   exact ih' _ _ rfl rfl rfl rfl rfl
  | false =>
   rw [hn] at hc
   rw [Bool.false_and]
   simp only [if_neg Bool.false_ne_true]
   refine ⟨?hh1,?_⟩
   rotate_left
   ·simp only [aC,go_sem,↓reduceIte,aee,aeg,aef,aeh,g1,g2,g15,g16,g17,e1,e2,e3,hc]
    rfl
theorem Va {a b:List Rt} (ha:∀ t ∈ a,OkT t) (hb:∀ t ∈ b,OkT t) (hl:a.length=b.length) (h2:a.length≤100000) (s:af) (h:aa) (X:Option (Ex × St)) (hX:aI 0 [] (aU (az R (ab false) aC) [1,2,15,16,17] [] s h)=X) (g1:s 1=.sl 4 (ax b)) (g2:s 2=.fn F.poly_Equal_1 [] []) (g15:s 15=.sl 4 (ax a)) (g16:s 16=I a.length) (g17:s 17=I 0) :
  ∃ hh,X=if rN a b=true then some (.normal,⟨fun _=>.any,hh⟩) else some (.ret,⟨upd (fun _=>.any) 6 (B false),hh⟩):=by
 subst hX
 exact OA ha hb hl h2 a.length 0 (Nat.zero_add _) s h g1 g2 g15 g16 g17
theorem Ss {a b:List Rt} (ha:∀ t ∈ a,OkT t) (hb:∀ t ∈ b,OkT t) (h2:a.length≤100000):R F.slices_EqualFunc_api_Term_Sapi_Term_api_Term_api_Term_ [.sl 4 (ax a),.sl 4 (ax b),.fn F.poly_Equal_1 [] []] []=some (B (rN a b),[]):=by
 refine aX eS eR (eg false) rfl ?_
 by_cases h3:a.length=b.length
 ·have e3:((a.length:Int)=(b.length:Int))=True:=tt (by omega)
  have hl:=Va ha hb h3 h2
  simp only [aL,br,go_sem,↓reduceIte,aee,e3]
  generalize hX:aI 0 [] _=X
  obtain ⟨hh,rfl⟩:=hl _ _ _ hX rfl rfl rfl rfl rfl
  cases rN a b with
  | true=>simp only [go_sem,↓reduceIte]
  | false=>simp only [go_sem,↓reduceIte]
 ·have e3:((a.length:Int)=(b.length:Int))=False:=ff (by omega)
  rw [Jk h3]
  simp only [aL,br,go_sem,↓reduceIte,aee,e3]
def yK (a b:Rp):Bool:=((vp a && vp b) && decide (a.vars=b.vars)) && rN a.terms b.terms
theorem pK {a b:Rp} (oa:OkP a) (ob:OkP b):R F.poly_Equal [aZ a,aZ b] []=some (B (yK a b),[]):=by
 refine aX Gi Gh (A3 false) rfl ?_
 have v1:=nQ oa
 have v2:=nQ ob
 simp only [aZ] at v1 v2
 unfold yK
 cases va:vp a with
 | false =>
  rw [va] at v1
  simp only [Bool.false_and]
  simp only [fF,lz,aZ,go_sem,↓reduceIte,aee,aeg,aef,aeh,v1]
 | true =>
  rw [va] at v1
  cases vb:vp b with
  | false =>
   rw [vb] at v2
   simp only [Bool.false_and,Bool.and_false]
   simp only [fF,lz,aZ,go_sem,↓reduceIte,aee,aeg,aef,aeh,v1,v2]
  | true =>
   rw [vb] at v2
   rw [Bool.true_and,Bool.true_and]
   by_cases hv:a.vars=b.vars
   ·have e1:(a.vars=b.vars)=True:=eq_true hv
    have hl:=Ss oa.t ob.t (by have:=(KA va).2.2.1; omega)
    rw [decide_eq_true hv,Bool.true_and]
    simp only [fF,lz,aZ,go_sem,↓reduceIte,aee,aeg,aef,aeh,v1,v2,e1,hl]
   ·have e1:(a.vars=b.vars)=False:=eq_false hv
    rw [decide_eq_false hv,Bool.false_and]
    simp only [fF,lz,aZ,go_sem,↓reduceIte,aee,aeg,aef,aeh,v1,v2,e1]
theorem QI {x y:Rd} (ox:Ok0 x) (oy:Ok0 y) (vx:vd x=true) (vy:vd y=true):KE x y=0↔x=y:=by
 unfold KE
 rw [if_pos ⟨vx,vy⟩]
 constructor
 ·intro h
  exact LY ox oy vx vy (by rcases kh (zI x) (zI y) with h1 | h1 | h1 <;> omega)
 ·rintro rfl
  rcases kh (zI x) (zI x) with h1 | h1 | h1 <;> omega
theorem HD {v w:Int}:∀ {a b:List Rt},(∀ t ∈ a,VT v t)→(∀ t ∈ b,VT w t)→(rN a b=true↔a=b)
 | [],[],_,_=>by simp [rN]
 | x::a,y::b,ha,hb=>by
  have ih:=HD (a:=a) (b:=b) (fun t ht=>ha t (by simp [ht])) (fun t ht=>hb t (by simp [ht]))
  have vx:=ha x (by simp)
  have vy:=hb y (by simp)
  unfold rN Ml
  rw [Bool.and_eq_true,Bool.and_eq_true,decide_eq_true_eq,QI vx.c vy.c vx.vc vy.vc,Mk,ih]
  constructor
  ·rintro ⟨⟨h1,h2⟩,rfl⟩
   cases x
   cases y
   cases h1
   cases h2
   rfl
  ·intro h
   cases h
   exact ⟨⟨rfl,rfl⟩,rfl⟩
 | [],_::_,_,_=>by simp [rN]
 | _::_,[],_,_=>by simp [rN]
theorem tW {a b:Rp} (oa:OkP a) (ob:OkP b):yK a b=true↔vp a=true∧vp b=true∧a=b:=by
 unfold yK
 rw [Bool.and_eq_true,Bool.and_eq_true,Bool.and_eq_true,decide_eq_true_eq]
 constructor
 ·rintro ⟨⟨⟨va,vb⟩,hv⟩,hl⟩
  have h:=(HD (dH oa va).1.t (dH ob vb).1.t).1 hl
  refine ⟨va,vb,?_⟩
  cases a
  cases b
  cases hv
  cases h
  rfl
 ·rintro ⟨va,vb,rfl⟩
  exact ⟨⟨⟨va,va⟩,rfl⟩,(HD (dH oa va).1.t (dH oa va).1.t).2 rfl⟩
end Go.Ab
namespace Go.Ab
open Go Go.IntWalk
set_option maxRecDepth 4000
set_option maxHeartbeats 2000000
theorem anJ {a b:Rp} (oa:OkP a) (ob:OkP b) (va:vp a=true) (vb:vp b=true):yK a b=agq a b:=by
 rw [Bool.eq_iff_iff,tW oa ob]
 unfold agq
 rw [Bool.and_eq_true,decide_eq_true_eq]
 have ka:=(dH oa va).1.t
 have kb:=(dH ob vb).1.t
 constructor
 ·rintro ⟨_,_,rfl⟩
  exact ⟨rfl,(agT ka ka).2 rfl⟩
 ·rintro ⟨hv,hs⟩
  rw [← hv] at kb
  have h:=(agT ka kb).1 hs
  refine ⟨va,vb,?_⟩
  cases a
  cases b
  cases hv
  cases h
  rfl
theorem anL {a b:Rp} (haw:R F.l23_awake [] []=some (B true,[])) (oa:∀ t ∈ a.terms,Ok0 t.c) (la:a.terms.length < 4611686018427387904) (ob:∀ t ∈ b.terms,Ok0 t.c) (lb:b.terms.length < 4611686018427387904) :
  R F.l23_PolyValid [aZ a,aZ b] []=some (B true,[]):=by
 refine aX anz anx (anw false) rfl ?_
 have hg:=Ox (l:=[a,b]) (by simp) (fun x hx=>by simp at hx; rcases hx with rfl | rfl; exact la; exact lb)
 simp only [xy,Jh,List.map_cons,List.map_nil] at hg
 cases h:[a,b].any mO with
 | true =>
  rw [h] at hg
  simp only [akp,akY,aZ,go_sem,↓reduceIte,aee,aeg,aef,aeh,aej,haw,hg]
  done
 | false =>
  rw [h] at hg
  simp only [List.any_cons,List.any_nil,Bool.or_false,Bool.or_eq_false_iff] at h
  have ka:=Ag oa h.1
  have kb:=Ag ob h.2
  have h1:=nQ ka
  have h2:=afQ ka
  have h3:=afQ kb
  have h4:=Di ka
  have h5:=anG ka
  have h6:=pK ka ka
  have h7:=pK ka kb
  simp only [aZ] at h1 h2 h3 h4 h5 h6 h7
  have t1:(false != (false == false))=true:=rfl
  have t2:(false != (true == true))=true:=rfl
  have t3':(iM a=iM a)=True:=eq_self _
  cases va:vp a with
  | false =>
   rw [va] at h1 h2
   rw [show yK a a=false by unfold yK; rw [va]; rfl] at h6
   rw [show yK a b=false by unfold yK; rw [va]; rfl] at h7
   simp only [akp,akY,aZ,go_sem,↓reduceIte,aee,aeg,aef,aeh,aej,aei,haw,hg,h1,h2,h4,h5,h6,h7,t1]
   done
  | true =>
   rw [va] at h1 h2
   rw [(tW ka ka).2 ⟨va,va,rfl⟩] at h6
   cases vb:vp b with
   | false =>
    rw [vb] at h3
    rw [show yK a b=false by unfold yK; rw [va,vb]; rfl] at h7
    simp only [akp,akY,aZ,go_sem,↓reduceIte,aee,aeg,aef,aeh,aej,aei,haw,hg,h1,h2,h3,h4,h5,h6,h7,t1,t2]
    done
   | true =>
    rw [vb] at h3
    have h8:=ai8 (dH ka va).1 (dH kb vb).1 (by have:=(KA va).2.2.1; omega)
    simp only [aZ] at h8
    rw [anJ ka kb va vb] at h7
    cases hs:agq a b with
    | true =>
     rw [hs] at h7 h8
     simp only [akp,akY,aZ,go_sem,↓reduceIte,aee,aeg,aef,aeh,aej,aei,haw,hg,h1,h2,h3,h4,h5,h6,h7,h8,t2]
     done
    | false =>
     rw [hs] at h7 h8
     simp only [akp,akY,aZ,go_sem,↓reduceIte,aee,aeg,aef,aeh,aej,aei,haw,hg,h1,h2,h3,h4,h5,h6,h7,h8,t1,t2]
     done
end Go.Ab
namespace Go.Ab
open Go Go.IntWalk
set_option maxRecDepth 4000
set_option maxHeartbeats 1000000
def sT:Env:=⟨fun f=>ER.lookup f,au.C,au.md⟩
noncomputable def R0:cT:=cR sT
theorem tY {f:FuncId} {fd:FD} {args:List AV} {hs:List Ob} {r:AV × List Ob} (hE:sT.E f=none) (hC:sT.C f=some fd) (hk:sT.md.keep f=false) (h1:args.length=fd.np) (h2:hs.length≤1000)
  (hz:rk false fd.rs fd.res hs.length (az R0 (ab false) fd.body (pf args) (ae hs))=some r):R0 f args hs=some r:=by
 refine wQ hE hC ?_
 unfold FX
 rw [if_pos ⟨h1,h2⟩,hk]
 exact hz
theorem oQ (o:Ob):ae [o]=upd (fun _=>.dead) 1000 o:=by
 funext i
 unfold ae upd
 by_cases h:i=1000
 ·subst h
  rfl
 ·rw [if_neg h]
  split
  ·rw [List.getElem?_eq_none (by simp; omega)]
   rfl
  ·rfl
theorem OD {r:List AV} {rs:List (List AV)} (h:(rs.length+1)*8≤140737488355328):R0 F.slices_Clone_int_int_ [.sl 1 (r::rs)] []=some (.osl 1 (r::rs),[]):=by
 refine tY (fd:=dX) (by kernel_rfl) (by kernel_rfl) (by kernel_rfl) rfl (by decide) ?_
 have e1:((rs.length+1)*8≤140737488355328)=True:=eq_true h
 have e2:xD false (.sl 1 (r::rs))=some (B false):=rfl
 simp only [dX,mh,go_sem,↓reduceIte,aee,aeh,aej,e1,e2,List.length_cons,List.length_nil,Nat.zero_add,Nat.zero_le,Nat.le_refl,true_and,true_or,List.nil_append]
theorem OE:dJ 4 .emp (some (I 0)) none none=some .emp:=rfl
theorem QK {r:List AV}:R0 F.slices_Insert_api_Term_api_Term_ [.emp,I 0,.sl 4 [r]] []=some (.osl 4 [r],[]):=by
 refine tY (fd:=aH) (by kernel_rfl) (by kernel_rfl) (by kernel_rfl) rfl (by decide) ?_
 have e1:((1:Int)=0)=False:=by decide
 simp only [aH,bD,go_sem,↓reduceIte,aee,aeg,aef,aeh,aej,OE,List.length_cons,List.length_nil,Int.natCast_one,e1,Nat.zero_add]
theorem pL {n i:Nat} (h:i≤n):hG n (some (I i)) none none=some (i,n):=by
 simp only [hG,gF,Option.bind_some]
 rw [if_pos ⟨by omega,by omega⟩]
 rfl
theorem Mq {id k l0 n i:Nat} (h:i≤n):dJ k (.rsl id none k l0 n) (some (I i)) none none=some (.rsl id none k (l0+i) (n - i)):=by
 simp only [dJ,if_true,pL h,Option.map_some,Option.isNone_none]
theorem CL {h:aa} {j k n:Nat} {rows:List (List AV)} (hj:aG j=false) (hh:h j=.ar k rows) (hn:n=rows.length) (hc:aA [1000] (h 1000)=true):n6 [[]] 1 h [.rsl j none k 0 n]=some (.osl k rows,[h 1000]):=by
 subst hn
 have hp:bS 1=[1000]:=rfl
 unfold n6
 rw [if_pos]
 ·simp [lP,ll,fX,hj,hh,qq,kP,aM,nrmV,nrmL,hp]
 ·simp [hp,hc,fm,bk,cP,hj]
theorem Mr {r:List AV} {rows:List (List AV)} {n:Nat} (hn:n=rows.length) (hb:(n+1)*64≤140737488355328):R0 F.slices_Insert_api_Term_api_Term_ [.rsl 1000 none 4 0 n,I n,.sl 4 [r]] [.ar 4 rows]=some (.osl 4 (rows++[r]),[.dead]):=by
 refine tY (fd:=aH) (by kernel_rfl) (by kernel_rfl) (by kernel_rfl) rfl (by simp) ?_
 subst hn
 rw [oQ]
 have e1:((1:Int)=0)=False:=by decide
 have e2:=Mq (id:=1000) (k:=4) (l0:=0) (Nat.le_refl rows.length)
 have e3:((rows.length+1)*64≤140737488355328)=True:=eq_true hb
 have e4:(rows.length+1≤rows.length)=False:=eq_false (by omega)
 have e5:∀ h,yL h 25 4 64 1000 4 0 rows.length [r] 4 rows=bO (upd h 1000 .dead) 25 4 (rows++[r]) (rows.length+1) [(1000,false)]:=fun h=>by
  simp only [yL,List.length_singleton]
  rw [if_neg (by omega),if_pos ⟨trivial,trivial,trivial,trivial,hb⟩]
 simp only [aH,bD,go_sem,↓reduceIte,aee,aeg,aef,aeh,aej,List.length_cons,List.length_nil,Int.natCast_one,e1,e2,e3,e4,e5,Nat.zero_add,Nat.add_zero,Nat.sub_self,or_self,Nat.le_refl,List.length_append]
 exact CL rfl rfl (by simp) rfl
theorem Sx {f:FuncId} {g:List AV→List Ob→Option (AV × List Ob)} {args:List AV} {hs:List Ob} (hE:sT.E f=some g):R0 f args hs=g args hs:=uK hE
theorem QL {h:aa} {d:Nat} {r:List AV} {rows:List (List AV)} {lo m:Nat} (hh:h 1000=.ar 4 rows) (hd:h (2000+8*d)=.dead) :
  ai R0 (ab false) h d [.sl 4 [r],.rsl 1000 none 4 lo m] (.fn F.slices_overlaps_api_Term_ [] [])=some (B false,upd h 1000 (.ar 4 rows),[(1000,true)]):=by
 have hm:(ab false).m F.slices_overlaps_api_Term_=[0,1]:=by kernel_rfl
 have hs:(ab false).sh F.slices_overlaps_api_Term_=[]:=by kernel_rfl
 have hk:(ab false).keep F.slices_overlaps_api_Term_=false:=by kernel_rfl
 have hf:R0 F.slices_overlaps_api_Term_ [.sl 4 [r],.rsl 1000 none 4 lo m] [.ar 4 rows]=some (B false,[.ar 4 rows]):=by
  rw [Sx (g:=II 4) (by kernel_rfl)]
  simp [II]
 have hb:jG (ab false) [.sl 4 [r],.rsl 1000 none 4 lo m] (.fn F.slices_overlaps_api_Term_ [] [])=false:=by
  simp [jG,hm]
 have hr:bJ h 40 [1000] 0=[1000]:=by
  simp [bJ,hh,uk,bo]
 have hn:cf (B false)=1:=rfl
 unfold ai
 rw [if_neg (by rw [hb]; exact Bool.false_ne_true)]
 have h1:ah h [0,1] [.sl 4 [r],.rsl 1000 none 4 lo m]=some ([.sl 4 [r],.rsl 1000 none 4 lo m],h,[]):=by
  simp [ah,bM,mE,du,ak]
 have h2:bo [] ([AV.sl 4 [r],.rsl 1000 none 4 lo m].flatMap bk)=[1000]:=by
  simp [bk,cP,bo]
 have h3:aV [1000] 1000=1000:=rfl
 simp only [dq,hm,List.nil_append,List.append_nil,h1,Option.bind_some,h2,hr,hs]
 simp [jF,aM,aJ,aO,hh,aA,cD,cQ,fV,h3,cC,hf,dZ,hn,cx,hd,cU,bf,mP,uq,kN,cP,ey,cZ,rh,cz,mat,bU,dC,hk,uo,hm]
theorem Du {id k l0 n i:Nat}:dJ k (.rsl id none k l0 n) (some (I i)) none none=(hG n (some (I i)) none none).map fun p=>.rsl id none k (l0+p.1) (p.2 - p.1):=by
 simp only [dJ,if_true,Option.isNone_none]
theorem Ms {n c i:Nat} (h:i≤c):gF n c (some (I i))=some i:=by
 simp only [gF]
 rw [if_pos ⟨by omega,by omega⟩]
 rfl
theorem QM {r:List AV} {rows:List (List AV)} {n i:Nat} (hn:n=rows.length) (hi:i < n) (hb:(n+1)*64≤140737488355328) :
  R0 F.slices_Insert_api_Term_api_Term_ [.rsc 1000 4 0 n n,I i,.sl 4 [r]] [.ar 4 rows]=some (.osl 4 (rows.take i++r::rows.drop i),[.ar 4 rows]):=by
 refine tY (fd:=aH) (by kernel_rfl) (by kernel_rfl) (by kernel_rfl) rfl (by simp) ?_
 rw [oQ]
 have e1:((1:Int)=0)=False:=by decide
 have e2:((i:Int)=(n:Int))=False:=eq_false (by omega)
 have e3:IntKind.i64.wrap ((n:Int)+1)=((n+1:Nat):Int):=wi (by omega) (by omega)
 have e4:((n:Int) < ((n+1:Nat):Int))=True:=eq_true (by omega)
 have e5:IntKind.i64.wrap (((n+1:Nat):Int) - (i:Int))=((n+1 - i:Nat):Int):=wi (by omega) (by omega)
 have e6:IntKind.i64.wrap ((i:Int)+1)=((i+1:Nat):Int):=wi (by omega) (by omega)
 have b1:=pL (n:=n) (i:=i) (by omega)
 have b2:=Ms (n:=n) (c:=n) (i:=i) (by omega)
 have b3:=pL (n:=n+1) (i:=i) (by omega)
 have b4:=pL (n:=n+1) (i:=i+1) (by omega)
 have f1:((0:Int) < ((n+1 - i:Nat):Int))=True:=eq_true (by omega)
 have f2:(n < i+((n+1 - i:Nat):Int).toNat)=True:=eq_true (by omega)
 have f3:i+((n+1 - i:Nat):Int).toNat=n+1:=by omega
 have f4:(i≤rows.length)=True:=eq_true (by omega)
 have f5:((n+1)*64≤140737488355328)=True:=eq_true hb
 have f6:(n < n+1)=True:=eq_true (by omega)
 obtain ⟨A,hA⟩:∃ A,rows.take i++List.replicate ((n+1 - i:Nat):Int).toNat [AV.emp,B false,AV.emp,I 0]=A:=⟨_,rfl⟩
 have a1:A.length=n+1:=by rw [← hA,List.length_append,List.length_take,List.length_replicate]; omega
 have a2:A.take i=rows.take i:=by
  rw [← hA,List.take_append_of_le_length (by rw [List.length_take]; omega),List.take_of_length_le (by rw [List.length_take]; omega)]
 have a3:(i≤A.length)=True:=eq_true (by omega)
 obtain ⟨D,hD⟩:∃ D,A.take i++[r]++A.drop (i+1)=D:=⟨_,rfl⟩
 have d1:D.length=n+1:=by
  rw [← hD,List.length_append,List.length_append,List.length_take,List.length_drop,List.length_singleton]
  omega
 have d2:D.take (i+1)=rows.take i++[r]:=by
  rw [← hD,a2,List.take_append_of_le_length (by rw [List.length_append,List.length_take,List.length_singleton]; omega),List.take_of_length_le (by rw [List.length_append,List.length_take,List.length_singleton]; omega)]
 have d3:(i+1≤D.length)=True:=eq_true (by omega)
 have t1:List.take (n+1 - i) [r]=[r]:=List.take_of_length_le (by rw [List.length_singleton]; omega)
 have t2:(rows.drop i).take (n - i)=rows.drop i:=List.take_of_length_le (by rw [List.length_drop]; omega)
 have t3:(1=min 1 (n+1 - i))=True:=eq_true (by omega)
 have t4:n+1 - (i+1)=n - i:=by omega
 have t5:(i+(n - i)≤rows.length)=True:=eq_true (by omega)
 have t6:(rows.drop i).length=n - i:=by rw [List.length_drop]; omega
 have t7:D.drop (i+1+(n - i))=[]:=List.drop_eq_nil_of_le (by omega)
 simp only [aH,bD,go_sem,↓reduceIte,aee,aeg,aef,aeh,aej,List.length_cons,List.length_nil,Int.natCast_one,e1,e2,e3,e4,e5,e6,b1,b2,b3,b4,f1,f2,f3,f4,f5,f6,hA,hD,a3,d3,t1,t2,t3,t4,t5,t6,t7,Nat.min_self,Nat.zero_add,Nat.add_zero,Nat.sub_self,or_self,Nat.le_refl,Du,and_self]
 rw [d2]
 have hfin:rows.take i++[r]++rows.drop i=rows.take i++r::rows.drop i:=by rw [List.append_assoc]; rfl
 rw [hfin]
 exact CL rfl rfl (by rw [List.length_append,List.length_take,List.length_cons,List.length_drop]; omega) rfl
theorem QN {r:List AV} {rows:List (List AV)} {n i c:Nat} (hn:n=rows.length) (hi:i < n) (hc:n+1≤c) (hb:(n+1)*64≤140737488355328) :
  R0 F.slices_Insert_api_Term_api_Term_ [.rsc 1000 4 0 n c,I i,.sl 4 [r]] [.ar 4 rows]=some (.osl 4 (rows.take i++r::rows.drop i),[.dead]):=by
 refine tY (fd:=aH) (by kernel_rfl) (by kernel_rfl) (by kernel_rfl) rfl (by simp) ?_
 rw [oQ]
 have e1:((1:Int)=0)=False:=by decide
 have e2:((i:Int)=(n:Int))=False:=eq_false (by omega)
 have e3:IntKind.i64.wrap ((n:Int)+1)=((n+1:Nat):Int):=wi (by omega) (by omega)
 have e4:((c:Int) < ((n+1:Nat):Int))=False:=eq_false (by omega)
 have e6:IntKind.i64.wrap ((i:Int)+1)=((i+1:Nat):Int):=wi (by omega) (by omega)
 have b1:=pL (n:=n) (i:=i) (by omega)
 have b2:=Ms (n:=n) (c:=c) (i:=n+1) hc
 have b3:=pL (n:=n+1) (i:=i) (by omega)
 have b4:=pL (n:=n+1) (i:=i+1) (by omega)
 have o1:=fun (h:aa) (h0:h 1000=.ar 4 rows) (h1:h (2000+8*67)=.dead)=>QL (r:=r) (lo:=i+1) (m:=n - i) h0 h1
 have t1:List.take (n+1 - i) [r]=[r]:=List.take_of_length_le (by rw [List.length_singleton]; omega)
 have t2:(rows.drop i).take (n - i)=rows.drop i:=List.take_of_length_le (by rw [List.length_drop]; omega)
 have t3:(1=min 1 (n+1 - i))=True:=eq_true (by omega)
 have t4:n+1 - (i+1)=n - i:=by omega
 have t5:(i+(n - i)≤rows.length)=True:=eq_true (by omega)
 have t6:(rows.drop i).length=n - i:=by rw [List.length_drop]; omega
 have t8:min (n - i) (n+1 - i)=n - i:=by omega
 have t9:(n - i=min (n+1 - i) (n - i))=True:=eq_true (by omega)
 have f4:(i+1≤rows.length)=True:=eq_true (by omega)
 have t7:rows.drop (i+1+(n - i))=[]:=List.drop_eq_nil_of_le (by omega)
 obtain ⟨A,hA⟩:∃ A,rows.take (i+1)++rows.drop i=A:=⟨_,rfl⟩
 have a1:A.length=n+1:=by
  rw [← hA,List.length_append,List.length_take,List.length_drop]
  omega
 have a2:A.take i=rows.take i:=by
  rw [← hA,List.take_append_of_le_length (by rw [List.length_take]; omega),List.take_take,Nat.min_eq_left (by omega)]
 have a4:A.drop (i+1)=rows.drop i:=by
  rw [← hA,List.drop_append_of_le_length (by rw [List.length_take]; omega),List.drop_eq_nil_of_le (by rw [List.length_take]; omega),List.nil_append]
 have a3:(i≤A.length)=True:=eq_true (by omega)
 simp only [aH,bD,go_sem,↓reduceIte,aee,aeg,aef,aeh,aej,List.length_cons,List.length_nil,Int.natCast_one,e1,e2,e3,e4,e6,b1,b2,b3,b4,t4,Nat.zero_add]
 rw [o1 _ rfl rfl]
 simp only [go_sem,↓reduceIte,aee,aeg,aef,aeh,aej,aei,List.length_cons,List.length_nil,Int.natCast_one,e1,e2,e3,e4,e6,b1,b2,b3,b4,t1,t2,t3,t4,t5,t6,t7,t8,t9,f4,a3,hA,Nat.zero_add,Nat.add_zero,Nat.sub_self,or_self,Nat.le_refl,Du,and_self]
 rw [a2,a4,show rows.take i++[r]++rows.drop i=rows.take i++r::rows.drop i by rw [List.append_assoc]; rfl]
 exact CL rfl rfl (by rw [List.length_append,List.length_take,List.length_cons,List.length_drop]; omega) rfl
def vQ (c1 c2:cT):Prop:=∀ f a hs r,c1 f a hs=some r→c2 f a hs=some r
section
variable {c1 c2:cT} {md:Mode}
theorem In (hc:vQ c1 c2) {h:aa} {d:Nat} {zas:List AV} {f:AV} {r:R3} (hz:dq c1 md h d zas f=some r):dq c2 md h d zas f=some r:=by
 cases f <;> simp only [dq] at hz ⊢ <;> try (cases hz; done)
 simp only [Option.bind_eq_some_iff] at hz ⊢
 obtain ⟨p,e1,e2⟩:=hz
 unfold jF at e2 ⊢
 split at e2
 ·rename_i hcc
  simp only [Option.bind_eq_some_iff] at e2
  obtain ⟨q,e3,e4⟩:=e2
  refine ⟨p,e1,?_⟩
  rw [if_pos hcc]
  simp only [Option.bind_eq_some_iff]
  exact ⟨q,hc _ _ _ _ e3,e4⟩
 ·cases e2
theorem BE (hc:vQ c1 c2) {h:aa} {d:Nat} {zas:List AV} {f:AV} {r:R3} (hz:ai c1 md h d zas f=some r):ai c2 md h d zas f=some r:=by
 unfold ai at hz ⊢
 split at hz
 ·rename_i hb
  rw [if_pos hb]
  cases f <;> simp only [Ar] at hz ⊢ <;> try (cases hz; done)
  simp only [Option.bind_eq_some_iff] at hz ⊢
  obtain ⟨p,e1,q,e3,e4⟩:=hz
  exact ⟨p,e1,q,hc _ _ _ _ e3,e4⟩
 ·rename_i hb
  rw [if_neg hb]
  exact In hc hz
theorem Dv (hc:vQ c1 c2) {d:Nat} {op:AOp} {s:af} {h:aa} {r:R3} (hz:step c1 md d op s h=some r):step c2 md d op s h=some r:=by
 cases op with
 | call f zas=>exact BE hc hz
 | callC f zas =>
  simp only [step,Option.bind_eq_some_iff] at hz ⊢
  obtain ⟨q,e1,e2⟩:=hz
  exact ⟨q,BE hc e1,e2⟩
 | _=>exact hz
theorem Dw (hc:vQ c1 c2) {d:Option Nat} {op:AOp} {s:af} {h:aa} {t:St} (hz:bK md.nm s d (step c1 md (d.getD 0) op s h)=some t):bK md.nm s d (step c2 md (d.getD 0) op s h)=some t:=by
 cases hs:step c1 md (d.getD 0) op s h with
 | none=>rw [hs] at hz; cases hz
 | some r =>
  rw [hs] at hz
  rw [Dv hc hs]
  exact hz
theorem KG (hc:vQ c1 c2) {o:COp} {s:af} {h:aa} {t:St} (hz:fW c1 md o s h=some t):fW c2 md o s h=some t:=by
 unfold fW at hz ⊢
 cases hg:o.g with
 | none=>rw [hg] at hz; exact Dw hc hz
 | some g =>
  rw [hg] at hz
  simp only at hz ⊢
  unfold fv at hz ⊢
  split at hz
  ·split at hz
   ·rename_i hb
    simp only [if_pos hb]
    exact Dw hc hz
   ·rename_i hb
    simp only [if_neg hb]
    exact hz
  ·exact hz
  ·cases hz
theorem rP (hc:vQ c1 c2):∀ {l:List COp} {s:af} {h:aa} {t:St},am c1 md l s h=some t→am c2 md l s h=some t
 | [],s,h,t,hz=>hz
 | o::l,s,h,t,hz=>by
  simp only [am,aK] at hz
  split at hz
  ·cases hz
  ·rename_i t1 ht1
   simp only [am,aK,KG hc ht1,rP hc hz]
theorem BF (hc:vQ c1 c2) {d:Option Nat} {op:AOp} {s:af} {h:aa} {f:aa→Fp} {t:St × Fp} (hz:fh s d f (step c1 md (d.getD 0) op s h)=some t):fh s d f (step c2 md (d.getD 0) op s h)=some t:=by
 cases hs:step c1 md (d.getD 0) op s h with
 | none=>rw [hs] at hz; cases hz
 | some r =>
  rw [hs] at hz
  rw [Dv hc hs]
  exact hz
theorem KH (hc:vQ c1 c2) {o:COp} {s:af} {h:aa} {t:St × Fp} (hz:cj c1 md o s h=some t):cj c2 md o s h=some t:=by
 unfold cj at hz ⊢
 cases hg:o.g with
 | none=>rw [hg] at hz; exact BF hc hz
 | some g =>
  rw [hg] at hz
  simp only at hz ⊢
  unfold jI at hz ⊢
  split at hz
  ·split at hz
   ·rename_i hb
    simp only [if_pos hb]
    exact BF hc hz
   ·rename_i hb
    simp only [if_neg hb]
    exact hz
  ·exact hz
  ·cases hz
theorem xz (hc:vQ c1 c2):∀ {l:List COp} {s:af} {h:aa} {t:St × List Fp},dA c1 md l s h=some t→dA c2 md l s h=some t
 | [],s,h,t,hz=>hz
 | o::l,s,h,t,hz=>by
  simp only [dA,Option.bind_eq_some_iff] at hz
  obtain ⟨r,e1,q,e2,e3⟩:=hz
  simp only [dA,KH hc e1,xz hc e2,Option.bind_some,e3]
theorem KI (hc:vQ c1 c2) {l:List COp} {ps:List (Nat × Nat)} {s:af} {h:aa} {t:St} (hz:jJ c1 md l ps s h=some t):jJ c2 md l ps s h=some t:=by
 unfold jJ at hz ⊢
 cases hb:pQ ps with
 | none =>
  rw [hb] at hz
  simp only [pW,Option.bind_eq_some_iff] at hz
  obtain ⟨q,e1,e2⟩:=hz
  simp only [pW,xz hc e1,Option.bind_some,e2]
 | some b =>
  rw [hb] at hz
  simp only [ur,Option.bind_eq_some_iff] at hz
  obtain ⟨q,e1,e2⟩:=hz
  split at e2
  ·rename_i hps
   simp only [aK] at e2
   split at e2
   ·cases e2
   ·rename_i t1 ht1
    simp only [ur,xz hc e1,Option.bind_some,if_pos hps,ht1,aK,rP hc e2]
  ·cases e2
theorem xA {b1 b2:af→aa→Option (Ex × St)} {ks hs:List Nat} (ih:∀ {s:af} {h:aa} {r:Ex × St},b1 s h=some r→b2 s h=some r) :
  ∀ (m:Nat) {j:Nat},m≤j→∀ {s:af} {h:aa} {r:Ex × St},kC b1 ks hs m s h=some r→kC b2 ks hs j s h=some r
 | 0,j,hj,s,h,r,hz=>by simp [kC] at hz
 | m+1,j,hj,s,h,r,hz=>by
  obtain ⟨j,rfl⟩:∃ j',j=j'+1:=⟨j - 1,by omega⟩
  simp only [kC] at hz ⊢
  split at hz
  ·rename_i hc
   rw [if_pos hc]
   cases hb:b1 (mk .any (fun i=>ez hs (s i)) ks) (mk .dead h hs) with
   | none=>rw [hb] at hz; cases hz
   | some q =>
    rw [hb] at hz
    rw [ih hb]
    obtain ⟨ex,t⟩:=q
    cases ex with
    | normal=>exact xA ih m (by omega) hz
    | exit id=>exact hz
    | ret=>exact hz
  ·cases hz
theorem eu (hc:vQ c1 c2) {lf lf':Nat} (hl:lf≤lf'):∀ (c:Cmd) {s:af} {h:aa} {r:Ex × St},bc c1 md lf c s h=some r→bc c2 md lf' c s h=some r
 | .skip,s,h,r,hz=>hz
 | .ops ks l,s,h,r,hz=>by
  simp only [bc,aK] at hz
  split at hz
  ·cases hz
  ·rename_i t1 ht1
   simp only [bc,rP hc ht1,aK]
   exact hz
 | .dops ks l ps,s,h,r,hz=>by
  simp only [bc,aK] at hz
  split at hz
  ·cases hz
  ·rename_i t1 ht1
   simp only [bc,KI hc ht1,aK]
   exact hz
 | .seq a b,s,h,r,hz=>by
  simp only [bc,dD] at hz
  split at hz
  ·cases hz
  ·rename_i t1 ht1
   simp only [bc,dD,eu hc hl a ht1,eu hc hl b hz]
  ·rename_i i t1 ht1
   simp only [bc,dD,eu hc hl a ht1]
   exact hz
  ·rename_i t1 ht1
   simp only [bc,dD,eu hc hl a ht1]
   exact hz
 | .cond c a b,s,h,r,hz=>by
  simp only [bc,jK] at hz
  split at hz
  ·rename_i t ht
   cases t with
   | true=>simp only [bc,jK,ht,if_true]; exact eu hc hl a hz
   | false=>simp only [bc,jK,ht,Bool.false_eq_true,if_false]; exact eu hc hl b hz
  ·cases hz
 | .block id ks a,s,h,r,hz=>by
  simp only [bc,aI] at hz
  split at hz
  ·cases hz
  ·rename_i t1 ht1
   simp only [bc,aI,eu hc hl a ht1]
   exact hz
  ·rename_i i t1 ht1
   simp only [bc,aI,eu hc hl a ht1]
   exact hz
  ·rename_i t1 ht1
   simp only [bc,aI,eu hc hl a ht1]
   exact hz
 | .loop ks hs a,s,h,r,hz=>by
  simp only [bc] at hz ⊢
  exact xA (fun hh=>eu hc hl a hh) lf hl hz
 | .exit id,s,h,r,hz=>hz
 | .ret,s,h,r,hz=>hz
 | .frz is a,s,h,r,hz=>by
  simp only [bc,aK] at hz
  split at hz
  ·cases hz
  ·rename_i t1 ht1
   simp only [bc,aK,ht1]
   exact eu hc hl a hz
end
abbrev Ah:=List (Nat × List AV × AV)
def HF:Ah→FuncId→List AV→Option AV
 | [],_,_=>none
 | x::l,f,args=>if x.1=f then (if wm x.2.1 args=true then some x.2.2 else HF l f args) else HF l f args
def Jl (a:Option AV) (hs:List Ob) (b:Option (AV × List Ob)):Option (AV × List Ob):=match a,hs with
 | some r,[]=>some (r,[])
 | _,_=>b
def CM (e:Env) (T:Ah):Nat→cT
 | 0=>fun _ _ _=>none
 | n+1=>fun f args hs=>Jl (HF T f args) hs (match e.E f with
  | some g=>g args hs
  | none=>(e.C f).bind fun fd=>wr (CM e T n) { e.md with nm:=e.md.keep f } n fd args hs)
theorem CN {e:Env}:∀ {T:Ah} {f:FuncId} {args:List AV} {r:AV},(∀ x ∈ T,cR e x.1 x.2.1 []=some (x.2.2,[]))→HF T f args=some r→cR e f args []=some (r,[])
 | [],f,args,r,_,h=>by cases h
 | x::l,f,args,r,ht,h=>by
  unfold HF at h
  split at h
  ·rename_i h1
   split at h
   ·rename_i h2
    cases h
    have:=ht x (by simp)
    rw [h1,n9 h2] at this
    exact this
   ·exact CN (fun y hy=>ht y (by simp [hy])) h
  ·exact CN (fun y hy=>ht y (by simp [hy])) h
theorem ky {call:cT} {md:Mode} {lf:Nat}:∀ (c:Cmd) {s:af} {h:aa} {r:Ex × St},bc call md lf c s h=some r→az call md c s h=some r
 | .skip,s,h,r,hz=>hz
 | .ops ks l,s,h,r,hz=>hz
 | .dops ks l ps,s,h,r,hz=>hz
 | .seq a b,s,h,r,hz=>by
  simp only [bc,dD] at hz
  split at hz
  ·cases hz
  ·rename_i t1 ht1
   simp only [az,dD,ky a ht1,ky b hz]
  ·rename_i i t1 ht1
   simp only [az,dD,ky a ht1]
   exact hz
  ·rename_i t1 ht1
   simp only [az,dD,ky a ht1]
   exact hz
 | .cond c a b,s,h,r,hz=>by
  simp only [bc,jK] at hz
  split at hz
  ·rename_i t ht
   cases t with
   | true=>simp only [az,jK,ht,if_true]; exact ky a hz
   | false=>simp only [az,jK,ht,Bool.false_eq_true,if_false]; exact ky b hz
  ·cases hz
 | .block id ks a,s,h,r,hz=>by
  simp only [bc,aI] at hz
  split at hz
  ·cases hz
  ·rename_i t1 ht1
   simp only [az,aI,ky a ht1]
   exact hz
  ·rename_i i t1 ht1
   simp only [az,aI,ky a ht1]
   exact hz
  ·rename_i t1 ht1
   simp only [az,aI,ky a ht1]
   exact hz
 | .loop ks hs a,s,h,r,hz=>by
  simp only [bc] at hz
  simp only [az,aU]
  rw [iK]
  exact ⟨lf,fun k hk=>xA (fun hh=>ky a hh) lf hk hz⟩
 | .exit id,s,h,r,hz=>hz
 | .ret,s,h,r,hz=>hz
 | .frz is a,s,h,r,hz=>by
  simp only [bc,aK] at hz
  split at hz
  ·cases hz
  ·rename_i t1 ht1
   simp only [az,aK,ht1]
   exact ky a hz
theorem Jm {e:Env} {T:Ah} (ht:∀ x ∈ T,cR e x.1 x.2.1 []=some (x.2.2,[])):∀ n,vQ (CM e T n) (cR e)
 | 0=>fun f a hs r hz=>by cases hz
 | n+1=>fun f a hs r hz=>by
  have old:(match e.E f with | some g=>g a hs | none=>(e.C f).bind fun fd=>wr (CM e T n) { e.md with nm:=e.md.keep f } n fd a hs)=some r→cR e f a hs=some r:=by
   intro hz
   split at hz
   ·rename_i g hE
    rw [uK hE]
    exact hz
   ·rename_i hE
    simp only [Option.bind_eq_some_iff] at hz
    obtain ⟨fd,hC,hz⟩:=hz
    refine wQ hE hC ?_
    unfold wr at hz
    unfold FX
    split at hz
    ·rename_i hcc
     rw [if_pos hcc]
     cases hx:bc (CM e T n) { e.md with nm:=e.md.keep f } n fd.body (pf a) (ae hs) with
     | none=>rw [hx] at hz; cases hz
     | some q =>
      rw [hx] at hz
      rw [ky fd.body (eu (Jm ht n) (Nat.le_refl n) fd.body hx)]
      exact hz
    ·cases hz
  unfold CM at hz
  unfold Jl at hz
  split at hz
  ·rename_i r' hl
   cases hz
   exact CN ht hl
  ·exact old hz
theorem bL {e:Env}:∀ x ∈ ([]:Ah),cR e x.1 x.2.1 []=some (x.2.2,[]):=fun _ h=>by cases h
theorem cw {e:Env} {x:Nat × List AV × AV} {T:Ah} (h1:cR e x.1 x.2.1 []=some (x.2.2,[])) (h2:∀ x ∈ T,cR e x.1 x.2.1 []=some (x.2.2,[])):∀ y ∈ x::T,cR e y.1 y.2.1 []=some (y.2.2,[]):=fun y hy=>by
 rcases List.mem_cons.1 hy with rfl | hy
 ·exact h1
 ·exact h2 y hy
theorem gX {e:Env} (T:Ah) (n:Nat) (x:Nat × List AV × AV) (ht:∀ x ∈ T,cR e x.1 x.2.1 []=some (x.2.2,[])) (h:CM e T n x.1 x.2.1 []=some (x.2.2,[])):cR e x.1 x.2.1 []=some (x.2.2,[]):=Jm ht n _ _ _ _ h
end Go.Ab
namespace Go.Ab
open Go Go.Proofs Go.Shelf
def Pr:Ren:=⟨fun | 28=>143 | n=>n,fun | 25=>111 | 27=>77 | 53=>167 | n=>n,fun n=>n⟩
theorem Mt:Lays7.n28 Tryz.prog Pr where
 mixed:=by kernel_rfl
 f28:=by kernel_rfl
 t0:=by kernel_rfl
 a0:=Tryz.isAgg0
 z0:=Tryz.sizeOf0
 v0:=Tryz.zeroValue0
 i0:=by kernel_rfl
 t3:=by kernel_rfl
 a3:=Tryz.isAgg3
 z3:=Tryz.sizeOf3
 v3:=Tryz.zeroValue3
 i3:=by kernel_rfl
 t4:=by kernel_rfl
 a4:=Tryz.isAgg4
 z4:=Tryz.sizeOf4
 v4:=Tryz.zeroValue4
 i4:=by kernel_rfl
 t5:=by kernel_rfl
 a5:=Tryz.isAgg5
 z5:=Tryz.sizeOf5
 v5:=Tryz.zeroValue5
 i5:=by kernel_rfl
 t25:=by kernel_rfl
 a25:=Tryz.isAgg111
 z25:=Tryz.sizeOf111
 v25:=Tryz.zeroValue111
 i25:=by kernel_rfl
 t27:=by kernel_rfl
 a27:=Tryz.isAgg77
 z27:=Tryz.sizeOf77
 v27:=Tryz.zeroValue77
 i27:=by kernel_rfl
 t53:=by kernel_rfl
 a53:=Tryz.isAgg167
 z53:=Tryz.sizeOf167
 v53:=Tryz.zeroValue167
 i53:=by kernel_rfl
 g0:=by kernel_rfl
def vj:Inv where
 p w X:=X 0∧TabAt 0 Lib.deBruijn32tab w
 stab:=fun {w w' X} h hs=>⟨h.1,fun j hj=>by rw [ip (hs 0 h.1)]; exact h.2 j hj⟩
 more:=fun h hx=>⟨hx 0 h.1,h.2⟩
theorem Jn:∀ (k x:Nat),Lib.ctzFrom k x=Dg k x
 | 0,x=>rfl
 | k+1,x=>by
  unfold Lib.ctzFrom Dg
  rw [Jn k (x / 2),Nat.add_comm]
set_option maxRecDepth 100000 in
theorem Ps:fj Tryz.prog vj false F.bits_TrailingZeros32 OW:=by
 intro args obs obs' res w X ρ vals n hz hn hi hr hs hv
 unfold OW at hz
 split at hz
 ·rename_i x
  by_cases hc:0 < x∧x < 4294967296∧obs=[]
  ·rw [if_pos hc] at hz
   obtain ⟨h0,h1,rfl⟩:=hc
   simp only [Option.some.injEq,Prod.mk.injEq] at hz
   obtain ⟨rfl,rfl⟩:=hz
   have hv0:=hv 0 (.v (.int .u32 x)) (vals.getD 0 undef) rfl (by simp at hs; simp [Array.getD_eq_getD_getElem?,hs])
   have e0:vals=#[.int .u32 x]:=by
    simp only [List.length_cons,List.length_nil] at hs
    have:=hv0.v_inv.1
    apply Array.ext
    ·simpa using hs
    ·intro i h2 h3
     have:i=0:=by simp at h3; exact h3
     subst this
     simpa [Array.getD_eq_getD_getElem?,hs] using this
   subst e0
   obtain ⟨m,rfl⟩:∃ m:Nat,x=m:=⟨x.toNat,by omega⟩
   have key:=Any7.bits_TrailingZeros32 Mt m (by omega) w fun _=>hi.2
   have he:(callFunc F.bits_TrailingZeros32 #[.int .u32 (m:Int)]).run Tryz.prog w=.ok (.enter F.bits_TrailingZeros32 #[.int .u32 (m:Int)]) w:=(enters_of (Mt.f28) (by kernel_rfl) rfl:Proofs.Enters Tryz.prog (Pr.f 28)) _ _
   unfold Enters
   rw [he]
   refine Calls.mono key fun e w' hw=>?_
   obtain ⟨rfl,rfl⟩:=hw
   refine ⟨ρ,hr,.refl _ _ _ _,?_⟩
   refine .dat ?_
   have:Lib.ctz 32 m=Dg 32 m:=by
    unfold Lib.ctz
    rw [if_neg (by omega),Jn]
   simp only [this,Int.toNat_natCast,mat,bU]
   exact .v _ rfl
  ·rw [if_neg hc] at hz
   cases hz
 ·cases hz
end Go.Ab
namespace Go.Ab
open Go Go.Proofs Go.ChangeShapes Go.WideShapes Go.Deep Go.RowKit
set_option maxRecDepth 100000
section
variable {H:Type} {enc:TypeId × Value→H} {w:World}
def BG (w:World) (b:Nat):Prop:=b < w.heap.size∧b ≠ 0
def xB (w:World):Prop:=∀ o v,w.cell? ⟨0,o,none⟩=some v→∃ n,v=.int .u8 n
def sU (u:Value):Prop:=∀ n,u ≠ .int .u8 n
theorem Sy (ht:xB w) {a:Addr} {u:Value} (h:w.cell? a=some u) (hn:sU u):BG w a.block∧a.spot=none:=by
 have h1:a.spot=none:=by
  unfold World.cell? at h
  split at h
  ·split at h
   ·cases h
   ·rename_i hs
    simpa using hs
  ·cases h
 refine ⟨⟨?_,fun h0=>?_⟩,h1⟩
 ·unfold World.cell? at h
  split at h
  ·rename_i hb
   exact (Array.getElem?_eq_some_iff.1 hb).1
  ·cases h
 ·obtain ⟨b,o,s⟩:=a
  simp only at h0 h1
  subst h0 h1
  obtain ⟨n,hv⟩:=ht o u h
  exact hn n hv
def lK (w:World) (fs:List AV) (cs:List Value):Prop :=
 fs.length=cs.length∧∀ (j:Nat) (c:AV) (u:Value),fs[j]?=some c→cs[j]?=some u→RD w (BG w) c u∧ak c=true∧u.oneCell'=true
theorem lK.app {fa fb:List AV} {ca cb:List Value} (ha:lK w fa ca) (hb:lK w fb cb):lK w (fa++fb) (ca++cb):=by
 refine ⟨by simp [ha.1,hb.1],fun j c u h1 h2=>?_⟩
 by_cases hj:j < fa.length
 ·rw [List.getElem?_append_left hj] at h1
  rw [List.getElem?_append_left (by rw [← ha.1]; exact hj)] at h2
  exact ha.2 j c u h1 h2
 ·rw [List.getElem?_append_right (by omega)] at h1
  rw [List.getElem?_append_right (by rw [← ha.1]; omega),← ha.1] at h2
  exact hb.2 _ c u h1 h2
theorem lK.one {c:AV} {u:Value} (h:RD w (BG w) c u) (hd:ak c=true) (h1:u.oneCell'=true):lK w [c] [u]:=by
 refine ⟨rfl,fun j c' u' hc hu=>?_⟩
 cases j with
 | zero=>simp at hc hu; subst hc hu; exact ⟨h,hd,h1⟩
 | succ j=>simp at hc
noncomputable abbrev Tr (w:World) (enc:TypeId × Value→H) (n:Nat) (t:TypeId) (cs:List Value):Option (DataW H × List MemPlace):=DataW.trod enc Tryz.prog w 0 (fun _=>true) true n t cs
def qp (t:TypeId) (d:DataW H):Prop:=∀ m ∈ DataW.weights Tryz.prog t d,m≤reachBytes
theorem Sz {e:TypeId}:∀ {l:List (DataW H)} {d:DataW H} {m:Nat},d ∈ l→m ∈ DataW.weights Tryz.prog e d→m ∈ DataW.weightsAll Tryz.prog e l
 | [],d,m,h,_=>by simp at h
 | a::l,d,m,h,hm=>by
  simp only [DataW.weightsAll,List.mem_append]
  rcases List.mem_cons.1 h with rfl | h
  ·exact .inl hm
  ·exact .inr (Sz h hm)
theorem Jo {α:Type} {p:Nat→α→Prop}:∀ (n:Nat),(∀ i,i < n→∃ r,p i r)→∃ l:List α,l.length=n∧∀ (i:Nat) (r:α),l[i]?=some r→p i r
 | 0,_=>⟨[],rfl,fun i r h=>by simp at h⟩
 | n+1,h=>by
  obtain ⟨l,h1,h2⟩:=Jo n fun i hi=>h i (by omega)
  obtain ⟨r,hr⟩:=h n (by omega)
  refine ⟨l++[r],by simp [h1],fun i r' hi=>?_⟩
  by_cases hin:i < n
  ·rw [List.getElem?_append_left (by omega)] at hi
   exact h2 i r' hi
  ·rw [List.getElem?_append_right (by omega)] at hi
   have:i=n:=by
    have:=(List.getElem?_eq_some_iff.1 hi).1
    simp at this
    omega
   subst this
   simp [h1] at hi
   subst hi
   exact hr
theorem CO {α:Type} {t e:TypeId} {k bs:Nat} (ht:Tryz.prog.underlying t=some (.slice e)) (hk:Tryz.prog.cellsOf e=k) (h0:0 < k) (hbs:Tryz.prog.bytesOf e=bs) (F:α→List AV) (Q:α→Prop) (hT:xB w)
  (hrow:∀ n cs' x,Tr w enc n e cs'=some x→qp e x.1→∃ r,Q r∧lK w (F r) cs'∧∃ u,cs'[0]?=some u∧sU u) {fuel:Nat} {cs:List Value} {x:DataW H × List MemPlace}
  (h:Tr w enc fuel t cs=some x) (hw:qp t x.1):∃ (l:List α) (v:Value),cs=[v]∧(∀ r ∈ l,Q r)∧l.length*bs≤reachBytes∧RD w (BG w) (.sl k (l.map F)) v∧v.oneCell'=true∧sU v:=by
 rcases open_slice ht h with ⟨rfl,_⟩ | ⟨a,len,cap,m,n,D,Pl,rfl,hb,hl,hm,hmm,rfl,hx⟩
 ·exact ⟨[],_,rfl,fun r hr=>by simp at hr,by simp,.sl k [] none 0 ⟨0,0,none⟩ (fun _ _=>undef) (by simp) (fun h=>absurd rfl h) (fun r hr=>by simp at hr) (fun i r j c hr=>by simp at hr) (fun r hr=>by simp at hr) (fun i r j c hr=>by simp at hr),rfl,fun n e=>by cases e⟩
 ·have hlm:len≤m:=by rw [hmm]; split <;> omega
  have hwe:∀ i,i < len→qp e (D i):=fun i hi q hq=>by
   refine hw q ?_
   simp only [DataW.weights,ht,List.mem_cons,List.mem_append]
   exact .inr (.inl (Sz (List.mem_map.2 ⟨i,List.mem_range.2 hi,rfl⟩) hq))
  have hbn:len*bs≤reachBytes:=by
   have:=hw ((((List.range len).map D).length+((List.range (m - len)).map fun j=>D (len+j)).length)*Tryz.prog.bytesOf e) (by simp [DataW.weights,ht])
   simp only [List.length_map,List.length_range,hbs] at this
   exact Nat.le_trans (Nat.mul_le_mul_right _ (by omega)) this
  obtain ⟨l,l1,l2⟩:=Jo (p:=fun i r=>Q r∧∃ cs',w.cells? 0 (a.add (i*k)) k=some cs'∧lK w (F r) cs'∧∃ u,cs'[0]?=some u∧sU u) len fun i hi=>by
   obtain ⟨cs',h1,h2⟩:=hx i (by omega)
   obtain ⟨r,g1,g2,g3⟩:=hrow _ _ _ h2 (hwe i hi)
   rw [hk] at h1
   exact ⟨r,g1,cs',h1,g2,g3⟩
  have cell:∀ (i:Nat) (row:List AV) (j:Nat) (c:AV),(l.map F)[i]?=some row→row[j]?=some c→∃ u,w.cell? (a.add (i*k+j))=some u∧RD w (BG w) c u∧ak c=true:=fun i row j c hi hj=>by
   simp only [List.getElem?_map,Option.map_eq_some_iff] at hi
   obtain ⟨r,hr,rfl⟩:=hi
   obtain ⟨_,cs',c1,c2,_⟩:=l2 i r hr
   obtain ⟨_,c3,c4⟩:=World.cells?_some c1
   have hjk:j < k:=by
    have:=(List.getElem?_eq_some_iff.1 hj).1
    rw [c2.1,c3] at this
    exact this
   have:=c4 j hjk
   rw [rl] at this
   obtain ⟨u,hu⟩:∃ u,cs'[j]?=some u:=⟨cs'[j]'(by omega),by simp⟩
   exact ⟨u,by rw [this,hu],(c2.2 j c u hj hu).1,(c2.2 j c u hj hu).2.1⟩
  refine ⟨l,_,rfl,fun r hr=>?_,by rw [l1]; exact hbn,?_,rfl,fun n e=>by cases e⟩
  ·obtain ⟨i,hi⟩:=List.getElem?_of_mem hr
   exact (l2 i r hi).1
  ·have:=RD.sl (w:=w) (A:=BG w) k (l.map F) (some a) cap a (fun i j=>(w.cell? (a.add (i*k+j))).getD undef) (by simp [l1,hl]) (fun hne=>?_) (fun row hr=>?_) (fun i row j c hi hj=>?_) (fun row hr c hc=>?_) (fun i row j c hi hj=>?_)
   ·simpa [l1] using this
   ·have hlen:0 < l.length:=List.length_pos_iff.2 fun e=>hne (by simp [e])
    obtain ⟨_,cs',c1,c2,u,c3,c4⟩:=l2 0 l[0] (by simp)
    have:=(World.cells?_some c1).2.2 0 h0
    rw [c3,Nat.zero_mul,rY,rY] at this
    obtain ⟨q1,q2⟩:=Sy hT this c4
    exact ⟨rfl,q1,q2⟩
   ·simp only [List.mem_map] at hr
    obtain ⟨r,hr,rfl⟩:=hr
    obtain ⟨i,hi⟩:=List.getElem?_of_mem hr
    obtain ⟨_,cs',c1,c2,_⟩:=l2 i r hi
    rw [c2.1]
    exact (World.cells?_some c1).2.1
   ·obtain ⟨u,q1,_⟩:=cell i row j c hi hj
    rw [q1]; rfl
   ·obtain ⟨i,hi⟩:=List.getElem?_of_mem hr
    obtain ⟨j,hj⟩:=List.getElem?_of_mem hc
    obtain ⟨u,_,_,q⟩:=cell i row j c hi hj
    exact q
   ·obtain ⟨u,q1,q2,_⟩:=cell i row j c hi hj
    rw [q1]; exact q2
theorem QO {n:Nat} {cs:List Value} {x:DataW H × List MemPlace} (h:Tr w enc n 77 cs=some x) (_:qp 77 x.1):∃ r:Nat,r < 4294967296∧lK w [U (r:Int)] cs∧∃ u,cs[0]?=some u∧sU u:=by
 obtain ⟨z,rfl,rfl,hw⟩:=DataW.trod_int Tryz.underlying77 h
 simp only [Lit.wf,Bool.and_eq_true,decide_eq_true_eq] at hw
 have h1:(0:Int)≤z:=hw.1
 have h2:z≤4294967295:=hw.2
 obtain ⟨m,rfl⟩:∃ m:Nat,z=m:=⟨z.toNat,by omega⟩
 exact ⟨m,by omega,.one (.v _ rfl) rfl rfl,_,rfl,fun n e=>by cases e⟩
theorem QP {n:Nat} {cs:List Value} {x:DataW H × List MemPlace} (h:Tr w enc n 3 cs=some x) (_:qp 3 x.1):∃ r:Int,True∧lK w [I r] cs∧∃ u,cs[0]?=some u∧sU u:=by
 obtain ⟨z,rfl,rfl,hw⟩:=DataW.trod_int Tryz.underlying3 h
 exact ⟨z,trivial,.one (.v _ rfl) rfl rfl,_,rfl,fun n e=>by cases e⟩
theorem Mu (hT:xB w) {n:Nat} {cs:List Value} {x:DataW H × List MemPlace} (h:Tr w enc n 25 cs=some x) (hw:qp 25 x.1):∃ m:List Nat,(Lb m∧m.length < 4611686018427387904)∧lK w [lm m] cs∧∃ u,cs[0]?=some u∧sU u:=by
 obtain ⟨l,v,rfl,h1,h2,h3,h4,h5⟩:=CO (k:=1) (bs:=4) Tryz.underlying25 (by kernel_rfl) (by decide) (by kernel_rfl) (fun (r:Nat)=>[U (r:Int)]) (fun r=>r < 4294967296) hT (fun n cs' x=>QO) h hw
 refine ⟨l,⟨h1,?_⟩,.one h3 rfl h4,_,rfl,h5⟩
 unfold reachBytes at h2
 omega
theorem OF (hT:xB w) {n:Nat} {cs:List Value} {x:DataW H × List MemPlace} (h:Tr w enc n 60 cs=some x) (hw:qp 60 x.1):∃ m:List Int,True∧lK w [.sl 1 (aY m)] cs∧∃ u,cs[0]?=some u∧sU u:=by
 obtain ⟨l,v,rfl,h1,h2,h3,h4,h5⟩:=CO (k:=1) (bs:=8) Tryz.underlying60 (by kernel_rfl) (by decide) (by kernel_rfl) (fun (r:Int)=>[I r]) (fun r=>True) hT (fun n cs' x=>QP) h hw
 exact ⟨l,trivial,.one h3 rfl h4,_,rfl,h5⟩
theorem SA (hT:xB w) {n:Nat} {cs:List Value} {x:DataW H × List MemPlace} (h:Tr w enc n 27 cs=some x) (hw:qp 27 x.1):∃ d:Rd,Ok0 d∧lK w (aW d) cs∧∃ u,cs[0]?=some u∧sU u:=by
 obtain ⟨y0,y1,y2,m,rfl,hl,h0,h1,h2⟩:=trod_struct3 Tryz.underlying27 h
 have hl3:cs.length=3:=hl.trans (by kernel_rfl)
 match cs,hl3 with
 | [a,b,c],_ =>
  have k0:Tr w enc m 4 [a]=some y0:=h0
  have k1:Tr w enc m 25 [b]=some y1:=h1
  have k2:Tr w enc m 3 [c]=some y2:=h2
  have w1:qp 25 y1.1:=fun q hq=>hw q (by simp [DataW.weights,DataW.weightsEach,Tryz.underlying27]; exact .inr (.inl hq))
  obtain ⟨bb,e0,e1⟩:=DataW.trod_bool Tryz.underlying4 k0
  simp only [List.cons.injEq,and_true] at e0
  subst e0
  obtain ⟨l,⟨q1,q2⟩,q3,_⟩:=Mu hT k1 w1
  obtain ⟨z,e2,e3,_⟩:=DataW.trod_int Tryz.underlying3 k2
  simp only [List.cons.injEq,and_true] at e2
  subst e2
  exact ⟨⟨bb,l,z⟩,⟨q1,q2⟩,(lK.one (.v _ rfl) rfl rfl).app (q3.app (.one (.v _ rfl) rfl rfl)),_,rfl,fun n e=>by cases e⟩
theorem OG (hT:xB w) {n:Nat} {cs:List Value} {x:DataW H × List MemPlace} (h:Tr w enc n 62 cs=some x) (hw:qp 62 x.1):∃ d:Rt,Ok0 d.c∧lK w (bv d) cs∧∃ u,cs[0]?=some u∧sU u:=by
 obtain ⟨y0,y1,m,rfl,hl,h0,h1⟩:=trod_struct2 Tryz.underlying62 h
 have hl3:cs.length=4:=hl.trans (by kernel_rfl)
 match cs,hl3 with
 | [a,b,c,d],_ =>
  have k0:Tr w enc m 60 [a]=some y0:=h0
  have k1:Tr w enc m 27 [b,c,d]=some y1:=h1
  have w0:qp 60 y0.1:=fun q hq=>hw q (by simp [DataW.weights,DataW.weightsEach,Tryz.underlying62]; exact .inl hq)
  have w1:qp 27 y1.1:=fun q hq=>hw q (by simp [DataW.weights,DataW.weightsEach,Tryz.underlying62]; exact .inr hq)
  obtain ⟨l,_,q3,q4⟩:=OF hT k0 w0
  obtain ⟨d,d1,d2,_⟩:=SA hT k1 w1
  exact ⟨⟨l,d⟩,d1,q3.app d2,q4⟩
theorem Ai (hT:xB w) {n:Nat} {us:Array Value} {x:DataW H × List MemPlace} (h:Tr w enc n 24 us.toList=some x) (hw:qp 24 x.1):∃ a:Rp,((∀ t ∈ a.terms,Ok0 t.c)∧a.terms.length < 4611686018427387904)∧RD w (BG w) (aZ a) (.agg us):=by
 obtain ⟨y0,y1,m,rfl,hl,h0,h1⟩:=trod_struct2 Tryz.underlying24 h
 have hl3:us.toList.length=2:=hl.trans (by kernel_rfl)
 obtain ⟨cs⟩:=us
 simp only at hl3 h0 h1
 match cs,hl3 with
 | [a,b],_ =>
  have k0:Tr w enc m 3 [a]=some y0:=h0
  have k1:Tr w enc m 22 [b]=some y1:=h1
  have w1:qp 22 y1.1:=fun q hq=>hw q (by simp [DataW.weights,DataW.weightsEach,Tryz.underlying24]; exact .inr hq)
  obtain ⟨z,e2,e3,_⟩:=DataW.trod_int Tryz.underlying3 k0
  simp only [List.cons.injEq,and_true] at e2
  subst e2
  obtain ⟨l,v,e4,q1,q2,q3,q4,q5⟩:=CO (k:=4) (bs:=64) Tryz.underlying22 (by kernel_rfl) (by decide) (by kernel_rfl) bv (fun t=>Ok0 t.c) hT (fun n cs' x=>OG hT) k1 w1
  simp only [List.cons.injEq,and_true] at e4
  subst e4
  refine ⟨⟨z,l⟩,⟨q1,by show l.length < _; unfold reachBytes at q2; omega⟩,?_⟩
  have rc:lK w [I z,.sl 4 (l.map bv)] [.int .i64 z,b]:=(lK.one (.v _ rfl) rfl rfl).app (.one q3 rfl q4)
  refine .agg _ _ rfl (fun i u hu=>?_) fun i c u hc hu=>?_
  ·have hu':[Value.int .i64 z,b][i]?=some u:=by simpa using hu
   obtain ⟨c,hc⟩:∃ c,[I z,AV.sl 4 (l.map bv)][i]?=some c:=⟨_,List.getElem?_eq_getElem (by have:=(List.getElem?_eq_some_iff.1 hu').1; simpa using this)⟩
   exact (rc.2 i c u hc hu').2.2
  ·exact (rc.2 i c u hc (by simpa using hu)).1
end
end Go.Ab
namespace Go.Ab
open Go Go.Proofs Go.Shelf
def sz:Ren:=⟨fun | 166=>104 | 167=>103 | 169=>105 | 240=>138 | 276=>156 | n=>n,fun | 0=>0 | 3=>3 | 4=>4 | 5=>5 | 9=>9 | 20=>20 | 37=>121 | 70=>120 | 72=>123 | 75=>125 | 80=>129 | 127=>145 | 164=>159 | n=>n,fun n=>n⟩
theorem Dx:Lays.n166 Tryz.prog sz where
 mixed:=by kernel_rfl
 f166:=by kernel_rfl
 f240:=by kernel_rfl
 f276:=by kernel_rfl
 t0:=by kernel_rfl
 a0:=Tryz.isAgg0
 z0:=Tryz.sizeOf0
 v0:=Tryz.zeroValue0
 t3:=by kernel_rfl
 a3:=Tryz.isAgg3
 z3:=Tryz.sizeOf3
 v3:=Tryz.zeroValue3
 t4:=by kernel_rfl
 a4:=Tryz.isAgg4
 z4:=Tryz.sizeOf4
 v4:=Tryz.zeroValue4
 t9:=by kernel_rfl
 a9:=Tryz.isAgg9
 z9:=Tryz.sizeOf9
 v9:=Tryz.zeroValue9
 t20:=by kernel_rfl
 a20:=Tryz.isAgg20
 z20:=Tryz.sizeOf20
 v20:=Tryz.zeroValue20
 t37:=by kernel_rfl
 a37:=Tryz.isAgg121
 z37:=Tryz.sizeOf121
 v37:=Tryz.zeroValue121
 t70:=by kernel_rfl
 a70:=Tryz.isAgg120
 z70:=Tryz.sizeOf120
 v70:=Tryz.zeroValue120
 t72:=by kernel_rfl
 a72:=Tryz.isAgg123
 z72:=Tryz.sizeOf123
 v72:=Tryz.zeroValue123
 t75:=by kernel_rfl
 a75:=Tryz.isAgg125
 z75:=Tryz.sizeOf125
 v75:=Tryz.zeroValue125
 t164:=by kernel_rfl
 a164:=Tryz.isAgg159
 z164:=Tryz.sizeOf159
 v164:=Tryz.zeroValue159
theorem Mv:Lays.n167 Tryz.prog sz where
 mixed:=by kernel_rfl
 f167:=by kernel_rfl
 f240:=by kernel_rfl
 f276:=by kernel_rfl
 t0:=by kernel_rfl
 a0:=Tryz.isAgg0
 z0:=Tryz.sizeOf0
 v0:=Tryz.zeroValue0
 t4:=by kernel_rfl
 a4:=Tryz.isAgg4
 z4:=Tryz.sizeOf4
 v4:=Tryz.zeroValue4
 t5:=by kernel_rfl
 a5:=Tryz.isAgg5
 z5:=Tryz.sizeOf5
 v5:=Tryz.zeroValue5
 t9:=by kernel_rfl
 a9:=Tryz.isAgg9
 z9:=Tryz.sizeOf9
 v9:=Tryz.zeroValue9
 t20:=by kernel_rfl
 a20:=Tryz.isAgg20
 z20:=Tryz.sizeOf20
 v20:=Tryz.zeroValue20
 t37:=by kernel_rfl
 a37:=Tryz.isAgg121
 z37:=Tryz.sizeOf121
 v37:=Tryz.zeroValue121
 t70:=by kernel_rfl
 a70:=Tryz.isAgg120
 z70:=Tryz.sizeOf120
 v70:=Tryz.zeroValue120
 t72:=by kernel_rfl
 a72:=Tryz.isAgg123
 z72:=Tryz.sizeOf123
 v72:=Tryz.zeroValue123
 t75:=by kernel_rfl
 a75:=Tryz.isAgg125
 z75:=Tryz.sizeOf125
 v75:=Tryz.zeroValue125
 t164:=by kernel_rfl
 a164:=Tryz.isAgg159
 z164:=Tryz.sizeOf159
 v164:=Tryz.zeroValue159
theorem Dy:Lays.n169 Tryz.prog sz where
 mixed:=by kernel_rfl
 f169:=by kernel_rfl
 t0:=by kernel_rfl
 a0:=Tryz.isAgg0
 z0:=Tryz.sizeOf0
 v0:=Tryz.zeroValue0
 t3:=by kernel_rfl
 a3:=Tryz.isAgg3
 z3:=Tryz.sizeOf3
 v3:=Tryz.zeroValue3
 t9:=by kernel_rfl
 a9:=Tryz.isAgg9
 z9:=Tryz.sizeOf9
 v9:=Tryz.zeroValue9
 t37:=by kernel_rfl
 a37:=Tryz.isAgg121
 z37:=Tryz.sizeOf121
 v37:=Tryz.zeroValue121
 t70:=by kernel_rfl
 a70:=Tryz.isAgg120
 z70:=Tryz.sizeOf120
 v70:=Tryz.zeroValue120
 t72:=by kernel_rfl
 a72:=Tryz.isAgg123
 z72:=Tryz.sizeOf123
 v72:=Tryz.zeroValue123
 t127:=by kernel_rfl
 a127:=Tryz.isAgg145
 z127:=Tryz.sizeOf145
 v127:=Tryz.zeroValue145
theorem tZ:Builder.Extra Tryz.prog sz where
 sizeBuilder:=by kernel_rfl
 liesBuilder:=by kernel_rfl
 t5:=by kernel_rfl
 a5:=Tryz.isAgg5
 z5:=Tryz.sizeOf5
 v5:=Tryz.zeroValue5
 infoByte:=by kernel_rfl
 cellsByte:=by kernel_rfl
 sizeByte:=by kernel_rfl
 neB5:=by decide
end Go.Ab
namespace Go.Ab
open Go Go.Proofs Go.Shelf Go.RowKit
set_option maxHeartbeats 4000000
set_option maxRecDepth 1000000
theorem BH {T e:TypeId} {B b:Nat} {p:Value} {bs:List Value} {w w':World} (h:Lib.BuilderAtF T e B b p bs w) (hb:Below w.heap.size w w'):Lib.BuilderAtF T e B b p bs w':=by
 obtain ⟨h1,v,h2,⟨h3,h4⟩,h5⟩:=h
 have hlt:b < w.heap.size:=(Array.getElem?_eq_some_iff.1 h2).1
 refine ⟨h1,v,(hb.block _ hlt).trans h2,⟨h3,?_⟩,h5⟩
 rcases h4 with h4 | ⟨g,cap,sy,fz,g1,g2,g3,g4⟩
 ·exact .inl h4
 ·exact .inr ⟨g,cap,sy,fz,g1,g2,(hb.block _ (Array.getElem?_eq_some_iff.1 g3).1).trans g3,g4⟩
theorem BI {T e:TypeId} {B b:Nat} {bs:List Value} {w w':World} (h:Lib.IsBuilderF T e B b bs w) (hb:Below w.heap.size w w'):Lib.IsBuilderF T e B b bs w':=h.imp (fun h=>BH h hb) (fun h=>BH h hb)
theorem QQ (n:Bool) (a:Option Addr) (l cap:Nat) (e:Int) (t u:List UInt8) (w:World) (hl:(l:Int) ≠ 0) (ht:t.length≤10000) (hu:u.length≤1000)
  (hV:∀ w1,Below w.heap.size w w1→Calls Tryz.prog F.dyadic_Valid #[.agg #[.bool n,.slice a l cap,.int .i64 e]] w1 fun x w2=>x=.returned (.bool true)∧Below w1.heap.size w1 w2)
  (hT:∀ w1,Below w.heap.size w w1→Calls Tryz.prog F.natural_Text #[.slice a l cap] w1 fun x w2=>x=.returned (.tuple #[.string ⟨t.toArray⟩,.int .i64 0])∧Below w1.heap.size w1 w2)
  (hI:∀ w1,Below w.heap.size w w1→Calls Tryz.prog F.strconv_Itoa #[.int .i64 e] w1 fun x w2=>x=.returned (.string ⟨u.toArray⟩)∧Below w1.heap.size w1 w2) :
  Calls Tryz.prog F.dyadic_Text #[.agg #[.bool n,.slice a l cap,.int .i64 e]] w fun x w'=>x=.returned (.tuple #[.string ⟨((if n then [45] else [])++t++[112]++u).toArray⟩,.int .i64 0])∧Below w.heap.size w w':=by
 go_enter Tryz.func71,Tryz.ntmps71
 go_wp2_with (go_at_call 36; refine (hV _ ((Below.refl _ w).alloc (Nat.le_refl _) _)).mono ?_)
 rintro x W1 ⟨rfl,b1⟩
 have b01:Below w.heap.size w W1:=((Below.refl _ w).alloc (Nat.le_refl _) _).trans (b1.mono (by simp))
 have s1:w.heap.size < W1.heap.size:=Nat.lt_of_lt_of_le (by simp) b1.size
 have hb1:W1.heap[w.heap.size]?=some (.cells #[.bool n,.slice a l cap,.int .i64 e] 27 (0,0)):=by
  rw [b1.block _ (by simp)]
  exact heap_alloc_new w _
 have c1:W1.cell? ⟨w.heap.size,1,none⟩=some (.slice a l cap):=by simp [World.cell?,hb1]
 go_wp2_with (go_at_call 102; refine (hT _ b01).mono ?_)
 rintro x W2 ⟨rfl,b2⟩
 have b02:Below w.heap.size w W2:=b01.trans (b2.mono (by omega))
 have s2:w.heap.size < W2.heap.size:=Nat.lt_of_lt_of_le s1 b2.size
 have hb2:W2.heap[w.heap.size]?=some (.cells #[.bool n,.slice a l cap,.int .i64 e] 27 (0,0)):=(b2.block _ s1).trans hb1
 have hb3:(W2.alloc (.cells #[.pointer none,.slice none 0 0] 123)).heap[w.heap.size]?=some (.cells #[.bool n,.slice a l cap,.int .i64 e] 27 (0,0)):=(pi W2 _ s2).trans hb2
 have d0:(W2.alloc (.cells #[.pointer none,.slice none 0 0] 123)).cell? ⟨w.heap.size,0,none⟩=some (.bool n):=by simp only [World.cell?,hb3]; rfl
 have d2:(W2.alloc (.cells #[.pointer none,.slice none 0 0] 123)).cell? ⟨w.heap.size,2,none⟩=some (.int .i64 e):=by simp only [World.cell?,hb3]; rfl
 have hB:=Lib.IsBuilderF.of (Lib.fresh_isBuilder 123 5 W2)
 have b03:Below w.heap.size w (W2.alloc (.cells #[.pointer none,.slice none 0 0] 123)):=b02.trans ((Below.refl _ W2).alloc (Nat.le_of_lt s2) _)
 have sS:(ByteArray.mk t.toArray++ByteArray.mk #[112]++ByteArray.mk u.toArray).data.toList=t++[112]++u:=by simp
 have sZ:(ByteArray.mk t.toArray++ByteArray.mk #[112]++ByteArray.mk u.toArray).size=t.length+1+u.length:=by simp [ByteArray.size]; omega
 cases n with
 | true =>
  go_wp2_with (go_at_call 103; refine (Any.Builder_WriteByte_k Mv tZ W2.heap.size W2.heap.size [] 45 _ hB (by simp) (by simp)).mono ?_)
  rintro x W3 ⟨rfl,hB3,b3,_⟩
  have b03':Below w.heap.size w W3:=b03.trans (b3.mono (Nat.le_of_lt s2))
  have e2:W3.cell? ⟨w.heap.size,2,none⟩=some (.int .i64 e):=by simp only [World.cell?,(b3.block _ s2).trans hb3]; rfl
  go_wp2_with (go_at_call 72; refine (hI _ b03').mono ?_)
  rintro x W4 ⟨rfl,b4⟩
  have b04:Below w.heap.size w W4:=b03'.trans (b4.mono b03'.size)
  have hB4:=BI (.inr hB3) b4
  have s4:W2.heap.size≤W4.heap.size:=Nat.le_trans (Nat.le_trans (by simp) b3.size) b4.size
  go_wp2_with (go_at_call 104; refine (Any.Builder_WriteString_k Dx tZ W2.heap.size W2.heap.size _ (ByteArray.mk t.toArray++ByteArray.mk #[112]++ByteArray.mk u.toArray) _ hB4 (by rw [sZ]; simp; omega) s4).mono ?_)
  rintro x W5 ⟨rfl,hB5,b5,_⟩
  have b05:Below w.heap.size w W5:=b04.trans (b5.mono (Nat.le_of_lt s2))
  have hB5':Lib.IsBuilderF (sz.t 72) (sz.t 5) W2.heap.size W2.heap.size (Lib.byteCells (45::(t++[112]++u))) W5:=by
   rw [show Lib.byteCells (45::(t++[112]++u))=[]++[Value.int .u8 45]++Lib.strCells (ByteArray.mk t.toArray++ByteArray.mk #[112]++ByteArray.mk u.toArray) by rw [Lib.strCells_eq,sS]; rfl]
   exact .inr hB5
  go_wp2_with (go_at_call 105; refine (Any.Builder_String_any_k Dy tZ W2.heap.size W2.heap.size _ _ hB5' (Nat.le_trans s4 b5.size)).mono ?_)
  rintro x W6 ⟨rfl,_,b6,_⟩
  go_wp2
  go_ret2
  exact ⟨by simp,b05.trans (b6.mono (Nat.le_of_lt s2))⟩
 | false =>
  go_wp2_with (go_at_call 72; refine (hI _ b03).mono ?_)
  rintro x W4 ⟨rfl,b4⟩
  have b04:Below w.heap.size w W4:=b03.trans (b4.mono b03.size)
  have hB4:=BI hB b4
  have s4:W2.heap.size≤W4.heap.size:=Nat.le_trans (by simp) b4.size
  go_wp2_with (go_at_call 104; refine (Any.Builder_WriteString_k Dx tZ W2.heap.size W2.heap.size _ (ByteArray.mk t.toArray++ByteArray.mk #[112]++ByteArray.mk u.toArray) _ hB4 (by rw [sZ]; simp; omega) s4).mono ?_)
  rintro x W5 ⟨rfl,hB5,b5,_⟩
  have b05:Below w.heap.size w W5:=b04.trans (b5.mono (Nat.le_of_lt s2))
  have hB5':Lib.IsBuilderF (sz.t 72) (sz.t 5) W2.heap.size W2.heap.size (Lib.byteCells (t++[112]++u)) W5:=by
   rw [show Lib.byteCells (t++[112]++u)=[]++Lib.strCells (ByteArray.mk t.toArray++ByteArray.mk #[112]++ByteArray.mk u.toArray) by rw [Lib.strCells_eq,sS]; rfl]
   exact .inr hB5
  go_wp2_with (go_at_call 105; refine (Any.Builder_String_any_k Dy tZ W2.heap.size W2.heap.size _ _ hB5' (Nat.le_trans s4 b5.size)).mono ?_)
  rintro x W6 ⟨rfl,_,b6,_⟩
  go_wp2
  go_ret2
  exact ⟨by simp,b05.trans (b6.mono (Nat.le_of_lt s2))⟩
end Go.Ab
namespace Go.Ab
open Go Go.Proofs Go.Shelf Go.RowKit
set_option maxRecDepth 100000
theorem iP {args:List AV} {vals:Array Value} (h:vals.size=args.length) {i:Nat} {c:AV} (hc:args[i]?=some c):∃ u,vals[i]?=some u:=by
 have:i < args.length:=(List.getElem?_eq_some_iff.1 hc).1
 exact ⟨vals[i]'(by omega),by simp [h,this]⟩
theorem SB {vals:Array Value} {a:Value} (h:vals.size=1) (h0:vals[0]?=some a):vals=#[a]:=by
 apply Array.ext_getElem?
 intro i
 match i with
 | 0=>simpa using h0
 | i+1=>simp [h]
theorem SC {vals:Array Value} {a b:Value} (h:vals.size=2) (h0:vals[0]?=some a) (h1:vals[1]?=some b):vals=#[a,b]:=by
 apply Array.ext_getElem?
 intro i
 match i with
 | 0=>simpa using h0
 | 1=>simpa using h1
 | i+2=>simp [h]
theorem Dz {w:World} {a:Addr} {us:Array Value} {e:TypeId} (h:w.heap[a.block]?=some (.cells us e (0,0))):w.frozen? a=false:=by
 simp [World.frozen?,h]
theorem QR {P:Program} (w:World) (tS tR e:TypeId) (ht:P.underlying tS=some (.slice e)) (size:Nat) (hz:∀ w,(Go.sizeOf e).run P w=.ok size w) (a:Addr) (b:Option Addr) (la ca cb:Nat) :
  (Extern.SlicesOverlaps.overlaps #[tS,tS] #[tR] #[.slice (some a) la ca,.slice b 0 cb]).run P w=.ok (.bool false) w:=by
 change Sem.run P (α:=Value) (do
  let some t := (#[tS, tS] : Array TypeId)[0]? | stuck "slices.overlaps: no parameter types"
  let .slice elem ← underlying t | stuck "slices.overlaps: slice type expected"
  let size ← sizeOf elem
  match (some a:Option Addr),b with
  | some a,some b =>
   if la=0∨0=0∨size=0 then pure (Value.bool false)
   else if a.block != b.block && (← frozen a) && (← frozen b) then unsupported .addressObserved
   else do
    if a.block != b.block then do
     noView a; noView b
     if ← mayBeOne a b then return Value.bool ((← choose (.extern "sameAddr.stringBytes" 2)) == 1)
    pure (Value.bool (a.block == b.block && a.off < b.off+0*size && b.off < a.off+la*size))
  | _,_=>pure (Value.bool false)) w=_
 cases b <;> simp [run_underlying ht,hz]
theorem SD {P:Program} (w:World) (tS tR e:TypeId) (ht:P.underlying tS=some (.slice e)) (size:Nat) (hz:∀ w,(Go.sizeOf e).run P w=.ok size w)
  (a b:Addr) (la ca lb cb:Nat) (hne:a.block ≠ b.block) (tA:TypeId) (kA:Nat) {us:Array Value} {tB:TypeId}
  (hkA:kA ≠ 0) (hsa:w.shape? a.block=some (tA,kA)) (hb:w.heap[b.block]?=some (.cells us tB (0,0))) (hu:us.size ≠ 0) :
  (Extern.SlicesOverlaps.overlaps #[tS,tS] #[tR] #[.slice (some a) la ca,.slice (some b) lb cb]).run P w=.ok (.bool false) w:=by
 have hnb:(a.block != b.block)=true:=by simpa using hne
 have hnb':(a.block == b.block)=false:=by simpa using hne
 have hsb:w.shape? b.block=some (tB,us.size):=by simp [World.shape?,hb]
 have hfb:w.frozen? b=false:=Dz hb
 have hfe:w.frozen? { block:=b.block,off:=us.size }=false:=Dz (a:=⟨b.block,us.size,none⟩) hb
 change Sem.run P (α:=Value) (do
  let some t := (#[tS, tS] : Array TypeId)[0]? | stuck "slices.overlaps: no parameter types"
  let .slice elem ← underlying t | stuck "slices.overlaps: slice type expected"
  let size ← sizeOf elem
  match (some a:Option Addr),(some b:Option Addr) with
  | some a,some b =>
   if la=0∨lb=0∨size=0 then pure (Value.bool false)
   else if a.block != b.block && (← frozen a) && (← frozen b) then unsupported .addressObserved
   else do
    if a.block != b.block then do
     noView a; noView b
     if ← mayBeOne a b then return Value.bool ((← choose (.extern "sameAddr.stringBytes" 2)) == 1)
    pure (Value.bool (a.block == b.block && a.off < b.off+lb*size && b.off < a.off+la*size))
  | _,_=>pure (Value.bool false)) w=_
 by_cases h0:la=0∨lb=0∨size=0
 ·simp [run_underlying ht,hz,h0]
 ·obtain ⟨n,hn⟩:∃ n,us.size=n+1:=⟨us.size - 1,by omega⟩
  rw [hn] at hsb hfe
  obtain ⟨kA,rfl⟩:∃ k,kA=k+1:=⟨kA - 1,by omega⟩
  cases hfa:w.frozen? a <;> cases hfa2:w.frozen? { block:=a.block,off:=kA+1 } <;>
   simp [run_underlying ht,hz,h0,hnb,hnb',frozen,noView,viewAt,mayBeOne,stringish,shape,Sem.run,hsa,hsb,hfa,hfa2,hfb,hfe]
theorem KJ {w:World} {a:Addr} {v:Value} (h:w.cell? a=some v):∃ t k,k ≠ 0∧w.shape? a.block=some (t,k):=by
 unfold World.cell? at h
 split at h
 ·rename_i cs t fr hb
  refine ⟨t,cs.size,fun h0=>?_,by unfold World.shape?; rw [hb]⟩
  split at h
  ·cases h
  ·have:=(Array.getElem?_eq_some_iff.1 h).1
   omega
 ·cases h
theorem SE {P : Program} {I : Inv} {f : FuncId} {fn : Func} {tS tR e : TypeId} {size : Nat} (hf : P.funcs[f]? = some fn) (hname : (fn.name == "runtime.NumGoroutine") = false) (hb : fn.body.isNone = true) (hn : Extern.findNext fn = none)
  (he:Extern.find fn=some (Extern.SlicesOverlaps.overlaps #[tS,tS] #[tR])) (ht:P.underlying tS=some (.slice e)) (hz:∀ w,(Go.sizeOf e).run P w=.ok size w):fj P I false f (II 4):=by
 intro args obs obs' res w X ρ vals n hz' hn' hi hr hs hv
 unfold II at hz'
 split at hz'
 ·rename_i k0 row rows k1 lo m k2 rows2
  split at hz'
  ·rename_i hk
   obtain ⟨rfl,rfl,rfl⟩:=hk
   cases hz'
   obtain ⟨u0,h0⟩:=iP hs (i:=0) rfl
   obtain ⟨u1,h1⟩:=iP hs (i:=1) rfl
   have e0:=hv 0 _ _ rfl h0
   have e1:=hv 1 _ _ rfl h1
   obtain rfl:=SC hs h0 h1
   have d0:=e0.sl_inv
   obtain ⟨a1,cap1,rfl,hp,hn1,hb1,ha1⟩:=e1.rsl_inv
   have ho:RO w (ao w X (ae [.ar 4 rows2]) ρ) ρ (ae [.ar 4 rows2]) 1000 (.ar 4 rows2):=hr.ob 1000
   obtain ⟨us,tB,g1,g2,g3,g4⟩:=ho
   have hlive:live (ae [.ar 4 rows2]) 1000 none:=trivial
   cases d0 with
   | sl _ _ a cap ad vs hc ha hk hv2 hl hr2 =>
    obtain ⟨rfl,hA,hsp⟩:=ha (by simp)
    have hlen:=hk row (by simp)
    obtain ⟨c,hrow⟩:∃ c,row[0]?=some c:=⟨row[0]'(by omega),by simp⟩
    have hcell:=hv2 0 row 0 c rfl hrow
    obtain ⟨tA,kA,hkA,hsh⟩:=KJ hcell
    rw [im] at hsh
    have run:(callFunc f #[.slice (some ad) (row::rows).length cap,.slice a1 m cap1]).run P w=.ok (.value (.bool false)) w:=by
     rw [run_callFunc_extern hf hname hb hn he]
     by_cases hm:m=0
     ·subst hm
      rw [QR w tS tR e ht size hz]
      rfl
     ·rcases ha1 with h | rfl
      ·omega
      ·rw [SD w tS tR e ht size hz ad ⟨(ρ 1000 none).1,lo*4,none⟩ _ cap m cap1 (fun hh=>hA.2.2 ⟨1000,none,hlive,hh.symm⟩) tA kA hkA hsh g1 (by omega)]
       rfl
    unfold Enters
    rw [run]
    exact ⟨ρ,hr,.refl _ _ _ _,.dat (.v _ rfl)⟩
  ·cases hz'
 ·cases hz'
theorem QS {P:Program} {I:Inv} (hR:fj P I false F.slices_Insert_api_Term_api_Term_ (R0 F.slices_Insert_api_Term_api_Term_)):fj P I false F.slices_Insert_api_Term_api_Term_ (Gc 4 64):=by
 intro args obs obs' res w X ρ vals n hz hn hi hr hs hv
 unfold Gc at hz
 split at hz
 ·rename_i k0 r
  split at hz
  ·rename_i hk
   subst hk
   cases hz
   exact hR QK hn hi hr hs hv
  ·cases hz
 ·rename_i k1 m i k0 r k2 rows
  split at hz
  ·rename_i hk
   obtain ⟨rfl,rfl,rfl,rfl,hi0,hi1,hb⟩:=hk
   cases hz
   obtain ⟨i,rfl⟩:=Int.eq_ofNat_of_zero_le hi0
   rw [Int.toNat_natCast]
   by_cases hend:i=rows.length
   ·subst hend
    have:=hR (Mr (r:=r) rfl hb) hn hi hr hs hv
    rw [List.take_of_length_le (Nat.le_refl _),List.drop_eq_nil_of_le (Nat.le_refl _)]
    exact this
   ·have hlt:i < rows.length:=by omega
    obtain ⟨u0,h0⟩:=iP hs (i:=0) rfl
    obtain ⟨a,cap,rfl,hp,hn1,hb1,ha⟩:=(hv 0 _ _ rfl h0).rsl_inv
    have hv':∀ (j:Nat) (c:AV) (u:Value),[AV.rsc 1000 4 0 rows.length cap,.v (.int .i64 i),.sl 4 [r]][j]?=some c→vals[j]?=some u→RV w (ao w X (ae [.ar 4 rows]) ρ) ρ (ae [.ar 4 rows]) c u:=by
     intro j c u hc hu
     match j,hc with
     | 0,hc =>
      cases hc
      rw [h0] at hu
      cases hu
      exact .rsc 1000 4 0 _ cap a hp hn1 hb1 ha
     | j+1,hc=>exact hv (j+1) c u hc hu
    rcases Nat.lt_or_ge rows.length cap with hc | hc
    ·exact hR (QN rfl hlt hc hb) hn hi hr hs hv'
    ·obtain rfl:cap=rows.length:=by omega
     refine (hR (QM rfl hlt hb) hn hi hr hs hv').mono fun v w' ⟨ρ',q1,q2,q3⟩=>?_
     generalize rows.take i++r::rows.drop i=L at q1 q2 q3 ⊢
     have hd:=AE q1 (id:=1000) (k:=4) (rows:=rows) (by
      show (if 1000=n then _ else _)=_
      rw [if_neg (by omega)]
      rfl)
     have eq:upd (mat n (ae [.ar 4 rows]) (.osl 4 L)).2 1000 .dead=(mat n (ae [.dead]) (.osl 4 L)).2:=by
      show upd (upd (ae [.ar 4 rows]) n (.ar 4 L)) 1000 .dead=upd (ae [.dead]) n (.ar 4 L)
      rw [oQ,oQ]
      funext j
      unfold upd
      by_cases h1:j=1000
      ·rw [if_pos h1,if_neg (by omega),if_pos h1]
      ·rw [if_neg h1,if_neg h1,if_neg h1]
     rw [eq] at hd
     refine ⟨ρ',hd.1,q2.trans (hd.2.far rfl),hd.2.rvk q3 (.inr ?_)⟩
     show dT [(1000,false)] n none=false
     simp [dT]
     omega
  ·cases hz
 ·cases hz
theorem lL {w w':World} {X:Nat→Prop} {ρ:aT} (hr:Rel w X ρ (ae [])) (hb:Below w.heap.size w w'):Rel w' X ρ (ae [])∧Far false w ρ (ae []) w' ρ (ae []):=by
 have hl:∀ id sub,¬ live (ae []) id sub:=fun id sub=>by
  have hd:ae [] id=.dead:=by
   unfold ae
   split <;> simp
  cases sub with
  | none=>simp [live,hd]
  | some p=>simp [live,hd]
 refine ⟨⟨fun id sub _ _ h=>(hl id sub h).elim,fun id sub h=>(hl id sub h).elim,fun id=>?_,fun b hb'=>Nat.lt_of_lt_of_le (hr.xl b hb') hb.size⟩,hb.os,hb.tape,hb.output,hb.size,fun b h1 _=>hb.block b h1,fun b ⟨id,sub,h,_⟩=>(hl id sub h).elim,fun id _ h=>?_,fun h=>by cases h⟩
 ·have hd:ae [] id=.dead:=by
   unfold ae
   split <;> simp
  rw [hd]
  trivial
 ·exfalso
  apply h
  unfold ae
  split <;> simp
theorem Mw {w w':World} {X:Nat→Prop} {ρ:aT} {b:Nat} (h:ao w X (ae []) ρ b) (hb:Below w.heap.size w w'):ao w' X (ae []) ρ b∧w'.heap[b]?=w.heap[b]? :=
 ⟨⟨Nat.lt_of_lt_of_le h.1 hb.size,h.2.1,h.2.2⟩,hb.block b h.1⟩
theorem SF {P:Program} {I:Inv} {ρ0:Ren} (L:Lays2.n15 P ρ0) (hf:ρ0.f 15=F.slices_Clone_int_int_) (he:∀ a w,(callFunc F.slices_Clone_int_int_ a).run P w=.ok (.enter F.slices_Clone_int_int_ a) w)
  (hR:fj P I false F.slices_Clone_int_int_ (R0 F.slices_Clone_int_int_)):fj P I false F.slices_Clone_int_int_ LD:=by
 intro args obs obs' res w X ρ vals n hz hn hi hr hs hv
 unfold LD at hz
 split at hz
 ·cases hz
  obtain ⟨u0,h0⟩:=iP hs (i:=0) rfl
  have d0:=(hv 0 _ _ rfl h0).sl_inv
  obtain rfl:=SB hs h0
  cases d0 with
  | sl _ _ a cap ad vs hc ha hk hv2 hl hr2 =>
   unfold Enters
   rw [he]
   have fin:∀ (w':World) (b:Option Addr) (c:Nat),Below w.heap.size w w'→∃ ρ',Rel w' X ρ' (mat n (ae []) (.sl 1 [])).2∧Far false w ρ (ae []) w' ρ' (mat n (ae []) (.sl 1 [])).2 ∧
     RV w' (ao w' X (mat n (ae []) (.sl 1 [])).2 ρ') ρ' (mat n (ae []) (.sl 1 [])).2 (mat n (ae []) (.sl 1 [])).1 (.slice b 0 c):=fun w' b c hb =>
    ⟨ρ,(lL hr hb).1,(lL hr hb).2,.dat (.sl 1 [] b c ad vs (Nat.zero_le _) (fun h=>absurd rfl h) (fun _ h=>by cases h) (fun i row j c h=>by simp at h) (fun _ h=>by cases h) (fun i row j c h=>by simp at h))⟩
   cases a with
   | none =>
    have key:=Any.slices_Clone_int_nil L 0 cap w
    rw [hf] at key
    refine Calls.mono key fun e w' hw=>?_
    obtain ⟨rfl,rfl⟩:=hw
    exact fin _ _ _ (Below.refl _ _)
   | some a0 =>
    have key:=Any.slices_Clone_int_zero L a0 cap w
    rw [hf] at key
    refine Calls.mono key fun e w' hw=>?_
    obtain ⟨v',rfl,⟨_,hown⟩,_,hb⟩:=hw
    rcases hown with ⟨rfl,_⟩ | ⟨g,c2,sy,rfl,_⟩
    ·exact fin _ _ _ hb
    ·exact fin _ _ _ hb
 ·rename_i r rs
  split at hz
  ·rename_i hb
   cases hz
   exact hR (OD hb) hn hi hr hs hv
  ·cases hz
 ·cases hz
end Go.Ab
namespace Go.Ab
open Go Go.Proofs Go.RowKit
set_option maxRecDepth 100000
theorem RV.tup_inv {w:World} {A:Nat→Prop} {ρ:aT} {h:aa} {vs:List AV} {u:Value} (hv:RV w A ρ h (.tup vs) u):∃ us:Array Value,u=.tuple us∧us.size=vs.length∧∀ (i:Nat) (c:AV) (u:Value),vs[i]?=some c→us[i]?=some u→RV w A ρ h c u:=by
 cases hv with
 | dat hd=>cases hd
 | tup _ us hs hr=>exact ⟨us,rfl,hs,hr⟩
theorem Aj {P:Program} {I:Inv} {f:FuncId} {g:List AV→List Ob→Option (AV × List Ob)} (hR:fj P I false f g) {args:List AV} {vals:Array Value} {w:World} {X:Nat→Prop} {ρ:aT} {res:AV}
  (he:(callFunc f vals).run P w=.ok (.enter f vals) w) (hz:g args []=some (res,[])) (hm:mat 2000 (ae []) res=(res,ae [])) (hi:I.p w X) (hr:Rel w X ρ (ae [])) (hs:vals.size=args.length)
  (hv:∀ (i:Nat) (c:AV) (u:Value),args[i]?=some c→vals[i]?=some u→RV w (ao w X (ae []) ρ) ρ (ae []) c u) :
  Calls P f vals w fun e w'=>(∃ v ρ',e=.returned v∧RV w' (ao w' X (ae []) ρ') ρ' (ae []) res v)∧Below w.heap.size w w':=by
 have key:=hR hz (Nat.le_refl 2000) hi hr hs hv
 unfold Enters at key
 rw [he] at key
 refine Calls.mono key fun e w' hw=>?_
 cases e with
 | returned v =>
  obtain ⟨ρ',r,far,rv⟩:=hw
  rw [hm] at rv far
  have hl:∀ id sub,¬ live (ae []) id sub:=fun id sub=>by
   have hd:ae [] id=.dead:=by
    unfold ae
    split <;> simp
   cases sub with
   | none=>simp [live,hd]
   | some p=>simp [live,hd]
  exact ⟨⟨v,ρ',rfl,rv⟩,far.os,far.tape,far.output,far.size,fun k hk=>far.old k hk fun ⟨id,sub,h,_⟩=>hl id sub h⟩
 | _=>exact hw.elim
theorem OH (n:Bool) (e:Int) (he:e=0∨e=1):R0 F.dyadic_Valid [.agg [B n,.sl 1 [[U 1]],I e]] []=some (B true,[]):=by
 rcases he with rfl | rfl <;> cases n
 ·exact gX [] 40 (F.dyadic_Valid,[.agg [B false,.sl 1 [[U 1]],I 0]],B true) bL (by kernel_rfl)
 ·exact gX [] 40 (F.dyadic_Valid,[.agg [B true,.sl 1 [[U 1]],I 0]],B true) bL (by kernel_rfl)
 ·exact gX [] 40 (F.dyadic_Valid,[.agg [B false,.sl 1 [[U 1]],I 1]],B true) bL (by kernel_rfl)
 ·exact gX [] 40 (F.dyadic_Valid,[.agg [B true,.sl 1 [[U 1]],I 1]],B true) bL (by kernel_rfl)
theorem QT (e:Int) (he:e=0∨e=1):R0 F.strconv_Itoa [I e] []=some (S ⟨[if e=0 then (48:UInt8) else 49].toArray⟩,[]):=by
 rcases he with rfl | rfl
 ·exact gX [] 40 (F.strconv_Itoa,[I 0],S ⟨[(48:UInt8)].toArray⟩) bL (by kernel_rfl)
 ·exact gX [] 40 (F.strconv_Itoa,[I 1],S ⟨[(49:UInt8)].toArray⟩) bL (by kernel_rfl)
theorem OI:R0 F.natural_Text [.sl 1 [[U 1]]] []=some (.tup [S ⟨[(49:UInt8)].toArray⟩,I 0],[]) :=
 gX [] 60 (F.natural_Text,[.sl 1 [[U 1]]],.tup [S ⟨[(49:UInt8)].toArray⟩,I 0]) bL (by kernel_rfl)
theorem ZL {vals:Array Value} {a b c:Value} (h:vals.size=3) (h0:vals[0]?=some a) (h1:vals[1]?=some b) (h2:vals[2]?=some c):vals=#[a,b,c]:=by
 apply Array.ext_getElem?
 intro i
 match i with
 | 0=>simpa using h0
 | 1=>simpa using h1
 | 2=>simpa using h2
 | i+3=>simp [h]
theorem Vd {I:Inv} (hV:fj Tryz.prog I false F.dyadic_Valid (R0 F.dyadic_Valid)) (hT:fj Tryz.prog I false F.natural_Text (R0 F.natural_Text)) (hI:fj Tryz.prog I false F.strconv_Itoa (R0 F.strconv_Itoa))
  (eV:∀ a w,(callFunc F.dyadic_Valid a).run Tryz.prog w=.ok (.enter F.dyadic_Valid a) w) (eT:∀ a w,(callFunc F.natural_Text a).run Tryz.prog w=.ok (.enter F.natural_Text a) w)
  (eI:∀ a w,(callFunc F.strconv_Itoa a).run Tryz.prog w=.ok (.enter F.strconv_Itoa a) w) (eD:∀ a w,(callFunc F.dyadic_Text a).run Tryz.prog w=.ok (.enter F.dyadic_Text a) w) :
  fj Tryz.prog I false F.dyadic_Text RN:=by
 intro args obs obs' res w X ρ vals n hz hn hi hr hs hv
 unfold RN at hz
 split at hz
 ·rename_i nb m e
  split at hz
  ·rename_i hc
   obtain ⟨rfl,he,rfl⟩:=hc
   cases hz
   obtain ⟨u0,h0⟩:=iP hs (i:=0) rfl
   obtain ⟨us,rfl,hsz,_,hr2⟩:=(hv 0 _ _ rfl h0).agg_inv
   obtain rfl:=SB hs h0
   obtain ⟨v0,g0⟩:=iP (args:=[B nb,.sl 1 [[.v (.int .u32 1)]],.v (.int .i64 e)]) hsz (i:=0) rfl
   obtain ⟨v1,g1⟩:=iP (args:=[B nb,.sl 1 [[.v (.int .u32 1)]],.v (.int .i64 e)]) hsz (i:=1) rfl
   obtain ⟨v2,g2⟩:=iP (args:=[B nb,.sl 1 [[.v (.int .u32 1)]],.v (.int .i64 e)]) hsz (i:=2) rfl
   obtain ⟨rfl,_⟩:=(hr2 0 _ _ rfl g0).v_inv
   obtain ⟨rfl,_⟩:=(hr2 2 _ _ rfl g2).v_inv
   have d1:=(hr2 1 _ _ rfl g1).sl_inv
   obtain rfl:=ZL hsz g0 g1 g2
   obtain ⟨a,l,cap,rfl⟩:∃ a l cap,v1=.slice a l cap:=by
    cases d1
    exact ⟨_,_,_,rfl⟩
   have hl:l=1:=by
    cases d1
    rfl
   subst hl
   have d1':∀ {w1:World},Below w.heap.size w w1→RD w1 (ao w1 X (ae []) ρ) (.sl 1 [[.v (.int .u32 1)]]) (.slice a 1 cap):=fun hb=>d1.mono fun b h=>Mw h hb
   have inv:∀ {w1:World},Below w.heap.size w w1→I.p w1 X:=fun hb=>I.stab hi fun b h=>hb.block b (hr.xl b h)
   unfold Enters
   rw [eD]
   refine Calls.mono (QQ nb a 1 cap e [49] [if e=0 then 48 else 49] w (by decide) (by decide) (Nat.le_of_lt (by decide:1 < 1000)) (fun w1 hb=>?_) (fun w1 hb=>?_) fun w1 hb=>?_) fun ex w' hw=>?_
   ·refine Calls.mono (Aj hV (eV _ _) (OH nb e he) rfl (inv hb) (lL hr hb).1 rfl fun i c u hc hu=>?_) fun ex w2 hw=>?_
    ·match i,hc with
     | 0,hc =>
      cases hc
      cases hu
      refine .dat (.agg _ _ rfl (fun i u hu=>?_) fun i c u hc hu=>?_)
      ·match i,hu with
       | 0,hu=>cases hu; rfl
       | 1,hu=>cases hu; rfl
       | 2,hu=>cases hu; rfl
      ·match i,hc,hu with
       | 0,hc,hu=>cases hc; cases hu; exact .v _ rfl
       | 1,hc,hu=>cases hc; cases hu; exact d1' hb
       | 2,hc,hu=>cases hc; cases hu; exact .v _ rfl
    ·obtain ⟨⟨v,ρ',rfl,rv⟩,hb2⟩:=hw
     obtain ⟨rfl,_⟩:=rv.v_inv
     exact ⟨rfl,hb2⟩
   ·refine Calls.mono (Aj hT (eT _ _) OI rfl (inv hb) (lL hr hb).1 rfl fun i c u hc hu=>?_) fun ex w2 hw=>?_
    ·match i,hc with
     | 0,hc =>
      cases hc
      cases hu
      exact .dat (d1' hb)
    ·obtain ⟨⟨v,ρ',rfl,rv⟩,hb2⟩:=hw
     obtain ⟨us,rfl,h1,h2⟩:=rv.tup_inv
     obtain ⟨x0,q0⟩:=iP (args:=[S ⟨[(49:UInt8)].toArray⟩,.v (.int .i64 0)]) h1 (i:=0) rfl
     obtain ⟨x1,q1⟩:=iP (args:=[S ⟨[(49:UInt8)].toArray⟩,.v (.int .i64 0)]) h1 (i:=1) rfl
     obtain ⟨rfl,_⟩:=(h2 0 _ _ rfl q0).v_inv
     obtain ⟨rfl,_⟩:=(h2 1 _ _ rfl q1).v_inv
     obtain rfl:=SC h1 q0 q1
     exact ⟨rfl,hb2⟩
   ·refine Calls.mono (Aj hI (eI _ _) (QT e he) rfl (inv hb) (lL hr hb).1 rfl fun i c u hc hu=>?_) fun ex w2 hw=>?_
    ·match i,hc with
     | 0,hc =>
      cases hc
      cases hu
      exact .dat (.v _ rfl)
    ·obtain ⟨⟨v,ρ',rfl,rv⟩,hb2⟩:=hw
     obtain ⟨rfl,_⟩:=rv.v_inv
     exact ⟨rfl,hb2⟩
   ·obtain ⟨rfl,hb⟩:=hw
    refine ⟨ρ,(lL hr hb).1,(lL hr hb).2,?_⟩
    refine .tup _ _ rfl fun i c u hc hu=>?_
    match i,hc,hu with
    | 0,hc,hu=>cases hc; cases hu; exact .dat (.v _ rfl)
    | 1,hc,hu=>cases hc; cases hu; exact .dat (.v _ rfl)
  ·cases hz
 ·cases hz
abbrev TX (f:Nat) (fd:FD):Prop:=Text Go.Proofs.Tryz.prog f fd
theorem tx {f : Nat} {fd : FD} {fn : Func} (h : Go.Proofs.Tryz.prog.funcs[f]? = some fn) (h2 : (fn.body.bind fun c => dR Go.Proofs.Tryz.prog fn.ntmps c fd.body, uA Go.Proofs.Tryz.prog fn.results.toList, decide (fn.ntmps ≤ 1000), fn.name == "runtime.NumGoroutine") = (some fd.body, some fd.res, true, false)) : TX f fd := by
 simp only [Prod.mk.injEq,Option.bind_eq_some_iff,decide_eq_true_eq] at h2
 obtain ⟨⟨c,h3,h4⟩,h5,h6,h7⟩:=h2
 exact ⟨⟨fn,c,_,h,h3,rfl,h6,h4,h5,h7⟩⟩
theorem tn:∀ p ∈ ([]:List (Nat × FD)),TX p.1 p.2:=fun _ h=>by cases h
theorem tc {f:Nat} {fd:FD} {l:List (Nat × FD)} (h1:TX f fd) (h2:∀ p ∈ l,TX p.1 p.2):∀ p ∈ (f,fd)::l,TX p.1 p.2:=fun p hp=>by
 rcases List.mem_cons.1 hp with rfl | hp
 ·exact h1
 ·exact h2 p hp
open Go.Proofs.Tryz
theorem anO:TX 5 akp:=tx func5 (by kernel_rfl)
theorem ZN:TX 7 wR:=tx func7 (by kernel_rfl)
theorem ZO:TX 8 ov:=tx func8 (by kernel_rfl)
theorem Ve:TX 12 tp:=tx func12 (by kernel_rfl)
theorem ajZ:TX 18 adJ:=tx func18 (by kernel_rfl)
theorem Vf:TX 19 ej:=tx func19 (by kernel_rfl)
theorem Vg:TX 20 gy:=tx func20 (by kernel_rfl)
theorem anN:TX 21 amH:=tx func21 (by kernel_rfl)
theorem Vh:TX 22 fF:=tx func22 (by kernel_rfl)
theorem aj0:TX 23 aeG:=tx func23 (by kernel_rfl)
theorem Vj:TX 25 mH:=tx func25 (by kernel_rfl)
theorem Vk:TX 26 gq:=tx func26 (by kernel_rfl)
theorem Vl:TX 27 mI:=tx func27 (by kernel_rfl)
theorem Vm:TX 28 si:=tx func28 (by kernel_rfl)
theorem Vn:TX 29 wS:=tx func29 (by kernel_rfl)
theorem Vo:TX 30 ct:=tx func30 (by kernel_rfl)
theorem Vp:TX 31 gz:=tx func31 (by kernel_rfl)
theorem Vq:TX 32 cu:=tx func32 (by kernel_rfl)
theorem Vr:TX 33 gL:=tx func33 (by kernel_rfl)
theorem Vs:TX 36 cM:=tx func36 (by kernel_rfl)
theorem Vt:TX 37 mU:=tx func37 (by kernel_rfl)
theorem Vu:TX 38 df:=tx func38 (by kernel_rfl)
theorem Vv:TX 39 ck:=tx func39 (by kernel_rfl)
theorem Vw:TX 40 bW:=tx func40 (by kernel_rfl)
theorem aj3:TX 41 adr:=tx func41 (by kernel_rfl)
theorem Vx:TX 43 vr:=tx func43 (by kernel_rfl)
theorem Vy:TX 44 dX:=tx func44 (by kernel_rfl)
theorem Vz:TX 49 ic:=tx func49 (by kernel_rfl)
theorem aj7:TX 53 adO:=tx func53 (by kernel_rfl)
theorem aj8:TX 54 adH:=tx func54 (by kernel_rfl)
theorem VA:TX 55 dS:=tx func55 (by kernel_rfl)
theorem VB:TX 56 iv:=tx func56 (by kernel_rfl)
theorem VC:TX 57 lT:=tx func57 (by kernel_rfl)
theorem VD:TX 58 ku:=tx func58 (by kernel_rfl)
theorem aj9:TX 59 afa:=tx func59 (by kernel_rfl)
theorem VE:TX 60 aL:=tx func60 (by kernel_rfl)
theorem VF:TX 61 iw:=tx func61 (by kernel_rfl)
theorem VG:TX 62 db:=tx func62 (by kernel_rfl)
theorem VH:TX 63 dE:=tx func63 (by kernel_rfl)
theorem aka:TX 64 adN:=tx func64 (by kernel_rfl)
theorem VJ:TX 65 jj:=tx func65 (by kernel_rfl)
theorem VK:TX 66 bY:=tx func66 (by kernel_rfl)
theorem VL:TX 67 ie:=tx func67 (by kernel_rfl)
theorem VM:TX 68 eX:=tx func68 (by kernel_rfl)
theorem VN:TX 69 tq:=tx func69 (by kernel_rfl)
theorem VO:TX 70 yF:=tx func70 (by kernel_rfl)
theorem VP:TX 72 sj:=tx func72 (by kernel_rfl)
theorem VQ:TX 73 cJ:=tx func73 (by kernel_rfl)
theorem VR:TX 74 cK:=tx func74 (by kernel_rfl)
theorem VS:TX 76 cI:=tx func76 (by kernel_rfl)
theorem VU:TX 77 lU:=tx func77 (by kernel_rfl)
theorem VV:TX 78 jk:=tx func78 (by kernel_rfl)
theorem VW:TX 79 fN:=tx func79 (by kernel_rfl)
theorem VX:TX 80 eC:=tx func80 (by kernel_rfl)
theorem VY:TX 81 be:=tx func81 (by kernel_rfl)
theorem VZ:TX 82 eB:=tx func82 (by kernel_rfl)
theorem V0:TX 83 aH:=tx func83 (by kernel_rfl)
theorem V1:TX 84 lV:=tx func84 (by kernel_rfl)
theorem V2:TX 85 bZ:=tx func85 (by kernel_rfl)
theorem akc:TX 86 aeT:=tx func86 (by kernel_rfl)
theorem V3:TX 90 dF:=tx func90 (by kernel_rfl)
theorem V4:TX 92 eM:=tx func92 (by kernel_rfl)
theorem V5:TX 93 dx:=tx func93 (by kernel_rfl)
theorem V6:TX 94 cE:=tx func94 (by kernel_rfl)
theorem V7:TX 95 eN:=tx func95 (by kernel_rfl)
theorem V8:TX 96 ef:=tx func96 (by kernel_rfl)
theorem V9:TX 97 bG:=tx func97 (by kernel_rfl)
theorem Wa:TX 98 cN:=tx func98 (by kernel_rfl)
theorem Wb:TX 99 fP:=tx func99 (by kernel_rfl)
theorem SG:TX 100 yG:=tx func100 (by kernel_rfl)
theorem SH:TX 101 tr:=tx func101 (by kernel_rfl)
theorem SI:TX 102 sk:=tx func102 (by kernel_rfl)
theorem SJ:TX 104 iy:=tx func104 (by kernel_rfl)
theorem SK:TX 105 kQ:=tx func105 (by kernel_rfl)
theorem SL:TX 106 lD:=tx func106 (by kernel_rfl)
theorem SM:TX 107 iz:=tx func107 (by kernel_rfl)
theorem SN:TX 108 kR:=tx func108 (by kernel_rfl)
theorem SO:TX 109 iC:=tx func109 (by kernel_rfl)
theorem SP:TX 110 lW:=tx func110 (by kernel_rfl)
theorem SQ:TX 111 kS:=tx func111 (by kernel_rfl)
theorem SR:TX 112 iY:=tx func112 (by kernel_rfl)
theorem SS:TX 113 mV:=tx func113 (by kernel_rfl)
theorem ST:TX 114 gA:=tx func114 (by kernel_rfl)
theorem SU:TX 115 cX:=tx func115 (by kernel_rfl)
theorem SV:TX 117 hF:=tx func117 (by kernel_rfl)
theorem SW:TX 122 ig:=tx func122 (by kernel_rfl)
theorem SX:TX 123 iZ:=tx func123 (by kernel_rfl)
theorem SY:TX 124 jm:=tx func124 (by kernel_rfl)
theorem SZ:TX 125 gB:=tx func125 (by kernel_rfl)
theorem S0:TX 126 gC:=tx func126 (by kernel_rfl)
theorem S1:TX 131 i6:=tx func131 (by kernel_rfl)
theorem S2:TX 132 wV:=tx func132 (by kernel_rfl)
theorem S3:TX 133 rC:=tx func133 (by kernel_rfl)
theorem S4:TX 134 nK:=tx func134 (by kernel_rfl)
theorem S5:TX 135 qB:=tx func135 (by kernel_rfl)
theorem S6:TX 136 gN:=tx func136 (by kernel_rfl)
theorem S7:TX 137 sn:=tx func137 (by kernel_rfl)
theorem S8:TX 138 jn:=tx func138 (by kernel_rfl)
theorem S9:TX 139 iR:=tx func139 (by kernel_rfl)
theorem Ta:TX 140 fH:=tx func140 (by kernel_rfl)
theorem Tb:TX 141 cF:=tx func141 (by kernel_rfl)
theorem Tc:TX 142 i7:=tx func142 (by kernel_rfl)
theorem Td:TX 144 jo:=tx func144 (by kernel_rfl)
theorem Te:TX 145 iD:=tx func145 (by kernel_rfl)
theorem Tf:TX 146 eO:=tx func146 (by kernel_rfl)
theorem Tg:TX 147 jp:=tx func147 (by kernel_rfl)
theorem Th:TX 148 lX:=tx func148 (by kernel_rfl)
theorem Ti:TX 149 oH:=tx func149 (by kernel_rfl)
theorem Tj:TX 150 vF:=tx func150 (by kernel_rfl)
theorem Tk:TX 151 iE:=tx func151 (by kernel_rfl)
theorem Tl:TX 152 yH:=tx func152 (by kernel_rfl)
theorem Tm:TX 153 oI:=tx func153 (by kernel_rfl)
theorem Tn:TX 154 mj:=tx func154 (by kernel_rfl)
theorem To:TX 155 mL:=tx func155 (by kernel_rfl)
theorem Tp:TX 157 kU:=tx func157 (by kernel_rfl)
theorem Tq:TX 158 iS:=tx func158 (by kernel_rfl)
theorem Ts:TX 159 gQ:=tx func159 (by kernel_rfl)
theorem Tt:TX 160 iF:=tx func160 (by kernel_rfl)
theorem Tu:TX 161 dc:=tx func161 (by kernel_rfl)
theorem Tv:TX 162 ft:=tx func162 (by kernel_rfl)
theorem Tw:TX 163 l4:=tx func163 (by kernel_rfl)
theorem Tx:TX 164 mY:=tx func164 (by kernel_rfl)
theorem Ty:TX 165 mZ:=tx func165 (by kernel_rfl)
theorem Tz:TX 166 gr:=tx func166 (by kernel_rfl)
theorem TA:TX 167 vH:=tx func167 (by kernel_rfl)
theorem TB:TX 168 vI:=tx func168 (by kernel_rfl)
theorem TC:TX 169 gu:=tx func169 (by kernel_rfl)
theorem TD:TX 170 mn:=tx func170 (by kernel_rfl)
theorem TE:TX 171 iT:=tx func171 (by kernel_rfl)
theorem TF:TX 172 vJ:=tx func172 (by kernel_rfl)
theorem TG:TX 173 iG:=tx func173 (by kernel_rfl)
theorem TH:TX 174 gR:=tx func174 (by kernel_rfl)
theorem TI:TX 175 nL:=tx func175 (by kernel_rfl)
theorem TJ:TX 178 mo:=tx func178 (by kernel_rfl)
set_option maxRecDepth 100000 in
theorem HG:∀ p ∈ OU,TX p.1 p.2:=tc anO (tc ZN (tc ZO (tc Ve (tc ajZ (tc Vf (tc Vg (tc anN (tc Vh (tc aj0 (tc Vj (tc Vk (tc Vl (tc Vm (tc Vn (tc Vo (tc Vp (tc Vq (tc Vr (tc Vs (tc Vt (tc Vu (tc Vv (tc Vw (tc aj3 (tc Vx (tc Vy (tc Vz (tc aj7 (tc aj8 (tc VA (tc VB (tc VC (tc VD (tc aj9 (tc VE (tc VF (tc VG (tc VH (tc aka (tc VJ (tc VK (tc VL (tc VM (tc VN (tc VO (tc VP (tc VQ (tc VR (tc VS (tc VU (tc VV (tc VW (tc VX (tc VY (tc VZ (tc V0 (tc V1 (tc V2 (tc akc (tc V3 (tc V4 (tc V5 (tc V6 (tc V7 (tc V8 (tc V9 (tc Wa (tc Wb (tc SG (tc SH (tc SI (tc SJ (tc SK (tc SL (tc SM (tc SN (tc SO (tc SP (tc SQ (tc SR (tc SS (tc ST (tc SU (tc SV (tc SW (tc SX (tc SY (tc SZ (tc S0 (tc S1 (tc S2 (tc S3 (tc S4 (tc S5 (tc S6 (tc S7 (tc S8 (tc S9 (tc Ta (tc Tb (tc Tc (tc Td (tc Te (tc Tf (tc Tg (tc Th (tc Ti (tc Tj (tc Tk (tc Tl (tc Tm (tc Tn (tc To (tc Tp (tc Tq (tc Ts (tc Tt (tc Tu (tc Tv (tc Tw (tc Tx (tc Ty (tc Tz (tc TA (tc TB (tc TC (tc TD (tc TE (tc TF (tc TG (tc TH (tc TI (tc TJ (tn))))))))))))))))))))))))))))))))))))))))))))))))))))))))))))))))))))))))))))))))))))))))))))))))))))))))))))))))))))))))))))))))))))))
end Go.Ab
