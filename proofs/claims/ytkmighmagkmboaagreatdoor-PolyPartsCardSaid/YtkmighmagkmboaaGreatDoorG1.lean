/-
  A law of polynomials holds at every input that the statement speaks of, under the conditions that its card names. Part G1.
-/
import Derived.Test.YtkmighmagkmboaaGreatDoorProg
import Derived.Shelf.Spec.TrailingZeros
import Derived.Test.YtkmighmagkmboaaGreatDoorRows
import Derived.Deep.Strs
import Derived.ProofKit
import Derived.LaidMore
import Derived.OpenShut
import Derived.Carry
import Derived.Shelf.Strings.BuilderK
import Derived.WalkKit
import Derived.BigCall
import Derived.Lib.Overlaps
import Derived.Laws.Externs
import Derived.Shelf.Slices.Clone
import Derived.KernelRfl
import Derived.Test.YtkmighmagkmboaaGreatDoorF1
open Nat renaming reduceEqDiff → aez, reduceAdd → aeA, reduceMul → aeB, reduceLeDiff → aeC, reduceBEq → aeD, reduceLT → aeE, reduceSub → axe, reduceMod → axf
open Int renaming reduceEq → axg
namespace Go.Ab
open Go Go.IntWalk
set_option maxRecDepth 4000
set_option maxHeartbeats 4000000
structure Bf (v:Int) (l A:List Rt):Prop where
 cl:Cl v l
 lt:∀ q ∈ l,∀ t ∈ A,bj q.exps t.exps < 0
theorem Bf.nil {v:Int} (A:List Rt):Bf v [] A:=⟨Cl.nil _,fun q h=>by cases h⟩
theorem Bf.drop {v:Int} {l A:List Rt} {t:Rt} (h:Bf v l (t::A)):Bf v l A:=⟨h.cl,fun q hq x hx=>h.lt q hq x (by simp [hx])⟩
theorem Cl.tail {v:Int} {l:List Rt} {t:Rt} (h:Cl v (t::l)):Cl v l:=⟨fun q hq=>h.t q (by simp [hq]),(List.pairwise_cons.1 h.s).2⟩
theorem Cl.head {v:Int} {l:List Rt} {t:Rt} (h:Cl v (t::l)):VT v t:=h.t t (by simp)
theorem Bf.push {v:Int} {l A:List Rt} {t:Rt} {d:Rd} (h:Bf v l (t::A)) (hA:Cl v (t::A)) (vt:VT v ⟨t.exps,d⟩):Bf v (l++[⟨t.exps,d⟩]) A:=by
 refine ⟨⟨fun q hq=>?_,?_⟩,fun q hq x hx=>?_⟩
 ·rcases List.mem_append.1 hq with h1 | h1
  ·exact h.cl.t q h1
  ·rw [List.mem_singleton.1 h1]
   exact vt
 ·rw [List.pairwise_append]
  refine ⟨h.cl.s,List.pairwise_singleton _ _,fun q hq x hx=>?_⟩
  rw [List.mem_singleton.1 hx]
  exact h.lt q hq t (by simp)
 ·rcases List.mem_append.1 hq with h1 | h1
  ·exact h.lt q h1 x (by simp [hx])
  ·rw [List.mem_singleton.1 h1]
   exact (List.pairwise_cons.1 hA.s).1 x hx
theorem Cl.dropN {v:Int}:∀ {l:List Rt} (i:Nat),Cl v l→Cl v (l.drop i)
 | l,0,h=>h
 | [],_+1,h=>h
 | _::l,i+1,h=>Cl.dropN i h.tail
theorem akN {v v':Int} {l A:List Rt} {t:Rt} {d:Rd} {c:AV} (h:Bf v l (t::A)) (vt:VT v ⟨t.exps,d⟩) (hl:l.length≤1000000) (hc:nS c l) :
  ∃ c1,R F.poly_collector_add [.ref 1000 none 0 0 0,.sl 1 (aX t.exps),aF d] [t3 v' c 0]=some (.tup [],[t3 v' c1 0])∧nS c1 (l++[⟨t.exps,d⟩]):=by
 obtain ⟨c1,l1,e1,g1,g2,g3⟩:=I9 (v':=v') h.cl vt hl hc
 have he:kU l ⟨t.exps,d⟩=some (l++[⟨t.exps,d⟩]):=Hl fun q hq=>h.lt q hq t (by simp)
 rw [he] at g3
 rcases g3 with ⟨rfl,g⟩ | ⟨_,g,_⟩
 ·cases g
  exact ⟨c1,g1,g2⟩
 ·cases g
def loB (o:Int) (t:Rt):Bool:=decide (bc t.exps≤o)
def hiB (o:Int) (t:Rt):Bool:=!decide (bc t.exps≤o)
def ajm (a:Rp) (o:Int):Rp × Rp:=if vp a=true then (⟨a.vars,a.terms.filter (loB o)⟩,⟨a.vars,a.terms.filter (hiB o)⟩) else (p0,p0)
def akO (blk:Option (Ex × St)) (i1 i2:Nat) (S:af) (v':Int) (l1 l2 r1 r2:List Rt):Prop :=
 ∃ hh c1 c2,blk=some (.normal,⟨S,hh⟩)∧hh 4=.bx [I 0,.emp]∧hh 5=.bx [I 0,.emp]∧hh i1=t3 v' c1 0∧hh i2=t3 v' c2 0∧nS c1 (l1++r1)∧nS c2 (l2++r2)
theorem akO.p1 {blk:Option (Ex × St)} {i1 i2:Nat} {S:af} {v':Int} {l1 l2 r1 r2:List Rt} {t:Rt} (h:akO blk i1 i2 S v' (l1++[t]) l2 r1 r2):akO blk i1 i2 S v' l1 l2 (t::r1) r2:=by
 obtain ⟨hh,c1,c2,h1,h2,h3,h4,h5,h6,h7⟩:=h
 exact ⟨hh,c1,c2,h1,h2,h3,h4,h5,by rwa [List.append_cons],h7⟩
theorem akO.p2 {blk:Option (Ex × St)} {i1 i2:Nat} {S:af} {v':Int} {l1 l2 r1 r2:List Rt} {t:Rt} (h:akO blk i1 i2 S v' l1 (l2++[t]) r1 r2):akO blk i1 i2 S v' l1 l2 r1 (t::r2):=by
 obtain ⟨hh,c1,c2,h1,h2,h3,h4,h5,h6,h7⟩:=h
 exact ⟨hh,c1,c2,h1,h2,h3,h4,h5,h6,by rwa [List.append_cons]⟩
theorem asY {v v' o:Int} {A:List Rt} (hA:Cl v A) (hn:A.length≤100000) {o2:Ob} (k2c:∀ ids,aB ids o2=true) :
  ∀ (k i:Nat),i+k=A.length→∀ (c1 c2:AV) (l1 l2:List Rt),nS c1 l1→nS c2 l2→Bf v l1 (A.drop i)→Bf v l2 (A.drop i)→l1.length+k≤1000000→l2.length+k≤1000000→∀ (s:af) (h:aa),s 1=I o→s 4=.ref 4 none 0 0 0→s 5=.ref 5 none 0 0 0→s 6=.ref 2136 none 0 0 0→s 7=.ref 2160 none 0 0 0→s 22=.sl 4 (ax A)→s 23=I A.length→s 24=I i→h 2=o2→h 4=.bx [I 0,.emp]→h 5=.bx [I 0,.emp]→h 2136=t3 v' c1 0→h 2160=t3 v' c2 0 →
  akO (aI 0 [4,5,6,7] (aU (az R (ab false) aiF) [1,4,5,6,7,22,23,24] [2,4,5,2136,2160] s h)) 2136 2160 (upd (upd (upd (upd (fun _=>.any) 7 (.ref 2160 none 0 0 0)) 6 (.ref 2136 none 0 0 0)) 5 (.ref 5 none 0 0 0)) 4 (.ref 4 none 0 0 0)) v' l1 l2 ((A.drop i).filter (loB o)) ((A.drop i).filter (hiB o)):=by
 intro k
 induction k with
 | zero =>
  intro i hi c1 c2 l1 l2 hc1 hc2 _ _ _ _ s h g1 g4 g5 g6 g7 g22 g23 g24 k2 k4 k5 k2136 k2160
  have e1:((i:Int) < (A.length:Int))=False:=ff (by omega)
  have ho1:=(ko (v:=v') (e:=0) hc1).cl [2,4,5,2136,2160]
  have ho2:=(ko (v:=v') (e:=0) hc2).cl [2,4,5,2136,2160]
  have ho3:=k2c [2,4,5,2136,2160]
  rw [List.drop_eq_nil_of_le (by omega),aA]
  refine ⟨?hh0,c1,c2,?_,?_,?_,?_,?_,by simpa using hc1,by simpa using hc2⟩
  rotate_left
  ·simp only [aiF,go_sem,↓reduceIte,aez,aeD,g1,g4,g5,g6,g7,g22,g23,g24,k2,k4,k5,k2136,k2160,ho1,ho2,ho3,e1]
   rfl
  ·rfl
  ·rfl
  ·rfl
  ·rfl
 | succ k ih =>
  intro i hi c1 c2 l1 l2 hc1 hc2 b1 b2 hl1 hl2 s h g1 g4 g5 g6 g7 g22 g23 g24 k2 k4 k5 k2136 k2160
  have hlt:i < A.length:=by omega
  have e1:((i:Int) < (A.length:Int))=True:=tt (by omega)
  have e2:bH (ax A) (i:Int)=some (.ipt (bv A[i])):=jx rfl (List.getElem?_eq_getElem hlt)
  have e5:IntKind.i64.wrap ((i:Int)+1)=((i+1:Nat):Int):=wi (by omega) (by omega)
  have ho1:=(ko (v:=v') (e:=0) hc1).cl [2,4,5,2136,2160]
  have ho2:=(ko (v:=v') (e:=0) hc2).cl [2,4,5,2136,2160]
  have ho3:=k2c [2,4,5,2136,2160]
  have hAd:=hA.dropN i
  rw [List.drop_eq_getElem_cons hlt] at b1 b2 hAd ⊢
  have ih':=ih (i+1) (by omega)
  have vt:=hAd.head
  generalize A[i]=t at e2 vt b1 b2 hAd ⊢
  have hdeg:=qn vt.sm
  rw [aA]
  generalize aU _ _ _=L at ih' ⊢
  simp only [bv] at e2
  by_cases hd:bc t.exps≤o
  ·have e3:(bc t.exps≤o)=True:=eq_true hd
   have f1:(loB o t)=true:=decide_eq_true hd
   have f2:¬ (hiB o t)=true:=by unfold hiB; rw [decide_eq_true hd]; exact Bool.false_ne_true
   rw [List.filter_cons_of_pos f1,List.filter_cons_of_neg f2]
   obtain ⟨c3,s1,s2⟩:=akN (v':=v') b1 vt (by omega) hc1
   have hcall:=fun (h:aa) (hh:h 2136=t3 v' c1 0) (d:Nat)=>nU (ed false) rfl (xv (d:=d) hh hc1 s2 s1)
   have ih2:=ih' c3 c2 _ l2 s2 hc2 (b1.push hAd vt) b2.drop (by rw [List.length_append]; show l1.length+1+k≤_; omega) (by omega)
   refine akO.p1 ?_
   simp only [aF,aW] at hcall
   simp only [aiF,go_sem,↓reduceIte,aez,aeB,aeA,aeC,aeD,g1,g4,g5,g6,g7,g22,g23,g24,k2,k4,k5,k2136,k2160,ho1,ho2,ho3,e1,e2,hdeg,e3]
   rw [hcall _ rfl]
   simp only [go_sem,↓reduceIte,aez,aeD,e5]
   refine ih2 _ _ ?_ ?_ ?_ ?_ ?_ ?_ ?_ ?_ ?_ ?_ ?_ ?_ ?_
   all_goals first | rfl | assumption
  ·have e3:(bc t.exps≤o)=False:=eq_false hd
   have f1:¬ (loB o t)=true:=by unfold loB; rw [decide_eq_false hd]; exact Bool.false_ne_true
   have f2:(hiB o t)=true:=by unfold hiB; rw [decide_eq_false hd]; rfl
   rw [List.filter_cons_of_neg f1,List.filter_cons_of_pos f2]
   obtain ⟨c3,s1,s2⟩:=akN (v':=v') b2 vt (by omega) hc2
   have hcall:=fun (h:aa) (hh:h 2160=t3 v' c2 0) (d:Nat)=>nU (ed false) rfl (xv (d:=d) hh hc2 s2 s1)
   have ih2:=ih' c1 c3 l1 _ hc1 s2 b1.drop (b2.push hAd vt) (by omega) (by rw [List.length_append]; show l2.length+1+k≤_; omega)
   refine akO.p2 ?_
   simp only [aF,aW] at hcall
   simp only [aiF,go_sem,↓reduceIte,aez,aeB,aeA,aeC,aeD,g1,g4,g5,g6,g7,g22,g23,g24,k2,k4,k5,k2136,k2160,ho1,ho2,ho3,e1,e2,hdeg,e3]
   rw [hcall _ rfl]
   simp only [go_sem,↓reduceIte,aez,aeD,e5]
   refine ih2 _ _ ?_ ?_ ?_ ?_ ?_ ?_ ?_ ?_ ?_ ?_ ?_ ?_ ?_
   all_goals first | rfl | assumption
theorem awc {v v' o:Int} {A:List Rt} (hA:Cl v A) (hn:A.length≤100000) {o2:Ob} (k2c:∀ ids,aB ids o2=true) (s:af) (h:aa) (X:Option (Ex × St)) (hX:aI 0 [4,5,6,7] (aU (az R (ab false) aiF) [1,4,5,6,7,22,23,24] [2,4,5,2136,2160] s h)=X)
  (g1:s 1=I o) (g4:s 4=.ref 4 none 0 0 0) (g5:s 5=.ref 5 none 0 0 0) (g6:s 6=.ref 2136 none 0 0 0) (g7:s 7=.ref 2160 none 0 0 0) (g22:s 22=.sl 4 (ax A)) (g23:s 23=I A.length) (g24:s 24=I 0) (k2:h 2=o2) (k4:h 4=.bx [I 0,.emp]) (k5:h 5=.bx [I 0,.emp]) (k2136:h 2136=t3 v' .emp 0) (k2160:h 2160=t3 v' .emp 0) :
  akO X 2136 2160 (upd (upd (upd (upd (fun _=>.any) 7 (.ref 2160 none 0 0 0)) 6 (.ref 2136 none 0 0 0)) 5 (.ref 5 none 0 0 0)) 4 (.ref 4 none 0 0 0)) v' [] [] (A.filter (loB o)) (A.filter (hiB o)):=by
 subst hX
 exact asY hA hn k2c A.length 0 (Nat.zero_add _) .emp .emp [] [] (.inr ⟨rfl,rfl⟩) (.inr ⟨rfl,rfl⟩) (Bf.nil _) (Bf.nil _) (by show 0+_≤_; omega) (by show 0+_≤_; omega) s h g1 g4 g5 g6 g7 g22 g23 g24 k2 k4 k5 k2136 k2160
def asZ (id:Nat) (s:af) (h:aa):Ob→Option (af × aa × K)
 | .bx cs=>some (eN [(id,true)] s,upd h id (.bx (cs.map gK)),[(id,true)])
 | _=>none
theorem aih (i id x y z:Nat) (s:af) (h:aa):JB i s h (.ref id none x y z)=asZ id s h (h id):=by
 unfold JB asZ
 dsimp only
 cases h id <;> rfl
theorem aiq (id:Nat) (s:af) (h:aa) (cs:List AV):asZ id s h (.bx cs)=some (eN [(id,true)] s,upd h id (.bx (cs.map gK)),[(id,true)]):=rfl
def ppV (r:Rp × Rp):AV:=.tup [bm r.1,bm r.2]
theorem asc {a:Rp} {o:Int} (oa:OkP a):R F.poly_Split [bm a,I o] []=some (ppV (ajm a o),[]):=by
 refine aZ an1 an0 (aml false) rfl ?_
 have v1:=nR oa
 simp only [bm] at v1
 unfold ajm
 cases va:vp a with
 | false =>
  rw [va] at v1
  rw [if_neg Bool.false_ne_true]
  simp only [aji,akK,bm,go_sem,↓reduceIte,aez,aeB,aeA,aeC,v1]
  rfl
 | true =>
  rw [va] at v1
  rw [if_pos rfl]
  obtain ⟨ka,a0,a8,al⟩:=eJ oa va
  have hemp:=Ai (v:=a.vars)
  have hl:=awc (v:=a.vars) (v':=a.vars) (o:=o) ka (by omega) (o2:=.bx [I a.vars,.sl 4 (ax a.terms)]) (fun _=>rfl)
  simp only [aji,akK,bm,go_sem,↓reduceIte,aez,aeB,aeA,aeC,aeE,aeD,v1,hemp,qp]
  generalize hX:aI 0 _ _=X
  have hM:=hl _ _ _ hX rfl rfl rfl rfl rfl rfl rfl rfl rfl rfl rfl rfl rfl
  obtain ⟨hh,c1,c2,rfl,q4,q5,q1,q2,i1,i2⟩:=hM
  rw [List.nil_append] at i1 i2
  generalize a.terms.filter (loB o)=r1 at i1 ⊢
  generalize a.terms.filter (hiB o)=r2 at i2 ⊢
  rcases i1 with rfl | ⟨rfl,rfl⟩
  ·rcases i2 with rfl | ⟨rfl,rfl⟩
   ·simp only [t3] at q1 q2
    simp only [ppV,bm,go_sem,↓reduceIte,aez,aeB,aeA,aeC,aeE,aeD,axe,axf,q4,q5,q1,q2,aih,aiq,List.map_cons,List.map_nil,Sz,OG]
   ·simp only [t3] at q1 q2
    simp only [ppV,bm,go_sem,↓reduceIte,aez,aeB,aeA,aeC,aeE,aeD,axe,axf,q4,q5,q1,q2,aih,aiq,List.map_cons,List.map_nil,Sz,OG,aig]
    rfl
  ·rcases i2 with rfl | ⟨rfl,rfl⟩
   ·simp only [t3] at q1 q2
    simp only [ppV,bm,go_sem,↓reduceIte,aez,aeB,aeA,aeC,aeE,aeD,axe,axf,q4,q5,q1,q2,aih,aiq,List.map_cons,List.map_nil,Sz,OG,aig]
    rfl
   ·simp only [t3] at q1 q2
    simp only [ppV,bm,go_sem,↓reduceIte,aez,aeB,aeA,aeC,aeE,aeD,axe,axf,q4,q5,q1,q2,aih,aiq,List.map_cons,List.map_nil,Sz,aig]
    rfl
end Go.Ab
namespace Go.Ab
open Go Go.IntWalk
set_option maxRecDepth 4000
set_option maxHeartbeats 2000000
end Go.Ab
namespace Go.Ab
open Go Go.IntWalk
set_option maxRecDepth 4000
set_option maxHeartbeats 4000000
def Yg (x:AV) (l:List Rt):Prop:=x=.sl 4 (ax l)∨(x=.emp∧l=[])
theorem Yg.keep {x:AV} {l:List Rt} (h:Yg x l) (hs:List Nat):eF hs x=x:=by
 rcases h with rfl | ⟨rfl,_⟩ <;> rfl
end Go.Ab
namespace Go.Ab
open Go Go.IntWalk
set_option maxRecDepth 4000
set_option maxHeartbeats 4000000
end Go.Ab
namespace Go.Ab
open Go Go.IntWalk
set_option maxRecDepth 4000
set_option maxHeartbeats 1000000
end Go.Ab
namespace Go.Ab
open Go Go.IntWalk
set_option maxRecDepth 4000
set_option maxHeartbeats 2000000
def ahI (X:Option (Ex × St)):Option Rd→Prop
 | some d=>∃ hh,X=some (.normal,⟨upd (upd (fun _=>.any) 6 (.ref 6 none 0 0 0)) 3 (.ref 3 none 0 0 0),hh⟩)∧hh 3=.bx [B d.neg,lm d.m,I d.e]∧hh 6=.bx zb
 | none=>∃ hh,X=some (.ret,⟨upd (upd (fun _=>.any) 7 (B false)) 6 (.ref 6 none 0 0 0),hh⟩)∧hh 6=.bx zb
theorem ag2 {x:Rd} (ox:Ok0 x) {n:Nat} (hn:n≤100000):∀ (k i:Nat),i+k=n→∀ (c:Rd),Ok0 c→∀ (s:af) (h:aa),s 3=.ref 3 none 0 0 0→s 4=.ref 4 none 0 0 0→s 6=.ref 6 none 0 0 0→s 10=I n→s 11=I i→h 3=.bx [B c.neg,lm c.m,I c.e]→h 4=.bx [B x.neg,lm x.m,I x.e]→h 6=.bx zb →
  ahI (aI 0 [3,6] (aU (az R (ab false) adZ) [3,4,6,10,11] [3,4,6] s h)) (ad8 x k c):=by
 intro k
 induction k with
 | zero =>
  intro i hi c oc s h g3 g4 g6 g10 g11 k3 k4 k6
  have e1:((i:Int) < (n:Int))=False:=ff (by omega)
  rw [aA]
  refine ⟨?hh0,?_,?_,?_⟩
  rotate_left
  ·simp only [adZ,go_sem,↓reduceIte,aez,aeD,g3,g4,g6,g10,g11,k3,k4,k6,e1]
   rfl
  ·rfl
  ·rfl
 | succ k ih =>
  intro i hi c oc s h g3 g4 g6 g10 g11 k3 k4 k6
  have e1:((i:Int) < (n:Int))=True:=tt (by omega)
  have e5:IntKind.i64.wrap ((i:Int)+1)=((i+1:Nat):Int):=wi (by omega) (by omega)
  have hm:=IZ oc ox
  have om:=(afb c x).2
  have ih':=ih (i+1) (by omega)
  rw [aA]
  generalize aU _ _ _=L at ih' ⊢
  unfold ad8
  generalize eC c x=r at hm om ⊢
  obtain ⟨r1,r2⟩:=r
  simp only [rV,aF,aW] at hm
  by_cases h0:r2=0
  ·subst h0
   rw [if_pos rfl]
   simp only [adZ,go_sem,↓reduceIte,aez,aeB,aeA,aeC,aeD,g3,g4,g6,g10,g11,k3,k4,k6,e1,e5,hm]
   exact ih' r1 om _ _ rfl rfl rfl rfl rfl rfl rfl rfl
  ·rw [if_neg h0]
   have e2:(r2=0)=False:=ff h0
   refine ⟨?hh1,?_,?_⟩
   rotate_left
   ·simp only [adZ,go_sem,↓reduceIte,aez,aeB,aeA,aeC,aeD,g3,g4,g6,g10,g11,k3,k4,k6,e1,hm,e2]
    rfl
   ·rfl
theorem ahS {x:Rd} (ox:Ok0 x) {n:Nat} (hn:n≤100000) {c:Rd} (oc:Ok0 c) (s:af) (h:aa) (X:Option (Ex × St)) (hX:aI 0 [3,6] (aU (az R (ab false) adZ) [3,4,6,10,11] [3,4,6] s h)=X) (g3:s 3=.ref 3 none 0 0 0) (g4:s 4=.ref 4 none 0 0 0) (g6:s 6=.ref 6 none 0 0 0) (g10:s 10=I n) (g11:s 11=I 0) (k3:h 3=.bx [B c.neg,lm c.m,I c.e]) (k4:h 4=.bx [B x.neg,lm x.m,I x.e]) (k6:h 6=.bx zb) :
  ahI X (ad8 x n c):=by
 subst hX
 exact ag2 ox hn n 0 (Nat.zero_add _) c oc s h g3 g4 g6 g10 g11 k3 k4 k6
theorem agU {c x:Rd} (oc:Ok0 c) (ox:Ok0 x) {n:Nat} (hn:n≤100000):R F.poly_times [aF c,aF x,I n] []=some (.tup [aF (afO x n c).1,B (afO x n c).2],[]):=by
 refine aZ agf age (afL false) rfl ?_
 have hl:=ahS ox hn oc
 simp only [aeZ,afs,aF,aW,go_sem,↓reduceIte,aez,aeA]
 generalize hX:aI 0 [3,6] _=X
 have hT:=hl _ _ _ hX rfl rfl rfl rfl rfl rfl rfl rfl
 unfold afO
 cases ht:ad8 x n c with
 | some d =>
  rw [ht] at hT
  obtain ⟨hh,rfl,q3,q6⟩:=hT
  simp only [go_sem,↓reduceIte,aez,aeB,aeA,aeC,q3,q6]
 | none =>
  rw [ht] at hT
  obtain ⟨hh,rfl,q6⟩:=hT
  simp only [go_sem,↓reduceIte,aez,aeB,aeA,aeC,q6]
  rfl
def rdB:List AV→Rd
 | [.v (.bool n),.sl _ m,.v (.int _ e)]=>⟨n,m.map (fun r=>match r with | [.v (.int _ x)]=>x.toNat | _=>0),e⟩
 | _=>fp
theorem ahi (d:Rd):rdB (aW d)=d:=congrArg (fun m=>(⟨d.neg,m,d.e⟩:Rd)) (lmB d.m)
theorem agm {f:FuncId} {p:Rd→Bool} (hm:(ab false).m f=[]) (hs:(ab false).sh f=[[.o 0 [],.o 2 [],.o 0 []]]) {l:List Rd} (h2:l.length≤100000) (hf:∀ d ∈ l,R f [.agg (aW d)] []=some (B (p d),[])):R F.slices_ContainsFunc_api_Dyadic_api_Dyadic_ [.sl 3 (Ma l),.fn f [] []] []=some (B (l.any p),[]):=by
 have h1:=Bn (k:=3) (g:=true) (f:=f) (rows:=Ma l) (p:=fun r=>p (rdB r)) aeQ aeP (aeK false) rfl hm (by rw [ab6]; omega) (fun row hr=>by
  simp only [Ma,List.mem_map] at hr
  obtain ⟨t,ht,rfl⟩:=hr
  have hd:=hf t ht
  refine ⟨.agg (aW t),rfl,rfl,?_⟩
  rw [ahi]
  simp only [aW] at hd
  simp only [aW,go_sem,hs,hd])
 have h2:=xS (k:=3) aeI aeH (ad4 false) rfl (adV false) (aeN false) (by simp only [go_sem]) h1
 have h3:(Ma l).any (fun r=>p (rdB r))=l.any p:=by
  unfold Ma
  rw [List.any_map]
  congr 1
  funext t
  exact congrArg p (ahi t)
 rw [h3] at h2
 exact h2
end Go.Ab
namespace Go.Ab
open Go Go.IntWalk
set_option maxRecDepth 4000
set_option maxHeartbeats 2000000
def Yh (c:List AV) (q:Rd):Prop:=c=[B q.neg,lm q.m,I q.e]∨(c=zb∧q=fp)
theorem Yh.cl {c:List AV} {q:Rd} (h:Yh c q) (l:List Nat):c.all (en l)=true:=by
 rcases h with rfl | ⟨rfl,_⟩ <;> rfl
end Go.Ab
namespace Go.Ab
open Go Go.IntWalk
set_option maxRecDepth 4000
set_option maxHeartbeats 8000000
def zap (l:List Int) (i:Nat):List Int:=l.set i 0
theorem ak7 (l:List Int) (i:Nat):(zap l i).length=l.length:=by simp [zap]
theorem apK:∀ {l:List Int} {i:Nat},(∀ e ∈ l,0≤e)→bc (zap l i)≤bc l
 | [],_,_=>Int.le_refl _
 | x::l,0,h=>by
  have:=h x (by simp)
  show 0+bc l≤x+bc l
  omega
 | x::l,i+1,h=>by
  have:=apK (l:=l) (i:=i) fun e he=>h e (by simp [he])
  show x+bc (zap l i)≤x+bc l
  omega
theorem anh {x:Rd}:∀ {n:Nat} {c d:Rd},vd c=true→ad8 x n c=some d→vd d=true
 | 0,c,d,h,h1=>by
  cases h1
  exact h
 | n+1,c,d,h,h1=>by
  unfold ad8 at h1
  split at h1
  ·exact anh (afb c x).1 h1
  ·cases h1
def aiZ (i:Nat) (c:Rd):List Rt→Option (List Rt)
 | []=>some []
 | t::ts=>(ad8 c (t.exps.getD i 0).toNat t.c).bind fun d=>if d.m.length=0 then aiZ i c ts else (aiZ i c ts).map (⟨zap t.exps i,d⟩::·)
def amb (a:Rp) (i:Int) (c:Rd):Rp × Int:=if (vp a && vd c)=true then (if i < 0∨a.vars≤i then (p0,2) else ie a.vars ((aiZ i.toNat c a.terms).bind (ej []))) else (p0,1)
theorem amX {v:Int} {t:Rt} {i:Nat} {c d:Rd} (vt:VT v t) (h:ad8 c (t.exps.getD i 0).toNat t.c=some d) (h0:d.m.length ≠ 0):VT v ⟨zap t.exps i,d⟩:=by
 refine ⟨afw _ _ d vt.c h,by show ((zap t.exps i).length:Int)=v; rw [ak7]; exact vt.len,vt.v8,anh vt.vc h,h0,fun e he=>?_,by have:=apK (i:=i) fun e he=>(vt.b e he).1; have:=vt.d; show bc (zap t.exps i)≤32; omega⟩
 rcases List.mem_or_eq_of_mem_set he with h | rfl
 ·exact vt.b e h
 ·omega
def aqS (blk:Option (Ex × St)) (id:Nat) (S:af) (v v':Int) (l:List Rt) (e:Int):Option (List Rt)→Prop
 | some r=>∃ hh c' l' e',blk=some (.normal,⟨S,hh⟩)∧hh 6=.bx [I 0,.emp]∧hh id=t3 v' c' e'∧(∀ a,100≤a→a ≠ id→hh a=.dead)∧ColE v l r e c' l' e'
 | none=>∃ hh,blk=some (.ret,⟨upd (upd (fun _=>.any) 7 (I 9)) 6 (.ref 6 none 0 0 0),hh⟩)∧hh 6=.bx [I 0,.emp]
theorem as0 {v v':Int} {j:Nat} (hj:(j:Int) < v) {d:Rd} (od:Ok0 d) {A:List Rt} (hA:∀ t ∈ A,VT v t) (hn:A.length≤100000) {o3:Ob} (c3:∀ ids,aB ids o3=true) :
  ∀ (k i:Nat),i+k=A.length→∀ (c:AV) (l:List Rt) (e:Int),nS c l→(e=0∨e=9)→(e=0→Cl v l∧l.length+k≤1000000)→∀ (s:af) (h:aa),s 1=I (j:Int)→s 5=.ref 5 none 0 0 0→s 6=.ref 6 none 0 0 0→s 8=.ref 2288 none 0 0 0→s 38=.sl 4 (ax A)→s 39=I A.length→s 40=I i→h 3=o3→h 5=.bx [B d.neg,lm d.m,I d.e]→h 6=.bx [I 0,.emp]→h 2288=t3 v' c e →
  aqS (aI 1 [6,8] (aU (az R (ab false) aiK) [1,5,6,8,38,39,40] [3,5,6,2288] s h)) 2288 (upd (upd (fun _=>.any) 8 (.ref 2288 none 0 0 0)) 6 (.ref 6 none 0 0 0)) v v' l e (aiZ j d (A.drop i)):=by
 intro k
 induction k with
 | zero =>
  intro i hi c l e hc he hC s h g1 g5 g6 g8 g38 g39 g40 k3 k5 k6 k2288
  have e1:((i:Int) < (A.length:Int))=False:=ff (by omega)
  have ho:=(ko (v:=v') (e:=e) hc).cl [3,5,6,2288]
  have ho2:=c3 [3,5,6,2288]
  rw [List.drop_eq_nil_of_le (by omega),aA]
  refine ⟨?hh0,c,l,e,?_,?_,?_,?_,.nil hc he⟩
  rotate_left
  ·simp only [aiK,go_sem,↓reduceIte,aez,aeD,g1,g5,g6,g8,g38,g39,g40,k3,k5,k6,k2288,ho,ho2,e1]
   rfl
  ·rfl
  ·rfl
  ·intro a a1 a2
   simp only [jg,a2,if_false]
   repeat rw [if_neg (by omega)]
 | succ k ih =>
  intro i hi c l e hc he hC s h g1 g5 g6 g8 g38 g39 g40 k3 k5 k6 k2288
  have hlt:i < A.length:=by omega
  have e1:((i:Int) < (A.length:Int))=True:=tt (by omega)
  have e2:bH (ax A) (i:Int)=some (.ipt (bv A[i])):=jx rfl (List.getElem?_eq_getElem hlt)
  have e5:IntKind.i64.wrap ((i:Int)+1)=((i+1:Nat):Int):=wi (by omega) (by omega)
  have ho1:=(ko (v:=v') (e:=e) hc).cl [3,5,6,2288]
  have ho2:=c3 [3,5,6,2288]
  have vt:=hA _ (List.getElem_mem hlt)
  rw [List.drop_eq_getElem_cons hlt]
  have ih':=ih (i+1) (by omega)
  have hrow:∀ q ts,aiZ j d (q::ts)=(ad8 d (q.exps.getD j 0).toNat q.c).bind fun x=>if x.m.length=0 then aiZ j d ts else (aiZ j d ts).map (⟨zap q.exps j,x⟩::·):=fun q ts=>rfl
  rw [hrow]
  generalize A[i]=t at e2 vt ⊢
  have hfit:=fun x h h0=>amX (d:=x) (c:=d) (i:=j) vt h h0
  have hjl:j < t.exps.length:=by have:=vt.len; omega
  have hg:t.exps[j]?=some (t.exps.getD j 0):=by rw [List.getD_eq_getElem?_getD,List.getElem?_eq_getElem hjl]; rfl
  have hle:=vt.ok.len
  obtain ⟨x1,x2⟩:=vt.b _ (Aj hjl)
  have hdec:(aX t.exps).set j [I 0]=aX (zap t.exps j):=Jj _ _ _
  have e3:bH (aX t.exps) (j:Int)=some (.ipt [I (t.exps.getD j 0)]):=pJ rfl hg
  have e4:(aX t.exps)[j]?=some [I (t.exps.getD j 0)]:=by unfold aX; rw [List.getElem?_map,hg]; rfl
  have hcl:R F.slices_Clone_int_int_ [.sl 1 (aX t.exps)] []=some (.osl 1 (aX t.exps),[]):=by
   cases hx:t.exps with
   | nil=>rw [hx] at hjl; simp at hjl
   | cons x xs=>exact xk (by rw [hx] at hle; simp at hle; omega)
  have e7:(0≤(j:Int)∧(j:Int) < (t.exps.length:Int))=True:=eq_true ⟨by omega,by omega⟩
  have k9:(aX (zap t.exps j)).take t.exps.length=aX (zap t.exps j):=List.take_of_length_le (by rw [rg,ak7]; exact Nat.le_refl _)
  have k8:=ak7 t.exps j
  generalize t.exps.getD j 0=z at e3 e4 hfit x1 x2 ⊢
  generalize zap t.exps j=u at hdec hfit k9 k8 ⊢
  obtain ⟨n,rfl⟩:=Int.eq_ofNat_of_zero_le x1
  have htm:=agU vt.c od (n:=n) (by omega)
  rw [Int.toNat_natCast] at hfit ⊢
  rw [aA]
  generalize aU _ _ _=L at ih' ⊢
  simp only [bv] at e2
  unfold afO at htm
  cases hT:ad8 d n t.c with
  | none =>
   rw [hT] at htm
   simp only [aF,aW,fp] at htm
   refine ⟨?hh1,?_,?_⟩
   rotate_left
   ·simp only [aiK,go_sem,↓reduceIte,aez,aeB,aeA,aeC,aeE,aeD,g1,g5,g6,g8,g38,g39,g40,k3,k5,k6,k2288,ho1,ho2,e1,e2,e3,htm]
    rfl
   ·rfl
  | some m =>
   rw [hT] at htm
   simp only [aF,aW] at htm
   rw [Option.bind_some]
   by_cases hm:m.m.length=0
   ·have f1:((m.m.length:Int)=0)=True:=tt (by omega)
    rw [if_pos hm]
    simp only [aiK,go_sem,↓reduceIte,aez,aeB,aeA,aeC,aeE,aeD,g1,g5,g6,g8,g38,g39,g40,k3,k5,k6,k2288,ho1,ho2,e1,e2,e3,htm,f1,e5]
    refine ih' c l e hc he (fun h=>by have:=hC h; exact ⟨this.1,by omega⟩) _ _ ?_ ?_ ?_ ?_ ?_ ?_ ?_ ?_ ?_ ?_ ?_
    all_goals first | rfl | assumption
   ·have f1:((m.m.length:Int)=0)=False:=ff (by omega)
    rw [if_neg hm]
    have vx:=hfit m hT hm
    obtain ⟨c1,l1,e1',s1,s2,s3,s4,s5⟩:=ColE.stepN (t:=⟨u,m⟩) hc he k (fun h=>by have:=hC h; exact ⟨this.1,by omega⟩) vx (v':=v')
    have ih2:=ih' c1 l1 e1' s2 s3 s4
    have hcall:=fun (h:aa) (hh:h 2288=t3 v' c e) (d:Nat)=>nU (ed false) rfl (xv (d:=d) hh hc s2 s1)
    simp only [aF,aW] at hcall
    have hpush:∀ (X:Option (Ex × St)) (S:af),aqS X 2288 S v v' l1 e1' (aiZ j d (A.drop (i+1)))→aqS X 2288 S v v' l e ((aiZ j d (A.drop (i+1))).map (⟨u,m⟩::·)):=fun X S h=>by
     cases hr:aiZ j d (A.drop (i+1)) with
     | none=>rw [hr] at h; exact h
     | some r =>
      rw [hr] at h
      obtain ⟨hh,c',l',e',q1,q2,q3,q4,q5⟩:=h
      exact ⟨hh,c',l',e',q1,q2,q3,q4,s5 _ _ _ _ q5⟩
    simp only [aiK,go_sem,↓reduceIte,aez,aeB,aeA,aeC,aeE,aeD,g1,g5,g6,g8,g38,g39,g40,k3,k5,k6,k2288,ho1,ho2,e1,e2,e3,e4,htm,f1,hcl,e7,hdec,Int.toNat_natCast,Nat.zero_add,Nat.le_refl,k8,k9]
    rw [hcall _ rfl]
    simp only [go_sem,↓reduceIte,aez,aeD,e5]
    refine hpush _ _ (ih2 _ _ ?_ ?_ ?_ ?_ ?_ ?_ ?_ ?_ ?_ ?_ ?_)
    all_goals first | rfl | assumption
theorem awd {v v':Int} {j:Nat} (hj:(j:Int) < v) {d:Rd} (od:Ok0 d) {A:List Rt} (hA:∀ t ∈ A,VT v t) (hn:A.length≤100000) {o3:Ob} (c3:∀ ids,aB ids o3=true) (s:af) (h:aa) (X:Option (Ex × St)) (hX:aI 1 [6,8] (aU (az R (ab false) aiK) [1,5,6,8,38,39,40] [3,5,6,2288] s h)=X)
  (g1:s 1=I (j:Int)) (g5:s 5=.ref 5 none 0 0 0) (g6:s 6=.ref 6 none 0 0 0) (g8:s 8=.ref 2288 none 0 0 0) (g38:s 38=.sl 4 (ax A)) (g39:s 39=I A.length) (g40:s 40=I 0) (k3:h 3=o3) (k5:h 5=.bx [B d.neg,lm d.m,I d.e]) (k6:h 6=.bx [I 0,.emp]) (k2288:h 2288=.bx [I v',.emp,I 0]) :
  aqS X 2288 (upd (upd (fun _=>.any) 8 (.ref 2288 none 0 0 0)) 6 (.ref 6 none 0 0 0)) v v' [] 0 (aiZ j d A):=by
 subst hX
 exact as0 hj od hA hn c3 A.length 0 (Nat.zero_add _) .emp [] 0 (.inr ⟨rfl,rfl⟩) (.inl rfl) (fun _=>⟨Cl.nil _,by show 0+_≤_; omega⟩) s h g1 g5 g6 g8 g38 g39 g40 k3 k5 k6 k2288
theorem atT {a:Rp} {i:Int} {d:Rd} (oa:OkP a) (od:Ok0 d):R F.poly_Fix [bm a,I i,aF d] []=some (pV (amb a i d),[]):=by
 refine aZ apU apT (anl false) rfl ?_
 have v1:=nR oa
 have v2:=kl od
 simp only [bm,aF,aW] at v1 v2
 unfold amb
 cases va:vp a with
 | false =>
  rw [va] at v1
  rw [Bool.false_and,if_neg Bool.false_ne_true]
  simp only [aiP,ajE,bm,aF,aW,go_sem,↓reduceIte,aez,aeB,aeA,aeC,v1]
  rfl
 | true =>
  rw [va] at v1
  cases vdd:vd d with
  | false =>
   rw [vdd] at v2
   rw [Bool.and_false,if_neg Bool.false_ne_true]
   simp only [aiP,ajE,bm,aF,aW,go_sem,↓reduceIte,aez,aeB,aeA,aeC,v1,v2]
   rfl
  | true =>
   rw [vdd] at v2
   rw [Bool.and_self,if_pos rfl]
   obtain ⟨ka,a0,a8,al⟩:=eJ oa va
   by_cases h0:i < 0
   ·have e0:(i < 0)=True:=eq_true h0
    rw [if_pos (.inl h0)]
    simp only [aiP,ajE,bm,aF,aW,go_sem,↓reduceIte,aez,aeB,aeA,aeC,v1,v2,e0]
    rfl
   ·have e0:(i < 0)=False:=eq_false h0
    obtain ⟨j,rfl⟩:=Int.eq_ofNat_of_zero_le (by omega:0≤i)
    by_cases h1:a.vars≤(j:Int)
    ·have e1:(a.vars≤(j:Int))=True:=eq_true h1
     rw [if_pos (.inr h1)]
     simp only [aiP,ajE,bm,aF,aW,go_sem,↓reduceIte,aez,aeB,aeA,aeC,v1,v2,e0,e1]
     rfl
    ·have e1:(a.vars≤(j:Int))=False:=eq_false h1
     rw [if_neg (by omega),Int.toNat_natCast]
     have hemp:=Ai (v:=a.vars)
     have hl:=awd (v:=a.vars) (v':=a.vars) (j:=j) (by omega) od ka.t (by omega) (o3:=.bx [I a.vars,.sl 4 (ax a.terms)]) (fun _=>rfl)
     simp only [aiP,ajE,bm,aF,aW,go_sem,↓reduceIte,aez,aeB,aeA,aeC,v1,v2,e0,e1,hemp,qp]
     generalize hX:aI 1 _ _=X
     have hM:=hl _ _ _ hX rfl rfl rfl rfl rfl rfl rfl rfl rfl rfl rfl
     cases hr:aiZ j d a.terms with
     | none =>
      rw [hr] at hM
      obtain ⟨hh,rfl,q6⟩:=hM
      simp only [Option.bind_none,ie,pV,p0,bm,go_sem,↓reduceIte,aez,aeB,aeA,aeC,q6]
      rfl
     | some r =>
      rw [hr] at hM
      obtain ⟨hh,c',l',e',rfl,q6,qc,qd,qe⟩:=hM
      obtain ⟨o,hdn⟩:=xw (d:=75) qc qe.c (by simp [cr,qd,cz])
      have hd':=nU (dR false) rfl hdn
      rw [qe.fin] at hd'
      rw [Option.bind_some]
      generalize ie a.vars (ej [] r)=z at hd' ⊢
      obtain ⟨z1,z2⟩:=z
      simp only [pV,bm] at hd'
      simp only [pV,bm,go_sem,↓reduceIte,aez,aeB,aeA,aeC,aeD,q6,hd']
end Go.Ab
namespace Go.Ab
open Go Go.IntWalk
set_option maxRecDepth 4000
set_option maxHeartbeats 8000000
def alE (j:Nat) (d:Rd):List Rt→List Rt→Option (List Rt)
 | [],l=>some l
 | t::ts,l=>(ad8 d (t.exps.getD j 0).toNat t.c).bind fun x=>if x.m.length=0 then alE j d ts l else (kU l ⟨zap t.exps j,x⟩).bind fun l'=>alE j d ts l'
theorem amY (j:Nat) (d:Rd):∀ (ts l:List Rt),alE j d ts l=(aiZ j d ts).bind (ej l)
 | [],l=>rfl
 | t::ts,l=>by
  unfold alE aiZ
  cases ad8 d (t.exps.getD j 0).toNat t.c with
  | none=>rfl
  | some x =>
   simp only [Option.bind_some]
   by_cases hx:x.m.length=0
   ·rw [if_pos hx,if_pos hx]
    exact amY j d ts l
   ·rw [if_neg hx,if_neg hx]
    cases h:kU l ⟨zap t.exps j,x⟩ with
    | none =>
     simp only [Option.bind_none]
     cases aiZ j d ts with
     | none=>rfl
     | some r =>
      show none=(kU l ⟨zap t.exps j,x⟩).bind _
      rw [h]
      rfl
    | some l' =>
     simp only [Option.bind_some]
     rw [amY j d ts l']
     cases aiZ j d ts with
     | none=>rfl
     | some r =>
      show ej l' r=(kU l ⟨zap t.exps j,x⟩).bind _
      rw [h]
      rfl
def auT (blk:Option (Ex × St)) (S:AV→af) (a:Rp):Option (List Rt)→Prop
 | some l=>∃ hh x,blk=some (.normal,⟨S x,hh⟩)∧Yg x l∧hh 3=.bx [I a.vars,.sl 4 (ax a.terms)]∧hh 6=.bx [I 0,.emp]
 | none=>∃ hh,blk=some (.ret,⟨upd (upd (fun _=>.any) 7 (I 9)) 6 (.ref 6 none 0 0 0),hh⟩)∧hh 6=.bx [I 0,.emp]
theorem asd {v:Int} {a:Rp} {d:Rd} (od:Ok0 d) {j:Nat} (hj:(j:Int) < v) (hA:∀ t ∈ a.terms,VT v t) (hn:a.terms.length≤100000) :
  ∀ (k i:Nat),i+k=a.terms.length→∀ (x8:AV) (l:List Rt),Yg x8 l→Cl v l→l.length+k≤1000000→∀ (s:af) (h:aa),s 1=I (j:Int)→s 3=.ref 3 none 0 0 0→s 5=.ref 5 none 0 0 0→s 6=.ref 6 none 0 0 0→s 8=x8→s 9=I (i:Int)→h 3=.bx [I a.vars,.sl 4 (ax a.terms)]→h 5=.bx [B d.neg,lm d.m,I d.e]→h 6=.bx [I 0,.emp] →
  auT (aI 0 [3,6,8] (aU (az R (ab false) aii) [1,3,5,6,8,9] [3,5,6] s h)) (fun x=>upd (upd (upd (fun _=>.any) 8 x) 6 (.ref 6 none 0 0 0)) 3 (.ref 3 none 0 0 0)) a (alE j d (a.terms.drop i) l):=by
 intro k
 induction k with
 | zero =>
  intro i hi x8 l h8 c hl s h g1 g3 g5 g6 g8 g9 k3 k5 k6
  have e1:((i:Int) < (a.terms.length:Int))=False:=ff (by omega)
  have kx:=h8.keep [3,5,6]
  rw [List.drop_eq_nil_of_le (by omega),aA]
  refine ⟨?hh0,x8,?_,h8,?_,?_⟩
  rotate_left
  ·simp only [aii,go_sem,↓reduceIte,aez,aeB,aeA,aeD,g1,g3,g5,g6,g8,g9,k3,k5,k6,kx,e1]
   rfl
  ·rfl
  ·rfl
 | succ k ih =>
  intro i hi x8 l h8 c hl s h g1 g3 g5 g6 g8 g9 k3 k5 k6
  have hlt:i < a.terms.length:=by omega
  have e1:((i:Int) < (a.terms.length:Int))=True:=tt (by omega)
  have e2:bH (ax a.terms) (i:Int)=some (.ipt (bv a.terms[i])):=jx rfl (List.getElem?_eq_getElem hlt)
  have e5:IntKind.i64.wrap ((i:Int)+1)=((i+1:Nat):Int):=wi (by omega) (by omega)
  have vt:=hA _ (List.getElem_mem hlt)
  rw [List.drop_eq_getElem_cons hlt]
  have ih':=ih (i+1) (by omega)
  have hrow:∀ q ts,alE j d (q::ts) l=(ad8 d (q.exps.getD j 0).toNat q.c).bind fun x=>if x.m.length=0 then alE j d ts l else (kU l ⟨zap q.exps j,x⟩).bind fun l'=>alE j d ts l':=fun q ts=>rfl
  rw [hrow]
  generalize a.terms[i]=t at e2 vt ⊢
  have hfit:=fun x h h0=>amX (d:=x) (c:=d) (i:=j) vt h h0
  have hjl:j < t.exps.length:=by have:=vt.len; omega
  have hg:t.exps[j]?=some (t.exps.getD j 0):=by rw [List.getD_eq_getElem?_getD,List.getElem?_eq_getElem hjl]; rfl
  have hle:=vt.ok.len
  obtain ⟨x1,x2⟩:=vt.b _ (Aj hjl)
  have hdec:(aX t.exps).set j [I 0]=aX (zap t.exps j):=Jj _ _ _
  have e3:bH (aX t.exps) (j:Int)=some (.ipt [I (t.exps.getD j 0)]):=pJ rfl hg
  have e4:(aX t.exps)[j]?=some [I (t.exps.getD j 0)]:=by unfold aX; rw [List.getElem?_map,hg]; rfl
  have e7:(0≤(j:Int)∧(j:Int) < (t.exps.length:Int))=True:=eq_true ⟨by omega,by omega⟩
  have k9:(aX (zap t.exps j)).take t.exps.length=aX (zap t.exps j):=List.take_of_length_le (by rw [rg,ak7]; exact Nat.le_refl _)
  have k8:=ak7 t.exps j
  have b0:(t.exps.length*8≤140737488355328)=True:=eq_true (by omega)
  generalize t.exps.getD j 0=z at e3 e4 hfit x1 x2 ⊢
  generalize zap t.exps j=u at hdec hfit k9 k8 ⊢
  obtain ⟨n,rfl⟩:=Int.eq_ofNat_of_zero_le x1
  have htm:=aqN vt.c od (n:=n) (by omega)
  rw [Int.toNat_natCast] at hfit ⊢
  have kx:=h8.keep [3,5,6]
  rw [aA]
  generalize aU _ _ _=L at ih' ⊢
  simp only [bv] at e2
  unfold afO at htm
  cases hT:ad8 d n t.c with
  | none =>
   rw [hT] at htm
   simp only [aF,aW,fp] at htm
   refine ⟨?hh1,?_,?_⟩
   rotate_left
   ·simp only [aii,go_sem,↓reduceIte,aez,aeB,aeA,aeC,aeE,aeD,g1,g3,g5,g6,g8,g9,k3,k5,k6,kx,e1,e2,e3,htm]
    rfl
   ·rfl
  | some m =>
   rw [hT] at htm
   simp only [aF,aW] at htm
   rw [Option.bind_some]
   by_cases hm:m.m.length=0
   ·have f1:((m.m.length:Int)=0)=True:=tt (by omega)
    rw [if_pos hm]
    simp only [aii,go_sem,↓reduceIte,aez,aeB,aeA,aeC,aeE,aeD,g1,g3,g5,g6,g8,g9,k3,k5,k6,kx,e1,e2,e3,htm,f1,e5]
    refine ih' x8 l h8 c (by omega) _ _ ?_ ?_ ?_ ?_ ?_ ?_ ?_ ?_ ?_
    all_goals first | rfl | assumption
   ·have f1:((m.m.length:Int)=0)=False:=ff (by omega)
    rw [if_neg hm]
    have vx:=hfit m hT hm
    have hC:=aqP c vx (by omega)
    simp only [bv] at hC
    have hin:kU l ⟨u,m⟩=none∨∃ l',kU l ⟨u,m⟩=some l':=by
     cases kU l ⟨u,m⟩ with
     | none=>exact .inl rfl
     | some l'=>exact .inr ⟨l',rfl⟩
    rcases hin with hins | ⟨l',hins⟩
    ·rw [hins] at hC ⊢
     simp only [Option.bind_none]
     simp only [aqO] at hC
     rcases h8 with rfl | ⟨rfl,rfl⟩
     ·refine ⟨?hh2,?_,?_⟩
      rotate_left
      ·simp only [aii,go_sem,↓reduceIte,aez,aeB,aeA,aeC,aeE,aeD,g1,g3,g5,g6,g8,g9,k3,k5,k6,e1,e2,e3,e4,htm,f1,e7,hdec,Int.toNat_natCast,Nat.zero_add,Nat.le_refl,k8,k9,b0,true_or,hC]
       rfl
      ·rfl
     ·rw [show ax []=[] from rfl] at hC
      refine ⟨?hh3,?_,?_⟩
      rotate_left
      ·simp only [aii,go_sem,↓reduceIte,aez,aeB,aeA,aeC,aeE,aeD,g1,g3,g5,g6,g8,g9,k3,k5,k6,e1,e2,e3,e4,htm,f1,e7,hdec,Int.toNat_natCast,Nat.zero_add,Nat.le_refl,k8,k9,b0,true_or,hC]
       rfl
      ·rfl
    ·have hlen:=Aa hins
     have ih2:=ih' (.sl 4 (ax l')) l' (.inl rfl) (xX c vx hins).1 (by omega)
     rw [hins] at hC ⊢
     simp only [Option.bind_some]
     simp only [aqO] at hC
     rcases h8 with rfl | ⟨rfl,rfl⟩
     ·simp only [aii,go_sem,↓reduceIte,aez,aeB,aeA,aeC,aeE,aeD,g1,g3,g5,g6,g8,g9,k3,k5,k6,e1,e2,e3,e4,htm,f1,e7,hdec,Int.toNat_natCast,Nat.zero_add,Nat.le_refl,k8,k9,b0,true_or,hC,e5]
      refine ih2 _ _ ?_ ?_ ?_ ?_ ?_ ?_ ?_ ?_ ?_
      all_goals first | rfl | assumption
     ·rw [show ax []=[] from rfl] at hC
      simp only [aii,go_sem,↓reduceIte,aez,aeB,aeA,aeC,aeE,aeD,g1,g3,g5,g6,g8,g9,k3,k5,k6,e1,e2,e3,e4,htm,f1,e7,hdec,Int.toNat_natCast,Nat.zero_add,Nat.le_refl,k8,k9,b0,true_or,hC,e5]
      refine ih2 _ _ ?_ ?_ ?_ ?_ ?_ ?_ ?_ ?_ ?_
      all_goals first | rfl | assumption
theorem auU {v:Int} {a:Rp} {d:Rd} (od:Ok0 d) {j:Nat} (hj:(j:Int) < v) (hA:∀ t ∈ a.terms,VT v t) (hn:a.terms.length≤100000) (s:af) (h:aa) (X:Option (Ex × St)) (hX:aI 0 [3,6,8] (aU (az R (ab false) aii) [1,3,5,6,8,9] [3,5,6] s h)=X)
  (g1:s 1=I (j:Int)) (g3:s 3=.ref 3 none 0 0 0) (g5:s 5=.ref 5 none 0 0 0) (g6:s 6=.ref 6 none 0 0 0) (g8:s 8=.emp) (g9:s 9=I 0) (k3:h 3=.bx [I a.vars,.sl 4 (ax a.terms)]) (k5:h 5=.bx [B d.neg,lm d.m,I d.e]) (k6:h 6=.bx [I 0,.emp]) :
  auT X (fun x=>upd (upd (upd (fun _=>.any) 8 x) 6 (.ref 6 none 0 0 0)) 3 (.ref 3 none 0 0 0)) a ((aiZ j d a.terms).bind (ej [])):=by
 subst hX
 have h0:=asd od hj hA hn a.terms.length 0 (Nat.zero_add _) .emp [] (.inr ⟨rfl,rfl⟩) (Cl.nil _) (by show 0+_≤_; omega) s h g1 g3 g5 g6 g8 g9 k3 k5 k6
 rw [amY] at h0
 exact h0
theorem amZ {v:Int} {j:Nat} {d:Rd}:∀ {ts r:List Rt},(∀ t ∈ ts,VT v t)→aiZ j d ts=some r→(∀ t ∈ r,VT v t)∧r.length≤ts.length
 | [],r,_,h=>by cases h; exact ⟨fun t h=>(nomatch h),Nat.le_refl _⟩
 | t::ts,r,hv,h=>by
  unfold aiZ at h
  rw [Option.bind_eq_some_iff] at h
  obtain ⟨x,h1,h2⟩:=h
  split at h2
  ·obtain ⟨k1,k2⟩:=amZ (fun q hq=>hv q (by simp [hq])) h2
   exact ⟨k1,by simp; omega⟩
  ·rename_i h0
   rw [Option.map_eq_some_iff] at h2
   obtain ⟨r2,h3,rfl⟩:=h2
   obtain ⟨k1,k2⟩:=amZ (fun q hq=>hv q (by simp [hq])) h3
   refine ⟨fun q hq=>?_,by simp; omega⟩
   rcases List.mem_cons.1 hq with rfl | hq
   ·exact amX (hv t (by simp)) h1 h0
   ·exact k1 q hq
theorem ani {v:Int} {j:Nat} {d:Rd} {ts l:List Rt} (hv:∀ t ∈ ts,VT v t) (h:(aiZ j d ts).bind (ej [])=some l):Cl v l∧l.length≤ts.length:=by
 rw [Option.bind_eq_some_iff] at h
 obtain ⟨r,h1,h2⟩:=h
 obtain ⟨k1,k2⟩:=amZ hv h1
 obtain ⟨k3,k4⟩:=ri (Cl.nil v) k1 h2
 exact ⟨k3,by simp at k4; omega⟩
theorem as1 {a:Rp} {i:Int} {d:Rd} (oa:OkP a) (od:Ok0 d):R F.r23_Fix [bm a,I i,aF d] []=some (pV (amb a i d),[]):=by
 refine aZ aqZ aqY (an6 false) rfl ?_
 have v1:=alg oa
 have v2:=ai5 od
 simp only [bm,aF,aW] at v1 v2
 unfold amb
 cases va:vp a with
 | false =>
  rw [va] at v1
  rw [Bool.false_and,if_neg Bool.false_ne_true]
  simp only [ai1,aj2,bm,aF,aW,go_sem,↓reduceIte,aez,aeB,aeA,aeC,v1]
  rfl
 | true =>
  rw [va] at v1
  cases vdd:vd d with
  | false =>
   rw [vdd] at v2
   rw [Bool.and_false,if_neg Bool.false_ne_true]
   simp only [ai1,aj2,bm,aF,aW,go_sem,↓reduceIte,aez,aeB,aeA,aeC,v1,v2]
   rfl
  | true =>
   rw [vdd] at v2
   rw [Bool.and_self,if_pos rfl]
   obtain ⟨ka,a0,a8,al⟩:=eJ oa va
   by_cases h0:i < 0
   ·have e0:(i < 0)=True:=eq_true h0
    rw [if_pos (.inl h0)]
    simp only [ai1,aj2,bm,aF,aW,go_sem,↓reduceIte,aez,aeB,aeA,aeC,v1,v2,e0]
    rfl
   ·have e0:(i < 0)=False:=eq_false h0
    obtain ⟨j,rfl⟩:=Int.eq_ofNat_of_zero_le (by omega:0≤i)
    by_cases h1:a.vars≤(j:Int)
    ·have e1:(a.vars≤(j:Int))=True:=eq_true h1
     rw [if_pos (.inr h1)]
     simp only [ai1,aj2,bm,aF,aW,go_sem,↓reduceIte,aez,aeB,aeA,aeC,v1,v2,e0,e1]
     rfl
    ·have e1:(a.vars≤(j:Int))=False:=eq_false h1
     rw [if_neg (by omega),Int.toNat_natCast]
     have hl:=auU (v:=a.vars) od (j:=j) (by omega) ka.t (by omega)
     have hsm:=fun l h=>ani (v:=a.vars) (j:=j) (d:=d) (l:=l) ka.t h
     simp only [ai1,aj2,bm,aF,aW,go_sem,↓reduceIte,aez,aeB,aeA,aeC,v1,v2,e0,e1]
     generalize hX:aI 0 _ _=X
     have hM:=hl _ _ _ hX rfl rfl rfl rfl rfl rfl rfl rfl rfl
     generalize (aiZ j d a.terms).bind (ej [])=o at hM hsm ⊢
     cases o with
     | none =>
      obtain ⟨hh,rfl,q6⟩:=hM
      simp only [ie,pV,p0,bm,go_sem,↓reduceIte,aez,aeB,aeA,aeC,q6]
      rfl
     | some l =>
      obtain ⟨hh,x,rfl,q,q3,q6⟩:=hM
      obtain ⟨_,q5⟩:=hsm l rfl
      have hfin:ie a.vars (some l)=(⟨a.vars,l⟩,0):=by
       show (if 500 < l.length then (p0,(5:Int)) else (⟨a.vars,l⟩,0))=_
       rw [if_neg (by omega)]
      rw [hfin]
      rcases q with rfl | ⟨rfl,rfl⟩
      ·simp only [pV,bm,go_sem,↓reduceIte,aez,aeB,aeA,aeC,q3,q6]
      ·simp only [pV,bm,go_sem,↓reduceIte,aez,aeB,aeA,aeC,q3,q6]
       rfl
end Go.Ab
namespace Go.Ab
open Go Go.IntWalk
set_option maxRecDepth 4000
def ae5 (a b:Rd):Rd × Int:=if (vd a && vd b)=true then dU (fB (zI a - zI b) (-16384)) else (fp,1)
theorem agz (a b:Rd):vd (ae5 a b).1=true∧Ok0 (ae5 a b).1:=by
 unfold ae5
 split
 ·exact Cy
 ·exact ⟨rfl,⟨fun x hx=>(nomatch hx),by decide⟩⟩
theorem ag0 {a b:Rd} (vb:vd b=true):ae5 a b=iQ a (ZH b):=by
 obtain ⟨h1,h2⟩:=afT vb
 unfold ae5 iQ
 rw [h1,h2,vb,Int.sub_eq_add_neg]
theorem ase {neg:Bool} {M k:Nat}:zI (bA neg M (-16384+(k:Int)))=fX neg (M*2 ^ k):=by
 by_cases h0:M=0
 ·subst h0
  rw [iL,rf rfl,Nat.zero_mul]
  cases neg <;> rfl
 ·rw [lR h0]
  obtain ⟨t1,t2⟩:=qY h0
  unfold zI mg fX
  rw [bL]
  have hk:(-16384+(k:Int)+((tz M:Nat):Int)+16384).toNat=tz M+k:=by omega
  have hm:M / 2 ^ tz M*2 ^ (-16384+(k:Int)+((tz M:Nat):Int)+16384).toNat=M*2 ^ k:=by
   rw [hk,Nat.pow_add,← Nat.mul_assoc,Nat.mul_comm (M / 2 ^ tz M),← t1]
  show (if neg=true then -((M / 2 ^ tz M*2 ^ (-16384+(k:Int)+((tz M:Nat):Int)+16384).toNat:Nat):Int) else ((M / 2 ^ tz M*2 ^ (-16384+(k:Int)+((tz M:Nat):Int)+16384).toNat:Nat):Int))=_
  rw [hm]
theorem aoJ {neg:Bool} {p:Int} {q:Nat} {e:Int} (h:(ajZ neg true p q e).2=0):ajZ neg true p q e=(bA neg q e,0)∧¬ (q ≠ 0∧16384 < ((am q:Nat):Int)+e):=by
 unfold ajZ at h ⊢
 by_cases hc:q ≠ 0∧16384 < ((am q:Nat):Int)+e
 ·rw [if_pos hc,if_pos rfl] at h
  exact absurd h (show ((9:Int)=0)→False by decide)
 ·rw [if_neg hc]
  exact ⟨rfl,hc⟩
theorem apL {neg:Bool} {p:Int} {q q':Nat} {e:Int} (hq:q≤q') (h:¬ (q' ≠ 0∧16384 < ((am q':Nat):Int)+e)):ajZ neg false p q e=(bA neg q e,0):=by
 unfold ajZ
 rw [if_neg]
 intro hc
 have h1:=L7 hq (Nat.le_refl _)
 exact h ⟨by omega,by omega⟩
structure NearF (d lo hi:Rd) (q q' r k:Nat):Prop where
 hz:mg d=q*2 ^ k+r
 hr:r < 2 ^ k
 hq:q'=if r=0 then q else q+1
 hlo:lo=bA d.neg (if d.neg=true then q' else q) (-16384+(k:Int))
 hhi:hi=bA d.neg (if d.neg=true then q else q') (-16384+(k:Int))
 hw:r ≠ 0→∃ t v:Nat,mg d=v*2 ^ t∧t≤k∧k - t≤am v - 8∧8≤am v∧am v≤4096∧am v+t≤32768
theorem aqT (d:Rd):zI d=fX d.neg (mg d):=rfl
theorem asf {d:Rd} (ok:Ok0 d) (v:vd d=true) {p:Int} (hp:8≤p∧p≤512) (h0:(ZL d p false).2=0) (h1:(ZL d p true).2=0):∃ q q' r k,NearF d (ZL d p false).1 (ZL d p true).1 q q' r k:=by
 have hf:Bw p [d]=0:=by
  unfold Bw
  simp only [List.all_cons,List.all_nil,v,Bool.and_true,if_true]
  rw [if_pos hp]
 have hR:∀ up,ZL d p up=ai4 d.neg (mg d) (-16384) false p up:=fun up=>by
  unfold ZL
  rw [if_pos hf,aqT,← alf hp]
 rw [hR] at h0 h1
 rw [hR,hR]
 unfold ai4 amT at h0 h1 ⊢
 obtain ⟨k,hk⟩:∃ k,ale (mg d) (-16384) p=k:=⟨_,rfl⟩
 rw [hk] at h0 h1 ⊢
 obtain ⟨q',hq'⟩:∃ q',q'=if mg d % 2 ^ k=0 then mg d / 2 ^ k else mg d / 2 ^ k+1:=⟨_,rfl⟩
 have hle:mg d / 2 ^ k≤q':=by
  rw [hq']
  split <;> omega
 have e1:(if ((false || decide (mg d % 2 ^ k ≠ 0)) && true)=true then mg d / 2 ^ k+1 else mg d / 2 ^ k)=q':=by
  rw [hq']
  by_cases hc:mg d % 2 ^ k=0
  ·rw [if_pos hc,if_neg (by simp [hc])]
  ·rw [if_neg hc,if_pos (by simp [hc])]
 have e2:(if ((false || decide (mg d % 2 ^ k ≠ 0)) && false)=true then mg d / 2 ^ k+1 else mg d / 2 ^ k)=mg d / 2 ^ k:=by
  rw [Bool.and_false,if_neg Bool.false_ne_true]
 have hw:mg d % 2 ^ k ≠ 0→∃ t v:Nat,mg d=v*2 ^ t∧t≤k∧k - t≤am v - 8∧8≤am v∧am v≤4096∧am v+t≤32768:=by
  intro hr
  have hm:d.m.length ≠ 0:=fun h=>hr (by
   have:mg d=0:=by
    unfold mg
    rw [List.length_eq_zero_iff.1 h]
    exact Nat.zero_mul _
   rw [this,Nat.zero_mod])
  obtain ⟨g1,g2,g3,g4⟩:=rQ v hm
  obtain ⟨b1,b2,b3,b4⟩:=tM g4 (Nat.pos_iff_ne_zero.1 (kj (iK v hm)))
  have hb:=lO (d.e+16384).toNat (iK v hm)
  have hmg:mg d=ac d.m*2 ^ (d.e+16384).toNat:=rfl
  rw [← hmg] at hb
  unfold ale at hk
  have ht:(d.e+16384).toNat≤k:=Nat.le_of_not_lt fun hlt=>hr (by
   rw [hmg,show (d.e+16384).toNat=k+((d.e+16384).toNat - k) by omega,Nat.pow_add,← Nat.mul_assoc,Nat.mul_right_comm]
   exact Nat.mul_mod_left _ _)
  have hk1:k ≠ 0:=fun h=>hr (by rw [h,Nat.pow_zero,Nat.mod_one])
  refine ⟨(d.e+16384).toNat,ac d.m,rfl,ht,?_,?_,b1,?_⟩ <;> omega
 refine ⟨mg d / 2 ^ k,q',mg d % 2 ^ k,k,?_,Nat.mod_lt _ (Nat.two_pow_pos _),hq',?_,?_,hw⟩
 ·rw [Nat.mul_comm]
  exact (Nat.div_add_mod _ _).symm
 all_goals
  cases hn:d.neg with
  | false =>
   rw [hn] at h0 h1
   simp only [bne_self_eq_false,Bool.false_bne,e1,e2] at h0 h1 ⊢
   obtain ⟨k1,k2⟩:=aoJ h1
   first
   | (rw [apL hle k2]; rfl)
   | (rw [k1]; rfl)
  | true =>
   rw [hn] at h0 h1
   simp only [bne_self_eq_false,Bool.bne_false,e1,e2] at h0 h1 ⊢
   obtain ⟨k1,k2⟩:=aoJ h0
   first
   | (rw [apL hle k2]; rfl)
   | (rw [k1]; rfl)
theorem aoK {v t k x:Nat} {n:Bool} (h1:k - t≤am v - 8) (h2:8≤am v) (h3:am v≤4096) (h4:am v+t≤32768) (hx:x≤2 ^ (k - t)):(dU (fB (fX n (x*2 ^ t)) (-16384))).2=0:=by
 have hb:am x≤k - t+1:=cX.2 (Nat.lt_of_le_of_lt hx (Nat.pow_lt_pow_right (by decide) (by omega)))
 rw [← tP,oP,Ou (by omega) (by omega) (by omega)]
def aoL (lo hi:Rd):Rd:=if hi.m.length=0∨(lo.m.length ≠ 0∧lo.e < hi.e) then hi else lo
def akU (z:Int) (lo hi:Rd):Rd:=if z - zI lo < zI hi - z then lo else if zI hi - z < z - zI lo then hi else aoL lo hi
def aiA (d:Rd) (p:Int):Rd × Int:=if (ZL d p false).2=0 then (if (ZL d p true).2=0 then (akU (zI d) (ZL d p false).1 (ZL d p true).1,0) else (fp,(ZL d p true).2)) else (fp,(ZL d p false).2)
structure NearOk (d lo hi:Rd):Prop where
 below:(ae5 d lo).2=0
 above:(ae5 hi d).2=0
 tie:zI lo ≠ zI hi→zI d - zI lo=zI hi - zI d→lo.m.length ≠ 0→hi.m.length ≠ 0→lo.e ≠ hi.e
 le:zI lo≤zI d∧zI d≤zI hi
theorem anj {neg:Bool} {M:Nat} {e:Int} (h:(bA neg M e).m.length ≠ 0):M ≠ 0∧(bA neg M e).e=e+tz M:=by
 by_cases h0:M=0
 ·subst h0
  rw [iL] at h
  exact absurd rfl h
 ·exact ⟨h0,by rw [lR h0]⟩
theorem apM {q:Nat} (h:q ≠ 0):tz q ≠ tz (q+1):=by
 have hs:∀ {n:Nat},n ≠ 0→tz n=0→n % 2=1:=fun {n} h0 h1=>by
  have:=(qY h0).2
  rw [h1,Nat.pow_zero,Nat.div_one] at this
  exact this
 intro he
 rcases Nat.mod_two_eq_zero_or_one q with h1 | h1
 ·have h2:=wV (n:=q+1) (by omega)
  have:=hs h (by omega)
  omega
 ·have h2:=wV h1
  have:=hs (n:=q+1) (by omega) (by omega)
  omega
theorem apN {d:Rd} (ok:Ok0 d) (v:vd d=true) {p:Int} (hp:8≤p∧p≤512) (h0:(ZL d p false).2=0) (h1:(ZL d p true).2=0):NearOk d (ZL d p false).1 (ZL d p true).1:=by
 obtain ⟨q,q',r,k,Fm⟩:=asf ok v hp h0 h1
 have vlo:vd (ZL d p false).1=true:=by
  unfold ZL
  split
  ·exact amv.1
  ·rfl
 have vhi:vd (ZL d p true).1=true:=by
  unfold ZL
  split
  ·exact amv.1
  ·rfl
 generalize (ZL d p false).1=lo at *
 generalize (ZL d p true).1=hi at *
 have zlo:zI lo=fX d.neg ((if d.neg=true then q' else q)*2 ^ k):=by rw [Fm.hlo,ase]
 have zhi:zI hi=fX d.neg ((if d.neg=true then q else q')*2 ^ k):=by rw [Fm.hhi,ase]
 have zd:=aqT d
 have hz:=Fm.hz
 have hr:=Fm.hr
 have hq:=Fm.hq
 have hs1:ae5 d lo=dU (fB (zI d - zI lo) (-16384)):=by
  unfold ae5
  rw [v,vlo,Bool.and_self,if_pos rfl]
 have hs2:ae5 hi d=dU (fB (zI hi - zI d) (-16384)):=by
  unfold ae5
  rw [v,vhi,Bool.and_self,if_pos rfl]
 by_cases r0:r=0
 ·rw [if_pos r0] at hq
  rw [hq,ite_self,← hq] at zlo zhi
  have e0:zI d=zI lo:=by rw [zd,zlo,hz,r0,hq,Nat.add_zero]
  have e1:zI d=zI hi:=by rw [zd,zhi,hz,r0,hq,Nat.add_zero]
  have h00:(dU (fB 0 (-16384))).2=0:=by rw [show fB 0 (-16384)=fp from iL]; rfl
  refine ⟨?_,?_,fun h=>absurd (e0.symm.trans e1) h,by omega⟩
  ·rw [hs1,e0,Int.sub_self]
   exact h00
  ·rw [hs2,e1,Int.sub_self]
   exact h00
 ·rw [if_neg r0] at hq
  obtain ⟨t,w,w1,w2,w3,w4,w5,w6⟩:=Fm.hw r0
  have hp2:(2:Nat) ^ k=2 ^ (k - t)*2 ^ t:=by rw [← Nat.pow_add,show k - t+t=k by omega]
  have hrr:r=(w - q*2 ^ (k - t))*2 ^ t:=by
   rw [Nat.sub_mul,Nat.mul_assoc,← hp2]
   omega
  obtain ⟨x,hx⟩:∃ x,w - q*2 ^ (k - t)=x:=⟨_,rfl⟩
  rw [hx] at hrr
  have hxl:x < 2 ^ (k - t):=by
   rw [hrr,hp2] at hr
   exact Nat.lt_of_mul_lt_mul_right hr
  have f1:∀ n,(dU (fB (fX n r) (-16384))).2=0:=fun n=>by
   rw [hrr]
   exact aoK w3 w4 w5 w6 (Nat.le_of_lt hxl)
  have f2:∀ n,(dU (fB (fX n (2 ^ k - r)) (-16384))).2=0:=fun n=>by
   rw [hrr,hp2,← Nat.sub_mul]
   exact aoK w3 w4 w5 w6 (Nat.sub_le _ _)
  have hq2:q'*2 ^ k=q*2 ^ k+2 ^ k:=by rw [hq,Nat.add_mul,Nat.one_mul]
  have htie:lo.m.length ≠ 0→hi.m.length ≠ 0→lo.e ≠ hi.e:=by
   intro m1 m2
   rw [Fm.hlo] at m1 ⊢
   rw [Fm.hhi] at m2 ⊢
   obtain ⟨a1,a2⟩:=anj m1
   obtain ⟨b1,b2⟩:=anj m2
   rw [a2,b2]
   cases hn:d.neg with
   | false =>
    rw [hn] at a1 b1
    simp only [Bool.false_eq_true,if_false] at a1 b1 ⊢
    have:=apM a1
    rw [hq]
    omega
   | true =>
    rw [hn] at a1 b1
    simp only [if_true] at a1 b1 ⊢
    have:=apM b1
    rw [hq]
    omega
  generalize 2 ^ k=K at *
  refine ⟨?_,?_,fun _ _=>htie,?_⟩
  ·rw [hs1]
   cases hn:d.neg with
   | false =>
    rw [hn] at zd zlo
    simp only [Bool.false_eq_true,if_false,jf] at zd zlo
    have:zI d - zI lo=fX false r:=by rw [jf]; omega
    rw [this]
    exact f1 _
   | true =>
    rw [hn] at zd zlo
    simp only [if_true,je] at zd zlo
    have:zI d - zI lo=fX false (K - r):=by rw [jf]; omega
    rw [this]
    exact f2 _
  ·rw [hs2]
   cases hn:d.neg with
   | false =>
    rw [hn] at zd zhi
    simp only [Bool.false_eq_true,if_false,jf] at zd zhi
    have:zI hi - zI d=fX false (K - r):=by rw [jf]; omega
    rw [this]
    exact f2 _
   | true =>
    rw [hn] at zd zhi
    simp only [if_true,je] at zd zhi
    have:zI hi - zI d=fX false r:=by rw [jf]; omega
    rw [this]
    exact f1 _
  ·cases hn:d.neg with
   | false =>
    rw [hn] at zd zlo zhi
    simp only [Bool.false_eq_true,if_false,jf] at zd zlo zhi
    omega
   | true =>
    rw [hn] at zd zlo zhi
    simp only [if_true,je] at zd zlo zhi
    omega
end Go.Ab
namespace Go.Ab
open Go Go.IntWalk
set_option maxRecDepth 4000
set_option maxHeartbeats 2000000
theorem ahn {a b:Rd} (oa:Ok0 a) (ob:Ok0 b):R F.dyadic_Sub [aF a,aF b] []=some (rV (ae5 a b),[]):=by
 refine aZ af7 af6 (afI false) rfl ?_
 have v1:=kl oa
 have v2:=kl ob
 simp only [aF,aW] at v1 v2
 unfold ae5
 cases va:vd a with
 | false =>
  rw [va] at v1
  rw [Bool.false_and,if_neg Bool.false_ne_true]
  simp only [ad6,ae3,rV,fp,aF,aW,go_sem,↓reduceIte,aez,aeB,aeA,aeC,v1]
 | true =>
  rw [va] at v1
  cases vb:vd b with
  | false =>
   rw [vb] at v2
   rw [Bool.and_false,if_neg Bool.false_ne_true]
   simp only [ad6,ae3,rV,fp,aF,aW,go_sem,↓reduceIte,aez,aeB,aeA,aeC,v1,v2]
  | true =>
   rw [vb] at v2
   obtain ⟨z1,z2⟩:=afT vb
   have hn:R F.dyadic_Neg [aF b] []=some (aF (ZH b),[]):=agR ob
   have hs:=QK oa (ahm ob) va z2
   rw [z1,← Int.sub_eq_add_neg] at hs
   rw [Bool.and_self,if_pos rfl]
   generalize ZH b=c at hn hs
   generalize dU (fB (zI a - zI b) (-16384))=r at hs ⊢
   simp only [rV,aF,aW] at hn hs
   simp only [ad6,ae3,rV,aF,aW,go_sem,↓reduceIte,aez,aeB,aeA,aeC,aeE,aeD,v1,v2,hn,hs]
theorem apO {d:Rd} {p:Int} {up:Bool} (h:(ZL d p up).2=0):vd d=true∧(8≤p∧p≤512):=by
 unfold ZL at h
 by_cases hf:Bw p [d]=0
 ·unfold Bw at hf
  simp only [List.all_cons,List.all_nil,Bool.and_true] at hf
  cases hv:vd d with
  | false=>rw [hv,if_neg Bool.false_ne_true] at hf; exact absurd hf (by decide)
  | true =>
   refine ⟨rfl,?_⟩
   rw [hv,if_pos rfl] at hf
   exact Classical.byContradiction fun hc=>by rw [if_neg hc] at hf; exact absurd hf (by decide)
 ·rw [if_neg hf] at h
  exact absurd h hf
theorem aho {a b:Rd} (vb:vd b=true) (h:(ae5 a b).2=0):zI (ae5 a b).1=zI a - zI b:=by
 rw [ag0 vb] at h ⊢
 rw [QJ h,(afT vb).1,← Int.sub_eq_add_neg]
theorem atU {d:Rd} (ok:Ok0 d) {p:Int}:R F.round_Near [aF d,I p] []=some (rV (aiA d p),[]):=by
 refine aZ aoc aob (amo false) rfl ?_
 have hd:=arM ok (p:=p)
 have hu:=atF ok (p:=p)
 unfold aiA
 by_cases h0:(ZL d p false).2=0
 ·rw [if_pos h0]
  obtain ⟨v,hp⟩:=apO h0
  have vl:=aj5 (d:=d) (p:=p) (up:=false)
  have ol:=aj4 (d:=d) (p:=p) (up:=false)
  by_cases h1:(ZL d p true).2=0
  ·rw [if_pos h1]
   have vh:=aj5 (d:=d) (p:=p) (up:=true)
   have oh:=aj4 (d:=d) (p:=p) (up:=true)
   have hk:=apN ok v hp h0 h1
   generalize ZL d p false=lo at *
   generalize ZL d p true=hi at *
   obtain ⟨lo,el⟩:=lo
   obtain ⟨hi,eh⟩:=hi
   have h0':el=0:=h0
   have h1':eh=0:=h1
   subst h0'
   subst h1'
   have s1:=ahn ok ol
   have s2:=ahn oh ok
   have c:=QA (agz d lo).2 (agz hi d).2
   rw [if_pos ⟨(agz d lo).1,(agz hi d).1⟩,aho vl hk.below,aho v hk.above] at c
   show _=some (rV (akU (zI d) lo hi,0),[])
   unfold akU
   generalize ae5 d lo=x at s1 c
   generalize ae5 hi d=y at s2 c
   simp only [rV,aF,aW] at hd hu s1 s2 c
   rcases iM (zI d - zI lo) (zI hi - zI d) with ⟨g,e⟩ | ⟨g,e⟩ | ⟨g,e⟩
   ·rw [e] at c
    rw [if_pos g]
    simp only [ah9,ain,rV,aF,aW,go_sem,↓reduceIte,aez,aeB,aeA,aeC,axg,hd,hu,s1,s2,c]
   ·rw [e] at c
    rw [if_neg (by omega),if_neg (by omega)]
    unfold aoL
    by_cases m1:hi.m.length=0
    ·have e1:((hi.m.length:Int)=0)=True:=tt (by omega)
     rw [if_pos (.inl m1)]
     simp only [ah9,ain,rV,aF,aW,go_sem,↓reduceIte,aez,aeB,aeA,aeC,axg,hd,hu,s1,s2,c,e1]
    ·have e1:((hi.m.length:Int)=0)=False:=ff (by omega)
     by_cases m2:lo.m.length=0
     ·have e2:(0 < (lo.m.length:Int))=False:=ff (by omega)
      rw [if_neg (by omega)]
      simp only [ah9,ain,rV,aF,aW,go_sem,↓reduceIte,aez,aeB,aeA,aeC,axg,hd,hu,s1,s2,c,e1,e2]
     ·have e2:(0 < (lo.m.length:Int))=True:=tt (by omega)
      by_cases m3:lo.e < hi.e
      ·have e3:(lo.e < hi.e)=True:=eq_true m3
       rw [if_pos (.inr ⟨m2,m3⟩)]
       simp only [ah9,ain,rV,aF,aW,go_sem,↓reduceIte,aez,aeB,aeA,aeC,axg,hd,hu,s1,s2,c,e1,e2,e3]
      ·have e3:(lo.e < hi.e)=False:=eq_false m3
       rw [if_neg (by omega)]
       simp only [ah9,ain,rV,aF,aW,go_sem,↓reduceIte,aez,aeB,aeA,aeC,axg,hd,hu,s1,s2,c,e1,e2,e3]
   ·rw [e] at c
    rw [if_neg (by omega),if_pos (by omega)]
    simp only [ah9,ain,rV,aF,aW,go_sem,↓reduceIte,aez,aeB,aeA,aeC,axg,hd,hu,s1,s2,c]
  ·rw [if_neg h1]
   generalize ZL d p false=lo at *
   generalize ZL d p true=hi at *
   have e1:(hi.2=0)=False:=eq_false h1
   have e0:(lo.2=0)=True:=eq_true h0
   simp only [rV,aF,aW] at hd hu
   simp only [ah9,ain,rV,fp,aF,aW,go_sem,↓reduceIte,aez,aeB,aeA,aeC,hd,hu,e0,e1]
 ·rw [if_neg h0]
  generalize ZL d p false=lo at *
  have e0:(lo.2=0)=False:=eq_false h0
  simp only [rV,aF,aW] at hd
  simp only [ah9,ain,rV,fp,aF,aW,go_sem,↓reduceIte,aez,aeB,aeA,aeC,hd,e0]
theorem aoM {d:Rd} {p:Int} {up:Bool} (h:(ZL d p up).2 ≠ 0):(ZL d p up).1=fp:=by
 unfold ZL at h ⊢
 split
 ·rename_i hf
  rw [if_pos hf] at h
  have hR:X6 (zI d) (-16384) p up=ai4 d.neg (mg d) (-16384) false p up:=by
   rw [aqT,alf]
   unfold Bw at hf
   exact Classical.byContradiction fun hc=>by
    split at hf
    ·exact absurd hf (by decide)
    ·exact absurd hf (by decide)
  rw [hR] at h ⊢
  unfold ai4 ajZ at h ⊢
  split
  ·rename_i h2
   rw [if_pos h2] at h
   split
   ·rfl
   ·rename_i h3
    rw [if_neg h3] at h
    exact absurd rfl h
  ·rename_i h2
   rw [if_neg h2] at h
   exact absurd rfl h
 ·rfl
theorem asg {d lo hi:Rd} (ol:Ok0 lo) (oh:Ok0 hi) (vl:vd lo=true) (vh:vd hi=true) (h:zI lo=zI hi):akU (zI d) lo hi=hi:=by
 have:=Mf ol oh vl vh h
 subst this
 unfold akU aoL
 split
 ·rfl
 ·split
  ·rfl
  ·split <;> rfl
theorem as2 {d:Rd} (ok:Ok0 d) {p:Int}:R F.r03_Near [aF d,I p] []=some (rV (aiA d p),[]):=by
 refine aZ apX apW (anp false) rfl ?_
 have hd:=anf ok (p:=p) (up:=false)
 have hu:=anf ok (p:=p) (up:=true)
 unfold aiA
 by_cases h0:(ZL d p false).2=0
 ·rw [if_pos h0]
  obtain ⟨v,hp⟩:=apO h0
  have vl:=aj5 (d:=d) (p:=p) (up:=false)
  have ol:=aj4 (d:=d) (p:=p) (up:=false)
  by_cases h1:(ZL d p true).2=0
  ·rw [if_pos h1]
   have vh:=aj5 (d:=d) (p:=p) (up:=true)
   have oh:=aj4 (d:=d) (p:=p) (up:=true)
   have hk:=apN ok v hp h0 h1
   generalize ZL d p false=lo at *
   generalize ZL d p true=hi at *
   obtain ⟨lo,el⟩:=lo
   obtain ⟨hi,eh⟩:=hi
   have h0':el=0:=h0
   have h1':eh=0:=h1
   subst h0'
   subst h1'
   have cc:=atM ol oh vl vh
   simp only [rV,aF,aW] at hd hu cc
   by_cases hz:zI lo=zI hi
   ·rw [asg ol oh vl vh hz]
    rw [hz,show cq (zI hi) (zI hi)=0 by unfold cq; simp] at cc
    simp only [aif,aix,rV,aF,aW,go_sem,↓reduceIte,aez,aeB,aeA,aeC,hd,hu,cc]
   ·have hc0:(cq (zI lo) (zI hi)=0)=False:=eq_false (by unfold cq; split <;> (try split) <;> omega)
    have n1:=ak4 (d:=lo)
    have n2:=ak4 (d:=d)
    rw [ak5 vl] at n1
    rw [ak5 v] at n2
    obtain ⟨za,va⟩:=afT vl
    obtain ⟨zb,vb⟩:=afT v
    have s1:=ak6 ok (ahm ol) v va
    have s2:=ak6 oh (ahm ok) vh vb
    rw [za,← Int.sub_eq_add_neg] at s1
    rw [zb,← Int.sub_eq_add_neg] at s2
    have x1:fB (zI d - zI lo) (-16384)=(ae5 d lo).1:=by
     have hb:=hk.below
     unfold ae5 at hb ⊢
     rw [v,vl,Bool.and_self,if_pos rfl] at hb ⊢
     unfold dU at hb ⊢
     split
     ·rfl
     ·rename_i hc
      rw [if_neg hc] at hb
      exact absurd hb (by decide)
    have x2:fB (zI hi - zI d) (-16384)=(ae5 hi d).1:=by
     have hb:=hk.above
     unfold ae5 at hb ⊢
     rw [v,vh,Bool.and_self,if_pos rfl] at hb ⊢
     unfold dU at hb ⊢
     split
     ·rfl
     ·rename_i hc
      rw [if_neg hc] at hb
      exact absurd hb (by decide)
    rw [x1] at s1
    rw [x2] at s2
    obtain ⟨vx,ox⟩:=agz d lo
    obtain ⟨vy,oy⟩:=agz hi d
    have zx:=aho vl hk.below
    have zy:=aho v hk.above
    generalize (ae5 d lo).1=x at *
    generalize (ae5 hi d).1=y at *
    have n3:=ak4 (d:=y)
    rw [ak5 vy] at n3
    obtain ⟨zc,vc⟩:=afT vy
    have s3:=ak6 ox (ahm oy) vx vc
    rw [zc,zx,zy,← Int.sub_eq_add_neg] at s3
    show _=some (rV (akU (zI d) lo hi,0),[])
    unfold akU
    generalize ZH lo=nl at *
    generalize ZH d=nd at *
    generalize ZH y=ny at *
    have hS:∀ z:Int,(z < 0∧(fB z (-16384)).m.length ≠ 0∧(fB z (-16384)).neg=true)∨(z=0∧(fB z (-16384)).m.length=0)∨(0 < z∧(fB z (-16384)).m.length ≠ 0∧(fB z (-16384)).neg=false):=fun z=>by
     have hl:z.natAbs ≠ 0→(fB z (-16384)).m.length ≠ 0:=fun h h2=>by
      obtain ⟨g1,_,g3,_⟩:=nD (neg:=decide (z < 0)) (e:=-16384) h
      have:(bA (decide (z < 0)) z.natAbs (-16384)).m=[]:=List.length_eq_zero_iff.1 h2
      rw [this] at g1
      have:ac []=0:=rfl
      omega
     have hn:z.natAbs ≠ 0→(fB z (-16384)).neg=decide (z < 0):=fun h=>by
      unfold fB
      rw [lR h]
     by_cases h1:z < 0
     ·exact .inl ⟨h1,hl (by omega),by rw [hn (by omega),decide_eq_true h1]⟩
     ·by_cases h2:z=0
      ·subst h2
       exact .inr (.inl ⟨rfl,by rw [show fB 0 (-16384)=fp from iL]; rfl⟩)
      ·exact .inr (.inr ⟨by omega,hl (by omega),by rw [hn (by omega),decide_eq_false h1]⟩)
    have hS':=hS (zI d - zI lo - (zI hi - zI d))
    generalize fB (zI d - zI lo - (zI hi - zI d)) (-16384)=s at s3 hS'
    simp only [aF,aW] at n1 n2 n3 s1 s2 s3
    rcases hS' with ⟨g,gm,gn⟩ | ⟨g,gm⟩ | ⟨g,gm,gn⟩
    ·have e1:(0 < (s.m.length:Int))=True:=tt (by omega)
     rw [if_pos (by omega)]
     simp only [aif,aix,rV,aF,aW,go_sem,↓reduceIte,aez,aeB,aeA,aeC,aeE,aeD,hd,hu,cc,hc0,n1,n2,n3,s1,s2,s3,e1,gn]
    ·have e1:(0 < (s.m.length:Int))=False:=ff (by omega)
     have ht:lo.m.length ≠ 0→hi.m.length ≠ 0→lo.e ≠ hi.e:=hk.tie hz (show zI d - zI lo=zI hi - zI d by omega)
     rw [if_neg (by omega),if_neg (by omega)]
     unfold aoL
     by_cases m1:lo.m.length=0
     ·have f1:((lo.m.length:Int)=0)=True:=tt (by omega)
      have m2:hi.m.length ≠ 0:=fun h=>hz (by rw [rf m1,rf h])
      rw [if_neg (by omega)]
      simp only [aif,aix,rV,aF,aW,go_sem,↓reduceIte,aez,aeB,aeA,aeC,aeE,aeD,hd,hu,cc,hc0,n1,n2,n3,s1,s2,s3,e1,f1]
     ·have f1:((lo.m.length:Int)=0)=False:=ff (by omega)
      by_cases m2:hi.m.length=0
      ·have f2:(0 < (hi.m.length:Int))=False:=ff (by omega)
       rw [if_pos (.inl m2)]
       simp only [aif,aix,rV,aF,aW,go_sem,↓reduceIte,aez,aeB,aeA,aeC,aeE,aeD,hd,hu,cc,hc0,n1,n2,n3,s1,s2,s3,e1,f1,f2]
      ·have f2:(0 < (hi.m.length:Int))=True:=tt (by omega)
       have he:=ht m1 m2
       by_cases m3:hi.e < lo.e
       ·have f3:(hi.e < lo.e)=True:=eq_true m3
        rw [if_neg (by omega)]
        simp only [aif,aix,rV,aF,aW,go_sem,↓reduceIte,aez,aeB,aeA,aeC,aeE,aeD,hd,hu,cc,hc0,n1,n2,n3,s1,s2,s3,e1,f1,f2,f3]
       ·have f3:(hi.e < lo.e)=False:=eq_false m3
        rw [if_pos (.inr ⟨m1,by omega⟩)]
        simp only [aif,aix,rV,aF,aW,go_sem,↓reduceIte,aez,aeB,aeA,aeC,aeE,aeD,hd,hu,cc,hc0,n1,n2,n3,s1,s2,s3,e1,f1,f2,f3]
    ·have e1:(0 < (s.m.length:Int))=True:=tt (by omega)
     rw [if_neg (by omega),if_pos (by omega)]
     simp only [aif,aix,rV,aF,aW,go_sem,↓reduceIte,aez,aeB,aeA,aeC,aeE,aeD,hd,hu,cc,hc0,n1,n2,n3,s1,s2,s3,e1,gn]
  ·rw [if_neg h1]
   have he:=aoM h1
   generalize ZL d p false=lo at *
   generalize ZL d p true=hi at *
   obtain ⟨hi,eh⟩:=hi
   have he':hi=fp:=he
   subst he'
   have e1:(eh=0)=False:=eq_false h1
   have e0:(lo.2=0)=True:=eq_true h0
   simp only [rV,fp,aF,aW] at hd hu
   simp only [aif,aix,rV,fp,aF,aW,go_sem,↓reduceIte,aez,aeB,aeA,aeC,hd,hu,e0,e1]
 ·rw [if_neg h0]
  have he:=aoM h0
  generalize ZL d p false=lo at *
  obtain ⟨lo,el⟩:=lo
  have he':lo=fp:=he
  subst he'
  have e0:(el=0)=False:=eq_false h0
  simp only [rV,fp,aF,aW] at hd
  simp only [aif,aix,rV,fp,aF,aW,go_sem,↓reduceIte,aez,aeB,aeA,aeC,hd,e0]
end Go.Ab
namespace Go.Ab
open Go Go.IntWalk
set_option maxRecDepth 4000
set_option maxHeartbeats 8000000
theorem alk (d:Rd) (p:Int):vd (aiA d p).1=true∧Ok0 (aiA d p).1:=by
 unfold aiA
 split
 ·split
  ·unfold akU aoL
   show vd (ite _ _ _)=true∧Ok0 (ite _ _ _)
   split
   ·exact ⟨aj5,aj4⟩
   ·split
    ·exact ⟨aj5,aj4⟩
    ·split
     ·exact ⟨aj5,aj4⟩
     ·exact ⟨aj5,aj4⟩
  ·exact He
 ·exact He
def vw (x:List Int) (c:Rd) (l:List Rt):List Rt:=if c.m.length=0 then l else ⟨x,c⟩::l
def aj1 (p:Int):List Rt→Option (List Rt × List Rt)
 | []=>some ([],[])
 | t::ts=>if (aiA t.c p).2=0 then (if (ae5 t.c (aiA t.c p).1).2=0 then (aj1 p ts).map fun q=>(vw t.exps (aiA t.c p).1 q.1,vw t.exps (ae5 t.c (aiA t.c p).1).1 q.2) else none) else none
def ajT (a:Rp) (p:Int):(Rp × Rp) × Int:=if vp a=true then (if p < 8∨512 < p then ((p0,p0),2) else match aj1 p a.terms with
 | none=>((p0,p0),9)
 | some q=>((⟨a.vars,q.1⟩,⟨a.vars,q.2⟩),0)) else ((p0,p0),1)
def prV (r:(Rp × Rp) × Int):AV:=.tup [bm r.1.1,bm r.1.2,I r.2]
def am0 (blk:Option (Ex × St)) (i1 i2:Nat) (S:af) (v':Int) (l1 l2:List Rt):Option (List Rt × List Rt)→Prop
 | some q=>akO blk i1 i2 S v' l1 l2 q.1 q.2
 | none=>∃ hh,blk=some (.ret,⟨upd (upd (upd (fun _=>.any) 6 (I 9)) 5 (.ref 5 none 0 0 0)) 4 (.ref 4 none 0 0 0),hh⟩)∧hh 4=.bx [I 0,.emp]∧hh 5=.bx [I 0,.emp]
theorem akV {x:List Int} {c:Rd} {l r:List Rt}:l++vw x c []++r=l++vw x c r:=by
 unfold vw
 split
 ·rw [List.append_nil]
 ·rw [List.append_assoc]
  rfl
theorem am0.step {blk:Option (Ex × St)} {i1 i2:Nat} {S:af} {v':Int} {l1 l2:List Rt} {x:List Int} {c d:Rd}:∀ {o:Option (List Rt × List Rt)},am0 blk i1 i2 S v' (l1++vw x c []) (l2++vw x d []) o→am0 blk i1 i2 S v' l1 l2 (o.map fun q=>(vw x c q.1,vw x d q.2)):=by
 intro o h
 cases o with
 | none=>exact h
 | some q =>
  obtain ⟨hh,c1,c2,h1,h2,h3,h4,h5,h6,h7⟩:=h
  exact ⟨hh,c1,c2,h1,h2,h3,h4,h5,by rwa [akV] at h6,by rwa [akV] at h7⟩
theorem VT.put {v:Int} {t:Rt} {d:Rd} (h:VT v t) (od:Ok0 d) (vdd:vd d=true) (nd:d.m.length ≠ 0):VT v ⟨t.exps,d⟩:=⟨od,h.len,h.v8,vdd,nd,h.b,h.d⟩
theorem as3 {v v' p:Int} {A:List Rt} (hA:Cl v A) (hn:A.length≤100000) {o2:Ob} (k2c:∀ ids,aB ids o2=true) :
  ∀ (k i:Nat),i+k=A.length→∀ (c1 c2:AV) (l1 l2:List Rt),nS c1 l1→nS c2 l2→Bf v l1 (A.drop i)→Bf v l2 (A.drop i)→l1.length+k≤1000000→l2.length+k≤1000000→∀ (s:af) (h:aa),s 1=I p→s 4=.ref 4 none 0 0 0→s 5=.ref 5 none 0 0 0→s 7=.ref 2248 none 0 0 0→s 8=.ref 2272 none 0 0 0→s 36=.sl 4 (ax A)→s 37=I A.length→s 38=I i→h 2=o2→h 4=.bx [I 0,.emp]→h 5=.bx [I 0,.emp]→h 2248=t3 v' c1 0→h 2272=t3 v' c2 0 →
  am0 (aI 1 [4,5,7,8] (aU (az R (ab false) ahK) [1,4,5,7,8,36,37,38] [2,4,5,2248,2272] s h)) 2248 2272 (upd (upd (upd (upd (fun _=>.any) 8 (.ref 2272 none 0 0 0)) 7 (.ref 2248 none 0 0 0)) 5 (.ref 5 none 0 0 0)) 4 (.ref 4 none 0 0 0)) v' l1 l2 (aj1 p (A.drop i)):=by
 intro k
 induction k with
 | zero =>
  intro i hi c1 c2 l1 l2 hc1 hc2 _ _ _ _ s h g1 g4 g5 g7 g8 g36 g37 g38 k2 k4 k5 k2248 k2272
  have e1:((i:Int) < (A.length:Int))=False:=ff (by omega)
  have ho1:=(ko (v:=v') (e:=0) hc1).cl [2,4,5,2248,2272]
  have ho2:=(ko (v:=v') (e:=0) hc2).cl [2,4,5,2248,2272]
  have ho3:=k2c [2,4,5,2248,2272]
  rw [List.drop_eq_nil_of_le (by omega),aA]
  refine ⟨?hh0,c1,c2,?_,?_,?_,?_,?_,by simpa using hc1,by simpa using hc2⟩
  rotate_left
  ·simp only [ahK,go_sem,↓reduceIte,aez,aeD,g1,g4,g5,g7,g8,g36,g37,g38,k2,k4,k5,k2248,k2272,ho1,ho2,ho3,e1]
   rfl
  ·rfl
  ·rfl
  ·rfl
  ·rfl
 | succ k ih =>
  intro i hi c1 c2 l1 l2 hc1 hc2 b1 b2 hl1 hl2 s h g1 g4 g5 g7 g8 g36 g37 g38 k2 k4 k5 k2248 k2272
  have hlt:i < A.length:=by omega
  have e1:((i:Int) < (A.length:Int))=True:=tt (by omega)
  have e2:bH (ax A) (i:Int)=some (.ipt (bv A[i])):=jx rfl (List.getElem?_eq_getElem hlt)
  have e5:IntKind.i64.wrap ((i:Int)+1)=((i+1:Nat):Int):=wi (by omega) (by omega)
  have ho1:=(ko (v:=v') (e:=0) hc1).cl [2,4,5,2248,2272]
  have ho2:=(ko (v:=v') (e:=0) hc2).cl [2,4,5,2248,2272]
  have ho3:=k2c [2,4,5,2248,2272]
  have hAd:=hA.dropN i
  rw [List.drop_eq_getElem_cons hlt] at b1 b2 hAd ⊢
  have ih':=ih (i+1) (by omega)
  have vt:=hAd.head
  have hrow:∀ q ts,aj1 p (q::ts)=if (aiA q.c p).2=0 then (if (ae5 q.c (aiA q.c p).1).2=0 then (aj1 p ts).map fun x=>(vw q.exps (aiA q.c p).1 x.1,vw q.exps (ae5 q.c (aiA q.c p).1).1 x.2) else none) else none:=fun q ts=>rfl
  rw [hrow]
  generalize A[i]=t at e2 vt b1 b2 hAd ⊢
  have hnr:=atU vt.c (p:=p)
  obtain ⟨vm,om⟩:=alk t.c p
  rw [aA]
  generalize aU _ _ _=L at ih' ⊢
  generalize aiA t.c p=m at hnr vm om ⊢
  obtain ⟨m,em⟩:=m
  have hsb:=ahn vt.c om
  obtain ⟨vq,oq⟩:=agz t.c m
  simp only at hsb vq oq
  generalize ae5 t.c m=q at hsb vq oq ⊢
  obtain ⟨q,eq⟩:=q
  simp only [bv] at e2
  simp only [rV,aF,aW] at hnr hsb
  by_cases hm:em=0
  ·subst hm
   rw [if_pos rfl]
   by_cases hq:eq=0
   ·subst hq
    rw [if_pos rfl]
    refine am0.step ?_
    simp only at vm om vq oq
    by_cases zm:m.m.length=0
    ·have f1:(0 < (m.m.length:Int))=False:=ff (by omega)
     have x1:l1++vw t.exps m []=l1:=by unfold vw; rw [if_pos zm,List.append_nil]
     simp only [x1]
     by_cases zq:q.m.length=0
     ·have f2:(0 < (q.m.length:Int))=False:=ff (by omega)
      have x2:l2++vw t.exps q []=l2:=by unfold vw; rw [if_pos zq,List.append_nil]
      simp only [x2]
      have ih2:=ih' c1 c2 l1 l2 hc1 hc2 b1.drop b2.drop (by omega) (by omega)
      simp only [ahK,go_sem,↓reduceIte,aez,aeB,aeA,aeC,aeD,g1,g4,g5,g7,g8,g36,g37,g38,k2,k4,k5,k2248,k2272,ho1,ho2,ho3,e1,e2,hnr,hsb,f1,f2,e5]
      refine ih2 _ _ ?_ ?_ ?_ ?_ ?_ ?_ ?_ ?_ ?_ ?_ ?_ ?_ ?_
      all_goals first | rfl | assumption
     ·have f2:(0 < (q.m.length:Int))=True:=tt (by omega)
      have x2:l2++vw t.exps q []=l2++[⟨t.exps,q⟩]:=by unfold vw; rw [if_neg zq]
      simp only [x2]
      obtain ⟨c4,s3,s4⟩:=akN (v':=v') b2 (vt.put oq vq zq) (by omega) hc2
      have hcall2:=fun (h:aa) (hh:h 2272=t3 v' c2 0) (d:Nat)=>nU (ed false) rfl (xv (d:=d) hh hc2 s4 s3)
      have ih2:=ih' c1 c4 l1 _ hc1 s4 b1.drop (b2.push hAd (vt.put oq vq zq)) (by omega) (by rw [List.length_append]; show l2.length+1+k≤_; omega)
      simp only [aF,aW] at hcall2
      simp only [ahK,go_sem,↓reduceIte,aez,aeB,aeA,aeC,aeD,g1,g4,g5,g7,g8,g36,g37,g38,k2,k4,k5,k2248,k2272,ho1,ho2,ho3,e1,e2,hnr,hsb,f1,f2]
      rw [hcall2 _ rfl]
      simp only [go_sem,↓reduceIte,aez,aeD,e5]
      refine ih2 _ _ ?_ ?_ ?_ ?_ ?_ ?_ ?_ ?_ ?_ ?_ ?_ ?_ ?_
      all_goals first | rfl | assumption
    ·have f1:(0 < (m.m.length:Int))=True:=tt (by omega)
     have x1:l1++vw t.exps m []=l1++[⟨t.exps,m⟩]:=by unfold vw; rw [if_neg zm]
     simp only [x1]
     obtain ⟨c3,s1,s2⟩:=akN (v':=v') b1 (vt.put om vm zm) (by omega) hc1
     have hcall:=fun (h:aa) (hh:h 2248=t3 v' c1 0) (d:Nat)=>nU (ed false) rfl (xv (d:=d) hh hc1 s2 s1)
     have bp1:=b1.push hAd (vt.put om vm zm)
     have lp1:(l1++[(⟨t.exps,m⟩:Rt)]).length+k≤1000000:=by rw [List.length_append]; show l1.length+1+k≤_; omega
     simp only [aF,aW] at hcall
     by_cases zq:q.m.length=0
     ·have f2:(0 < (q.m.length:Int))=False:=ff (by omega)
      have x2:l2++vw t.exps q []=l2:=by unfold vw; rw [if_pos zq,List.append_nil]
      simp only [x2]
      have ih2:=ih' c3 c2 _ l2 s2 hc2 bp1 b2.drop lp1 (by omega)
      simp only [ahK,go_sem,↓reduceIte,aez,aeB,aeA,aeC,aeD,g1,g4,g5,g7,g8,g36,g37,g38,k2,k4,k5,k2248,k2272,ho1,ho2,ho3,e1,e2,hnr,hsb,f1]
      rw [hcall _ rfl]
      simp only [go_sem,↓reduceIte,aez,aeB,aeA,aeC,aeD,f2,e5]
      refine ih2 _ _ ?_ ?_ ?_ ?_ ?_ ?_ ?_ ?_ ?_ ?_ ?_ ?_ ?_
      all_goals first | rfl | assumption
     ·have f2:(0 < (q.m.length:Int))=True:=tt (by omega)
      have x2:l2++vw t.exps q []=l2++[⟨t.exps,q⟩]:=by unfold vw; rw [if_neg zq]
      simp only [x2]
      obtain ⟨c4,s3,s4⟩:=akN (v':=v') b2 (vt.put oq vq zq) (by omega) hc2
      have hcall2:=fun (h:aa) (hh:h 2272=t3 v' c2 0) (d:Nat)=>nU (ed false) rfl (xv (d:=d) hh hc2 s4 s3)
      have ih2:=ih' c3 c4 _ _ s2 s4 bp1 (b2.push hAd (vt.put oq vq zq)) lp1 (by rw [List.length_append]; show l2.length+1+k≤_; omega)
      simp only [aF,aW] at hcall2
      simp only [ahK,go_sem,↓reduceIte,aez,aeB,aeA,aeC,aeD,g1,g4,g5,g7,g8,g36,g37,g38,k2,k4,k5,k2248,k2272,ho1,ho2,ho3,e1,e2,hnr,hsb,f1]
      rw [hcall _ rfl]
      simp only [go_sem,↓reduceIte,aez,aeB,aeA,aeC,aeD,f2]
      rw [hcall2 _ rfl]
      simp only [go_sem,↓reduceIte,aez,aeD,e5]
      refine ih2 _ _ ?_ ?_ ?_ ?_ ?_ ?_ ?_ ?_ ?_ ?_ ?_ ?_ ?_
      all_goals first | rfl | assumption
   ·rw [if_neg hq]
    have f1:(eq=0)=False:=ff hq
    refine ⟨?hh1,?_,?_,?_⟩
    rotate_left
    ·simp only [ahK,go_sem,↓reduceIte,aez,aeB,aeA,aeC,aeD,g1,g4,g5,g7,g8,g36,g37,g38,k2,k4,k5,k2248,k2272,ho1,ho2,ho3,e1,e2,hnr,hsb,f1]
     rfl
    ·rfl
    ·rfl
  ·rw [if_neg hm]
   have f1:(em=0)=False:=ff hm
   refine ⟨?hh2,?_,?_,?_⟩
   rotate_left
   ·simp only [ahK,go_sem,↓reduceIte,aez,aeB,aeA,aeC,aeD,g1,g4,g5,g7,g8,g36,g37,g38,k2,k4,k5,k2248,k2272,ho1,ho2,ho3,e1,e2,hnr,f1]
    rfl
   ·rfl
   ·rfl
theorem awe {v v' p:Int} {A:List Rt} (hA:Cl v A) (hn:A.length≤100000) {o2:Ob} (k2c:∀ ids,aB ids o2=true) (s:af) (h:aa) (X:Option (Ex × St)) (hX:aI 1 [4,5,7,8] (aU (az R (ab false) ahK) [1,4,5,7,8,36,37,38] [2,4,5,2248,2272] s h)=X)
  (g1:s 1=I p) (g4:s 4=.ref 4 none 0 0 0) (g5:s 5=.ref 5 none 0 0 0) (g7:s 7=.ref 2248 none 0 0 0) (g8:s 8=.ref 2272 none 0 0 0) (g36:s 36=.sl 4 (ax A)) (g37:s 37=I A.length) (g38:s 38=I 0) (k2:h 2=o2) (k4:h 4=.bx [I 0,.emp]) (k5:h 5=.bx [I 0,.emp]) (k2248:h 2248=t3 v' .emp 0) (k2272:h 2272=t3 v' .emp 0) :
  am0 X 2248 2272 (upd (upd (upd (upd (fun _=>.any) 8 (.ref 2272 none 0 0 0)) 7 (.ref 2248 none 0 0 0)) 5 (.ref 5 none 0 0 0)) 4 (.ref 4 none 0 0 0)) v' [] [] (aj1 p A):=by
 subst hX
 exact as3 hA hn k2c A.length 0 (Nat.zero_add _) .emp .emp [] [] (.inr ⟨rfl,rfl⟩) (.inr ⟨rfl,rfl⟩) (Bf.nil _) (Bf.nil _) (by show 0+_≤_; omega) (by show 0+_≤_; omega) s h g1 g4 g5 g7 g8 g36 g37 g38 k2 k4 k5 k2248 k2272
theorem ash {a:Rp} {p:Int} (oa:OkP a):R F.poly_Round [bm a,I p] []=some (prV (ajT a p),[]):=by
 refine aZ an4 an3 (amm false) rfl ?_
 have v1:=nR oa
 simp only [bm] at v1
 unfold ajT
 cases va:vp a with
 | false =>
  rw [va] at v1
  rw [if_neg Bool.false_ne_true]
  simp only [aiJ,ajw,bm,go_sem,↓reduceIte,aez,aeB,aeA,aeC,v1]
  rfl
 | true =>
  rw [va] at v1
  rw [if_pos rfl]
  by_cases h8:p < 8
  ·have e0:(p < 8)=True:=eq_true h8
   rw [if_pos (.inl h8)]
   simp only [aiJ,ajw,bm,go_sem,↓reduceIte,aez,aeB,aeA,aeC,v1,e0]
   rfl
  ·have e0:(p < 8)=False:=eq_false h8
   by_cases h9:512 < p
   ·have e3:(512 < p)=True:=eq_true h9
    rw [if_pos (.inr h9)]
    simp only [aiJ,ajw,bm,go_sem,↓reduceIte,aez,aeB,aeA,aeC,v1,e0,e3]
    rfl
   ·have e3:(512 < p)=False:=eq_false h9
    rw [if_neg (by omega)]
    obtain ⟨ka,a0,a8,al⟩:=eJ oa va
    have hemp:=Ai (v:=a.vars)
    have hl:=awe (v:=a.vars) (v':=a.vars) (p:=p) ka (by omega) (o2:=.bx [I a.vars,.sl 4 (ax a.terms)]) (fun _=>rfl)
    simp only [aiJ,ajw,bm,go_sem,↓reduceIte,aez,aeB,aeA,aeC,aeE,aeD,v1,e0,e3,hemp,qp]
    generalize hX:aI 1 _ _=X
    have hM:=hl _ _ _ hX rfl rfl rfl rfl rfl rfl rfl rfl rfl rfl rfl rfl rfl
    cases hr:aj1 p a.terms with
    | none =>
     rw [hr] at hM
     obtain ⟨hh,rfl,q4,q5⟩:=hM
     simp only [prV,p0,bm,go_sem,↓reduceIte,aez,aeB,aeA,aeC,q4,q5]
     rfl
    | some q =>
     rw [hr] at hM
     obtain ⟨hh,c1,c2,rfl,q4,q5,q1,q2,i1,i2⟩:=hM
     rw [List.nil_append] at i1 i2
     obtain ⟨r1,r2⟩:=q
     simp only at i1 i2
     simp only [t3] at q1 q2
     rcases i1 with rfl | ⟨rfl,rfl⟩
     ·rcases i2 with rfl | ⟨rfl,rfl⟩
      ·simp only [prV,bm,go_sem,↓reduceIte,aez,aeB,aeA,aeC,aeE,aeD,axe,axf,q4,q5,q1,q2,aih,aiq,List.map_cons,List.map_nil,Sz,OG]
      ·simp only [prV,bm,go_sem,↓reduceIte,aez,aeB,aeA,aeC,aeE,aeD,axe,axf,q4,q5,q1,q2,aih,aiq,List.map_cons,List.map_nil,Sz,OG,aig]
       rfl
     ·rcases i2 with rfl | ⟨rfl,rfl⟩
      ·simp only [prV,bm,go_sem,↓reduceIte,aez,aeB,aeA,aeC,aeE,aeD,axe,axf,q4,q5,q1,q2,aih,aiq,List.map_cons,List.map_nil,Sz,OG,aig]
       rfl
      ·simp only [prV,bm,go_sem,↓reduceIte,aez,aeB,aeA,aeC,aeE,aeD,axe,axf,q4,q5,q1,q2,aih,aiq,List.map_cons,List.map_nil,Sz,aig]
       rfl
end Go.Ab
namespace Go.Ab
open Go Go.IntWalk
set_option maxRecDepth 4000
set_option maxHeartbeats 4000000
def akP (blk:Option (Ex × St)) (i1 i2:Nat) (S:af) (v':Int) (l1 l2 r1 r2:List Rt):Prop :=
 ∃ hh c1 c2,blk=some (.normal,⟨S,hh⟩)∧hh 4=.bx [I 0,.emp]∧hh 5=.bx [I 0,.emp]∧hh i1=.bx [I v',c1]∧hh i2=.bx [I v',c2]∧nS c1 (l1++r1)∧nS c2 (l2++r2)
theorem akP.p1 {blk:Option (Ex × St)} {i1 i2:Nat} {S:af} {v':Int} {l1 l2 r1 r2:List Rt} {t:Rt} (h:akP blk i1 i2 S v' (l1++[t]) l2 r1 r2):akP blk i1 i2 S v' l1 l2 (t::r1) r2:=by
 obtain ⟨hh,c1,c2,h1,h2,h3,h4,h5,h6,h7⟩:=h
 exact ⟨hh,c1,c2,h1,h2,h3,h4,h5,by rwa [List.append_cons],h7⟩
theorem akP.p2 {blk:Option (Ex × St)} {i1 i2:Nat} {S:af} {v':Int} {l1 l2 r1 r2:List Rt} {t:Rt} (h:akP blk i1 i2 S v' l1 (l2++[t]) r1 r2):akP blk i1 i2 S v' l1 l2 r1 (t::r2):=by
 obtain ⟨hh,c1,c2,h1,h2,h3,h4,h5,h6,h7⟩:=h
 exact ⟨hh,c1,c2,h1,h2,h3,h4,h5,h6,by rwa [List.append_cons]⟩
theorem asi {v v' o:Int} {a:Rp} (hA:Cl v a.terms) (hn:a.terms.length≤100000) :
  ∀ (k i:Nat),i+k=a.terms.length→∀ (c1 c2:AV) (l1 l2:List Rt),nS c1 l1→nS c2 l2→l1.length+k≤1000000→l2.length+k≤1000000→∀ (s:af) (h:aa),s 1=I o→s 2=.ref 2 none 0 0 0→s 4=.ref 4 none 0 0 0→s 5=.ref 5 none 0 0 0→s 6=.ref 6 none 0 0 0→s 7=.ref 7 none 0 0 0→s 8=I i→h 2=.bx [I a.vars,.sl 4 (ax a.terms)]→h 4=.bx [I 0,.emp]→h 5=.bx [I 0,.emp]→h 6=.bx [I v',c1]→h 7=.bx [I v',c2] →
  akP (aI 0 [4,5,6,7] (aU (az R (ab false) x3) [1,2,4,5,6,7,8] [2,4,5,6,7] s h)) 6 7 (upd (upd (upd (upd (fun _=>.any) 7 (.ref 7 none 0 0 0)) 6 (.ref 6 none 0 0 0)) 5 (.ref 5 none 0 0 0)) 4 (.ref 4 none 0 0 0)) v' l1 l2 ((a.terms.drop i).filter (loB o)) ((a.terms.drop i).filter (hiB o)):=by
 intro k
 induction k with
 | zero =>
  intro i hi c1 c2 l1 l2 hc1 hc2 _ _ s h g1 g2 g4 g5 g6 g7 g8 k2 k4 k5 k6 k7
  have e1:((i:Int) < (a.terms.length:Int))=False:=ff (by omega)
  rw [List.drop_eq_nil_of_le (by omega),aA]
  have q1:nS c1 (l1++List.filter (loB o) []):=by simpa using hc1
  have q2:nS c2 (l2++List.filter (hiB o) []):=by simpa using hc2
  rcases hc1 with rfl | ⟨rfl,rfl⟩
  ·rcases hc2 with rfl | ⟨rfl,rfl⟩
   ·refine ⟨?hh0,_,_,?_,?_,?_,?_,?_,q1,q2⟩
    rotate_left
    ·simp only [x3,go_sem,↓reduceIte,aez,aeB,aeA,aeD,g1,g2,g4,g5,g6,g7,g8,k2,k4,k5,k6,k7,e1]
     rfl
    all_goals rfl
   ·refine ⟨?hh1,_,_,?_,?_,?_,?_,?_,q1,q2⟩
    rotate_left
    ·simp only [x3,go_sem,↓reduceIte,aez,aeB,aeA,aeD,g1,g2,g4,g5,g6,g7,g8,k2,k4,k5,k6,k7,e1]
     rfl
    all_goals rfl
  ·rcases hc2 with rfl | ⟨rfl,rfl⟩
   ·refine ⟨?hh2,_,_,?_,?_,?_,?_,?_,q1,q2⟩
    rotate_left
    ·simp only [x3,go_sem,↓reduceIte,aez,aeB,aeA,aeD,g1,g2,g4,g5,g6,g7,g8,k2,k4,k5,k6,k7,e1]
     rfl
    all_goals rfl
   ·refine ⟨?hh3,_,_,?_,?_,?_,?_,?_,q1,q2⟩
    rotate_left
    ·simp only [x3,go_sem,↓reduceIte,aez,aeB,aeA,aeD,g1,g2,g4,g5,g6,g7,g8,k2,k4,k5,k6,k7,e1]
     rfl
    all_goals rfl
 | succ k ih =>
  intro i hi c1 c2 l1 l2 hc1 hc2 hl1 hl2 s h g1 g2 g4 g5 g6 g7 g8 k2 k4 k5 k6 k7
  have hlt:i < a.terms.length:=by omega
  have e1:((i:Int) < (a.terms.length:Int))=True:=tt (by omega)
  have e2:bH (ax a.terms) (i:Int)=some (.ipt (bv a.terms[i])):=jx rfl (List.getElem?_eq_getElem hlt)
  have e5:IntKind.i64.wrap ((i:Int)+1)=((i+1:Nat):Int):=wi (by omega) (by omega)
  have vt:=hA.t _ (List.getElem_mem hlt)
  rw [List.drop_eq_getElem_cons hlt]
  have ih':=ih (i+1) (by omega)
  generalize a.terms[i]=t at e2 vt ⊢
  have hdeg:=ama vt.sm
  rw [aA]
  generalize aU _ _ _=L at ih' ⊢
  simp only [bv] at e2
  by_cases hd:bc t.exps≤o
  ·have e3:(bc t.exps≤o)=True:=eq_true hd
   have f1:(loB o t)=true:=decide_eq_true hd
   have f2:¬ (hiB o t)=true:=by unfold hiB; rw [decide_eq_true hd]; exact Bool.false_ne_true
   rw [List.filter_cons_of_pos f1,List.filter_cons_of_neg f2]
   refine akP.p1 ?_
   have ih2:=fun c2' h2=>ih' (.osl 4 (ax (l1++[t]))) c2' _ l2 (.inl rfl) h2 (by rw [List.length_append]; show l1.length+1+k≤_; omega) (by omega)
   rw [← akm] at ih2
   simp only [bv] at ih2
   have b1:((l1.length+1)*64≤140737488355328)=True:=eq_true (by omega)
   rcases hc1 with rfl | ⟨rfl,rfl⟩
   ·rcases hc2 with rfl | ⟨rfl,rfl⟩
    ·simp only [x3,go_sem,↓reduceIte,aez,aeB,aeA,aeC,aeE,aeD,axe,g1,g2,g4,g5,g6,g7,g8,k2,k4,k5,k6,k7,e1,e2,e3,hdeg,true_or,b1]
     rw [if_pos (by rfl),uU rfl (by rw [List.length_append,gI]; rfl) rfl (by decide) (by show 1 < 2; decide)]
     simp only [go_sem,↓reduceIte,aez,aeD,e5]
     refine ih2 _ (.inl rfl) _ _ ?_ ?_ ?_ ?_ ?_ ?_ ?_ ?_ ?_ ?_ ?_ ?_
     all_goals first | rfl | assumption
    ·simp only [x3,go_sem,↓reduceIte,aez,aeB,aeA,aeC,aeE,aeD,axe,g1,g2,g4,g5,g6,g7,g8,k2,k4,k5,k6,k7,e1,e2,e3,hdeg,true_or,b1]
     rw [if_pos (by rfl),uU rfl (by rw [List.length_append,gI]; rfl) rfl (by decide) (by show 1 < 2; decide)]
     simp only [go_sem,↓reduceIte,aez,aeD,e5]
     refine ih2 _ (.inr ⟨rfl,rfl⟩) _ _ ?_ ?_ ?_ ?_ ?_ ?_ ?_ ?_ ?_ ?_ ?_ ?_
     all_goals first | rfl | assumption
   ·rcases hc2 with rfl | ⟨rfl,rfl⟩
    ·simp only [x3,go_sem,↓reduceIte,aez,aeB,aeA,aeC,aeE,aeD,axe,g1,g2,g4,g5,g6,g7,g8,k2,k4,k5,k6,k7,e1,e2,e3,hdeg,true_or]
     rw [if_pos (by rfl),uU rfl (show 1=List.length [[AV.sl 1 (aX t.exps),B t.c.neg,lm t.c.m,I t.c.e]] from rfl) rfl (by decide) (by show 1 < 2; decide)]
     simp only [go_sem,↓reduceIte,aez,aeD,e5]
     refine ih2 _ (.inl rfl) _ _ ?_ ?_ ?_ ?_ ?_ ?_ ?_ ?_ ?_ ?_ ?_ ?_
     all_goals first | rfl | assumption
    ·simp only [x3,go_sem,↓reduceIte,aez,aeB,aeA,aeC,aeE,aeD,axe,g1,g2,g4,g5,g6,g7,g8,k2,k4,k5,k6,k7,e1,e2,e3,hdeg]
     rw [if_pos (by rfl),uU rfl (show 1=List.length [[AV.sl 1 (aX t.exps),B t.c.neg,lm t.c.m,I t.c.e]] from rfl) rfl (by decide) (by show 1 < 2; decide)]
     simp only [go_sem,↓reduceIte,aez,aeD,e5]
     refine ih2 _ (.inr ⟨rfl,rfl⟩) _ _ ?_ ?_ ?_ ?_ ?_ ?_ ?_ ?_ ?_ ?_ ?_ ?_
     all_goals first | rfl | assumption
  ·have e3:(bc t.exps≤o)=False:=eq_false hd
   have f1:¬ (loB o t)=true:=by unfold loB; rw [decide_eq_false hd]; exact Bool.false_ne_true
   have f2:(hiB o t)=true:=by unfold hiB; rw [decide_eq_false hd]; rfl
   rw [List.filter_cons_of_neg f1,List.filter_cons_of_pos f2]
   refine akP.p2 ?_
   have ih2:=fun c1' h1=>ih' c1' (.osl 4 (ax (l2++[t]))) l1 _ h1 (.inl rfl) (by omega) (by rw [List.length_append]; show l2.length+1+k≤_; omega)
   rw [← akm] at ih2
   simp only [bv] at ih2
   have b1:((l2.length+1)*64≤140737488355328)=True:=eq_true (by omega)
   rcases hc1 with rfl | ⟨rfl,rfl⟩
   ·rcases hc2 with rfl | ⟨rfl,rfl⟩
    ·simp only [x3,go_sem,↓reduceIte,aez,aeB,aeA,aeC,aeE,aeD,axe,g1,g2,g4,g5,g6,g7,g8,k2,k4,k5,k6,k7,e1,e2,e3,hdeg,true_or,b1]
     rw [if_pos (by rfl),uU rfl (by rw [List.length_append,gI]; rfl) rfl (by decide) (by show 1 < 2; decide)]
     simp only [go_sem,↓reduceIte,aez,aeD,e5]
     refine ih2 _ (.inl rfl) _ _ ?_ ?_ ?_ ?_ ?_ ?_ ?_ ?_ ?_ ?_ ?_ ?_
     all_goals first | rfl | assumption
    ·simp only [x3,go_sem,↓reduceIte,aez,aeB,aeA,aeC,aeE,aeD,axe,g1,g2,g4,g5,g6,g7,g8,k2,k4,k5,k6,k7,e1,e2,e3,hdeg,true_or]
     rw [if_pos (by rfl),uU rfl (show 1=List.length [[AV.sl 1 (aX t.exps),B t.c.neg,lm t.c.m,I t.c.e]] from rfl) rfl (by decide) (by show 1 < 2; decide)]
     simp only [go_sem,↓reduceIte,aez,aeD,e5]
     refine ih2 _ (.inl rfl) _ _ ?_ ?_ ?_ ?_ ?_ ?_ ?_ ?_ ?_ ?_ ?_ ?_
     all_goals first | rfl | assumption
   ·rcases hc2 with rfl | ⟨rfl,rfl⟩
    ·simp only [x3,go_sem,↓reduceIte,aez,aeB,aeA,aeC,aeE,aeD,axe,g1,g2,g4,g5,g6,g7,g8,k2,k4,k5,k6,k7,e1,e2,e3,hdeg,true_or,b1]
     rw [if_pos (by rfl),uU rfl (by rw [List.length_append,gI]; rfl) rfl (by decide) (by show 1 < 2; decide)]
     simp only [go_sem,↓reduceIte,aez,aeD,e5]
     refine ih2 _ (.inr ⟨rfl,rfl⟩) _ _ ?_ ?_ ?_ ?_ ?_ ?_ ?_ ?_ ?_ ?_ ?_ ?_
     all_goals first | rfl | assumption
    ·simp only [x3,go_sem,↓reduceIte,aez,aeB,aeA,aeC,aeE,aeD,axe,g1,g2,g4,g5,g6,g7,g8,k2,k4,k5,k6,k7,e1,e2,e3,hdeg]
     rw [if_pos (by rfl),uU rfl (show 1=List.length [[AV.sl 1 (aX t.exps),B t.c.neg,lm t.c.m,I t.c.e]] from rfl) rfl (by decide) (by show 1 < 2; decide)]
     simp only [go_sem,↓reduceIte,aez,aeD,e5]
     refine ih2 _ (.inr ⟨rfl,rfl⟩) _ _ ?_ ?_ ?_ ?_ ?_ ?_ ?_ ?_ ?_ ?_ ?_ ?_
     all_goals first | rfl | assumption
theorem auV {v v' o:Int} {a:Rp} (hA:Cl v a.terms) (hn:a.terms.length≤100000) (s:af) (h:aa) (X:Option (Ex × St)) (hX:aI 0 [4,5,6,7] (aU (az R (ab false) x3) [1,2,4,5,6,7,8] [2,4,5,6,7] s h)=X)
  (g1:s 1=I o) (g2:s 2=.ref 2 none 0 0 0) (g4:s 4=.ref 4 none 0 0 0) (g5:s 5=.ref 5 none 0 0 0) (g6:s 6=.ref 6 none 0 0 0) (g7:s 7=.ref 7 none 0 0 0) (g8:s 8=I 0) (k2:h 2=.bx [I a.vars,.sl 4 (ax a.terms)]) (k4:h 4=.bx [I 0,.emp]) (k5:h 5=.bx [I 0,.emp]) (k6:h 6=.bx [I v',.emp]) (k7:h 7=.bx [I v',.emp]) :
  akP X 6 7 (upd (upd (upd (upd (fun _=>.any) 7 (.ref 7 none 0 0 0)) 6 (.ref 6 none 0 0 0)) 5 (.ref 5 none 0 0 0)) 4 (.ref 4 none 0 0 0)) v' [] [] (a.terms.filter (loB o)) (a.terms.filter (hiB o)):=by
 subst hX
 exact asi hA hn a.terms.length 0 (Nat.zero_add _) .emp .emp [] [] (.inr ⟨rfl,rfl⟩) (.inr ⟨rfl,rfl⟩) (by show 0+_≤_; omega) (by show 0+_≤_; omega) s h g1 g2 g4 g5 g6 g7 g8 k2 k4 k5 k6 k7
theorem aqU {a:Rp} {o:Int} (oa:OkP a):R F.r23_Split [bm a,I o] []=some (ppV (ajm a o),[]):=by
 refine aZ aoP aoO (amx false) rfl ?_
 have v1:=alg oa
 simp only [bm] at v1
 unfold ajm
 cases va:vp a with
 | false =>
  rw [va] at v1
  rw [if_neg Bool.false_ne_true]
  simp only [ajv,akW,bm,go_sem,↓reduceIte,aez,aeB,aeA,aeC,v1]
  rfl
 | true =>
  rw [va] at v1
  rw [if_pos rfl]
  obtain ⟨ka,a0,a8,al⟩:=eJ oa va
  have hl:=auV (v:=a.vars) (v':=a.vars) (o:=o) ka (by omega)
  simp only [ajv,akW,bm,go_sem,↓reduceIte,aez,aeB,aeA,aeC,aeE,aeD,v1]
  generalize hX:aI 0 _ _=X
  have hM:=hl _ _ _ hX rfl rfl rfl rfl rfl rfl rfl rfl rfl rfl rfl rfl
  obtain ⟨hh,c1,c2,rfl,q4,q5,q1,q2,i1,i2⟩:=hM
  rw [List.nil_append] at i1 i2
  generalize a.terms.filter (loB o)=r1 at i1 ⊢
  generalize a.terms.filter (hiB o)=r2 at i2 ⊢
  rcases i1 with rfl | ⟨rfl,rfl⟩
  ·rcases i2 with rfl | ⟨rfl,rfl⟩
   ·simp only [ppV,bm,go_sem,↓reduceIte,aez,aeB,aeA,aeC,aeE,aeD,q4,q5,q1,q2,aih,aiq,List.map_cons,List.map_nil,Sz,OG]
   ·simp only [ppV,bm,go_sem,↓reduceIte,aez,aeB,aeA,aeC,aeE,aeD,q4,q5,q1,q2,aih,aiq,List.map_cons,List.map_nil,Sz,OG,aig]
    rfl
  ·rcases i2 with rfl | ⟨rfl,rfl⟩
   ·simp only [ppV,bm,go_sem,↓reduceIte,aez,aeB,aeA,aeC,aeE,aeD,q4,q5,q1,q2,aih,aiq,List.map_cons,List.map_nil,Sz,OG,aig]
    rfl
   ·simp only [ppV,bm,go_sem,↓reduceIte,aez,aeB,aeA,aeC,aeE,aeD,q4,q5,q1,q2,aih,aiq,List.map_cons,List.map_nil,Sz,aig]
    rfl
end Go.Ab
namespace Go.Ab
open Go Go.IntWalk
set_option maxRecDepth 4000
set_option maxHeartbeats 8000000
def am1 (blk:Option (Ex × St)) (i1 i2:Nat) (S:af) (v':Int) (l1 l2:List Rt):Option (List Rt × List Rt)→Prop
 | some q=>akP blk i1 i2 S v' l1 l2 q.1 q.2
 | none=>∃ hh,blk=some (.ret,⟨upd (upd (upd (fun _=>.any) 6 (I 9)) 5 (.ref 5 none 0 0 0)) 4 (.ref 4 none 0 0 0),hh⟩)∧hh 4=.bx [I 0,.emp]∧hh 5=.bx [I 0,.emp]
theorem am1.step {blk:Option (Ex × St)} {i1 i2:Nat} {S:af} {v':Int} {l1 l2:List Rt} {x:List Int} {c d:Rd}:∀ {o:Option (List Rt × List Rt)},am1 blk i1 i2 S v' (l1++vw x c []) (l2++vw x d []) o→am1 blk i1 i2 S v' l1 l2 (o.map fun q=>(vw x c q.1,vw x d q.2)):=by
 intro o h
 cases o with
 | none=>exact h
 | some q =>
  obtain ⟨hh,c1,c2,h1,h2,h3,h4,h5,h6,h7⟩:=h
  exact ⟨hh,c1,c2,h1,h2,h3,h4,h5,by rwa [akV] at h6,by rwa [akV] at h7⟩
theorem aiN:Option.any aN (some AV.any)=false:=rfl
theorem aiO:Option.any aN (some AV.emp)=false:=rfl
theorem akx {h:aa} {id d n:Nat} {ys rows:List (List AV)} {x:AV} (hn:n=rows.length) (hb:(n+ys.length)*64≤140737488355328):Nh h d 4 64 id 1 4 0 n ys (.bx [x,.osl 4 rows])=bR (upd h id (.bx [x,.any])) d 4 (rows++ys) (n+ys.length) [(id,true)]:=by
 show (if _ then _ else _)=_
 rw [if_pos ⟨rfl,rfl,rfl,hn,hb⟩]
 rfl
theorem asj {v v' p:Int} {a:Rp} (hA:Cl v a.terms) (hn:a.terms.length≤100000) :
  ∀ (k i:Nat),i+k=a.terms.length→∀ (c1 c2:AV) (l1 l2:List Rt),nS c1 l1→nS c2 l2→l1.length+k≤1000000→l2.length+k≤1000000→∀ (s:af) (h:aa),s 1=I p→s 2=.ref 2 none 0 0 0→s 4=.ref 4 none 0 0 0→s 5=.ref 5 none 0 0 0→s 7=.ref 7 none 0 0 0→s 8=.ref 8 none 0 0 0→s 9=I i→h 2=.bx [I a.vars,.sl 4 (ax a.terms)]→h 4=.bx [I 0,.emp]→h 5=.bx [I 0,.emp]→h 7=.bx [I v',c1]→h 8=.bx [I v',c2] →
  am1 (aI 0 [4,5,7,8] (aU (az R (ab false) ow) [1,2,4,5,7,8,9] [2,4,5,7,8] s h)) 7 8 (upd (upd (upd (upd (fun _=>.any) 8 (.ref 8 none 0 0 0)) 7 (.ref 7 none 0 0 0)) 5 (.ref 5 none 0 0 0)) 4 (.ref 4 none 0 0 0)) v' l1 l2 (aj1 p (a.terms.drop i)):=by
 intro k
 induction k with
 | zero =>
  intro i hi c1 c2 l1 l2 hc1 hc2 _ _ s h g1 g2 g4 g5 g7 g8 g9 k2 k4 k5 k7 k8
  have e1:((i:Int) < (a.terms.length:Int))=False:=ff (by omega)
  rw [List.drop_eq_nil_of_le (by omega),aA]
  have q1:nS c1 (l1++[]):=by simpa using hc1
  have q2:nS c2 (l2++[]):=by simpa using hc2
  rcases hc1 with rfl | ⟨rfl,rfl⟩
  ·rcases hc2 with rfl | ⟨rfl,rfl⟩
   ·refine ⟨?hh0,_,_,?_,?_,?_,?_,?_,q1,q2⟩
    rotate_left
    ·simp only [ow,go_sem,↓reduceIte,aez,aeB,aeA,aeD,g1,g2,g4,g5,g7,g8,g9,k2,k4,k5,k7,k8,e1]
     rfl
    all_goals rfl
   ·refine ⟨?hh1,_,_,?_,?_,?_,?_,?_,q1,q2⟩
    rotate_left
    ·simp only [ow,go_sem,↓reduceIte,aez,aeB,aeA,aeD,g1,g2,g4,g5,g7,g8,g9,k2,k4,k5,k7,k8,e1]
     rfl
    all_goals rfl
  ·rcases hc2 with rfl | ⟨rfl,rfl⟩
   ·refine ⟨?hh2,_,_,?_,?_,?_,?_,?_,q1,q2⟩
    rotate_left
    ·simp only [ow,go_sem,↓reduceIte,aez,aeB,aeA,aeD,g1,g2,g4,g5,g7,g8,g9,k2,k4,k5,k7,k8,e1]
     rfl
    all_goals rfl
   ·refine ⟨?hh3,_,_,?_,?_,?_,?_,?_,q1,q2⟩
    rotate_left
    ·simp only [ow,go_sem,↓reduceIte,aez,aeB,aeA,aeD,g1,g2,g4,g5,g7,g8,g9,k2,k4,k5,k7,k8,e1]
     rfl
    all_goals rfl
 | succ k ih =>
  intro i hi c1 c2 l1 l2 hc1 hc2 hl1 hl2 s h g1 g2 g4 g5 g7 g8 g9 k2 k4 k5 k7 k8
  have hlt:i < a.terms.length:=by omega
  have e1:((i:Int) < (a.terms.length:Int))=True:=tt (by omega)
  have e2:bH (ax a.terms) (i:Int)=some (.ipt (bv a.terms[i])):=jx rfl (List.getElem?_eq_getElem hlt)
  have e5:IntKind.i64.wrap ((i:Int)+1)=((i+1:Nat):Int):=wi (by omega) (by omega)
  have vt:=hA.t _ (List.getElem_mem hlt)
  rw [List.drop_eq_getElem_cons hlt]
  have ih':=ih (i+1) (by omega)
  have hrow:∀ q ts,aj1 p (q::ts)=if (aiA q.c p).2=0 then (if (ae5 q.c (aiA q.c p).1).2=0 then (aj1 p ts).map fun x=>(vw q.exps (aiA q.c p).1 x.1,vw q.exps (ae5 q.c (aiA q.c p).1).1 x.2) else none) else none:=fun q ts=>rfl
  rw [hrow]
  generalize a.terms[i]=t at e2 vt ⊢
  have hnr:=as2 vt.c (p:=p)
  obtain ⟨vm,om⟩:=alk t.c p
  rw [aA]
  generalize aU _ _ _=L at ih' ⊢
  generalize aiA t.c p=m at hnr vm om ⊢
  obtain ⟨m,em⟩:=m
  simp only at vm om
  have hng:=ak4 (d:=m)
  rw [ak5 vm] at hng
  have hsb:=apJ vt.c (ahm om)
  rw [← ag0 vm] at hsb
  generalize ZH m=nm at hng hsb
  simp only
  generalize ae5 t.c m=q at hsb ⊢
  obtain ⟨q,eq⟩:=q
  have b1:((l1.length+1)*64≤140737488355328)=True:=eq_true (by omega)
  have b2:((l2.length+1)*64≤140737488355328)=True:=eq_true (by omega)
  simp only [bv] at e2
  simp only [rV,aF,aW] at hnr hng hsb
  by_cases hm:em=0
  ·subst hm
   rw [if_pos rfl]
   by_cases hq:eq=0
   ·subst hq
    rw [if_pos rfl]
    refine am1.step ?_
    by_cases zm:m.m.length=0
    ·have f1:(0 < (m.m.length:Int))=False:=ff (by omega)
     have x1:l1++vw t.exps m []=l1:=by unfold vw; rw [if_pos zm,List.append_nil]
     simp only [x1]
     by_cases zq:q.m.length=0
     ·have f2:(0 < (q.m.length:Int))=False:=ff (by omega)
      have x2:l2++vw t.exps q []=l2:=by unfold vw; rw [if_pos zq,List.append_nil]
      simp only [x2]
      have ih2:=ih' c1 c2 _ _ hc1 hc2 (by omega) (by omega)
      rcases hc1 with rfl | ⟨rfl,rfl⟩ <;> rcases hc2 with rfl | ⟨rfl,rfl⟩
      all_goals
       simp only [ow,go_sem,↓reduceIte,aez,aeB,aeA,aeC,aeE,aeD,g1,g2,g4,g5,g7,g8,g9,k2,k4,k5,k7,k8,e1,e2,hnr,hng,hsb,f1,f2,e5]
       refine ih2 _ _ ?_ ?_ ?_ ?_ ?_ ?_ ?_ ?_ ?_ ?_ ?_ ?_
       all_goals first | rfl | assumption
     ·have f2:(0 < (q.m.length:Int))=True:=tt (by omega)
      have x2:l2++vw t.exps q []=l2++[⟨t.exps,q⟩]:=by unfold vw; rw [if_neg zq]
      have lp2:(l2++[(⟨t.exps,q⟩:Rt)]).length+k≤1000000:=by rw [List.length_append]; show l2.length+1+k≤_; omega
      simp only [x2]
      have ih2:=ih' c1 (.osl 4 (ax (l2++[⟨t.exps,q⟩]))) _ _ hc1 (.inl rfl) (by omega) lp2
      rw [← akm] at ih2
      simp only [bv] at ih2
      rcases hc1 with rfl | ⟨rfl,rfl⟩ <;> rcases hc2 with rfl | ⟨rfl,rfl⟩
      all_goals
       simp only [ow,go_sem,↓reduceIte,aez,aeB,aeA,aeC,aeE,aeD,g1,g2,g4,g5,g7,g8,g9,k2,k4,k5,k7,k8,e1,e2,hnr,hng,hsb,f1,f2]
       first | rw [uU rfl (show 1=List.length [[AV.sl 1 (aX t.exps),B q.neg,lm q.m,I q.e]] from rfl) rfl (by decide) (by show 1 < 2; decide)] | (rw [akx (gI l2).symm (by show (l2.length+1)*64≤_; omega)]; simp only [go_sem,↓reduceIte,aez,aeB,aeA,aeC,aeD]; rw [uU rfl (by rw [List.length_append,gI]; rfl) rfl (by decide) (by show 1 < 2; decide)])
       simp only [go_sem,↓reduceIte,aez,aeD,aiN,aiO,Bool.false_eq_true,e5]
       refine ih2 _ _ ?_ ?_ ?_ ?_ ?_ ?_ ?_ ?_ ?_ ?_ ?_ ?_
       all_goals first | rfl | assumption
    ·have f1:(0 < (m.m.length:Int))=True:=tt (by omega)
     have x1:l1++vw t.exps m []=l1++[⟨t.exps,m⟩]:=by unfold vw; rw [if_neg zm]
     have lp1:(l1++[(⟨t.exps,m⟩:Rt)]).length+k≤1000000:=by rw [List.length_append]; show l1.length+1+k≤_; omega
     simp only [x1]
     by_cases zq:q.m.length=0
     ·have f2:(0 < (q.m.length:Int))=False:=ff (by omega)
      have x2:l2++vw t.exps q []=l2:=by unfold vw; rw [if_pos zq,List.append_nil]
      simp only [x2]
      have ih2:=ih' (.osl 4 (ax (l1++[⟨t.exps,m⟩]))) c2 _ _ (.inl rfl) hc2 lp1 (by omega)
      rw [← akm] at ih2
      simp only [bv] at ih2
      rcases hc1 with rfl | ⟨rfl,rfl⟩ <;> rcases hc2 with rfl | ⟨rfl,rfl⟩
      all_goals
       simp only [ow,go_sem,↓reduceIte,aez,aeB,aeA,aeC,aeE,aeD,g1,g2,g4,g5,g7,g8,g9,k2,k4,k5,k7,k8,e1,e2,hnr,hng,hsb,f1]
       first | rw [uU rfl (show 1=List.length [[AV.sl 1 (aX t.exps),B m.neg,lm m.m,I m.e]] from rfl) rfl (by decide) (by show 1 < 2; decide)] | (rw [akx (gI l1).symm (by show (l1.length+1)*64≤_; omega)]; simp only [go_sem,↓reduceIte,aez,aeB,aeA,aeC,aeD]; rw [uU rfl (by rw [List.length_append,gI]; rfl) rfl (by decide) (by show 1 < 2; decide)])
       simp only [go_sem,↓reduceIte,aez,aeB,aeA,aeC,aeE,aeD,aiN,aiO,Bool.false_eq_true,f2,e5]
       refine ih2 _ _ ?_ ?_ ?_ ?_ ?_ ?_ ?_ ?_ ?_ ?_ ?_ ?_
       all_goals first | rfl | assumption
     ·have f2:(0 < (q.m.length:Int))=True:=tt (by omega)
      have x2:l2++vw t.exps q []=l2++[⟨t.exps,q⟩]:=by unfold vw; rw [if_neg zq]
      have lp2:(l2++[(⟨t.exps,q⟩:Rt)]).length+k≤1000000:=by rw [List.length_append]; show l2.length+1+k≤_; omega
      simp only [x2]
      have ih2:=ih' (.osl 4 (ax (l1++[⟨t.exps,m⟩]))) (.osl 4 (ax (l2++[⟨t.exps,q⟩]))) _ _ (.inl rfl) (.inl rfl) lp1 lp2
      rw [← akm,← akm] at ih2
      simp only [bv] at ih2
      rcases hc1 with rfl | ⟨rfl,rfl⟩ <;> rcases hc2 with rfl | ⟨rfl,rfl⟩
      all_goals
       simp only [ow,go_sem,↓reduceIte,aez,aeB,aeA,aeC,aeE,aeD,g1,g2,g4,g5,g7,g8,g9,k2,k4,k5,k7,k8,e1,e2,hnr,hng,hsb,f1]
       first | rw [uU rfl (show 1=List.length [[AV.sl 1 (aX t.exps),B m.neg,lm m.m,I m.e]] from rfl) rfl (by decide) (by show 1 < 2; decide)] | (rw [akx (gI l1).symm (by show (l1.length+1)*64≤_; omega)]; simp only [go_sem,↓reduceIte,aez,aeB,aeA,aeC,aeD]; rw [uU rfl (by rw [List.length_append,gI]; rfl) rfl (by decide) (by show 1 < 2; decide)])
       simp only [go_sem,↓reduceIte,aez,aeB,aeA,aeC,aeE,aeD,aiN,aiO,Bool.false_eq_true,f2]
       first | rw [uU rfl (show 1=List.length [[AV.sl 1 (aX t.exps),B q.neg,lm q.m,I q.e]] from rfl) rfl (by decide) (by show 1 < 2; decide)] | (rw [akx (gI l2).symm (by show (l2.length+1)*64≤_; omega)]; simp only [go_sem,↓reduceIte,aez,aeB,aeA,aeC,aeD]; rw [uU rfl (by rw [List.length_append,gI]; rfl) rfl (by decide) (by show 1 < 2; decide)])
       simp only [go_sem,↓reduceIte,aez,aeD,aiN,aiO,Bool.false_eq_true,e5]
       refine ih2 _ _ ?_ ?_ ?_ ?_ ?_ ?_ ?_ ?_ ?_ ?_ ?_ ?_
       all_goals first | rfl | assumption
   ·rw [if_neg hq]
    have f1:(eq=0)=False:=ff hq
    rcases hc1 with rfl | ⟨rfl,rfl⟩ <;> rcases hc2 with rfl | ⟨rfl,rfl⟩
    all_goals
     apply Exists.intro
     refine ⟨?_,?_,?_⟩
     ·simp only [ow,go_sem,↓reduceIte,aez,aeB,aeA,aeC,aeE,aeD,g1,g2,g4,g5,g7,g8,g9,k2,k4,k5,k7,k8,e1,e2,hnr,hng,hsb,f1]
      rfl
     ·rfl
     ·rfl
  ·rw [if_neg hm]
   have f1:(em=0)=False:=ff hm
   rcases hc1 with rfl | ⟨rfl,rfl⟩ <;> rcases hc2 with rfl | ⟨rfl,rfl⟩
   all_goals
    apply Exists.intro
    refine ⟨?_,?_,?_⟩
    ·simp only [ow,go_sem,↓reduceIte,aez,aeB,aeA,aeC,aeD,g1,g2,g4,g5,g7,g8,g9,k2,k4,k5,k7,k8,e1,e2,hnr,f1]
     rfl
    ·rfl
    ·rfl
theorem auW {v v' p:Int} {a:Rp} (hA:Cl v a.terms) (hn:a.terms.length≤100000) (s:af) (h:aa) (X:Option (Ex × St)) (hX:aI 0 [4,5,7,8] (aU (az R (ab false) ow) [1,2,4,5,7,8,9] [2,4,5,7,8] s h)=X)
  (g1:s 1=I p) (g2:s 2=.ref 2 none 0 0 0) (g4:s 4=.ref 4 none 0 0 0) (g5:s 5=.ref 5 none 0 0 0) (g7:s 7=.ref 7 none 0 0 0) (g8:s 8=.ref 8 none 0 0 0) (g9:s 9=I 0) (k2:h 2=.bx [I a.vars,.sl 4 (ax a.terms)]) (k4:h 4=.bx [I 0,.emp]) (k5:h 5=.bx [I 0,.emp]) (k7:h 7=.bx [I v',.emp]) (k8:h 8=.bx [I v',.emp]) :
  am1 X 7 8 (upd (upd (upd (upd (fun _=>.any) 8 (.ref 8 none 0 0 0)) 7 (.ref 7 none 0 0 0)) 5 (.ref 5 none 0 0 0)) 4 (.ref 4 none 0 0 0)) v' [] [] (aj1 p a.terms):=by
 subst hX
 exact asj hA hn a.terms.length 0 (Nat.zero_add _) .emp .emp [] [] (.inr ⟨rfl,rfl⟩) (.inr ⟨rfl,rfl⟩) (by show 0+_≤_; omega) (by show 0+_≤_; omega) s h g1 g2 g4 g5 g7 g8 g9 k2 k4 k5 k7 k8
theorem aqV {a:Rp} {p:Int} (oa:OkP a):R F.r23_Round [bm a,I p] []=some (prV (ajT a p),[]):=by
 refine aZ aoS aoR (amy false) rfl ?_
 have v1:=alg oa
 simp only [bm] at v1
 unfold ajT
 cases va:vp a with
 | false =>
  rw [va] at v1
  rw [if_neg Bool.false_ne_true]
  simp only [aiT,ajP,bm,go_sem,↓reduceIte,aez,aeB,aeA,aeC,v1]
  rfl
 | true =>
  rw [va] at v1
  rw [if_pos rfl]
  by_cases h8:p < 8
  ·have e0:(p < 8)=True:=eq_true h8
   rw [if_pos (.inl h8)]
   simp only [aiT,ajP,bm,go_sem,↓reduceIte,aez,aeB,aeA,aeC,v1,e0]
   rfl
  ·have e0:(p < 8)=False:=eq_false h8
   by_cases h9:512 < p
   ·have e3:(512 < p)=True:=eq_true h9
    rw [if_pos (.inr h9)]
    simp only [aiT,ajP,bm,go_sem,↓reduceIte,aez,aeB,aeA,aeC,v1,e0,e3]
    rfl
   ·have e3:(512 < p)=False:=eq_false h9
    rw [if_neg (by omega)]
    obtain ⟨ka,a0,a8,al⟩:=eJ oa va
    have hl:=auW (v:=a.vars) (v':=a.vars) (p:=p) ka (by omega)
    simp only [aiT,ajP,bm,go_sem,↓reduceIte,aez,aeB,aeA,aeC,aeE,aeD,v1,e0,e3]
    generalize hX:aI 0 _ _=X
    have hM:=hl _ _ _ hX rfl rfl rfl rfl rfl rfl rfl rfl rfl rfl rfl rfl
    cases hr:aj1 p a.terms with
    | none =>
     rw [hr] at hM
     obtain ⟨hh,rfl,q4,q5⟩:=hM
     simp only [prV,p0,bm,go_sem,↓reduceIte,aez,aeB,aeA,aeC,q4,q5]
     rfl
    | some q =>
     rw [hr] at hM
     obtain ⟨hh,c1,c2,rfl,q4,q5,q1,q2,i1,i2⟩:=hM
     rw [List.nil_append] at i1 i2
     obtain ⟨r1,r2⟩:=q
     simp only at i1 i2
     rcases i1 with rfl | ⟨rfl,rfl⟩
     ·rcases i2 with rfl | ⟨rfl,rfl⟩
      ·simp only [prV,bm,go_sem,↓reduceIte,aez,aeB,aeA,aeC,aeE,aeD,q4,q5,q1,q2,aih,aiq,List.map_cons,List.map_nil,Sz,OG]
      ·simp only [prV,bm,go_sem,↓reduceIte,aez,aeB,aeA,aeC,aeE,aeD,q4,q5,q1,q2,aih,aiq,List.map_cons,List.map_nil,Sz,OG,aig]
       rfl
     ·rcases i2 with rfl | ⟨rfl,rfl⟩
      ·simp only [prV,bm,go_sem,↓reduceIte,aez,aeB,aeA,aeC,aeE,aeD,q4,q5,q1,q2,aih,aiq,List.map_cons,List.map_nil,Sz,OG,aig]
       rfl
      ·simp only [prV,bm,go_sem,↓reduceIte,aez,aeB,aeA,aeC,aeE,aeD,q4,q5,q1,q2,aih,aiq,List.map_cons,List.map_nil,Sz,aig]
       rfl
end Go.Ab
namespace Go.Ab
open Go Go.IntWalk
set_option maxRecDepth 4000
set_option maxHeartbeats 2000000
def af2 (d:Rd):Bool:=decide (4 < d.m.length)
theorem agW {d:Rd}:R F.l23_long_1 [.agg (aW d)] []=some (B (af2 d),[]):=by
 refine aZ agd agc (afK false) rfl ?_
 unfold af2
 have e:decide ((4:Int) < (d.m.length:Int))=decide (4 < d.m.length):=by rw [decide_eq_decide]; omega
 simp only [aeY,afr,aW,go_sem,↓reduceIte,aez,aeB,aeA,e]
def afz (l:List Rd):Bool:=decide (20 < l.length) || l.any af2
theorem ags {l:List Rd}:R F.l23_long [.sl 3 (Ma l)] []=some (B (afz l),[]):=by
 refine aZ agG agF (afW false) rfl ?_
 unfold afz
 by_cases h:20 < l.length
 ·have e1:(20 < (l.length:Int))=True:=tt (by omega)
  rw [decide_eq_true h,Bool.true_or]
  simp only [aeV,afh,go_sem,↓reduceIte,aez,e1]
 ·have e1:(20 < (l.length:Int))=False:=ff (by omega)
  have hc:=agm (afv false) (afY false) (l:=l) (by omega) (p:=af2) (fun d _=>agW)
  rw [decide_eq_false h,Bool.false_or]
  simp only [aeV,afh,go_sem,↓reduceIte,aez,aeB,aeA,e1,hc]
end Go.Ab
namespace Go.Ab
open Go Go.IntWalk
set_option maxRecDepth 4000
set_option maxHeartbeats 8000000
theorem Cl.filter {v:Int} {l:List Rt} (h:Cl v l) (p:Rt→Bool):Cl v (l.filter p):=⟨fun t ht=>h.t t (List.mem_filter.1 ht).1,h.s.filter p⟩
theorem ask {a:Rp} {o:Int} (oa:OkP a):(Cl (ajm a o).1.vars (ajm a o).1.terms∧(ajm a o).1.terms.length≤100000)∧(Cl (ajm a o).2.vars (ajm a o).2.terms∧(ajm a o).2.terms.length≤100000):=by
 unfold ajm
 cases va:vp a with
 | false =>
  rw [if_neg Bool.false_ne_true]
  exact ⟨⟨Cl.nil _,by decide⟩,⟨Cl.nil _,by decide⟩⟩
 | true =>
  rw [if_pos rfl]
  obtain ⟨ka,a0,a8,al⟩:=eJ oa va
  have h1:=List.length_filter_le (loB o) a.terms
  have h2:=List.length_filter_le (hiB o) a.terms
  exact ⟨⟨ka.filter _,by show (List.filter (loB o) a.terms).length≤_; omega⟩,⟨ka.filter _,by show (List.filter (hiB o) a.terms).length≤_; omega⟩⟩
theorem apP {v p:Int}:∀ {ts:List Rt} {q:List Rt × List Rt},Cl v ts→aj1 p ts=some q→(Cl v q.1∧q.1.length≤ts.length∧∀ y ∈ q.1,∃ t ∈ ts,y.exps=t.exps)∧(Cl v q.2∧q.2.length≤ts.length∧∀ y ∈ q.2,∃ t ∈ ts,y.exps=t.exps)
 | [],q,_,h=>by
  cases h
  exact ⟨⟨Cl.nil v,Nat.le_refl _,(fun _ h=>nomatch h)⟩,⟨Cl.nil v,Nat.le_refl _,(fun _ h=>nomatch h)⟩⟩
 | t::ts,q,c,h=>by
  obtain ⟨vt,ht,c2⟩:=c.cons
  unfold aj1 at h
  split at h
  ·split at h
   ·rw [Option.map_eq_some_iff] at h
    obtain ⟨q2,h2,rfl⟩:=h
    obtain ⟨⟨k1,k2,k3⟩,⟨k4,k5,k6⟩⟩:=apP c2 h2
    have key:∀ {d:Rd} {l:List Rt},vd d=true→Ok0 d→Cl v l→l.length≤ts.length→(∀ y ∈ l,∃ t ∈ ts,y.exps=t.exps)→Cl v (vw t.exps d l)∧(vw t.exps d l).length≤(t::ts).length∧∀ y ∈ vw t.exps d l,∃ q ∈ t::ts,y.exps=q.exps:=by
     intro d l vdd od cl hl hy
     unfold vw
     split
     ·refine ⟨cl,by simp; omega,fun y h=>?_⟩
      obtain ⟨q,hq,he⟩:=hy y h
      exact ⟨q,by simp [hq],he⟩
     ·rename_i h0
      refine ⟨Cl.mk' (vt.put od vdd h0) (fun y h=>?_) cl,by simp; omega,fun y h=>?_⟩
      ·obtain ⟨q,hq,he⟩:=hy y h
       show bj t.exps y.exps < 0
       rw [he]
       exact ht q hq
      ·rcases List.mem_cons.1 h with rfl | h
       ·exact ⟨t,by simp,rfl⟩
       ·obtain ⟨q,hq,he⟩:=hy y h
        exact ⟨q,by simp [hq],he⟩
    exact ⟨key (alk _ _).1 (alk _ _).2 k1 k2 k3,key (agz _ _).1 (agz _ _).2 k4 k5 k6⟩
   ·cases h
  ·cases h
theorem asl {a:Rp} {p:Int} (oa:OkP a):Res ((ajT a p).1.1,(ajT a p).2)∧Res ((ajT a p).1.2,(ajT a p).2):=by
 have h0:∀ e,Res (p0,e):=fun e=>⟨Cl.nil _,Nat.zero_le _,.inr rfl⟩
 unfold ajT
 cases va:vp a with
 | false =>
  rw [if_neg Bool.false_ne_true]
  exact ⟨h0 _,h0 _⟩
 | true =>
  rw [if_pos rfl]
  split
  ·exact ⟨h0 _,h0 _⟩
  ·obtain ⟨ka,a0,a8,al⟩:=eJ oa va
   cases hr:aj1 p a.terms with
   | none=>exact ⟨h0 _,h0 _⟩
   | some q =>
    obtain ⟨⟨k1,k2,_⟩,⟨k3,k4,_⟩⟩:=apP ka hr
    exact ⟨⟨k1,by show q.1.length≤_; omega,.inl rfl⟩,⟨k3,by show q.2.length≤_; omega,.inl rfl⟩⟩
theorem atV {a:Rp} {i:Int} {d:Rd} (oa:OkP a):Res (amb a i d):=by
 have h0:∀ e,Res (p0,e):=fun e=>⟨Cl.nil _,Nat.zero_le _,.inr rfl⟩
 unfold amb
 split
 ·rename_i hv
  rw [Bool.and_eq_true] at hv
  obtain ⟨ka,a0,a8,al⟩:=eJ oa hv.1
  split
  ·exact h0 _
  ·have hsm:=fun l h=>ani (v:=a.vars) (j:=i.toNat) (d:=d) (l:=l) ka.t h
   generalize (aiZ i.toNat d a.terms).bind (ej [])=o at hsm ⊢
   cases o with
   | none=>exact h0 _
   | some l =>
    obtain ⟨k1,k2⟩:=hsm l rfl
    show Res (if 500 < l.length then (p0,(5:Int)) else (⟨a.vars,l⟩,0))
    rw [if_neg (by omega)]
    exact ⟨k1,by show l.length≤_; omega,.inl rfl⟩
 ·exact h0 _
theorem atW {a:Rp} {o p i:Int} {c:Rd} (haw:R F.l23_awake [] []=some (B true,[])) (oa:∀ t ∈ a.terms,Ok0 t.c) (la:a.terms.length < 4611686018427387904) (oc:Ok0 c) :
  R F.l23_PolyParts [bm a,I o,I p,I i,aF c] []=some (B true,[]):=by
 refine aZ amj ami (alx false) rfl ?_
 have hg:=OO (l:=[a]) (by simp) (fun x hx=>by simp at hx; subst hx; exact la)
 simp only [xx,Ji,List.map_cons,List.map_nil] at hg
 cases h:[a].any mT with
 | true =>
  rw [h] at hg
  simp only [ais,ajs,bm,aF,aW,go_sem,↓reduceIte,aez,aeB,aeA,aeC,aeE,haw,hg]
  done
 | false =>
  rw [h] at hg
  simp only [List.any_cons,List.any_nil,Bool.or_false] at h
  have ka:=HC oa h
  have hlc:=ags (l:=[c])
  simp only [Ma,List.map_cons,List.map_nil,aW] at hlc
  cases h4:afz [c] with
  | true =>
   rw [h4] at hlc
   simp only [ais,ajs,bm,aF,aW,go_sem,↓reduceIte,aez,aeB,aeA,aeC,aeE,haw,hg,hlc]
   done
  | false =>
   rw [h4] at hlc
   have q1:=asc ka (o:=o)
   have q2:=aqU ka (o:=o)
   obtain ⟨⟨s1,s2⟩,⟨s3,s4⟩⟩:=ask ka (o:=o)
   have m1:=amW s1 s1 s2
   have m2:=amW s3 s3 s4
   rw [alj s1] at m1
   rw [alj s3] at m2
   have q3:=ash ka (p:=p)
   have q4:=aqV ka (p:=p)
   obtain ⟨r1,r2⟩:=asl ka (p:=p)
   have i1:=aqR r1
   have i2:=aqR r2
   have q5:=atT ka oc (i:=i)
   have q6:=as1 ka oc (i:=i)
   have i3:=aqR (atV ka (i:=i) (d:=c))
   generalize ajm a o=sp at *
   generalize ajT a p=ro at *
   generalize amb a i c=fx at *
   simp only [ppV,prV,pV,bm,aF,aW] at q1 q2 q3 q4 q5 q6 m1 m2 i1 i2 i3
   simp only [ais,ajs,bm,aF,aW,go_sem,↓reduceIte,aez,aeB,aeA,aeC,aeE,haw,hg,hlc,q1,q2,q3,q4,q5,q6,m1,m2,i1,i2,i3]
end Go.Ab
namespace Go.Ab
open Go Go.IntWalk
set_option maxRecDepth 4000
set_option maxHeartbeats 1000000
def sW:Env:=⟨fun f=>ER.lookup f,au.C,au.md⟩
noncomputable def R0:cT:=cR sW
theorem tV {f:FuncId} {fd:FD} {args:List AV} {hs:List Ob} {r:AV × List Ob} (hE:sW.E f=none) (hC:sW.C f=some fd) (hk:sW.md.keep f=false) (h1:args.length=fd.np) (h2:hs.length≤1000)
  (hz:ajf false fd.rs fd.res hs.length (az R0 (ab false) fd.body (pi args) (ae hs))=some r):R0 f args hs=some r:=by
 refine wL hE hC ?_
 unfold FW
 rw [if_pos ⟨h1,h2⟩,hk]
 exact hz
theorem oR (o:Ob):ae [o]=upd (fun _=>.dead) 1000 o:=by
 funext i
 unfold ae upd
 by_cases h:i=1000
 ·subst h
  rfl
 ·rw [if_neg h]
  split
  ·rw [List.getElem?_eq_none (by simp; omega)]
   rfl
  ·rfl
theorem OW {r:List AV} {rs:List (List AV)} (h:(rs.length+1)*8≤140737488355328):R0 F.slices_Clone_int_int_ [.sl 1 (r::rs)] []=some (.osl 1 (r::rs),[]):=by
 refine tV (fd:=dY) (by kernel_rfl) (by kernel_rfl) (by kernel_rfl) rfl (by decide) ?_
 have e1:((rs.length+1)*8≤140737488355328)=True:=eq_true h
 have e2:xC false (.sl 1 (r::rs))=some (B false):=rfl
 simp only [dY,mu,go_sem,↓reduceIte,aez,aeC,aeE,e1,e2,List.length_cons,List.length_nil,Nat.zero_add,Nat.zero_le,Nat.le_refl,true_and,true_or,List.nil_append]
theorem OX:dK 4 .emp (some (I 0)) none none=some .emp:=rfl
theorem QZ {r:List AV}:R0 F.slices_Insert_api_Term_api_Term_ [.emp,I 0,.sl 4 [r]] []=some (.osl 4 [r],[]):=by
 refine tV (fd:=aH) (by kernel_rfl) (by kernel_rfl) (by kernel_rfl) rfl (by decide) ?_
 have e1:((1:Int)=0)=False:=by decide
 simp only [aH,bE,go_sem,↓reduceIte,aez,aeB,aeA,aeC,aeE,OX,List.length_cons,List.length_nil,Int.natCast_one,e1,Nat.zero_add]
theorem pL {n i:Nat} (h:i≤n):ia n (some (I i)) none none=some (i,n):=by
 simp only [ia,gJ,Option.bind_some]
 rw [if_pos ⟨by omega,by omega⟩]
 rfl
theorem MD {id k l0 n i:Nat} (h:i≤n):dK k (.rsl id none k l0 n) (some (I i)) none none=some (.rsl id none k (l0+i) (n - i)):=by
 simp only [dK,if_true,pL h,Option.map_some,Option.isNone_none]
theorem CN {h:aa} {j k n:Nat} {rows:List (List AV)} (hj:aG j=false) (hh:h j=.ar k rows) (hn:n=rows.length) (hc:aB [1000] (h 1000)=true):n9 [[]] 1 h [.rsl j none k 0 n]=some (.osl k rows,[h 1000]):=by
 subst hn
 have hp:bU 1=[1000]:=rfl
 unfold n9
 rw [if_pos]
 ·simp [lX,lA,ge,hj,hh,qq,kX,aM,nrmV,nrmL,hp]
 ·simp [hp,hc,fw,bk,cP,hj]
theorem ME {r:List AV} {rows:List (List AV)} {n:Nat} (hn:n=rows.length) (hb:(n+1)*64≤140737488355328):R0 F.slices_Insert_api_Term_api_Term_ [.rsl 1000 none 4 0 n,I n,.sl 4 [r]] [.ar 4 rows]=some (.osl 4 (rows++[r]),[.dead]):=by
 refine tV (fd:=aH) (by kernel_rfl) (by kernel_rfl) (by kernel_rfl) rfl (by simp) ?_
 subst hn
 rw [oR]
 have e1:((1:Int)=0)=False:=by decide
 have e2:=MD (id:=1000) (k:=4) (l0:=0) (Nat.le_refl rows.length)
 have e3:((rows.length+1)*64≤140737488355328)=True:=eq_true hb
 have e4:(rows.length+1≤rows.length)=False:=eq_false (by omega)
 have e5:∀ h,yL h 25 4 64 1000 4 0 rows.length [r] 4 rows=bR (upd h 1000 .dead) 25 4 (rows++[r]) (rows.length+1) [(1000,false)]:=fun h=>by
  simp only [yL,List.length_singleton]
  rw [if_neg (by omega),if_pos ⟨trivial,trivial,trivial,trivial,hb⟩]
 simp only [aH,bE,go_sem,↓reduceIte,aez,aeB,aeA,aeC,aeE,List.length_cons,List.length_nil,Int.natCast_one,e1,e2,e3,e4,e5,Nat.zero_add,Nat.add_zero,Nat.sub_self,or_self,Nat.le_refl,List.length_append]
 exact CN rfl rfl (by simp) rfl
theorem SN {f:FuncId} {g:List AV→List Ob→Option (AV × List Ob)} {args:List AV} {hs:List Ob} (hE:sW.E f=some g):R0 f args hs=g args hs:=uH hE
theorem Q0 {h:aa} {d:Nat} {r:List AV} {rows:List (List AV)} {lo m:Nat} (hh:h 1000=.ar 4 rows) (hd:h (2000+8*d)=.dead) :
  aj R0 (ab false) h d [.sl 4 [r],.rsl 1000 none 4 lo m] (.fn F.slices_overlaps_api_Term_ [] [])=some (B false,upd h 1000 (.ar 4 rows),[(1000,true)]):=by
 have hm:(ab false).m F.slices_overlaps_api_Term_=[0,1]:=by kernel_rfl
 have hs:(ab false).sh F.slices_overlaps_api_Term_=[]:=by kernel_rfl
 have hk:(ab false).keep F.slices_overlaps_api_Term_=false:=by kernel_rfl
 have hf:R0 F.slices_overlaps_api_Term_ [.sl 4 [r],.rsl 1000 none 4 lo m] [.ar 4 rows]=some (B false,[.ar 4 rows]):=by
  rw [SN (g:=IK 4) (by kernel_rfl)]
  simp [IK]
 have hb:jJ (ab false) [.sl 4 [r],.rsl 1000 none 4 lo m] (.fn F.slices_overlaps_api_Term_ [] [])=false:=by
  simp [jJ,hm]
 have hr:bM h 40 [1000] 0=[1000]:=by
  simp [bM,hh,ug,bp]
 have hn:ch (B false)=1:=rfl
 unfold aj
 rw [if_neg (by rw [hb]; exact Bool.false_ne_true)]
 have h1:ah h [0,1] [.sl 4 [r],.rsl 1000 none 4 lo m]=some ([.sl 4 [r],.rsl 1000 none 4 lo m],h,[]):=by
  simp [ah,bP,mK,dv,ak]
 have h2:bp [] ([AV.sl 4 [r],.rsl 1000 none 4 lo m].flatMap bk)=[1000]:=by
  simp [bk,cP,bp]
 have h3:aV [1000] 1000=1000:=rfl
 simp only [dq,hm,List.nil_append,List.append_nil,h1,Option.bind_some,h2,hr,hs]
 simp [jI,aM,aJ,aO,hh,aB,cz,cQ,fZ,h3,cD,hf,et,hn,cr,hd,cU,bf,mU,uj,kV,cP,eE,da,rl,cB,mat,bW,dF,hk,ui,hm]
theorem Ds {id k l0 n i:Nat}:dK k (.rsl id none k l0 n) (some (I i)) none none=(ia n (some (I i)) none none).map fun p=>.rsl id none k (l0+p.1) (p.2 - p.1):=by
 simp only [dK,if_true,Option.isNone_none]
theorem MF {n c i:Nat} (h:i≤c):gJ n c (some (I i))=some i:=by
 simp only [gJ]
 rw [if_pos ⟨by omega,by omega⟩]
 rfl
theorem Q1 {r:List AV} {rows:List (List AV)} {n i:Nat} (hn:n=rows.length) (hi:i < n) (hb:(n+1)*64≤140737488355328) :
  R0 F.slices_Insert_api_Term_api_Term_ [.rsc 1000 4 0 n n,I i,.sl 4 [r]] [.ar 4 rows]=some (.osl 4 (rows.take i++r::rows.drop i),[.ar 4 rows]):=by
 refine tV (fd:=aH) (by kernel_rfl) (by kernel_rfl) (by kernel_rfl) rfl (by simp) ?_
 rw [oR]
 have e1:((1:Int)=0)=False:=by decide
 have e2:((i:Int)=(n:Int))=False:=eq_false (by omega)
 have e3:IntKind.i64.wrap ((n:Int)+1)=((n+1:Nat):Int):=wi (by omega) (by omega)
 have e4:((n:Int) < ((n+1:Nat):Int))=True:=eq_true (by omega)
 have e5:IntKind.i64.wrap (((n+1:Nat):Int) - (i:Int))=((n+1 - i:Nat):Int):=wi (by omega) (by omega)
 have e6:IntKind.i64.wrap ((i:Int)+1)=((i+1:Nat):Int):=wi (by omega) (by omega)
 have b1:=pL (n:=n) (i:=i) (by omega)
 have b2:=MF (n:=n) (c:=n) (i:=i) (by omega)
 have b3:=pL (n:=n+1) (i:=i) (by omega)
 have b4:=pL (n:=n+1) (i:=i+1) (by omega)
 have f1:((0:Int) < ((n+1 - i:Nat):Int))=True:=eq_true (by omega)
 have f2:(n < i+((n+1 - i:Nat):Int).toNat)=True:=eq_true (by omega)
 have f3:i+((n+1 - i:Nat):Int).toNat=n+1:=by omega
 have f4:(i≤rows.length)=True:=eq_true (by omega)
 have f5:((n+1)*64≤140737488355328)=True:=eq_true hb
 have f6:(n < n+1)=True:=eq_true (by omega)
 obtain ⟨A,hA⟩:∃ A,rows.take i++List.replicate ((n+1 - i:Nat):Int).toNat [AV.emp,B false,AV.emp,I 0]=A:=⟨_,rfl⟩
 have a1:A.length=n+1:=by rw [← hA,List.length_append,List.length_take,List.length_replicate]; omega
 have a2:A.take i=rows.take i:=by
  rw [← hA,List.take_append_of_le_length (by rw [List.length_take]; omega),List.take_of_length_le (by rw [List.length_take]; omega)]
 have a3:(i≤A.length)=True:=eq_true (by omega)
 obtain ⟨D,hD⟩:∃ D,A.take i++[r]++A.drop (i+1)=D:=⟨_,rfl⟩
 have d1:D.length=n+1:=by
  rw [← hD,List.length_append,List.length_append,List.length_take,List.length_drop,List.length_singleton]
  omega
 have d2:D.take (i+1)=rows.take i++[r]:=by
  rw [← hD,a2,List.take_append_of_le_length (by rw [List.length_append,List.length_take,List.length_singleton]; omega),List.take_of_length_le (by rw [List.length_append,List.length_take,List.length_singleton]; omega)]
 have d3:(i+1≤D.length)=True:=eq_true (by omega)
 have t1:List.take (n+1 - i) [r]=[r]:=List.take_of_length_le (by rw [List.length_singleton]; omega)
 have t2:(rows.drop i).take (n - i)=rows.drop i:=List.take_of_length_le (by rw [List.length_drop]; omega)
 have t3:(1=min 1 (n+1 - i))=True:=eq_true (by omega)
 have t4:n+1 - (i+1)=n - i:=by omega
 have t5:(i+(n - i)≤rows.length)=True:=eq_true (by omega)
 have t6:(rows.drop i).length=n - i:=by rw [List.length_drop]; omega
 have t7:D.drop (i+1+(n - i))=[]:=List.drop_eq_nil_of_le (by omega)
 simp only [aH,bE,go_sem,↓reduceIte,aez,aeB,aeA,aeC,aeE,List.length_cons,List.length_nil,Int.natCast_one,e1,e2,e3,e4,e5,e6,b1,b2,b3,b4,f1,f2,f3,f4,f5,f6,hA,hD,a3,d3,t1,t2,t3,t4,t5,t6,t7,Nat.min_self,Nat.zero_add,Nat.add_zero,Nat.sub_self,or_self,Nat.le_refl,Ds,and_self]
 rw [d2]
 have hfin:rows.take i++[r]++rows.drop i=rows.take i++r::rows.drop i:=by rw [List.append_assoc]; rfl
 rw [hfin]
 exact CN rfl rfl (by rw [List.length_append,List.length_take,List.length_cons,List.length_drop]; omega) rfl
theorem Q2 {r:List AV} {rows:List (List AV)} {n i c:Nat} (hn:n=rows.length) (hi:i < n) (hc:n+1≤c) (hb:(n+1)*64≤140737488355328) :
  R0 F.slices_Insert_api_Term_api_Term_ [.rsc 1000 4 0 n c,I i,.sl 4 [r]] [.ar 4 rows]=some (.osl 4 (rows.take i++r::rows.drop i),[.dead]):=by
 refine tV (fd:=aH) (by kernel_rfl) (by kernel_rfl) (by kernel_rfl) rfl (by simp) ?_
 rw [oR]
 have e1:((1:Int)=0)=False:=by decide
 have e2:((i:Int)=(n:Int))=False:=eq_false (by omega)
 have e3:IntKind.i64.wrap ((n:Int)+1)=((n+1:Nat):Int):=wi (by omega) (by omega)
 have e4:((c:Int) < ((n+1:Nat):Int))=False:=eq_false (by omega)
 have e6:IntKind.i64.wrap ((i:Int)+1)=((i+1:Nat):Int):=wi (by omega) (by omega)
 have b1:=pL (n:=n) (i:=i) (by omega)
 have b2:=MF (n:=n) (c:=c) (i:=n+1) hc
 have b3:=pL (n:=n+1) (i:=i) (by omega)
 have b4:=pL (n:=n+1) (i:=i+1) (by omega)
 have o1:=fun (h:aa) (h0:h 1000=.ar 4 rows) (h1:h (2000+8*67)=.dead)=>Q0 (r:=r) (lo:=i+1) (m:=n - i) h0 h1
 have t1:List.take (n+1 - i) [r]=[r]:=List.take_of_length_le (by rw [List.length_singleton]; omega)
 have t2:(rows.drop i).take (n - i)=rows.drop i:=List.take_of_length_le (by rw [List.length_drop]; omega)
 have t3:(1=min 1 (n+1 - i))=True:=eq_true (by omega)
 have t4:n+1 - (i+1)=n - i:=by omega
 have t5:(i+(n - i)≤rows.length)=True:=eq_true (by omega)
 have t6:(rows.drop i).length=n - i:=by rw [List.length_drop]; omega
 have t8:min (n - i) (n+1 - i)=n - i:=by omega
 have t9:(n - i=min (n+1 - i) (n - i))=True:=eq_true (by omega)
 have f4:(i+1≤rows.length)=True:=eq_true (by omega)
 have t7:rows.drop (i+1+(n - i))=[]:=List.drop_eq_nil_of_le (by omega)
 obtain ⟨A,hA⟩:∃ A,rows.take (i+1)++rows.drop i=A:=⟨_,rfl⟩
 have a1:A.length=n+1:=by
  rw [← hA,List.length_append,List.length_take,List.length_drop]
  omega
 have a2:A.take i=rows.take i:=by
  rw [← hA,List.take_append_of_le_length (by rw [List.length_take]; omega),List.take_take,Nat.min_eq_left (by omega)]
 have a4:A.drop (i+1)=rows.drop i:=by
  rw [← hA,List.drop_append_of_le_length (by rw [List.length_take]; omega),List.drop_eq_nil_of_le (by rw [List.length_take]; omega),List.nil_append]
 have a3:(i≤A.length)=True:=eq_true (by omega)
 simp only [aH,bE,go_sem,↓reduceIte,aez,aeB,aeA,aeC,aeE,List.length_cons,List.length_nil,Int.natCast_one,e1,e2,e3,e4,e6,b1,b2,b3,b4,t4,Nat.zero_add]
 rw [o1 _ rfl rfl]
 simp only [go_sem,↓reduceIte,aez,aeB,aeA,aeC,aeE,aeD,List.length_cons,List.length_nil,Int.natCast_one,e1,e2,e3,e4,e6,b1,b2,b3,b4,t1,t2,t3,t4,t5,t6,t7,t8,t9,f4,a3,hA,Nat.zero_add,Nat.add_zero,Nat.sub_self,or_self,Nat.le_refl,Ds,and_self]
 rw [a2,a4,show rows.take i++[r]++rows.drop i=rows.take i++r::rows.drop i by rw [List.append_assoc]; rfl]
 exact CN rfl rfl (by rw [List.length_append,List.length_take,List.length_cons,List.length_drop]; omega) rfl
def vL (c1 c2:cT):Prop:=∀ f a hs r,c1 f a hs=some r→c2 f a hs=some r
section
variable {c1 c2:cT} {md:Mode}
theorem Ip (hc:vL c1 c2) {h:aa} {d:Nat} {zas:List AV} {f:AV} {r:R3} (hz:dq c1 md h d zas f=some r):dq c2 md h d zas f=some r:=by
 cases f <;> simp only [dq] at hz ⊢ <;> try (cases hz; done)
 simp only [Option.bind_eq_some_iff] at hz ⊢
 obtain ⟨p,e1,e2⟩:=hz
 unfold jI at e2 ⊢
 split at e2
 ·rename_i hcc
  simp only [Option.bind_eq_some_iff] at e2
  obtain ⟨q,e3,e4⟩:=e2
  refine ⟨p,e1,?_⟩
  rw [if_pos hcc]
  simp only [Option.bind_eq_some_iff]
  exact ⟨q,hc _ _ _ _ e3,e4⟩
 ·cases e2
theorem BB (hc:vL c1 c2) {h:aa} {d:Nat} {zas:List AV} {f:AV} {r:R3} (hz:aj c1 md h d zas f=some r):aj c2 md h d zas f=some r:=by
 unfold aj at hz ⊢
 split at hz
 ·rename_i hb
  rw [if_pos hb]
  cases f <;> simp only [At] at hz ⊢ <;> try (cases hz; done)
  simp only [Option.bind_eq_some_iff] at hz ⊢
  obtain ⟨p,e1,q,e3,e4⟩:=hz
  exact ⟨p,e1,q,hc _ _ _ _ e3,e4⟩
 ·rename_i hb
  rw [if_neg hb]
  exact Ip hc hz
theorem Dt (hc:vL c1 c2) {d:Nat} {op:AOp} {s:af} {h:aa} {r:R3} (hz:step c1 md d op s h=some r):step c2 md d op s h=some r:=by
 cases op with
 | call f zas=>exact BB hc hz
 | callC f zas =>
  simp only [step,Option.bind_eq_some_iff] at hz ⊢
  obtain ⟨q,e1,e2⟩:=hz
  exact ⟨q,BB hc e1,e2⟩
 | _=>exact hz
theorem Du (hc:vL c1 c2) {d:Option Nat} {op:AOp} {s:af} {h:aa} {t:St} (hz:bN md.nm s d (step c1 md (d.getD 0) op s h)=some t):bN md.nm s d (step c2 md (d.getD 0) op s h)=some t:=by
 cases hs:step c1 md (d.getD 0) op s h with
 | none=>rw [hs] at hz; cases hz
 | some r =>
  rw [hs] at hz
  rw [Dt hc hs]
  exact hz
theorem KU (hc:vL c1 c2) {o:COp} {s:af} {h:aa} {t:St} (hz:gb c1 md o s h=some t):gb c2 md o s h=some t:=by
 unfold gb at hz ⊢
 cases hg:o.g with
 | none=>rw [hg] at hz; exact Du hc hz
 | some g =>
  rw [hg] at hz
  simp only at hz ⊢
  unfold fC at hz ⊢
  split at hz
  ·split at hz
   ·rename_i hb
    simp only [if_pos hb]
    exact Du hc hz
   ·rename_i hb
    simp only [if_neg hb]
    exact hz
  ·exact hz
  ·cases hz
theorem rT (hc:vL c1 c2):∀ {l:List COp} {s:af} {h:aa} {t:St},ao c1 md l s h=some t→ao c2 md l s h=some t
 | [],s,h,t,hz=>hz
 | o::l,s,h,t,hz=>by
  simp only [ao,aK] at hz
  split at hz
  ·cases hz
  ·rename_i t1 ht1
   simp only [ao,aK,KU hc ht1,rT hc hz]
theorem BC (hc:vL c1 c2) {d:Option Nat} {op:AOp} {s:af} {h:aa} {f:aa→Fp} {t:St × Fp} (hz:fq s d f (step c1 md (d.getD 0) op s h)=some t):fq s d f (step c2 md (d.getD 0) op s h)=some t:=by
 cases hs:step c1 md (d.getD 0) op s h with
 | none=>rw [hs] at hz; cases hz
 | some r =>
  rw [hs] at hz
  rw [Dt hc hs]
  exact hz
theorem KV (hc:vL c1 c2) {o:COp} {s:af} {h:aa} {t:St × Fp} (hz:cj c1 md o s h=some t):cj c2 md o s h=some t:=by
 unfold cj at hz ⊢
 cases hg:o.g with
 | none=>rw [hg] at hz; exact BC hc hz
 | some g =>
  rw [hg] at hz
  simp only at hz ⊢
  unfold jL at hz ⊢
  split at hz
  ·split at hz
   ·rename_i hb
    simp only [if_pos hb]
    exact BC hc hz
   ·rename_i hb
    simp only [if_neg hb]
    exact hz
  ·exact hz
  ·cases hz
theorem xy (hc:vL c1 c2):∀ {l:List COp} {s:af} {h:aa} {t:St × List Fp},dD c1 md l s h=some t→dD c2 md l s h=some t
 | [],s,h,t,hz=>hz
 | o::l,s,h,t,hz=>by
  simp only [dD,Option.bind_eq_some_iff] at hz
  obtain ⟨r,e1,q,e2,e3⟩:=hz
  simp only [dD,KV hc e1,xy hc e2,Option.bind_some,e3]
theorem KW (hc:vL c1 c2) {l:List COp} {ps:List (Nat × Nat)} {s:af} {h:aa} {t:St} (hz:jM c1 md l ps s h=some t):jM c2 md l ps s h=some t:=by
 unfold jM at hz ⊢
 cases hb:pQ ps with
 | none =>
  rw [hb] at hz
  simp only [pX,Option.bind_eq_some_iff] at hz
  obtain ⟨q,e1,e2⟩:=hz
  simp only [pX,xy hc e1,Option.bind_some,e2]
 | some b =>
  rw [hb] at hz
  simp only [uk,Option.bind_eq_some_iff] at hz
  obtain ⟨q,e1,e2⟩:=hz
  split at e2
  ·rename_i hps
   simp only [aK] at e2
   split at e2
   ·cases e2
   ·rename_i t1 ht1
    simp only [uk,xy hc e1,Option.bind_some,if_pos hps,ht1,aK,rT hc e2]
  ·cases e2
theorem xz {b1 b2:af→aa→Option (Ex × St)} {ks hs:List Nat} (ih:∀ {s:af} {h:aa} {r:Ex × St},b1 s h=some r→b2 s h=some r) :
  ∀ (m:Nat) {j:Nat},m≤j→∀ {s:af} {h:aa} {r:Ex × St},kJ b1 ks hs m s h=some r→kJ b2 ks hs j s h=some r
 | 0,j,hj,s,h,r,hz=>by simp [kJ] at hz
 | m+1,j,hj,s,h,r,hz=>by
  obtain ⟨j,rfl⟩:∃ j',j=j'+1:=⟨j - 1,by omega⟩
  simp only [kJ] at hz ⊢
  split at hz
  ·rename_i hc
   rw [if_pos hc]
   cases hb:b1 (mk .any (fun i=>eF hs (s i)) ks) (mk .dead h hs) with
   | none=>rw [hb] at hz; cases hz
   | some q =>
    rw [hb] at hz
    rw [ih hb]
    obtain ⟨ex,t⟩:=q
    cases ex with
    | normal=>exact xz ih m (by omega) hz
    | exit id=>exact hz
    | ret=>exact hz
  ·cases hz
theorem eB (hc:vL c1 c2) {lf lf':Nat} (hl:lf≤lf'):∀ (c:Cmd) {s:af} {h:aa} {r:Ex × St},bd c1 md lf c s h=some r→bd c2 md lf' c s h=some r
 | .skip,s,h,r,hz=>hz
 | .ops ks l,s,h,r,hz=>by
  simp only [bd,aK] at hz
  split at hz
  ·cases hz
  ·rename_i t1 ht1
   simp only [bd,rT hc ht1,aK]
   exact hz
 | .dops ks l ps,s,h,r,hz=>by
  simp only [bd,aK] at hz
  split at hz
  ·cases hz
  ·rename_i t1 ht1
   simp only [bd,KW hc ht1,aK]
   exact hz
 | .seq a b,s,h,r,hz=>by
  simp only [bd,dG] at hz
  split at hz
  ·cases hz
  ·rename_i t1 ht1
   simp only [bd,dG,eB hc hl a ht1,eB hc hl b hz]
  ·rename_i i t1 ht1
   simp only [bd,dG,eB hc hl a ht1]
   exact hz
  ·rename_i t1 ht1
   simp only [bd,dG,eB hc hl a ht1]
   exact hz
 | .cond c a b,s,h,r,hz=>by
  simp only [bd,jN] at hz
  split at hz
  ·rename_i t ht
   cases t with
   | true=>simp only [bd,jN,ht,if_true]; exact eB hc hl a hz
   | false=>simp only [bd,jN,ht,Bool.false_eq_true,if_false]; exact eB hc hl b hz
  ·cases hz
 | .block id ks a,s,h,r,hz=>by
  simp only [bd,aI] at hz
  split at hz
  ·cases hz
  ·rename_i t1 ht1
   simp only [bd,aI,eB hc hl a ht1]
   exact hz
  ·rename_i i t1 ht1
   simp only [bd,aI,eB hc hl a ht1]
   exact hz
  ·rename_i t1 ht1
   simp only [bd,aI,eB hc hl a ht1]
   exact hz
 | .loop ks hs a,s,h,r,hz=>by
  simp only [bd] at hz ⊢
  exact xz (fun hh=>eB hc hl a hh) lf hl hz
 | .exit id,s,h,r,hz=>hz
 | .ret,s,h,r,hz=>hz
 | .frz is a,s,h,r,hz=>by
  simp only [bd,aK] at hz
  split at hz
  ·cases hz
  ·rename_i t1 ht1
   simp only [bd,aK,ht1]
   exact eB hc hl a hz
end
abbrev Ak:=List (Nat × List AV × AV)
def HJ:Ak→FuncId→List AV→Option AV
 | [],_,_=>none
 | x::l,f,args=>if x.1=f then (if wg x.2.1 args=true then some x.2.2 else HJ l f args) else HJ l f args
def Jt (a:Option AV) (hs:List Ob) (b:Option (AV × List Ob)):Option (AV × List Ob):=match a,hs with
 | some r,[]=>some (r,[])
 | _,_=>b
def CO (e:Env) (T:Ak):Nat→cT
 | 0=>fun _ _ _=>none
 | n+1=>fun f args hs=>Jt (HJ T f args) hs (match e.E f with
  | some g=>g args hs
  | none=>(e.C f).bind fun fd=>wl (CO e T n) { e.md with nm:=e.md.keep f } n fd args hs)
theorem CP {e:Env}:∀ {T:Ak} {f:FuncId} {args:List AV} {r:AV},(∀ x ∈ T,cR e x.1 x.2.1 []=some (x.2.2,[]))→HJ T f args=some r→cR e f args []=some (r,[])
 | [],f,args,r,_,h=>by cases h
 | x::l,f,args,r,ht,h=>by
  unfold HJ at h
  split at h
  ·rename_i h1
   split at h
   ·rename_i h2
    cases h
    have:=ht x (by simp)
    rw [h1,oi h2] at this
    exact this
   ·exact CP (fun y hy=>ht y (by simp [hy])) h
  ·exact CP (fun y hy=>ht y (by simp [hy])) h
theorem kF {call:cT} {md:Mode} {lf:Nat}:∀ (c:Cmd) {s:af} {h:aa} {r:Ex × St},bd call md lf c s h=some r→az call md c s h=some r
 | .skip,s,h,r,hz=>hz
 | .ops ks l,s,h,r,hz=>hz
 | .dops ks l ps,s,h,r,hz=>hz
 | .seq a b,s,h,r,hz=>by
  simp only [bd,dG] at hz
  split at hz
  ·cases hz
  ·rename_i t1 ht1
   simp only [az,dG,kF a ht1,kF b hz]
  ·rename_i i t1 ht1
   simp only [az,dG,kF a ht1]
   exact hz
  ·rename_i t1 ht1
   simp only [az,dG,kF a ht1]
   exact hz
 | .cond c a b,s,h,r,hz=>by
  simp only [bd,jN] at hz
  split at hz
  ·rename_i t ht
   cases t with
   | true=>simp only [az,jN,ht,if_true]; exact kF a hz
   | false=>simp only [az,jN,ht,Bool.false_eq_true,if_false]; exact kF b hz
  ·cases hz
 | .block id ks a,s,h,r,hz=>by
  simp only [bd,aI] at hz
  split at hz
  ·cases hz
  ·rename_i t1 ht1
   simp only [az,aI,kF a ht1]
   exact hz
  ·rename_i i t1 ht1
   simp only [az,aI,kF a ht1]
   exact hz
  ·rename_i t1 ht1
   simp only [az,aI,kF a ht1]
   exact hz
 | .loop ks hs a,s,h,r,hz=>by
  simp only [bd] at hz
  simp only [az,aU]
  rw [iO]
  exact ⟨lf,fun k hk=>xz (fun hh=>kF a hh) lf hk hz⟩
 | .exit id,s,h,r,hz=>hz
 | .ret,s,h,r,hz=>hz
 | .frz is a,s,h,r,hz=>by
  simp only [bd,aK] at hz
  split at hz
  ·cases hz
  ·rename_i t1 ht1
   simp only [az,aK,ht1]
   exact kF a hz
theorem Ju {e:Env} {T:Ak} (ht:∀ x ∈ T,cR e x.1 x.2.1 []=some (x.2.2,[])):∀ n,vL (CO e T n) (cR e)
 | 0=>fun f a hs r hz=>by cases hz
 | n+1=>fun f a hs r hz=>by
  have old:(match e.E f with | some g=>g a hs | none=>(e.C f).bind fun fd=>wl (CO e T n) { e.md with nm:=e.md.keep f } n fd a hs)=some r→cR e f a hs=some r:=by
   intro hz
   split at hz
   ·rename_i g hE
    rw [uH hE]
    exact hz
   ·rename_i hE
    simp only [Option.bind_eq_some_iff] at hz
    obtain ⟨fd,hC,hz⟩:=hz
    refine wL hE hC ?_
    unfold wl at hz
    unfold FW
    split at hz
    ·rename_i hcc
     rw [if_pos hcc]
     cases hx:bd (CO e T n) { e.md with nm:=e.md.keep f } n fd.body (pi a) (ae hs) with
     | none=>rw [hx] at hz; cases hz
     | some q =>
      rw [hx] at hz
      rw [kF fd.body (eB (Ju ht n) (Nat.le_refl n) fd.body hx)]
      exact hz
    ·cases hz
  unfold CO at hz
  unfold Jt at hz
  split at hz
  ·rename_i r' hl
   cases hz
   exact CP ht hl
  ·exact old hz
theorem bO {e:Env}:∀ x ∈ ([]:Ak),cR e x.1 x.2.1 []=some (x.2.2,[]):=fun _ h=>by cases h
theorem cA {e:Env} {x:Nat × List AV × AV} {T:Ak} (h1:cR e x.1 x.2.1 []=some (x.2.2,[])) (h2:∀ x ∈ T,cR e x.1 x.2.1 []=some (x.2.2,[])):∀ y ∈ x::T,cR e y.1 y.2.1 []=some (y.2.2,[]):=fun y hy=>by
 rcases List.mem_cons.1 hy with rfl | hy
 ·exact h1
 ·exact h2 y hy
theorem hF {e:Env} (T:Ak) (n:Nat) (x:Nat × List AV × AV) (ht:∀ x ∈ T,cR e x.1 x.2.1 []=some (x.2.2,[])) (h:CO e T n x.1 x.2.1 []=some (x.2.2,[])):cR e x.1 x.2.1 []=some (x.2.2,[]):=Ju ht n _ _ _ _ h
end Go.Ab
namespace Go.Ab
open Go Go.Proofs Go.Shelf
def PN:Ren:=⟨fun | 28=>160 | n=>n,fun | 25=>133 | 27=>95 | 53=>193 | n=>n,fun n=>n⟩
theorem MG:Lays7.n28 Tryz.prog PN where
 mixed:=by kernel_rfl
 f28:=by kernel_rfl
 t0:=by kernel_rfl
 a0:=Tryz.isAgg0
 z0:=Tryz.sizeOf0
 v0:=Tryz.zeroValue0
 i0:=by kernel_rfl
 t3:=by kernel_rfl
 a3:=Tryz.isAgg3
 z3:=Tryz.sizeOf3
 v3:=Tryz.zeroValue3
 i3:=by kernel_rfl
 t4:=by kernel_rfl
 a4:=Tryz.isAgg4
 z4:=Tryz.sizeOf4
 v4:=Tryz.zeroValue4
 i4:=by kernel_rfl
 t5:=by kernel_rfl
 a5:=Tryz.isAgg5
 z5:=Tryz.sizeOf5
 v5:=Tryz.zeroValue5
 i5:=by kernel_rfl
 t25:=by kernel_rfl
 a25:=Tryz.isAgg133
 z25:=Tryz.sizeOf133
 v25:=Tryz.zeroValue133
 i25:=by kernel_rfl
 t27:=by kernel_rfl
 a27:=Tryz.isAgg95
 z27:=Tryz.sizeOf95
 v27:=Tryz.zeroValue95
 i27:=by kernel_rfl
 t53:=by kernel_rfl
 a53:=Tryz.isAgg193
 z53:=Tryz.sizeOf193
 v53:=Tryz.zeroValue193
 i53:=by kernel_rfl
 g0:=by kernel_rfl
def vf:Inv where
 p w X:=X 0∧TabAt 0 Lib.deBruijn32tab w
 stab:=fun {w w' X} h hs=>⟨h.1,fun j hj=>by rw [ir (hs 0 h.1)]; exact h.2 j hj⟩
 more:=fun h hx=>⟨hx 0 h.1,h.2⟩
theorem Jv:∀ (k x:Nat),Lib.ctzFrom k x=Dh k x
 | 0,x=>rfl
 | k+1,x=>by
  unfold Lib.ctzFrom Dh
  rw [Jv k (x / 2),Nat.add_comm]
set_option maxRecDepth 100000 in
theorem PO:ft Tryz.prog vf false F.bits_TrailingZeros32 Pf:=by
 intro args obs obs' res w X ρ vals n hz hn hi hr hs hv
 unfold Pf at hz
 split at hz
 ·rename_i x
  by_cases hc:0 < x∧x < 4294967296∧obs=[]
  ·rw [if_pos hc] at hz
   obtain ⟨h0,h1,rfl⟩:=hc
   simp only [Option.some.injEq,Prod.mk.injEq] at hz
   obtain ⟨rfl,rfl⟩:=hz
   have hv0:=hv 0 (.v (.int .u32 x)) (vals.getD 0 undef) rfl (by simp at hs; simp [Array.getD_eq_getD_getElem?,hs])
   have e0:vals=#[.int .u32 x]:=by
    simp only [List.length_cons,List.length_nil] at hs
    have:=hv0.v_inv.1
    apply Array.ext
    ·simpa using hs
    ·intro i h2 h3
     have:i=0:=by simp at h3; exact h3
     subst this
     simpa [Array.getD_eq_getD_getElem?,hs] using this
   subst e0
   obtain ⟨m,rfl⟩:∃ m:Nat,x=m:=⟨x.toNat,by omega⟩
   have key:=Any7.bits_TrailingZeros32 MG m (by omega) w fun _=>hi.2
   have he:(callFunc F.bits_TrailingZeros32 #[.int .u32 (m:Int)]).run Tryz.prog w=.ok (.enter F.bits_TrailingZeros32 #[.int .u32 (m:Int)]) w:=(enters_of (MG.f28) (by kernel_rfl) rfl:Proofs.Enters Tryz.prog (PN.f 28)) _ _
   unfold Enters
   rw [he]
   refine Calls.mono key fun e w' hw=>?_
   obtain ⟨rfl,rfl⟩:=hw
   refine ⟨ρ,hr,.refl _ _ _ _,?_⟩
   refine .dat ?_
   have:Lib.ctz 32 m=Dh 32 m:=by
    unfold Lib.ctz
    rw [if_neg (by omega),Jv]
   simp only [this,Int.toNat_natCast,mat,bW]
   exact .v _ rfl
  ·rw [if_neg hc] at hz
   cases hz
 ·cases hz
end Go.Ab
namespace Go.Ab
open Go Go.Proofs Go.ChangeShapes Go.WideShapes Go.Deep Go.RowKit
set_option maxRecDepth 100000
section
variable {H:Type} {enc:TypeId × Value→H} {w:World}
def BD (w:World) (b:Nat):Prop:=b < w.heap.size∧b ≠ 0
def xA (w:World):Prop:=∀ o v,w.cell? ⟨0,o,none⟩=some v→∃ n,v=.int .u8 n
def s6 (u:Value):Prop:=∀ n,u ≠ .int .u8 n
theorem SO (ht:xA w) {a:Addr} {u:Value} (h:w.cell? a=some u) (hn:s6 u):BD w a.block∧a.spot=none:=by
 have h1:a.spot=none:=by
  unfold World.cell? at h
  split at h
  ·split at h
   ·cases h
   ·rename_i hs
    simpa using hs
  ·cases h
 refine ⟨⟨?_,fun h0=>?_⟩,h1⟩
 ·unfold World.cell? at h
  split at h
  ·rename_i hb
   exact (Array.getElem?_eq_some_iff.1 hb).1
  ·cases h
 ·obtain ⟨b,o,s⟩:=a
  simp only at h0 h1
  subst h0 h1
  obtain ⟨n,hv⟩:=ht o u h
  exact hn n hv
def lS (w:World) (fs:List AV) (cs:List Value):Prop :=
 fs.length=cs.length∧∀ (j:Nat) (c:AV) (u:Value),fs[j]?=some c→cs[j]?=some u→RD w (BD w) c u∧ak c=true∧u.oneCell'=true
theorem lS.app {fa fb:List AV} {ca cb:List Value} (ha:lS w fa ca) (hb:lS w fb cb):lS w (fa++fb) (ca++cb):=by
 refine ⟨by simp [ha.1,hb.1],fun j c u h1 h2=>?_⟩
 by_cases hj:j < fa.length
 ·rw [List.getElem?_append_left hj] at h1
  rw [List.getElem?_append_left (by rw [← ha.1]; exact hj)] at h2
  exact ha.2 j c u h1 h2
 ·rw [List.getElem?_append_right (by omega)] at h1
  rw [List.getElem?_append_right (by rw [← ha.1]; omega),← ha.1] at h2
  exact hb.2 _ c u h1 h2
theorem lS.one {c:AV} {u:Value} (h:RD w (BD w) c u) (hd:ak c=true) (h1:u.oneCell'=true):lS w [c] [u]:=by
 refine ⟨rfl,fun j c' u' hc hu=>?_⟩
 cases j with
 | zero=>simp at hc hu; subst hc hu; exact ⟨h,hd,h1⟩
 | succ j=>simp at hc
noncomputable abbrev Tr (w:World) (enc:TypeId × Value→H) (n:Nat) (t:TypeId) (cs:List Value):Option (DataW H × List MemPlace):=DataW.trod enc Tryz.prog w 0 (fun _=>true) true n t cs
def qE (t:TypeId) (d:DataW H):Prop:=∀ m ∈ DataW.weights Tryz.prog t d,m≤reachBytes
theorem SP {e:TypeId}:∀ {l:List (DataW H)} {d:DataW H} {m:Nat},d ∈ l→m ∈ DataW.weights Tryz.prog e d→m ∈ DataW.weightsAll Tryz.prog e l
 | [],d,m,h,_=>by simp at h
 | a::l,d,m,h,hm=>by
  simp only [DataW.weightsAll,List.mem_append]
  rcases List.mem_cons.1 h with rfl | h
  ·exact .inl hm
  ·exact .inr (SP h hm)
theorem Jw {α:Type} {p:Nat→α→Prop}:∀ (n:Nat),(∀ i,i < n→∃ r,p i r)→∃ l:List α,l.length=n∧∀ (i:Nat) (r:α),l[i]?=some r→p i r
 | 0,_=>⟨[],rfl,fun i r h=>by simp at h⟩
 | n+1,h=>by
  obtain ⟨l,h1,h2⟩:=Jw n fun i hi=>h i (by omega)
  obtain ⟨r,hr⟩:=h n (by omega)
  refine ⟨l++[r],by simp [h1],fun i r' hi=>?_⟩
  by_cases hin:i < n
  ·rw [List.getElem?_append_left (by omega)] at hi
   exact h2 i r' hi
  ·rw [List.getElem?_append_right (by omega)] at hi
   have:i=n:=by
    have:=(List.getElem?_eq_some_iff.1 hi).1
    simp at this
    omega
   subst this
   simp [h1] at hi
   subst hi
   exact hr
theorem CQ {α:Type} {t e:TypeId} {k bs:Nat} (ht:Tryz.prog.underlying t=some (.slice e)) (hk:Tryz.prog.cellsOf e=k) (h0:0 < k) (hbs:Tryz.prog.bytesOf e=bs) (F:α→List AV) (Q:α→Prop) (hT:xA w)
  (hrow:∀ n cs' x,Tr w enc n e cs'=some x→qE e x.1→∃ r,Q r∧lS w (F r) cs'∧∃ u,cs'[0]?=some u∧s6 u) {fuel:Nat} {cs:List Value} {x:DataW H × List MemPlace}
  (h:Tr w enc fuel t cs=some x) (hw:qE t x.1):∃ (l:List α) (v:Value),cs=[v]∧(∀ r ∈ l,Q r)∧l.length*bs≤reachBytes∧RD w (BD w) (.sl k (l.map F)) v∧v.oneCell'=true∧s6 v:=by
 rcases open_slice ht h with ⟨rfl,_⟩ | ⟨a,len,cap,m,n,D,Pl,rfl,hb,hl,hm,hmm,rfl,hx⟩
 ·exact ⟨[],_,rfl,fun r hr=>by simp at hr,by simp,.sl k [] none 0 ⟨0,0,none⟩ (fun _ _=>undef) (by simp) (fun h=>absurd rfl h) (fun r hr=>by simp at hr) (fun i r j c hr=>by simp at hr) (fun r hr=>by simp at hr) (fun i r j c hr=>by simp at hr),rfl,fun n e=>by cases e⟩
 ·have hlm:len≤m:=by rw [hmm]; split <;> omega
  have hwe:∀ i,i < len→qE e (D i):=fun i hi q hq=>by
   refine hw q ?_
   simp only [DataW.weights,ht,List.mem_cons,List.mem_append]
   exact .inr (.inl (SP (List.mem_map.2 ⟨i,List.mem_range.2 hi,rfl⟩) hq))
  have hbn:len*bs≤reachBytes:=by
   have:=hw ((((List.range len).map D).length+((List.range (m - len)).map fun j=>D (len+j)).length)*Tryz.prog.bytesOf e) (by simp [DataW.weights,ht])
   simp only [List.length_map,List.length_range,hbs] at this
   exact Nat.le_trans (Nat.mul_le_mul_right _ (by omega)) this
  obtain ⟨l,l1,l2⟩:=Jw (p:=fun i r=>Q r∧∃ cs',w.cells? 0 (a.add (i*k)) k=some cs'∧lS w (F r) cs'∧∃ u,cs'[0]?=some u∧s6 u) len fun i hi=>by
   obtain ⟨cs',h1,h2⟩:=hx i (by omega)
   obtain ⟨r,g1,g2,g3⟩:=hrow _ _ _ h2 (hwe i hi)
   rw [hk] at h1
   exact ⟨r,g1,cs',h1,g2,g3⟩
  have cell:∀ (i:Nat) (row:List AV) (j:Nat) (c:AV),(l.map F)[i]?=some row→row[j]?=some c→∃ u,w.cell? (a.add (i*k+j))=some u∧RD w (BD w) c u∧ak c=true:=fun i row j c hi hj=>by
   simp only [List.getElem?_map,Option.map_eq_some_iff] at hi
   obtain ⟨r,hr,rfl⟩:=hi
   obtain ⟨_,cs',c1,c2,_⟩:=l2 i r hr
   obtain ⟨_,c3,c4⟩:=World.cells?_some c1
   have hjk:j < k:=by
    have:=(List.getElem?_eq_some_iff.1 hj).1
    rw [c2.1,c3] at this
    exact this
   have:=c4 j hjk
   rw [rp] at this
   obtain ⟨u,hu⟩:∃ u,cs'[j]?=some u:=⟨cs'[j]'(by omega),by simp⟩
   exact ⟨u,by rw [this,hu],(c2.2 j c u hj hu).1,(c2.2 j c u hj hu).2.1⟩
  refine ⟨l,_,rfl,fun r hr=>?_,by rw [l1]; exact hbn,?_,rfl,fun n e=>by cases e⟩
  ·obtain ⟨i,hi⟩:=List.getElem?_of_mem hr
   exact (l2 i r hi).1
  ·have:=RD.sl (w:=w) (A:=BD w) k (l.map F) (some a) cap a (fun i j=>(w.cell? (a.add (i*k+j))).getD undef) (by simp [l1,hl]) (fun hne=>?_) (fun row hr=>?_) (fun i row j c hi hj=>?_) (fun row hr c hc=>?_) (fun i row j c hi hj=>?_)
   ·simpa [l1] using this
   ·have hlen:0 < l.length:=List.length_pos_iff.2 fun e=>hne (by simp [e])
    obtain ⟨_,cs',c1,c2,u,c3,c4⟩:=l2 0 l[0] (by simp)
    have:=(World.cells?_some c1).2.2 0 h0
    rw [c3,Nat.zero_mul,sf,sf] at this
    obtain ⟨q1,q2⟩:=SO hT this c4
    exact ⟨rfl,q1,q2⟩
   ·simp only [List.mem_map] at hr
    obtain ⟨r,hr,rfl⟩:=hr
    obtain ⟨i,hi⟩:=List.getElem?_of_mem hr
    obtain ⟨_,cs',c1,c2,_⟩:=l2 i r hi
    rw [c2.1]
    exact (World.cells?_some c1).2.1
   ·obtain ⟨u,q1,_⟩:=cell i row j c hi hj
    rw [q1]; rfl
   ·obtain ⟨i,hi⟩:=List.getElem?_of_mem hr
    obtain ⟨j,hj⟩:=List.getElem?_of_mem hc
    obtain ⟨u,_,_,q⟩:=cell i row j c hi hj
    exact q
   ·obtain ⟨u,q1,q2,_⟩:=cell i row j c hi hj
    rw [q1]; exact q2
theorem Q3 {n:Nat} {cs:List Value} {x:DataW H × List MemPlace} (h:Tr w enc n 95 cs=some x) (_:qE 95 x.1):∃ r:Nat,r < 4294967296∧lS w [U (r:Int)] cs∧∃ u,cs[0]?=some u∧s6 u:=by
 obtain ⟨z,rfl,rfl,hw⟩:=DataW.trod_int Tryz.underlying95 h
 simp only [Lit.wf,Bool.and_eq_true,decide_eq_true_eq] at hw
 have h1:(0:Int)≤z:=hw.1
 have h2:z≤4294967295:=hw.2
 obtain ⟨m,rfl⟩:∃ m:Nat,z=m:=⟨z.toNat,by omega⟩
 exact ⟨m,by omega,.one (.v _ rfl) rfl rfl,_,rfl,fun n e=>by cases e⟩
theorem Q4 {n:Nat} {cs:List Value} {x:DataW H × List MemPlace} (h:Tr w enc n 3 cs=some x) (_:qE 3 x.1):∃ r:Int,True∧lS w [I r] cs∧∃ u,cs[0]?=some u∧s6 u:=by
 obtain ⟨z,rfl,rfl,hw⟩:=DataW.trod_int Tryz.underlying3 h
 exact ⟨z,trivial,.one (.v _ rfl) rfl rfl,_,rfl,fun n e=>by cases e⟩
theorem MH (hT:xA w) {n:Nat} {cs:List Value} {x:DataW H × List MemPlace} (h:Tr w enc n 41 cs=some x) (hw:qE 41 x.1):∃ m:List Nat,(Lb m∧m.length < 4611686018427387904)∧lS w [lm m] cs∧∃ u,cs[0]?=some u∧s6 u:=by
 obtain ⟨l,v,rfl,h1,h2,h3,h4,h5⟩:=CQ (k:=1) (bs:=4) Tryz.underlying41 (by kernel_rfl) (by decide) (by kernel_rfl) (fun (r:Nat)=>[U (r:Int)]) (fun r=>r < 4294967296) hT (fun n cs' x=>Q3) h hw
 refine ⟨l,⟨h1,?_⟩,.one h3 rfl h4,_,rfl,h5⟩
 unfold reachBytes at h2
 omega
theorem OY (hT:xA w) {n:Nat} {cs:List Value} {x:DataW H × List MemPlace} (h:Tr w enc n 70 cs=some x) (hw:qE 70 x.1):∃ m:List Int,True∧lS w [.sl 1 (aX m)] cs∧∃ u,cs[0]?=some u∧s6 u:=by
 obtain ⟨l,v,rfl,h1,h2,h3,h4,h5⟩:=CQ (k:=1) (bs:=8) Tryz.underlying70 (by kernel_rfl) (by decide) (by kernel_rfl) (fun (r:Int)=>[I r]) (fun r=>True) hT (fun n cs' x=>Q4) h hw
 exact ⟨l,trivial,.one h3 rfl h4,_,rfl,h5⟩
theorem SQ (hT:xA w) {n:Nat} {cs:List Value} {x:DataW H × List MemPlace} (h:Tr w enc n 43 cs=some x) (hw:qE 43 x.1):∃ d:Rd,Ok0 d∧lS w (aW d) cs∧∃ u,cs[0]?=some u∧s6 u:=by
 obtain ⟨y0,y1,y2,m,rfl,hl,h0,h1,h2⟩:=trod_struct3 Tryz.underlying43 h
 have hl3:cs.length=3:=hl.trans (by kernel_rfl)
 match cs,hl3 with
 | [a,b,c],_ =>
  have k0:Tr w enc m 4 [a]=some y0:=h0
  have k1:Tr w enc m 41 [b]=some y1:=h1
  have k2:Tr w enc m 3 [c]=some y2:=h2
  have w1:qE 41 y1.1:=fun q hq=>hw q (by simp [DataW.weights,DataW.weightsEach,Tryz.underlying43]; exact .inr (.inl hq))
  obtain ⟨bb,e0,e1⟩:=DataW.trod_bool Tryz.underlying4 k0
  simp only [List.cons.injEq,and_true] at e0
  subst e0
  obtain ⟨l,⟨q1,q2⟩,q3,_⟩:=MH hT k1 w1
  obtain ⟨z,e2,e3,_⟩:=DataW.trod_int Tryz.underlying3 k2
  simp only [List.cons.injEq,and_true] at e2
  subst e2
  exact ⟨⟨bb,l,z⟩,⟨q1,q2⟩,(lS.one (.v _ rfl) rfl rfl).app (q3.app (.one (.v _ rfl) rfl rfl)),_,rfl,fun n e=>by cases e⟩
theorem OZ (hT:xA w) {n:Nat} {cs:List Value} {x:DataW H × List MemPlace} (h:Tr w enc n 72 cs=some x) (hw:qE 72 x.1):∃ d:Rt,Ok0 d.c∧lS w (bv d) cs∧∃ u,cs[0]?=some u∧s6 u:=by
 obtain ⟨y0,y1,m,rfl,hl,h0,h1⟩:=trod_struct2 Tryz.underlying72 h
 have hl3:cs.length=4:=hl.trans (by kernel_rfl)
 match cs,hl3 with
 | [a,b,c,d],_ =>
  have k0:Tr w enc m 70 [a]=some y0:=h0
  have k1:Tr w enc m 43 [b,c,d]=some y1:=h1
  have w0:qE 70 y0.1:=fun q hq=>hw q (by simp [DataW.weights,DataW.weightsEach,Tryz.underlying72]; exact .inl hq)
  have w1:qE 43 y1.1:=fun q hq=>hw q (by simp [DataW.weights,DataW.weightsEach,Tryz.underlying72]; exact .inr hq)
  obtain ⟨l,_,q3,q4⟩:=OY hT k0 w0
  obtain ⟨d,d1,d2,_⟩:=SQ hT k1 w1
  exact ⟨⟨l,d⟩,d1,q3.app d2,q4⟩
theorem HK (hT:xA w) {n:Nat} {us:Array Value} {x:DataW H × List MemPlace} (h:Tr w enc n 24 us.toList=some x) (hw:qE 24 x.1):∃ a:Rp,((∀ t ∈ a.terms,Ok0 t.c)∧a.terms.length < 4611686018427387904)∧RD w (BD w) (bm a) (.agg us):=by
 obtain ⟨y0,y1,m,rfl,hl,h0,h1⟩:=trod_struct2 Tryz.underlying24 h
 have hl3:us.toList.length=2:=hl.trans (by kernel_rfl)
 obtain ⟨cs⟩:=us
 simp only at hl3 h0 h1
 match cs,hl3 with
 | [a,b],_ =>
  have k0:Tr w enc m 3 [a]=some y0:=h0
  have k1:Tr w enc m 22 [b]=some y1:=h1
  have w1:qE 22 y1.1:=fun q hq=>hw q (by simp [DataW.weights,DataW.weightsEach,Tryz.underlying24]; exact .inr hq)
  obtain ⟨z,e2,e3,_⟩:=DataW.trod_int Tryz.underlying3 k0
  simp only [List.cons.injEq,and_true] at e2
  subst e2
  obtain ⟨l,v,e4,q1,q2,q3,q4,q5⟩:=CQ (k:=4) (bs:=64) Tryz.underlying22 (by kernel_rfl) (by decide) (by kernel_rfl) bv (fun t=>Ok0 t.c) hT (fun n cs' x=>OZ hT) k1 w1
  simp only [List.cons.injEq,and_true] at e4
  subst e4
  refine ⟨⟨z,l⟩,⟨q1,by show l.length < _; unfold reachBytes at q2; omega⟩,?_⟩
  have rc:lS w [I z,.sl 4 (l.map bv)] [.int .i64 z,b]:=(lS.one (.v _ rfl) rfl rfl).app (.one q3 rfl q4)
  refine .agg _ _ rfl (fun i u hu=>?_) fun i c u hc hu=>?_
  ·have hu':[Value.int .i64 z,b][i]?=some u:=by simpa using hu
   obtain ⟨c,hc⟩:∃ c,[I z,AV.sl 4 (l.map bv)][i]?=some c:=⟨_,List.getElem?_eq_getElem (by have:=(List.getElem?_eq_some_iff.1 hu').1; simpa using this)⟩
   exact (rc.2 i c u hc hu').2.2
  ·exact (rc.2 i c u hc (by simpa using hu)).1
theorem ahw {fs:List AV} {us:Array Value} (rc:lS w fs us.toList):RD w (BD w) (.agg fs) (.agg us):=by
 refine .agg _ _ (by have:=rc.1; simpa using this.symm) (fun i u hu=>?_) fun i c u hc hu=>(rc.2 i c u hc (by simpa using hu)).1
 have hu':us.toList[i]?=some u:=by simpa using hu
 obtain ⟨c,hc⟩:∃ c,fs[i]?=some c:=⟨_,List.getElem?_eq_getElem (by rw [rc.1]; exact (List.getElem?_eq_some_iff.1 hu').1)⟩
 exact (rc.2 i c u hc hu').2.2
theorem ahx (hT:xA w) {n:Nat} {us:Array Value} {x:DataW H × List MemPlace} (h:Tr w enc n 43 us.toList=some x) (hw:qE 43 x.1):∃ d:Rd,Ok0 d∧RD w (BD w) (aF d) (.agg us):=by
 obtain ⟨d,h1,h2,_⟩:=SQ hT h hw
 exact ⟨d,h1,ahw h2⟩
end
end Go.Ab
namespace Go.Ab
open Go Go.Proofs Go.Shelf
def sB:Ren:=⟨fun | 166=>95 | 167=>94 | 169=>96 | 240=>145 | 276=>181 | n=>n,fun | 0=>0 | 3=>3 | 4=>4 | 5=>5 | 9=>9 | 20=>20 | 37=>119 | 70=>118 | 72=>121 | 75=>123 | 80=>127 | 127=>162 | 164=>184 | n=>n,fun n=>n⟩
theorem Dv:Lays.n166 Tryz.prog sB where
 mixed:=by kernel_rfl
 f166:=by kernel_rfl
 f240:=by kernel_rfl
 f276:=by kernel_rfl
 t0:=by kernel_rfl
 a0:=Tryz.isAgg0
 z0:=Tryz.sizeOf0
 v0:=Tryz.zeroValue0
 t3:=by kernel_rfl
 a3:=Tryz.isAgg3
 z3:=Tryz.sizeOf3
 v3:=Tryz.zeroValue3
 t4:=by kernel_rfl
 a4:=Tryz.isAgg4
 z4:=Tryz.sizeOf4
 v4:=Tryz.zeroValue4
 t9:=by kernel_rfl
 a9:=Tryz.isAgg9
 z9:=Tryz.sizeOf9
 v9:=Tryz.zeroValue9
 t20:=by kernel_rfl
 a20:=Tryz.isAgg20
 z20:=Tryz.sizeOf20
 v20:=Tryz.zeroValue20
 t37:=by kernel_rfl
 a37:=Tryz.isAgg119
 z37:=Tryz.sizeOf119
 v37:=Tryz.zeroValue119
 t70:=by kernel_rfl
 a70:=Tryz.isAgg118
 z70:=Tryz.sizeOf118
 v70:=Tryz.zeroValue118
 t72:=by kernel_rfl
 a72:=Tryz.isAgg121
 z72:=Tryz.sizeOf121
 v72:=Tryz.zeroValue121
 t75:=by kernel_rfl
 a75:=Tryz.isAgg123
 z75:=Tryz.sizeOf123
 v75:=Tryz.zeroValue123
 t164:=by kernel_rfl
 a164:=Tryz.isAgg184
 z164:=Tryz.sizeOf184
 v164:=Tryz.zeroValue184
theorem MI:Lays.n167 Tryz.prog sB where
 mixed:=by kernel_rfl
 f167:=by kernel_rfl
 f240:=by kernel_rfl
 f276:=by kernel_rfl
 t0:=by kernel_rfl
 a0:=Tryz.isAgg0
 z0:=Tryz.sizeOf0
 v0:=Tryz.zeroValue0
 t4:=by kernel_rfl
 a4:=Tryz.isAgg4
 z4:=Tryz.sizeOf4
 v4:=Tryz.zeroValue4
 t5:=by kernel_rfl
 a5:=Tryz.isAgg5
 z5:=Tryz.sizeOf5
 v5:=Tryz.zeroValue5
 t9:=by kernel_rfl
 a9:=Tryz.isAgg9
 z9:=Tryz.sizeOf9
 v9:=Tryz.zeroValue9
 t20:=by kernel_rfl
 a20:=Tryz.isAgg20
 z20:=Tryz.sizeOf20
 v20:=Tryz.zeroValue20
 t37:=by kernel_rfl
 a37:=Tryz.isAgg119
 z37:=Tryz.sizeOf119
 v37:=Tryz.zeroValue119
 t70:=by kernel_rfl
 a70:=Tryz.isAgg118
 z70:=Tryz.sizeOf118
 v70:=Tryz.zeroValue118
 t72:=by kernel_rfl
 a72:=Tryz.isAgg121
 z72:=Tryz.sizeOf121
 v72:=Tryz.zeroValue121
 t75:=by kernel_rfl
 a75:=Tryz.isAgg123
 z75:=Tryz.sizeOf123
 v75:=Tryz.zeroValue123
 t164:=by kernel_rfl
 a164:=Tryz.isAgg184
 z164:=Tryz.sizeOf184
 v164:=Tryz.zeroValue184
theorem Dw:Lays.n169 Tryz.prog sB where
 mixed:=by kernel_rfl
 f169:=by kernel_rfl
 t0:=by kernel_rfl
 a0:=Tryz.isAgg0
 z0:=Tryz.sizeOf0
 v0:=Tryz.zeroValue0
 t3:=by kernel_rfl
 a3:=Tryz.isAgg3
 z3:=Tryz.sizeOf3
 v3:=Tryz.zeroValue3
 t9:=by kernel_rfl
 a9:=Tryz.isAgg9
 z9:=Tryz.sizeOf9
 v9:=Tryz.zeroValue9
 t37:=by kernel_rfl
 a37:=Tryz.isAgg119
 z37:=Tryz.sizeOf119
 v37:=Tryz.zeroValue119
 t70:=by kernel_rfl
 a70:=Tryz.isAgg118
 z70:=Tryz.sizeOf118
 v70:=Tryz.zeroValue118
 t72:=by kernel_rfl
 a72:=Tryz.isAgg121
 z72:=Tryz.sizeOf121
 v72:=Tryz.zeroValue121
 t127:=by kernel_rfl
 a127:=Tryz.isAgg162
 z127:=Tryz.sizeOf162
 v127:=Tryz.zeroValue162
theorem tW:Builder.Extra Tryz.prog sB where
 sizeBuilder:=by kernel_rfl
 liesBuilder:=by kernel_rfl
 t5:=by kernel_rfl
 a5:=Tryz.isAgg5
 z5:=Tryz.sizeOf5
 v5:=Tryz.zeroValue5
 infoByte:=by kernel_rfl
 cellsByte:=by kernel_rfl
 sizeByte:=by kernel_rfl
 neB5:=by decide
end Go.Ab
namespace Go.Ab
open Go Go.Proofs Go.Shelf Go.RowKit
set_option maxHeartbeats 4000000
set_option maxRecDepth 1000000
theorem BE {T e:TypeId} {B b:Nat} {p:Value} {bs:List Value} {w w':World} (h:Lib.BuilderAtF T e B b p bs w) (hb:Below w.heap.size w w'):Lib.BuilderAtF T e B b p bs w':=by
 obtain ⟨h1,v,h2,⟨h3,h4⟩,h5⟩:=h
 have hlt:b < w.heap.size:=(Array.getElem?_eq_some_iff.1 h2).1
 refine ⟨h1,v,(hb.block _ hlt).trans h2,⟨h3,?_⟩,h5⟩
 rcases h4 with h4 | ⟨g,cap,sA,fz,g1,g2,g3,g4⟩
 ·exact .inl h4
 ·exact .inr ⟨g,cap,sA,fz,g1,g2,(hb.block _ (Array.getElem?_eq_some_iff.1 g3).1).trans g3,g4⟩
theorem BF {T e:TypeId} {B b:Nat} {bs:List Value} {w w':World} (h:Lib.IsBuilderF T e B b bs w) (hb:Below w.heap.size w w'):Lib.IsBuilderF T e B b bs w':=h.imp (fun h=>BE h hb) (fun h=>BE h hb)
theorem Q5 (n:Bool) (a:Option Addr) (l cap:Nat) (e:Int) (t u:List UInt8) (w:World) (hl:(l:Int) ≠ 0) (ht:t.length≤10000) (hu:u.length≤1000)
  (hV:∀ w1,Below w.heap.size w w1→Calls Tryz.prog F.dyadic_Valid #[.agg #[.bool n,.slice a l cap,.int .i64 e]] w1 fun x w2=>x=.returned (.bool true)∧Below w1.heap.size w1 w2)
  (hT:∀ w1,Below w.heap.size w w1→Calls Tryz.prog F.natural_Text #[.slice a l cap] w1 fun x w2=>x=.returned (.tuple #[.string ⟨t.toArray⟩,.int .i64 0])∧Below w1.heap.size w1 w2)
  (hI:∀ w1,Below w.heap.size w w1→Calls Tryz.prog F.strconv_Itoa #[.int .i64 e] w1 fun x w2=>x=.returned (.string ⟨u.toArray⟩)∧Below w1.heap.size w1 w2) :
  Calls Tryz.prog F.dyadic_Text #[.agg #[.bool n,.slice a l cap,.int .i64 e]] w fun x w'=>x=.returned (.tuple #[.string ⟨((if n then [45] else [])++t++[112]++u).toArray⟩,.int .i64 0])∧Below w.heap.size w w':=by
 go_enter Tryz.func44,Tryz.ntmps44
 go_wp2_with (go_at_call 64; refine (hV _ ((Below.refl _ w).alloc (Nat.le_refl _) _)).mono ?_)
 rintro x W1 ⟨rfl,b1⟩
 have b01:Below w.heap.size w W1:=((Below.refl _ w).alloc (Nat.le_refl _) _).trans (b1.mono (by simp))
 have s1:w.heap.size < W1.heap.size:=Nat.lt_of_lt_of_le (by simp) b1.size
 have hb1:W1.heap[w.heap.size]?=some (.cells #[.bool n,.slice a l cap,.int .i64 e] 43 (0,0)):=by
  rw [b1.block _ (by simp)]
  exact heap_alloc_new w _
 have c1:W1.cell? ⟨w.heap.size,1,none⟩=some (.slice a l cap):=by simp [World.cell?,hb1]
 go_wp2_with (go_at_call 93; refine (hT _ b01).mono ?_)
 rintro x W2 ⟨rfl,b2⟩
 have b02:Below w.heap.size w W2:=b01.trans (b2.mono (by omega))
 have s2:w.heap.size < W2.heap.size:=Nat.lt_of_lt_of_le s1 b2.size
 have hb2:W2.heap[w.heap.size]?=some (.cells #[.bool n,.slice a l cap,.int .i64 e] 43 (0,0)):=(b2.block _ s1).trans hb1
 have hb3:(W2.alloc (.cells #[.pointer none,.slice none 0 0] 121)).heap[w.heap.size]?=some (.cells #[.bool n,.slice a l cap,.int .i64 e] 43 (0,0)):=(pk W2 _ s2).trans hb2
 have d0:(W2.alloc (.cells #[.pointer none,.slice none 0 0] 121)).cell? ⟨w.heap.size,0,none⟩=some (.bool n):=by simp only [World.cell?,hb3]; rfl
 have d2:(W2.alloc (.cells #[.pointer none,.slice none 0 0] 121)).cell? ⟨w.heap.size,2,none⟩=some (.int .i64 e):=by simp only [World.cell?,hb3]; rfl
 have hB:=Lib.IsBuilderF.of (Lib.fresh_isBuilder 121 5 W2)
 have b03:Below w.heap.size w (W2.alloc (.cells #[.pointer none,.slice none 0 0] 121)):=b02.trans ((Below.refl _ W2).alloc (Nat.le_of_lt s2) _)
 have sS:(ByteArray.mk t.toArray++ByteArray.mk #[112]++ByteArray.mk u.toArray).data.toList=t++[112]++u:=by simp
 have sZ:(ByteArray.mk t.toArray++ByteArray.mk #[112]++ByteArray.mk u.toArray).size=t.length+1+u.length:=by simp [ByteArray.size]; omega
 cases n with
 | true =>
  go_wp2_with (go_at_call 94; refine (Any.Builder_WriteByte_k MI tW W2.heap.size W2.heap.size [] 45 _ hB (by simp) (by simp)).mono ?_)
  rintro x W3 ⟨rfl,hB3,b3,_⟩
  have b03':Below w.heap.size w W3:=b03.trans (b3.mono (Nat.le_of_lt s2))
  have e2:W3.cell? ⟨w.heap.size,2,none⟩=some (.int .i64 e):=by simp only [World.cell?,(b3.block _ s2).trans hb3]; rfl
  go_wp2_with (go_at_call 45; refine (hI _ b03').mono ?_)
  rintro x W4 ⟨rfl,b4⟩
  have b04:Below w.heap.size w W4:=b03'.trans (b4.mono b03'.size)
  have hB4:=BF (.inr hB3) b4
  have s4:W2.heap.size≤W4.heap.size:=Nat.le_trans (Nat.le_trans (by simp) b3.size) b4.size
  go_wp2_with (go_at_call 95; refine (Any.Builder_WriteString_k Dv tW W2.heap.size W2.heap.size _ (ByteArray.mk t.toArray++ByteArray.mk #[112]++ByteArray.mk u.toArray) _ hB4 (by rw [sZ]; simp; omega) s4).mono ?_)
  rintro x W5 ⟨rfl,hB5,b5,_⟩
  have b05:Below w.heap.size w W5:=b04.trans (b5.mono (Nat.le_of_lt s2))
  have hB5':Lib.IsBuilderF (sB.t 72) (sB.t 5) W2.heap.size W2.heap.size (Lib.byteCells (45::(t++[112]++u))) W5:=by
   rw [show Lib.byteCells (45::(t++[112]++u))=[]++[Value.int .u8 45]++Lib.strCells (ByteArray.mk t.toArray++ByteArray.mk #[112]++ByteArray.mk u.toArray) by rw [Lib.strCells_eq,sS]; rfl]
   exact .inr hB5
  go_wp2_with (go_at_call 96; refine (Any.Builder_String_any_k Dw tW W2.heap.size W2.heap.size _ _ hB5' (Nat.le_trans s4 b5.size)).mono ?_)
  rintro x W6 ⟨rfl,_,b6,_⟩
  go_wp2
  go_ret2
  exact ⟨by simp,b05.trans (b6.mono (Nat.le_of_lt s2))⟩
 | false =>
  go_wp2_with (go_at_call 45; refine (hI _ b03).mono ?_)
  rintro x W4 ⟨rfl,b4⟩
  have b04:Below w.heap.size w W4:=b03.trans (b4.mono b03.size)
  have hB4:=BF hB b4
  have s4:W2.heap.size≤W4.heap.size:=Nat.le_trans (by simp) b4.size
  go_wp2_with (go_at_call 95; refine (Any.Builder_WriteString_k Dv tW W2.heap.size W2.heap.size _ (ByteArray.mk t.toArray++ByteArray.mk #[112]++ByteArray.mk u.toArray) _ hB4 (by rw [sZ]; simp; omega) s4).mono ?_)
  rintro x W5 ⟨rfl,hB5,b5,_⟩
  have b05:Below w.heap.size w W5:=b04.trans (b5.mono (Nat.le_of_lt s2))
  have hB5':Lib.IsBuilderF (sB.t 72) (sB.t 5) W2.heap.size W2.heap.size (Lib.byteCells (t++[112]++u)) W5:=by
   rw [show Lib.byteCells (t++[112]++u)=[]++Lib.strCells (ByteArray.mk t.toArray++ByteArray.mk #[112]++ByteArray.mk u.toArray) by rw [Lib.strCells_eq,sS]; rfl]
   exact .inr hB5
  go_wp2_with (go_at_call 96; refine (Any.Builder_String_any_k Dw tW W2.heap.size W2.heap.size _ _ hB5' (Nat.le_trans s4 b5.size)).mono ?_)
  rintro x W6 ⟨rfl,_,b6,_⟩
  go_wp2
  go_ret2
  exact ⟨by simp,b05.trans (b6.mono (Nat.le_of_lt s2))⟩
end Go.Ab
namespace Go.Ab
open Go Go.Proofs Go.Shelf Go.RowKit
set_option maxRecDepth 100000
theorem iT {args:List AV} {vals:Array Value} (h:vals.size=args.length) {i:Nat} {c:AV} (hc:args[i]?=some c):∃ u,vals[i]?=some u:=by
 have:i < args.length:=(List.getElem?_eq_some_iff.1 hc).1
 exact ⟨vals[i]'(by omega),by simp [h,this]⟩
theorem SR {vals:Array Value} {a:Value} (h:vals.size=1) (h0:vals[0]?=some a):vals=#[a]:=by
 apply Array.ext_getElem?
 intro i
 match i with
 | 0=>simpa using h0
 | i+1=>simp [h]
theorem SS {vals:Array Value} {a b:Value} (h:vals.size=2) (h0:vals[0]?=some a) (h1:vals[1]?=some b):vals=#[a,b]:=by
 apply Array.ext_getElem?
 intro i
 match i with
 | 0=>simpa using h0
 | 1=>simpa using h1
 | i+2=>simp [h]
theorem Dx {w:World} {a:Addr} {us:Array Value} {e:TypeId} (h:w.heap[a.block]?=some (.cells us e (0,0))):w.frozen? a=false:=by
 simp [World.frozen?,h]
theorem Q6 {P:Program} (w:World) (tS tR e:TypeId) (ht:P.underlying tS=some (.slice e)) (size:Nat) (hz:∀ w,(Go.sizeOf e).run P w=.ok size w) (a:Addr) (b:Option Addr) (la ca cb:Nat) :
  (Extern.SlicesOverlaps.overlaps #[tS,tS] #[tR] #[.slice (some a) la ca,.slice b 0 cb]).run P w=.ok (.bool false) w:=by
 change Sem.run P (α:=Value) (do
  let some t := (#[tS, tS] : Array TypeId)[0]? | stuck "slices.overlaps: no parameter types"
  let .slice elem ← underlying t | stuck "slices.overlaps: slice type expected"
  let size ← sizeOf elem
  match (some a:Option Addr),b with
  | some a,some b =>
   if la=0∨0=0∨size=0 then pure (Value.bool false)
   else if a.block != b.block && (← frozen a) && (← frozen b) then unsupported .addressObserved
   else do
    if a.block != b.block then do
     noView a; noView b
     if ← mayBeOne a b then return Value.bool ((← choose (.extern "sameAddr.stringBytes" 2)) == 1)
    pure (Value.bool (a.block == b.block && a.off < b.off+0*size && b.off < a.off+la*size))
  | _,_=>pure (Value.bool false)) w=_
 cases b <;> simp [run_underlying ht,hz]
theorem ST {P:Program} (w:World) (tS tR e:TypeId) (ht:P.underlying tS=some (.slice e)) (size:Nat) (hz:∀ w,(Go.sizeOf e).run P w=.ok size w)
  (a b:Addr) (la ca lb cb:Nat) (hne:a.block ≠ b.block) (tA:TypeId) (kA:Nat) {us:Array Value} {tB:TypeId}
  (hkA:kA ≠ 0) (hsa:w.shape? a.block=some (tA,kA)) (hb:w.heap[b.block]?=some (.cells us tB (0,0))) (hu:us.size ≠ 0) :
  (Extern.SlicesOverlaps.overlaps #[tS,tS] #[tR] #[.slice (some a) la ca,.slice (some b) lb cb]).run P w=.ok (.bool false) w:=by
 have hnb:(a.block != b.block)=true:=by simpa using hne
 have hnb':(a.block == b.block)=false:=by simpa using hne
 have hsb:w.shape? b.block=some (tB,us.size):=by simp [World.shape?,hb]
 have hfb:w.frozen? b=false:=Dx hb
 have hfe:w.frozen? { block:=b.block,off:=us.size }=false:=Dx (a:=⟨b.block,us.size,none⟩) hb
 change Sem.run P (α:=Value) (do
  let some t := (#[tS, tS] : Array TypeId)[0]? | stuck "slices.overlaps: no parameter types"
  let .slice elem ← underlying t | stuck "slices.overlaps: slice type expected"
  let size ← sizeOf elem
  match (some a:Option Addr),(some b:Option Addr) with
  | some a,some b =>
   if la=0∨lb=0∨size=0 then pure (Value.bool false)
   else if a.block != b.block && (← frozen a) && (← frozen b) then unsupported .addressObserved
   else do
    if a.block != b.block then do
     noView a; noView b
     if ← mayBeOne a b then return Value.bool ((← choose (.extern "sameAddr.stringBytes" 2)) == 1)
    pure (Value.bool (a.block == b.block && a.off < b.off+lb*size && b.off < a.off+la*size))
  | _,_=>pure (Value.bool false)) w=_
 by_cases h0:la=0∨lb=0∨size=0
 ·simp [run_underlying ht,hz,h0]
 ·obtain ⟨n,hn⟩:∃ n,us.size=n+1:=⟨us.size - 1,by omega⟩
  rw [hn] at hsb hfe
  obtain ⟨kA,rfl⟩:∃ k,kA=k+1:=⟨kA - 1,by omega⟩
  cases hfa:w.frozen? a <;> cases hfa2:w.frozen? { block:=a.block,off:=kA+1 } <;>
   simp [run_underlying ht,hz,h0,hnb,hnb',frozen,noView,viewAt,mayBeOne,stringish,shape,Sem.run,hsa,hsb,hfa,hfa2,hfb,hfe]
theorem KX {w:World} {a:Addr} {v:Value} (h:w.cell? a=some v):∃ t k,k ≠ 0∧w.shape? a.block=some (t,k):=by
 unfold World.cell? at h
 split at h
 ·rename_i cs t fr hb
  refine ⟨t,cs.size,fun h0=>?_,by unfold World.shape?; rw [hb]⟩
  split at h
  ·cases h
  ·have:=(Array.getElem?_eq_some_iff.1 h).1
   omega
 ·cases h
theorem SU {P : Program} {I : Inv} {f : FuncId} {fn : Func} {tS tR e : TypeId} {size : Nat} (hf : P.funcs[f]? = some fn) (hname : (fn.name == "runtime.NumGoroutine") = false) (hb : fn.body.isNone = true) (hn : Extern.findNext fn = none)
  (he:Extern.find fn=some (Extern.SlicesOverlaps.overlaps #[tS,tS] #[tR])) (ht:P.underlying tS=some (.slice e)) (hz:∀ w,(Go.sizeOf e).run P w=.ok size w):ft P I false f (IK 4):=by
 intro args obs obs' res w X ρ vals n hz' hn' hi hr hs hv
 unfold IK at hz'
 split at hz'
 ·rename_i k0 row rows k1 lo m k2 rows2
  split at hz'
  ·rename_i hk
   obtain ⟨rfl,rfl,rfl⟩:=hk
   cases hz'
   obtain ⟨u0,h0⟩:=iT hs (i:=0) rfl
   obtain ⟨u1,h1⟩:=iT hs (i:=1) rfl
   have e0:=hv 0 _ _ rfl h0
   have e1:=hv 1 _ _ rfl h1
   obtain rfl:=SS hs h0 h1
   have d0:=e0.sl_inv
   obtain ⟨a1,cap1,rfl,hp,hn1,hb1,ha1⟩:=e1.rsl_inv
   have ho:RO w (ap w X (ae [.ar 4 rows2]) ρ) ρ (ae [.ar 4 rows2]) 1000 (.ar 4 rows2):=hr.ob 1000
   obtain ⟨us,tB,g1,g2,g3,g4⟩:=ho
   have hlive:live (ae [.ar 4 rows2]) 1000 none:=trivial
   cases d0 with
   | sl _ _ a cap ad vs hc ha hk hv2 hl hr2 =>
    obtain ⟨rfl,hA,hsp⟩:=ha (by simp)
    have hlen:=hk row (by simp)
    obtain ⟨c,hrow⟩:∃ c,row[0]?=some c:=⟨row[0]'(by omega),by simp⟩
    have hcell:=hv2 0 row 0 c rfl hrow
    obtain ⟨tA,kA,hkA,hsh⟩:=KX hcell
    rw [ip] at hsh
    have run:(callFunc f #[.slice (some ad) (row::rows).length cap,.slice a1 m cap1]).run P w=.ok (.value (.bool false)) w:=by
     rw [run_callFunc_extern hf hname hb hn he]
     by_cases hm:m=0
     ·subst hm
      rw [Q6 w tS tR e ht size hz]
      rfl
     ·rcases ha1 with h | rfl
      ·omega
      ·rw [ST w tS tR e ht size hz ad ⟨(ρ 1000 none).1,lo*4,none⟩ _ cap m cap1 (fun hh=>hA.2.2 ⟨1000,none,hlive,hh.symm⟩) tA kA hkA hsh g1 (by omega)]
       rfl
    unfold Enters
    rw [run]
    exact ⟨ρ,hr,.refl _ _ _ _,.dat (.v _ rfl)⟩
  ·cases hz'
 ·cases hz'
theorem Q7 {P:Program} {I:Inv} (hR:ft P I false F.slices_Insert_api_Term_api_Term_ (R0 F.slices_Insert_api_Term_api_Term_)):ft P I false F.slices_Insert_api_Term_api_Term_ (Gb 4 64):=by
 intro args obs obs' res w X ρ vals n hz hn hi hr hs hv
 unfold Gb at hz
 split at hz
 ·rename_i k0 r
  split at hz
  ·rename_i hk
   subst hk
   cases hz
   exact hR QZ hn hi hr hs hv
  ·cases hz
 ·rename_i k1 m i k0 r k2 rows
  split at hz
  ·rename_i hk
   obtain ⟨rfl,rfl,rfl,rfl,hi0,hi1,hb⟩:=hk
   cases hz
   obtain ⟨i,rfl⟩:=Int.eq_ofNat_of_zero_le hi0
   rw [Int.toNat_natCast]
   by_cases hend:i=rows.length
   ·subst hend
    have:=hR (ME (r:=r) rfl hb) hn hi hr hs hv
    rw [List.take_of_length_le (Nat.le_refl _),List.drop_eq_nil_of_le (Nat.le_refl _)]
    exact this
   ·have hlt:i < rows.length:=by omega
    obtain ⟨u0,h0⟩:=iT hs (i:=0) rfl
    obtain ⟨a,cap,rfl,hp,hn1,hb1,ha⟩:=(hv 0 _ _ rfl h0).rsl_inv
    have hv':∀ (j:Nat) (c:AV) (u:Value),[AV.rsc 1000 4 0 rows.length cap,.v (.int .i64 i),.sl 4 [r]][j]?=some c→vals[j]?=some u→RV w (ap w X (ae [.ar 4 rows]) ρ) ρ (ae [.ar 4 rows]) c u:=by
     intro j c u hc hu
     match j,hc with
     | 0,hc =>
      cases hc
      rw [h0] at hu
      cases hu
      exact .rsc 1000 4 0 _ cap a hp hn1 hb1 ha
     | j+1,hc=>exact hv (j+1) c u hc hu
    rcases Nat.lt_or_ge rows.length cap with hc | hc
    ·exact hR (Q2 rfl hlt hc hb) hn hi hr hs hv'
    ·obtain rfl:cap=rows.length:=by omega
     refine (hR (Q1 rfl hlt hb) hn hi hr hs hv').mono fun v w' ⟨ρ',q1,q2,q3⟩=>?_
     generalize rows.take i++r::rows.drop i=L at q1 q2 q3 ⊢
     have hd:=AG q1 (id:=1000) (k:=4) (rows:=rows) (by
      show (if 1000=n then _ else _)=_
      rw [if_neg (by omega)]
      rfl)
     have eq:upd (mat n (ae [.ar 4 rows]) (.osl 4 L)).2 1000 .dead=(mat n (ae [.dead]) (.osl 4 L)).2:=by
      show upd (upd (ae [.ar 4 rows]) n (.ar 4 L)) 1000 .dead=upd (ae [.dead]) n (.ar 4 L)
      rw [oR,oR]
      funext j
      unfold upd
      by_cases h1:j=1000
      ·rw [if_pos h1,if_neg (by omega),if_pos h1]
      ·rw [if_neg h1,if_neg h1,if_neg h1]
     rw [eq] at hd
     refine ⟨ρ',hd.1,q2.trans (hd.2.far rfl),hd.2.rvk q3 (.inr ?_)⟩
     show dV [(1000,false)] n none=false
     simp [dV]
     omega
  ·cases hz
 ·cases hz
theorem lT {w w':World} {X:Nat→Prop} {ρ:aT} (hr:Rel w X ρ (ae [])) (hb:Below w.heap.size w w'):Rel w' X ρ (ae [])∧Far false w ρ (ae []) w' ρ (ae []):=by
 have hl:∀ id sub,¬ live (ae []) id sub:=fun id sub=>by
  have hd:ae [] id=.dead:=by
   unfold ae
   split <;> simp
  cases sub with
  | none=>simp [live,hd]
  | some p=>simp [live,hd]
 refine ⟨⟨fun id sub _ _ h=>(hl id sub h).elim,fun id sub h=>(hl id sub h).elim,fun id=>?_,fun b hb'=>Nat.lt_of_lt_of_le (hr.xl b hb') hb.size⟩,hb.os,hb.tape,hb.output,hb.size,fun b h1 _=>hb.block b h1,fun b ⟨id,sub,h,_⟩=>(hl id sub h).elim,fun id _ h=>?_,fun h=>by cases h⟩
 ·have hd:ae [] id=.dead:=by
   unfold ae
   split <;> simp
  rw [hd]
  trivial
 ·exfalso
  apply h
  unfold ae
  split <;> simp
theorem MJ {w w':World} {X:Nat→Prop} {ρ:aT} {b:Nat} (h:ap w X (ae []) ρ b) (hb:Below w.heap.size w w'):ap w' X (ae []) ρ b∧w'.heap[b]?=w.heap[b]? :=
 ⟨⟨Nat.lt_of_lt_of_le h.1 hb.size,h.2.1,h.2.2⟩,hb.block b h.1⟩
theorem SV {P:Program} {I:Inv} {ρ0:Ren} (L:Lays2.n15 P ρ0) (hf:ρ0.f 15=F.slices_Clone_int_int_) (he:∀ a w,(callFunc F.slices_Clone_int_int_ a).run P w=.ok (.enter F.slices_Clone_int_int_ a) w)
  (hR:ft P I false F.slices_Clone_int_int_ (R0 F.slices_Clone_int_int_)):ft P I false F.slices_Clone_int_int_ LQ:=by
 intro args obs obs' res w X ρ vals n hz hn hi hr hs hv
 unfold LQ at hz
 split at hz
 ·cases hz
  obtain ⟨u0,h0⟩:=iT hs (i:=0) rfl
  have d0:=(hv 0 _ _ rfl h0).sl_inv
  obtain rfl:=SR hs h0
  cases d0 with
  | sl _ _ a cap ad vs hc ha hk hv2 hl hr2 =>
   unfold Enters
   rw [he]
   have fin:∀ (w':World) (b:Option Addr) (c:Nat),Below w.heap.size w w'→∃ ρ',Rel w' X ρ' (mat n (ae []) (.sl 1 [])).2∧Far false w ρ (ae []) w' ρ' (mat n (ae []) (.sl 1 [])).2 ∧
     RV w' (ap w' X (mat n (ae []) (.sl 1 [])).2 ρ') ρ' (mat n (ae []) (.sl 1 [])).2 (mat n (ae []) (.sl 1 [])).1 (.slice b 0 c):=fun w' b c hb =>
    ⟨ρ,(lT hr hb).1,(lT hr hb).2,.dat (.sl 1 [] b c ad vs (Nat.zero_le _) (fun h=>absurd rfl h) (fun _ h=>by cases h) (fun i row j c h=>by simp at h) (fun _ h=>by cases h) (fun i row j c h=>by simp at h))⟩
   cases a with
   | none =>
    have key:=Any.slices_Clone_int_nil L 0 cap w
    rw [hf] at key
    refine Calls.mono key fun e w' hw=>?_
    obtain ⟨rfl,rfl⟩:=hw
    exact fin _ _ _ (Below.refl _ _)
   | some a0 =>
    have key:=Any.slices_Clone_int_zero L a0 cap w
    rw [hf] at key
    refine Calls.mono key fun e w' hw=>?_
    obtain ⟨v',rfl,⟨_,hown⟩,_,hb⟩:=hw
    rcases hown with ⟨rfl,_⟩ | ⟨g,c2,sA,rfl,_⟩
    ·exact fin _ _ _ hb
    ·exact fin _ _ _ hb
 ·rename_i r rs
  split at hz
  ·rename_i hb
   cases hz
   exact hR (OW hb) hn hi hr hs hv
  ·cases hz
 ·cases hz
end Go.Ab
namespace Go.Ab
open Go Go.Proofs Go.RowKit
set_option maxRecDepth 100000
theorem RV.tup_inv {w:World} {A:Nat→Prop} {ρ:aT} {h:aa} {vs:List AV} {u:Value} (hv:RV w A ρ h (.tup vs) u):∃ us:Array Value,u=.tuple us∧us.size=vs.length∧∀ (i:Nat) (c:AV) (u:Value),vs[i]?=some c→us[i]?=some u→RV w A ρ h c u:=by
 cases hv with
 | dat hd=>cases hd
 | tup _ us hs hr=>exact ⟨us,rfl,hs,hr⟩
theorem Al {P:Program} {I:Inv} {f:FuncId} {g:List AV→List Ob→Option (AV × List Ob)} (hR:ft P I false f g) {args:List AV} {vals:Array Value} {w:World} {X:Nat→Prop} {ρ:aT} {res:AV}
  (he:(callFunc f vals).run P w=.ok (.enter f vals) w) (hz:g args []=some (res,[])) (hm:mat 2000 (ae []) res=(res,ae [])) (hi:I.p w X) (hr:Rel w X ρ (ae [])) (hs:vals.size=args.length)
  (hv:∀ (i:Nat) (c:AV) (u:Value),args[i]?=some c→vals[i]?=some u→RV w (ap w X (ae []) ρ) ρ (ae []) c u) :
  Calls P f vals w fun e w'=>(∃ v ρ',e=.returned v∧RV w' (ap w' X (ae []) ρ') ρ' (ae []) res v)∧Below w.heap.size w w':=by
 have key:=hR hz (Nat.le_refl 2000) hi hr hs hv
 unfold Enters at key
 rw [he] at key
 refine Calls.mono key fun e w' hw=>?_
 cases e with
 | returned v =>
  obtain ⟨ρ',r,far,rv⟩:=hw
  rw [hm] at rv far
  have hl:∀ id sub,¬ live (ae []) id sub:=fun id sub=>by
   have hd:ae [] id=.dead:=by
    unfold ae
    split <;> simp
   cases sub with
   | none=>simp [live,hd]
   | some p=>simp [live,hd]
  exact ⟨⟨v,ρ',rfl,rv⟩,far.os,far.tape,far.output,far.size,fun k hk=>far.old k hk fun ⟨id,sub,h,_⟩=>hl id sub h⟩
 | _=>exact hw.elim
theorem O0 (n:Bool) (e:Int) (he:e=0∨e=1):R0 F.dyadic_Valid [.agg [B n,.sl 1 [[U 1]],I e]] []=some (B true,[]):=by
 rcases he with rfl | rfl <;> cases n
 ·exact hF [] 40 (F.dyadic_Valid,[.agg [B false,.sl 1 [[U 1]],I 0]],B true) bO (by kernel_rfl)
 ·exact hF [] 40 (F.dyadic_Valid,[.agg [B true,.sl 1 [[U 1]],I 0]],B true) bO (by kernel_rfl)
 ·exact hF [] 40 (F.dyadic_Valid,[.agg [B false,.sl 1 [[U 1]],I 1]],B true) bO (by kernel_rfl)
 ·exact hF [] 40 (F.dyadic_Valid,[.agg [B true,.sl 1 [[U 1]],I 1]],B true) bO (by kernel_rfl)
theorem Q8 (e:Int) (he:e=0∨e=1):R0 F.strconv_Itoa [I e] []=some (S ⟨[if e=0 then (48:UInt8) else 49].toArray⟩,[]):=by
 rcases he with rfl | rfl
 ·exact hF [] 40 (F.strconv_Itoa,[I 0],S ⟨[(48:UInt8)].toArray⟩) bO (by kernel_rfl)
 ·exact hF [] 40 (F.strconv_Itoa,[I 1],S ⟨[(49:UInt8)].toArray⟩) bO (by kernel_rfl)
theorem O1:R0 F.natural_Text [.sl 1 [[U 1]]] []=some (.tup [S ⟨[(49:UInt8)].toArray⟩,I 0],[]) :=
 hF [] 60 (F.natural_Text,[.sl 1 [[U 1]]],.tup [S ⟨[(49:UInt8)].toArray⟩,I 0]) bO (by kernel_rfl)
theorem Z7 {vals:Array Value} {a b c:Value} (h:vals.size=3) (h0:vals[0]?=some a) (h1:vals[1]?=some b) (h2:vals[2]?=some c):vals=#[a,b,c]:=by
 apply Array.ext_getElem?
 intro i
 match i with
 | 0=>simpa using h0
 | 1=>simpa using h1
 | 2=>simpa using h2
 | i+3=>simp [h]
theorem VC {I:Inv} (hV:ft Tryz.prog I false F.dyadic_Valid (R0 F.dyadic_Valid)) (hT:ft Tryz.prog I false F.natural_Text (R0 F.natural_Text)) (hI:ft Tryz.prog I false F.strconv_Itoa (R0 F.strconv_Itoa))
  (eV:∀ a w,(callFunc F.dyadic_Valid a).run Tryz.prog w=.ok (.enter F.dyadic_Valid a) w) (eT:∀ a w,(callFunc F.natural_Text a).run Tryz.prog w=.ok (.enter F.natural_Text a) w)
  (eI:∀ a w,(callFunc F.strconv_Itoa a).run Tryz.prog w=.ok (.enter F.strconv_Itoa a) w) (eD:∀ a w,(callFunc F.dyadic_Text a).run Tryz.prog w=.ok (.enter F.dyadic_Text a) w) :
  ft Tryz.prog I false F.dyadic_Text Sa:=by
 intro args obs obs' res w X ρ vals n hz hn hi hr hs hv
 unfold Sa at hz
 split at hz
 ·rename_i nb m e
  split at hz
  ·rename_i hc
   obtain ⟨rfl,he,rfl⟩:=hc
   cases hz
   obtain ⟨u0,h0⟩:=iT hs (i:=0) rfl
   obtain ⟨us,rfl,hsz,_,hr2⟩:=(hv 0 _ _ rfl h0).agg_inv
   obtain rfl:=SR hs h0
   obtain ⟨v0,g0⟩:=iT (args:=[B nb,.sl 1 [[.v (.int .u32 1)]],.v (.int .i64 e)]) hsz (i:=0) rfl
   obtain ⟨v1,g1⟩:=iT (args:=[B nb,.sl 1 [[.v (.int .u32 1)]],.v (.int .i64 e)]) hsz (i:=1) rfl
   obtain ⟨v2,g2⟩:=iT (args:=[B nb,.sl 1 [[.v (.int .u32 1)]],.v (.int .i64 e)]) hsz (i:=2) rfl
   obtain ⟨rfl,_⟩:=(hr2 0 _ _ rfl g0).v_inv
   obtain ⟨rfl,_⟩:=(hr2 2 _ _ rfl g2).v_inv
   have d1:=(hr2 1 _ _ rfl g1).sl_inv
   obtain rfl:=Z7 hsz g0 g1 g2
   obtain ⟨a,l,cap,rfl⟩:∃ a l cap,v1=.slice a l cap:=by
    cases d1
    exact ⟨_,_,_,rfl⟩
   have hl:l=1:=by
    cases d1
    rfl
   subst hl
   have d1':∀ {w1:World},Below w.heap.size w w1→RD w1 (ap w1 X (ae []) ρ) (.sl 1 [[.v (.int .u32 1)]]) (.slice a 1 cap):=fun hb=>d1.mono fun b h=>MJ h hb
   have inv:∀ {w1:World},Below w.heap.size w w1→I.p w1 X:=fun hb=>I.stab hi fun b h=>hb.block b (hr.xl b h)
   unfold Enters
   rw [eD]
   refine Calls.mono (Q5 nb a 1 cap e [49] [if e=0 then 48 else 49] w (by decide) (by decide) (Nat.le_of_lt (by decide:1 < 1000)) (fun w1 hb=>?_) (fun w1 hb=>?_) fun w1 hb=>?_) fun ex w' hw=>?_
   ·refine Calls.mono (Al hV (eV _ _) (O0 nb e he) rfl (inv hb) (lT hr hb).1 rfl fun i c u hc hu=>?_) fun ex w2 hw=>?_
    ·match i,hc with
     | 0,hc =>
      cases hc
      cases hu
      refine .dat (.agg _ _ rfl (fun i u hu=>?_) fun i c u hc hu=>?_)
      ·match i,hu with
       | 0,hu=>cases hu; rfl
       | 1,hu=>cases hu; rfl
       | 2,hu=>cases hu; rfl
      ·match i,hc,hu with
       | 0,hc,hu=>cases hc; cases hu; exact .v _ rfl
       | 1,hc,hu=>cases hc; cases hu; exact d1' hb
       | 2,hc,hu=>cases hc; cases hu; exact .v _ rfl
    ·obtain ⟨⟨v,ρ',rfl,rv⟩,hb2⟩:=hw
     obtain ⟨rfl,_⟩:=rv.v_inv
     exact ⟨rfl,hb2⟩
   ·refine Calls.mono (Al hT (eT _ _) O1 rfl (inv hb) (lT hr hb).1 rfl fun i c u hc hu=>?_) fun ex w2 hw=>?_
    ·match i,hc with
     | 0,hc =>
      cases hc
      cases hu
      exact .dat (d1' hb)
    ·obtain ⟨⟨v,ρ',rfl,rv⟩,hb2⟩:=hw
     obtain ⟨us,rfl,h1,h2⟩:=rv.tup_inv
     obtain ⟨x0,q0⟩:=iT (args:=[S ⟨[(49:UInt8)].toArray⟩,.v (.int .i64 0)]) h1 (i:=0) rfl
     obtain ⟨x1,q1⟩:=iT (args:=[S ⟨[(49:UInt8)].toArray⟩,.v (.int .i64 0)]) h1 (i:=1) rfl
     obtain ⟨rfl,_⟩:=(h2 0 _ _ rfl q0).v_inv
     obtain ⟨rfl,_⟩:=(h2 1 _ _ rfl q1).v_inv
     obtain rfl:=SS h1 q0 q1
     exact ⟨rfl,hb2⟩
   ·refine Calls.mono (Al hI (eI _ _) (Q8 e he) rfl (inv hb) (lT hr hb).1 rfl fun i c u hc hu=>?_) fun ex w2 hw=>?_
    ·match i,hc with
     | 0,hc =>
      cases hc
      cases hu
      exact .dat (.v _ rfl)
    ·obtain ⟨⟨v,ρ',rfl,rv⟩,hb2⟩:=hw
     obtain ⟨rfl,_⟩:=rv.v_inv
     exact ⟨rfl,hb2⟩
   ·obtain ⟨rfl,hb⟩:=hw
    refine ⟨ρ,(lT hr hb).1,(lT hr hb).2,?_⟩
    refine .tup _ _ rfl fun i c u hc hu=>?_
    match i,hc,hu with
    | 0,hc,hu=>cases hc; cases hu; exact .dat (.v _ rfl)
    | 1,hc,hu=>cases hc; cases hu; exact .dat (.v _ rfl)
  ·cases hz
 ·cases hz
abbrev TX (f:Nat) (fd:FD):Prop:=Text Go.Proofs.Tryz.prog f fd
theorem tx {f : Nat} {fd : FD} {fn : Func} (h : Go.Proofs.Tryz.prog.funcs[f]? = some fn) (h2 : (fn.body.bind fun c => dS Go.Proofs.Tryz.prog fn.ntmps c fd.body, uv Go.Proofs.Tryz.prog fn.results.toList, decide (fn.ntmps ≤ 1000), fn.name == "runtime.NumGoroutine") = (some fd.body, some fd.res, true, false)) : TX f fd := by
 simp only [Prod.mk.injEq,Option.bind_eq_some_iff,decide_eq_true_eq] at h2
 obtain ⟨⟨c,h3,h4⟩,h5,h6,h7⟩:=h2
 exact ⟨⟨fn,c,_,h,h3,rfl,h6,h4,h5,h7⟩⟩
theorem tn:∀ p ∈ ([]:List (Nat × FD)),TX p.1 p.2:=fun _ h=>by cases h
theorem tc {f:Nat} {fd:FD} {l:List (Nat × FD)} (h1:TX f fd) (h2:∀ p ∈ l,TX p.1 p.2):∀ p ∈ (f,fd)::l,TX p.1 p.2:=fun p hp=>by
 rcases List.mem_cons.1 hp with rfl | hp
 ·exact h1
 ·exact h2 p hp
open Go.Proofs.Tryz
theorem awJ:TX 6 ais:=tx func6 (by kernel_rfl)
theorem Z9:TX 8 wM:=tx func8 (by kernel_rfl)
theorem aaa:TX 9 oB:=tx func9 (by kernel_rfl)
theorem VD:TX 10 wN:=tx func10 (by kernel_rfl)
theorem VF:TX 13 eO:=tx func13 (by kernel_rfl)
theorem VG:TX 14 gu:=tx func14 (by kernel_rfl)
theorem VH:TX 15 mN:=tx func15 (by kernel_rfl)
theorem ahX:TX 17 aeV:=tx func17 (by kernel_rfl)
theorem VK:TX 21 ij:=tx func21 (by kernel_rfl)
theorem VL:TX 22 yF:=tx func22 (by kernel_rfl)
theorem ah1:TX 23 ad6:=tx func23 (by kernel_rfl)
theorem VM:TX 24 dh:=tx func24 (by kernel_rfl)
theorem awf:TX 26 aji:=tx func26 (by kernel_rfl)
theorem awg:TX 27 ajv:=tx func27 (by kernel_rfl)
theorem awh:TX 28 ajn:=tx func28 (by kernel_rfl)
theorem awi:TX 29 aiJ:=tx func29 (by kernel_rfl)
theorem awj:TX 30 aiT:=tx func30 (by kernel_rfl)
theorem awk:TX 31 akt:=tx func31 (by kernel_rfl)
theorem awl:TX 32 aiP:=tx func32 (by kernel_rfl)
theorem awm:TX 33 ai1:=tx func33 (by kernel_rfl)
theorem VN:TX 34 ez:=tx func34 (by kernel_rfl)
theorem VO:TX 35 gB:=tx func35 (by kernel_rfl)
theorem VP:TX 36 so:=tx func36 (by kernel_rfl)
theorem VQ:TX 37 cw:=tx func37 (by kernel_rfl)
theorem VR:TX 38 gC:=tx func38 (by kernel_rfl)
theorem VS:TX 39 cx:=tx func39 (by kernel_rfl)
theorem VU:TX 40 gP:=tx func40 (by kernel_rfl)
theorem VV:TX 41 fg:=tx func41 (by kernel_rfl)
theorem VW:TX 42 tr:=tx func42 (by kernel_rfl)
theorem VX:TX 43 yG:=tx func43 (by kernel_rfl)
theorem VY:TX 45 akQ:=tx func45 (by kernel_rfl)
theorem awn:TX 46 aiC:=tx func46 (by kernel_rfl)
theorem VZ:TX 50 mZ:=tx func50 (by kernel_rfl)
theorem V0:TX 51 kB:=tx func51 (by kernel_rfl)
theorem V1:TX 52 dY:=tx func52 (by kernel_rfl)
theorem V2:TX 53 ck:=tx func53 (by kernel_rfl)
theorem V3:TX 54 bY:=tx func54 (by kernel_rfl)
theorem V4:TX 55 jn:=tx func55 (by kernel_rfl)
theorem V5:TX 56 bZ:=tx func56 (by kernel_rfl)
theorem V9:TX 60 dH:=tx func60 (by kernel_rfl)
theorem ah3:TX 61 adK:=tx func61 (by kernel_rfl)
theorem ah4:TX 62 aeY:=tx func62 (by kernel_rfl)
theorem Wa:TX 64 cL:=tx func64 (by kernel_rfl)
theorem ah6:TX 65 aeZ:=tx func65 (by kernel_rfl)
theorem Wb:TX 67 dI:=tx func67 (by kernel_rfl)
theorem Wc:TX 68 vn:=tx func68 (by kernel_rfl)
theorem Wd:TX 69 l5:=tx func69 (by kernel_rfl)
theorem We:TX 70 jo:=tx func70 (by kernel_rfl)
theorem Wf:TX 71 fR:=tx func71 (by kernel_rfl)
theorem Wg:TX 72 eK:=tx func72 (by kernel_rfl)
theorem Wh:TX 73 l6:=tx func73 (by kernel_rfl)
theorem awo:TX 74 akC:=tx func74 (by kernel_rfl)
theorem awp:TX 75 aiv:=tx func75 (by kernel_rfl)
theorem awq:TX 76 aiL:=tx func76 (by kernel_rfl)
theorem awr:TX 77 ah9:=tx func77 (by kernel_rfl)
theorem aws:TX 78 aif:=tx func78 (by kernel_rfl)
theorem awt:TX 79 ajF:=tx func79 (by kernel_rfl)
theorem awu:TX 80 aj7:=tx func80 (by kernel_rfl)
theorem awv:TX 81 ajp:=tx func81 (by kernel_rfl)
theorem aww:TX 82 aia:=tx func82 (by kernel_rfl)
theorem awx:TX 83 aj8:=tx func83 (by kernel_rfl)
theorem awy:TX 84 ajG:=tx func84 (by kernel_rfl)
theorem Wi:TX 85 dT:=tx func85 (by kernel_rfl)
theorem Wj:TX 86 iy:=tx func86 (by kernel_rfl)
theorem Wk:TX 87 kC:=tx func87 (by kernel_rfl)
theorem Wl:TX 88 cJ:=tx func88 (by kernel_rfl)
theorem Wm:TX 89 cK:=tx func89 (by kernel_rfl)
theorem Wn:TX 90 fS:=tx func90 (by kernel_rfl)
theorem Wo:TX 91 yH:=tx func91 (by kernel_rfl)
theorem Wp:TX 92 tu:=tx func92 (by kernel_rfl)
theorem Wq:TX 93 sq:=tx func93 (by kernel_rfl)
theorem Wr:TX 95 iz:=tx func95 (by kernel_rfl)
theorem Ws:TX 96 kY:=tx func96 (by kernel_rfl)
theorem Wt:TX 97 lL:=tx func97 (by kernel_rfl)
theorem awz:TX 98 aiQ:=tx func98 (by kernel_rfl)
theorem SW:TX 103 bg:=tx func103 (by kernel_rfl)
theorem SX:TX 104 eH:=tx func104 (by kernel_rfl)
theorem SY:TX 105 aH:=tx func105 (by kernel_rfl)
theorem SZ:TX 106 l7:=tx func106 (by kernel_rfl)
theorem S0:TX 107 cd:=tx func107 (by kernel_rfl)
theorem S1:TX 108 bK:=tx func108 (by kernel_rfl)
theorem S2:TX 109 eQ:=tx func109 (by kernel_rfl)
theorem S3:TX 110 ew:=tx func110 (by kernel_rfl)
theorem ahP:TX 111 adS:=tx func111 (by kernel_rfl)
theorem S4:TX 112 cI:=tx func112 (by kernel_rfl)
theorem S5:TX 113 ik:=tx func113 (by kernel_rfl)
theorem S6:TX 114 i8:=tx func114 (by kernel_rfl)
theorem S7:TX 115 jp:=tx func115 (by kernel_rfl)
theorem S8:TX 116 gD:=tx func116 (by kernel_rfl)
theorem S9:TX 117 gE:=tx func117 (by kernel_rfl)
theorem Ta:TX 118 cM:=tx func118 (by kernel_rfl)
theorem Tb:TX 119 iC:=tx func119 (by kernel_rfl)
theorem Tc:TX 120 kZ:=tx func120 (by kernel_rfl)
theorem Td:TX 121 iD:=tx func121 (by kernel_rfl)
theorem Te:TX 122 l8:=tx func122 (by kernel_rfl)
theorem Tf:TX 123 lg:=tx func123 (by kernel_rfl)
theorem Tg:TX 124 i9:=tx func124 (by kernel_rfl)
theorem Th:TX 125 m6:=tx func125 (by kernel_rfl)
theorem Ti:TX 126 gF:=tx func126 (by kernel_rfl)
theorem Tj:TX 127 cY:=tx func127 (by kernel_rfl)
theorem auX:TX 128 ajU:=tx func128 (by kernel_rfl)
theorem auY:TX 129 akn:=tx func129 (by kernel_rfl)
theorem auZ:TX 130 ajy:=tx func130 (by kernel_rfl)
theorem au0:TX 131 aio:=tx func131 (by kernel_rfl)
theorem au1:TX 132 ai3:=tx func132 (by kernel_rfl)
theorem au2:TX 133 ai7:=tx func133 (by kernel_rfl)
theorem au3:TX 134 ajQ:=tx func134 (by kernel_rfl)
theorem au4:TX 135 ajI:=tx func135 (by kernel_rfl)
theorem Tk:TX 136 eS:=tx func136 (by kernel_rfl)
theorem Tl:TX 137 dz:=tx func137 (by kernel_rfl)
theorem Tm:TX 138 cE:=tx func138 (by kernel_rfl)
theorem Tn:TX 139 wQ:=tx func139 (by kernel_rfl)
theorem To:TX 140 rH:=tx func140 (by kernel_rfl)
theorem Tp:TX 141 nL:=tx func141 (by kernel_rfl)
theorem Ts:TX 143 gR:=tx func143 (by kernel_rfl)
theorem Tt:TX 144 su:=tx func144 (by kernel_rfl)
theorem Tu:TX 145 jr:=tx func145 (by kernel_rfl)
theorem Tv:TX 146 iV:=tx func146 (by kernel_rfl)
theorem au5:TX 150 ako:=tx func150 (by kernel_rfl)
theorem Tx:TX 154 eU:=tx func154 (by kernel_rfl)
theorem Ty:TX 155 js:=tx func155 (by kernel_rfl)
theorem Tz:TX 156 l9:=tx func156 (by kernel_rfl)
theorem TA:TX 157 fL:=tx func157 (by kernel_rfl)
theorem TB:TX 158 cF:=tx func158 (by kernel_rfl)
theorem TC:TX 159 ja:=tx func159 (by kernel_rfl)
theorem TD:TX 161 jt:=tx func161 (by kernel_rfl)
theorem au6:TX 162 ai8:=tx func162 (by kernel_rfl)
theorem au7:TX 163 aiV:=tx func163 (by kernel_rfl)
theorem au8:TX 164 aj9:=tx func164 (by kernel_rfl)
theorem au9:TX 165 ajq:=tx func165 (by kernel_rfl)
theorem ava:TX 166 aka:=tx func166 (by kernel_rfl)
theorem avb:TX 167 akp:=tx func167 (by kernel_rfl)
theorem avc:TX 168 aku:=tx func168 (by kernel_rfl)
theorem avd:TX 169 akq:=tx func169 (by kernel_rfl)
theorem ave:TX 170 ai9:=tx func170 (by kernel_rfl)
theorem avf:TX 171 akb:=tx func171 (by kernel_rfl)
theorem avg:TX 172 ajJ:=tx func172 (by kernel_rfl)
theorem TE:TX 173 jc:=tx func173 (by kernel_rfl)
theorem TF:TX 174 oJ:=tx func174 (by kernel_rfl)
theorem TG:TX 175 vD:=tx func175 (by kernel_rfl)
theorem TH:TX 176 iF:=tx func176 (by kernel_rfl)
theorem TM:TX 182 lj:=tx func182 (by kernel_rfl)
theorem TR:TX 190 me:=tx func190 (by kernel_rfl)
theorem TS:TX 191 m8:=tx func191 (by kernel_rfl)
theorem TT:TX 192 m9:=tx func192 (by kernel_rfl)
theorem TU:TX 193 de:=tx func193 (by kernel_rfl)
theorem avh:TX 194 aiS:=tx func194 (by kernel_rfl)
theorem avi:TX 195 aiH:=tx func195 (by kernel_rfl)
theorem avj:TX 196 akr:=tx func196 (by kernel_rfl)
theorem avk:TX 197 ajS:=tx func197 (by kernel_rfl)
theorem avl:TX 198 ajg:=tx func198 (by kernel_rfl)
theorem avm:TX 199 akc:=tx func199 (by kernel_rfl)
theorem avn:TX 200 ajz:=tx func200 (by kernel_rfl)
theorem avo:TX 201 akd:=tx func201 (by kernel_rfl)
theorem TV:TX 202 gw:=tx func202 (by kernel_rfl)
theorem avp:TX 213 aiX:=tx func213 (by kernel_rfl)
theorem avq:TX 214 ajc:=tx func214 (by kernel_rfl)
theorem avr:TX 215 aks:=tx func215 (by kernel_rfl)
theorem avs:TX 216 akZ:=tx func216 (by kernel_rfl)
theorem avt:TX 217 akf:=tx func217 (by kernel_rfl)
theorem avu:TX 218 alc:=tx func218 (by kernel_rfl)
theorem avv:TX 219 akF:=tx func219 (by kernel_rfl)
theorem avw:TX 220 akG:=tx func220 (by kernel_rfl)
theorem avx:TX 221 ajt:=tx func221 (by kernel_rfl)
theorem avy:TX 225 akh:=tx func225 (by kernel_rfl)
theorem avz:TX 226 ajA:=tx func226 (by kernel_rfl)
theorem avA:TX 227 aiw:=tx func227 (by kernel_rfl)
theorem avB:TX 228 akv:=tx func228 (by kernel_rfl)
theorem avC:TX 229 akH:=tx func229 (by kernel_rfl)
theorem avD:TX 230 aiE:=tx func230 (by kernel_rfl)
set_option maxRecDepth 100000 in
theorem HL:∀ p ∈ Pd,TX p.1 p.2:=tc awJ (tc Z9 (tc aaa (tc VD (tc VF (tc VG (tc VH (tc ahX (tc VK (tc VL (tc ah1 (tc VM (tc awf (tc awg (tc awh (tc awi (tc awj (tc awk (tc awl (tc awm (tc VN (tc VO (tc VP (tc VQ (tc VR (tc VS (tc VU (tc VV (tc VW (tc VX (tc VY (tc awn (tc VZ (tc V0 (tc V1 (tc V2 (tc V3 (tc V4 (tc V5 (tc V9 (tc ah3 (tc ah4 (tc Wa (tc ah6 (tc Wb (tc Wc (tc Wd (tc We (tc Wf (tc Wg (tc Wh (tc awo (tc awp (tc awq (tc awr (tc aws (tc awt (tc awu (tc awv (tc aww (tc awx (tc awy (tc Wi (tc Wj (tc Wk (tc Wl (tc Wm (tc Wn (tc Wo (tc Wp (tc Wq (tc Wr (tc Ws (tc Wt (tc awz (tc SW (tc SX (tc SY (tc SZ (tc S0 (tc S1 (tc S2 (tc S3 (tc ahP (tc S4 (tc S5 (tc S6 (tc S7 (tc S8 (tc S9 (tc Ta (tc Tb (tc Tc (tc Td (tc Te (tc Tf (tc Tg (tc Th (tc Ti (tc Tj (tc auX (tc auY (tc auZ (tc au0 (tc au1 (tc au2 (tc au3 (tc au4 (tc Tk (tc Tl (tc Tm (tc Tn (tc To (tc Tp (tc Ts (tc Tt (tc Tu (tc Tv (tc au5 (tc Tx (tc Ty (tc Tz (tc TA (tc TB (tc TC (tc TD (tc au6 (tc au7 (tc au8 (tc au9 (tc ava (tc avb (tc avc (tc avd (tc ave (tc avf (tc avg (tc TE (tc TF (tc TG (tc TH (tc TM (tc TR (tc TS (tc TT (tc TU (tc avh (tc avi (tc avj (tc avk (tc avl (tc avm (tc avn (tc avo (tc TV (tc avp (tc avq (tc avr (tc avs (tc avt (tc avu (tc avv (tc avw (tc avx (tc avy (tc avz (tc avA (tc avB (tc avC (tc avD (tn))))))))))))))))))))))))))))))))))))))))))))))))))))))))))))))))))))))))))))))))))))))))))))))))))))))))))))))))))))))))))))))))))))))))))))))))))))))))))))))))))))))))))
end Go.Ab
