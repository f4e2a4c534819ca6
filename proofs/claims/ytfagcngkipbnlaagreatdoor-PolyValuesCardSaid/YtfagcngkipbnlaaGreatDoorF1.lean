/-
  A law of polynomials holds at every input that the statement speaks of, under the conditions that its card names. Part F1.
-/
import Derived.Test.YtfagcngkipbnlaaGreatDoorProg
import Derived.Shelf.Spec.TrailingZeros
import Derived.Test.YtfagcngkipbnlaaGreatDoorRows
import Derived.Deep.Strs
import Derived.ProofKit
import Derived.LaidMore
import Derived.OpenShut
import Derived.Carry
import Derived.Shelf.Strings.BuilderK
import Derived.WalkKit
import Derived.BigCall
import Derived.Lib.Overlaps
import Derived.Laws.Externs
import Derived.Shelf.Slices.Clone
import Derived.KernelRfl
import Derived.Test.YtfagcngkipbnlaaGreatDoorE1
open Nat renaming reduceEqDiff → aee, reduceAdd → aef, reduceMul → aeg, reduceLeDiff → aeh, reduceBEq → aei, reduceLT → aej, reduceSub → anZ
open Int renaming reduceEq → anY
namespace Go.Ab
open Go Go.IntWalk
set_option maxRecDepth 4000
set_option maxHeartbeats 1000000
theorem ahO {a:List Int} (h2:sm a):∀ (k i:Nat),i+k=a.length→∀ (s:af) (h:aa),s 0=.sl 1 (aY a)→s 3=I (bi (a.take i))→s 4=I i →
  aI 0 [3] (aU (az R (ab false) aeX) [0,3,4] [] s h)=some (.normal,⟨upd (fun _=>.any) 3 (I (bi a)),fun _=>.dead⟩):=by
 intro k
 induction k with
 | zero =>
  intro i hi s h h0 h3 h4
  have e1:((i:Int) < a.length)=False:=ff (by omega)
  rw [List.take_of_length_le (by omega)] at h3
  rw [aB]
  simp only [aeX,go_sem,↓reduceIte,aee,h0,h3,h4,e1]
 | succ k ih =>
  intro i hi s h h0 h3 h4
  have hlt:i < a.length:=by omega
  obtain ⟨g1,g2⟩:=h2
  have e1:((i:Int) < a.length)=True:=tt (by omega)
  have e2:bH (aY a) (i:Int)=some (.ipt [I a[i]]):=qY rfl (List.getElem?_eq_getElem hlt)
  have e5:IntKind.i64.wrap ((i:Int)+1)=((i+1:Nat):Int):=wi (by omega) (by omega)
  have b1:=Sc (l:=a.take i) (fun x hx=>g2 x (List.mem_of_mem_take hx))
  have b2:=g2 a[i] (List.getElem_mem hlt)
  have b3:(a.take i).length≤1000:=by simp only [List.length_take]; omega
  have e6:IntKind.i64.wrap (bi (a.take i)+a[i])=bi (a.take (i+1)):=by
   rw [Oc hlt]
   exact i64_in _ ⟨by omega,by omega⟩
  have ih':=ih (i+1) (by omega)
  generalize a[i]=x at e2 e6 ⊢
  rw [aB]
  generalize aU _ _ _=L at ih' ⊢
  simp only [aeX,go_sem,↓reduceIte,aee,h0,h3,h4,e1,e2,e5,e6]
  exact ih' _ _ rfl rfl rfl
theorem agQ {a:List Int} (h2:sm a):R F.r23_sum [.sl 1 (aY a)] []=some (I (bi a),[]):=by
 refine aX ah5 ah4 (agG false) rfl ?_
 have h3:=ahO h2 a.length 0 (Nat.zero_add _)
 simp only [List.take_zero,bi,Int.natCast_zero] at h3
 simp only [afa,af1,go_sem,↓reduceIte,aee]
 rw [h3 _ _ rfl rfl rfl]
 simp only [go_sem,↓reduceIte]
theorem ahP {a b:List Int} (hl:a.length=b.length) (h2:a.length≤100000):∀ (k i:Nat),i+k=a.length→∀ (s:af) (h:aa),s 0=.sl 1 (aY a)→s 1=.sl 1 (aY b)→s 7=I i →
  ∃ hh,aI 0 [] (aU (az R (ab false) adG) [0,1,7] [] s h)=if gU (b.drop i) (a.drop i)=0 then some (.normal,⟨fun _=>.any,fun _=>.dead⟩) else some (.ret,⟨upd (fun _=>.any) 4 (I (gU (b.drop i) (a.drop i))),hh⟩):=by
 intro k
 induction k with
 | zero =>
  intro i hi s h h0 h1 h7
  have e1:((i:Int) < a.length)=False:=ff (by omega)
  rw [List.drop_eq_nil_of_le (by omega),List.drop_eq_nil_of_le (by omega),aB]
  refine ⟨fun _=>.dead,?_⟩
  show _=if (0:Int)=0 then _ else _
  rw [if_pos rfl]
  simp only [adG,go_sem,↓reduceIte,aee,h0,h1,h7,e1]
 | succ k ih =>
  intro i hi s h h0 h1 h7
  have hlt:i < a.length:=by omega
  have hlt2:i < b.length:=by omega
  have e1:((i:Int) < a.length)=True:=tt (by omega)
  have e2:bH (aY a) (i:Int)=some (.ipt [I a[i]]):=qY rfl (List.getElem?_eq_getElem hlt)
  have e3:bH (aY b) (i:Int)=some (.ipt [I b[i]]):=qY rfl (List.getElem?_eq_getElem hlt2)
  have e5:IntKind.i64.wrap ((i:Int)+1)=((i+1:Nat):Int):=wi (by omega) (by omega)
  rw [List.drop_eq_getElem_cons hlt,List.drop_eq_getElem_cons hlt2,aB]
  have ih':=ih (i+1) (by omega)
  generalize a[i]=x at e2 ⊢
  generalize b[i]=y at e3 ⊢
  generalize aU _ _ _=L at ih' ⊢
  unfold gU
  rcases kh y x with ⟨g,e⟩ | ⟨g,e⟩ | ⟨g,e⟩
  ·have e6:(y < x)=True:=tt g
   simp only [e,↓reduceIte,anY,Int.reduceNeg]
   refine ⟨?hh1,?_⟩
   rotate_left
   simp only [adG,go_sem,↓reduceIte,aee,h0,h1,h7,e1,e2,e3,e6]
   rfl
  ·have e6:(y < x)=False:=ff (by omega)
   have e7:(x < y)=False:=ff (by omega)
   simp only [e,↓reduceIte]
   simp only [adG,go_sem,↓reduceIte,aee,h0,h1,h7,e1,e2,e3,e5,e6,e7]
   exact ih' _ _ rfl rfl rfl
  ·have e6:(y < x)=False:=ff (by omega)
   have e7:(x < y)=True:=tt (by omega)
   simp only [e,↓reduceIte,anY]
   refine ⟨?hh2,?_⟩
   rotate_left
   simp only [adG,go_sem,↓reduceIte,aee,h0,h1,h7,e1,e2,e3,e6,e7]
   rfl
theorem afr {a b:List Int} (ha:sm a) (hb:sm b) (hl:a.length=b.length):R F.r23_Compare [.sl 1 (aY a),.sl 1 (aY b)] []=some (I (bt a b),[]):=by
 refine aX agf age (afE false) rfl ?_
 have d1:=agQ ha
 have d2:=agQ hb
 have h3:=ahP hl (by have:=ha.1; omega) a.length 0 (Nat.zero_add _)
 simp only [List.drop_zero,Int.natCast_zero] at h3
 unfold bt
 rcases kh (bi a) (bi b) with ⟨g,e⟩ | ⟨g,e⟩ | ⟨g,e⟩
 ·have e6:(bi a < bi b)=True:=tt g
  rw [e,if_neg (by decide)]
  simp only [adH,aeE,go_sem,↓reduceIte,aee,aeg,aef,d1,d2,e6]
 ·have e6:(bi a < bi b)=False:=ff (by omega)
  have e7:(bi b < bi a)=False:=ff (by omega)
  rw [e,if_pos rfl]
  by_cases hz:gU b a=0
  ·simp only [if_pos hz] at h3
   simp only [adH,aeE,go_sem,↓reduceIte,aee,aeg,aef,d1,d2,e6,e7]
   rw [(h3 _ _ rfl rfl rfl).choose_spec,hz]
   simp only [go_sem,↓reduceIte]
  ·simp only [if_neg hz] at h3
   simp only [adH,aeE,go_sem,↓reduceIte,aee,aeg,aef,d1,d2,e6,e7]
   rw [(h3 _ _ rfl rfl rfl).choose_spec]
   simp only [go_sem,↓reduceIte]
 ·have e6:(bi a < bi b)=False:=ff (by omega)
  have e7:(bi b < bi a)=True:=tt (by omega)
  rw [e,if_neg (by decide)]
  simp only [adH,aeE,go_sem,↓reduceIte,aee,aeg,aef,d1,d2,e6,e7]
theorem aif {t:Rt} (h2:t.exps.length≤1000):∀ (k i:Nat),i+k=t.exps.length→(∀ x ∈ t.exps.take i,0≤x∧x≤32)→∀ (s:af) (h:aa),s 3=.ref 3 none 0 0 0→s 5=I (bi (t.exps.take i))→s 6=I i→h 3=.bx (bv t) →
  ∃ hh,aI 0 [5] (aU (az R (ab false) adD) [3,5,6] [3] s h)=if (t.exps.drop i).any rM=true then some (.ret,⟨upd (fun _=>.any) 4 (B false),hh⟩) else some (.normal,⟨upd (fun _=>.any) 5 (I (bi t.exps)),hh⟩):=by
 intro k
 induction k with
 | zero =>
  intro i hi hg s h h3 h5 h6 k3
  have e1:((i:Int) < t.exps.length)=False:=ff (by omega)
  rw [List.take_of_length_le (by omega)] at h5
  rw [List.drop_eq_nil_of_le (by omega),aB]
  simp only [bv] at k3
  refine ⟨?hh,?_⟩
  rotate_left
  show _=if false=true then _ else _
  rw [if_neg Bool.false_ne_true]
  simp only [adD,go_sem,↓reduceIte,aee,aeg,aef,aei,h3,h5,h6,k3,e1]
  rfl
 | succ k ih =>
  intro i hi hg s h h3 h5 h6 k3
  have hlt:i < t.exps.length:=by omega
  have e1:((i:Int) < t.exps.length)=True:=tt (by omega)
  have e2:bH (aY t.exps) (i:Int)=some (.ipt [I t.exps[i]]):=qY rfl (List.getElem?_eq_getElem hlt)
  have e5:IntKind.i64.wrap ((i:Int)+1)=((i+1:Nat):Int):=wi (by omega) (by omega)
  have b1:=Sc hg
  have b3:(t.exps.take i).length≤1000:=by simp only [List.length_take]; omega
  have ih':=ih (i+1) (by omega)
  have htk:t.exps.take (i+1)=t.exps.take i++[t.exps[i]]:=by rw [List.take_add_one,List.getElem?_eq_getElem hlt]; rfl
  have hst:=Oc hlt
  rw [List.drop_eq_getElem_cons hlt,List.any_cons,aB]
  simp only [bv] at k3
  rw [hst] at ih'
  rw [htk] at ih'
  generalize t.exps[i]=x at e2 ih' ⊢
  generalize aU _ _ _=L at ih' ⊢
  unfold rM at ih' ⊢
  by_cases g1:x < 0
  ·have e6:(x < 0)=True:=tt g1
   simp only [decide_eq_true g1,Bool.true_or]
   refine ⟨?hh1,?_⟩
   rotate_left
   rw [if_pos trivial]
   simp only [adD,go_sem,↓reduceIte,aee,aeg,aef,aei,h3,h5,h6,k3,e1,e2,e6]
   rfl
  ·have e6:(x < 0)=False:=ff g1
   by_cases g2:32 < x
   ·have e7:(32 < x)=True:=tt g2
    simp only [decide_eq_false g1,decide_eq_true g2,Bool.false_or,Bool.true_or]
    refine ⟨?hh2,?_⟩
    rotate_left
    rw [if_pos trivial]
    simp only [adD,go_sem,↓reduceIte,aee,aeg,aef,aei,h3,h5,h6,k3,e1,e2,e6,e7]
    rfl
   ·have e7:(32 < x)=False:=ff g2
    simp only [decide_eq_false g1,decide_eq_false g2,Bool.false_or]
    have e8:IntKind.i64.wrap (bi (t.exps.take i)+x)=bi (t.exps.take i)+x:=i64_in _ ⟨by omega,by omega⟩
    simp only [adD,go_sem,↓reduceIte,aee,aeg,aef,aei,h3,h5,h6,k3,e1,e2,e5,e6,e7,e8]
    exact ih' (fun y hy=>by
     rcases List.mem_append.1 hy with h | h
     ·exact hg y h
     ·rw [List.mem_singleton.1 h]
      omega) _ _ rfl rfl rfl rfl
theorem aig {v:Int} {t:Rt} (ok:OkT t) (hv:v≤1000):R F.r23_term [I v,.agg (bv t)] []=some (B (Dh v t),[]):=by
 refine aX ahD ahC (agd false) rfl ?_
 have hvd:=ae5 ok.c
 simp only [aF,aW] at hvd
 unfold Dh
 by_cases c1:(t.exps.length:Int)=v
 ·have f1:((t.exps.length:Int)=v)=True:=tt c1
  rw [decide_eq_true c1,Bool.true_and]
  cases c2:vd t.c with
  | false =>
   rw [c2] at hvd
   rw [Bool.false_and]
   simp only [adO,aeO,bv,go_sem,↓reduceIte,aee,aeg,aef,aeh,f1,hvd]
  | true =>
   rw [c2] at hvd
   rw [Bool.true_and]
   by_cases c3:t.c.m.length=0
   ·have f3:((t.c.m.length:Int)=0)=True:=tt (by omega)
    rw [decide_eq_false (p:=t.c.m.length ≠ 0) (fun h=>h c3),Bool.false_and]
    simp only [adO,aeO,bv,go_sem,↓reduceIte,aee,aeg,aef,aeh,f1,hvd,f3]
   ·have f3:((t.c.m.length:Int)=0)=False:=ff (by omega)
    rw [decide_eq_true (p:=t.c.m.length ≠ 0) c3,Bool.true_and]
    have hL:=aif (t:=t) (by omega) t.exps.length 0 (Nat.zero_add _) (fun x hx=>by rw [List.take_zero] at hx; exact nomatch hx)
    simp only [List.drop_zero,List.take_zero,bi,Int.natCast_zero] at hL
    generalize hLL:aU (az R (ab false) adD) [3,5,6] [3]=L at hL
    have hX:∀ s h,az R (ab false) (.loop [3,5,6] [3] adD) s h=L s h:=fun s h=>by rw [← hLL]; rfl
    clear hLL
    have hL2:∀ (S:af) (H:aa) (X:Option (Ex × St)),aI 0 [5] (L S H)=X→S 3=.ref 3 none 0 0 0→S 5=I 0→S 6=I 0→H 3=.bx (bv t)→∃ hh,X=if t.exps.any rM=true then some (.ret,⟨upd (fun _=>.any) 4 (B false),hh⟩) else some (.normal,⟨upd (fun _=>.any) 5 (I (bi t.exps)),hh⟩):=fun S H X hX=>by
     rw [← hX]
     exact hL S H
    simp only [bv] at hL2
    cases c4:t.exps.any rM with
    | true =>
     simp only [c4] at hL2
     rw [Bool.not_true,Bool.false_and]
     simp only [adO,aeO,hX,bv,go_sem,↓reduceIte,aee,aeg,aef,aeh,f1,hvd,f3]
     generalize hB:aI 0 [5] (L _ _)=X
     obtain ⟨hh,g0⟩:=hL2 _ _ _ hB rfl rfl rfl rfl
     rw [g0]
     simp only [go_sem,↓reduceIte]
    | false =>
     simp only [c4,if_neg Bool.false_ne_true] at hL2
     rw [Bool.not_false,Bool.true_and]
     simp only [adO,aeO,hX,bv,go_sem,↓reduceIte,aee,aeg,aef,aeh,f1,hvd,f3]
     generalize hB:aI 0 [5] (L _ _)=X
     obtain ⟨hh,g0⟩:=hL2 _ _ _ hB rfl rfl rfl rfl
     rw [g0]
     simp only [go_sem,↓reduceIte]
 ·have f1:((t.exps.length:Int)=v)=False:=ff c1
  rw [decide_eq_false c1,Bool.false_and]
  simp only [adO,aeO,bv,go_sem,↓reduceIte,aee,aeg,aef,f1]
theorem aih {a:Rp} (ok:OkP a) (hv:a.vars≤8) (h2:a.terms.length≤500):∀ (k i:Nat),i+k=a.terms.length→∀ (pr:Option Rt),(i=0→pr=none)→(0 < i→∃ q,pr=some q∧a.terms[i - 1]?=some q∧Dh a.vars q=true) →
  ∀ (s:af) (h:aa),s 1=.ref 1 none 0 0 0→s 3=I i→h 1=.bx [I a.vars,.sl 4 (ax a.terms)] →
  ∃ hh,aI 0 [] (aU (az R (ab false) adF) [1,3] [1] s h)=if tP a.vars pr (a.terms.drop i)=true then some (.normal,⟨fun _=>.any,hh⟩) else some (.ret,⟨upd (fun _=>.any) 2 (B false),hh⟩):=by
 intro k
 induction k with
 | zero =>
  intro i hi pr p0 p1 s h h1 h3 k1
  have e1:((i:Int) < a.terms.length)=False:=ff (by omega)
  rw [List.drop_eq_nil_of_le (by omega),aB]
  refine ⟨?hh0,?_⟩
  rotate_left
  show _=if true=true then _ else _
  rw [if_pos rfl]
  simp only [adF,go_sem,↓reduceIte,aee,aeg,aef,aei,h1,h3,k1,e1]
  rfl
 | succ k ih =>
  intro i hi pr p0 p1 s h h1 h3 k1
  have hlt:i < a.terms.length:=by omega
  have e1:((i:Int) < a.terms.length)=True:=tt (by omega)
  have e2:bH (ax a.terms) (i:Int)=some (.ipt (bv a.terms[i])):=jt rfl (List.getElem?_eq_getElem hlt)
  have e5:IntKind.i64.wrap ((i:Int)+1)=((i+1:Nat):Int):=wi (by omega) (by omega)
  have okt:=ok.t a.terms[i] (List.getElem_mem hlt)
  have hnext:a.terms[i+1 - 1]?=some a.terms[i]:=List.getElem?_eq_getElem hlt
  rw [List.drop_eq_getElem_cons hlt,aB]
  have ih':=ih (i+1) (by omega) (some a.terms[i]) (fun h=>absurd h (Nat.succ_ne_zero _))
  generalize a.terms[i]=t at e2 okt ih' hnext ⊢
  generalize aU _ _ _=L at ih' ⊢
  have htm:=aig okt (v:=a.vars) (by omega)
  simp only [bv] at e2 htm
  unfold tP
  cases hb:Dh a.vars t with
  | false =>
   rw [hb] at htm
   simp only [Bool.false_and,if_neg Bool.false_ne_true]
   refine ⟨?hh2,?_⟩
   rotate_left
   simp only [adF,go_sem,↓reduceIte,aee,aeg,aef,aeh,aej,aei,h1,h3,k1,e1,e2,htm]
   rfl
  | true =>
   rw [hb] at htm
   obtain ⟨c1,c2,c3,c4,c5⟩:=Bz hb
   simp only [Bool.true_and]
   by_cases hi0:i=0
   ·have f6:(0 < (i:Int))=False:=ff (by omega)
    rw [p0 hi0]
    simp only [Hi,Bool.true_and]
    simp only [adF,go_sem,↓reduceIte,aee,aeg,aef,aeh,aej,aei,h1,h3,k1,e1,e2,htm,f6,e5]
    exact ih' (fun _=>⟨t,rfl,hnext,hb⟩) _ _ rfl rfl rfl
   ·have f6:(0 < (i:Int))=True:=tt (by omega)
    obtain ⟨q,q1,q2,q3⟩:=p1 (by omega)
    obtain ⟨d1,d2,d3,d4,d5⟩:=Bz q3
    rw [q1]
    have e7:IntKind.i64.wrap ((i:Int) - 1)=((i - 1:Nat):Int):=wi (by omega) (by omega)
    have e8:bH (ax a.terms) ((i - 1:Nat):Int)=some (.ipt (bv q)):=jt rfl q2
    simp only [bv] at e8
    have ho:=afr (a:=q.exps) (b:=t.exps) ⟨by omega,qZ d4⟩ ⟨by omega,qZ c4⟩ (by omega)
    simp only [Hi]
    by_cases c6:bt q.exps t.exps < 0
    ·have f7:(0≤bt q.exps t.exps)=False:=ff (by omega)
     simp only [decide_eq_true c6,Bool.true_and]
     simp only [adF,go_sem,↓reduceIte,aee,aeg,aef,aeh,aej,aei,h1,h3,k1,e1,e2,htm,f6,e5,e7,e8,ho,f7]
     exact ih' (fun _=>⟨t,rfl,hnext,hb⟩) _ _ rfl rfl rfl
    ·have f7:(0≤bt q.exps t.exps)=True:=tt (by omega)
     simp only [decide_eq_false c6,Bool.false_and,if_neg Bool.false_ne_true]
     refine ⟨?hh7,?_⟩
     rotate_left
     simp only [adF,go_sem,↓reduceIte,aee,aeg,aef,aeh,aej,aei,h1,h3,k1,e1,e2,htm,f6,e7,e8,ho,f7]
     rfl
theorem afQ {a:Rp} (ok:OkP a):R F.r23_Valid [aZ a] []=some (B (vp a),[]):=by
 refine aX ag4 ag3 (afS false) rfl ?_
 unfold vp
 by_cases c1:0≤a.vars
 ·have f1:(a.vars < 0)=False:=ff (by omega)
  rw [decide_eq_true c1,Bool.true_and]
  by_cases c2:a.vars≤8
  ·have f2:(8 < a.vars)=False:=ff (by omega)
   rw [decide_eq_true c2,Bool.true_and]
   by_cases c3:a.terms.length≤500
   ·have f3:(500 < (a.terms.length:Int))=False:=ff (by omega)
    rw [decide_eq_true c3,Bool.true_and]
    have h3:=aih ok c2 c3 a.terms.length 0 (Nat.zero_add _) none (fun _=>rfl) (fun h=>absurd h (Nat.lt_irrefl _))
    simp only [List.drop_zero,Int.natCast_zero] at h3
    cases hb:tP a.vars none a.terms with
    | true =>
     rw [hb] at h3
     simp only [] at h3
     simp only [adJ,aeF,aZ,go_sem,↓reduceIte,aee,aeg,aef,f1,f2,f3]
     rw [(h3 _ _ rfl rfl rfl).choose_spec]
     simp only [go_sem,↓reduceIte]
    | false =>
     rw [hb] at h3
     simp only [if_neg Bool.false_ne_true] at h3
     simp only [adJ,aeF,aZ,go_sem,↓reduceIte,aee,aeg,aef,f1,f2,f3]
     rw [(h3 _ _ rfl rfl rfl).choose_spec]
     simp only [go_sem,↓reduceIte]
   ·have f3:(500 < (a.terms.length:Int))=True:=tt (by omega)
    rw [decide_eq_false c3,Bool.false_and]
    simp only [adJ,aeF,aZ,go_sem,↓reduceIte,aee,aeg,aef,f1,f2,f3]
  ·have f2:(8 < a.vars)=True:=tt (by omega)
   rw [decide_eq_false c2,Bool.false_and]
   simp only [adJ,aeF,aZ,go_sem,↓reduceIte,aee,aeg,aef,f1,f2]
 ·have f1:(a.vars < 0)=True:=tt (by omega)
  rw [decide_eq_false c1,Bool.false_and]
  simp only [adJ,aeF,aZ,go_sem,↓reduceIte,aee,aeg,aef,f1]
end Go.Ab
namespace Go.Ab
open Go Go.IntWalk
set_option maxRecDepth 4000
set_option maxHeartbeats 1000000
end Go.Ab
namespace Go.Ab
open Go Go.IntWalk
set_option maxRecDepth 4000
set_option maxHeartbeats 1000000
structure Len1 (x:Ri):Prop where
 lo:Lb x.lo.m∧x.lo.m.length≤100000
 hi:Lb x.hi.m∧x.hi.m.length≤100000
def VI (x:Ri):Prop:=(vd x.lo=true∧Ok0 x.lo)∧(vd x.hi=true∧Ok0 x.hi)
theorem VI.len {x:Ri} (h:VI x):Len1 x:=⟨⟨h.1.2.1,Nat.le_trans (xq h.1.1 h.1.2.1) (by decide)⟩,⟨h.2.2.1,Nat.le_trans (xq h.2.1 h.2.2.1) (by decide)⟩⟩
end Go.Ab
namespace Go.Ab
open Go Go.IntWalk
set_option maxRecDepth 4000
set_option maxHeartbeats 1000000
theorem KA {a:Rp} (h:vp a=true):0≤a.vars∧a.vars≤8∧a.terms.length≤500∧tP a.vars none a.terms=true:=by
 simp only [vp,Bool.and_eq_true,decide_eq_true_eq] at h
 exact ⟨h.1,h.2.1,h.2.2.1,h.2.2.2⟩
theorem Ql {a:Rp} (h:vp a=true) {t:Rt} (ht:t ∈ a.terms):sm t.exps∧(t.exps.length:Int)=a.vars∧vd t.c=true∧t.c.m.length ≠ 0∧bi t.exps≤32:=by
 obtain ⟨v1,v2,v3,v4⟩:=KA h
 obtain ⟨c1,c2,c3,c4,c5⟩:=Bz (Qk _ _ v4 t ht)
 exact ⟨⟨by omega,qZ c4⟩,c1,c2,c3,c5⟩
end Go.Ab
namespace Go.Ab
open Go Go.IntWalk
set_option maxRecDepth 4000
set_option maxHeartbeats 1000000
def rdE:Option Rd→List AV
 | none=>[B false,.emp,I 0]
 | some d=>aW d
def XP (l:List (Option Rd)):List (List AV):=l.map rdE
@[go_sem] theorem abP (l:List (Option Rd)):(XP l).length=l.length:=by simp [XP]
end Go.Ab
namespace Go.Ab
open Go Go.IntWalk
set_option maxRecDepth 4000
set_option maxHeartbeats 1000000
def nv (a b:Rd):Rd × Int:=if (vd a && vd b)=true then ew (gl (zI a*zI b) (-32768)) else (et,1)
def iN (a b:Rd):Rd × Int:=if (vd a && vd b)=true then ew (gl (zI a+zI b) (-16384)) else (et,1)
theorem IX {z f:Int}:vd (ew (gl z f)).1=true∧Ok0 (ew (gl z f)).1:=by
 unfold ew gl
 by_cases h:sq (aq (ac (cB (decide (z < 0)) z.natAbs f).m)) (cB (decide (z < 0)) z.natAbs f).e=true
 ·rw [if_pos h]
  have hv:=Qi h
  have hb:=Cz (decide (z < 0)) z.natAbs f
  exact ⟨hv,hb,Nat.lt_of_le_of_lt (xq hv hb) (by decide)⟩
 ·rw [if_neg h]
  exact Hf
theorem alt (a b:Rd):vd (nv a b).1=true∧Ok0 (nv a b).1:=by
 unfold nv
 split
 ·exact IX
 ·exact Hf
theorem Qm (a b:Rd):vd (iN a b).1=true∧Ok0 (iN a b).1:=by
 unfold iN
 split
 ·exact IX
 ·exact Hf
theorem xV {d:Rd} (h:vd d=true) (h0:d.m.length ≠ 0):ac d.m % 2=1:=by
 obtain ⟨h1,h2,h3,h4⟩:=rL h h0
 cases hm:d.m with
 | nil=>rw [hm] at h0; exact absurd rfl h0
 | cons x l =>
  rw [hm] at h2
  have h2':x % 2=1:=h2
  show (x+4294967296*ac l) % 2=1
  omega
theorem Hj {x y:Nat} (hx:x ≠ 0) (hy:y ≠ 0):aq x+aq y - 2 < aq (x*y):=by
 have h1:=lG hx
 have h2:=lG hy
 have h3:2 ^ (aq x - 1)≤x:=kB.1 (by omega)
 have h4:2 ^ (aq y - 1)≤y:=kB.1 (by omega)
 rw [kB,show aq x+aq y - 2=(aq x - 1)+(aq y - 1) by omega,Nat.pow_add]
 exact Nat.mul_le_mul h3 h4
theorem Qn {a b:Rd} (oa:Ok0 a) (ob:Ok0 b):EW a b=rV (nv a b):=by
 unfold EW nv
 by_cases hv:vd a=true∧vd b=true
 ·obtain ⟨va,vb⟩:=hv
  rw [if_pos ⟨va,vb⟩,va,vb,Bool.true_and,if_pos rfl,← LX oa ob va vb]
  by_cases h0:a.m.length=0∨b.m.length=0
  ·rw [if_pos h0]
   have:ac a.m*ac b.m=0:=by
    rcases h0 with h0 | h0
    ·rw [List.length_eq_zero_iff.1 h0]
     exact Nat.zero_mul _
    ·rw [List.length_eq_zero_iff.1 h0]
     exact Nat.mul_zero _
   rw [this,jA]
   rfl
  ·rw [if_neg h0]
   have a0:a.m.length ≠ 0:=fun h=>h0 (.inl h)
   have b0:b.m.length ≠ 0:=fun h=>h0 (.inr h)
   have x0:=iI va a0
   have y0:=iI vb b0
   by_cases hb:4096 < aq (ac a.m)+aq (ac b.m) - 1
   ·rw [if_pos hb]
    have h1:=Hj x0 y0
    have ho:ac a.m*ac b.m % 2=1:=by rw [Nat.mul_mod,xV va a0,xV vb b0]
    have ht:=LW ho 0
    rw [Nat.pow_zero,Nat.mul_one] at ht
    obtain ⟨g1,g2,g3,g4⟩:=uY (neg:=a.neg != b.neg) (e:=a.e+b.e) (Nat.mul_ne_zero x0 y0)
    unfold ew
    rw [if_neg]
    ·rfl
    ·intro h2
     rw [g1,ht,Nat.pow_zero,Nat.div_one] at h2
     have h3:=(tM h2 (by omega)).1
     omega
   ·rw [if_neg hb]
    exact IV _
 ·rw [if_neg hv,if_neg]
  ·rfl
  ·intro h
   rw [Bool.and_eq_true] at h
   exact hv h
theorem Qo {a b:Rd} (oa:Ok0 a) (ob:Ok0 b):R F.dyadic_Mul [aF a,aF b] []=some (rV (nv a b),[]):=by
 rw [← Qn oa ob]
 exact Qg oa ob
end Go.Ab
namespace Go.Ab
open Go Go.IntWalk
set_option maxRecDepth 4000
set_option maxHeartbeats 1000000
end Go.Ab
namespace Go.Ab
open Go Go.IntWalk
set_option maxRecDepth 4000
def akw (x:Rd):Nat→Rd→Option Rd
 | 0,c=>some c
 | n+1,c=>if (nv c x).2=0 then akw x n (nv c x).1 else none
def aks:List Int→List Rd→Rd→Option Rd
 | e::es,x::xs,c=>(akw x e.toNat c).bind fun d=>aks es xs d
 | _,_,c=>some c
def akC (xs:List Rd):List Rt→Rd→Rd × Int
 | [],s=>(s,0)
 | t::l,s=>match aks t.exps xs t.c with
  | none=>(et,9)
  | some d=>if (iN s d).2=0 then akC xs l (iN s d).1 else (et,9)
def amx (a:Rp) (xs:List Rd):Bool:=vp a && (decide ((xs.length:Int)=a.vars) && xs.all vd)
def akW (a:Rp) (xs:List Rd):Rd × Int:=if amx a xs=true then akC xs a.terms et else (et,1)
end Go.Ab
namespace Go.Ab
open Go Go.IntWalk
set_option maxRecDepth 4000
set_option maxHeartbeats 1000000
theorem ahk {d:Rd} (ok:Ok0 d):R F.r02_Checked [aF d] []=some (rV (if vd d=true then (d,0) else (et,9)),[]):=by
 refine aX agk agj (afF false) rfl ?_
 have hv:=ae5 ok
 simp only [aF,aW] at hv
 cases hb:vd d with
 | false =>
  rw [hb] at hv
  rw [if_neg Bool.false_ne_true]
  simp only [aeu,ae6,rV,aF,aW,et,go_sem,↓reduceIte,aee,aeg,aef,aeh,hv]
 | true =>
  rw [hb] at hv
  rw [if_pos rfl]
  simp only [aeu,ae6,rV,aF,aW,go_sem,↓reduceIte,aee,aeg,aef,aeh,hv]
theorem aiF (z f:Int):(if vd (gl z f)=true then (gl z f,(0:Int)) else (et,9))=ew (gl z f):=by
 unfold ew
 by_cases h:sq (aq (ac (gl z f).m)) (gl z f).e=true
 ·rw [if_pos h,if_pos (show vd (gl z f)=true from Qi h)]
 ·rw [if_neg h,if_neg]
  intro h2
  by_cases h0:(gl z f).m.length=0
  ·rw [xU h2 h0] at h
   exact h (by decide)
  ·exact h (rL h2 h0).2.2.2
theorem amN {z f:Int} {k:Nat} (h:aq z.natAbs≤32*k) (hk:k≤100000):Ok0 (gl z f) :=
 ⟨Cz _ _ _,Nat.lt_of_le_of_lt (Hd (k:=k) h) (by omega)⟩
theorem ahp {a b:Rd} (oa:Ok0 a) (ob:Ok0 b):R F.r02_Mul [aF a,aF b] []=some (rV (nv a b),[]):=by
 refine aX ahZ ahY (agB false) rfl ?_
 have ha:=ae5 oa
 have hb:=ae5 ob
 unfold nv
 simp only [aF,aW] at ha hb
 cases va:vd a with
 | false =>
  rw [va] at ha
  rw [Bool.false_and,if_neg Bool.false_ne_true]
  simp only [aeN,afc,rV,aF,aW,et,go_sem,↓reduceIte,aee,aeg,aef,aeh,ha]
 | true =>
  rw [va] at ha
  cases vb:vd b with
  | false =>
   rw [vb] at hb
   rw [Bool.true_and,if_neg Bool.false_ne_true]
   simp only [aeN,afc,rV,aF,aW,et,go_sem,↓reduceIte,aee,aeg,aef,aeh,ha,hb]
  | true =>
   rw [vb] at hb
   rw [Bool.true_and,if_pos rfl]
   have hp:=ahj oa ob va vb
   rw [LX oa ob va vb] at hp
   have hl:Ok0 (gl (zI a*zI b) (-32768)):=by
    rw [← LX oa ob va vb]
    have h1:=Hc (ac a.m) (ac b.m)
    obtain ⟨_,_,_,h2⟩:=kg va oa.lb
    obtain ⟨_,_,_,h3⟩:=kg vb ob.lb
    exact ⟨Cz _ _ _,Nat.lt_of_le_of_lt (Hd (k:=256) (by omega)) (by decide)⟩
   have hc:=ahk hl
   rw [aiF] at hc
   generalize ew (gl (zI a*zI b) (-32768))=r at hc ⊢
   generalize gl (zI a*zI b) (-32768)=d at hp hc
   simp only [rV,aF,aW] at hp hc
   simp only [aeN,afc,rV,aF,aW,go_sem,↓reduceIte,aee,aeg,aef,aeh,ha,hb,hp,hc]
theorem amO {a b:Rd} (oa:Ok0 a) (ob:Ok0 b):R F.r02_Add [aF a,aF b] []=some (rV (iN a b),[]):=by
 refine aX amf ame (alK false) rfl ?_
 have ha:=ae5 oa
 have hb:=ae5 ob
 unfold iN
 simp only [aF,aW] at ha hb
 cases va:vd a with
 | false =>
  rw [va] at ha
  rw [Bool.false_and,if_neg Bool.false_ne_true]
  simp only [akG,akX,rV,aF,aW,et,go_sem,↓reduceIte,aee,aeg,aef,aeh,ha]
 | true =>
  rw [va] at ha
  cases vb:vd b with
  | false =>
   rw [vb] at hb
   rw [Bool.true_and,if_neg Bool.false_ne_true]
   simp only [akG,akX,rV,aF,aW,et,go_sem,↓reduceIte,aee,aeg,aef,aeh,ha,hb]
  | true =>
   rw [vb] at hb
   rw [Bool.true_and,if_pos rfl]
   have hp:=amM oa ob va vb
   have hl:Ok0 (gl (zI a+zI b) (-16384)):=amN (k:=2000) (Nat.le_trans (alk (alZ oa va) (alZ ob vb)) (by decide)) (by decide)
   have hc:=ahk hl
   rw [aiF] at hc
   generalize ew (gl (zI a+zI b) (-16384))=r at hc ⊢
   generalize gl (zI a+zI b) (-16384)=d at hp hc
   simp only [rV,aF,aW] at hp hc
   simp only [akG,akX,rV,aF,aW,go_sem,↓reduceIte,aee,aeg,aef,aeh,ha,hb,hp,hc]
theorem amy {a b:Rd} (h:(nv a b).2 ≠ 0):(nv a b).1=et:=by
 unfold nv ew at h ⊢
 split
 ·rename_i h1
  rw [if_pos h1] at h
  split
  ·rename_i h2
   rw [if_pos h2] at h
   exact absurd rfl h
  ·rfl
 ·rfl
def aky (x:Rd) (n:Nat) (c:Rd):Rd × Bool:=match akw x n c with
 | some d=>(d,true)
 | none=>(et,false)
theorem amb {x:Rd} (ox:Ok0 x):∀ (n:Nat),n≤100000→∀ (c:Rd),Ok0 c→∀ (s:af) (h:aa),s 2=I n→s 3=.ref 3 none 0 0 0→s 4=.ref 4 none 0 0 0→s 6=.ref 6 none 0 0 0→h 3=.bx (aW c)→h 4=.bx (aW x)→h 6=.bx [B false,.emp,I 0] →
  ∃ hh,dD (aI 0 [3,6] (aU (az R (ab false) aku) [2,3,4,6] [3,4,6] s h)) (az R (ab false) (.seq (.ops [6,7] [la 22 3 3,sr 3 (.t 6) (.t 22),co 7 (.mv (.c (B true)))]) (.ret)))=some (.ret,⟨upd (upd (fun _=>.any) 7 (B (aky x n c).2)) 6 (.ref 6 none 0 0 0),hh⟩)∧hh 6=.bx (aW (aky x n c).1):=by
 intro n
 induction n with
 | zero =>
  intro _ c oc s h h2 h3 h4 h6 k3 k4 k6
  have e1:(0 < ((0:Nat):Int))=False:=ff (by omega)
  rw [aB]
  simp only [aW] at k3 k4
  refine ⟨?hh0,?_,?_⟩
  rotate_left
  ·simp only [aku,aky,akw,go_sem,↓reduceIte,aee,aeg,aef,aeh,aei,h2,h3,h4,h6,k3,k4,k6,e1]
   rfl
  ·rfl
 | succ n ih =>
  intro hn c oc s h h2 h3 h4 h6 k3 k4 k6
  have e1:(0 < ((n+1:Nat):Int))=True:=tt (by omega)
  have e5:IntKind.i64.wrap (((n+1:Nat):Int) - 1)=(n:Int):=by rw [i64_in] <;> omega
  have hm:=ahp oc ox
  have he:=amy (a:=c) (b:=x)
  have om:=(alt c x).2
  rw [aB]
  unfold aky akw
  by_cases h0:(nv c x).2=0
  ·have ih':=ih (by omega) (nv c x).1 om
   rw [if_pos h0]
   unfold aky at ih'
   generalize aU _ _ _=L at ih' ⊢
   generalize nv c x=r at hm h0 ih' ⊢
   obtain ⟨r1,r2⟩:=r
   have e2:(r2=0)=True:=tt h0
   simp only [rV,aF,aW] at hm k3 k4
   simp only [aku,go_sem,↓reduceIte,aee,aeg,aef,aeh,aei,h2,h3,h4,h6,k3,k4,k6,e1,e5,hm,e2] at ih' ⊢
   exact ih' _ _ rfl rfl rfl rfl rfl rfl rfl
  ·rw [if_neg h0]
   replace he:=he h0
   generalize aU _ _ _=L
   generalize nv c x=r at hm h0 he ⊢
   obtain ⟨r1,r2⟩:=r
   have e2:(r2=0)=False:=ff h0
   replace he:r1=et:=he
   subst he
   simp only [rV,aF,aW] at hm k3 k4
   refine ⟨?hh1,?_,?_⟩
   rotate_left
   ·simp only [aku,go_sem,↓reduceIte,aee,aeg,aef,aeh,aei,h2,h3,h4,h6,k3,k4,k6,e1,hm,e2]
    rfl
   ·rfl
theorem amc {c x:Rd} (oc:Ok0 c) (ox:Ok0 x) {n:Nat} (hn:n≤100000):R F.r23_times [aF c,aF x,I n] []=some (.tup [aF (aky x n c).1,B (aky x n c).2],[]):=by
 refine aX alT alS (alp false) rfl ?_
 have h:=amb ox n hn c oc
 have h':∀ (S:af) (H:aa) (X:Option (Ex × St)),dD (aI 0 [3,6] (aU (az R (ab false) aku) [2,3,4,6] [3,4,6] S H)) (az R (ab false) (.seq (.ops [6,7] [la 22 3 3,sr 3 (.t 6) (.t 22),co 7 (.mv (.c (B true)))]) (.ret)))=X→S 2=I n→S 3=.ref 3 none 0 0 0→S 4=.ref 4 none 0 0 0→S 6=.ref 6 none 0 0 0→H 3=.bx (aW c)→H 4=.bx (aW x)→H 6=.bx [B false,.emp,I 0] →
   ∃ hh,X=some (.ret,⟨upd (upd (fun _=>.any) 7 (B (aky x n c).2)) 6 (.ref 6 none 0 0 0),hh⟩)∧hh 6=.bx (aW (aky x n c).1):=fun S H X hX=>by
  rw [← hX]
  exact h S H
 clear h
 simp only [akN,ak7,aF,aW,go_sem,↓reduceIte,aee,aef]
 generalize hB:dD (aI 0 [3,6] (aU _ _ _ _ _)) _=X
 obtain ⟨hh,g1,g2⟩:=h' _ _ _ hB rfl rfl rfl rfl rfl rfl rfl
 rw [g1]
 simp only [aW] at g2
 simp only [go_sem,↓reduceIte,aee,aeg,aef,aeh,g2]
theorem akZ {x:Rd}:∀ (n:Nat) (c d:Rd),Ok0 c→akw x n c=some d→Ok0 d
 | 0,c,d,oc,h=>by
  unfold akw at h
  obtain rfl:=Option.some.inj h
  exact oc
 | n+1,c,d,oc,h=>by
  unfold akw at h
  split at h
  ·exact akZ n _ d (alt c x).2 h
  ·exact nomatch h
end Go.Ab
namespace Go.Ab
open Go Go.IntWalk
set_option maxRecDepth 4000
set_option maxHeartbeats 1000000
abbrev zb:List AV:=[B false,.emp,I 0]
theorem am2 {a:Rp} {xs:List Rd} (ox:∀ d ∈ xs,Ok0 d) (h2:xs.length≤100000):∀ (k i:Nat),i+k=xs.length→∀ (s:af) (h:aa),s 1=ldA xs→s 2=.ref 2 none 0 0 0→s 4=.ref 4 none 0 0 0→s 6=I i→h 2=.bx [I a.vars,.sl 4 (ax a.terms)]→h 4=.bx zb →
  ∃ hh,hh 4=.bx zb∧(((xs.drop i).all vd=true∧hh 2=.bx [I a.vars,.sl 4 (ax a.terms)]∧(∀ a,a ≠ 2→a ≠ 4→hh a=.dead)∧aI 0 [1,2,4] (aU (az R (ab false) akn) [1,2,4,6] [2,4] s h)=some (.normal,⟨upd (upd (upd (fun _=>.any) 4 (.ref 4 none 0 0 0)) 2 (.ref 2 none 0 0 0)) 1 (ldA xs),hh⟩)) ∨
   ((xs.drop i).all vd=false∧aI 0 [1,2,4] (aU (az R (ab false) akn) [1,2,4,6] [2,4] s h)=some (.ret,⟨upd (upd (fun _=>.any) 5 (I 1)) 4 (.ref 4 none 0 0 0),hh⟩))):=by
 intro k
 induction k with
 | zero =>
  intro i hi s h h1 h2 h4 h6 k2 k4
  have e1:((i:Int) < xs.length)=False:=ff (by omega)
  rw [List.drop_eq_nil_of_le (by omega),aB]
  unfold ldA at h1
  refine ⟨?hh0,?_,.inl ⟨rfl,?_,?_,?_⟩⟩
  rotate_left 4
  ·simp only [akn,ldA,go_sem,↓reduceIte,aee,aei,h1,h2,h4,h6,k2,k4,e1]
   rfl
  ·rfl
  ·rfl
  ·exact fun a h1 h2=>by simp only [upd,if_neg h1,if_neg h2]
 | succ k ih =>
  intro i hi s h h1 h2 h4 h6 k2 k4
  have hlt:i < xs.length:=by omega
  have e1:((i:Int) < xs.length)=True:=tt (by omega)
  have e2:bH (LT xs) (i:Int)=some (.ipt (aW xs[i])):=alr rfl (List.getElem?_eq_getElem hlt)
  have e5:IntKind.i64.wrap ((i:Int)+1)=((i+1:Nat):Int):=wi (by omega) (by omega)
  have od:=ox xs[i] (List.getElem_mem hlt)
  have ih':=ih (i+1) (by omega)
  rw [List.drop_eq_getElem_cons hlt,aB]
  generalize aU _ _ _=L at ih' ⊢
  generalize xs[i]=d at e2 od ⊢
  have hv:=ae5 od
  unfold ldA at h1 ih' ⊢
  simp only [aF,aW] at hv e2
  cases hb:vd d with
  | true =>
   rw [hb] at hv
   rw [show (d::xs.drop (i+1)).all vd=(xs.drop (i+1)).all vd by rw [List.all_cons,hb,Bool.true_and]]
   generalize (xs.drop (i+1)).all vd=al at ih' ⊢
   simp only [akn,go_sem,↓reduceIte,aee,aeg,aef,aeh,aei,h1,h2,h4,h6,k2,k4,e1,e2,e5,hv]
   exact ih' _ _ rfl rfl rfl rfl rfl rfl
  | false =>
   rw [hb] at hv
   rw [show (d::xs.drop (i+1)).all vd=false by rw [List.all_cons,hb,Bool.false_and]]
   refine ⟨?hh1,?_,.inr ⟨rfl,?_⟩⟩
   rotate_left 2
   ·simp only [akn,go_sem,↓reduceIte,aee,aeg,aef,aeh,aei,h1,h2,h4,h6,k2,k4,e1,e2,hv]
    rfl
   ·rfl
theorem alm {es:List Int} {xs:List Rd} {c:Rd} {i:Nat} (h1:i < es.length) (h2:i < xs.length):aks (es.drop i) (xs.drop i) c=(akw xs[i] es[i].toNat c).bind fun d=>aks (es.drop (i+1)) (xs.drop (i+1)) d:=by
 rw [List.drop_eq_getElem_cons h1,List.drop_eq_getElem_cons h2]
 rfl
theorem ani {a:Rp} {xs:List Rd} {t:Rt} {j:Nat} {c7:List AV} (h7c:c7.all (eH [2,4,7,9])=true) (ox:∀ d ∈ xs,Ok0 d) (hx:(xs.length:Int)=a.vars) (hv:a.vars≤8) (he:t.exps.length=xs.length) (hr:∀ e ∈ t.exps,0≤e∧e≤32) (ht:a.terms[j]?=some t):∀ (k i:Nat),i+k=xs.length→∀ (c:Rd),Ok0 c→∀ (s:af) (h:aa),s 1=ldA xs→s 2=.ref 2 none 0 0 0→s 4=.ref 4 none 0 0 0→s 7=.ref 7 none 0 0 0→s 8=I j→s 9=.ref 9 none 0 0 0→s 10=I i →
  h 2=.bx [I a.vars,.sl 4 (ax a.terms)]→h 4=.bx zb→h 7=.bx c7→h 9=.bx (aW c) →
  ∃ hh,hh 4=.bx zb∧((∃ d,aks (t.exps.drop i) (xs.drop i) c=some d∧Ok0 d∧hh 9=.bx (aW d)∧hh 2=.bx [I a.vars,.sl 4 (ax a.terms)]∧hh 7=.bx c7∧(∀ a,a ≠ 2→a ≠ 4→a ≠ 7→a ≠ 9→hh a=.dead) ∧
    aI 4 [1,2,4,7,8,9] (aU (az R (ab false) akk) [1,2,4,7,8,9,10] [2,4,7,9] s h)=some (.normal,⟨upd (upd (upd (upd (upd (upd (fun _=>.any) 9 (.ref 9 none 0 0 0)) 8 (I j)) 7 (.ref 7 none 0 0 0)) 4 (.ref 4 none 0 0 0)) 2 (.ref 2 none 0 0 0)) 1 (ldA xs),hh⟩)) ∨
   (aks (t.exps.drop i) (xs.drop i) c=none∧aI 4 [1,2,4,7,8,9] (aU (az R (ab false) akk) [1,2,4,7,8,9,10] [2,4,7,9] s h)=some (.ret,⟨upd (upd (fun _=>.any) 5 (I 9)) 4 (.ref 4 none 0 0 0),hh⟩))):=by
 intro k
 induction k with
 | zero =>
  intro i hi c oc s h h1 h2 h4 h7 h8 h9 h10 k2 k4 k7 k9
  have e1:((i:Int) < a.vars)=False:=ff (by omega)
  rw [List.drop_eq_nil_of_le (show xs.length≤i by omega),List.drop_eq_nil_of_le (show t.exps.length≤i by omega),aB]
  unfold ldA at h1
  simp only [aW] at k9
  refine ⟨?hh0,?_,.inl ⟨c,rfl,oc,?_,?_,?_,?_,?_⟩⟩
  rotate_left 6
  ·simp only [akk,ldA,go_sem,↓reduceIte,aee,aeg,aef,aei,h1,h2,h4,h7,h8,h9,h10,k2,k4,k7,k9,h7c,e1]
   rfl
  ·rfl
  ·rfl
  ·rfl
  ·rfl
  ·exact fun a h1 h2 h3 h4=>by simp only [upd,if_neg h1,if_neg h2,if_neg h3,if_neg h4]
 | succ k ih =>
  intro i hi c oc s h h1 h2 h4 h7 h8 h9 h10 k2 k4 k7 k9
  have hlt:i < xs.length:=by omega
  have hlt2:i < t.exps.length:=by omega
  have e1:((i:Int) < a.vars)=True:=tt (by omega)
  have e2:bH (LT xs) (i:Int)=some (.ipt (aW xs[i])):=alr rfl (List.getElem?_eq_getElem hlt)
  have e3:bH (ax a.terms) (j:Int)=some (.ipt (bv t)):=jt rfl ht
  have e4:bH (aY t.exps) (i:Int)=some (.ipt [I t.exps[i]]):=qY rfl (List.getElem?_eq_getElem hlt2)
  have e5:IntKind.i64.wrap ((i:Int)+1)=((i+1:Nat):Int):=wi (by omega) (by omega)
  have od:=ox xs[i] (List.getElem_mem hlt)
  obtain ⟨r1,r2⟩:=hr t.exps[i] (List.getElem_mem hlt2)
  have ih':=ih (i+1) (by omega)
  rw [alm hlt2 hlt,aB]
  generalize aU _ _ _=L at ih' ⊢
  generalize t.exps[i]=e at e4 r1 r2 ⊢
  obtain ⟨n,rfl⟩:=Int.eq_ofNat_of_zero_le r1
  rw [Int.toNat_natCast]
  generalize xs[i]=x at e2 od ⊢
  have hm:=amc oc od (n:=n) (by omega)
  have hok:=akZ (x:=x) n c
  unfold aky at hm
  unfold ldA at h1 ih' ⊢
  simp only [bv] at e3
  cases hT:akw x n c with
  | some d =>
   have oc2:=hok d oc hT
   rw [hT] at hm
   simp only [aF,aW] at hm e2 k9
   replace ih':=ih' d oc2
   rw [Option.bind_some]
   generalize aks (t.exps.drop (i+1)) (xs.drop (i+1)) d=PE at ih' ⊢
   simp only [akk,go_sem,↓reduceIte,aee,aeg,aef,aeh,aej,aei,h1,h2,h4,h7,h8,h9,h10,k2,k4,k7,k9,h7c,e1,e2,e3,e4,e5,hm]
   exact ih' _ _ rfl rfl rfl rfl rfl rfl rfl rfl rfl rfl rfl
  | none =>
   rw [hT] at hm
   simp only [aF,aW,et] at hm e2 k9
   refine ⟨?hh1,?_,.inr ⟨rfl,?_⟩⟩
   rotate_left 2
   ·simp only [akk,go_sem,↓reduceIte,aee,aeg,aef,aeh,aej,aei,h1,h2,h4,h7,h8,h9,h10,k2,k4,k7,k9,h7c,e1,e2,e3,e4,hm]
    rfl
   ·rfl
end Go.Ab
namespace Go.Ab
open Go Go.IntWalk
set_option maxRecDepth 4000
set_option maxHeartbeats 1000000
theorem ak5 {xs:List Rd} {t:Rt} {l:List Rt} {q d:Rd} (h:aks t.exps xs t.c=some d):akC xs (t::l) q=if (iN q d).2=0 then akC xs l (iN q d).1 else (et,9):=by
 rw [show akC xs (t::l) q=(match aks t.exps xs t.c with | none=>(et,(9:Int)) | some d=>if (iN q d).2=0 then akC xs l (iN q d).1 else (et,9)) from rfl,h]
theorem ak6 {xs:List Rd} {t:Rt} {l:List Rt} {q:Rd} (h:aks t.exps xs t.c=none):akC xs (t::l) q=(et,9):=by
 rw [show akC xs (t::l) q=(match aks t.exps xs t.c with | none=>(et,(9:Int)) | some d=>if (iN q d).2=0 then akC xs l (iN q d).1 else (et,9)) from rfl,h]
theorem am3 {a:Rp} {xs:List Rd} (ox:∀ d ∈ xs,Ok0 d) (oa:OkP a) (hv:vp a=true) (hx:(xs.length:Int)=a.vars):∀ (k i:Nat),i+k=a.terms.length→∀ (q:Rd),Ok0 q→∀ (c7:List AV),(c7=aW q∨(c7=zb∧q=et))→∀ (s:af) (h:aa),s 1=ldA xs→s 2=.ref 2 none 0 0 0→s 4=.ref 4 none 0 0 0→s 7=.ref 7 none 0 0 0→s 8=I i →
  h 2=.bx [I a.vars,.sl 4 (ax a.terms)]→h 4=.bx zb→h 7=.bx c7 →
  ∃ hh,hh 4=.bx zb∧((∃ d c8,akC xs (a.terms.drop i) q=(d,0)∧hh 7=.bx c8∧(c8=aW d∨(c8=zb∧d=et))∧aI 2 [4,7] (aU (az R (ab false) akr) [1,2,4,7,8] [2,4,7] s h)=some (.normal,⟨upd (upd (fun _=>.any) 7 (.ref 7 none 0 0 0)) 4 (.ref 4 none 0 0 0),hh⟩)) ∨
   (akC xs (a.terms.drop i) q=(et,9)∧aI 2 [4,7] (aU (az R (ab false) akr) [1,2,4,7,8] [2,4,7] s h)=some (.ret,⟨upd (upd (fun _=>.any) 5 (I 9)) 4 (.ref 4 none 0 0 0),hh⟩))):=by
 obtain ⟨v1,v2,v3,v4⟩:=KA hv
 intro k
 induction k with
 | zero =>
  intro i hi q oq c7 hq s h h1 h2 h4 h7 h8 k2 k4 k7
  have e1:((i:Int) < a.terms.length)=False:=ff (by omega)
  rw [List.drop_eq_nil_of_le (by omega),aB]
  unfold ldA at h1
  have h7c:c7.all (eH [2,4,7])=true:=by rcases hq with rfl | ⟨rfl,rfl⟩ <;> rfl
  refine ⟨?hh0,?_,.inl ⟨q,c7,rfl,?_,hq,?_⟩⟩
  rotate_left 3
  ·simp only [akr,go_sem,↓reduceIte,aee,aeg,aef,aei,h1,h2,h4,h7,h8,k2,k4,k7,h7c,e1]
   rfl
  ·rfl
  ·rfl
 | succ k ih =>
  intro i hi q oq c7 hq s h h1 h2 h4 h7 h8 k2 k4 k7
  have hlt:i < a.terms.length:=by omega
  have e1:((i:Int) < a.terms.length)=True:=tt (by omega)
  have ht:=List.getElem?_eq_getElem hlt
  have e5:IntKind.i64.wrap ((i:Int)+1)=((i+1:Nat):Int):=wi (by omega) (by omega)
  have okt:=oa.t a.terms[i] (List.getElem_mem hlt)
  obtain ⟨c1,c2,c3,c4,c5⟩:=Ql hv (List.getElem_mem hlt)
  have ih':=ih (i+1) (by omega)
  rw [List.drop_eq_getElem_cons hlt,aB]
  generalize a.terms[i]=t at ht okt c1 c2 c3 c4 c5 ⊢
  have e2:bH (ax a.terms) (i:Int)=some (.ipt (bv t)):=jt rfl ht
  have h7c:c7.all (eH [2,4,7])=true:=by rcases hq with rfl | ⟨rfl,rfl⟩ <;> rfl
  have h7d:c7.all (eH [2,4,7,9])=true:=by rcases hq with rfl | ⟨rfl,rfl⟩ <;> rfl
  have hin:=ani h7d ox hx v2 (by omega) c1.2 ht xs.length 0 (Nat.zero_add _) t.c okt.c
  simp only [List.drop_zero,Int.natCast_zero] at hin
  generalize hL0:aU (az R (ab false) akk) [1,2,4,7,8,9,10] [2,4,7,9]=L0 at hin
  have hX:∀ s h,az R (ab false) (.loop [1,2,4,7,8,9,10] [2,4,7,9] akk) s h=L0 s h:=fun s h=>by rw [← hL0]; rfl
  clear hL0
  have hin2:∀ (S:af) (H:aa) (X:Option (Ex × St)),aI 4 [1,2,4,7,8,9] (L0 S H)=X→S 1=ldA xs→S 2=.ref 2 none 0 0 0→S 4=.ref 4 none 0 0 0→S 7=.ref 7 none 0 0 0→S 8=I i→S 9=.ref 9 none 0 0 0→S 10=I 0 →
    H 2=.bx [I a.vars,.sl 4 (ax a.terms)]→H 4=.bx zb→H 7=.bx c7→H 9=.bx (aW t.c) →
    ∃ hh,hh 4=.bx zb∧((∃ d,aks t.exps xs t.c=some d∧Ok0 d∧hh 9=.bx (aW d)∧hh 2=.bx [I a.vars,.sl 4 (ax a.terms)]∧hh 7=.bx c7∧(∀ a,a ≠ 2→a ≠ 4→a ≠ 7→a ≠ 9→hh a=.dead) ∧
      X=some (.normal,⟨upd (upd (upd (upd (upd (upd (fun _=>.any) 9 (.ref 9 none 0 0 0)) 8 (I i)) 7 (.ref 7 none 0 0 0)) 4 (.ref 4 none 0 0 0)) 2 (.ref 2 none 0 0 0)) 1 (ldA xs),hh⟩)) ∨
     (aks t.exps xs t.c=none∧X=some (.ret,⟨upd (upd (fun _=>.any) 5 (I 9)) 4 (.ref 4 none 0 0 0),hh⟩))):=fun S H X hX=>by
   rw [← hX]
   exact hin S H
  clear hin
  generalize aU _ _ _=L at ih' ⊢
  unfold ldA at h1 ih' hin2
  simp only [bv] at e2
  simp only [aW] at hin2
  simp only [akr,hX,go_sem,↓reduceIte,aee,aeg,aef,aeh,aei,h1,h2,h4,h7,h8,k2,k4,k7,h7c,e1,e2]
  generalize hB:aI 4 [1,2,4,7,8,9] (L0 _ _)=X
  obtain ⟨hh,g4,hd⟩:=hin2 _ _ _ hB rfl rfl rfl rfl rfl rfl rfl rfl rfl rfl rfl
  clear hB hin2
  rcases hd with ⟨d,p1,od,g9,g2,g7,gd,rfl⟩ | ⟨p1,rfl⟩
  ·have hm:=amO oq od
   have om:=(Qm q d).2
   have ih2:=ih' (iN q d).1 om (aW (iN q d).1) (.inl rfl)
   rw [ak5 p1]
   generalize iN q d=r at hm om ih2 ⊢
   obtain ⟨r1,r2⟩:=r
   simp only [rV,aF,aW] at hm ih2
   have hg:(c7=[B q.neg,lm q.m,I q.e])∨(c7=zb∧q=et):=hq
   clear hq h7c h7d k7
   rcases hg with rfl | ⟨rfl,rfl⟩
   all_goals try simp only [et] at hm
   all_goals
    by_cases h0:r2=0
    ·have e3:(r2=0)=True:=tt h0
     rw [if_pos h0]
     generalize akC xs (a.terms.drop (i+1)) r1=Z at ih2 ⊢
     simp only [aW,go_sem,↓reduceIte,aee,aeg,aef,aeh,g4,g7,g9,gd,hm,ne_eq,not_false_eq_true,e5,e3]
     refine ih2 _ _ ?_ ?_ ?_ ?_ ?_ ?_ ?_ ?_
     all_goals first | rfl | exact g2 | exact g4
    ·have e3:(r2=0)=False:=ff h0
     rw [if_neg h0]
     refine ⟨?_,?_,.inr ⟨rfl,?_⟩⟩
     rotate_left 2
     ·simp only [go_sem,↓reduceIte,aee,aeg,aef,aeh,g4,g7,g9,gd,hm,ne_eq,not_false_eq_true,e3]
      rfl
     ·rfl
  ·rw [ak6 p1]
   refine ⟨hh,g4,.inr ⟨rfl,?_⟩⟩
   simp only [go_sem]
theorem amp {a:Rp} {xs:List Rd} (oa:OkP a) (ox:∀ d ∈ xs,Ok0 d) (h2:xs.length≤100000):R F.r23_Eval [aZ a,ldA xs] []=some (rV (akW a xs),[]):=by
 refine aX al2 al1 (alv false) rfl ?_
 have hv:=afQ oa
 unfold akW amx
 simp only [aZ] at hv
 cases hb:vp a with
 | false =>
  rw [hb] at hv
  rw [Bool.false_and,if_neg Bool.false_ne_true]
  simp only [akE,akV,rV,aF,aW,et,aZ,ldA,go_sem,↓reduceIte,aee,aeg,aef,aeh,hv]
 | true =>
  rw [hb] at hv
  rw [Bool.true_and]
  by_cases hx:(xs.length:Int)=a.vars
  ·have e1:((xs.length:Int)=a.vars)=True:=tt hx
   rw [decide_eq_true hx,Bool.true_and]
   have hc:=am2 (a:=a) ox h2 xs.length 0 (Nat.zero_add _)
   have ho:=am3 ox oa hb hx a.terms.length 0 (Nat.zero_add _) et Hf.2 zb (.inr ⟨rfl,rfl⟩)
   simp only [List.drop_zero,Int.natCast_zero] at hc ho
   generalize hL2:aU (az R (ab false) akn) [1,2,4,6] [2,4]=L2 at hc
   have hX2:∀ s h,az R (ab false) (.loop [1,2,4,6] [2,4] akn) s h=L2 s h:=fun s h=>by rw [← hL2]; rfl
   clear hL2
   generalize hL1:aU (az R (ab false) akr) [1,2,4,7,8] [2,4,7]=L1 at ho
   have hX1:∀ s h,az R (ab false) (.loop [1,2,4,7,8] [2,4,7] akr) s h=L1 s h:=fun s h=>by rw [← hL1]; rfl
   clear hL1
   have hc2:∀ (S:af) (H:aa) (X:Option (Ex × St)),aI 0 [1,2,4] (L2 S H)=X→S 1=ldA xs→S 2=.ref 2 none 0 0 0→S 4=.ref 4 none 0 0 0→S 6=I 0→H 2=.bx [I a.vars,.sl 4 (ax a.terms)]→H 4=.bx zb →
     ∃ hh,hh 4=.bx zb∧((xs.all vd=true∧hh 2=.bx [I a.vars,.sl 4 (ax a.terms)]∧(∀ a,a ≠ 2→a ≠ 4→hh a=.dead)∧X=some (.normal,⟨upd (upd (upd (fun _=>.any) 4 (.ref 4 none 0 0 0)) 2 (.ref 2 none 0 0 0)) 1 (ldA xs),hh⟩)) ∨
      (xs.all vd=false∧X=some (.ret,⟨upd (upd (fun _=>.any) 5 (I 1)) 4 (.ref 4 none 0 0 0),hh⟩))):=fun S H X hX=>by
    rw [← hX]
    exact hc S H
   have ho2:∀ (S:af) (H:aa) (X:Option (Ex × St)),aI 2 [4,7] (L1 S H)=X→S 1=ldA xs→S 2=.ref 2 none 0 0 0→S 4=.ref 4 none 0 0 0→S 7=.ref 7 none 0 0 0→S 8=I 0 →
     H 2=.bx [I a.vars,.sl 4 (ax a.terms)]→H 4=.bx zb→H 7=.bx zb →
     ∃ hh,hh 4=.bx zb∧((∃ d c8,akC xs a.terms et=(d,0)∧hh 7=.bx c8∧(c8=aW d∨(c8=zb∧d=et))∧X=some (.normal,⟨upd (upd (fun _=>.any) 7 (.ref 7 none 0 0 0)) 4 (.ref 4 none 0 0 0),hh⟩)) ∨
      (akC xs a.terms et=(et,9)∧X=some (.ret,⟨upd (upd (fun _=>.any) 5 (I 9)) 4 (.ref 4 none 0 0 0),hh⟩))):=fun S H X hX=>by
    rw [← hX]
    exact ho S H
   clear hc ho
   unfold ldA at hc2 ho2
   simp only [akE,akV,hX2,aZ,ldA,go_sem,↓reduceIte,aee,aeg,aef,aeh,hv,e1]
   generalize hB:aI 0 [1,2,4] (L2 _ _)=X
   obtain ⟨hh,g4,hd⟩:=hc2 _ _ _ hB rfl rfl rfl rfl rfl rfl
   clear hB hc2
   rcases hd with ⟨q1,g2,gd,rfl⟩ | ⟨q1,rfl⟩
   ·rw [q1,if_pos rfl]
    simp only [hX1,go_sem,↓reduceIte,aee,gd,ne_eq,not_false_eq_true]
    generalize hB:aI 2 [4,7] (L1 _ _)=X
    obtain ⟨hh2,f4,hd⟩:=ho2 _ _ _ hB rfl rfl rfl rfl rfl g2 g4 rfl
    clear hB ho2
    rcases hd with ⟨d,c8,q1,f7,hq,rfl⟩ | ⟨q1,rfl⟩
    ·rw [q1]
     rcases hq with rfl | ⟨rfl,rfl⟩
     ·simp only [aW] at f7
      simp only [rV,aF,aW,go_sem,↓reduceIte,aee,aeg,aef,aeh,f4,f7]
     ·simp only [rV,aF,aW,et,go_sem,↓reduceIte,aee,aeg,aef,aeh,f4,f7]
    ·rw [q1]
     simp only [rV,aF,aW,et,go_sem,↓reduceIte,aee,aeg,aef,aeh,f4]
   ·rw [q1,if_neg Bool.false_ne_true]
    simp only [rV,aF,aW,et,go_sem,↓reduceIte,aee,aeg,aef,aeh,g4]
  ·have e1:((xs.length:Int)=a.vars)=False:=ff hx
   rw [decide_eq_false hx,Bool.false_and,if_neg Bool.false_ne_true]
   simp only [akE,akV,rV,aF,aW,et,aZ,ldA,go_sem,↓reduceIte,aee,aeg,aef,aeh,hv,e1]
end Go.Ab
namespace Go.Ab
open Go Go.IntWalk
set_option maxRecDepth 4000
set_option maxHeartbeats 1000000
end Go.Ab
namespace Go.Ab
open Go Go.IntWalk
set_option maxRecDepth 4000
set_option maxHeartbeats 1000000
end Go.Ab
namespace Go.Ab
open Go Go.IntWalk
set_option maxRecDepth 4000
set_option maxHeartbeats 1000000
@[go_sem] theorem abQ (l:List Rd):(LT l).map (ce [.o 0 [],.o 2 [],.o 0 []])=LT l:=by
 refine qo fun x hx=>?_
 simp only [LT,List.mem_map] at hx
 obtain ⟨t,ht,rfl⟩:=hx
 simp only [aW,go_sem]
end Go.Ab
namespace Go.Ab
open Go Go.IntWalk
set_option maxRecDepth 4000
set_option maxHeartbeats 1000000
theorem Hk {d:Rd} (h:vd d=true):ew d=(d,0):=by
 unfold ew
 by_cases h0:d.m.length=0
 ·rw [xU h h0]
  rfl
 ·rw [if_pos (rL h h0).2.2.2]
theorem Dj {d:Rd} (ok:Ok0 d) (h:vd d=true):cB d.neg (ac d.m) d.e=d:=by
 have h1:=tT ok h
 obtain ⟨g1,g2,g3,g4⟩:=kg h ok.lb
 have hz:zI d=fT d.neg (mg d):=rfl
 rw [hz,← tQ] at h1
 unfold mg at h1
 rw [oO,show -16384+(((d.e+16384).toNat:Nat):Int)=d.e by omega] at h1
 exact h1
theorem IZ {N k:Nat} {neg:Bool} (ho:N % 2=1) (hb:4096 < aq N):ew (cB neg (N*2 ^ k) (-16384))=(et,9):=by
 have h0:N ≠ 0:=by omega
 rw [oO]
 obtain ⟨g1,g2,g3,g4⟩:=uY (neg:=neg) (e:=-16384+(k:Int)) h0
 have ht:=LW ho 0
 rw [Nat.pow_zero,Nat.mul_one] at ht
 unfold ew
 rw [if_neg]
 intro h2
 rw [g1,ht,Nat.pow_zero,Nat.div_one] at h2
 have h3:=(tM h2 (by omega)).1
 omega
theorem Hl {a b:Rd} (oa:Ok0 a) (ob:Ok0 b) (va:vd a=true) (vb:vd b=true) (na:a.m.length ≠ 0) (nb:b.m.length ≠ 0) {e:Int} (he:e=if b.e < a.e then b.e else a.e) (h:4097 < bm a - e) (hg:1 < bm a - bm b) :
  ew (gl (zI a+zI b) (-16384))=(et,9)∧ew (gl (zI b+zI a) (-16384))=(et,9):=by
 obtain ⟨a1,a2,a3,a4⟩:=kg va oa.lb
 obtain ⟨b1,b2,b3,b4⟩:=kg vb ob.lb
 have e1:=pG va na
 have e2:=pG vb nb
 have he1:-16384≤e∧e≤a.e∧e≤b.e∧(e=a.e∨e=b.e):=by
  rw [he]
  split <;> omega
 have hne:a.e ≠ b.e:=by omega
 have z1:zI a=fT a.neg (ac a.m*2 ^ (a.e - e).toNat*2 ^ (e+16384).toNat):=by
  rw [show zI a=fT a.neg (mg a) from rfl,pF he1.1 he1.2.1]
 have z2:zI b=fT b.neg (ac b.m*2 ^ (b.e - e).toNat*2 ^ (e+16384).toNat):=by
  rw [show zI b=fT b.neg (mg b) from rfl,pF he1.1 he1.2.2.1]
 have bx:(aq (ac a.m*2 ^ (a.e - e).toNat):Int)=bm a - e:=by
  rw [lH _ (iI va na)]
  omega
 have by':(aq (ac b.m*2 ^ (b.e - e).toNat):Int)=bm b - e:=by
  rw [lH _ (iI vb nb)]
  omega
 have oX:=xV va na
 have oY:=xV vb nb
 have odd:(ac a.m*2 ^ (a.e - e).toNat+ac b.m*2 ^ (b.e - e).toNat) % 2=1:=by
  rcases he1.2.2.2 with h1 | h1
  ·obtain ⟨k,hk⟩:∃ k,(b.e - e).toNat=k+1:=⟨(b.e - e).toNat - 1,by omega⟩
   rw [show (a.e - e).toNat=0 by omega,hk,Nat.pow_zero,Nat.mul_one,Nat.pow_succ,← Nat.mul_assoc]
   omega
  ·obtain ⟨k,hk⟩:∃ k,(a.e - e).toNat=k+1:=⟨(a.e - e).toNat - 1,by omega⟩
   rw [show (b.e - e).toNat=0 by omega,hk,Nat.pow_zero,Nat.mul_one,Nat.pow_succ,← Nat.mul_assoc]
   omega
 rw [Int.add_comm (zI b),and_self,z1,z2]
 generalize ac a.m*2 ^ (a.e - e).toNat=x at bx odd ⊢
 generalize ac b.m*2 ^ (b.e - e).toNat=y at by' odd ⊢
 generalize (e+16384).toNat=k
 have hx:2 ^ (aq x - 1)≤x:=kB.1 (by omega)
 have hy:y < 2 ^ (aq x - 2):=by
  have h3:y < 2 ^ aq y:=dm.1 (Nat.le_refl _)
  exact Nat.lt_of_lt_of_le h3 (Nat.pow_le_pow_right (by omega) (by omega))
 have hp:2 ^ (aq x - 1)=2 ^ (aq x - 2)*2:=by
  rw [← Nat.pow_succ]
  congr 1
  omega
 have hbig:∀ N:Nat,x - y≤N→4096 < aq N:=fun N hN=>by
  have h5:aq x - 2 < aq N:=kB.2 (by omega)
  omega
 have hsum:∀ (n:Bool) (z:Nat),gl (fT n (z*2 ^ k)) (-16384)=cB n (z*2 ^ k) (-16384):=fun n z=>tQ.symm
 have hmul:y*2 ^ k≤x*2 ^ k:=Nat.mul_le_mul_right _ (by omega)
 by_cases hs:a.neg=b.neg
 ·have hz:fT a.neg (x*2 ^ k)+fT b.neg (y*2 ^ k)=fT a.neg ((x+y)*2 ^ k):=by
   rw [← hs,Nat.add_mul]
   cases a.neg
   ·rw [ja,ja,ja]
    omega
   ·rw [i9,i9,i9]
    omega
  rw [hz,hsum]
  exact IZ odd (hbig _ (by omega))
 ·have hbn:b.neg=!a.neg:=by
   cases ha:a.neg <;> cases hb:b.neg <;> first | rfl | (rw [ha,hb] at hs; exact absurd rfl hs)
  have hz:fT a.neg (x*2 ^ k)+fT b.neg (y*2 ^ k)=fT a.neg ((x - y)*2 ^ k):=by
   rw [hbn,Nat.sub_mul]
   cases a.neg
   ·rw [Bool.not_false,ja,i9,ja]
    omega
   ·rw [Bool.not_true,ja,i9,i9]
    omega
  rw [hz,hsum]
  exact IZ (by omega) (hbig _ (Nat.le_refl _))
def ju:Cmd:=.seq (.dops [2,3,4,6,9,10] [fa 65 1 2,ld 66 1 65,fa 67 2 2,ld 68 1 67,cm 69 6,b2 70 .sub 68 69,ca 71 F.dyadic_shifted [.t 66,.t 70],fa 72 1 3,ld 73 1 72,fa 74 2 3,ld 75 1 74,cm 76 6,b2 77 .sub 75 76,ca 78 F.dyadic_shifted [.t 73,.t 77],cm 9 71,cm 10 78] [(6,8),(6,10)]) (.seq (.seq (.ops [2,3,4,6,9,10,83] [fa 79 0 2,ld 80 1 79,fa 81 0 3,ld 82 1 81,co 83 (.eqc false 0 (.t 80) (.t 82))]) (.cond (.t 83) (.seq (.ops [2,4,6,11] [cm 85 9,cm 86 10,ca 87 F.natural_Add [.t 85,.t 86],cm 84 87,co 88 (.ext 0 (.t 84)),co 89 (.ext 1 (.t 84)),cm 11 88,cm 12 89]) (.seq (.ops [4,5] [fa 90 0 2,ld 91 1 90,cm 92 11,cm 93 6,ca 94 F.dyadic_canonical [.t 91,.t 92,.t 93],ca 95 F.dyadic_checked [.t 94],co 96 (.ext 0 (.t 95)),co 97 (.ext 1 (.t 95)),sr 3 (.t 4) (.t 96),cm 5 97]) (.ret))) (.skip))) (.seq (.seq (.ops [2,3,4,6,9,10,101] [cm 98 9,cm 99 10,ca 100 F.natural_Cmp [.t 98,.t 99],co 101 (.bin .lss (.t 100) (.c (I 0)))]) (.cond (.t 101) (.ops [2,4,6,9,10] [la 102 3 3,cm 103 10,cm 104 9,sr 3 (.t 2) (.t 102),cm 9 103,cm 10 104]) (.skip))) (.seq (.ops [2,4,6,13] [cm 106 9,cm 107 10,ca 108 F.natural_Sub [.t 106,.t 107],cm 105 108,co 109 (.ext 0 (.t 105)),co 110 (.ext 1 (.t 105)),cm 13 109,cm 14 110]) (.seq (.ops [4,5] [fa 111 0 2,ld 112 1 111,cm 113 13,cm 114 6,ca 115 F.dyadic_canonical [.t 112,.t 113,.t 114],ca 116 F.dyadic_checked [.t 115],co 117 (.ext 0 (.t 116)),co 118 (.ext 1 (.t 116)),sr 3 (.t 4) (.t 117),cm 5 118]) (.ret)))))
theorem gZ:oD=.seq (.ops [2,3,4] [bx 2 3 (.t 0),bx 3 3 (.t 1),al 4 [B false,.emp,I 0],co 5 (.mv (.c (I 0)))]) (.seq (.seq (.ops [2,3,4,24] [fa 15 1 2,ld 16 1 15,co 17 (.len false (.t 16)),co 18 (.bin .eql (.t 17) (.c (I 0))),cm 19 18,cg 20 19 false (.fadr 1 (.t 3)),⟨(some 21),(some (19,false)),.load 1 false (.t 20)⟩,cg 22 19 false (.len false (.t 21)),cg 23 19 false (.bin .eql (.t 22) (.c (I 0))),co 24 (.pick (.t 19) (.c (B true)) (.t 23))]) (.cond (.t 24) (.seq (.seq (.ops [2,3,4,28] [fa 25 1 2,ld 26 1 25,co 27 (.len false (.t 26)),co 28 (.bin .eql (.t 27) (.c (I 0)))]) (.cond (.t 28) (.ops [2,4] [la 29 3 3,sr 3 (.t 2) (.t 29)]) (.skip))) (.seq (.ops [4,5] [fa 30 0 2,ld 31 1 30,fa 32 1 2,ld 33 1 32,fa 34 2 2,ld 35 1 34,ca 36 F.dyadic_canonical [.t 31,.t 33,.t 35],sr 3 (.t 4) (.t 36),co 5 (.mv (.c (I 0)))]) (.ret))) (.skip))) (.seq (.ops [2,3,4,6] [fa 37 2 2,ld 38 1 37,fa 39 2 3,ld 40 1 39,co 41 (.mnx true (.t 38) [.t 40]),cm 6 41]) (.seq (.dops [2,3,4,6,7,8] [la 42 3 2,ca 43 F.dyadic_Top [.t 42],la 44 3 3,ca 45 F.dyadic_Top [.t 44],cm 7 43,cm 8 45] [(1,2)]) (.seq (.seq (.ops [2,3,4,6,63] [cm 46 7,cm 47 8,co 48 (.mnx false (.t 46) [.t 47]),cm 49 6,b2 50 .sub 48 49,co 51 (.bin .gtr (.t 50) (.c (I 4097))),cm 52 51,cg 53 52 true (.mv (.t 7)),cg 54 52 true (.mv (.t 8)),cg 55 52 true (.bin .sub (.t 53) (.t 54)),cg 56 52 true (.bin .gtr (.t 55) (.c (I 1))),cg 57 52 true (.mv (.t 56)),cg 58 57 false (.mv (.t 8)),cg 59 57 false (.mv (.t 7)),cg 60 57 false (.bin .sub (.t 58) (.t 59)),cg 61 57 false (.bin .gtr (.t 60) (.c (I 1))),cg 62 52 true (.pick (.t 57) (.c (B true)) (.t 61)),co 63 (.pick (.t 52) (.t 62) (.c (B false)))]) (.cond (.t 63) (.seq (.ops [4,5] [co 64 (.build [B false,.emp,I 0] []),sr 3 (.t 4) (.t 64),co 5 (.mv (.c (I 9)))]) (.ret)) (.skip))) ju)))):=rfl
theorem Dk {a b:Rd} (oa:Ok0 a) (ob:Ok0 b) (va:vd a=true) (vb:vd b=true) (na:a.m.length ≠ 0) (nb:b.m.length ≠ 0) {e:Int} (he1:-16384≤e∧e≤a.e∧e≤b.e) (hX:bm a - e≤5000) (hY:bm b - e≤5000) (s:af)
  (h2:s 2=.ref 2 none 0 0 0) (h3:s 3=.ref 3 none 0 0 0) (h4:s 4=.ref 4 none 0 0 0) (h6:s 6=I e) :
  rk false [[.o 0 [],.o 2 [],.o 0 []],[]] [.cell 4 3 true,.t 5] 0 (az R (ab false) ju s (upd (upd (upd (fun _=>.dead) 2 (.bx (aW a))) 3 (.bx (aW b))) 4 (.bx [B false,.emp,I 0])))=some (rV (ew (gl (zI a+zI b) (-16384))),[]):=by
 obtain ⟨a1,a2,a3,a4⟩:=kg va oa.lb
 obtain ⟨b1,b2,b3,b4⟩:=kg vb ob.lb
 have e1:=pG va na
 have e2:=pG vb nb
 have w1:IntKind.i64.wrap (a.e - e)=(((a.e - e).toNat:Nat):Int):=wi (by omega) (by omega)
 have w2:IntKind.i64.wrap (b.e - e)=(((b.e - e).toNat:Nat):Int):=wi (by omega) (by omega)
 have z1:zI a=fT a.neg (ac a.m*2 ^ (a.e - e).toNat*2 ^ (e+16384).toNat):=by
  rw [show zI a=fT a.neg (mg a) from rfl,pF he1.1 he1.2.1]
 have z2:zI b=fT b.neg (ac b.m*2 ^ (b.e - e).toNat*2 ^ (e+16384).toNat):=by
  rw [show zI b=fT b.neg (mg b) from rfl,pF he1.1 he1.2.2]
 have bx:aq (ac a.m*2 ^ (a.e - e).toNat)≤5000:=by
  rw [lH _ (iI va na)]
  omega
 have by':aq (ac b.m*2 ^ (b.e - e).toNat)≤5000:=by
  rw [lH _ (iI vb nb)]
  omega
 have l1:=qR oa.lb a1 (k:=(a.e - e).toNat) (by omega) (Nat.le_trans (bF (k:=157) (by omega)) (by decide))
 have l2:=qR ob.lb b1 (k:=(b.e - e).toNat) (by omega) (Nat.le_trans (bF (k:=157) (by omega)) (by decide))
 rw [z1,z2]
 generalize ac a.m*2 ^ (a.e - e).toNat=x at l1 bx ⊢
 generalize ac b.m*2 ^ (b.e - e).toNat=y at l2 by' ⊢
 have hsum:∀ (n:Bool) (z:Nat),cB n z e=gl (fT n (z*2 ^ (e+16384).toNat)) (-16384):=fun n z=>by
  rw [← tQ,oO,show -16384+(((e+16384).toNat:Nat):Int)=e by omega]
 have lx:(av x).length≤157:=bF (by omega)
 have ly:(av y).length≤157:=bF (by omega)
 have hq:XL e:=⟨by omega,by omega⟩
 have hcp:=xj (cd x) (cd y) (by omega) (by omega)
 rw [bI,bI] at hcp
 have chk:∀ (n:Bool) (z:Nat),aq z≤5001→R F.dyadic_canonical [B n,lm (av z),I e] []=some (aF (cB n z e),[])∧R F.dyadic_checked [aF (cB n z e)] []=some (rV (ew (cB n z e)),[]):=fun n z hz=>by
  have hl:(av z).length≤157:=bF (by omega)
  have c1:=oN (neg:=n) (m:=av z) (e:=e) (cd z) (by omega) hq
  rw [bI] at c1
  refine ⟨c1,?_⟩
  rw [Bv (Cz n z e) (Nat.le_trans (Hd (k:=157) (by omega)) (by decide))]
  exact congrArg (fun v=>some (v,[])) (IV _)
 by_cases hs:a.neg=b.neg
 ·have p1:=Qh (x:=x) (y:=y) bx by'
  obtain ⟨c1,c2⟩:=chk a.neg (x+y) (He bx by')
  have hz:fT a.neg (x*2 ^ (e+16384).toNat)+fT b.neg (y*2 ^ (e+16384).toNat)=fT a.neg ((x+y)*2 ^ (e+16384).toNat):=by
   rw [← hs,Nat.add_mul]
   cases a.neg
   ·rw [ja,ja,ja]
    omega
   ·rw [i9,i9,i9]
    omega
  rw [hz,← hsum]
  generalize cB a.neg (x+y) e=r at c1 c2 ⊢
  generalize ew r=q at c2 ⊢
  obtain ⟨q1,q2⟩:=q
  have hs2:(a.neg == b.neg)=true:=by rw [hs]; exact beq_self_eq_true _
  have hs3:(false != (a.neg == b.neg))=true:=by rw [hs2]; rfl
  simp only [rV,aF,aW] at c1 c2
  simp only [ju,rV,aF,aW,go_sem,↓reduceIte,aee,aeg,aef,aeh,aej,aei,h2,h3,h4,h6,w1,w2,l1,l2,hs3,p1,c1,c2]
 ·have hs2:(a.neg == b.neg)=false:=by
   cases ha:a.neg <;> cases hb:b.neg <;> first | rfl | (rw [ha,hb] at hs; exact absurd rfl hs)
  have hs3:(false != (a.neg == b.neg))=false:=by rw [hs2]; rfl
  have hbn:b.neg=!a.neg:=by
   cases ha:a.neg <;> cases hb:b.neg <;> first | rfl | (rw [ha,hb] at hs; exact absurd rfl hs)
  have hb1:∀ u v:Nat,aq u≤5000→aq (u - v)≤5001:=fun u v hu=>LQ (Nat.sub_le u v) (Nat.le_trans hu (by decide))
  by_cases hlt:x < y
  ·have e5:(dk x y < 0)=True:=tt (by unfold dk; rw [if_pos hlt]; decide)
   have m1:=IW (x:=y) (y:=x) by' bx (by omega)
   obtain ⟨c1,c2⟩:=chk b.neg (y - x) (hb1 _ _ by')
   have hmul:x*2 ^ (e+16384).toNat≤y*2 ^ (e+16384).toNat:=Nat.mul_le_mul_right _ (by omega)
   have hz:fT a.neg (x*2 ^ (e+16384).toNat)+fT b.neg (y*2 ^ (e+16384).toNat)=fT b.neg ((y - x)*2 ^ (e+16384).toNat):=by
    rw [hbn,Nat.sub_mul]
    cases a.neg
    ·rw [Bool.not_false,ja,i9,i9]
     omega
    ·rw [Bool.not_true,ja,i9,ja]
     omega
   rw [hz,← hsum]
   generalize cB b.neg (y - x) e=r at c1 c2 ⊢
   generalize ew r=q at c2 ⊢
   obtain ⟨q1,q2⟩:=q
   simp only [rV,aF,aW] at c1 c2
   simp only [ju,rV,aF,aW,go_sem,↓reduceIte,aee,aeg,aef,aeh,aej,aei,h2,h3,h4,h6,w1,w2,l1,l2,hs3,hcp,e5,m1,c1,c2]
  ·have e5:(dk x y < 0)=False:=ff (by unfold dk; rw [if_neg hlt]; split <;> decide)
   have m1:=IW (x:=x) (y:=y) bx by' (by omega)
   obtain ⟨c1,c2⟩:=chk a.neg (x - y) (hb1 _ _ bx)
   have hmul:y*2 ^ (e+16384).toNat≤x*2 ^ (e+16384).toNat:=Nat.mul_le_mul_right _ (by omega)
   have hz:fT a.neg (x*2 ^ (e+16384).toNat)+fT b.neg (y*2 ^ (e+16384).toNat)=fT a.neg ((x - y)*2 ^ (e+16384).toNat):=by
    rw [hbn,Nat.sub_mul]
    cases a.neg
    ·rw [Bool.not_false,ja,i9,ja]
     omega
    ·rw [Bool.not_true,ja,i9,i9]
     omega
   rw [hz,← hsum]
   generalize cB a.neg (x - y) e=r at c1 c2 ⊢
   generalize ew r=q at c2 ⊢
   obtain ⟨q1,q2⟩:=q
   simp only [rV,aF,aW] at c1 c2
   simp only [ju,rV,aF,aW,go_sem,↓reduceIte,aee,aeg,aef,aeh,aej,aei,h2,h3,h4,h6,w1,w2,l1,l2,hs3,hcp,e5,m1,c1,c2]
theorem Qq {a b:Rd} (oa:Ok0 a) (ob:Ok0 b) (va:vd a=true) (vb:vd b=true):R F.dyadic_sum [aF a,aF b] []=some (rV (ew (gl (zI a+zI b) (-16384))),[]):=by
 refine aX GH GG (Bf false) rfl ?_
 by_cases a0:a.m.length=0
 ·have e1:((a.m.length:Int)=0)=True:=tt (by omega)
  have hz:=xU va a0
  obtain ⟨b1,b2,b3,b4⟩:=kg vb ob.lb
  have c1:=oN (neg:=b.neg) (m:=b.m) (e:=b.e) ob.lb (by omega) ⟨by omega,by omega⟩
  have hr:cB b.neg (ac b.m) b.e=b:=Dj ob vb
  have hk:ew (gl (zI a+zI b) (-16384))=(b,0):=by
   rw [qX a0,Int.zero_add,tT ob vb]
   exact Hk vb
  rw [hr] at c1
  rw [hk]
  simp only [aF,aW] at c1
  simp only [dF,oD,rV,aF,aW,go_sem,↓reduceIte,aee,aeg,aef,aeh,e1,c1]
 have e1:((a.m.length:Int)=0)=False:=ff (by omega)
 obtain ⟨a1,a2,a3,a4⟩:=kg va oa.lb
 by_cases b0:b.m.length=0
 ·have e2:((b.m.length:Int)=0)=True:=tt (by omega)
  have c1:=oN (neg:=a.neg) (m:=a.m) (e:=a.e) oa.lb (by omega) ⟨by omega,by omega⟩
  have hr:cB a.neg (ac a.m) a.e=a:=Dj oa va
  have hk:ew (gl (zI a+zI b) (-16384))=(a,0):=by
   rw [qX b0,Int.add_zero,tT oa va]
   exact Hk va
  rw [hr] at c1
  rw [hk]
  simp only [aF,aW] at c1
  simp only [dF,oD,rV,aF,aW,go_sem,↓reduceIte,aee,aeg,aef,aeh,e1,e2,c1]
 have e2:((b.m.length:Int)=0)=False:=ff (by omega)
 obtain ⟨b1,b2,b3,b4⟩:=kg vb ob.lb
 have ta:=Bw oa
 have tb:=Bw ob
 have q1:=pG va a0
 have q2:=pG vb b0
 have p1:=lG (iI va a0)
 have p2:=lG (iI vb b0)
 simp only [aF,aW] at ta tb
 have g1:=fun h2 h3=>(Hl oa ob va vb a0 b0 rfl h2 h3).1
 have g2:=fun h2 h3=>(Hl ob oa vb va b0 a0 rfl h2 h3).2
 obtain ⟨e,he⟩:∃ e,(if b.e < a.e then b.e else a.e)=e:=⟨_,rfl⟩
 have he2:(if a.e < b.e then a.e else b.e)=e:=by
  rw [← he]
  by_cases h:b.e < a.e
  ·rw [if_pos h,if_neg (by omega)]
  ·rw [if_neg h]
   by_cases h2:a.e < b.e
   ·rw [if_pos h2]
   ·rw [if_neg h2]
    omega
 rw [he] at g1
 rw [he2] at g2
 have he1:-16384≤e∧e≤a.e∧e≤b.e:=by
  split at he <;> omega
 obtain ⟨M,hM⟩:∃ M,(if bm a < bm b then bm b else bm a)=M:=⟨_,rfl⟩
 have hM1:bm a≤M∧bm b≤M∧(M=bm a∨M=bm b):=by
  split at hM <;> omega
 have w1:IntKind.i64.wrap (M - e)=M - e:=i64_in _ ⟨by omega,by omega⟩
 have w2:IntKind.i64.wrap (bm a - bm b)=bm a - bm b:=i64_in _ ⟨by omega,by omega⟩
 have w3:IntKind.i64.wrap (bm b - bm a)=bm b - bm a:=i64_in _ ⟨by omega,by omega⟩
 by_cases h1:4097 < M - e
 ·have f1:(4097 < M - e)=True:=tt h1
  by_cases h2:1 < bm a - bm b
  ·have f2:(1 < bm a - bm b)=True:=tt h2
   rw [g1 (by omega) h2]
   simp only [dF,gZ,rV,et,aF,aW,go_sem,↓reduceIte,aee,aeg,aef,aeh,aej,aei,e1,e2,he,ta,tb,hM,w1,w2,f1,f2]
  ·have f2:(1 < bm a - bm b)=False:=ff h2
   by_cases h3:1 < bm b - bm a
   ·have f3:(1 < bm b - bm a)=True:=tt h3
    rw [g2 (by omega) h3]
    simp only [dF,gZ,rV,et,aF,aW,go_sem,↓reduceIte,aee,aeg,aef,aeh,aej,aei,e1,e2,he,ta,tb,hM,w1,w2,w3,f1,f2,f3]
   ·have f3:(1 < bm b - bm a)=False:=ff h3
    simp only [dF,gZ,rV,aF,aW,go_sem,↓reduceIte,aee,aeg,aef,aeh,aej,aei,e1,e2,he,ta,tb,hM,w1,w2,w3,f1,f2,f3]
    exact Dk oa ob va vb a0 b0 he1 (by omega) (by omega) _ rfl rfl rfl rfl
 ·have f1:(4097 < M - e)=False:=ff h1
  simp only [dF,gZ,rV,aF,aW,go_sem,↓reduceIte,aee,aeg,aef,aeh,aej,aei,e1,e2,he,ta,tb,hM,w1,f1]
  exact Dk oa ob va vb a0 b0 he1 (by omega) (by omega) _ rfl rfl rfl rfl
theorem Qr {a b:Rd} (oa:Ok0 a) (ob:Ok0 b):R F.dyadic_Add [aF a,aF b] []=some (rV (iN a b),[]):=by
 refine aX Gu Gt (Bb false) rfl ?_
 have v1:=iL oa
 have v2:=iL ob
 simp only [aF,aW] at v1 v2
 unfold iN
 cases va:vd a with
 | false =>
  rw [va] at v1
  rw [Bool.false_and,if_neg Bool.false_ne_true]
  simp only [ic,oA,rV,et,aF,aW,go_sem,↓reduceIte,aee,aeg,aef,aeh,v1]
 | true =>
  rw [va] at v1
  cases vb:vd b with
  | false =>
   rw [vb] at v2
   rw [Bool.and_false,if_neg Bool.false_ne_true]
   simp only [ic,oA,rV,et,aF,aW,go_sem,↓reduceIte,aee,aeg,aef,aeh,v1,v2]
  | true =>
   rw [vb] at v2
   have hs:=Qq oa ob va vb
   rw [Bool.and_self,if_pos rfl]
   generalize ew (gl (zI a+zI b) (-16384))=q at hs ⊢
   obtain ⟨q1,q2⟩:=q
   simp only [rV,aF,aW] at hs
   simp only [ic,oA,rV,aF,aW,go_sem,↓reduceIte,aee,aeg,aef,aeh,v1,v2,hs]
end Go.Ab
namespace Go.Ab
open Go Go.IntWalk
theorem Dm:∀ {a b:List Int},a.length=b.length→gU b a=- gU a b
 | [],[],_=>rfl
 | x::a,y::b,h=>by
  unfold gU
  rcases kh x y with ⟨g,e⟩ | ⟨g,e⟩ | ⟨g,e⟩ <;> rcases kh y x with ⟨g',e'⟩ | ⟨g',e'⟩ | ⟨g',e'⟩ <;> rw [e,e'] <;> first | omega | (simp; done) | skip
  rw [if_pos rfl,if_pos rfl]
  exact Dm (by simpa using h)
 | [],_::_,h=>by simp at h
 | _::_,[],h=>by simp at h
theorem I1:∀ {a b c:List Int},a.length=b.length→b.length=c.length→(gU a b≤0→gU b c < 0→gU a c < 0)∧(gU a b < 0→gU b c≤0→gU a c < 0)
 | [],[],[],_,_=>⟨fun _ h=>by simp [gU] at h,fun h _=>by simp [gU] at h⟩
 | x::a,y::b,z::c,h,h'=>by
  have ih:=I1 (a:=a) (b:=b) (c:=c) (by simpa using h) (by simpa using h')
  unfold gU
  rcases kh x y with ⟨g,e⟩ | ⟨g,e⟩ | ⟨g,e⟩ <;> rcases kh y z with ⟨g',e'⟩ | ⟨g',e'⟩ | ⟨g',e'⟩ <;> rcases kh x z with ⟨g2,e2⟩ | ⟨g2,e2⟩ | ⟨g2,e2⟩ <;> rw [e,e',e2] <;> first | omega | skip
  all_goals simp
  all_goals first | exact ih | omega
 | [],[],_::_,_,h=>by simp at h
 | [],_::_,_,h,_=>by simp at h
 | _::_,[],_,h,_=>by simp at h
 | _::_,_::_,[],_,h=>by simp at h
theorem su {a b:List Int} (h:a.length=b.length):bt b a=- bt a b:=by
 unfold bt
 rcases kh (bi a) (bi b) with ⟨g,e⟩ | ⟨g,e⟩ | ⟨g,e⟩ <;> rcases kh (bi b) (bi a) with ⟨g',e'⟩ | ⟨g',e'⟩ | ⟨g',e'⟩ <;> rw [e,e'] <;> first | omega | (simp; done) | skip
 rw [if_pos rfl,if_pos rfl]
 exact Dm h.symm
theorem tU {a b c:List Int} (h:a.length=b.length) (h':b.length=c.length):(bt a b≤0→bt b c < 0→bt a c < 0)∧(bt a b < 0→bt b c≤0→bt a c < 0):=by
 have ih:=I1 (a:=c) (b:=b) (c:=a) h'.symm h.symm
 unfold bt
 rcases kh (bi a) (bi b) with ⟨g,e⟩ | ⟨g,e⟩ | ⟨g,e⟩ <;> rcases kh (bi b) (bi c) with ⟨g',e'⟩ | ⟨g',e'⟩ | ⟨g',e'⟩ <;> rcases kh (bi a) (bi c) with ⟨g2,e2⟩ | ⟨g2,e2⟩ | ⟨g2,e2⟩ <;> rw [e,e',e2] <;> first | omega | skip
 all_goals simp
 all_goals first | exact ⟨fun x y=>ih.2 y x,fun x y=>ih.1 y x⟩ | omega
structure VT (v:Int) (t:Rt):Prop where
 c:Ok0 t.c
 len:(t.exps.length:Int)=v
 v8:v≤8
 vc:vd t.c=true
 nz:t.c.m.length ≠ 0
 b:∀ e ∈ t.exps,0≤e∧e≤32
 d:bi t.exps≤32
theorem VT.sm {v:Int} {t:Rt} (h:VT v t):sm t.exps:=⟨by have:=h.len; have:=h.v8; omega,h.b⟩
theorem VT.ok {v:Int} {t:Rt} (h:VT v t):OkT t:=⟨h.c,by have:=h.len; have:=h.v8; omega⟩
theorem VT.l2 {v:Int} {t q:Rt} (h:VT v t) (h2:VT v q):t.exps.length=q.exps.length:=by have:=h.len; have:=h2.len; omega
structure Cl (v:Int) (l:List Rt):Prop where
 t:∀ t ∈ l,VT v t
 s:l.Pairwise fun a b=>bt a.exps b.exps < 0
theorem Cl.nil (v:Int):Cl v []:=⟨(fun _ h=>nomatch h),List.Pairwise.nil⟩
theorem Cl.cons {v:Int} {q:Rt} {l:List Rt} (h:Cl v (q::l)):VT v q∧(∀ t ∈ l,bt q.exps t.exps < 0)∧Cl v l :=
 ⟨h.t q (by simp),(List.pairwise_cons.1 h.s).1,fun t ht=>h.t t (by simp [ht]),(List.pairwise_cons.1 h.s).2⟩
theorem Cl.mk' {v:Int} {q:Rt} {l:List Rt} (h1:VT v q) (h2:∀ t ∈ l,bt q.exps t.exps < 0) (h3:Cl v l):Cl v (q::l) :=
 ⟨fun t ht=>(List.mem_cons.1 ht).elim (fun e=>e ▸ h1) (h3.t t),List.pairwise_cons.2 ⟨h2,h3.s⟩⟩
theorem L4 {v:Int} (hv:v≤8):∀ (l:List Rt) (pr:Option Rt),(∀ t ∈ l,OkT t)→tP v pr l=true→Cl v l∧∀ q,pr=some q→(q.exps.length:Int)=v→∀ t ∈ l,bt q.exps t.exps < 0
 | [],pr,_,_=>⟨Cl.nil v,fun _ _ _ t ht=>by cases ht⟩
 | t::l,pr,ok,h=>by
  unfold tP at h
  simp only [Bool.and_eq_true] at h
  obtain ⟨h1,h2,h3⟩:=h
  obtain ⟨g1,g2⟩:=L4 hv l (some t) (fun x hx=>ok x (by simp [hx])) h3
  obtain ⟨k1,k2,k3,k4,k5⟩:=Bz h1
  have vt:VT v t:=⟨(ok t (by simp)).c,k1,hv,k2,k3,qZ k4,k5⟩
  have gt:=g2 t rfl k1
  refine ⟨Cl.mk' vt gt g1,fun q hq hl x hx=>?_⟩
  subst hq
  unfold Hi at h2
  have h4:=of_decide_eq_true h2
  rcases List.mem_cons.1 hx with rfl | hx
  ·exact h4
  ·exact (tU (by omega) (vt.l2 (g1.t x hx))).1 (by omega) (gt x hx)
theorem dH {a:Rp} (oa:OkP a) (h:vp a=true):Cl a.vars a.terms∧0≤a.vars∧a.vars≤8∧a.terms.length≤500:=by
 unfold vp at h
 simp only [Bool.and_eq_true,decide_eq_true_eq] at h
 exact ⟨(L4 h.2.1 _ none oa.t h.2.2.2).1,h.1,h.2.1,h.2.2.1⟩
def bd:List Rt→List Int→Nat
 | [],_=>0
 | q::l,x=>if bt q.exps x < 0 then bd l x+1 else 0
def nw:List Rt→Rt→Option (List Rt)
 | [],t=>some [t]
 | q::l,t=>if bt q.exps t.exps < 0 then (nw l t).map (q::·) else if bt q.exps t.exps=0 then (if (iN q.c t.c).2=0 then some (if (iN q.c t.c).1.m.length=0 then l else ⟨q.exps,(iN q.c t.c).1⟩::l) else none) else some (t::q::l)
theorem xW:∀ (l:List Rt) (x:List Int),bd l x≤l.length
 | [],x=>Nat.le_refl _
 | q::l,x=>by
  unfold bd
  split
  ·exact Nat.succ_le_succ (xW l x)
  ·exact Nat.zero_le _
theorem I3:∀ {l:List Rt} {x:List Int} {i:Nat} {q:Rt},i < bd l x→l[i]?=some q→bt q.exps x < 0
 | [],x,i,q,h,_=>by simp [bd] at h
 | p::l,x,i,q,h,hq=>by
  unfold bd at h
  split at h
  ·rename_i hc
   cases i with
   | zero=>cases hq; exact hc
   | succ i=>exact I3 (l:=l) (i:=i) (by omega) (by simpa using hq)
  ·omega
theorem CA:∀ {l:List Rt} {x:List Int} {q:Rt},l[bd l x]?=some q→0≤bt q.exps x
 | [],x,q,h=>by simp at h
 | p::l,x,q,h=>by
  unfold bd at h
  split at h
  ·exact CA (l:=l) (by simpa using h)
  ·rename_i hc
   cases h
   omega
theorem Qs {v:Int} {l:List Rt} {x:List Int} (c:Cl v l) (hx:(x.length:Int)=v) {i:Nat} {q:Rt} (hi:bd l x < i) (h:l[i]?=some q):0 < bt q.exps x:=by
 have hlt:=(List.getElem?_eq_some_iff.1 h).1
 have h1:l[bd l x]?=some l[bd l x]:=List.getElem?_eq_getElem (by omega)
 have h2:=CA h1
 have h3:=(List.getElem?_eq_some_iff.1 h).2
 have h4:bt (l[bd l x]).exps q.exps < 0:=by
  rw [← h3]
  exact List.pairwise_iff_getElem.1 c.s _ _ (by omega) hlt hi
 have v1:=c.t _ (List.getElem_mem (by omega:bd l x < l.length))
 have v2:=c.t q (List.mem_of_getElem? h)
 generalize l[bd l x]=p at *
 have l1:x.length=p.exps.length:=by have:=v1.len; omega
 have h5:=(tU l1 (v1.l2 v2)).1 (by rw [su l1.symm]; omega) h4
 rw [su (by have:=v2.len; omega:x.length=q.exps.length)]
 omega
theorem I4:∀ (l:List Rt) (t:Rt),nw l t=match l[bd l t.exps]? with
  | none=>some (l.take (bd l t.exps)++t::l.drop (bd l t.exps))
  | some q=>if bt q.exps t.exps=0 then (if (iN q.c t.c).2=0 then some (if (iN q.c t.c).1.m.length=0 then l.take (bd l t.exps)++l.drop (bd l t.exps+1) else l.set (bd l t.exps) ⟨q.exps,(iN q.c t.c).1⟩) else none) else some (l.take (bd l t.exps)++t::l.drop (bd l t.exps))
 | [],t=>rfl
 | q::l,t=>by
  unfold nw bd
  by_cases h:bt q.exps t.exps < 0
  ·simp only [if_pos h,List.getElem?_cons_succ]
   rw [I4 l t]
   cases l[bd l t.exps]? with
   | none=>rfl
   | some p =>
    simp only []
    split
    ·split
     ·split <;> rfl
     ·rfl
    ·rfl
  ·simp only [if_neg h,List.getElem?_cons_zero,List.take_zero,List.drop_zero,List.nil_append,List.set_cons_zero,Nat.zero_add,List.drop_one,List.tail_cons]
theorem xX {v:Int}:∀ {l l':List Rt} {t:Rt},Cl v l→VT v t→nw l t=some l'→Cl v l'∧∀ q:List Int,(q.length:Int)=v→(∀ x ∈ l,bt q x.exps < 0)→bt q t.exps < 0→∀ x ∈ l',bt q x.exps < 0
 | [],l',t,c,vt,h=>by
  cases h
  exact ⟨Cl.mk' vt (fun _ h=>by cases h) c,fun q _ _ h x hx=>by simp at hx; subst hx; exact h⟩
 | p::l,l',t,c,vt,h=>by
  obtain ⟨c1,c2,c3⟩:=c.cons
  unfold nw at h
  split at h
  ·rename_i h1
   rw [Option.map_eq_some_iff] at h
   obtain ⟨l2,h2,rfl⟩:=h
   obtain ⟨g1,g2⟩:=xX c3 vt h2
   refine ⟨Cl.mk' c1 (g2 p.exps c1.len c2 h1) g1,fun q hq k1 k2 x hx=>?_⟩
   rcases List.mem_cons.1 hx with rfl | hx
   ·exact k1 x (by simp)
   ·exact g2 q hq (fun y hy=>k1 y (by simp [hy])) k2 x hx
  ·split at h
   ·rename_i h1 h2
    split at h
    ·rename_i h3
     cases h
     split
     ·exact ⟨c3,fun q hq k1 k2 x hx=>k1 x (by simp [hx])⟩
     ·rename_i h4
      obtain ⟨a1,a2⟩:=Qm p.c t.c
      refine ⟨Cl.mk' ⟨a2,c1.len,c1.v8,a1,h4,c1.b,c1.d⟩ c2 c3,fun q hq k1 k2 x hx=>?_⟩
      rcases List.mem_cons.1 hx with rfl | hx
      ·exact k1 p (by simp)
      ·exact k1 x (by simp [hx])
    ·cases h
   ·rename_i h1 h2
    cases h
    have h3:bt t.exps p.exps < 0:=by
     rw [su (c1.l2 vt)]
     omega
    refine ⟨Cl.mk' vt (fun x hx=>?_) c,fun q hq k1 k2 x hx=>?_⟩
    ·rcases List.mem_cons.1 hx with rfl | hx
     ·exact h3
     ·exact (tU (vt.l2 c1) (c1.l2 (c3.t x hx))).1 (by omega) (c2 x hx)
    ·rcases List.mem_cons.1 hx with rfl | hx
     ·exact k2
     ·exact k1 x hx
theorem Ac:∀ {l l':List Rt} {t:Rt},nw l t=some l'→l'.length≤l.length+1
 | [],l',t,h=>by cases h; simp
 | p::l,l',t,h=>by
  unfold nw at h
  split at h
  ·rw [Option.map_eq_some_iff] at h
   obtain ⟨l2,h2,rfl⟩:=h
   simpa using Ac h2
  ·split at h
   ·split at h
    ·cases h
     split
     ·simp
      omega
     ·simp
    ·cases h
   ·cases h
    simp
def gV:List Rt→List Rt→Option (List Rt)
 | l,[]=>some l
 | l,t::ts=>(nw l t).bind fun l'=>gV l' ts
theorem Hm:∀ (ts us:List Rt) (l:List Rt),gV l (ts++us)=(gV l ts).bind fun l'=>gV l' us
 | [],us,l=>rfl
 | t::ts,us,l=>by
  show (nw l t).bind _=((nw l t).bind _).bind _
  cases nw l t with
  | none=>rfl
  | some l'=>exact Hm ts us l'
theorem nR {v:Int}:∀ {ts l l':List Rt},Cl v l→(∀ t ∈ ts,VT v t)→gV l ts=some l'→Cl v l'∧l'.length≤l.length+ts.length
 | [],l,l',c,_,h=>by cases h; exact ⟨c,Nat.le_refl _⟩
 | t::ts,l,l',c,vt,h=>by
  unfold gV at h
  rw [Option.bind_eq_some_iff] at h
  obtain ⟨l2,h2,h3⟩:=h
  obtain ⟨g1,g2⟩:=nR (xX c (vt t (by simp)) h2).1 (fun x hx=>vt x (by simp [hx])) h3
  have:=Ac h2
  exact ⟨g1,by simp; omega⟩
section
variable {call:cT} {md:Mode} {s:af} {h:aa}
@[go_sem] theorem abR (d k x y rest):am call md (⟨some d,none,.cpy k x y⟩::rest) s h=aK (bK md.nm s (some d) (BP h k (ev s x) (ev s y))) (am call md rest):=_root_.id rfl
@[go_sem] theorem Zs (d k x lo hi rest):am call md (⟨some d,none,.slcM k x lo hi⟩::rest) s h=aK (bK md.nm s (some d) (xG h k (ev s x) (evo s lo) (evo s hi))) (am call md rest):=_root_.id rfl
@[go_sem] theorem abS (d k z x rest):am call md (⟨d,none,.clr k z x⟩::rest) s h=aK (bK md.nm s d (BQ h k z (ev s x))) (am call md rest):=_root_.id rfl
@[go_sem] theorem Zt (d k b z x n rest):am call md (⟨some d,none,.appz k b z x n⟩::rest) s h=aK (bK md.nm s (some d) (rW h d k b z (ev s x) (ev s n))) (am call md rest):=_root_.id rfl
@[go_sem] theorem Zu (d x rest):am call md (⟨some d,none,.take x⟩::rest) s h=aK (bK md.nm s (some d) (Ap h d (ev s x))) (am call md rest):=_root_.id rfl
@[go_sem] theorem XQ (d f zas rest):am call md (⟨some d,none,.callC f zas⟩::rest) s h=aK (bK md.nm s (some d) ((ai call md h d (zas.map (ev s)) (ev s f)).bind (nZ d))) (am call md rest):=_root_.id rfl
@[go_sem] theorem Zv (ps acc d k x y rest):bA call md ps acc (⟨some d,none,.cpy k x y⟩::rest) s h=eA call md ps acc rest s (some d) (fun _=>none) (BP h k (ev s x) (ev s y)):=cH _ _ _ _ rfl
@[go_sem] theorem Zw (ps acc d k b x y rest):bA call md ps acc (⟨some d,none,.app k b x y⟩::rest) s h=eA call md ps acc rest s (some d) (fun _=>none) (yM h d k b (ev s x) (ev s y)):=cH _ _ _ _ rfl
@[go_sem] theorem U5 (ps acc d f zas rest):bA call md ps acc (⟨some d,none,.callC f zas⟩::rest) s h=eA call md ps acc rest s (some d) (fun _=>wo d h (il (zas.map (ev s)) (ev s f))) ((ai call md h d (zas.map (ev s)) (ev s f)).bind (nZ d)):=cH _ _ _ _ rfl
@[go_sem] theorem XR (d h l):wo d h l=if l.all dat=true then some ([],[2000+8*d]) else none:=_root_.id rfl
@[go_sem] theorem abT (d k r h ks):nZ d (.sl k r,h,ks)=some (.sl k r,h,ks):=_root_.id rfl
@[go_sem] theorem Zx (d h ks):nZ d (.emp,h,ks)=some (.emp,h,ks):=_root_.id rfl
@[go_sem] theorem Zy (d id k lo n h ks):nZ d (.rsl id none k lo n,h,ks)=if id=2000+8*d then (jf h id k lo n (h id)).map (fun q=>(q.1,q.2.1,ks++q.2.2)) else none:=_root_.id rfl
@[go_sem] theorem abU (h k id k' lo n y):BP h k (.rsl id none k' lo n) y=(Fb y).bind fun l=>(lN h k (Fa n y)).bind fun ys=>Fc h id k k' lo n l ys (h id):=_root_.id rfl
@[go_sem] theorem abV (k r):Fb (.sl k r)=some r.length:=_root_.id rfl
@[go_sem] theorem Zz (id sub k lo n):Fb (.rsl id sub k lo n)=some n:=_root_.id rfl
@[go_sem] theorem abW (m k r):Fa m (.sl k r)=.sl k (r.take m):=_root_.id rfl
@[go_sem] theorem ZA (m id sub k lo n):Fa m (.rsl id sub k lo n)=.rsl id sub k lo (min m n):=_root_.id rfl
@[go_sem] theorem abX (h id k lo n l ys r):Fc h id k k lo n l ys (.ar k r)=if lo≤r.length∧ys.length=min l n then some (.v (.int .i64 ys.length),upd h id (.ar k (r.take lo++ys++r.drop (lo+ys.length))),[]) else none:=by simp [Fc]
@[go_sem] theorem ZB (h k id l0 n lo hi):xG h k (.rsl id none k l0 n) lo hi=An h k id l0 lo hi (h id):=by simp [xG]
@[go_sem] theorem ZC (h k id l0 lo hi r):An h k id l0 lo hi (.ar k r)=if hi.isSome=true∧l0≤r.length then (hG (r.length - l0) lo hi none).map fun p=>(.rsl id none k (l0+p.1) (p.2 - p.1),h,[]) else none:=by simp [An]
@[go_sem] theorem abY (h k z id lo n):BQ h k z (.rsl id none k lo n)=Fd h k id lo n z (h id):=by simp [BQ]
@[go_sem] theorem abZ (h k id lo n z r):Fd h k id lo n z (.ar k r)=if lo+n≤r.length then some (.tup [],upd h id (.ar k (r.take lo++List.replicate n z++r.drop (lo+n))),[]) else none:=by simp [Fd]
@[go_sem] theorem ZD (h d k b z id i c m):rW h d k b z (.rsc id k 0 i c) (.v (.int .i64 m))=if 0 < m∧c < i+m.toNat then Ao h d k b id i m.toNat z (h id) else none:=by simp [rW]
@[go_sem] theorem ZE (h d k b id i m z r):Ao h d k b id i m z (.ar k r)=if i≤r.length∧(i+m)*b≤140737488355328 then bO h d k (r.take i++List.replicate m z) (i+m) [] else none:=by simp [Ao]
@[go_sem] theorem ab0 (id k lo n c):jd false (.rsc id k lo n c)=some (I n):=_root_.id rfl
@[go_sem] theorem ab1 (id k lo n c):BK (.rsc id k lo n c)=some (I c):=_root_.id rfl
@[go_sem] theorem ab2 (k id l0 n c lo hi mx):dJ k (.rsc id k l0 n c) lo hi mx=E4 k id l0 n c lo hi mx:=by simp [dJ]
@[go_sem] theorem ab3 (k id l0 n c x):E4 k id l0 n c none (some x) none=(gF n c (some x)).map fun r=>.rsc id k l0 r c:=_root_.id rfl
@[go_sem] theorem ab4 (k id l0 n c x hi):E4 k id l0 n c (some x) hi none=(hG n (some x) hi none).map fun p=>.rsl id none k (l0+p.1) (p.2 - p.1):=_root_.id rfl
@[go_sem] theorem ab5 (ks id k lo n c):mf ks (.rsc id k lo n c)=if dT ks id none=true then .any else .rsc id k lo n c:=_root_.id rfl
@[go_sem] theorem ZF (h d id k i j):Ap h d (.ref id none k i j)=EJ h d id (i*k+j) (h id):=_root_.id rfl
@[go_sem] theorem ZG (h d id p cs):EJ h d id p (.bx cs)=xH h d id p cs cs[p]?:=_root_.id rfl
@[go_sem] theorem XS (h d id p cs k r):xH h d id p cs (some (.osl k r))=bO (upd h id (.bx (cs.set p .any))) d k r r.length [(id,true)]:=_root_.id rfl
@[go_sem] theorem XT (h d id p cs):xH h d id p cs (some .emp)=some (.emp,h,[]):=_root_.id rfl
@[go_sem] theorem ZH (nm:Bool) (s h):pe nm [] s h=some ⟨s,h⟩:=_root_.id rfl
@[go_sem] theorem XU (nm:Bool) (i l s h):pe nm (i::l) s h=if 200000≤i then (BS (i - 200000) s h (s (i - 200000))).bind (fun r=>if jH nm r.2.2 then pe nm l r.1 r.2.1 else none) else if 100000≤i then pe nm l s (ut h (s (i - 100000))) else (Js i s h (s i)).bind fun r=>if jH nm r.2.2 then pe nm l r.1 r.2.1 else none:=_root_.id rfl
@[go_sem] theorem U6 (ks):jH false ks=true:=_root_.id rfl
@[go_sem] theorem ab6 (i s h id k lo n):BS i s h (.rsl id none k lo n)=wq i s h id k lo n (h id):=_root_.id rfl
@[go_sem] theorem ab7 (i s h id k lo n c):BS i s h (.rsc id k lo n c)=wq i s h id k lo n (h id):=_root_.id rfl
@[go_sem] theorem ab8 (i s h id k lo n r):wq i s h id k lo n (.ar k r)=if lo=0∧aG i=false∧cD (h i)=true then some (upd (eG [(id,false)] s) i (.rsl i none k 0 n),upd (upd h id .dead) i (.ar k r),[(id,false)]) else none:=by simp [wq]
@[go_sem] theorem ZI (h id k lo n):ut h (.rsl id none k lo n)=(match h id with | .ar k rows=>upd h id (.ar k (rows.take (lo+n))) | _=>h):=_root_.id rfl
@[go_sem] theorem ab9 (nm:Bool) (s h):kO nm 0 s h=some ⟨s,h⟩:=_root_.id rfl
@[go_sem] theorem aca (nm:Bool) (i s h):kO nm (i+1) s h=(CQ i s h (s i)).bind fun r=>if jH nm r.2.2 then some ⟨r.1,r.2.1⟩ else none:=_root_.id rfl
@[go_sem] theorem acb (i s h):CQ i s h .emp=some (s,h,[]):=_root_.id rfl
@[go_sem] theorem acd (i s h id p k lo n):CQ i s h (.rsl id (some p) k lo n)=if aG i=false then Ip i s h id p k lo n (h id) else none:=_root_.id rfl
@[go_sem] theorem adB (i s h id p k lo n cs):Ip i s h id p k lo n (.bx cs)=Au i s h id p k lo n cs cs[p]?:=_root_.id rfl
@[go_sem] theorem ace (i s h id p k lo n cs r):Au i s h id p k lo n cs (some (.osl k r))=if lo=0∧n=r.length∧cD (h i)=true then some (upd (eG [(id,true)] s) i (.rsl i none k 0 n),upd (upd h id (.bx (cs.set p .any))) i (.ar k r),[(id,true)]) else none:=by simp [Au]
@[go_sem] theorem acf (m g ps l):Ny call md m g ps l s h=aK (bA call md ps [] (l.take m) s h) fun s h=>aK (kO md.nm g s h) (am call md (l.drop m)):=_root_.id rfl
end
end Go.Ab
namespace Go.Ab
open Go Go.IntWalk
set_option maxRecDepth 4000
set_option maxHeartbeats 1000000
theorem I5 {t:Rt} {x:List Int} (ht:sm t.exps) (hx:sm x) (hl:t.exps.length=x.length):R F.poly_collector_add_1 [.agg (bv t),.sl 1 (aY x)] []=some (I (bt t.exps x),[]):=by
 refine aX sO sN (qM false) rfl ?_
 have ho:=Hh ht hx hl
 simp only [eB,mJ,bv,go_sem,↓reduceIte,aee,aeg,aef,ho]
theorem Qt {v:Int} {l:List Rt} {x:List Int} (c:Cl v l) (hx:sm x) (hl:(x.length:Int)=v) (h2:l.length≤1000000):∀ (k i j:Nat),j - i≤k→i≤bd l x→bd l x≤j→j≤l.length→∀ (s:af) (h:aa),s 0=.sl 4 (ax l)→s 1=.sl 1 (aY x)→s 2=.fn F.poly_collector_add_1 [] []→s 8=I l.length→s 9=I i→s 10=I j →
  aI 0 [0,1,2,8,9] (aU (az R (ab false) aS) [0,1,2,8,9,10] [] s h)=some (.normal,⟨upd (upd (upd (upd (upd (fun _=>.any) 9 (I (bd l x))) 8 (I l.length)) 2 (.fn F.poly_collector_add_1 [] [])) 1 (.sl 1 (aY x))) 0 (.sl 4 (ax l)),fun _=>.dead⟩):=by
 intro k
 induction k with
 | zero =>
  intro i j hk hi hj hn s h h0 h1 h2' h8 h9 h10
  have e1:((i:Int) < (j:Int))=False:=ff (by omega)
  obtain rfl:i=bd l x:=by omega
  rw [aB]
  simp only [aS,go_sem,↓reduceIte,aee,h0,h1,h2',h8,h9,h10,e1]
 | succ k ih =>
  intro i j hk hi hj hn s h h0 h1 h2' h8 h9 h10
  by_cases hij:i < j
  ·have e1:((i:Int) < (j:Int))=True:=tt (by omega)
   have e2:IntKind.i64.wrap ((i:Int)+(j:Int))=((i+j:Nat):Int):=wi (by omega) (by omega)
   have hlt:(i+j) / 2 < l.length:=by omega
   have g1:IntKind.u64.wrap (((i+j:Nat)):Int)=((i+j:Nat):Int):=ql rfl (by omega)
   have g2:((1:Int) < 0)=False:=ff (by decide)
   have g3:Int.fdiv ((i+j:Nat):Int) (2 ^ (min (Int.toNat 1) 64))=(((i+j) / 2:Nat):Int):=by
    rw [show (2:Int) ^ (min (Int.toNat 1) 64)=2 from rfl,Int.fdiv_eq_ediv_of_nonneg _ (by decide)]
    omega
   have g4:IntKind.i64.wrap (((i+j) / 2:Nat):Int)=(((i+j) / 2:Nat):Int):=wi (by omega) (by omega)
   have e3:bH (ax l) (((i+j) / 2:Nat):Int)=some (.ipt (bv l[(i+j) / 2])):=jt rfl (List.getElem?_eq_getElem hlt)
   have q:=c.t _ (List.getElem_mem hlt)
   have hc:=I5 q.sm hx (by have:=q.len; omega)
   have p1:bt (l[(i+j) / 2]).exps x < 0→(i+j) / 2 < bd l x:=fun ho=>by
    rcases Nat.lt_trichotomy ((i+j) / 2) (bd l x) with h | h | h
    ·exact h
    ·have:=CA (l:=l) (x:=x) (q:=l[(i+j) / 2]) (by rw [← h]; exact List.getElem?_eq_getElem hlt)
     omega
    ·have:=Qs c hl h (List.getElem?_eq_getElem hlt)
     omega
   have p2:¬ bt (l[(i+j) / 2]).exps x < 0→bd l x≤(i+j) / 2:=fun ho=>by
    rcases Nat.lt_or_ge ((i+j) / 2) (bd l x) with h | h
    ·exact absurd (I3 h (List.getElem?_eq_getElem hlt)) ho
    ·exact h
   have i1:=ih ((i+j) / 2+1) j (by omega)
   have i2:=ih i ((i+j) / 2) (by omega) hi
   generalize l[(i+j) / 2]=t at e3 q hc p1 p2
   rw [aB]
   generalize aU _ _ _=L at i1 i2 ⊢
   simp only [bv] at hc e3
   by_cases ho:bt t.exps x < 0
   ·have e4:(bt t.exps x < 0)=True:=tt ho
    have e5:IntKind.i64.wrap ((((i+j) / 2:Nat):Int)+1)=(((i+j) / 2+1:Nat):Int):=wi (by omega) (by omega)
    have:=p1 ho
    simp only [aS,go_sem,↓reduceIte,aee,aeg,aef,aeh,h0,h1,h2',h8,h9,h10,e1,e2,g1,g2,g3,g4,e3,hc,e4,e5]
    exact i1 (by omega) hj hn _ _ rfl rfl rfl rfl rfl rfl
   ·have e4:(bt t.exps x < 0)=False:=ff ho
    have:=p2 ho
    simp only [aS,go_sem,↓reduceIte,aee,aeg,aef,aeh,h0,h1,h2',h8,h9,h10,e1,e2,g1,g2,g3,g4,e3,hc,e4]
    exact i2 this (by omega) _ _ rfl rfl rfl rfl rfl rfl
  ·exact ih i j (by omega) hi hj hn s h h0 h1 h2' h8 h9 h10
def xt (l:List Rt) (x:List Int):Bool:=match l[bd l x]? with
 | some q=>decide (bt q.exps x=0)
 | none=>false
theorem KB {v:Int} {l:List Rt} {x:List Int} (c:Cl v l) (hx:sm x) (hl:(x.length:Int)=v) (h2:l.length≤1000000):R F.slices_BinarySearchFunc_api_Term_api_Term_Sint_ [.sl 4 (ax l),.sl 1 (aY x),.fn F.poly_collector_add_1 [] []] []=some (.tup [I (bd l x),B (xt l x)],[]):=by
 refine aX gE gD (cG false) rfl ?_
 have h3:=Qt c hx hl h2 l.length 0 l.length (by omega) (Nat.zero_le _) (xW l x) (Nat.le_refl _)
 simp only [Int.natCast_zero] at h3
 simp only [be,cV,go_sem,↓reduceIte,aee]
 rw [h3 _ _ rfl rfl rfl rfl rfl rfl]
 unfold xt
 cases hq:l[bd l x]? with
 | none =>
  have:l.length≤bd l x:=List.getElem?_eq_none_iff.1 hq
  have e1:((bd l x:Int) < (l.length:Int))=False:=ff (by omega)
  simp only [go_sem,↓reduceIte,aee,e1]
 | some q =>
  have hlt:=(List.getElem?_eq_some_iff.1 hq).1
  have e1:((bd l x:Int) < (l.length:Int))=True:=tt (by omega)
  have vq:=c.t q (List.mem_of_getElem? hq)
  have hc:=I5 vq.sm hx (by have:=vq.len; omega)
  have e3:bH (ax l) (bd l x:Int)=some (.ipt (bv q)):=jt rfl hq
  simp only [bv] at hc e3
  by_cases ho:bt q.exps x=0
  ·have e4:(bt q.exps x=0)=True:=tt ho
   simp only [go_sem,↓reduceIte,aee,aeg,aef,aeh,e1,e3,hc,e4,decide_true]
  ·have e4:(bt q.exps x=0)=False:=ff ho
   simp only [go_sem,↓reduceIte,aee,aeg,aef,aeh,e1,e3,hc,e4,decide_false]
end Go.Ab
namespace Go.Ab
open Go Go.IntWalk
set_option maxRecDepth 4000
set_option maxHeartbeats 1000000
theorem Dn {d:Rd} (hn:d.m.length ≠ 0) (h1:d.m.length≤100000):R F.poly_copied [aF d] []=some (aF d,[]):=by
 refine aX D4 D3 (zi false) rfl ?_
 have hc:=zZ (m:=d.m) (fun h=>hn (by rw [h]; rfl)) h1
 simp only [lV,vA,aF,aW,go_sem,↓reduceIte,aee,aeg,aef,aeh,hc]
theorem I6 {h:aa} {d id p n:Nat} {cs:List AV} {rows:List (List AV)} {x:AV} (hh:h id=.bx cs) (hp:cs[p]?=some (.osl 4 rows)) (hn:n=rows.length) (hx:∃ r,x=.sl 1 r) :
  ai R (ab false) h d [.rsl id (some p) 4 0 n,x,.fn F.poly_collector_add_1 [] []] (.fn F.slices_BinarySearchFunc_api_Term_api_Term_Sint_ [] [])=(R F.slices_BinarySearchFunc_api_Term_api_Term_Sint_ (aM [[.o 5 [.o 2 [],.o 0 [],.o 2 [],.o 0 []]],[.o 2 []],[]] [.sl 4 rows,x,.fn F.poly_collector_add_1 [] []]) []).bind (Fe h):=by
 obtain ⟨r,rfl⟩:=hx
 subst hn
 unfold ai
 rw [if_pos (by simp [jG,cW,Aq])]
 simp only [Ar,BR,Jr,nX,gx,hh,hp,m7,dN,List.nil_append,List.append_nil,cO]
 simp
theorem Hn (o:Ob):ae [o]=upd (fun _=>.dead) 1000 o:=by
 funext i
 unfold ae upd
 by_cases h:i=1000
 ·subst h
  rfl
 ·rw [if_neg h]
  split
  ·rw [List.getElem?_eq_none (by simp; omega)]
   rfl
  ·rfl
theorem sv {f:FuncId} {fd:FD} {args:List AV} {o:Ob} {r:AV × List Ob} (hE:au.E f=none) (hC:au.C f=some fd) (hk:au.md.keep f=false) (h1:args.length=fd.np)
  (hz:rk false fd.rs fd.res 1 (az R (ab false) fd.body (pf args) (upd (fun _=>.dead) 1000 o))=some r):R f args [o]=some r:=by
 refine Gd false hE hC hk h1 (by simp) ?_
 rw [Hn]
 exact hz
theorem EY {f:FuncId} {g:List AV→List Ob→Option (AV × List Ob)} {args:List AV} {hs:List Ob} (hE:au.E f=some g):R f args hs=g args hs:=uK hE
theorem Do:R F.slices_Clone_int_int_ [.sl 1 []] []=some (.sl 1 [],[]):=by
 rw [EY (g:=LD) (by kernel_rfl)]
 rfl
theorem Dp {x:Int} {l:List Int} (h:l.length≤1000000):R F.slices_Clone_int_int_ [.sl 1 (aY (x::l))] []=some (.osl 1 (aY (x::l)),[]):=by
 rw [EY (g:=LD) (by kernel_rfl)]
 show (if (((aY l).length+1)*8≤140737488355328) then _ else _)=_
 rw [if_pos (by rw [tN]; omega)]
 rfl
def mp (c:AV) (l:List Rt):Prop:=c=.osl 4 (ax l)∨(c=.emp∧l=[])
def t3 (v:Int) (c:AV) (e:Int):Ob:=.bx [I v,c,I e]
theorem tV {h:aa} {v e:Int} {c:AV} {l:List Rt} (hc:mp c l) (hh:h 1000=t3 v c e):n6 [] 1 h []=some (.tup [],[t3 v c e]):=by
 have hp:bS 1=[1000]:=rfl
 have h2:aA [1000] (t3 v c e)=true:=by
  rcases hc with rfl | ⟨rfl,_⟩ <;> rfl
 unfold n6
 rw [hp]
 simp [hh,h2,fm,lP,kP,aM]
theorem Ho {v e:Int} {c x:AV} {d:Rd} {l:List Rt} (hc:mp c l) (he:e ≠ 0):R F.poly_collector_add [.ref 1000 none 0 0 0,x,aF d] [t3 v c e]=some (.tup [],[t3 v c e]):=by
 refine sv gh gg (dt false) rfl ?_
 have e1:(e=0)=False:=ff he
 simp only [ck,dW,t3,aF,aW,go_sem,↓reduceIte,aee,aeg,aef,e1]
 exact tV hc rfl
theorem xY (h:aa) (i:Int) (b:Bool):Fe h (.tup [I i,B b],[])=some (.tup [I i,B b],h,[]):=rfl
theorem oP {h:aa} {id p id2 k n:Nat} {rows:List (List AV)} {cs:List AV} (h1:h id2=.ar k rows) (hn:n=rows.length) (h2:h id=.bx cs) (hne:id ≠ id2) (hp:p < cs.length) :
  mG h id p 1 [.rsl id2 none k 0 n]=some (upd (upd h id2 .dead) id (.bx (cs.set p (.osl k rows))),(id2,false)::(if cs[p]?.any aN then [(id,true)] else [])):=by
 have h3:upd h id2 .dead id=.bx cs:=by
  unfold upd
  rw [if_neg hne,h2]
 subst hn
 simp [mG,yj,h1,E7,E8,h3,hp,ui]
theorem Se {l:List Rt} {t:Rt} {n i:Nat} (hn:n=l.length) (hi:i≤n) (h2:n≤1000000):R F.slices_Insert_api_Term_api_Term_ [.rsl 1000 none 4 0 n,I i,.sl 4 [bv t]] [.ar 4 (ax l)]=some (.osl 4 (ax (l.take i++t::l.drop i)),[.dead]):=by
 rw [EY (g:=Gc 4 64) (by kernel_rfl)]
 show (if (4:Nat)=4∧(4:Nat)=4∧(4:Nat)=4∧n=(ax l).length∧(0:Int)≤(i:Int)∧(i:Int)≤(n:Int)∧(n+1)*64≤140737488355328 then some (AV.osl 4 ((ax l).take (i:Int).toNat++bv t::(ax l).drop (i:Int).toNat),[Ob.dead]) else none)=_
 rw [if_pos ⟨rfl,rfl,rfl,by rw [fD,hn],by omega,by omega,by omega⟩,Int.toNat_natCast]
 simp [ax,List.map_take,List.map_drop]
theorem Qu {t:Rt}:R F.slices_Insert_api_Term_api_Term_ [.emp,I 0,.sl 4 [bv t]] []=some (.osl 4 (ax [t]),[]):=by
 rw [EY (g:=Gc 4 64) (by kernel_rfl)]
 rfl
theorem L6 (t:Rt):nrmV [.o 5 [.o 2 [],.o 0 [],.o 2 [],.o 0 []]] (.sl 4 [bv t])=.sl 4 [bv t]:=by
 have:=tO [t]
 simp only [ax,List.map_cons,List.map_nil] at this
 simp only [nrmV,List.headD_cons,nrmL,List.map_cons,List.map_nil,this]
theorem Og {l:List Rt} {t:Rt} {h:aa} {d a b n i:Nat} (ha:h a=.ar 4 (ax l)) (hb:h b=.ar 4 [bv t]) (hab:a ≠ b) (_hda:2000+8*d ≠ a) (hdb:2000+8*d ≠ b) (hd:h (2000+8*d)=.dead) (hn:n=l.length) (hi:i≤n) (h2:n≤1000000) :
  ai R (ab false) h d [.rsl a none 4 0 n,.v (.int .i64 i),.rsl b none 4 0 1] (.fn F.slices_Insert_api_Term_api_Term_ [] []) =
   some (.rsl (2000+8*d) none 4 0 (l.length+1),upd (upd (upd h b (.fz 4 [bv t])) a .dead) (2000+8*d) (.ar 4 (ax (l.take i++t::l.drop i))),[(a,true),(a,false)]):=by
 have hm:=fR false
 have hs:=fA false
 have hk:=fe false
 have hf:=Se (t:=t) hn hi h2
 have hb':jG (ab false) [.rsl a none 4 0 n,.v (.int .i64 i),.rsl b none 4 0 1] (.fn F.slices_Insert_api_Term_api_Term_ [] [])=false:=by
  simp [jG,hm]
 have h1:ah h [2,0,0] [.rsl a none 4 0 n,.v (.int .i64 i),.rsl b none 4 0 1]=some ([.rsl a none 4 0 n,.v (.int .i64 i),.sl 4 [bv t]],upd h b (.fz 4 [bv t]),[]):=by
  simp [ah,bM,mE,du,ak,ha,hb,M4,jf,je]
 have g1:upd h b (.fz 4 [bv t]) a=.ar 4 (ax l):=by
  unfold upd
  rw [if_neg hab,ha]
 have g2:upd h b (.fz 4 [bv t]) (2000+8*d)=.dead:=by
  unfold upd
  rw [if_neg hdb,hd]
 have hr:bJ (upd h b (.fz 4 [bv t])) 40 [a] 0=[a]:=by
  simp [bJ,g1,uk,bo]
 have hp:bo [] ([AV.rsl a none 4 0 n,.v (.int .i64 i),.sl 4 [bv t]].flatMap bk)=[a]:=by
  simp [bk,cP,bo]
 have h3:aV [a] a=1000:=by simp [aV]
 have hnr:cf (.osl 4 (ax (l.take i++t::l.drop i)))=1:=rfl
 have hlen:(ax (l.take i++t::l.drop i)).length=l.length+1:=by
  rw [fD,List.length_append,List.length_take,List.length_cons,List.length_drop]
  omega
 have hnm:aM [[],[],[.o 5 [.o 2 [],.o 0 [],.o 2 [],.o 0 []]]] [.rsl a none 4 0 n,.v (.int .i64 i),.sl 4 [bv t]]=[.rsl a none 4 0 n,.v (.int .i64 i),.sl 4 [bv t]]:=by
  simp only [aM,L6]
  rfl
 unfold ai
 rw [if_neg (by rw [hb']; exact Bool.false_ne_true)]
 simp only [dq,hm,List.nil_append,List.append_nil,h1,Option.bind_some,hp,hr,hs,hnm]
 simp [jF,aJ,aO,g1,aA,cD,cQ,fV,h3,cC,hf,dZ,hnr,cx,g2,cU,bf,mP,uq,kN,cP,ey,cZ,rh,cz,mat,bU,dC,hk,uo,hm,hlen]
 exact ⟨by unfold bN; rw [if_neg (by omega)],by rw [tl]⟩
theorem Oh {h:aa} {d:Nat} {r:List (List AV)} {i:Int} {b:Bool} (hR:R F.slices_BinarySearchFunc_api_Term_api_Term_Sint_ [.sl 4 [],nrmV [.o 2 []] (.sl 1 r),.fn F.poly_collector_add_1 [] []] []=some (.tup [I i,B b],[])) (h0:h (2000+8*d)=.dead) (h1:h (2000+8*d+1)=.dead) :
  ai R (ab false) h d [.emp,.sl 1 r,.fn F.poly_collector_add_1 [] []] (.fn F.slices_BinarySearchFunc_api_Term_api_Term_Sint_ [] [])=some (.tup [I i,B b],h,[]):=by
 have hm:=cW false
 have hs:=cO false
 have hk:=cG false
 have hb':jG (ab false) [.emp,.sl 1 r,.fn F.poly_collector_add_1 [] []] (.fn F.slices_BinarySearchFunc_api_Term_api_Term_Sint_ [] [])=false:=by
  simp [jG,hm,Aq]
 have h3:ah h [3,0,0] [.emp,.sl 1 r,.fn F.poly_collector_add_1 [] []]=some ([.emp,.sl 1 r,.fn F.poly_collector_add_1 [] []],h,[]):=by
  simp [ah,bM,mE,du,ak]
 have hp:bo [] ([AV.emp,.sl 1 r,.fn F.poly_collector_add_1 [] []].flatMap bk)=[]:=by
  simp [bk,cP,bo]
 have hnm:aM [[.o 5 [.o 2 [],.o 0 [],.o 2 [],.o 0 []]],[.o 2 []],[]] [.emp,.sl 1 r,.fn F.poly_collector_add_1 [] []]=[.sl 4 [],nrmV [.o 2 []] (.sl 1 r),.fn F.poly_collector_add_1 [] []]:=by
  simp only [aM]
  rfl
 obtain ⟨q,hq⟩:∃ q,nrmV [.o 2 []] (.sl 1 r)=.sl 1 q:=⟨_,rfl⟩
 rw [hq] at hR hnm
 have hr:∀ n,bJ h n [] 0=[]:=fun n=>by cases n <;> rfl
 unfold ai
 rw [if_neg (by rw [hb']; exact Bool.false_ne_true)]
 simp only [dq,hm,List.nil_append,List.append_nil,h3,Option.bind_some,hp,hr,hs,hnm]
 simp [jF,aJ,aO,cQ,fV,hR,dZ,cf,cx,h0,h1,cD,cU,mP,uq,kN,ey,cZ,rh,cz,mat,bp,bU,dC,hk,uo,hm]
theorem L7 {t:Rt} {h:aa} {d b:Nat} (hb:h b=.ar 4 [bv t]) (hdb:2000+8*d ≠ b) (hd:h (2000+8*d)=.dead) :
  ai R (ab false) h d [.emp,.v (.int .i64 0),.rsl b none 4 0 1] (.fn F.slices_Insert_api_Term_api_Term_ [] [])=some (.rsl (2000+8*d) none 4 0 1,upd (upd h b (.fz 4 [bv t])) (2000+8*d) (.ar 4 (ax [t])),[]):=by
 have hm:=fR false
 have hs:=fA false
 have hk:=fe false
 have hf:=Qu (t:=t)
 have hb':jG (ab false) [.emp,.v (.int .i64 0),.rsl b none 4 0 1] (.fn F.slices_Insert_api_Term_api_Term_ [] [])=false:=by
  simp [jG,hm]
 have h1:ah h [2,0,0] [.emp,.v (.int .i64 0),.rsl b none 4 0 1]=some ([.emp,.v (.int .i64 0),.sl 4 [bv t]],upd h b (.fz 4 [bv t]),[]):=by
  simp [ah,bM,mE,du,ak,hb,jf,je]
 have g2:upd h b (.fz 4 [bv t]) (2000+8*d)=.dead:=by
  unfold upd
  rw [if_neg hdb,hd]
 have hp:bo [] ([AV.emp,.v (.int .i64 0),.sl 4 [bv t]].flatMap bk)=[]:=by
  simp [bk,cP,bo]
 have hnr:cf (.osl 4 (ax [t]))=1:=rfl
 have hnm:aM [[],[],[.o 5 [.o 2 [],.o 0 [],.o 2 [],.o 0 []]]] [.emp,.v (.int .i64 0),.sl 4 [bv t]]=[.emp,.v (.int .i64 0),.sl 4 [bv t]]:=by
  simp only [aM,L6]
  rfl
 have hr:∀ (h:aa) n,bJ h n [] 0=[]:=fun h n=>by cases n <;> rfl
 have hlen:(ax [t]).length=1:=rfl
 unfold ai
 rw [if_neg (by rw [hb']; exact Bool.false_ne_true)]
 simp only [dq,hm,List.nil_append,List.append_nil,h1,Option.bind_some,hp,hr,hs,hnm]
 simp [jF,aJ,aO,cQ,fV,hf,dZ,hnr,cx,g2,cD,cU,mP,uq,kN,cP,ey,cZ,rh,cz,mat,bU,dC,hk,uo,hm,hlen]
 unfold bN
 rw [if_neg (by omega)]
def ClE (x:List Int):Prop:=R F.slices_Clone_int_int_ [.sl 1 (aY x)] []=some (.osl 1 (aY x),[])∨R F.slices_Clone_int_int_ [.sl 1 (aY x)] []=some (.sl 1 (aY x),[])
theorem L8:∀ {x:List Int},x.length≤100000→ClE x
 | [],_=>.inr Do
 | x::l,h=>.inl (Dp (by simp at h; omega))
theorem Hp {v v':Int} {l:List Rt} {t:Rt} (c:Cl v l) (vt:VT v t) (hl:l.length≤1000000) (hf:xt l t.exps=false) :
  R F.poly_collector_add [.ref 1000 none 0 0 0,.sl 1 (aY t.exps),aF t.c] [t3 v' (.osl 4 (ax l)) 0]=some (.tup [],[t3 v' (.osl 4 (ax (l.take (bd l t.exps)++t::l.drop (bd l t.exps)))) 0]):=by
 refine sv gh gg (dt false) rfl ?_
 have hbs:=KB c vt.sm vt.len hl
 rw [hf] at hbs
 have hcp:=Dn vt.nz (Nat.le_trans (xq vt.vc vt.c.lb) (by decide))
 simp only [aF,aW] at hcp
 have k1:(aY t.exps).take t.exps.length=aY t.exps:=List.take_of_length_le (by rw [tN]; exact Nat.le_refl _)
 have k2:(ax l).take l.length=ax l:=List.take_of_length_le (by rw [fD]; exact Nat.le_refl _)
 have hlen:(l.take (bd l t.exps)++t::l.drop (bd l t.exps)).length=l.length+1:=by
  have:=xW l t.exps
  rw [List.length_append,List.length_take,List.length_cons,List.length_drop]
  omega
 have hp:=xW l t.exps
 simp only [ck,dW,t3,aF,aW,go_sem,↓reduceIte,aee,aeg,aef]
 rw [I6 rfl rfl (fD l).symm ⟨_,rfl⟩]
 rcases L8 vt.ok.len with hcv | hcv
 all_goals
  simp only [go_sem,↓reduceIte,aee,aeg,aef,aeh,aej,aei,hbs,xY,hcv,hcp,Nat.zero_add,Nat.le_refl,k1]
  rw [Og rfl rfl (by decide) (by decide) (by decide) rfl rfl hp hl]
  generalize l.take (bd l t.exps)++t::l.drop (bd l t.exps)=L at hlen ⊢
  simp only [go_sem,↓reduceIte,aee,aeg,aef,aeh,aei]
  rw [if_pos (by rfl),oP rfl (by rw [fD,hlen]) rfl (by decide) (Nat.lt_of_lt_of_le (by decide) (Nat.le_refl 3))]
  simp only [go_sem,↓reduceIte]
  exact tV (.inl rfl) rfl
theorem Oi {v':Int} {v:Int} {t:Rt} (vt:VT v t) :
  R F.poly_collector_add [.ref 1000 none 0 0 0,.sl 1 (aY t.exps),aF t.c] [t3 v' .emp 0]=some (.tup [],[t3 v' (.osl 4 (ax [t])) 0]):=by
 refine sv gh gg (dt false) rfl ?_
 have hbs:=KB (l:=[]) (Cl.nil v) vt.sm vt.len (Nat.zero_le _)
 rw [show bd [] t.exps=0 from rfl,show xt [] t.exps=false from rfl,Int.natCast_zero] at hbs
 have hcp:=Dn vt.nz (Nat.le_trans (xq vt.vc vt.c.lb) (by decide))
 simp only [aF,aW] at hcp
 have k1:(aY t.exps).take t.exps.length=aY t.exps:=List.take_of_length_le (by rw [tN]; exact Nat.le_refl _)
 have k2:nrmV [.o 2 []] (.sl 1 (aY t.exps))=.sl 1 (aY t.exps):=by
  simp only [go_sem]
 have hlen:[t].length=1:=rfl
 simp only [ck,dW,t3,aF,aW,go_sem,↓reduceIte,aee,aeg,aef]
 rw [Oh (by rw [k2]; exact hbs) rfl rfl]
 rcases L8 vt.ok.len with hcv | hcv
 all_goals
  simp only [go_sem,↓reduceIte,aee,aeg,aef,aeh,aej,hcv,hcp,Nat.zero_add,Nat.le_refl,k1]
  rw [L7 rfl (by decide) rfl]
  simp only [go_sem,↓reduceIte,aee,aeg,aef,aeh]
  rw [if_pos (by rfl),oP rfl (show 1=(ax [t]).length from rfl) rfl (by decide) (Nat.lt_of_lt_of_le (by decide) (Nat.le_refl 3))]
  simp only [go_sem,↓reduceIte]
  exact tV (.inl rfl) rfl
end Go.Ab
namespace Go.Ab
open Go Go.IntWalk
set_option maxRecDepth 4000
set_option maxHeartbeats 1000000
theorem xu {d n i:Nat} (h:i≤n):gF d n (some (I i))=some i:=by
 simp only [gF]
 rw [if_pos ⟨by omega,by omega⟩]
 rfl
theorem Sf {h:aa} {j k n:Nat} {rows:List (List AV)} (hj:aG j=false) (hh:h j=.ar k rows) (hn:n=rows.length) (hc:aA [1000] (h 1000)=true):n6 [[]] 1 h [.rsl j none k 0 n]=some (.osl k rows,[h 1000]):=by
 subst hn
 have hp:bS 1=[1000]:=rfl
 unfold n6
 rw [if_pos]
 ·simp [lP,ll,fX,hj,hh,qq,kP,aM,nrmV,nrmL,hp]
 ·simp [hp,hc,fm,bk,cP,hj]
theorem Sg {rows:List (List AV)} {n i:Nat} (hn:n=rows.length) (hi:i < n) (h2:n≤1000000):R F.slices_Delete_api_Term_api_Term_ [.rsl 1000 none 4 0 n,I i,I ((i+1:Nat):Int)] [.ar 4 rows]=some (.osl 4 (rows.take i++rows.drop (i+1)),[.dead]):=by
 refine sv mB mA (fg false) rfl ?_
 subst hn
 have b1:gF rows.length rows.length (some (I rows.length))=some rows.length:=xu (Nat.le_refl _)
 have b2:∀ d,gF d rows.length (some (I ((i+1:Nat):Int)))=some (i+1):=fun d=>xu (by omega)
 have b3:∀ d,gF d (i+1) (some (I i))=some i:=fun d=>xu (by omega)
 have b4:∀ d,gF d rows.length (some (I i))=some i:=fun d=>xu (by omega)
 have e1:((i:Int)=((i+1:Nat):Int))=False:=ff (by omega)
 have s1:dJ 4 (.rsl 1000 none 4 0 rows.length) (some (I i)) (some (I ((i+1:Nat):Int))) (some (I rows.length))=some .any:=by
  simp only [dJ,if_true,hG,b1,b2,b3,Option.bind_some,Option.map_some,Option.isNone_some,if_neg Bool.false_ne_true]
 have s2:dJ 4 (.rsl 1000 none 4 0 rows.length) none (some (I i)) none=some (.rsl 1000 none 4 0 i):=by
  simp only [dJ,if_true,hG,b4,zS,Option.bind_some,Option.map_some,Option.isNone_none,Nat.sub_zero,Nat.add_zero]
 have s3:dJ 4 (.rsl 1000 none 4 0 rows.length) (some (I ((i+1:Nat):Int))) none none=some (.rsl 1000 none 4 (i+1) (rows.length - (i+1))):=by
  simp only [dJ,if_true,hG,b2,zS,Option.bind_some,Option.map_some,Option.isNone_none,Nat.zero_add]
 have t1:(rows.drop (i+1)).take (rows.length - (i+1))=rows.drop (i+1):=List.take_of_length_le (by rw [List.length_drop]; omega)
 have t2:(i+1+(rows.length - (i+1))≤rows.length)=True:=eq_true (by omega)
 obtain ⟨m,hm⟩:∃ m,i+(rows.length - (i+1))=m:=⟨_,rfl⟩
 obtain ⟨D,hD⟩:∃ D,rows.take i++rows.drop (i+1)=D:=⟨_,rfl⟩
 have d1:D.length=m:=by
  rw [← hD,List.length_append,List.length_take,List.length_drop]
  omega
 obtain ⟨A,hA⟩:∃ A,D++rows.drop m=A:=⟨_,rfl⟩
 have a1:A.length=rows.length:=by
  rw [← hA,List.length_append,List.length_drop,d1]
  omega
 have a2:A.take m=D:=by rw [← hA,List.take_append_of_le_length (by omega),List.take_of_length_le (by omega)]
 have e5:∀ h,yL h 26 4 64 1000 4 0 i (rows.drop (i+1)) 4 rows=some (.rsl 1000 none 4 0 m,upd h 1000 (.ar 4 A),[]):=fun h=>by
  unfold yL
  rw [if_pos ⟨rfl,rfl,by rw [List.length_drop]; omega⟩,List.length_drop,Nat.zero_add,hm,hD,hA]
 have e7:(i=rows.length)=False:=eq_false (by omega)
 have b5:hG rows.length (some (I m)) (some (I rows.length)) none=some (m,rows.length):=by
  simp only [hG,b1,Option.bind_some]
  rw [xu (by omega)]
  rfl
 have c1:(m+(rows.length - m)≤rows.length)=True:=eq_true (by omega)
 have c2:∀ z,(D++List.replicate (rows.length - m) z++A.drop (m+(rows.length - m))).take m=D:=fun z=>by
  rw [List.append_assoc,List.take_append_of_le_length (by omega),List.take_of_length_le (by omega)]
 rw [hD]
 simp only [bZ,fO,go_sem,↓reduceIte,aee,aeh,aej,s1,s2,s3,e1,t1,t2,e5,e7,false_and,and_false,a1,a2,b5,c1,c2,Nat.sub_zero,Nat.zero_add,Nat.zero_le,anZ,decide_false]
 exact Sf (by rfl) (by rfl) d1.symm (by rfl)
theorem Oj {l:List Rt} {h:aa} {d a n i:Nat} (ha:h a=.ar 4 (ax l)) (_hda:2000+8*d ≠ a) (hd:h (2000+8*d)=.dead) (hn:n=l.length) (hi:i < n) (h2:n≤1000000) :
  ai R (ab false) h d [.rsl a none 4 0 n,.v (.int .i64 i),.v (.int .i64 ((i+1:Nat):Int))] (.fn F.slices_Delete_api_Term_api_Term_ [] []) =
   some (.rsl (2000+8*d) none 4 0 (l.length - 1),upd (upd h a .dead) (2000+8*d) (.ar 4 (ax (l.take i++l.drop (i+1)))),[(a,true),(a,false)]):=by
 have hm:=mC false
 have hs:=l7 false
 have hk:=fg false
 have hf:=Sg (rows:=ax l) (n:=n) (i:=i) (by rw [fD,hn]) hi h2
 have e1:(ax l).take i++(ax l).drop (i+1)=ax (l.take i++l.drop (i+1)):=by simp [ax,List.map_take,List.map_drop]
 rw [e1] at hf
 have hb':jG (ab false) [.rsl a none 4 0 n,.v (.int .i64 i),.v (.int .i64 ((i+1:Nat):Int))] (.fn F.slices_Delete_api_Term_api_Term_ [] [])=false:=by
  simp [jG,hm]
 have h1:ah h [2,0,0] [.rsl a none 4 0 n,.v (.int .i64 i),.v (.int .i64 ((i+1:Nat):Int))]=some ([.rsl a none 4 0 n,.v (.int .i64 i),.v (.int .i64 ((i+1:Nat):Int))],h,[]):=by
  simp [ah,bM,mE,du,ak,ha,M4]
 have hr:bJ h 40 [a] 0=[a]:=by
  simp [bJ,ha,uk,bo]
 have hp:bo [] ([AV.rsl a none 4 0 n,.v (.int .i64 i),.v (.int .i64 ((i+1:Nat):Int))].flatMap bk)=[a]:=by
  simp [bk,cP,bo]
 have h3:aV [a] a=1000:=by simp [aV]
 have hnr:cf (.osl 4 (ax (l.take i++l.drop (i+1))))=1:=rfl
 have hlen:(ax (l.take i++l.drop (i+1))).length=l.length - 1:=by
  rw [fD,List.length_append,List.length_take,List.length_drop]
  omega
 unfold ai
 rw [if_neg (by rw [hb']; exact Bool.false_ne_true)]
 simp only [dq,hm,List.nil_append,List.append_nil,h1,Option.bind_some,hp,hr,hs]
 simp only [Int.natCast_add,Int.natCast_one] at hf
 simp [jF,aM,aJ,aO,ha,aA,cD,cQ,fV,h3,cC,hf,dZ,hnr,cx,hd,cU,bf,mP,uq,kN,cP,ey,cZ,rh,cz,mat,bU,dC,hk,uo,hm,hlen]
 exact ⟨by unfold bN; rw [if_neg (by omega)],by rw [tl]⟩
theorem Qv (h:aa) (i:Nat) (xs:List AV) (a b:AV) (r:List (List AV)):xF h 3 1000 1 4 i 1 xs [] (.bx [a,.osl 4 r,b])=(wk 3 4 i 1 xs 4 r).map fun q=>(.und,upd h 1000 (.bx [a,.osl 4 q,b]),[]):=rfl
theorem xv (a b:AV) (k:Nat) (r:List (List AV)):gx 1 (.bx [a,.osl k r,b])=some (k,r):=rfl
theorem CB (h:aa) (n:Nat) (g:Bool) (i j:Nat) (r:List (List AV)):jE h n g 4 i j (some (4,r))=(r[i]?).bind fun row=>(ik n g row j).map fun a=>(a,h,[]):=rfl
theorem Ol {v v':Int} {l:List Rt} {t q:Rt} (c:Cl v l) (vt:VT v t) (hl:l.length≤1000000) (hq:l[bd l t.exps]?=some q) (ho:bt q.exps t.exps=0) :
  R F.poly_collector_add [.ref 1000 none 0 0 0,.sl 1 (aY t.exps),aF t.c] [t3 v' (.osl 4 (ax l)) 0]=some (.tup [],[if (iN q.c t.c).2=0 then (if (iN q.c t.c).1.m.length=0 then t3 v' (.osl 4 (ax (l.take (bd l t.exps)++l.drop (bd l t.exps+1)))) 0 else t3 v' (.osl 4 (ax (l.set (bd l t.exps) ⟨q.exps,(iN q.c t.c).1⟩))) 0) else t3 v' (.osl 4 (ax l)) 9]):=by
 refine sv gh gg (dt false) rfl ?_
 have hbs:=KB c vt.sm vt.len hl
 have hf:xt l t.exps=true:=by
  unfold xt
  rw [hq]
  exact decide_eq_true ho
 rw [hf] at hbs
 have vq:=c.t q (List.mem_of_getElem? hq)
 have hadd:=Qr vq.c vt.c
 have hlt:=(List.getElem?_eq_some_iff.1 hq).1
 have hrow:(ax l)[bd l t.exps]?=some (bv q):=by simp [ax,hq]
 have hi0:(0≤(bd l t.exps:Int)∧(bd l t.exps:Int) < (l.length:Int))=True:=eq_true ⟨by omega,by omega⟩
 have hw:IntKind.i64.wrap ((bd l t.exps:Int)+1)=((bd l t.exps+1:Nat):Int):=wi (by omega) (by omega)
 generalize iN q.c t.c=r at hadd ⊢
 obtain ⟨s,e⟩:=r
 simp only [rV,aF,aW] at hadd
 simp only [bv] at hrow
 simp only [ck,dW,t3,aF,aW,go_sem,↓reduceIte,aee,aeg,aef]
 rw [I6 rfl rfl (fD l).symm ⟨_,rfl⟩]
 by_cases he:e=0
 ·subst he
  by_cases hs:s.m.length=0
  ·have e1:((s.m.length:Int)=0)=True:=tt (by omega)
   have hlen:(l.take (bd l t.exps)++l.drop (bd l t.exps+1)).length=l.length - 1:=by
    rw [List.length_append,List.length_take,List.length_drop]
    omega
   simp only [go_sem,↓reduceIte,aee,aeg,aef,aeh,aej,aei,hbs,xY,hi0,hrow,hadd,hs,Int.toNat_natCast,Int.natCast_zero,Nat.zero_add,xv,CB,hw]
   rw [Oj rfl (by decide) rfl rfl hlt hl]
   generalize l.take (bd l t.exps)++l.drop (bd l t.exps+1)=L at hlen ⊢
   simp only [go_sem,↓reduceIte,aee,aeg,aef,aeh,aei]
   rw [oP rfl (by rw [fD,hlen]) rfl (by decide) (Nat.lt_of_lt_of_le (by decide) (Nat.le_refl 3))]
   simp only [go_sem,↓reduceIte]
   exact tV (.inl rfl) rfl
  ·have e1:((s.m.length:Int)=0)=False:=ff (by omega)
   have hset:(ax l).set (bd l t.exps) [.sl 1 (aY q.exps),B s.neg,lm s.m,I s.e]=ax (l.set (bd l t.exps) ⟨q.exps,s⟩):=by
    unfold ax
    rw [List.map_set]
    rfl
   simp only [go_sem,↓reduceIte,aee,aeg,aef,aeh,aej,aei,hbs,xY,hi0,hrow,hadd,hs,e1,Int.toNat_natCast,Nat.zero_add,xv,CB,hw,Qv,hset]
   exact tV (.inl rfl) rfl
 ·have e1:(e=0)=False:=ff he
  simp only [go_sem,↓reduceIte,aee,aeg,aef,aeh,aej,aei,hbs,xY,hi0,hrow,hadd,e1,Int.toNat_natCast,Nat.zero_add,xv,CB,hw]
  exact tV (.inl rfl) rfl
theorem I7 {v v':Int} {l:List Rt} {t:Rt} {cell:AV} (c:Cl v l) (vt:VT v t) (hl:l.length≤1000000) (hc:mp cell l) :
  ∃ cell' l' e',R F.poly_collector_add [.ref 1000 none 0 0 0,.sl 1 (aY t.exps),aF t.c] [t3 v' cell 0]=some (.tup [],[t3 v' cell' e'])∧mp cell' l'∧((e'=0∧nw l t=some l')∨(e'=9∧nw l t=none∧l'=l)):=by
 rcases hc with rfl | ⟨rfl,rfl⟩
 ·rw [I4]
  cases hq:l[bd l t.exps]? with
  | none =>
   exact ⟨_,_,_,Hp c vt hl (by unfold xt; rw [hq]),.inl rfl,.inl ⟨rfl,rfl⟩⟩
  | some q =>
   by_cases ho:bt q.exps t.exps=0
   ·have h1:=Ol (v':=v') c vt hl hq ho
    simp only [if_pos ho]
    by_cases he:(iN q.c t.c).2=0
    ·rw [if_pos he] at h1 ⊢
     by_cases hs:(iN q.c t.c).1.m.length=0
     ·rw [if_pos hs] at h1 ⊢
      exact ⟨_,_,_,h1,.inl rfl,.inl ⟨rfl,rfl⟩⟩
     ·rw [if_neg hs] at h1 ⊢
      exact ⟨_,_,_,h1,.inl rfl,.inl ⟨rfl,rfl⟩⟩
    ·rw [if_neg he] at h1 ⊢
     exact ⟨_,_,_,h1,.inl rfl,.inr ⟨rfl,rfl,rfl⟩⟩
   ·simp only [if_neg ho]
    exact ⟨_,_,_,Hp c vt hl (by unfold xt; rw [hq]; exact decide_eq_false ho),.inl rfl,.inl ⟨rfl,rfl⟩⟩
 ·exact ⟨_,_,_,Oi vt,.inl rfl,.inl ⟨rfl,rfl⟩⟩
end Go.Ab
namespace Go.Ab
open Go Go.IntWalk
end Go.Ab
namespace Go.Ab
open Go Go.IntWalk
def p0:Rp:=⟨0,[]⟩
def ki (v:Int):Option (List Rt)→Rp × Int
 | none=>(p0,9)
 | some l=>if 500 < l.length then (p0,5) else (⟨v,l⟩,0)
def bQ (a b:List Int):List Int:=List.zipWith (·+·) a b
end Go.Ab
namespace Go.Ab
open Go Go.IntWalk
structure Pv (v:Int) (a:Rp):Prop where
 v:a.vars=v
 p:vp a=true
 o:OkP a
theorem Pv.cl {v:Int} {a:Rp} (h:Pv v a):Cl v a.terms:=by
 have:=(dH h.o h.p).1
 rw [h.v] at this
 exact this
end Go.Ab
namespace Go.Ab
open Go Go.IntWalk
set_option maxRecDepth 4000
set_option maxHeartbeats 1000000
structure OC (o:Ob):Prop where
 cl:∀ l,aA l o=true
 ids:uk o=[]
 ren:∀ g,cC g o=o
 nd:cD o=false
structure RT (r:AV):Prop where
 ren:∀ g,uo g r=r
 mat:∀ n h,mat n h r=(r,h)
 ok:∀ l,ey l r=true
end Go.Ab
namespace Go.Ab
open Go Go.IntWalk
set_option maxRecDepth 4000
set_option maxHeartbeats 1000000
structure ColE (v:Int) (l ts:List Rt) (e:Int) (c':AV) (l':List Rt) (e':Int):Prop where
 c:mp c' l'
 r:(e'=0∧e=0∧gV l ts=some l')∨(e'=9∧(e=0→gV l ts=none))
theorem ColE.fin {v:Int} {ts:List Rt} {c':AV} {l':List Rt} {e':Int} (h:ColE v [] ts 0 c' l' e'):(if e'=0 then ki v (some l') else (p0,e'))=ki v (gV [] ts):=by
 rcases h.r with ⟨h1,_,h2⟩ | ⟨h1,h2⟩
 ·rw [if_pos h1,h2]
 ·rw [h1,if_neg (by decide),h2 rfl]
  rfl
theorem ColE.step {v:Int} {l ts:List Rt} {t:Rt} {c:AV} (hc:mp c l) {e:Int} (he:e=0∨e=9) (hC:e=0→Cl v l∧l.length+ts.length+1≤1000000) (vt:VT v t) {v':Int} :
  ∃ c1 l1 e1,R F.poly_collector_add [.ref 1000 none 0 0 0,.sl 1 (aY t.exps),aF t.c] [t3 v' c e]=some (.tup [],[t3 v' c1 e1])∧mp c1 l1∧(e1=0∨e1=9)∧(e1=0→Cl v l1∧l1.length+ts.length≤1000000)∧∀ c' l' e',ColE v l1 ts e1 c' l' e'→ColE v l (t::ts) e c' l' e':=by
 rcases he with rfl | rfl
 ·obtain ⟨h1,h2⟩:=hC rfl
  obtain ⟨c1,l1,e1,g1,g2,g3⟩:=I7 (v':=v') h1 vt (by omega) hc
  refine ⟨c1,l1,e1,g1,g2,?_,fun h0=>?_,fun c' l' e' h=>⟨h.c,?_⟩⟩
  ·rcases g3 with ⟨g,_⟩ | ⟨g,_⟩
   ·exact .inl g
   ·exact .inr g
  ·rcases g3 with ⟨_,g⟩ | ⟨g,_⟩
   ·have:=Ac g
    exact ⟨(xX h1 vt g).1,by omega⟩
   ·omega
  ·rcases g3 with ⟨g,k⟩ | ⟨g,k,_⟩
   ·subst g
    rcases h.r with ⟨q1,_,q2⟩ | ⟨q1,q2⟩
    ·refine .inl ⟨q1,rfl,?_⟩
     unfold gV
     rw [k]
     exact q2
    ·refine .inr ⟨q1,fun _=>?_⟩
     unfold gV
     rw [k]
     exact q2 rfl
   ·subst g
    rcases h.r with ⟨_,q1,_⟩ | ⟨q1,_⟩
    ·omega
    ·refine .inr ⟨q1,fun _=>?_⟩
     unfold gV
     rw [k]
     rfl
 ·refine ⟨c,l,9,Ho hc (by decide),hc,.inr rfl,fun h=>by omega,fun c' l' e' h=>⟨h.c,?_⟩⟩
  rcases h.r with ⟨_,q1,_⟩ | ⟨q1,_⟩
  ·omega
  ·exact .inr ⟨q1,fun h=>by omega⟩
end Go.Ab
namespace Go.Ab
open Go Go.IntWalk
set_option maxRecDepth 4000
set_option maxHeartbeats 1000000
end Go.Ab
namespace Go.Ab
open Go Go.IntWalk
set_option maxRecDepth 4000
set_option maxHeartbeats 1000000
def t2 (v:Int) (c:AV):Ob:=.bx [I v,c]
end Go.Ab
namespace Go.Ab
open Go Go.IntWalk
set_option maxRecDepth 4000
set_option maxHeartbeats 1000000
end Go.Ab
namespace Go.Ab
open Go Go.IntWalk
set_option maxRecDepth 4000
set_option maxHeartbeats 1000000
end Go.Ab
namespace Go.Ab
open Go Go.IntWalk
set_option maxRecDepth 4000
set_option maxHeartbeats 1000000
def ae0:List Nat→List Nat→Bool
 | [],[]=>true
 | x::xs,y::ys=>decide (x=y) && ae0 xs ys
 | _,_=>false
theorem ahq:∀ {a b:List Nat},ae0 a b=true↔a=b
 | [],[]=>by simp [ae0]
 | x::a,y::b=>by simp [ae0,ahq]
 | [],_::_=>by simp [ae0]
 | _::_,[]=>by simp [ae0]
theorem agS:∀ {a b:List Nat},a.length ≠ b.length→ae0 a b=false
 | [],[],h=>absurd rfl h
 | x::a,y::b,h=>by
  unfold ae0
  rw [agS (fun e=>h (by simp [e])),Bool.and_false]
 | [],_::_,_=>rfl
 | _::_,[],_=>rfl
end Go.Ab
namespace Go.Ab
open Go Go.IntWalk
set_option maxRecDepth 4000
set_option maxHeartbeats 1000000
def vf (t:Rt):Bool:=decide (10 < t.c.m.length) || decide (20 < t.exps.length)
theorem KD {t:Rt}:R F.l23_great_1_1 [.agg (bv t)] []=some (B (vf t),[]):=by
 refine aX A8 A7 (w9 false) rfl ?_
 unfold vf
 by_cases h:10 < t.c.m.length
 ·have e1:(10 < (t.c.m.length:Int))=True:=tt (by omega)
  rw [decide_eq_true h,Bool.true_or]
  simp only [gL,ow,bv,go_sem,↓reduceIte,aee,aeg,aef,e1]
 ·have e1:(10 < (t.c.m.length:Int))=False:=ff (by omega)
  rw [decide_eq_false h,Bool.false_or]
  have e2:decide ((20:Int) < (t.exps.length:Int))=decide (20 < t.exps.length):=by rw [decide_eq_decide]; omega
  simp only [gL,ow,bv,go_sem,↓reduceIte,aee,aeg,aef,e1,e2]
theorem lmB (m:List Nat):(aP m).map (fun r=>match r with | [.v (.int _ x)]=>x.toNat | _=>0)=m:=by
 unfold aP
 rw [List.map_map]
 exact (List.map_congr_left (g:=fun c=>c) fun x _=>by simp).trans (List.map_id' _)
theorem izB (m:List Int):(aY m).map (fun r=>match r with | [.v (.int _ x)]=>x | _=>0)=m:=by
 unfold aY
 rw [List.map_map]
 exact (List.map_congr_left (g:=fun c=>c) fun x _=>by simp).trans (List.map_id' _)
def Dt:List AV→Rt
 | [.sl _ m1,.v (.bool n2),.sl _ m2,.v (.int _ e2)]=>⟨m1.map (fun r=>match r with | [.v (.int _ x)]=>x | _=>0),⟨n2,m2.map (fun r=>match r with | [.v (.int _ x)]=>x.toNat | _=>0),e2⟩⟩
 | _=>⟨[],et⟩
theorem EZ (t:Rt):Dt (bv t)=t:=by
 show (⟨(aY t.exps).map _,⟨t.c.neg,(aP t.c.m).map _,t.c.e⟩⟩:Rt)=t
 rw [lmB,izB]
theorem Ow {l:List Rt} (h2:l.length < 4611686018427387904):R F.slices_ContainsFunc_api_Term_api_Term_ [.sl 4 (ax l),.fn F.l23_great_1_1 [] []] []=some (B (l.any vf),[]):=by
 have h1:=Bo (k:=4) (g:=true) (f:=F.l23_great_1_1) (rows:=ax l) (p:=fun r=>vf (Dt r)) lh lg (j8 false) rfl (so false) (by rw [fD]; omega) (fun row hr=>by
  simp only [ax,List.mem_map] at hr
  obtain ⟨t,ht,rfl⟩:=hr
  have hd:=KD (t:=t)
  refine ⟨.agg (bv t),rfl,rfl,?_⟩
  rw [EZ]
  simp only [bv] at hd
  simp only [bv,go_sem,hd])
 have h2:=xT (k:=4) j5 j3 (iV false) rfl (eZ false) (kJ false) (by simp only [go_sem]) h1
 have h3:(ax l).any (fun r=>vf (Dt r))=l.any vf:=by
  unfold ax
  rw [List.any_map]
  congr 1
  funext t
  exact congrArg vf (EZ t)
 rw [h3] at h2
 exact h2
def mO (a:Rp):Bool:=(decide (40 < a.terms.length) && decide (a.terms.length≤500)) || a.terms.any vf
theorem Mg {a:Rp} (h2:a.terms.length < 4611686018427387904):R F.l23_great_1 [aZ a] []=some (B (mO a),[]):=by
 refine aX DO DN (yX false) rfl ?_
 have hc:=Ow h2
 have nr:(ax a.terms).map (ce [.o 2 [],.o 0 [],.o 2 [],.o 0 []])=ax a.terms:=tO _
 unfold mO
 by_cases h:40 < a.terms.length
 ·have e1:(40 < (a.terms.length:Int))=True:=tt (by omega)
  rw [decide_eq_true h,Bool.true_and]
  by_cases h5:a.terms.length≤500
  ·have e2:((a.terms.length:Int)≤500)=True:=tt (by omega)
   rw [decide_eq_true h5,Bool.true_or]
   simp only [gz,mT,aZ,go_sem,↓reduceIte,aee,aeg,aef,e1,e2]
  ·have e2:((a.terms.length:Int)≤500)=False:=ff (by omega)
   rw [decide_eq_false h5,Bool.false_or]
   simp only [gz,mT,aZ,go_sem,↓reduceIte,aee,aeg,aef,e1,e2,hc]
 ·have e1:(40 < (a.terms.length:Int))=False:=ff (by omega)
  rw [decide_eq_false h,Bool.false_and,Bool.false_or]
  simp only [gz,mT,aZ,go_sem,↓reduceIte,aee,aeg,aef,e1,hc]
def Jh (a:Rp):List AV:=[I a.vars,.sl 4 (ax a.terms)]
def xy (l:List Rp):List (List AV):=l.map Jh
@[go_sem] theorem QC (l:List Rp):(xy l).length=l.length:=by simp [xy]
@[go_sem] theorem ZK (l:List Rt):(ax l).map (ce [.o 2 [],.o 0 [],.o 0 [],.o 0 []])=ax l:=by
 refine qo fun x hx=>?_
 simp only [ax,List.mem_map] at hx
 obtain ⟨t,ht,rfl⟩:=hx
 simp only [bv,go_sem]
@[go_sem] theorem acg (l:List Rp):(xy l).map (ce [.o 0 [],.o 5 [.o 2 [],.o 0 [],.o 0 [],.o 0 []]])=xy l:=by
 refine qo fun x hx=>?_
 simp only [xy,List.mem_map] at hx
 obtain ⟨t,ht,rfl⟩:=hx
 simp only [Jh,go_sem]
def Sl:List AV→Rp
 | [.v (.int _ v),.sl _ r]=>⟨v,r.map Dt⟩
 | _=>p0
theorem Pp (a:Rp):Sl (Jh a)=a:=by
 show (⟨a.vars,(ax a.terms).map Dt⟩:Rp)=a
 have h:(ax a.terms).map Dt=a.terms:=by
  unfold ax
  rw [List.map_map]
  exact (List.map_congr_left (g:=fun c=>c) fun x _=>EZ x).trans (List.map_id' _)
 rw [h]
theorem Ox {l:List Rp} (hl:l.length≤10) (h2:∀ a ∈ l,a.terms.length < 4611686018427387904):R F.l23_great [.sl 2 (xy l)] []=some (B (l.any mO),[]):=by
 refine aX Ie Ic (Ca false) rfl ?_
 have h1:=Bo (k:=2) (g:=true) (f:=F.l23_great_1) (rows:=xy l) (p:=fun r=>mO (Sl r)) kZ kY (j7 false) rfl (vN false) (by rw [QC]; omega) (fun row hr=>by
  simp only [xy,List.mem_map] at hr
  obtain ⟨t,ht,rfl⟩:=hr
  have hd:=Mg (h2 t ht)
  refine ⟨.agg (Jh t),rfl,rfl,?_⟩
  rw [Pp]
  simp only [aZ] at hd
  simp only [Jh,go_sem,hd])
 have h2:=xT (k:=2) jZ jY (iU false) rfl (eY false) (kH false) (by simp only [go_sem]) h1
 have h3:(xy l).any (fun r=>mO (Sl r))=l.any mO:=by
  unfold xy
  rw [List.any_map]
  congr 1
  funext t
  exact congrArg mO (Pp t)
 rw [h3] at h2
 simp only [ov,yE,go_sem,↓reduceIte,aee,aeg,aef,h2]
theorem Ag {a:Rp} (oc:∀ t ∈ a.terms,Ok0 t.c) (h:mO a=false):OkP a:=by
 unfold mO at h
 rw [Bool.or_eq_false_iff] at h
 refine ⟨fun t ht=>⟨oc t ht,?_⟩⟩
 have:=List.any_eq_false.1 h.2 t ht
 unfold vf at this
 simp at this
 omega
structure Res (r:Rp × Int):Prop where
 cl:Cl r.1.vars r.1.terms
 len:r.1.terms.length≤100000
 z:r.2=0∨r.1=p0
end Go.Ab
namespace Go.Ab
open Go Go.IntWalk
set_option maxRecDepth 4000
set_option maxHeartbeats 2000000
def sy (a b:List Int) (i:Nat):List Int:=(bQ a b).take i++a.drop i
end Go.Ab
namespace Go.Ab
open Go Go.IntWalk
set_option maxRecDepth 4000
set_option maxHeartbeats 4000000
end Go.Ab
namespace Go.Ab
open Go Go.IntWalk
set_option maxRecDepth 4000
set_option maxHeartbeats 4000000
theorem ColE.app {v:Int} {l r r2:List Rt} {e:Int} {c1:AV} {l1:List Rt} {e1:Int} {c':AV} {l':List Rt} {e':Int} (h1:ColE v l r e c1 l1 e1) (h2:ColE v l1 r2 e1 c' l' e'):ColE v l (r++r2) e c' l' e':=by
 refine ⟨h2.c,?_⟩
 rw [Hm]
 rcases h1.r with ⟨a1,a2,a3⟩ | ⟨a1,a2⟩
 ·rw [a3]
  rcases h2.r with ⟨b1,b2,b3⟩ | ⟨b1,b2⟩
  ·exact .inl ⟨b1,a2,b3⟩
  ·exact .inr ⟨b1,fun _=>b2 a1⟩
 ·rcases h2.r with ⟨b1,b2,b3⟩ | ⟨b1,b2⟩
  ·omega
  ·exact .inr ⟨b1,fun h=>by rw [a2 h]; rfl⟩
theorem ColE.nx {v:Int} {l r:List Rt} {e:Int} {c1:AV} {l1:List Rt} {e1:Int} (h:ColE v l r e c1 l1 e1) (hC:e=0→Cl v l) (hr:∀ t ∈ r,VT v t):(e1=0∨e1=9)∧(e1=0→e=0∧Cl v l1∧l1.length≤l.length+r.length):=by
 rcases h.r with ⟨a1,a2,a3⟩ | ⟨a1,a2⟩
 ·exact ⟨.inl a1,fun _=>⟨a2,nR (hC a2) hr a3⟩⟩
 ·exact ⟨.inr a1,fun h=>by omega⟩
end Go.Ab
namespace Go.Ab
open Go Go.IntWalk
set_option maxRecDepth 4000
set_option maxHeartbeats 4000000
end Go.Ab
namespace Go.Ab
open Go Go.IntWalk
set_option maxRecDepth 4000
set_option maxHeartbeats 2000000
end Go.Ab
namespace Go.Ab
open Go Go.IntWalk
set_option maxRecDepth 4000
set_option maxHeartbeats 4000000
def XV (x:AV) (l:List Rt):Prop:=x=.sl 4 (ax l)∨(x=.emp∧l=[])
theorem XV.keep {x:AV} {l:List Rt} (h:XV x l) (hs:List Nat):ez hs x=x:=by
 rcases h with rfl | ⟨rfl,_⟩ <;> rfl
end Go.Ab
namespace Go.Ab
open Go Go.IntWalk
set_option maxRecDepth 4000
set_option maxHeartbeats 4000000
end Go.Ab
namespace Go.Ab
open Go Go.IntWalk
set_option maxRecDepth 4000
set_option maxHeartbeats 1000000
end Go.Ab
namespace Go.Ab
open Go Go.IntWalk
set_option maxRecDepth 4000
set_option maxHeartbeats 2000000
def am4 (X:Option (Ex × St)):Option Rd→Prop
 | some d=>∃ hh,X=some (.normal,⟨upd (upd (fun _=>.any) 6 (.ref 6 none 0 0 0)) 3 (.ref 3 none 0 0 0),hh⟩)∧hh 3=.bx [B d.neg,lm d.m,I d.e]∧hh 6=.bx zb
 | none=>∃ hh,X=some (.ret,⟨upd (upd (fun _=>.any) 7 (B false)) 6 (.ref 6 none 0 0 0),hh⟩)∧hh 6=.bx zb
theorem amz {x:Rd} (ox:Ok0 x) {n:Nat} (hn:n≤100000):∀ (k i:Nat),i+k=n→∀ (c:Rd),Ok0 c→∀ (s:af) (h:aa),s 3=.ref 3 none 0 0 0→s 4=.ref 4 none 0 0 0→s 6=.ref 6 none 0 0 0→s 10=I n→s 11=I i→h 3=.bx [B c.neg,lm c.m,I c.e]→h 4=.bx [B x.neg,lm x.m,I x.e]→h 6=.bx zb →
  am4 (aI 0 [3,6] (aU (az R (ab false) akq) [3,4,6,10,11] [3,4,6] s h)) (akw x k c):=by
 intro k
 induction k with
 | zero =>
  intro i hi c oc s h g3 g4 g6 g10 g11 k3 k4 k6
  have e1:((i:Int) < (n:Int))=False:=ff (by omega)
  rw [aB]
  refine ⟨?hh0,?_,?_,?_⟩
  rotate_left
  ·simp only [akq,go_sem,↓reduceIte,aee,aei,g3,g4,g6,g10,g11,k3,k4,k6,e1]
   rfl
  ·rfl
  ·rfl
 | succ k ih =>
  intro i hi c oc s h g3 g4 g6 g10 g11 k3 k4 k6
  have e1:((i:Int) < (n:Int))=True:=tt (by omega)
  have e5:IntKind.i64.wrap ((i:Int)+1)=((i+1:Nat):Int):=wi (by omega) (by omega)
  have hm:=Qo oc ox
  have om:=(alt c x).2
  have ih':=ih (i+1) (by omega)
  rw [aB]
  generalize aU _ _ _=L at ih' ⊢
  unfold akw
  generalize nv c x=r at hm om ⊢
  obtain ⟨r1,r2⟩:=r
  simp only [rV,aF,aW] at hm
  by_cases h0:r2=0
  ·subst h0
   rw [if_pos rfl]
   simp only [akq,go_sem,↓reduceIte,aee,aeg,aef,aeh,aei,g3,g4,g6,g10,g11,k3,k4,k6,e1,e5,hm]
   exact ih' r1 om _ _ rfl rfl rfl rfl rfl rfl rfl rfl
  ·rw [if_neg h0]
   have e2:(r2=0)=False:=ff h0
   refine ⟨?hh1,?_,?_⟩
   rotate_left
   ·simp only [akq,go_sem,↓reduceIte,aee,aeg,aef,aeh,aei,g3,g4,g6,g10,g11,k3,k4,k6,e1,hm,e2]
    rfl
   ·rfl
theorem anj {x:Rd} (ox:Ok0 x) {n:Nat} (hn:n≤100000) {c:Rd} (oc:Ok0 c) (s:af) (h:aa) (X:Option (Ex × St)) (hX:aI 0 [3,6] (aU (az R (ab false) akq) [3,4,6,10,11] [3,4,6] s h)=X) (g3:s 3=.ref 3 none 0 0 0) (g4:s 4=.ref 4 none 0 0 0) (g6:s 6=.ref 6 none 0 0 0) (g10:s 10=I n) (g11:s 11=I 0) (k3:h 3=.bx [B c.neg,lm c.m,I c.e]) (k4:h 4=.bx [B x.neg,lm x.m,I x.e]) (k6:h 6=.bx zb) :
  am4 X (akw x n c):=by
 subst hX
 exact amz ox hn n 0 (Nat.zero_add _) c oc s h g3 g4 g6 g10 g11 k3 k4 k6
theorem amq {c x:Rd} (oc:Ok0 c) (ox:Ok0 x) {n:Nat} (hn:n≤100000):R F.poly_times [aF c,aF x,I n] []=some (.tup [aF (aky x n c).1,B (aky x n c).2],[]):=by
 refine aX alI alH (ali false) rfl ?_
 have hl:=anj ox hn oc
 simp only [akJ,ak4,aF,aW,go_sem,↓reduceIte,aee,aef]
 generalize hX:aI 0 [3,6] _=X
 have hT:=hl _ _ _ hX rfl rfl rfl rfl rfl rfl rfl rfl
 unfold aky
 cases ht:akw x n c with
 | some d =>
  rw [ht] at hT
  obtain ⟨hh,rfl,q3,q6⟩:=hT
  simp only [go_sem,↓reduceIte,aee,aeg,aef,aeh,q3,q6]
 | none =>
  rw [ht] at hT
  obtain ⟨hh,rfl,q6⟩:=hT
  simp only [go_sem,↓reduceIte,aee,aeg,aef,aeh,q6]
  rfl
theorem am5 {d:Rd} (ok:Ok0 d):R F.poly_Eval_1 [.agg (aW d)] []=some (B (!vd d),[]):=by
 refine aX aly alx (alc false) rfl ?_
 have hv:=iL ok
 simp only [aF,aW] at hv
 simp only [akF,ak0,aW,go_sem,↓reduceIte,aee,aeg,aef,aeh,hv]
def rdB:List AV→Rd
 | [.v (.bool n),.sl _ m,.v (.int _ e)]=>⟨n,m.map (fun r=>match r with | [.v (.int _ x)]=>x.toNat | _=>0),e⟩
 | _=>et
theorem aiV (d:Rd):rdB (aW d)=d:=congrArg (fun m=>(⟨d.neg,m,d.e⟩:Rd)) (lmB d.m)
theorem aiN {f:FuncId} {p:Rd→Bool} (hm:(ab false).m f=[]) (hs:(ab false).sh f=[[.o 0 [],.o 2 [],.o 0 []]]) {l:List Rd} (h2:l.length≤100000) (hf:∀ d ∈ l,R f [.agg (aW d)] []=some (B (p d),[])):R F.slices_ContainsFunc_api_Dyadic_api_Dyadic_ [.sl 3 (LT l),.fn f [] []] []=some (B (l.any p),[]):=by
 have h1:=Bo (k:=3) (g:=true) (f:=f) (rows:=LT l) (p:=fun r=>p (rdB r)) aeC aeB (aer false) rfl hm (by rw [abM]; omega) (fun row hr=>by
  simp only [LT,List.mem_map] at hr
  obtain ⟨t,ht,rfl⟩:=hr
  have hd:=hf t ht
  refine ⟨.agg (aW t),rfl,rfl,?_⟩
  rw [aiV]
  simp only [aW] at hd
  simp only [aW,go_sem,hs,hd])
 have h2:=xT (k:=3) aep aeo (aek false) rfl (adz false) (aex false) (by simp only [go_sem]) h1
 have h3:(LT l).any (fun r=>p (rdB r))=l.any p:=by
  unfold LT
  rw [List.any_map]
  congr 1
  funext t
  exact congrArg p (aiV t)
 rw [h3] at h2
 exact h2
theorem al0:∀ l:List Rd,(l.any fun d=>!vd d)=!l.all vd
 | []=>rfl
 | d::l=>by rw [List.any_cons,List.all_cons,Bool.not_and,al0 l]
theorem amA {l:List Rd} (ol:∀ d ∈ l,Ok0 d) (h2:l.length≤100000):R F.slices_ContainsFunc_api_Dyadic_api_Dyadic_ [.sl 3 (LT l),.fn F.poly_Eval_1 [] []] []=some (B (!l.all vd),[]):=by
 have h:=aiN (ak1 false) (alo false) h2 (p:=fun d=>!vd d) (fun d hd=>am5 (ol d hd))
 rw [al0] at h
 exact h
def EvI (X:Option (Ex × St)) (S:af) (o2:Ob) (c6:List AV):Option Rd→Prop
 | some d=>∃ hh,X=some (.normal,⟨S,hh⟩)∧hh 2=o2∧hh 4=.bx zb∧hh 6=.bx c6∧hh 9=.bx [B d.neg,lm d.m,I d.e]∧∀ a,a ≠ 2→a ≠ 4→a ≠ 6→a ≠ 8→a ≠ 9→hh a=.dead
 | none=>∃ hh,X=some (.ret,⟨upd (upd (fun _=>.any) 5 (I 9)) 4 (.ref 4 none 0 0 0),hh⟩)∧hh 4=.bx zb
theorem amB {es:List Int} {xs:List Rd} (ox:∀ d ∈ xs,Ok0 d) (hl:es.length=xs.length) (hb:∀ e ∈ es,0≤e∧e≤32) (h8:es.length≤1000) {o2 o8:Ob} (c2:∀ l,aA l o2=true) (c8:∀ l,aA l o8=true) {c6:List AV} (k6c:∀ l,c6.all (eH l)=true) {A:List Rt} {nA iA:Int} :
  ∀ (k i:Nat),i+k=es.length→∀ (c:Rd),Ok0 c→∀ (s:af) (h:aa),s 1=.sl 3 (LT xs)→s 4=.ref 4 none 0 0 0→s 6=.ref 6 none 0 0 0→s 9=.ref 9 none 0 0 0→s 31=.sl 4 (ax A)→s 32=I nA→s 33=I iA→s 40=.sl 1 (aY es)→s 41=I es.length→s 42=I i→h 2=o2→h 4=.bx zb→h 6=.bx c6→h 8=o8→h 9=.bx [B c.neg,lm c.m,I c.e] →
  EvI (aI 2 [1,4,6,9,31,32,33] (aU (az R (ab false) akt) [1,4,6,9,31,32,33,40,41,42] [2,4,6,8,9] s h)) (upd (upd (upd (upd (upd (upd (upd (fun _=>.any) 33 (I iA)) 32 (I nA)) 31 (.sl 4 (ax A))) 9 (.ref 9 none 0 0 0)) 6 (.ref 6 none 0 0 0)) 4 (.ref 4 none 0 0 0)) 1 (.sl 3 (LT xs))) o2 c6 (aks (es.drop i) (xs.drop i) c):=by
 intro k
 induction k with
 | zero =>
  intro i hi c oc s h g1 g4 g6 g9 g31 g32 g33 g40 g41 g42 k2 k4 k6 k8 k9
  have e1:((i:Int) < (es.length:Int))=False:=ff (by omega)
  rw [List.drop_eq_nil_of_le (show es.length≤i by omega),aB]
  have hc2:=c2 [2,4,6,8,9]
  have hc8:=c8 [2,4,6,8,9]
  have hc6:=k6c [2,4,6,8,9]
  refine ⟨?hh0,?_,?_,?_,?_,?_,?_⟩
  rotate_left
  ·simp only [akt,go_sem,↓reduceIte,aee,aei,g1,g4,g6,g9,g31,g32,g33,g40,g41,g42,k2,k4,k6,k8,k9,hc2,hc8,hc6,e1]
   rfl
  ·rfl
  ·rfl
  ·rfl
  ·rfl
  ·intro a a1 a2 a3 a4 a5
   simp only [jc,a1,a2,a3,a4,a5,if_false]
 | succ k ih =>
  intro i hi c oc s h g1 g4 g6 g9 g31 g32 g33 g40 g41 g42 k2 k4 k6 k8 k9
  have hlt:i < es.length:=by omega
  have hlt2:i < xs.length:=by omega
  have e1:((i:Int) < (es.length:Int))=True:=tt (by omega)
  have e2:bH (LT xs) (i:Int)=some (.ipt (aW xs[i])):=alr rfl (List.getElem?_eq_getElem hlt2)
  have e3:bH (aY es) (i:Int)=some (.ipt [I es[i]]):=qY rfl (List.getElem?_eq_getElem hlt)
  have e5:IntKind.i64.wrap ((i:Int)+1)=((i+1:Nat):Int):=wi (by omega) (by omega)
  have od:=ox xs[i] (List.getElem_mem hlt2)
  obtain ⟨r1,r2⟩:=hb es[i] (List.getElem_mem hlt)
  have ih':=ih (i+1) (by omega)
  rw [alm hlt hlt2,aB]
  generalize aU _ _ _=L at ih' ⊢
  generalize es[i]=e at e3 r1 r2 ⊢
  obtain ⟨n,rfl⟩:=Int.eq_ofNat_of_zero_le r1
  rw [Int.toNat_natCast]
  generalize xs[i]=x at e2 od ⊢
  have hm:=amq oc od (n:=n) (by omega)
  have hok:=akZ (x:=x) n c
  unfold aky at hm
  have hc2:=c2 [2,4,6,8,9]
  have hc8:=c8 [2,4,6,8,9]
  have hc6:=k6c [2,4,6,8,9]
  cases hT:akw x n c with
  | some d =>
   have oc2:=hok d oc hT
   rw [hT] at hm
   simp only [aF,aW] at hm e2
   rw [Option.bind_some]
   simp only [akt,go_sem,↓reduceIte,aee,aeg,aef,aeh,aej,aei,g1,g4,g6,g9,g31,g32,g33,g40,g41,g42,k2,k4,k6,k8,k9,hc2,hc8,hc6,e1,e2,e3,e5,hm]
   exact ih' d oc2 _ _ rfl rfl rfl rfl rfl rfl rfl rfl rfl rfl rfl rfl rfl rfl rfl
  | none =>
   rw [hT] at hm
   simp only [aF,aW,et] at hm e2
   refine ⟨?hh1,?_,?_⟩
   rotate_left
   ·simp only [akt,go_sem,↓reduceIte,aee,aeg,aef,aeh,aej,aei,g1,g4,g6,g9,g31,g32,g33,g40,g41,g42,k2,k4,k6,k8,k9,hc2,hc8,hc6,e1,e2,e3,hm]
    rfl
   ·rfl
theorem ank {es:List Int} {xs:List Rd} (ox:∀ d ∈ xs,Ok0 d) (hl:es.length=xs.length) (hb:∀ e ∈ es,0≤e∧e≤32) (h8:es.length≤1000) {o2 o8:Ob} (c2:∀ l,aA l o2=true) (c8:∀ l,aA l o8=true) {c6:List AV} (k6c:∀ l,c6.all (eH l)=true) {A:List Rt} {nA iA:Int} {c:Rd} (oc:Ok0 c) (s:af) (h:aa) (X:Option (Ex × St)) (hX:aI 2 [1,4,6,9,31,32,33] (aU (az R (ab false) akt) [1,4,6,9,31,32,33,40,41,42] [2,4,6,8,9] s h)=X)
  (g1:s 1=.sl 3 (LT xs)) (g4:s 4=.ref 4 none 0 0 0) (g6:s 6=.ref 6 none 0 0 0) (g9:s 9=.ref 9 none 0 0 0) (g31:s 31=.sl 4 (ax A)) (g32:s 32=I nA) (g33:s 33=I iA) (g40:s 40=.sl 1 (aY es)) (g41:s 41=I es.length) (g42:s 42=I 0) (k2:h 2=o2) (k4:h 4=.bx zb) (k6:h 6=.bx c6) (k8:h 8=o8) (k9:h 9=.bx [B c.neg,lm c.m,I c.e]) :
  EvI X (upd (upd (upd (upd (upd (upd (upd (fun _=>.any) 33 (I iA)) 32 (I nA)) 31 (.sl 4 (ax A))) 9 (.ref 9 none 0 0 0)) 6 (.ref 6 none 0 0 0)) 4 (.ref 4 none 0 0 0)) 1 (.sl 3 (LT xs))) o2 c6 (aks es xs c):=by
 subst hX
 exact amB ox hl hb h8 c2 c8 k6c es.length 0 (Nat.zero_add _) c oc s h g1 g4 g6 g9 g31 g32 g33 g40 g41 g42 k2 k4 k6 k8 k9
end Go.Ab
namespace Go.Ab
open Go Go.IntWalk
set_option maxRecDepth 4000
set_option maxHeartbeats 2000000
theorem alN:∀ {es:List Int} {xs:List Rd} {c d:Rd},Ok0 c→aks es xs c=some d→Ok0 d
 | e::es,x::xs,c,d,oc,h=>by
  unfold aks at h
  rw [Option.bind_eq_some_iff] at h
  obtain ⟨y,h1,h2⟩:=h
  exact alN (akZ _ c y oc h1) h2
 | [],_,c,d,oc,h=>by cases h; exact oc
 | _::_,[],c,d,oc,h=>by cases h; exact oc
def IsD (c:List AV) (q:Rd):Prop:=c=[B q.neg,lm q.m,I q.e]∨(c=zb∧q=et)
theorem IsD.cl {c:List AV} {q:Rd} (h:IsD c q) (l:List Nat):c.all (eH l)=true:=by
 rcases h with rfl | ⟨rfl,_⟩ <;> rfl
def EvO (X:Option (Ex × St)) (r:Rd × Int):Prop:=(r.2=0∧∃ hh c6,X=some (.normal,⟨upd (upd (fun _=>.any) 6 (.ref 6 none 0 0 0)) 4 (.ref 4 none 0 0 0),hh⟩)∧hh 4=.bx zb∧hh 6=.bx c6∧IsD c6 r.1) ∨
 (r=(et,9)∧∃ hh,X=some (.ret,⟨upd (upd (fun _=>.any) 5 (I 9)) 4 (.ref 4 none 0 0 0),hh⟩)∧hh 4=.bx zb)
theorem amC {v:Int} {A:List Rt} {xs:List Rd} (ox:∀ d ∈ xs,Ok0 d) (hx:(xs.length:Int)=v) (hA:∀ t ∈ A,VT v t) (hn:A.length≤100000) {o2:Ob} (c2:∀ l,aA l o2=true) :
  ∀ (k i:Nat),i+k=A.length→∀ (q:Rd),Ok0 q→∀ (c6:List AV),IsD c6 q→∀ (s:af) (h:aa),s 1=.sl 3 (LT xs)→s 4=.ref 4 none 0 0 0→s 6=.ref 6 none 0 0 0→s 31=.sl 4 (ax A)→s 32=I A.length→s 33=I i→h 2=o2→h 4=.bx zb→h 6=.bx c6 →
  EvO (aI 0 [4,6] (aU (az R (ab false) akz) [1,4,6,31,32,33] [2,4,6] s h)) (akC xs (A.drop i) q):=by
 intro k
 induction k with
 | zero =>
  intro i hi q oq c6 hq s h g1 g4 g6 g31 g32 g33 k2 k4 k6
  have e1:((i:Int) < (A.length:Int))=False:=ff (by omega)
  have hc2:=c2 [2,4,6]
  have hc6:=hq.cl [2,4,6]
  rw [List.drop_eq_nil_of_le (by omega),aB]
  refine .inl ⟨rfl,?hh0,c6,?_,?_,?_,hq⟩
  rotate_left
  ·simp only [akz,go_sem,↓reduceIte,aee,aei,g1,g4,g6,g31,g32,g33,k2,k4,k6,hc2,hc6,e1]
   rfl
  ·rfl
  ·rfl
 | succ k ih =>
  intro i hi q oq c6 hq s h g1 g4 g6 g31 g32 g33 k2 k4 k6
  have hlt:i < A.length:=by omega
  have e1:((i:Int) < (A.length:Int))=True:=tt (by omega)
  have e2:bH (ax A) (i:Int)=some (.ipt (bv A[i])):=jt rfl (List.getElem?_eq_getElem hlt)
  have e5:IntKind.i64.wrap ((i:Int)+1)=((i+1:Nat):Int):=wi (by omega) (by omega)
  have vt:=hA _ (List.getElem_mem hlt)
  have ih':=ih (i+1) (by omega)
  rw [List.drop_eq_getElem_cons hlt]
  generalize A[i]=t at e2 vt ⊢
  have hlen:=vt.len
  have hl1:=ank ox (es:=t.exps) (by omega) vt.b (by have:=vt.v8; omega) c2 (o8:=.bx [.sl 1 (aY t.exps),B t.c.neg,lm t.c.m,I t.c.e]) (fun _=>rfl) (fun l=>hq.cl l) (A:=A) (nA:=(A.length:Int)) (iA:=(i:Int)) vt.c
  have hok:=fun d=>alN (es:=t.exps) (xs:=xs) (c:=t.c) (d:=d) vt.c
  have hc2:=c2 [2,4,6]
  have hc6:=hq.cl [2,4,6]
  rw [aB]
  generalize aU _ _ _=L at ih' ⊢
  simp only [bv] at e2
  simp only [akz,go_sem,↓reduceIte,aee,aeg,aef,aeh,aei,g1,g4,g6,g31,g32,g33,k2,k4,k6,hc2,hc6,e1,e2]
  generalize hXX:aI 2 _ _=X
  have hM:=hl1 _ _ _ hXX rfl rfl rfl rfl rfl rfl rfl rfl rfl rfl rfl rfl rfl rfl rfl
  cases hr:aks t.exps xs t.c with
  | none =>
   rw [hr] at hM
   obtain ⟨hh,rfl,q4⟩:=hM
   rw [ak6 hr]
   refine .inr ⟨rfl,hh,?_,q4⟩
   simp only [go_sem]
  | some d =>
   rw [hr] at hM
   obtain ⟨hh,rfl,q2,q4,q6,q9,qd⟩:=hM
   rw [ak5 hr]
   have hadd:=Qr oq (hok d hr)
   have oadd:=(Qm q d).2
   have d1:hh 2512=.dead:=qd _ (by decide) (by decide) (by decide) (by decide) (by decide)
   have d2:hh 2513=.dead:=qd _ (by decide) (by decide) (by decide) (by decide) (by decide)
   have d3:hh 13=.dead:=qd _ (by decide) (by decide) (by decide) (by decide) (by decide)
   generalize iN q d=r at hadd oadd ⊢
   obtain ⟨r1,r2⟩:=r
   simp only [rV,aF,aW] at hadd
   by_cases h0:r2=0
   ·subst h0
    rw [if_pos rfl]
    rcases hq with rfl | ⟨rfl,rfl⟩
    ·simp only [go_sem,↓reduceIte,aee,aeg,aef,aeh,q4,q6,q9,d1,d2,d3,hadd,e5]
     refine ih' r1 oadd _ (.inl rfl) _ _ ?_ ?_ ?_ ?_ ?_ ?_ ?_ ?_ ?_
     all_goals first | rfl | assumption | (simp only [jc,aee,↓reduceIte,q2,q4]; done)
    ·simp only [et] at hadd
     simp only [go_sem,↓reduceIte,aee,aeg,aef,aeh,q4,q6,q9,d1,d2,d3,hadd,e5]
     refine ih' r1 oadd _ (.inl rfl) _ _ ?_ ?_ ?_ ?_ ?_ ?_ ?_ ?_ ?_
     all_goals first | rfl | assumption | (simp only [jc,aee,↓reduceIte,q2,q4]; done)
   ·rw [if_neg h0]
    have f1:(r2=0)=False:=ff h0
    rcases hq with rfl | ⟨rfl,rfl⟩
    ·refine .inr ⟨rfl,?hh1,?_,?_⟩
     rotate_left
     ·simp only [go_sem,↓reduceIte,aee,aeg,aef,aeh,q4,q6,q9,d1,d2,d3,hadd,f1]
      rfl
     ·rfl
    ·simp only [et] at hadd
     refine .inr ⟨rfl,?hh2,?_,?_⟩
     rotate_left
     ·simp only [go_sem,↓reduceIte,aee,aeg,aef,aeh,q4,q6,q9,d1,d2,d3,hadd,f1]
      rfl
     ·rfl
theorem anl {v:Int} {A:List Rt} {xs:List Rd} (ox:∀ d ∈ xs,Ok0 d) (hx:(xs.length:Int)=v) (hA:∀ t ∈ A,VT v t) (hn:A.length≤100000) {o2:Ob} (c2:∀ l,aA l o2=true) (s:af) (h:aa) (X:Option (Ex × St)) (hX:aI 0 [4,6] (aU (az R (ab false) akz) [1,4,6,31,32,33] [2,4,6] s h)=X)
  (g1:s 1=.sl 3 (LT xs)) (g4:s 4=.ref 4 none 0 0 0) (g6:s 6=.ref 6 none 0 0 0) (g31:s 31=.sl 4 (ax A)) (g32:s 32=I A.length) (g33:s 33=I 0) (k2:h 2=o2) (k4:h 4=.bx zb) (k6:h 6=.bx zb) :
  EvO X (akC xs A et):=by
 subst hX
 exact amC ox hx hA hn c2 A.length 0 (Nat.zero_add _) et Hf.2 zb (.inr ⟨rfl,rfl⟩) s h g1 g4 g6 g31 g32 g33 k2 k4 k6
theorem amD {a:Rp} {xs:List Rd} (oa:OkP a) (ox:∀ d ∈ xs,Ok0 d) (h2:xs.length≤100000):R F.poly_Eval [aZ a,ldA xs] []=some (rV (akW a xs),[]):=by
 refine aX alQ alP (aln false) rfl ?_
 have hv:=nQ oa
 have hc:=amA ox h2
 simp only [aZ] at hv
 unfold akW amx
 cases va:vp a with
 | false =>
  rw [va] at hv
  rw [Bool.false_and,if_neg Bool.false_ne_true]
  simp only [akv,akH,aZ,ldA,go_sem,↓reduceIte,aee,aeg,aef,aeh,hv]
  rfl
 | true =>
  rw [va] at hv
  by_cases hl:(xs.length:Int)=a.vars
  ·have e1:((xs.length:Int)=a.vars)=True:=eq_true hl
   rw [Bool.true_and,decide_eq_true hl,Bool.true_and]
   cases hav:xs.all vd with
   | false =>
    rw [hav] at hc
    rw [if_neg Bool.false_ne_true]
    simp only [akv,akH,aZ,ldA,go_sem,↓reduceIte,aee,aeg,aef,aeh,hv,e1,hc,Bool.not_false,Bool.not_true]
    rfl
   | true =>
    rw [hav] at hc
    rw [if_pos rfl]
    obtain ⟨ka,a0,a8,al⟩:=dH oa va
    have hlo:=anl ox hl ka.t (by omega) (o2:=.bx [I a.vars,.sl 4 (ax a.terms)]) (fun _=>rfl)
    simp only [akv,akH,aZ,ldA,go_sem,↓reduceIte,aee,aeg,aef,aeh,hv,e1,hc,Bool.not_true]
    generalize hX:aI 0 [4,6] _=X
    have hO:=hlo _ _ _ hX rfl rfl rfl rfl rfl rfl rfl rfl rfl
    generalize akC xs a.terms et=r at hO ⊢
    obtain ⟨r1,r2⟩:=r
    rcases hO with ⟨h0,hh,c6,rfl,q4,q6,hd⟩ | ⟨h0,hh,rfl,q4⟩
    ·have h0':r2=0:=h0
     subst h0'
     rcases hd with rfl | ⟨rfl,hr⟩
     ·simp only [rV,aF,aW,go_sem,↓reduceIte,aee,aeg,aef,aeh,q4,q6]
     ·have hr':r1=et:=hr
      subst hr'
      simp only [go_sem,↓reduceIte,aee,aeg,aef,aeh,q4,q6]
      rfl
    ·cases h0
     simp only [go_sem,↓reduceIte,aee,aeg,aef,aeh,q4]
     rfl
  ·have e1:((xs.length:Int)=a.vars)=False:=eq_false hl
   rw [Bool.true_and,decide_eq_false hl,Bool.false_and,if_neg Bool.false_ne_true]
   simp only [akv,akH,aZ,ldA,go_sem,↓reduceIte,aee,aeg,aef,aeh,hv,e1]
   rfl
end Go.Ab
namespace Go.Ab
open Go Go.IntWalk
set_option maxRecDepth 4000
set_option maxHeartbeats 2000000
theorem amE {a b:List Nat} (hl:a.length=b.length) (h2:a.length≤100000):∀ (k i:Nat),i+k=a.length→∀ (s:af) (h:aa),s 0=.sl 1 (aP a)→s 1=.sl 1 (aP b)→s 12=I a.length→s 13=I i →
  ∃ hh,aI 0 [] (aU (az R (ab false) adI) [0,1,12,13] [] s h)=if ae0 (a.drop i) (b.drop i)=true then some (.normal,⟨fun _=>.any,hh⟩) else some (.ret,⟨upd (fun _=>.any) 4 (B false),hh⟩):=by
 intro k
 induction k with
 | zero =>
  intro i hi s h g0 g1 g12 g13
  have e1:((i:Int) < a.length)=False:=ff (by omega)
  rw [List.drop_eq_nil_of_le (by omega),List.drop_eq_nil_of_le (by omega),aB]
  refine ⟨?hh0,?_⟩
  rotate_left
  ·simp only [adI,ae0,go_sem,↓reduceIte,aee,g0,g1,g12,g13,e1]
   rfl
 | succ k ih =>
  intro i hi s h g0 g1 g12 g13
  have hlt:i < a.length:=by omega
  have hlt2:i < b.length:=by omega
  have e1:((i:Int) < a.length)=True:=tt (by omega)
  have e2:bH (aP a) (i:Int)=some (.ipt [U (a.getD i 0:Nat)]):=de rfl hlt
  have e3:bH (aP b) (i:Int)=some (.ipt [U (b.getD i 0:Nat)]):=de rfl hlt2
  have v1:a.getD i 0=a[i]:=by simp [List.getD,hlt]
  have v2:b.getD i 0=b[i]:=by simp [List.getD,hlt2]
  rw [v1] at e2
  rw [v2] at e3
  have e5:IntKind.i64.wrap ((i:Int)+1)=((i+1:Nat):Int):=wi (by omega) (by omega)
  have ih':=ih (i+1) (by omega)
  rw [List.drop_eq_getElem_cons hlt,List.drop_eq_getElem_cons hlt2,aB]
  generalize a[i]=p at e2 ⊢
  generalize b[i]=q at e3 ⊢
  generalize aU _ _ _=L at ih' ⊢
  unfold ae0
  by_cases hpq:p=q
  ·have e4:((p:Int)=(q:Int))=True:=tt (by omega)
   rw [decide_eq_true hpq,Bool.true_and]
   simp only [adI,go_sem,↓reduceIte,aee,g0,g1,g12,g13,e1,e2,e3,e4,e5]
   exact ih' _ _ rfl rfl rfl rfl
  ·have e4:((p:Int)=(q:Int))=False:=ff (by omega)
   rw [decide_eq_false hpq,Bool.false_and]
   simp only [if_neg Bool.false_ne_true]
   refine ⟨?hh1,?_⟩
   rotate_left
   ·simp only [adI,go_sem,↓reduceIte,aee,g0,g1,g12,g13,e1,e2,e3,e4]
    rfl
theorem anm {a b:List Nat} (hl:a.length=b.length) (h2:a.length≤100000) (s:af) (h:aa) (X:Option (Ex × St)) (hX:aI 0 [] (aU (az R (ab false) adI) [0,1,12,13] [] s h)=X) (g0:s 0=.sl 1 (aP a)) (g1:s 1=.sl 1 (aP b)) (g12:s 12=I a.length) (g13:s 13=I 0) :
  ∃ hh,X=if ae0 a b=true then some (.normal,⟨fun _=>.any,hh⟩) else some (.ret,⟨upd (fun _=>.any) 4 (B false),hh⟩):=by
 subst hX
 exact amE hl h2 a.length 0 (Nat.zero_add _) s h g0 g1 g12 g13
theorem am7 {a b:List Nat} (h2:a.length≤100000):R F.slices_Equal_uint32_uint32_ [lm a,lm b] []=some (B (ae0 a b),[]):=by
 refine aX akR akQ (akL false) rfl ?_
 by_cases h3:a.length=b.length
 ·have e3:((a.length:Int)=(b.length:Int))=True:=tt (by omega)
  have hl:=anm (a:=a) (b:=b) h3 h2
  simp only [af3,ako,go_sem,↓reduceIte,aee,e3]
  generalize hX:aI 0 [] _=X
  obtain ⟨hh,rfl⟩:=hl _ _ _ hX rfl rfl rfl rfl
  cases ae0 a b with
  | true=>simp only [go_sem,↓reduceIte]
  | false=>simp only [go_sem,↓reduceIte]
 ·have e3:((a.length:Int)=(b.length:Int))=False:=ff (by omega)
  rw [agS h3]
  simp only [af3,ako,go_sem,↓reduceIte,aee,e3]
theorem amP {x:Rd} (hx:x.m.length≤100000):R F.l23_number [aF x,aF x] []=some (B true,[]):=by
 refine aX alF alE (alh false) rfl ?_
 have h:=am7 (a:=x.m) (b:=x.m) hx
 rw [ahq.2 rfl] at h
 have hb:(false != (x.neg == x.neg))=true:=by rw [beq_self_eq_true]; rfl
 simp only [akI,ak3,aF,aW,go_sem,↓reduceIte,aee,aeg,aef,h,hb]
def ags (d:Rd):Bool:=decide (4 < d.m.length)
theorem aio {d:Rd}:R F.l23_long_1 [.agg (aW d)] []=some (B (ags d),[]):=by
 refine aX agA agz (afN false) rfl ?_
 unfold ags
 have e:decide ((4:Int) < (d.m.length:Int))=decide (4 < d.m.length):=by rw [decide_eq_decide]; omega
 simp only [aeU,afo,aW,go_sem,↓reduceIte,aee,aeg,aef,e]
def agY (l:List Rd):Bool:=decide (20 < l.length) || l.any ags
theorem aiO {l:List Rd}:R F.l23_long [.sl 3 (LT l)] []=some (B (agY l),[]):=by
 refine aX ahu aht (af6 false) rfl ?_
 unfold agY
 by_cases h:20 < l.length
 ·have e1:(20 < (l.length:Int))=True:=tt (by omega)
  rw [decide_eq_true h,Bool.true_or]
  simp only [aeS,afj,go_sem,↓reduceIte,aee,e1]
 ·have e1:(20 < (l.length:Int))=False:=ff (by omega)
  have hc:=aiN (afp false) (agb false) (l:=l) (by omega) (p:=ags) (fun d _=>aio)
  rw [decide_eq_false h,Bool.false_or]
  simp only [aeS,afj,go_sem,↓reduceIte,aee,aeg,aef,e1,hc]
theorem alO {xs:List Rd}:∀ (l:List Rt) (s:Rd),vd s=true→Ok0 s→vd (akC xs l s).1=true∧Ok0 (akC xs l s).1
 | [],s,h1,h2=>⟨h1,h2⟩
 | t::l,s,h1,h2=>by
  cases hp:aks t.exps xs t.c with
  | none =>
   rw [ak6 hp]
   exact Hf
  | some d =>
   rw [ak5 hp]
   split
   ·exact alO l _ (Qm s d).1 (Qm s d).2
   ·exact Hf
theorem amr (a:Rp) (xs:List Rd):vd (akW a xs).1=true∧Ok0 (akW a xs).1:=by
 unfold akW
 split
 ·exact alO _ _ Hf.1 Hf.2
 ·exact Hf
theorem amQ {a:Rp} {xs:List Rd} (haw:R F.l23_awake [] []=some (B true,[])) (oa:∀ t ∈ a.terms,Ok0 t.c) (la:a.terms.length < 4611686018427387904) (ox:∀ d ∈ xs,Ok0 d) (lx:xs.length < 4611686018427387904) :
  R F.l23_PolyValues [aZ a,ldA xs] []=some (B true,[]):=by
 refine aX ala ak9 (ak2 false) rfl ?_
 have hg:=Ox (l:=[a]) (by simp) (fun x hx=>by simp at hx; subst hx; exact la)
 have hlo:=aiO (l:=xs)
 simp only [xy,Jh,List.map_cons,List.map_nil] at hg
 cases h:[a].any mO with
 | true =>
  rw [h] at hg
  simp only [akj,akB,aZ,ldA,go_sem,↓reduceIte,aee,aeg,aef,aeh,aej,haw,hg]
  done
 | false =>
  rw [h] at hg
  simp only [List.any_cons,List.any_nil,Bool.or_false] at h
  have ka:=Ag oa h
  cases h2:agY xs with
  | true =>
   rw [h2] at hlo
   simp only [akj,akB,aZ,ldA,go_sem,↓reduceIte,aee,aeg,aef,aeh,aej,haw,hg,hlo]
   done
  | false =>
   rw [h2] at hlo
   unfold agY at h2
   rw [Bool.or_eq_false_iff,decide_eq_false_iff_not] at h2
   have h1:=amD ka ox (by omega)
   have h3:=amp ka ox (by omega)
   obtain ⟨o1,o2⟩:=amr a xs
   have hn:=amP (x:=(akW a xs).1) (Nat.le_trans (xq o1 o2.lb) (by decide))
   generalize akW a xs=r at h1 h3 hn
   obtain ⟨r1,r2⟩:=r
   have e1:(r2=r2)=True:=eq_self r2
   simp only [rV,aZ,ldA,aF,aW] at h1 h3 hn
   simp only [akj,akB,aZ,ldA,go_sem,↓reduceIte,aee,aeg,aef,aeh,aej,haw,hg,hlo,h1,h3,hn]
   done
end Go.Ab
namespace Go.Ab
open Go Go.IntWalk
set_option maxRecDepth 4000
set_option maxHeartbeats 1000000
def sT:Env:=⟨fun f=>ER.lookup f,au.C,au.md⟩
noncomputable def R0:cT:=cR sT
theorem tY {f:FuncId} {fd:FD} {args:List AV} {hs:List Ob} {r:AV × List Ob} (hE:sT.E f=none) (hC:sT.C f=some fd) (hk:sT.md.keep f=false) (h1:args.length=fd.np) (h2:hs.length≤1000)
  (hz:rk false fd.rs fd.res hs.length (az R0 (ab false) fd.body (pf args) (ae hs))=some r):R0 f args hs=some r:=by
 refine wQ hE hC ?_
 unfold FX
 rw [if_pos ⟨h1,h2⟩,hk]
 exact hz
theorem oQ (o:Ob):ae [o]=upd (fun _=>.dead) 1000 o:=by
 funext i
 unfold ae upd
 by_cases h:i=1000
 ·subst h
  rfl
 ·rw [if_neg h]
  split
  ·rw [List.getElem?_eq_none (by simp; omega)]
   rfl
  ·rfl
theorem OD {r:List AV} {rs:List (List AV)} (h:(rs.length+1)*8≤140737488355328):R0 F.slices_Clone_int_int_ [.sl 1 (r::rs)] []=some (.osl 1 (r::rs),[]):=by
 refine tY (fd:=dX) (by kernel_rfl) (by kernel_rfl) (by kernel_rfl) rfl (by decide) ?_
 have e1:((rs.length+1)*8≤140737488355328)=True:=eq_true h
 have e2:xD false (.sl 1 (r::rs))=some (B false):=rfl
 simp only [dX,mh,go_sem,↓reduceIte,aee,aeh,aej,e1,e2,List.length_cons,List.length_nil,Nat.zero_add,Nat.zero_le,Nat.le_refl,true_and,true_or,List.nil_append]
theorem OE:dJ 4 .emp (some (I 0)) none none=some .emp:=rfl
theorem QK {r:List AV}:R0 F.slices_Insert_api_Term_api_Term_ [.emp,I 0,.sl 4 [r]] []=some (.osl 4 [r],[]):=by
 refine tY (fd:=aH) (by kernel_rfl) (by kernel_rfl) (by kernel_rfl) rfl (by decide) ?_
 have e1:((1:Int)=0)=False:=by decide
 simp only [aH,bD,go_sem,↓reduceIte,aee,aeg,aef,aeh,aej,OE,List.length_cons,List.length_nil,Int.natCast_one,e1,Nat.zero_add]
theorem pL {n i:Nat} (h:i≤n):hG n (some (I i)) none none=some (i,n):=by
 simp only [hG,gF,Option.bind_some]
 rw [if_pos ⟨by omega,by omega⟩]
 rfl
theorem Mq {id k l0 n i:Nat} (h:i≤n):dJ k (.rsl id none k l0 n) (some (I i)) none none=some (.rsl id none k (l0+i) (n - i)):=by
 simp only [dJ,if_true,pL h,Option.map_some,Option.isNone_none]
theorem CL {h:aa} {j k n:Nat} {rows:List (List AV)} (hj:aG j=false) (hh:h j=.ar k rows) (hn:n=rows.length) (hc:aA [1000] (h 1000)=true):n6 [[]] 1 h [.rsl j none k 0 n]=some (.osl k rows,[h 1000]):=by
 subst hn
 have hp:bS 1=[1000]:=rfl
 unfold n6
 rw [if_pos]
 ·simp [lP,ll,fX,hj,hh,qq,kP,aM,nrmV,nrmL,hp]
 ·simp [hp,hc,fm,bk,cP,hj]
theorem Mr {r:List AV} {rows:List (List AV)} {n:Nat} (hn:n=rows.length) (hb:(n+1)*64≤140737488355328):R0 F.slices_Insert_api_Term_api_Term_ [.rsl 1000 none 4 0 n,I n,.sl 4 [r]] [.ar 4 rows]=some (.osl 4 (rows++[r]),[.dead]):=by
 refine tY (fd:=aH) (by kernel_rfl) (by kernel_rfl) (by kernel_rfl) rfl (by simp) ?_
 subst hn
 rw [oQ]
 have e1:((1:Int)=0)=False:=by decide
 have e2:=Mq (id:=1000) (k:=4) (l0:=0) (Nat.le_refl rows.length)
 have e3:((rows.length+1)*64≤140737488355328)=True:=eq_true hb
 have e4:(rows.length+1≤rows.length)=False:=eq_false (by omega)
 have e5:∀ h,yL h 25 4 64 1000 4 0 rows.length [r] 4 rows=bO (upd h 1000 .dead) 25 4 (rows++[r]) (rows.length+1) [(1000,false)]:=fun h=>by
  simp only [yL,List.length_singleton]
  rw [if_neg (by omega),if_pos ⟨trivial,trivial,trivial,trivial,hb⟩]
 simp only [aH,bD,go_sem,↓reduceIte,aee,aeg,aef,aeh,aej,List.length_cons,List.length_nil,Int.natCast_one,e1,e2,e3,e4,e5,Nat.zero_add,Nat.add_zero,Nat.sub_self,or_self,Nat.le_refl,List.length_append]
 exact CL rfl rfl (by simp) rfl
theorem Sx {f:FuncId} {g:List AV→List Ob→Option (AV × List Ob)} {args:List AV} {hs:List Ob} (hE:sT.E f=some g):R0 f args hs=g args hs:=uK hE
theorem QL {h:aa} {d:Nat} {r:List AV} {rows:List (List AV)} {lo m:Nat} (hh:h 1000=.ar 4 rows) (hd:h (2000+8*d)=.dead) :
  ai R0 (ab false) h d [.sl 4 [r],.rsl 1000 none 4 lo m] (.fn F.slices_overlaps_api_Term_ [] [])=some (B false,upd h 1000 (.ar 4 rows),[(1000,true)]):=by
 have hm:(ab false).m F.slices_overlaps_api_Term_=[0,1]:=by kernel_rfl
 have hs:(ab false).sh F.slices_overlaps_api_Term_=[]:=by kernel_rfl
 have hk:(ab false).keep F.slices_overlaps_api_Term_=false:=by kernel_rfl
 have hf:R0 F.slices_overlaps_api_Term_ [.sl 4 [r],.rsl 1000 none 4 lo m] [.ar 4 rows]=some (B false,[.ar 4 rows]):=by
  rw [Sx (g:=II 4) (by kernel_rfl)]
  simp [II]
 have hb:jG (ab false) [.sl 4 [r],.rsl 1000 none 4 lo m] (.fn F.slices_overlaps_api_Term_ [] [])=false:=by
  simp [jG,hm]
 have hr:bJ h 40 [1000] 0=[1000]:=by
  simp [bJ,hh,uk,bo]
 have hn:cf (B false)=1:=rfl
 unfold ai
 rw [if_neg (by rw [hb]; exact Bool.false_ne_true)]
 have h1:ah h [0,1] [.sl 4 [r],.rsl 1000 none 4 lo m]=some ([.sl 4 [r],.rsl 1000 none 4 lo m],h,[]):=by
  simp [ah,bM,mE,du,ak]
 have h2:bo [] ([AV.sl 4 [r],.rsl 1000 none 4 lo m].flatMap bk)=[1000]:=by
  simp [bk,cP,bo]
 have h3:aV [1000] 1000=1000:=rfl
 simp only [dq,hm,List.nil_append,List.append_nil,h1,Option.bind_some,h2,hr,hs]
 simp [jF,aM,aJ,aO,hh,aA,cD,cQ,fV,h3,cC,hf,dZ,hn,cx,hd,cU,bf,mP,uq,kN,cP,ey,cZ,rh,cz,mat,bU,dC,hk,uo,hm]
theorem Du {id k l0 n i:Nat}:dJ k (.rsl id none k l0 n) (some (I i)) none none=(hG n (some (I i)) none none).map fun p=>.rsl id none k (l0+p.1) (p.2 - p.1):=by
 simp only [dJ,if_true,Option.isNone_none]
theorem Ms {n c i:Nat} (h:i≤c):gF n c (some (I i))=some i:=by
 simp only [gF]
 rw [if_pos ⟨by omega,by omega⟩]
 rfl
theorem QM {r:List AV} {rows:List (List AV)} {n i:Nat} (hn:n=rows.length) (hi:i < n) (hb:(n+1)*64≤140737488355328) :
  R0 F.slices_Insert_api_Term_api_Term_ [.rsc 1000 4 0 n n,I i,.sl 4 [r]] [.ar 4 rows]=some (.osl 4 (rows.take i++r::rows.drop i),[.ar 4 rows]):=by
 refine tY (fd:=aH) (by kernel_rfl) (by kernel_rfl) (by kernel_rfl) rfl (by simp) ?_
 rw [oQ]
 have e1:((1:Int)=0)=False:=by decide
 have e2:((i:Int)=(n:Int))=False:=eq_false (by omega)
 have e3:IntKind.i64.wrap ((n:Int)+1)=((n+1:Nat):Int):=wi (by omega) (by omega)
 have e4:((n:Int) < ((n+1:Nat):Int))=True:=eq_true (by omega)
 have e5:IntKind.i64.wrap (((n+1:Nat):Int) - (i:Int))=((n+1 - i:Nat):Int):=wi (by omega) (by omega)
 have e6:IntKind.i64.wrap ((i:Int)+1)=((i+1:Nat):Int):=wi (by omega) (by omega)
 have b1:=pL (n:=n) (i:=i) (by omega)
 have b2:=Ms (n:=n) (c:=n) (i:=i) (by omega)
 have b3:=pL (n:=n+1) (i:=i) (by omega)
 have b4:=pL (n:=n+1) (i:=i+1) (by omega)
 have f1:((0:Int) < ((n+1 - i:Nat):Int))=True:=eq_true (by omega)
 have f2:(n < i+((n+1 - i:Nat):Int).toNat)=True:=eq_true (by omega)
 have f3:i+((n+1 - i:Nat):Int).toNat=n+1:=by omega
 have f4:(i≤rows.length)=True:=eq_true (by omega)
 have f5:((n+1)*64≤140737488355328)=True:=eq_true hb
 have f6:(n < n+1)=True:=eq_true (by omega)
 obtain ⟨A,hA⟩:∃ A,rows.take i++List.replicate ((n+1 - i:Nat):Int).toNat [AV.emp,B false,AV.emp,I 0]=A:=⟨_,rfl⟩
 have a1:A.length=n+1:=by rw [← hA,List.length_append,List.length_take,List.length_replicate]; omega
 have a2:A.take i=rows.take i:=by
  rw [← hA,List.take_append_of_le_length (by rw [List.length_take]; omega),List.take_of_length_le (by rw [List.length_take]; omega)]
 have a3:(i≤A.length)=True:=eq_true (by omega)
 obtain ⟨D,hD⟩:∃ D,A.take i++[r]++A.drop (i+1)=D:=⟨_,rfl⟩
 have d1:D.length=n+1:=by
  rw [← hD,List.length_append,List.length_append,List.length_take,List.length_drop,List.length_singleton]
  omega
 have d2:D.take (i+1)=rows.take i++[r]:=by
  rw [← hD,a2,List.take_append_of_le_length (by rw [List.length_append,List.length_take,List.length_singleton]; omega),List.take_of_length_le (by rw [List.length_append,List.length_take,List.length_singleton]; omega)]
 have d3:(i+1≤D.length)=True:=eq_true (by omega)
 have t1:List.take (n+1 - i) [r]=[r]:=List.take_of_length_le (by rw [List.length_singleton]; omega)
 have t2:(rows.drop i).take (n - i)=rows.drop i:=List.take_of_length_le (by rw [List.length_drop]; omega)
 have t3:(1=min 1 (n+1 - i))=True:=eq_true (by omega)
 have t4:n+1 - (i+1)=n - i:=by omega
 have t5:(i+(n - i)≤rows.length)=True:=eq_true (by omega)
 have t6:(rows.drop i).length=n - i:=by rw [List.length_drop]; omega
 have t7:D.drop (i+1+(n - i))=[]:=List.drop_eq_nil_of_le (by omega)
 simp only [aH,bD,go_sem,↓reduceIte,aee,aeg,aef,aeh,aej,List.length_cons,List.length_nil,Int.natCast_one,e1,e2,e3,e4,e5,e6,b1,b2,b3,b4,f1,f2,f3,f4,f5,f6,hA,hD,a3,d3,t1,t2,t3,t4,t5,t6,t7,Nat.min_self,Nat.zero_add,Nat.add_zero,Nat.sub_self,or_self,Nat.le_refl,Du,and_self]
 rw [d2]
 have hfin:rows.take i++[r]++rows.drop i=rows.take i++r::rows.drop i:=by rw [List.append_assoc]; rfl
 rw [hfin]
 exact CL rfl rfl (by rw [List.length_append,List.length_take,List.length_cons,List.length_drop]; omega) rfl
theorem QN {r:List AV} {rows:List (List AV)} {n i c:Nat} (hn:n=rows.length) (hi:i < n) (hc:n+1≤c) (hb:(n+1)*64≤140737488355328) :
  R0 F.slices_Insert_api_Term_api_Term_ [.rsc 1000 4 0 n c,I i,.sl 4 [r]] [.ar 4 rows]=some (.osl 4 (rows.take i++r::rows.drop i),[.dead]):=by
 refine tY (fd:=aH) (by kernel_rfl) (by kernel_rfl) (by kernel_rfl) rfl (by simp) ?_
 rw [oQ]
 have e1:((1:Int)=0)=False:=by decide
 have e2:((i:Int)=(n:Int))=False:=eq_false (by omega)
 have e3:IntKind.i64.wrap ((n:Int)+1)=((n+1:Nat):Int):=wi (by omega) (by omega)
 have e4:((c:Int) < ((n+1:Nat):Int))=False:=eq_false (by omega)
 have e6:IntKind.i64.wrap ((i:Int)+1)=((i+1:Nat):Int):=wi (by omega) (by omega)
 have b1:=pL (n:=n) (i:=i) (by omega)
 have b2:=Ms (n:=n) (c:=c) (i:=n+1) hc
 have b3:=pL (n:=n+1) (i:=i) (by omega)
 have b4:=pL (n:=n+1) (i:=i+1) (by omega)
 have o1:=fun (h:aa) (h0:h 1000=.ar 4 rows) (h1:h (2000+8*67)=.dead)=>QL (r:=r) (lo:=i+1) (m:=n - i) h0 h1
 have t1:List.take (n+1 - i) [r]=[r]:=List.take_of_length_le (by rw [List.length_singleton]; omega)
 have t2:(rows.drop i).take (n - i)=rows.drop i:=List.take_of_length_le (by rw [List.length_drop]; omega)
 have t3:(1=min 1 (n+1 - i))=True:=eq_true (by omega)
 have t4:n+1 - (i+1)=n - i:=by omega
 have t5:(i+(n - i)≤rows.length)=True:=eq_true (by omega)
 have t6:(rows.drop i).length=n - i:=by rw [List.length_drop]; omega
 have t8:min (n - i) (n+1 - i)=n - i:=by omega
 have t9:(n - i=min (n+1 - i) (n - i))=True:=eq_true (by omega)
 have f4:(i+1≤rows.length)=True:=eq_true (by omega)
 have t7:rows.drop (i+1+(n - i))=[]:=List.drop_eq_nil_of_le (by omega)
 obtain ⟨A,hA⟩:∃ A,rows.take (i+1)++rows.drop i=A:=⟨_,rfl⟩
 have a1:A.length=n+1:=by
  rw [← hA,List.length_append,List.length_take,List.length_drop]
  omega
 have a2:A.take i=rows.take i:=by
  rw [← hA,List.take_append_of_le_length (by rw [List.length_take]; omega),List.take_take,Nat.min_eq_left (by omega)]
 have a4:A.drop (i+1)=rows.drop i:=by
  rw [← hA,List.drop_append_of_le_length (by rw [List.length_take]; omega),List.drop_eq_nil_of_le (by rw [List.length_take]; omega),List.nil_append]
 have a3:(i≤A.length)=True:=eq_true (by omega)
 simp only [aH,bD,go_sem,↓reduceIte,aee,aeg,aef,aeh,aej,List.length_cons,List.length_nil,Int.natCast_one,e1,e2,e3,e4,e6,b1,b2,b3,b4,t4,Nat.zero_add]
 rw [o1 _ rfl rfl]
 simp only [go_sem,↓reduceIte,aee,aeg,aef,aeh,aej,aei,List.length_cons,List.length_nil,Int.natCast_one,e1,e2,e3,e4,e6,b1,b2,b3,b4,t1,t2,t3,t4,t5,t6,t7,t8,t9,f4,a3,hA,Nat.zero_add,Nat.add_zero,Nat.sub_self,or_self,Nat.le_refl,Du,and_self]
 rw [a2,a4,show rows.take i++[r]++rows.drop i=rows.take i++r::rows.drop i by rw [List.append_assoc]; rfl]
 exact CL rfl rfl (by rw [List.length_append,List.length_take,List.length_cons,List.length_drop]; omega) rfl
def vQ (c1 c2:cT):Prop:=∀ f a hs r,c1 f a hs=some r→c2 f a hs=some r
section
variable {c1 c2:cT} {md:Mode}
theorem In (hc:vQ c1 c2) {h:aa} {d:Nat} {zas:List AV} {f:AV} {r:R3} (hz:dq c1 md h d zas f=some r):dq c2 md h d zas f=some r:=by
 cases f <;> simp only [dq] at hz ⊢ <;> try (cases hz; done)
 simp only [Option.bind_eq_some_iff] at hz ⊢
 obtain ⟨p,e1,e2⟩:=hz
 unfold jF at e2 ⊢
 split at e2
 ·rename_i hcc
  simp only [Option.bind_eq_some_iff] at e2
  obtain ⟨q,e3,e4⟩:=e2
  refine ⟨p,e1,?_⟩
  rw [if_pos hcc]
  simp only [Option.bind_eq_some_iff]
  exact ⟨q,hc _ _ _ _ e3,e4⟩
 ·cases e2
theorem BE (hc:vQ c1 c2) {h:aa} {d:Nat} {zas:List AV} {f:AV} {r:R3} (hz:ai c1 md h d zas f=some r):ai c2 md h d zas f=some r:=by
 unfold ai at hz ⊢
 split at hz
 ·rename_i hb
  rw [if_pos hb]
  cases f <;> simp only [Ar] at hz ⊢ <;> try (cases hz; done)
  simp only [Option.bind_eq_some_iff] at hz ⊢
  obtain ⟨p,e1,q,e3,e4⟩:=hz
  exact ⟨p,e1,q,hc _ _ _ _ e3,e4⟩
 ·rename_i hb
  rw [if_neg hb]
  exact In hc hz
theorem Dv (hc:vQ c1 c2) {d:Nat} {op:AOp} {s:af} {h:aa} {r:R3} (hz:step c1 md d op s h=some r):step c2 md d op s h=some r:=by
 cases op with
 | call f zas=>exact BE hc hz
 | callC f zas =>
  simp only [step,Option.bind_eq_some_iff] at hz ⊢
  obtain ⟨q,e1,e2⟩:=hz
  exact ⟨q,BE hc e1,e2⟩
 | _=>exact hz
theorem Dw (hc:vQ c1 c2) {d:Option Nat} {op:AOp} {s:af} {h:aa} {t:St} (hz:bK md.nm s d (step c1 md (d.getD 0) op s h)=some t):bK md.nm s d (step c2 md (d.getD 0) op s h)=some t:=by
 cases hs:step c1 md (d.getD 0) op s h with
 | none=>rw [hs] at hz; cases hz
 | some r =>
  rw [hs] at hz
  rw [Dv hc hs]
  exact hz
theorem KG (hc:vQ c1 c2) {o:COp} {s:af} {h:aa} {t:St} (hz:fW c1 md o s h=some t):fW c2 md o s h=some t:=by
 unfold fW at hz ⊢
 cases hg:o.g with
 | none=>rw [hg] at hz; exact Dw hc hz
 | some g =>
  rw [hg] at hz
  simp only at hz ⊢
  unfold fv at hz ⊢
  split at hz
  ·split at hz
   ·rename_i hb
    simp only [if_pos hb]
    exact Dw hc hz
   ·rename_i hb
    simp only [if_neg hb]
    exact hz
  ·exact hz
  ·cases hz
theorem rP (hc:vQ c1 c2):∀ {l:List COp} {s:af} {h:aa} {t:St},am c1 md l s h=some t→am c2 md l s h=some t
 | [],s,h,t,hz=>hz
 | o::l,s,h,t,hz=>by
  simp only [am,aK] at hz
  split at hz
  ·cases hz
  ·rename_i t1 ht1
   simp only [am,aK,KG hc ht1,rP hc hz]
theorem BF (hc:vQ c1 c2) {d:Option Nat} {op:AOp} {s:af} {h:aa} {f:aa→Fp} {t:St × Fp} (hz:fh s d f (step c1 md (d.getD 0) op s h)=some t):fh s d f (step c2 md (d.getD 0) op s h)=some t:=by
 cases hs:step c1 md (d.getD 0) op s h with
 | none=>rw [hs] at hz; cases hz
 | some r =>
  rw [hs] at hz
  rw [Dv hc hs]
  exact hz
theorem KH (hc:vQ c1 c2) {o:COp} {s:af} {h:aa} {t:St × Fp} (hz:cj c1 md o s h=some t):cj c2 md o s h=some t:=by
 unfold cj at hz ⊢
 cases hg:o.g with
 | none=>rw [hg] at hz; exact BF hc hz
 | some g =>
  rw [hg] at hz
  simp only at hz ⊢
  unfold jI at hz ⊢
  split at hz
  ·split at hz
   ·rename_i hb
    simp only [if_pos hb]
    exact BF hc hz
   ·rename_i hb
    simp only [if_neg hb]
    exact hz
  ·exact hz
  ·cases hz
theorem xz (hc:vQ c1 c2):∀ {l:List COp} {s:af} {h:aa} {t:St × List Fp},dA c1 md l s h=some t→dA c2 md l s h=some t
 | [],s,h,t,hz=>hz
 | o::l,s,h,t,hz=>by
  simp only [dA,Option.bind_eq_some_iff] at hz
  obtain ⟨r,e1,q,e2,e3⟩:=hz
  simp only [dA,KH hc e1,xz hc e2,Option.bind_some,e3]
theorem KI (hc:vQ c1 c2) {l:List COp} {ps:List (Nat × Nat)} {s:af} {h:aa} {t:St} (hz:jJ c1 md l ps s h=some t):jJ c2 md l ps s h=some t:=by
 unfold jJ at hz ⊢
 cases hb:pQ ps with
 | none =>
  rw [hb] at hz
  simp only [pW,Option.bind_eq_some_iff] at hz
  obtain ⟨q,e1,e2⟩:=hz
  simp only [pW,xz hc e1,Option.bind_some,e2]
 | some b =>
  rw [hb] at hz
  simp only [ur,Option.bind_eq_some_iff] at hz
  obtain ⟨q,e1,e2⟩:=hz
  split at e2
  ·rename_i hps
   simp only [aK] at e2
   split at e2
   ·cases e2
   ·rename_i t1 ht1
    simp only [ur,xz hc e1,Option.bind_some,if_pos hps,ht1,aK,rP hc e2]
  ·cases e2
theorem xA {b1 b2:af→aa→Option (Ex × St)} {ks hs:List Nat} (ih:∀ {s:af} {h:aa} {r:Ex × St},b1 s h=some r→b2 s h=some r) :
  ∀ (m:Nat) {j:Nat},m≤j→∀ {s:af} {h:aa} {r:Ex × St},kC b1 ks hs m s h=some r→kC b2 ks hs j s h=some r
 | 0,j,hj,s,h,r,hz=>by simp [kC] at hz
 | m+1,j,hj,s,h,r,hz=>by
  obtain ⟨j,rfl⟩:∃ j',j=j'+1:=⟨j - 1,by omega⟩
  simp only [kC] at hz ⊢
  split at hz
  ·rename_i hc
   rw [if_pos hc]
   cases hb:b1 (mk .any (fun i=>ez hs (s i)) ks) (mk .dead h hs) with
   | none=>rw [hb] at hz; cases hz
   | some q =>
    rw [hb] at hz
    rw [ih hb]
    obtain ⟨ex,t⟩:=q
    cases ex with
    | normal=>exact xA ih m (by omega) hz
    | exit id=>exact hz
    | ret=>exact hz
  ·cases hz
theorem eu (hc:vQ c1 c2) {lf lf':Nat} (hl:lf≤lf'):∀ (c:Cmd) {s:af} {h:aa} {r:Ex × St},bc c1 md lf c s h=some r→bc c2 md lf' c s h=some r
 | .skip,s,h,r,hz=>hz
 | .ops ks l,s,h,r,hz=>by
  simp only [bc,aK] at hz
  split at hz
  ·cases hz
  ·rename_i t1 ht1
   simp only [bc,rP hc ht1,aK]
   exact hz
 | .dops ks l ps,s,h,r,hz=>by
  simp only [bc,aK] at hz
  split at hz
  ·cases hz
  ·rename_i t1 ht1
   simp only [bc,KI hc ht1,aK]
   exact hz
 | .seq a b,s,h,r,hz=>by
  simp only [bc,dD] at hz
  split at hz
  ·cases hz
  ·rename_i t1 ht1
   simp only [bc,dD,eu hc hl a ht1,eu hc hl b hz]
  ·rename_i i t1 ht1
   simp only [bc,dD,eu hc hl a ht1]
   exact hz
  ·rename_i t1 ht1
   simp only [bc,dD,eu hc hl a ht1]
   exact hz
 | .cond c a b,s,h,r,hz=>by
  simp only [bc,jK] at hz
  split at hz
  ·rename_i t ht
   cases t with
   | true=>simp only [bc,jK,ht,if_true]; exact eu hc hl a hz
   | false=>simp only [bc,jK,ht,Bool.false_eq_true,if_false]; exact eu hc hl b hz
  ·cases hz
 | .block id ks a,s,h,r,hz=>by
  simp only [bc,aI] at hz
  split at hz
  ·cases hz
  ·rename_i t1 ht1
   simp only [bc,aI,eu hc hl a ht1]
   exact hz
  ·rename_i i t1 ht1
   simp only [bc,aI,eu hc hl a ht1]
   exact hz
  ·rename_i t1 ht1
   simp only [bc,aI,eu hc hl a ht1]
   exact hz
 | .loop ks hs a,s,h,r,hz=>by
  simp only [bc] at hz ⊢
  exact xA (fun hh=>eu hc hl a hh) lf hl hz
 | .exit id,s,h,r,hz=>hz
 | .ret,s,h,r,hz=>hz
 | .frz is a,s,h,r,hz=>by
  simp only [bc,aK] at hz
  split at hz
  ·cases hz
  ·rename_i t1 ht1
   simp only [bc,aK,ht1]
   exact eu hc hl a hz
end
abbrev Ah:=List (Nat × List AV × AV)
def HF:Ah→FuncId→List AV→Option AV
 | [],_,_=>none
 | x::l,f,args=>if x.1=f then (if wm x.2.1 args=true then some x.2.2 else HF l f args) else HF l f args
def Jl (a:Option AV) (hs:List Ob) (b:Option (AV × List Ob)):Option (AV × List Ob):=match a,hs with
 | some r,[]=>some (r,[])
 | _,_=>b
def CM (e:Env) (T:Ah):Nat→cT
 | 0=>fun _ _ _=>none
 | n+1=>fun f args hs=>Jl (HF T f args) hs (match e.E f with
  | some g=>g args hs
  | none=>(e.C f).bind fun fd=>wr (CM e T n) { e.md with nm:=e.md.keep f } n fd args hs)
theorem CN {e:Env}:∀ {T:Ah} {f:FuncId} {args:List AV} {r:AV},(∀ x ∈ T,cR e x.1 x.2.1 []=some (x.2.2,[]))→HF T f args=some r→cR e f args []=some (r,[])
 | [],f,args,r,_,h=>by cases h
 | x::l,f,args,r,ht,h=>by
  unfold HF at h
  split at h
  ·rename_i h1
   split at h
   ·rename_i h2
    cases h
    have:=ht x (by simp)
    rw [h1,n9 h2] at this
    exact this
   ·exact CN (fun y hy=>ht y (by simp [hy])) h
  ·exact CN (fun y hy=>ht y (by simp [hy])) h
theorem ky {call:cT} {md:Mode} {lf:Nat}:∀ (c:Cmd) {s:af} {h:aa} {r:Ex × St},bc call md lf c s h=some r→az call md c s h=some r
 | .skip,s,h,r,hz=>hz
 | .ops ks l,s,h,r,hz=>hz
 | .dops ks l ps,s,h,r,hz=>hz
 | .seq a b,s,h,r,hz=>by
  simp only [bc,dD] at hz
  split at hz
  ·cases hz
  ·rename_i t1 ht1
   simp only [az,dD,ky a ht1,ky b hz]
  ·rename_i i t1 ht1
   simp only [az,dD,ky a ht1]
   exact hz
  ·rename_i t1 ht1
   simp only [az,dD,ky a ht1]
   exact hz
 | .cond c a b,s,h,r,hz=>by
  simp only [bc,jK] at hz
  split at hz
  ·rename_i t ht
   cases t with
   | true=>simp only [az,jK,ht,if_true]; exact ky a hz
   | false=>simp only [az,jK,ht,Bool.false_eq_true,if_false]; exact ky b hz
  ·cases hz
 | .block id ks a,s,h,r,hz=>by
  simp only [bc,aI] at hz
  split at hz
  ·cases hz
  ·rename_i t1 ht1
   simp only [az,aI,ky a ht1]
   exact hz
  ·rename_i i t1 ht1
   simp only [az,aI,ky a ht1]
   exact hz
  ·rename_i t1 ht1
   simp only [az,aI,ky a ht1]
   exact hz
 | .loop ks hs a,s,h,r,hz=>by
  simp only [bc] at hz
  simp only [az,aU]
  rw [iK]
  exact ⟨lf,fun k hk=>xA (fun hh=>ky a hh) lf hk hz⟩
 | .exit id,s,h,r,hz=>hz
 | .ret,s,h,r,hz=>hz
 | .frz is a,s,h,r,hz=>by
  simp only [bc,aK] at hz
  split at hz
  ·cases hz
  ·rename_i t1 ht1
   simp only [az,aK,ht1]
   exact ky a hz
theorem Jm {e:Env} {T:Ah} (ht:∀ x ∈ T,cR e x.1 x.2.1 []=some (x.2.2,[])):∀ n,vQ (CM e T n) (cR e)
 | 0=>fun f a hs r hz=>by cases hz
 | n+1=>fun f a hs r hz=>by
  have old:(match e.E f with | some g=>g a hs | none=>(e.C f).bind fun fd=>wr (CM e T n) { e.md with nm:=e.md.keep f } n fd a hs)=some r→cR e f a hs=some r:=by
   intro hz
   split at hz
   ·rename_i g hE
    rw [uK hE]
    exact hz
   ·rename_i hE
    simp only [Option.bind_eq_some_iff] at hz
    obtain ⟨fd,hC,hz⟩:=hz
    refine wQ hE hC ?_
    unfold wr at hz
    unfold FX
    split at hz
    ·rename_i hcc
     rw [if_pos hcc]
     cases hx:bc (CM e T n) { e.md with nm:=e.md.keep f } n fd.body (pf a) (ae hs) with
     | none=>rw [hx] at hz; cases hz
     | some q =>
      rw [hx] at hz
      rw [ky fd.body (eu (Jm ht n) (Nat.le_refl n) fd.body hx)]
      exact hz
    ·cases hz
  unfold CM at hz
  unfold Jl at hz
  split at hz
  ·rename_i r' hl
   cases hz
   exact CN ht hl
  ·exact old hz
theorem bL {e:Env}:∀ x ∈ ([]:Ah),cR e x.1 x.2.1 []=some (x.2.2,[]):=fun _ h=>by cases h
theorem cw {e:Env} {x:Nat × List AV × AV} {T:Ah} (h1:cR e x.1 x.2.1 []=some (x.2.2,[])) (h2:∀ x ∈ T,cR e x.1 x.2.1 []=some (x.2.2,[])):∀ y ∈ x::T,cR e y.1 y.2.1 []=some (y.2.2,[]):=fun y hy=>by
 rcases List.mem_cons.1 hy with rfl | hy
 ·exact h1
 ·exact h2 y hy
theorem gX {e:Env} (T:Ah) (n:Nat) (x:Nat × List AV × AV) (ht:∀ x ∈ T,cR e x.1 x.2.1 []=some (x.2.2,[])) (h:CM e T n x.1 x.2.1 []=some (x.2.2,[])):cR e x.1 x.2.1 []=some (x.2.2,[]):=Jm ht n _ _ _ _ h
end Go.Ab
namespace Go.Ab
open Go Go.Proofs Go.Shelf
def Pr:Ren:=⟨fun | 28=>143 | n=>n,fun | 25=>111 | 27=>77 | 53=>167 | n=>n,fun n=>n⟩
theorem Mt:Lays7.n28 Tryz.prog Pr where
 mixed:=by kernel_rfl
 f28:=by kernel_rfl
 t0:=by kernel_rfl
 a0:=Tryz.isAgg0
 z0:=Tryz.sizeOf0
 v0:=Tryz.zeroValue0
 i0:=by kernel_rfl
 t3:=by kernel_rfl
 a3:=Tryz.isAgg3
 z3:=Tryz.sizeOf3
 v3:=Tryz.zeroValue3
 i3:=by kernel_rfl
 t4:=by kernel_rfl
 a4:=Tryz.isAgg4
 z4:=Tryz.sizeOf4
 v4:=Tryz.zeroValue4
 i4:=by kernel_rfl
 t5:=by kernel_rfl
 a5:=Tryz.isAgg5
 z5:=Tryz.sizeOf5
 v5:=Tryz.zeroValue5
 i5:=by kernel_rfl
 t25:=by kernel_rfl
 a25:=Tryz.isAgg111
 z25:=Tryz.sizeOf111
 v25:=Tryz.zeroValue111
 i25:=by kernel_rfl
 t27:=by kernel_rfl
 a27:=Tryz.isAgg77
 z27:=Tryz.sizeOf77
 v27:=Tryz.zeroValue77
 i27:=by kernel_rfl
 t53:=by kernel_rfl
 a53:=Tryz.isAgg167
 z53:=Tryz.sizeOf167
 v53:=Tryz.zeroValue167
 i53:=by kernel_rfl
 g0:=by kernel_rfl
def vj:Inv where
 p w X:=X 0∧TabAt 0 Lib.deBruijn32tab w
 stab:=fun {w w' X} h hs=>⟨h.1,fun j hj=>by rw [ip (hs 0 h.1)]; exact h.2 j hj⟩
 more:=fun h hx=>⟨hx 0 h.1,h.2⟩
theorem Jn:∀ (k x:Nat),Lib.ctzFrom k x=Dg k x
 | 0,x=>rfl
 | k+1,x=>by
  unfold Lib.ctzFrom Dg
  rw [Jn k (x / 2),Nat.add_comm]
set_option maxRecDepth 100000 in
theorem Ps:fj Tryz.prog vj false F.bits_TrailingZeros32 OW:=by
 intro args obs obs' res w X ρ vals n hz hn hi hr hs hv
 unfold OW at hz
 split at hz
 ·rename_i x
  by_cases hc:0 < x∧x < 4294967296∧obs=[]
  ·rw [if_pos hc] at hz
   obtain ⟨h0,h1,rfl⟩:=hc
   simp only [Option.some.injEq,Prod.mk.injEq] at hz
   obtain ⟨rfl,rfl⟩:=hz
   have hv0:=hv 0 (.v (.int .u32 x)) (vals.getD 0 undef) rfl (by simp at hs; simp [Array.getD_eq_getD_getElem?,hs])
   have e0:vals=#[.int .u32 x]:=by
    simp only [List.length_cons,List.length_nil] at hs
    have:=hv0.v_inv.1
    apply Array.ext
    ·simpa using hs
    ·intro i h2 h3
     have:i=0:=by simp at h3; exact h3
     subst this
     simpa [Array.getD_eq_getD_getElem?,hs] using this
   subst e0
   obtain ⟨m,rfl⟩:∃ m:Nat,x=m:=⟨x.toNat,by omega⟩
   have key:=Any7.bits_TrailingZeros32 Mt m (by omega) w fun _=>hi.2
   have he:(callFunc F.bits_TrailingZeros32 #[.int .u32 (m:Int)]).run Tryz.prog w=.ok (.enter F.bits_TrailingZeros32 #[.int .u32 (m:Int)]) w:=(enters_of (Mt.f28) (by kernel_rfl) rfl:Proofs.Enters Tryz.prog (Pr.f 28)) _ _
   unfold Enters
   rw [he]
   refine Calls.mono key fun e w' hw=>?_
   obtain ⟨rfl,rfl⟩:=hw
   refine ⟨ρ,hr,.refl _ _ _ _,?_⟩
   refine .dat ?_
   have:Lib.ctz 32 m=Dg 32 m:=by
    unfold Lib.ctz
    rw [if_neg (by omega),Jn]
   simp only [this,Int.toNat_natCast,mat,bU]
   exact .v _ rfl
  ·rw [if_neg hc] at hz
   cases hz
 ·cases hz
end Go.Ab
namespace Go.Ab
open Go Go.Proofs Go.ChangeShapes Go.WideShapes Go.Deep Go.RowKit
set_option maxRecDepth 100000
section
variable {H:Type} {enc:TypeId × Value→H} {w:World}
def BG (w:World) (b:Nat):Prop:=b < w.heap.size∧b ≠ 0
def xB (w:World):Prop:=∀ o v,w.cell? ⟨0,o,none⟩=some v→∃ n,v=.int .u8 n
def sU (u:Value):Prop:=∀ n,u ≠ .int .u8 n
theorem Sy (ht:xB w) {a:Addr} {u:Value} (h:w.cell? a=some u) (hn:sU u):BG w a.block∧a.spot=none:=by
 have h1:a.spot=none:=by
  unfold World.cell? at h
  split at h
  ·split at h
   ·cases h
   ·rename_i hs
    simpa using hs
  ·cases h
 refine ⟨⟨?_,fun h0=>?_⟩,h1⟩
 ·unfold World.cell? at h
  split at h
  ·rename_i hb
   exact (Array.getElem?_eq_some_iff.1 hb).1
  ·cases h
 ·obtain ⟨b,o,s⟩:=a
  simp only at h0 h1
  subst h0 h1
  obtain ⟨n,hv⟩:=ht o u h
  exact hn n hv
def lK (w:World) (fs:List AV) (cs:List Value):Prop :=
 fs.length=cs.length∧∀ (j:Nat) (c:AV) (u:Value),fs[j]?=some c→cs[j]?=some u→RD w (BG w) c u∧ak c=true∧u.oneCell'=true
theorem lK.app {fa fb:List AV} {ca cb:List Value} (ha:lK w fa ca) (hb:lK w fb cb):lK w (fa++fb) (ca++cb):=by
 refine ⟨by simp [ha.1,hb.1],fun j c u h1 h2=>?_⟩
 by_cases hj:j < fa.length
 ·rw [List.getElem?_append_left hj] at h1
  rw [List.getElem?_append_left (by rw [← ha.1]; exact hj)] at h2
  exact ha.2 j c u h1 h2
 ·rw [List.getElem?_append_right (by omega)] at h1
  rw [List.getElem?_append_right (by rw [← ha.1]; omega),← ha.1] at h2
  exact hb.2 _ c u h1 h2
theorem lK.one {c:AV} {u:Value} (h:RD w (BG w) c u) (hd:ak c=true) (h1:u.oneCell'=true):lK w [c] [u]:=by
 refine ⟨rfl,fun j c' u' hc hu=>?_⟩
 cases j with
 | zero=>simp at hc hu; subst hc hu; exact ⟨h,hd,h1⟩
 | succ j=>simp at hc
noncomputable abbrev Tr (w:World) (enc:TypeId × Value→H) (n:Nat) (t:TypeId) (cs:List Value):Option (DataW H × List MemPlace):=DataW.trod enc Tryz.prog w 0 (fun _=>true) true n t cs
def qp (t:TypeId) (d:DataW H):Prop:=∀ m ∈ DataW.weights Tryz.prog t d,m≤reachBytes
theorem Sz {e:TypeId}:∀ {l:List (DataW H)} {d:DataW H} {m:Nat},d ∈ l→m ∈ DataW.weights Tryz.prog e d→m ∈ DataW.weightsAll Tryz.prog e l
 | [],d,m,h,_=>by simp at h
 | a::l,d,m,h,hm=>by
  simp only [DataW.weightsAll,List.mem_append]
  rcases List.mem_cons.1 h with rfl | h
  ·exact .inl hm
  ·exact .inr (Sz h hm)
theorem Jo {α:Type} {p:Nat→α→Prop}:∀ (n:Nat),(∀ i,i < n→∃ r,p i r)→∃ l:List α,l.length=n∧∀ (i:Nat) (r:α),l[i]?=some r→p i r
 | 0,_=>⟨[],rfl,fun i r h=>by simp at h⟩
 | n+1,h=>by
  obtain ⟨l,h1,h2⟩:=Jo n fun i hi=>h i (by omega)
  obtain ⟨r,hr⟩:=h n (by omega)
  refine ⟨l++[r],by simp [h1],fun i r' hi=>?_⟩
  by_cases hin:i < n
  ·rw [List.getElem?_append_left (by omega)] at hi
   exact h2 i r' hi
  ·rw [List.getElem?_append_right (by omega)] at hi
   have:i=n:=by
    have:=(List.getElem?_eq_some_iff.1 hi).1
    simp at this
    omega
   subst this
   simp [h1] at hi
   subst hi
   exact hr
theorem CO {α:Type} {t e:TypeId} {k bs:Nat} (ht:Tryz.prog.underlying t=some (.slice e)) (hk:Tryz.prog.cellsOf e=k) (h0:0 < k) (hbs:Tryz.prog.bytesOf e=bs) (F:α→List AV) (Q:α→Prop) (hT:xB w)
  (hrow:∀ n cs' x,Tr w enc n e cs'=some x→qp e x.1→∃ r,Q r∧lK w (F r) cs'∧∃ u,cs'[0]?=some u∧sU u) {fuel:Nat} {cs:List Value} {x:DataW H × List MemPlace}
  (h:Tr w enc fuel t cs=some x) (hw:qp t x.1):∃ (l:List α) (v:Value),cs=[v]∧(∀ r ∈ l,Q r)∧l.length*bs≤reachBytes∧RD w (BG w) (.sl k (l.map F)) v∧v.oneCell'=true∧sU v:=by
 rcases open_slice ht h with ⟨rfl,_⟩ | ⟨a,len,cap,m,n,D,Pl,rfl,hb,hl,hm,hmm,rfl,hx⟩
 ·exact ⟨[],_,rfl,fun r hr=>by simp at hr,by simp,.sl k [] none 0 ⟨0,0,none⟩ (fun _ _=>undef) (by simp) (fun h=>absurd rfl h) (fun r hr=>by simp at hr) (fun i r j c hr=>by simp at hr) (fun r hr=>by simp at hr) (fun i r j c hr=>by simp at hr),rfl,fun n e=>by cases e⟩
 ·have hlm:len≤m:=by rw [hmm]; split <;> omega
  have hwe:∀ i,i < len→qp e (D i):=fun i hi q hq=>by
   refine hw q ?_
   simp only [DataW.weights,ht,List.mem_cons,List.mem_append]
   exact .inr (.inl (Sz (List.mem_map.2 ⟨i,List.mem_range.2 hi,rfl⟩) hq))
  have hbn:len*bs≤reachBytes:=by
   have:=hw ((((List.range len).map D).length+((List.range (m - len)).map fun j=>D (len+j)).length)*Tryz.prog.bytesOf e) (by simp [DataW.weights,ht])
   simp only [List.length_map,List.length_range,hbs] at this
   exact Nat.le_trans (Nat.mul_le_mul_right _ (by omega)) this
  obtain ⟨l,l1,l2⟩:=Jo (p:=fun i r=>Q r∧∃ cs',w.cells? 0 (a.add (i*k)) k=some cs'∧lK w (F r) cs'∧∃ u,cs'[0]?=some u∧sU u) len fun i hi=>by
   obtain ⟨cs',h1,h2⟩:=hx i (by omega)
   obtain ⟨r,g1,g2,g3⟩:=hrow _ _ _ h2 (hwe i hi)
   rw [hk] at h1
   exact ⟨r,g1,cs',h1,g2,g3⟩
  have cell:∀ (i:Nat) (row:List AV) (j:Nat) (c:AV),(l.map F)[i]?=some row→row[j]?=some c→∃ u,w.cell? (a.add (i*k+j))=some u∧RD w (BG w) c u∧ak c=true:=fun i row j c hi hj=>by
   simp only [List.getElem?_map,Option.map_eq_some_iff] at hi
   obtain ⟨r,hr,rfl⟩:=hi
   obtain ⟨_,cs',c1,c2,_⟩:=l2 i r hr
   obtain ⟨_,c3,c4⟩:=World.cells?_some c1
   have hjk:j < k:=by
    have:=(List.getElem?_eq_some_iff.1 hj).1
    rw [c2.1,c3] at this
    exact this
   have:=c4 j hjk
   rw [rl] at this
   obtain ⟨u,hu⟩:∃ u,cs'[j]?=some u:=⟨cs'[j]'(by omega),by simp⟩
   exact ⟨u,by rw [this,hu],(c2.2 j c u hj hu).1,(c2.2 j c u hj hu).2.1⟩
  refine ⟨l,_,rfl,fun r hr=>?_,by rw [l1]; exact hbn,?_,rfl,fun n e=>by cases e⟩
  ·obtain ⟨i,hi⟩:=List.getElem?_of_mem hr
   exact (l2 i r hi).1
  ·have:=RD.sl (w:=w) (A:=BG w) k (l.map F) (some a) cap a (fun i j=>(w.cell? (a.add (i*k+j))).getD undef) (by simp [l1,hl]) (fun hne=>?_) (fun row hr=>?_) (fun i row j c hi hj=>?_) (fun row hr c hc=>?_) (fun i row j c hi hj=>?_)
   ·simpa [l1] using this
   ·have hlen:0 < l.length:=List.length_pos_iff.2 fun e=>hne (by simp [e])
    obtain ⟨_,cs',c1,c2,u,c3,c4⟩:=l2 0 l[0] (by simp)
    have:=(World.cells?_some c1).2.2 0 h0
    rw [c3,Nat.zero_mul,rY,rY] at this
    obtain ⟨q1,q2⟩:=Sy hT this c4
    exact ⟨rfl,q1,q2⟩
   ·simp only [List.mem_map] at hr
    obtain ⟨r,hr,rfl⟩:=hr
    obtain ⟨i,hi⟩:=List.getElem?_of_mem hr
    obtain ⟨_,cs',c1,c2,_⟩:=l2 i r hi
    rw [c2.1]
    exact (World.cells?_some c1).2.1
   ·obtain ⟨u,q1,_⟩:=cell i row j c hi hj
    rw [q1]; rfl
   ·obtain ⟨i,hi⟩:=List.getElem?_of_mem hr
    obtain ⟨j,hj⟩:=List.getElem?_of_mem hc
    obtain ⟨u,_,_,q⟩:=cell i row j c hi hj
    exact q
   ·obtain ⟨u,q1,q2,_⟩:=cell i row j c hi hj
    rw [q1]; exact q2
theorem QO {n:Nat} {cs:List Value} {x:DataW H × List MemPlace} (h:Tr w enc n 77 cs=some x) (_:qp 77 x.1):∃ r:Nat,r < 4294967296∧lK w [U (r:Int)] cs∧∃ u,cs[0]?=some u∧sU u:=by
 obtain ⟨z,rfl,rfl,hw⟩:=DataW.trod_int Tryz.underlying77 h
 simp only [Lit.wf,Bool.and_eq_true,decide_eq_true_eq] at hw
 have h1:(0:Int)≤z:=hw.1
 have h2:z≤4294967295:=hw.2
 obtain ⟨m,rfl⟩:∃ m:Nat,z=m:=⟨z.toNat,by omega⟩
 exact ⟨m,by omega,.one (.v _ rfl) rfl rfl,_,rfl,fun n e=>by cases e⟩
theorem QP {n:Nat} {cs:List Value} {x:DataW H × List MemPlace} (h:Tr w enc n 3 cs=some x) (_:qp 3 x.1):∃ r:Int,True∧lK w [I r] cs∧∃ u,cs[0]?=some u∧sU u:=by
 obtain ⟨z,rfl,rfl,hw⟩:=DataW.trod_int Tryz.underlying3 h
 exact ⟨z,trivial,.one (.v _ rfl) rfl rfl,_,rfl,fun n e=>by cases e⟩
theorem Mu (hT:xB w) {n:Nat} {cs:List Value} {x:DataW H × List MemPlace} (h:Tr w enc n 25 cs=some x) (hw:qp 25 x.1):∃ m:List Nat,(Lb m∧m.length < 4611686018427387904)∧lK w [lm m] cs∧∃ u,cs[0]?=some u∧sU u:=by
 obtain ⟨l,v,rfl,h1,h2,h3,h4,h5⟩:=CO (k:=1) (bs:=4) Tryz.underlying25 (by kernel_rfl) (by decide) (by kernel_rfl) (fun (r:Nat)=>[U (r:Int)]) (fun r=>r < 4294967296) hT (fun n cs' x=>QO) h hw
 refine ⟨l,⟨h1,?_⟩,.one h3 rfl h4,_,rfl,h5⟩
 unfold reachBytes at h2
 omega
theorem OF (hT:xB w) {n:Nat} {cs:List Value} {x:DataW H × List MemPlace} (h:Tr w enc n 60 cs=some x) (hw:qp 60 x.1):∃ m:List Int,True∧lK w [.sl 1 (aY m)] cs∧∃ u,cs[0]?=some u∧sU u:=by
 obtain ⟨l,v,rfl,h1,h2,h3,h4,h5⟩:=CO (k:=1) (bs:=8) Tryz.underlying60 (by kernel_rfl) (by decide) (by kernel_rfl) (fun (r:Int)=>[I r]) (fun r=>True) hT (fun n cs' x=>QP) h hw
 exact ⟨l,trivial,.one h3 rfl h4,_,rfl,h5⟩
theorem SA (hT:xB w) {n:Nat} {cs:List Value} {x:DataW H × List MemPlace} (h:Tr w enc n 27 cs=some x) (hw:qp 27 x.1):∃ d:Rd,Ok0 d∧lK w (aW d) cs∧∃ u,cs[0]?=some u∧sU u:=by
 obtain ⟨y0,y1,y2,m,rfl,hl,h0,h1,h2⟩:=trod_struct3 Tryz.underlying27 h
 have hl3:cs.length=3:=hl.trans (by kernel_rfl)
 match cs,hl3 with
 | [a,b,c],_ =>
  have k0:Tr w enc m 4 [a]=some y0:=h0
  have k1:Tr w enc m 25 [b]=some y1:=h1
  have k2:Tr w enc m 3 [c]=some y2:=h2
  have w1:qp 25 y1.1:=fun q hq=>hw q (by simp [DataW.weights,DataW.weightsEach,Tryz.underlying27]; exact .inr (.inl hq))
  obtain ⟨bb,e0,e1⟩:=DataW.trod_bool Tryz.underlying4 k0
  simp only [List.cons.injEq,and_true] at e0
  subst e0
  obtain ⟨l,⟨q1,q2⟩,q3,_⟩:=Mu hT k1 w1
  obtain ⟨z,e2,e3,_⟩:=DataW.trod_int Tryz.underlying3 k2
  simp only [List.cons.injEq,and_true] at e2
  subst e2
  exact ⟨⟨bb,l,z⟩,⟨q1,q2⟩,(lK.one (.v _ rfl) rfl rfl).app (q3.app (.one (.v _ rfl) rfl rfl)),_,rfl,fun n e=>by cases e⟩
theorem OG (hT:xB w) {n:Nat} {cs:List Value} {x:DataW H × List MemPlace} (h:Tr w enc n 62 cs=some x) (hw:qp 62 x.1):∃ d:Rt,Ok0 d.c∧lK w (bv d) cs∧∃ u,cs[0]?=some u∧sU u:=by
 obtain ⟨y0,y1,m,rfl,hl,h0,h1⟩:=trod_struct2 Tryz.underlying62 h
 have hl3:cs.length=4:=hl.trans (by kernel_rfl)
 match cs,hl3 with
 | [a,b,c,d],_ =>
  have k0:Tr w enc m 60 [a]=some y0:=h0
  have k1:Tr w enc m 27 [b,c,d]=some y1:=h1
  have w0:qp 60 y0.1:=fun q hq=>hw q (by simp [DataW.weights,DataW.weightsEach,Tryz.underlying62]; exact .inl hq)
  have w1:qp 27 y1.1:=fun q hq=>hw q (by simp [DataW.weights,DataW.weightsEach,Tryz.underlying62]; exact .inr hq)
  obtain ⟨l,_,q3,q4⟩:=OF hT k0 w0
  obtain ⟨d,d1,d2,_⟩:=SA hT k1 w1
  exact ⟨⟨l,d⟩,d1,q3.app d2,q4⟩
theorem Ai (hT:xB w) {n:Nat} {us:Array Value} {x:DataW H × List MemPlace} (h:Tr w enc n 24 us.toList=some x) (hw:qp 24 x.1):∃ a:Rp,((∀ t ∈ a.terms,Ok0 t.c)∧a.terms.length < 4611686018427387904)∧RD w (BG w) (aZ a) (.agg us):=by
 obtain ⟨y0,y1,m,rfl,hl,h0,h1⟩:=trod_struct2 Tryz.underlying24 h
 have hl3:us.toList.length=2:=hl.trans (by kernel_rfl)
 obtain ⟨cs⟩:=us
 simp only at hl3 h0 h1
 match cs,hl3 with
 | [a,b],_ =>
  have k0:Tr w enc m 3 [a]=some y0:=h0
  have k1:Tr w enc m 22 [b]=some y1:=h1
  have w1:qp 22 y1.1:=fun q hq=>hw q (by simp [DataW.weights,DataW.weightsEach,Tryz.underlying24]; exact .inr hq)
  obtain ⟨z,e2,e3,_⟩:=DataW.trod_int Tryz.underlying3 k0
  simp only [List.cons.injEq,and_true] at e2
  subst e2
  obtain ⟨l,v,e4,q1,q2,q3,q4,q5⟩:=CO (k:=4) (bs:=64) Tryz.underlying22 (by kernel_rfl) (by decide) (by kernel_rfl) bv (fun t=>Ok0 t.c) hT (fun n cs' x=>OG hT) k1 w1
  simp only [List.cons.injEq,and_true] at e4
  subst e4
  refine ⟨⟨z,l⟩,⟨q1,by show l.length < _; unfold reachBytes at q2; omega⟩,?_⟩
  have rc:lK w [I z,.sl 4 (l.map bv)] [.int .i64 z,b]:=(lK.one (.v _ rfl) rfl rfl).app (.one q3 rfl q4)
  refine .agg _ _ rfl (fun i u hu=>?_) fun i c u hc hu=>?_
  ·have hu':[Value.int .i64 z,b][i]?=some u:=by simpa using hu
   obtain ⟨c,hc⟩:∃ c,[I z,AV.sl 4 (l.map bv)][i]?=some c:=⟨_,List.getElem?_eq_getElem (by have:=(List.getElem?_eq_some_iff.1 hu').1; simpa using this)⟩
   exact (rc.2 i c u hc hu').2.2
  ·exact (rc.2 i c u hc (by simpa using hu)).1
theorem amR (hT:xB w) {n:Nat} {v:Value} {x:DataW H × List MemPlace} (h:Tr w enc n 40 [v]=some x) (hw:qp 40 x.1):∃ l:List Rd,((∀ d ∈ l,Ok0 d)∧l.length < 4611686018427387904)∧RD w (BG w) (ldA l) v:=by
 obtain ⟨l,v',e4,q1,q2,q3,q4,q5⟩:=CO (k:=3) (bs:=40) Tryz.underlying40 (by kernel_rfl) (by decide) (by kernel_rfl) aW Ok0 hT (fun n cs' x=>SA hT) h hw
 simp only [List.cons.injEq,and_true] at e4
 subst e4
 exact ⟨l,⟨q1,by unfold reachBytes at q2; omega⟩,q3⟩
end
end Go.Ab
namespace Go.Ab
open Go Go.Proofs Go.Shelf
def sz:Ren:=⟨fun | 166=>104 | 167=>103 | 169=>105 | 240=>138 | 276=>156 | n=>n,fun | 0=>0 | 3=>3 | 4=>4 | 5=>5 | 9=>9 | 20=>20 | 37=>121 | 70=>120 | 72=>123 | 75=>125 | 80=>129 | 127=>145 | 164=>159 | n=>n,fun n=>n⟩
theorem Dx:Lays.n166 Tryz.prog sz where
 mixed:=by kernel_rfl
 f166:=by kernel_rfl
 f240:=by kernel_rfl
 f276:=by kernel_rfl
 t0:=by kernel_rfl
 a0:=Tryz.isAgg0
 z0:=Tryz.sizeOf0
 v0:=Tryz.zeroValue0
 t3:=by kernel_rfl
 a3:=Tryz.isAgg3
 z3:=Tryz.sizeOf3
 v3:=Tryz.zeroValue3
 t4:=by kernel_rfl
 a4:=Tryz.isAgg4
 z4:=Tryz.sizeOf4
 v4:=Tryz.zeroValue4
 t9:=by kernel_rfl
 a9:=Tryz.isAgg9
 z9:=Tryz.sizeOf9
 v9:=Tryz.zeroValue9
 t20:=by kernel_rfl
 a20:=Tryz.isAgg20
 z20:=Tryz.sizeOf20
 v20:=Tryz.zeroValue20
 t37:=by kernel_rfl
 a37:=Tryz.isAgg121
 z37:=Tryz.sizeOf121
 v37:=Tryz.zeroValue121
 t70:=by kernel_rfl
 a70:=Tryz.isAgg120
 z70:=Tryz.sizeOf120
 v70:=Tryz.zeroValue120
 t72:=by kernel_rfl
 a72:=Tryz.isAgg123
 z72:=Tryz.sizeOf123
 v72:=Tryz.zeroValue123
 t75:=by kernel_rfl
 a75:=Tryz.isAgg125
 z75:=Tryz.sizeOf125
 v75:=Tryz.zeroValue125
 t164:=by kernel_rfl
 a164:=Tryz.isAgg159
 z164:=Tryz.sizeOf159
 v164:=Tryz.zeroValue159
theorem Mv:Lays.n167 Tryz.prog sz where
 mixed:=by kernel_rfl
 f167:=by kernel_rfl
 f240:=by kernel_rfl
 f276:=by kernel_rfl
 t0:=by kernel_rfl
 a0:=Tryz.isAgg0
 z0:=Tryz.sizeOf0
 v0:=Tryz.zeroValue0
 t4:=by kernel_rfl
 a4:=Tryz.isAgg4
 z4:=Tryz.sizeOf4
 v4:=Tryz.zeroValue4
 t5:=by kernel_rfl
 a5:=Tryz.isAgg5
 z5:=Tryz.sizeOf5
 v5:=Tryz.zeroValue5
 t9:=by kernel_rfl
 a9:=Tryz.isAgg9
 z9:=Tryz.sizeOf9
 v9:=Tryz.zeroValue9
 t20:=by kernel_rfl
 a20:=Tryz.isAgg20
 z20:=Tryz.sizeOf20
 v20:=Tryz.zeroValue20
 t37:=by kernel_rfl
 a37:=Tryz.isAgg121
 z37:=Tryz.sizeOf121
 v37:=Tryz.zeroValue121
 t70:=by kernel_rfl
 a70:=Tryz.isAgg120
 z70:=Tryz.sizeOf120
 v70:=Tryz.zeroValue120
 t72:=by kernel_rfl
 a72:=Tryz.isAgg123
 z72:=Tryz.sizeOf123
 v72:=Tryz.zeroValue123
 t75:=by kernel_rfl
 a75:=Tryz.isAgg125
 z75:=Tryz.sizeOf125
 v75:=Tryz.zeroValue125
 t164:=by kernel_rfl
 a164:=Tryz.isAgg159
 z164:=Tryz.sizeOf159
 v164:=Tryz.zeroValue159
theorem Dy:Lays.n169 Tryz.prog sz where
 mixed:=by kernel_rfl
 f169:=by kernel_rfl
 t0:=by kernel_rfl
 a0:=Tryz.isAgg0
 z0:=Tryz.sizeOf0
 v0:=Tryz.zeroValue0
 t3:=by kernel_rfl
 a3:=Tryz.isAgg3
 z3:=Tryz.sizeOf3
 v3:=Tryz.zeroValue3
 t9:=by kernel_rfl
 a9:=Tryz.isAgg9
 z9:=Tryz.sizeOf9
 v9:=Tryz.zeroValue9
 t37:=by kernel_rfl
 a37:=Tryz.isAgg121
 z37:=Tryz.sizeOf121
 v37:=Tryz.zeroValue121
 t70:=by kernel_rfl
 a70:=Tryz.isAgg120
 z70:=Tryz.sizeOf120
 v70:=Tryz.zeroValue120
 t72:=by kernel_rfl
 a72:=Tryz.isAgg123
 z72:=Tryz.sizeOf123
 v72:=Tryz.zeroValue123
 t127:=by kernel_rfl
 a127:=Tryz.isAgg145
 z127:=Tryz.sizeOf145
 v127:=Tryz.zeroValue145
theorem tZ:Builder.Extra Tryz.prog sz where
 sizeBuilder:=by kernel_rfl
 liesBuilder:=by kernel_rfl
 t5:=by kernel_rfl
 a5:=Tryz.isAgg5
 z5:=Tryz.sizeOf5
 v5:=Tryz.zeroValue5
 infoByte:=by kernel_rfl
 cellsByte:=by kernel_rfl
 sizeByte:=by kernel_rfl
 neB5:=by decide
end Go.Ab
namespace Go.Ab
open Go Go.Proofs Go.Shelf Go.RowKit
set_option maxHeartbeats 4000000
set_option maxRecDepth 1000000
theorem BH {T e:TypeId} {B b:Nat} {p:Value} {bs:List Value} {w w':World} (h:Lib.BuilderAtF T e B b p bs w) (hb:Below w.heap.size w w'):Lib.BuilderAtF T e B b p bs w':=by
 obtain ⟨h1,v,h2,⟨h3,h4⟩,h5⟩:=h
 have hlt:b < w.heap.size:=(Array.getElem?_eq_some_iff.1 h2).1
 refine ⟨h1,v,(hb.block _ hlt).trans h2,⟨h3,?_⟩,h5⟩
 rcases h4 with h4 | ⟨g,cap,sy,fz,g1,g2,g3,g4⟩
 ·exact .inl h4
 ·exact .inr ⟨g,cap,sy,fz,g1,g2,(hb.block _ (Array.getElem?_eq_some_iff.1 g3).1).trans g3,g4⟩
theorem BI {T e:TypeId} {B b:Nat} {bs:List Value} {w w':World} (h:Lib.IsBuilderF T e B b bs w) (hb:Below w.heap.size w w'):Lib.IsBuilderF T e B b bs w':=h.imp (fun h=>BH h hb) (fun h=>BH h hb)
theorem QQ (n:Bool) (a:Option Addr) (l cap:Nat) (e:Int) (t u:List UInt8) (w:World) (hl:(l:Int) ≠ 0) (ht:t.length≤10000) (hu:u.length≤1000)
  (hV:∀ w1,Below w.heap.size w w1→Calls Tryz.prog F.dyadic_Valid #[.agg #[.bool n,.slice a l cap,.int .i64 e]] w1 fun x w2=>x=.returned (.bool true)∧Below w1.heap.size w1 w2)
  (hT:∀ w1,Below w.heap.size w w1→Calls Tryz.prog F.natural_Text #[.slice a l cap] w1 fun x w2=>x=.returned (.tuple #[.string ⟨t.toArray⟩,.int .i64 0])∧Below w1.heap.size w1 w2)
  (hI:∀ w1,Below w.heap.size w w1→Calls Tryz.prog F.strconv_Itoa #[.int .i64 e] w1 fun x w2=>x=.returned (.string ⟨u.toArray⟩)∧Below w1.heap.size w1 w2) :
  Calls Tryz.prog F.dyadic_Text #[.agg #[.bool n,.slice a l cap,.int .i64 e]] w fun x w'=>x=.returned (.tuple #[.string ⟨((if n then [45] else [])++t++[112]++u).toArray⟩,.int .i64 0])∧Below w.heap.size w w':=by
 go_enter Tryz.func71,Tryz.ntmps71
 go_wp2_with (go_at_call 36; refine (hV _ ((Below.refl _ w).alloc (Nat.le_refl _) _)).mono ?_)
 rintro x W1 ⟨rfl,b1⟩
 have b01:Below w.heap.size w W1:=((Below.refl _ w).alloc (Nat.le_refl _) _).trans (b1.mono (by simp))
 have s1:w.heap.size < W1.heap.size:=Nat.lt_of_lt_of_le (by simp) b1.size
 have hb1:W1.heap[w.heap.size]?=some (.cells #[.bool n,.slice a l cap,.int .i64 e] 27 (0,0)):=by
  rw [b1.block _ (by simp)]
  exact heap_alloc_new w _
 have c1:W1.cell? ⟨w.heap.size,1,none⟩=some (.slice a l cap):=by simp [World.cell?,hb1]
 go_wp2_with (go_at_call 102; refine (hT _ b01).mono ?_)
 rintro x W2 ⟨rfl,b2⟩
 have b02:Below w.heap.size w W2:=b01.trans (b2.mono (by omega))
 have s2:w.heap.size < W2.heap.size:=Nat.lt_of_lt_of_le s1 b2.size
 have hb2:W2.heap[w.heap.size]?=some (.cells #[.bool n,.slice a l cap,.int .i64 e] 27 (0,0)):=(b2.block _ s1).trans hb1
 have hb3:(W2.alloc (.cells #[.pointer none,.slice none 0 0] 123)).heap[w.heap.size]?=some (.cells #[.bool n,.slice a l cap,.int .i64 e] 27 (0,0)):=(pi W2 _ s2).trans hb2
 have d0:(W2.alloc (.cells #[.pointer none,.slice none 0 0] 123)).cell? ⟨w.heap.size,0,none⟩=some (.bool n):=by simp only [World.cell?,hb3]; rfl
 have d2:(W2.alloc (.cells #[.pointer none,.slice none 0 0] 123)).cell? ⟨w.heap.size,2,none⟩=some (.int .i64 e):=by simp only [World.cell?,hb3]; rfl
 have hB:=Lib.IsBuilderF.of (Lib.fresh_isBuilder 123 5 W2)
 have b03:Below w.heap.size w (W2.alloc (.cells #[.pointer none,.slice none 0 0] 123)):=b02.trans ((Below.refl _ W2).alloc (Nat.le_of_lt s2) _)
 have sS:(ByteArray.mk t.toArray++ByteArray.mk #[112]++ByteArray.mk u.toArray).data.toList=t++[112]++u:=by simp
 have sZ:(ByteArray.mk t.toArray++ByteArray.mk #[112]++ByteArray.mk u.toArray).size=t.length+1+u.length:=by simp [ByteArray.size]; omega
 cases n with
 | true =>
  go_wp2_with (go_at_call 103; refine (Any.Builder_WriteByte_k Mv tZ W2.heap.size W2.heap.size [] 45 _ hB (by simp) (by simp)).mono ?_)
  rintro x W3 ⟨rfl,hB3,b3,_⟩
  have b03':Below w.heap.size w W3:=b03.trans (b3.mono (Nat.le_of_lt s2))
  have e2:W3.cell? ⟨w.heap.size,2,none⟩=some (.int .i64 e):=by simp only [World.cell?,(b3.block _ s2).trans hb3]; rfl
  go_wp2_with (go_at_call 72; refine (hI _ b03').mono ?_)
  rintro x W4 ⟨rfl,b4⟩
  have b04:Below w.heap.size w W4:=b03'.trans (b4.mono b03'.size)
  have hB4:=BI (.inr hB3) b4
  have s4:W2.heap.size≤W4.heap.size:=Nat.le_trans (Nat.le_trans (by simp) b3.size) b4.size
  go_wp2_with (go_at_call 104; refine (Any.Builder_WriteString_k Dx tZ W2.heap.size W2.heap.size _ (ByteArray.mk t.toArray++ByteArray.mk #[112]++ByteArray.mk u.toArray) _ hB4 (by rw [sZ]; simp; omega) s4).mono ?_)
  rintro x W5 ⟨rfl,hB5,b5,_⟩
  have b05:Below w.heap.size w W5:=b04.trans (b5.mono (Nat.le_of_lt s2))
  have hB5':Lib.IsBuilderF (sz.t 72) (sz.t 5) W2.heap.size W2.heap.size (Lib.byteCells (45::(t++[112]++u))) W5:=by
   rw [show Lib.byteCells (45::(t++[112]++u))=[]++[Value.int .u8 45]++Lib.strCells (ByteArray.mk t.toArray++ByteArray.mk #[112]++ByteArray.mk u.toArray) by rw [Lib.strCells_eq,sS]; rfl]
   exact .inr hB5
  go_wp2_with (go_at_call 105; refine (Any.Builder_String_any_k Dy tZ W2.heap.size W2.heap.size _ _ hB5' (Nat.le_trans s4 b5.size)).mono ?_)
  rintro x W6 ⟨rfl,_,b6,_⟩
  go_wp2
  go_ret2
  exact ⟨by simp,b05.trans (b6.mono (Nat.le_of_lt s2))⟩
 | false =>
  go_wp2_with (go_at_call 72; refine (hI _ b03).mono ?_)
  rintro x W4 ⟨rfl,b4⟩
  have b04:Below w.heap.size w W4:=b03.trans (b4.mono b03.size)
  have hB4:=BI hB b4
  have s4:W2.heap.size≤W4.heap.size:=Nat.le_trans (by simp) b4.size
  go_wp2_with (go_at_call 104; refine (Any.Builder_WriteString_k Dx tZ W2.heap.size W2.heap.size _ (ByteArray.mk t.toArray++ByteArray.mk #[112]++ByteArray.mk u.toArray) _ hB4 (by rw [sZ]; simp; omega) s4).mono ?_)
  rintro x W5 ⟨rfl,hB5,b5,_⟩
  have b05:Below w.heap.size w W5:=b04.trans (b5.mono (Nat.le_of_lt s2))
  have hB5':Lib.IsBuilderF (sz.t 72) (sz.t 5) W2.heap.size W2.heap.size (Lib.byteCells (t++[112]++u)) W5:=by
   rw [show Lib.byteCells (t++[112]++u)=[]++Lib.strCells (ByteArray.mk t.toArray++ByteArray.mk #[112]++ByteArray.mk u.toArray) by rw [Lib.strCells_eq,sS]; rfl]
   exact .inr hB5
  go_wp2_with (go_at_call 105; refine (Any.Builder_String_any_k Dy tZ W2.heap.size W2.heap.size _ _ hB5' (Nat.le_trans s4 b5.size)).mono ?_)
  rintro x W6 ⟨rfl,_,b6,_⟩
  go_wp2
  go_ret2
  exact ⟨by simp,b05.trans (b6.mono (Nat.le_of_lt s2))⟩
end Go.Ab
namespace Go.Ab
open Go Go.Proofs Go.Shelf Go.RowKit
set_option maxRecDepth 100000
theorem iP {args:List AV} {vals:Array Value} (h:vals.size=args.length) {i:Nat} {c:AV} (hc:args[i]?=some c):∃ u,vals[i]?=some u:=by
 have:i < args.length:=(List.getElem?_eq_some_iff.1 hc).1
 exact ⟨vals[i]'(by omega),by simp [h,this]⟩
theorem SB {vals:Array Value} {a:Value} (h:vals.size=1) (h0:vals[0]?=some a):vals=#[a]:=by
 apply Array.ext_getElem?
 intro i
 match i with
 | 0=>simpa using h0
 | i+1=>simp [h]
theorem SC {vals:Array Value} {a b:Value} (h:vals.size=2) (h0:vals[0]?=some a) (h1:vals[1]?=some b):vals=#[a,b]:=by
 apply Array.ext_getElem?
 intro i
 match i with
 | 0=>simpa using h0
 | 1=>simpa using h1
 | i+2=>simp [h]
theorem Dz {w:World} {a:Addr} {us:Array Value} {e:TypeId} (h:w.heap[a.block]?=some (.cells us e (0,0))):w.frozen? a=false:=by
 simp [World.frozen?,h]
theorem QR {P:Program} (w:World) (tS tR e:TypeId) (ht:P.underlying tS=some (.slice e)) (size:Nat) (hz:∀ w,(Go.sizeOf e).run P w=.ok size w) (a:Addr) (b:Option Addr) (la ca cb:Nat) :
  (Extern.SlicesOverlaps.overlaps #[tS,tS] #[tR] #[.slice (some a) la ca,.slice b 0 cb]).run P w=.ok (.bool false) w:=by
 change Sem.run P (α:=Value) (do
  let some t := (#[tS, tS] : Array TypeId)[0]? | stuck "slices.overlaps: no parameter types"
  let .slice elem ← underlying t | stuck "slices.overlaps: slice type expected"
  let size ← sizeOf elem
  match (some a:Option Addr),b with
  | some a,some b =>
   if la=0∨0=0∨size=0 then pure (Value.bool false)
   else if a.block != b.block && (← frozen a) && (← frozen b) then unsupported .addressObserved
   else do
    if a.block != b.block then do
     noView a; noView b
     if ← mayBeOne a b then return Value.bool ((← choose (.extern "sameAddr.stringBytes" 2)) == 1)
    pure (Value.bool (a.block == b.block && a.off < b.off+0*size && b.off < a.off+la*size))
  | _,_=>pure (Value.bool false)) w=_
 cases b <;> simp [run_underlying ht,hz]
theorem SD {P:Program} (w:World) (tS tR e:TypeId) (ht:P.underlying tS=some (.slice e)) (size:Nat) (hz:∀ w,(Go.sizeOf e).run P w=.ok size w)
  (a b:Addr) (la ca lb cb:Nat) (hne:a.block ≠ b.block) (tA:TypeId) (kA:Nat) {us:Array Value} {tB:TypeId}
  (hkA:kA ≠ 0) (hsa:w.shape? a.block=some (tA,kA)) (hb:w.heap[b.block]?=some (.cells us tB (0,0))) (hu:us.size ≠ 0) :
  (Extern.SlicesOverlaps.overlaps #[tS,tS] #[tR] #[.slice (some a) la ca,.slice (some b) lb cb]).run P w=.ok (.bool false) w:=by
 have hnb:(a.block != b.block)=true:=by simpa using hne
 have hnb':(a.block == b.block)=false:=by simpa using hne
 have hsb:w.shape? b.block=some (tB,us.size):=by simp [World.shape?,hb]
 have hfb:w.frozen? b=false:=Dz hb
 have hfe:w.frozen? { block:=b.block,off:=us.size }=false:=Dz (a:=⟨b.block,us.size,none⟩) hb
 change Sem.run P (α:=Value) (do
  let some t := (#[tS, tS] : Array TypeId)[0]? | stuck "slices.overlaps: no parameter types"
  let .slice elem ← underlying t | stuck "slices.overlaps: slice type expected"
  let size ← sizeOf elem
  match (some a:Option Addr),(some b:Option Addr) with
  | some a,some b =>
   if la=0∨lb=0∨size=0 then pure (Value.bool false)
   else if a.block != b.block && (← frozen a) && (← frozen b) then unsupported .addressObserved
   else do
    if a.block != b.block then do
     noView a; noView b
     if ← mayBeOne a b then return Value.bool ((← choose (.extern "sameAddr.stringBytes" 2)) == 1)
    pure (Value.bool (a.block == b.block && a.off < b.off+lb*size && b.off < a.off+la*size))
  | _,_=>pure (Value.bool false)) w=_
 by_cases h0:la=0∨lb=0∨size=0
 ·simp [run_underlying ht,hz,h0]
 ·obtain ⟨n,hn⟩:∃ n,us.size=n+1:=⟨us.size - 1,by omega⟩
  rw [hn] at hsb hfe
  obtain ⟨kA,rfl⟩:∃ k,kA=k+1:=⟨kA - 1,by omega⟩
  cases hfa:w.frozen? a <;> cases hfa2:w.frozen? { block:=a.block,off:=kA+1 } <;>
   simp [run_underlying ht,hz,h0,hnb,hnb',frozen,noView,viewAt,mayBeOne,stringish,shape,Sem.run,hsa,hsb,hfa,hfa2,hfb,hfe]
theorem KJ {w:World} {a:Addr} {v:Value} (h:w.cell? a=some v):∃ t k,k ≠ 0∧w.shape? a.block=some (t,k):=by
 unfold World.cell? at h
 split at h
 ·rename_i cs t fr hb
  refine ⟨t,cs.size,fun h0=>?_,by unfold World.shape?; rw [hb]⟩
  split at h
  ·cases h
  ·have:=(Array.getElem?_eq_some_iff.1 h).1
   omega
 ·cases h
theorem SE {P : Program} {I : Inv} {f : FuncId} {fn : Func} {tS tR e : TypeId} {size : Nat} (hf : P.funcs[f]? = some fn) (hname : (fn.name == "runtime.NumGoroutine") = false) (hb : fn.body.isNone = true) (hn : Extern.findNext fn = none)
  (he:Extern.find fn=some (Extern.SlicesOverlaps.overlaps #[tS,tS] #[tR])) (ht:P.underlying tS=some (.slice e)) (hz:∀ w,(Go.sizeOf e).run P w=.ok size w):fj P I false f (II 4):=by
 intro args obs obs' res w X ρ vals n hz' hn' hi hr hs hv
 unfold II at hz'
 split at hz'
 ·rename_i k0 row rows k1 lo m k2 rows2
  split at hz'
  ·rename_i hk
   obtain ⟨rfl,rfl,rfl⟩:=hk
   cases hz'
   obtain ⟨u0,h0⟩:=iP hs (i:=0) rfl
   obtain ⟨u1,h1⟩:=iP hs (i:=1) rfl
   have e0:=hv 0 _ _ rfl h0
   have e1:=hv 1 _ _ rfl h1
   obtain rfl:=SC hs h0 h1
   have d0:=e0.sl_inv
   obtain ⟨a1,cap1,rfl,hp,hn1,hb1,ha1⟩:=e1.rsl_inv
   have ho:RO w (ao w X (ae [.ar 4 rows2]) ρ) ρ (ae [.ar 4 rows2]) 1000 (.ar 4 rows2):=hr.ob 1000
   obtain ⟨us,tB,g1,g2,g3,g4⟩:=ho
   have hlive:live (ae [.ar 4 rows2]) 1000 none:=trivial
   cases d0 with
   | sl _ _ a cap ad vs hc ha hk hv2 hl hr2 =>
    obtain ⟨rfl,hA,hsp⟩:=ha (by simp)
    have hlen:=hk row (by simp)
    obtain ⟨c,hrow⟩:∃ c,row[0]?=some c:=⟨row[0]'(by omega),by simp⟩
    have hcell:=hv2 0 row 0 c rfl hrow
    obtain ⟨tA,kA,hkA,hsh⟩:=KJ hcell
    rw [im] at hsh
    have run:(callFunc f #[.slice (some ad) (row::rows).length cap,.slice a1 m cap1]).run P w=.ok (.value (.bool false)) w:=by
     rw [run_callFunc_extern hf hname hb hn he]
     by_cases hm:m=0
     ·subst hm
      rw [QR w tS tR e ht size hz]
      rfl
     ·rcases ha1 with h | rfl
      ·omega
      ·rw [SD w tS tR e ht size hz ad ⟨(ρ 1000 none).1,lo*4,none⟩ _ cap m cap1 (fun hh=>hA.2.2 ⟨1000,none,hlive,hh.symm⟩) tA kA hkA hsh g1 (by omega)]
       rfl
    unfold Enters
    rw [run]
    exact ⟨ρ,hr,.refl _ _ _ _,.dat (.v _ rfl)⟩
  ·cases hz'
 ·cases hz'
theorem QS {P:Program} {I:Inv} (hR:fj P I false F.slices_Insert_api_Term_api_Term_ (R0 F.slices_Insert_api_Term_api_Term_)):fj P I false F.slices_Insert_api_Term_api_Term_ (Gc 4 64):=by
 intro args obs obs' res w X ρ vals n hz hn hi hr hs hv
 unfold Gc at hz
 split at hz
 ·rename_i k0 r
  split at hz
  ·rename_i hk
   subst hk
   cases hz
   exact hR QK hn hi hr hs hv
  ·cases hz
 ·rename_i k1 m i k0 r k2 rows
  split at hz
  ·rename_i hk
   obtain ⟨rfl,rfl,rfl,rfl,hi0,hi1,hb⟩:=hk
   cases hz
   obtain ⟨i,rfl⟩:=Int.eq_ofNat_of_zero_le hi0
   rw [Int.toNat_natCast]
   by_cases hend:i=rows.length
   ·subst hend
    have:=hR (Mr (r:=r) rfl hb) hn hi hr hs hv
    rw [List.take_of_length_le (Nat.le_refl _),List.drop_eq_nil_of_le (Nat.le_refl _)]
    exact this
   ·have hlt:i < rows.length:=by omega
    obtain ⟨u0,h0⟩:=iP hs (i:=0) rfl
    obtain ⟨a,cap,rfl,hp,hn1,hb1,ha⟩:=(hv 0 _ _ rfl h0).rsl_inv
    have hv':∀ (j:Nat) (c:AV) (u:Value),[AV.rsc 1000 4 0 rows.length cap,.v (.int .i64 i),.sl 4 [r]][j]?=some c→vals[j]?=some u→RV w (ao w X (ae [.ar 4 rows]) ρ) ρ (ae [.ar 4 rows]) c u:=by
     intro j c u hc hu
     match j,hc with
     | 0,hc =>
      cases hc
      rw [h0] at hu
      cases hu
      exact .rsc 1000 4 0 _ cap a hp hn1 hb1 ha
     | j+1,hc=>exact hv (j+1) c u hc hu
    rcases Nat.lt_or_ge rows.length cap with hc | hc
    ·exact hR (QN rfl hlt hc hb) hn hi hr hs hv'
    ·obtain rfl:cap=rows.length:=by omega
     refine (hR (QM rfl hlt hb) hn hi hr hs hv').mono fun v w' ⟨ρ',q1,q2,q3⟩=>?_
     generalize rows.take i++r::rows.drop i=L at q1 q2 q3 ⊢
     have hd:=AE q1 (id:=1000) (k:=4) (rows:=rows) (by
      show (if 1000=n then _ else _)=_
      rw [if_neg (by omega)]
      rfl)
     have eq:upd (mat n (ae [.ar 4 rows]) (.osl 4 L)).2 1000 .dead=(mat n (ae [.dead]) (.osl 4 L)).2:=by
      show upd (upd (ae [.ar 4 rows]) n (.ar 4 L)) 1000 .dead=upd (ae [.dead]) n (.ar 4 L)
      rw [oQ,oQ]
      funext j
      unfold upd
      by_cases h1:j=1000
      ·rw [if_pos h1,if_neg (by omega),if_pos h1]
      ·rw [if_neg h1,if_neg h1,if_neg h1]
     rw [eq] at hd
     refine ⟨ρ',hd.1,q2.trans (hd.2.far rfl),hd.2.rvk q3 (.inr ?_)⟩
     show dT [(1000,false)] n none=false
     simp [dT]
     omega
  ·cases hz
 ·cases hz
theorem lL {w w':World} {X:Nat→Prop} {ρ:aT} (hr:Rel w X ρ (ae [])) (hb:Below w.heap.size w w'):Rel w' X ρ (ae [])∧Far false w ρ (ae []) w' ρ (ae []):=by
 have hl:∀ id sub,¬ live (ae []) id sub:=fun id sub=>by
  have hd:ae [] id=.dead:=by
   unfold ae
   split <;> simp
  cases sub with
  | none=>simp [live,hd]
  | some p=>simp [live,hd]
 refine ⟨⟨fun id sub _ _ h=>(hl id sub h).elim,fun id sub h=>(hl id sub h).elim,fun id=>?_,fun b hb'=>Nat.lt_of_lt_of_le (hr.xl b hb') hb.size⟩,hb.os,hb.tape,hb.output,hb.size,fun b h1 _=>hb.block b h1,fun b ⟨id,sub,h,_⟩=>(hl id sub h).elim,fun id _ h=>?_,fun h=>by cases h⟩
 ·have hd:ae [] id=.dead:=by
   unfold ae
   split <;> simp
  rw [hd]
  trivial
 ·exfalso
  apply h
  unfold ae
  split <;> simp
theorem Mw {w w':World} {X:Nat→Prop} {ρ:aT} {b:Nat} (h:ao w X (ae []) ρ b) (hb:Below w.heap.size w w'):ao w' X (ae []) ρ b∧w'.heap[b]?=w.heap[b]? :=
 ⟨⟨Nat.lt_of_lt_of_le h.1 hb.size,h.2.1,h.2.2⟩,hb.block b h.1⟩
theorem SF {P:Program} {I:Inv} {ρ0:Ren} (L:Lays2.n15 P ρ0) (hf:ρ0.f 15=F.slices_Clone_int_int_) (he:∀ a w,(callFunc F.slices_Clone_int_int_ a).run P w=.ok (.enter F.slices_Clone_int_int_ a) w)
  (hR:fj P I false F.slices_Clone_int_int_ (R0 F.slices_Clone_int_int_)):fj P I false F.slices_Clone_int_int_ LD:=by
 intro args obs obs' res w X ρ vals n hz hn hi hr hs hv
 unfold LD at hz
 split at hz
 ·cases hz
  obtain ⟨u0,h0⟩:=iP hs (i:=0) rfl
  have d0:=(hv 0 _ _ rfl h0).sl_inv
  obtain rfl:=SB hs h0
  cases d0 with
  | sl _ _ a cap ad vs hc ha hk hv2 hl hr2 =>
   unfold Enters
   rw [he]
   have fin:∀ (w':World) (b:Option Addr) (c:Nat),Below w.heap.size w w'→∃ ρ',Rel w' X ρ' (mat n (ae []) (.sl 1 [])).2∧Far false w ρ (ae []) w' ρ' (mat n (ae []) (.sl 1 [])).2 ∧
     RV w' (ao w' X (mat n (ae []) (.sl 1 [])).2 ρ') ρ' (mat n (ae []) (.sl 1 [])).2 (mat n (ae []) (.sl 1 [])).1 (.slice b 0 c):=fun w' b c hb =>
    ⟨ρ,(lL hr hb).1,(lL hr hb).2,.dat (.sl 1 [] b c ad vs (Nat.zero_le _) (fun h=>absurd rfl h) (fun _ h=>by cases h) (fun i row j c h=>by simp at h) (fun _ h=>by cases h) (fun i row j c h=>by simp at h))⟩
   cases a with
   | none =>
    have key:=Any.slices_Clone_int_nil L 0 cap w
    rw [hf] at key
    refine Calls.mono key fun e w' hw=>?_
    obtain ⟨rfl,rfl⟩:=hw
    exact fin _ _ _ (Below.refl _ _)
   | some a0 =>
    have key:=Any.slices_Clone_int_zero L a0 cap w
    rw [hf] at key
    refine Calls.mono key fun e w' hw=>?_
    obtain ⟨v',rfl,⟨_,hown⟩,_,hb⟩:=hw
    rcases hown with ⟨rfl,_⟩ | ⟨g,c2,sy,rfl,_⟩
    ·exact fin _ _ _ hb
    ·exact fin _ _ _ hb
 ·rename_i r rs
  split at hz
  ·rename_i hb
   cases hz
   exact hR (OD hb) hn hi hr hs hv
  ·cases hz
 ·cases hz
end Go.Ab
namespace Go.Ab
open Go Go.Proofs Go.RowKit
set_option maxRecDepth 100000
theorem RV.tup_inv {w:World} {A:Nat→Prop} {ρ:aT} {h:aa} {vs:List AV} {u:Value} (hv:RV w A ρ h (.tup vs) u):∃ us:Array Value,u=.tuple us∧us.size=vs.length∧∀ (i:Nat) (c:AV) (u:Value),vs[i]?=some c→us[i]?=some u→RV w A ρ h c u:=by
 cases hv with
 | dat hd=>cases hd
 | tup _ us hs hr=>exact ⟨us,rfl,hs,hr⟩
theorem Aj {P:Program} {I:Inv} {f:FuncId} {g:List AV→List Ob→Option (AV × List Ob)} (hR:fj P I false f g) {args:List AV} {vals:Array Value} {w:World} {X:Nat→Prop} {ρ:aT} {res:AV}
  (he:(callFunc f vals).run P w=.ok (.enter f vals) w) (hz:g args []=some (res,[])) (hm:mat 2000 (ae []) res=(res,ae [])) (hi:I.p w X) (hr:Rel w X ρ (ae [])) (hs:vals.size=args.length)
  (hv:∀ (i:Nat) (c:AV) (u:Value),args[i]?=some c→vals[i]?=some u→RV w (ao w X (ae []) ρ) ρ (ae []) c u) :
  Calls P f vals w fun e w'=>(∃ v ρ',e=.returned v∧RV w' (ao w' X (ae []) ρ') ρ' (ae []) res v)∧Below w.heap.size w w':=by
 have key:=hR hz (Nat.le_refl 2000) hi hr hs hv
 unfold Enters at key
 rw [he] at key
 refine Calls.mono key fun e w' hw=>?_
 cases e with
 | returned v =>
  obtain ⟨ρ',r,far,rv⟩:=hw
  rw [hm] at rv far
  have hl:∀ id sub,¬ live (ae []) id sub:=fun id sub=>by
   have hd:ae [] id=.dead:=by
    unfold ae
    split <;> simp
   cases sub with
   | none=>simp [live,hd]
   | some p=>simp [live,hd]
  exact ⟨⟨v,ρ',rfl,rv⟩,far.os,far.tape,far.output,far.size,fun k hk=>far.old k hk fun ⟨id,sub,h,_⟩=>hl id sub h⟩
 | _=>exact hw.elim
theorem OH (n:Bool) (e:Int) (he:e=0∨e=1):R0 F.dyadic_Valid [.agg [B n,.sl 1 [[U 1]],I e]] []=some (B true,[]):=by
 rcases he with rfl | rfl <;> cases n
 ·exact gX [] 40 (F.dyadic_Valid,[.agg [B false,.sl 1 [[U 1]],I 0]],B true) bL (by kernel_rfl)
 ·exact gX [] 40 (F.dyadic_Valid,[.agg [B true,.sl 1 [[U 1]],I 0]],B true) bL (by kernel_rfl)
 ·exact gX [] 40 (F.dyadic_Valid,[.agg [B false,.sl 1 [[U 1]],I 1]],B true) bL (by kernel_rfl)
 ·exact gX [] 40 (F.dyadic_Valid,[.agg [B true,.sl 1 [[U 1]],I 1]],B true) bL (by kernel_rfl)
theorem QT (e:Int) (he:e=0∨e=1):R0 F.strconv_Itoa [I e] []=some (S ⟨[if e=0 then (48:UInt8) else 49].toArray⟩,[]):=by
 rcases he with rfl | rfl
 ·exact gX [] 40 (F.strconv_Itoa,[I 0],S ⟨[(48:UInt8)].toArray⟩) bL (by kernel_rfl)
 ·exact gX [] 40 (F.strconv_Itoa,[I 1],S ⟨[(49:UInt8)].toArray⟩) bL (by kernel_rfl)
theorem OI:R0 F.natural_Text [.sl 1 [[U 1]]] []=some (.tup [S ⟨[(49:UInt8)].toArray⟩,I 0],[]) :=
 gX [] 60 (F.natural_Text,[.sl 1 [[U 1]]],.tup [S ⟨[(49:UInt8)].toArray⟩,I 0]) bL (by kernel_rfl)
theorem ZL {vals:Array Value} {a b c:Value} (h:vals.size=3) (h0:vals[0]?=some a) (h1:vals[1]?=some b) (h2:vals[2]?=some c):vals=#[a,b,c]:=by
 apply Array.ext_getElem?
 intro i
 match i with
 | 0=>simpa using h0
 | 1=>simpa using h1
 | 2=>simpa using h2
 | i+3=>simp [h]
theorem Vd {I:Inv} (hV:fj Tryz.prog I false F.dyadic_Valid (R0 F.dyadic_Valid)) (hT:fj Tryz.prog I false F.natural_Text (R0 F.natural_Text)) (hI:fj Tryz.prog I false F.strconv_Itoa (R0 F.strconv_Itoa))
  (eV:∀ a w,(callFunc F.dyadic_Valid a).run Tryz.prog w=.ok (.enter F.dyadic_Valid a) w) (eT:∀ a w,(callFunc F.natural_Text a).run Tryz.prog w=.ok (.enter F.natural_Text a) w)
  (eI:∀ a w,(callFunc F.strconv_Itoa a).run Tryz.prog w=.ok (.enter F.strconv_Itoa a) w) (eD:∀ a w,(callFunc F.dyadic_Text a).run Tryz.prog w=.ok (.enter F.dyadic_Text a) w) :
  fj Tryz.prog I false F.dyadic_Text RN:=by
 intro args obs obs' res w X ρ vals n hz hn hi hr hs hv
 unfold RN at hz
 split at hz
 ·rename_i nb m e
  split at hz
  ·rename_i hc
   obtain ⟨rfl,he,rfl⟩:=hc
   cases hz
   obtain ⟨u0,h0⟩:=iP hs (i:=0) rfl
   obtain ⟨us,rfl,hsz,_,hr2⟩:=(hv 0 _ _ rfl h0).agg_inv
   obtain rfl:=SB hs h0
   obtain ⟨v0,g0⟩:=iP (args:=[B nb,.sl 1 [[.v (.int .u32 1)]],.v (.int .i64 e)]) hsz (i:=0) rfl
   obtain ⟨v1,g1⟩:=iP (args:=[B nb,.sl 1 [[.v (.int .u32 1)]],.v (.int .i64 e)]) hsz (i:=1) rfl
   obtain ⟨v2,g2⟩:=iP (args:=[B nb,.sl 1 [[.v (.int .u32 1)]],.v (.int .i64 e)]) hsz (i:=2) rfl
   obtain ⟨rfl,_⟩:=(hr2 0 _ _ rfl g0).v_inv
   obtain ⟨rfl,_⟩:=(hr2 2 _ _ rfl g2).v_inv
   have d1:=(hr2 1 _ _ rfl g1).sl_inv
   obtain rfl:=ZL hsz g0 g1 g2
   obtain ⟨a,l,cap,rfl⟩:∃ a l cap,v1=.slice a l cap:=by
    cases d1
    exact ⟨_,_,_,rfl⟩
   have hl:l=1:=by
    cases d1
    rfl
   subst hl
   have d1':∀ {w1:World},Below w.heap.size w w1→RD w1 (ao w1 X (ae []) ρ) (.sl 1 [[.v (.int .u32 1)]]) (.slice a 1 cap):=fun hb=>d1.mono fun b h=>Mw h hb
   have inv:∀ {w1:World},Below w.heap.size w w1→I.p w1 X:=fun hb=>I.stab hi fun b h=>hb.block b (hr.xl b h)
   unfold Enters
   rw [eD]
   refine Calls.mono (QQ nb a 1 cap e [49] [if e=0 then 48 else 49] w (by decide) (by decide) (Nat.le_of_lt (by decide:1 < 1000)) (fun w1 hb=>?_) (fun w1 hb=>?_) fun w1 hb=>?_) fun ex w' hw=>?_
   ·refine Calls.mono (Aj hV (eV _ _) (OH nb e he) rfl (inv hb) (lL hr hb).1 rfl fun i c u hc hu=>?_) fun ex w2 hw=>?_
    ·match i,hc with
     | 0,hc =>
      cases hc
      cases hu
      refine .dat (.agg _ _ rfl (fun i u hu=>?_) fun i c u hc hu=>?_)
      ·match i,hu with
       | 0,hu=>cases hu; rfl
       | 1,hu=>cases hu; rfl
       | 2,hu=>cases hu; rfl
      ·match i,hc,hu with
       | 0,hc,hu=>cases hc; cases hu; exact .v _ rfl
       | 1,hc,hu=>cases hc; cases hu; exact d1' hb
       | 2,hc,hu=>cases hc; cases hu; exact .v _ rfl
    ·obtain ⟨⟨v,ρ',rfl,rv⟩,hb2⟩:=hw
     obtain ⟨rfl,_⟩:=rv.v_inv
     exact ⟨rfl,hb2⟩
   ·refine Calls.mono (Aj hT (eT _ _) OI rfl (inv hb) (lL hr hb).1 rfl fun i c u hc hu=>?_) fun ex w2 hw=>?_
    ·match i,hc with
     | 0,hc =>
      cases hc
      cases hu
      exact .dat (d1' hb)
    ·obtain ⟨⟨v,ρ',rfl,rv⟩,hb2⟩:=hw
     obtain ⟨us,rfl,h1,h2⟩:=rv.tup_inv
     obtain ⟨x0,q0⟩:=iP (args:=[S ⟨[(49:UInt8)].toArray⟩,.v (.int .i64 0)]) h1 (i:=0) rfl
     obtain ⟨x1,q1⟩:=iP (args:=[S ⟨[(49:UInt8)].toArray⟩,.v (.int .i64 0)]) h1 (i:=1) rfl
     obtain ⟨rfl,_⟩:=(h2 0 _ _ rfl q0).v_inv
     obtain ⟨rfl,_⟩:=(h2 1 _ _ rfl q1).v_inv
     obtain rfl:=SC h1 q0 q1
     exact ⟨rfl,hb2⟩
   ·refine Calls.mono (Aj hI (eI _ _) (QT e he) rfl (inv hb) (lL hr hb).1 rfl fun i c u hc hu=>?_) fun ex w2 hw=>?_
    ·match i,hc with
     | 0,hc =>
      cases hc
      cases hu
      exact .dat (.v _ rfl)
    ·obtain ⟨⟨v,ρ',rfl,rv⟩,hb2⟩:=hw
     obtain ⟨rfl,_⟩:=rv.v_inv
     exact ⟨rfl,hb2⟩
   ·obtain ⟨rfl,hb⟩:=hw
    refine ⟨ρ,(lL hr hb).1,(lL hr hb).2,?_⟩
    refine .tup _ _ rfl fun i c u hc hu=>?_
    match i,hc,hu with
    | 0,hc,hu=>cases hc; cases hu; exact .dat (.v _ rfl)
    | 1,hc,hu=>cases hc; cases hu; exact .dat (.v _ rfl)
  ·cases hz
 ·cases hz
abbrev TX (f:Nat) (fd:FD):Prop:=Text Go.Proofs.Tryz.prog f fd
theorem tx {f : Nat} {fd : FD} {fn : Func} (h : Go.Proofs.Tryz.prog.funcs[f]? = some fn) (h2 : (fn.body.bind fun c => dR Go.Proofs.Tryz.prog fn.ntmps c fd.body, uA Go.Proofs.Tryz.prog fn.results.toList, decide (fn.ntmps ≤ 1000), fn.name == "runtime.NumGoroutine") = (some fd.body, some fd.res, true, false)) : TX f fd := by
 simp only [Prod.mk.injEq,Option.bind_eq_some_iff,decide_eq_true_eq] at h2
 obtain ⟨⟨c,h3,h4⟩,h5,h6,h7⟩:=h2
 exact ⟨⟨fn,c,_,h,h3,rfl,h6,h4,h5,h7⟩⟩
theorem tn:∀ p ∈ ([]:List (Nat × FD)),TX p.1 p.2:=fun _ h=>by cases h
theorem tc {f:Nat} {fd:FD} {l:List (Nat × FD)} (h1:TX f fd) (h2:∀ p ∈ l,TX p.1 p.2):∀ p ∈ (f,fd)::l,TX p.1 p.2:=fun p hp=>by
 rcases List.mem_cons.1 hp with rfl | hp
 ·exact h1
 ·exact h2 p hp
open Go.Proofs.Tryz
theorem anA:TX 4 akj:=tx func4 (by kernel_rfl)
theorem ZN:TX 7 wR:=tx func7 (by kernel_rfl)
theorem ZO:TX 8 ov:=tx func8 (by kernel_rfl)
theorem akm:TX 9 aeS:=tx func9 (by kernel_rfl)
theorem Ve:TX 12 tp:=tx func12 (by kernel_rfl)
theorem ann:TX 15 akv:=tx func15 (by kernel_rfl)
theorem ano:TX 16 akE:=tx func16 (by kernel_rfl)
theorem anp:TX 17 akI:=tx func17 (by kernel_rfl)
theorem ajZ:TX 18 adJ:=tx func18 (by kernel_rfl)
theorem Vf:TX 19 ej:=tx func19 (by kernel_rfl)
theorem Vg:TX 20 gy:=tx func20 (by kernel_rfl)
theorem Vj:TX 25 mH:=tx func25 (by kernel_rfl)
theorem Vk:TX 26 gq:=tx func26 (by kernel_rfl)
theorem Vl:TX 27 mI:=tx func27 (by kernel_rfl)
theorem Vm:TX 28 si:=tx func28 (by kernel_rfl)
theorem Vn:TX 29 wS:=tx func29 (by kernel_rfl)
theorem Vo:TX 30 ct:=tx func30 (by kernel_rfl)
theorem Vp:TX 31 gz:=tx func31 (by kernel_rfl)
theorem Vq:TX 32 cu:=tx func32 (by kernel_rfl)
theorem Vr:TX 33 gL:=tx func33 (by kernel_rfl)
theorem aj1:TX 34 ach:=tx func34 (by kernel_rfl)
theorem aj2:TX 35 aeU:=tx func35 (by kernel_rfl)
theorem Vs:TX 36 cM:=tx func36 (by kernel_rfl)
theorem Vt:TX 37 mU:=tx func37 (by kernel_rfl)
theorem Vu:TX 38 df:=tx func38 (by kernel_rfl)
theorem Vv:TX 39 ck:=tx func39 (by kernel_rfl)
theorem Vw:TX 40 bW:=tx func40 (by kernel_rfl)
theorem aj3:TX 41 adr:=tx func41 (by kernel_rfl)
theorem aj4:TX 42 aeN:=tx func42 (by kernel_rfl)
theorem Vx:TX 43 vr:=tx func43 (by kernel_rfl)
theorem Vy:TX 44 dX:=tx func44 (by kernel_rfl)
theorem anq:TX 47 akF:=tx func47 (by kernel_rfl)
theorem anr:TX 48 akJ:=tx func48 (by kernel_rfl)
theorem Vz:TX 49 ic:=tx func49 (by kernel_rfl)
theorem ans:TX 50 akN:=tx func50 (by kernel_rfl)
theorem ant:TX 51 akG:=tx func51 (by kernel_rfl)
theorem anu:TX 52 af3:=tx func52 (by kernel_rfl)
theorem aj7:TX 53 adO:=tx func53 (by kernel_rfl)
theorem aj8:TX 54 adH:=tx func54 (by kernel_rfl)
theorem VA:TX 55 dS:=tx func55 (by kernel_rfl)
theorem VB:TX 56 iv:=tx func56 (by kernel_rfl)
theorem VC:TX 57 lT:=tx func57 (by kernel_rfl)
theorem VD:TX 58 ku:=tx func58 (by kernel_rfl)
theorem aj9:TX 59 afa:=tx func59 (by kernel_rfl)
theorem VJ:TX 65 jj:=tx func65 (by kernel_rfl)
theorem VK:TX 66 bY:=tx func66 (by kernel_rfl)
theorem VL:TX 67 ie:=tx func67 (by kernel_rfl)
theorem VM:TX 68 eX:=tx func68 (by kernel_rfl)
theorem VN:TX 69 tq:=tx func69 (by kernel_rfl)
theorem VO:TX 70 yF:=tx func70 (by kernel_rfl)
theorem VP:TX 72 sj:=tx func72 (by kernel_rfl)
theorem VQ:TX 73 cJ:=tx func73 (by kernel_rfl)
theorem VR:TX 74 cK:=tx func74 (by kernel_rfl)
theorem akb:TX 75 acj:=tx func75 (by kernel_rfl)
theorem VS:TX 76 cI:=tx func76 (by kernel_rfl)
theorem VU:TX 77 lU:=tx func77 (by kernel_rfl)
theorem VV:TX 78 jk:=tx func78 (by kernel_rfl)
theorem VW:TX 79 fN:=tx func79 (by kernel_rfl)
theorem VX:TX 80 eC:=tx func80 (by kernel_rfl)
theorem VY:TX 81 be:=tx func81 (by kernel_rfl)
theorem VZ:TX 82 eB:=tx func82 (by kernel_rfl)
theorem V0:TX 83 aH:=tx func83 (by kernel_rfl)
theorem V1:TX 84 lV:=tx func84 (by kernel_rfl)
theorem V2:TX 85 bZ:=tx func85 (by kernel_rfl)
theorem akc:TX 86 aeT:=tx func86 (by kernel_rfl)
theorem akd:TX 87 aeu:=tx func87 (by kernel_rfl)
theorem ake:TX 88 aeP:=tx func88 (by kernel_rfl)
theorem akf:TX 89 ae4:=tx func89 (by kernel_rfl)
theorem V3:TX 90 dF:=tx func90 (by kernel_rfl)
theorem anv:TX 91 akx:=tx func91 (by kernel_rfl)
theorem V4:TX 92 eM:=tx func92 (by kernel_rfl)
theorem V5:TX 93 dx:=tx func93 (by kernel_rfl)
theorem V6:TX 94 cE:=tx func94 (by kernel_rfl)
theorem V9:TX 97 bG:=tx func97 (by kernel_rfl)
theorem Wa:TX 98 cN:=tx func98 (by kernel_rfl)
theorem Wb:TX 99 fP:=tx func99 (by kernel_rfl)
theorem SG:TX 100 yG:=tx func100 (by kernel_rfl)
theorem SH:TX 101 tr:=tx func101 (by kernel_rfl)
theorem SI:TX 102 sk:=tx func102 (by kernel_rfl)
theorem SJ:TX 104 iy:=tx func104 (by kernel_rfl)
theorem SK:TX 105 kQ:=tx func105 (by kernel_rfl)
theorem SL:TX 106 lD:=tx func106 (by kernel_rfl)
theorem SM:TX 107 iz:=tx func107 (by kernel_rfl)
theorem SN:TX 108 kR:=tx func108 (by kernel_rfl)
theorem SO:TX 109 iC:=tx func109 (by kernel_rfl)
theorem SP:TX 110 lW:=tx func110 (by kernel_rfl)
theorem SQ:TX 111 kS:=tx func111 (by kernel_rfl)
theorem SR:TX 112 iY:=tx func112 (by kernel_rfl)
theorem SS:TX 113 mV:=tx func113 (by kernel_rfl)
theorem ST:TX 114 gA:=tx func114 (by kernel_rfl)
theorem SU:TX 115 cX:=tx func115 (by kernel_rfl)
theorem SV:TX 117 hF:=tx func117 (by kernel_rfl)
theorem ajD:TX 118 aeY:=tx func118 (by kernel_rfl)
theorem ajE:TX 119 ae2:=tx func119 (by kernel_rfl)
theorem ajF:TX 120 aeZ:=tx func120 (by kernel_rfl)
theorem ajG:TX 121 aeL:=tx func121 (by kernel_rfl)
theorem SW:TX 122 ig:=tx func122 (by kernel_rfl)
theorem SX:TX 123 iZ:=tx func123 (by kernel_rfl)
theorem SY:TX 124 jm:=tx func124 (by kernel_rfl)
theorem SZ:TX 125 gB:=tx func125 (by kernel_rfl)
theorem S0:TX 126 gC:=tx func126 (by kernel_rfl)
theorem am8:TX 127 akT:=tx func127 (by kernel_rfl)
theorem am9:TX 128 akU:=tx func128 (by kernel_rfl)
theorem ana:TX 129 akA:=tx func129 (by kernel_rfl)
theorem anb:TX 130 akO:=tx func130 (by kernel_rfl)
theorem S1:TX 131 i6:=tx func131 (by kernel_rfl)
theorem S2:TX 132 wV:=tx func132 (by kernel_rfl)
theorem S3:TX 133 rC:=tx func133 (by kernel_rfl)
theorem S4:TX 134 nK:=tx func134 (by kernel_rfl)
theorem S5:TX 135 qB:=tx func135 (by kernel_rfl)
theorem S6:TX 136 gN:=tx func136 (by kernel_rfl)
theorem S7:TX 137 sn:=tx func137 (by kernel_rfl)
theorem S8:TX 138 jn:=tx func138 (by kernel_rfl)
theorem S9:TX 139 iR:=tx func139 (by kernel_rfl)
theorem Ta:TX 140 fH:=tx func140 (by kernel_rfl)
theorem Tb:TX 141 cF:=tx func141 (by kernel_rfl)
theorem Tc:TX 142 i7:=tx func142 (by kernel_rfl)
theorem Td:TX 144 jo:=tx func144 (by kernel_rfl)
theorem Te:TX 145 iD:=tx func145 (by kernel_rfl)
theorem Tf:TX 146 eO:=tx func146 (by kernel_rfl)
theorem Tg:TX 147 jp:=tx func147 (by kernel_rfl)
theorem Th:TX 148 lX:=tx func148 (by kernel_rfl)
theorem Ti:TX 149 oH:=tx func149 (by kernel_rfl)
theorem Tj:TX 150 vF:=tx func150 (by kernel_rfl)
theorem Tk:TX 151 iE:=tx func151 (by kernel_rfl)
theorem Tl:TX 152 yH:=tx func152 (by kernel_rfl)
theorem Tm:TX 153 oI:=tx func153 (by kernel_rfl)
theorem Tn:TX 154 mj:=tx func154 (by kernel_rfl)
theorem To:TX 155 mL:=tx func155 (by kernel_rfl)
theorem Tp:TX 157 kU:=tx func157 (by kernel_rfl)
theorem Tq:TX 158 iS:=tx func158 (by kernel_rfl)
theorem Ts:TX 159 gQ:=tx func159 (by kernel_rfl)
theorem Tt:TX 160 iF:=tx func160 (by kernel_rfl)
theorem Tu:TX 161 dc:=tx func161 (by kernel_rfl)
theorem Tv:TX 162 ft:=tx func162 (by kernel_rfl)
theorem Tw:TX 163 l4:=tx func163 (by kernel_rfl)
theorem Tx:TX 164 mY:=tx func164 (by kernel_rfl)
theorem Ty:TX 165 mZ:=tx func165 (by kernel_rfl)
theorem Tz:TX 166 gr:=tx func166 (by kernel_rfl)
theorem TA:TX 167 vH:=tx func167 (by kernel_rfl)
theorem TB:TX 168 vI:=tx func168 (by kernel_rfl)
theorem TC:TX 169 gu:=tx func169 (by kernel_rfl)
theorem TD:TX 170 mn:=tx func170 (by kernel_rfl)
theorem TE:TX 171 iT:=tx func171 (by kernel_rfl)
theorem TF:TX 172 vJ:=tx func172 (by kernel_rfl)
theorem TG:TX 173 iG:=tx func173 (by kernel_rfl)
theorem TH:TX 174 gR:=tx func174 (by kernel_rfl)
theorem TI:TX 175 nL:=tx func175 (by kernel_rfl)
theorem TJ:TX 178 mo:=tx func178 (by kernel_rfl)
set_option maxRecDepth 100000 in
theorem HG:∀ p ∈ OU,TX p.1 p.2:=tc anA (tc ZN (tc ZO (tc akm (tc Ve (tc ann (tc ano (tc anp (tc ajZ (tc Vf (tc Vg (tc Vj (tc Vk (tc Vl (tc Vm (tc Vn (tc Vo (tc Vp (tc Vq (tc Vr (tc aj1 (tc aj2 (tc Vs (tc Vt (tc Vu (tc Vv (tc Vw (tc aj3 (tc aj4 (tc Vx (tc Vy (tc anq (tc anr (tc Vz (tc ans (tc ant (tc anu (tc aj7 (tc aj8 (tc VA (tc VB (tc VC (tc VD (tc aj9 (tc VJ (tc VK (tc VL (tc VM (tc VN (tc VO (tc VP (tc VQ (tc VR (tc akb (tc VS (tc VU (tc VV (tc VW (tc VX (tc VY (tc VZ (tc V0 (tc V1 (tc V2 (tc akc (tc akd (tc ake (tc akf (tc V3 (tc anv (tc V4 (tc V5 (tc V6 (tc V9 (tc Wa (tc Wb (tc SG (tc SH (tc SI (tc SJ (tc SK (tc SL (tc SM (tc SN (tc SO (tc SP (tc SQ (tc SR (tc SS (tc ST (tc SU (tc SV (tc ajD (tc ajE (tc ajF (tc ajG (tc SW (tc SX (tc SY (tc SZ (tc S0 (tc am8 (tc am9 (tc ana (tc anb (tc S1 (tc S2 (tc S3 (tc S4 (tc S5 (tc S6 (tc S7 (tc S8 (tc S9 (tc Ta (tc Tb (tc Tc (tc Td (tc Te (tc Tf (tc Tg (tc Th (tc Ti (tc Tj (tc Tk (tc Tl (tc Tm (tc Tn (tc To (tc Tp (tc Tq (tc Ts (tc Tt (tc Tu (tc Tv (tc Tw (tc Tx (tc Ty (tc Tz (tc TA (tc TB (tc TC (tc TD (tc TE (tc TF (tc TG (tc TH (tc TI (tc TJ (tn)))))))))))))))))))))))))))))))))))))))))))))))))))))))))))))))))))))))))))))))))))))))))))))))))))))))))))))))))))))))))))))))))))))))))))))))))))))
end Go.Ab
