/-
  A law of polynomials holds at every input that the statement speaks of, under the conditions that its card names. Part F1.
-/
import Derived.Test.YtaffadijdjgmdaaGreatDoorProg
import Derived.Shelf.Spec.TrailingZeros
import Derived.Test.YtaffadijdjgmdaaGreatDoorRows
import Derived.Deep.Strs
import Derived.ProofKit
import Derived.LaidMore
import Derived.OpenShut
import Derived.Carry
import Derived.Shelf.Strings.BuilderK
import Derived.WalkKit
import Derived.BigCall
import Derived.Lib.Overlaps
import Derived.Laws.Externs
import Derived.Shelf.Slices.Clone
import Derived.KernelRfl
import Derived.Test.YtaffadijdjgmdaaGreatDoorE1
open Nat renaming reduceEqDiff → ad7, reduceAdd → ad8, reduceMul → ad9, reduceLeDiff → aea, reduceBEq → aeb, reduceLT → aec, reduceSub → aee, reduceMod → akH
open Int renaming reduceLT → aed, reduceToNat → aef, reduceEq → akF, reduceLE → akG
namespace Go.Ab
open Go Go.IntWalk
set_option maxRecDepth 4000
set_option maxHeartbeats 1000000
theorem ahK {a:List Int} (h2:sm a):∀ (k i:Nat),i+k=a.length→∀ (s:af) (h:aa),s 0=.sl 1 (aY a)→s 3=I (bi (a.take i))→s 4=I i →
  aI 0 [3] (aU (az R (ab false) aeT) [0,3,4] [] s h)=some (.normal,⟨upd (fun _=>.any) 3 (I (bi a)),fun _=>.dead⟩):=by
 intro k
 induction k with
 | zero =>
  intro i hi s h h0 h3 h4
  have e1:((i:Int) < a.length)=False:=ff (by omega)
  rw [List.take_of_length_le (by omega)] at h3
  rw [aB]
  simp only [aeT,go_sem,↓reduceIte,ad7,h0,h3,h4,e1]
 | succ k ih =>
  intro i hi s h h0 h3 h4
  have hlt:i < a.length:=by omega
  obtain ⟨g1,g2⟩:=h2
  have e1:((i:Int) < a.length)=True:=tt (by omega)
  have e2:bH (aY a) (i:Int)=some (.ipt [I a[i]]):=qU rfl (List.getElem?_eq_getElem hlt)
  have e5:IntKind.i64.wrap ((i:Int)+1)=((i+1:Nat):Int):=wi (by omega) (by omega)
  have b1:=R5 (l:=a.take i) (fun x hx=>g2 x (List.mem_of_mem_take hx))
  have b2:=g2 a[i] (List.getElem_mem hlt)
  have b3:(a.take i).length≤1000:=by simp only [List.length_take]; omega
  have e6:IntKind.i64.wrap (bi (a.take i)+a[i])=bi (a.take (i+1)):=by
   rw [N4 hlt]
   exact i64_in _ ⟨by omega,by omega⟩
  have ih':=ih (i+1) (by omega)
  generalize a[i]=x at e2 e6 ⊢
  rw [aB]
  generalize aU _ _ _=L at ih' ⊢
  simp only [aeT,go_sem,↓reduceIte,ad7,h0,h3,h4,e1,e2,e5,e6]
  exact ih' _ _ rfl rfl rfl
theorem agM {a:List Int} (h2:sm a):R F.r23_sum [.sl 1 (aY a)] []=some (I (bi a),[]):=by
 refine aX ah1 ah0 (agC false) rfl ?_
 have h3:=ahK h2 a.length 0 (Nat.zero_add _)
 simp only [List.take_zero,bi,Int.natCast_zero] at h3
 simp only [ae6,afX,go_sem,↓reduceIte,ad7]
 rw [h3 _ _ rfl rfl rfl]
 simp only [go_sem,↓reduceIte]
theorem ahL {a b:List Int} (hl:a.length=b.length) (h2:a.length≤100000):∀ (k i:Nat),i+k=a.length→∀ (s:af) (h:aa),s 0=.sl 1 (aY a)→s 1=.sl 1 (aY b)→s 7=I i →
  ∃ hh,aI 0 [] (aU (az R (ab false) adz) [0,1,7] [] s h)=if gR (b.drop i) (a.drop i)=0 then some (.normal,⟨fun _=>.any,fun _=>.dead⟩) else some (.ret,⟨upd (fun _=>.any) 4 (I (gR (b.drop i) (a.drop i))),hh⟩):=by
 intro k
 induction k with
 | zero =>
  intro i hi s h h0 h1 h7
  have e1:((i:Int) < a.length)=False:=ff (by omega)
  rw [List.drop_eq_nil_of_le (by omega),List.drop_eq_nil_of_le (by omega),aB]
  refine ⟨fun _=>.dead,?_⟩
  show _=if (0:Int)=0 then _ else _
  rw [if_pos rfl]
  simp only [adz,go_sem,↓reduceIte,ad7,h0,h1,h7,e1]
 | succ k ih =>
  intro i hi s h h0 h1 h7
  have hlt:i < a.length:=by omega
  have hlt2:i < b.length:=by omega
  have e1:((i:Int) < a.length)=True:=tt (by omega)
  have e2:bH (aY a) (i:Int)=some (.ipt [I a[i]]):=qU rfl (List.getElem?_eq_getElem hlt)
  have e3:bH (aY b) (i:Int)=some (.ipt [I b[i]]):=qU rfl (List.getElem?_eq_getElem hlt2)
  have e5:IntKind.i64.wrap ((i:Int)+1)=((i+1:Nat):Int):=wi (by omega) (by omega)
  rw [List.drop_eq_getElem_cons hlt,List.drop_eq_getElem_cons hlt2,aB]
  have ih':=ih (i+1) (by omega)
  generalize a[i]=x at e2 ⊢
  generalize b[i]=y at e3 ⊢
  generalize aU _ _ _=L at ih' ⊢
  unfold gR
  rcases ke y x with ⟨g,e⟩ | ⟨g,e⟩ | ⟨g,e⟩
  ·have e6:(y < x)=True:=tt g
   simp only [e,↓reduceIte,akF,Int.reduceNeg]
   refine ⟨?hh1,?_⟩
   rotate_left
   simp only [adz,go_sem,↓reduceIte,ad7,h0,h1,h7,e1,e2,e3,e6]
   rfl
  ·have e6:(y < x)=False:=ff (by omega)
   have e7:(x < y)=False:=ff (by omega)
   simp only [e,↓reduceIte]
   simp only [adz,go_sem,↓reduceIte,ad7,h0,h1,h7,e1,e2,e3,e5,e6,e7]
   exact ih' _ _ rfl rfl rfl
  ·have e6:(y < x)=False:=ff (by omega)
   have e7:(x < y)=True:=tt (by omega)
   simp only [e,↓reduceIte,akF]
   refine ⟨?hh2,?_⟩
   rotate_left
   simp only [adz,go_sem,↓reduceIte,ad7,h0,h1,h7,e1,e2,e3,e6,e7]
   rfl
theorem afn {a b:List Int} (ha:sm a) (hb:sm b) (hl:a.length=b.length):R F.r23_Compare [.sl 1 (aY a),.sl 1 (aY b)] []=some (I (bt a b),[]):=by
 refine aX agb aga (afA false) rfl ?_
 have d1:=agM ha
 have d2:=agM hb
 have h3:=ahL hl (by have:=ha.1; omega) a.length 0 (Nat.zero_add _)
 simp only [List.drop_zero,Int.natCast_zero] at h3
 unfold bt
 rcases ke (bi a) (bi b) with ⟨g,e⟩ | ⟨g,e⟩ | ⟨g,e⟩
 ·have e6:(bi a < bi b)=True:=tt g
  rw [e,if_neg (by decide)]
  simp only [adA,aeA,go_sem,↓reduceIte,ad7,ad9,ad8,d1,d2,e6]
 ·have e6:(bi a < bi b)=False:=ff (by omega)
  have e7:(bi b < bi a)=False:=ff (by omega)
  rw [e,if_pos rfl]
  by_cases hz:gR b a=0
  ·simp only [if_pos hz] at h3
   simp only [adA,aeA,go_sem,↓reduceIte,ad7,ad9,ad8,d1,d2,e6,e7]
   rw [(h3 _ _ rfl rfl rfl).choose_spec,hz]
   simp only [go_sem,↓reduceIte]
  ·simp only [if_neg hz] at h3
   simp only [adA,aeA,go_sem,↓reduceIte,ad7,ad9,ad8,d1,d2,e6,e7]
   rw [(h3 _ _ rfl rfl rfl).choose_spec]
   simp only [go_sem,↓reduceIte]
 ·have e6:(bi a < bi b)=False:=ff (by omega)
  have e7:(bi b < bi a)=True:=tt (by omega)
  rw [e,if_neg (by decide)]
  simp only [adA,aeA,go_sem,↓reduceIte,ad7,ad9,ad8,d1,d2,e6,e7]
theorem aib {t:Rt} (h2:t.exps.length≤1000):∀ (k i:Nat),i+k=t.exps.length→(∀ x ∈ t.exps.take i,0≤x∧x≤32)→∀ (s:af) (h:aa),s 3=.ref 3 none 0 0 0→s 5=I (bi (t.exps.take i))→s 6=I i→h 3=.bx (bv t) →
  ∃ hh,aI 0 [5] (aU (az R (ab false) adw) [3,5,6] [3] s h)=if (t.exps.drop i).any rI=true then some (.ret,⟨upd (fun _=>.any) 4 (B false),hh⟩) else some (.normal,⟨upd (fun _=>.any) 5 (I (bi t.exps)),hh⟩):=by
 intro k
 induction k with
 | zero =>
  intro i hi hg s h h3 h5 h6 k3
  have e1:((i:Int) < t.exps.length)=False:=ff (by omega)
  rw [List.take_of_length_le (by omega)] at h5
  rw [List.drop_eq_nil_of_le (by omega),aB]
  simp only [bv] at k3
  refine ⟨?hh,?_⟩
  rotate_left
  show _=if false=true then _ else _
  rw [if_neg Bool.false_ne_true]
  simp only [adw,go_sem,↓reduceIte,ad7,ad9,ad8,aeb,h3,h5,h6,k3,e1]
  rfl
 | succ k ih =>
  intro i hi hg s h h3 h5 h6 k3
  have hlt:i < t.exps.length:=by omega
  have e1:((i:Int) < t.exps.length)=True:=tt (by omega)
  have e2:bH (aY t.exps) (i:Int)=some (.ipt [I t.exps[i]]):=qU rfl (List.getElem?_eq_getElem hlt)
  have e5:IntKind.i64.wrap ((i:Int)+1)=((i+1:Nat):Int):=wi (by omega) (by omega)
  have b1:=R5 hg
  have b3:(t.exps.take i).length≤1000:=by simp only [List.length_take]; omega
  have ih':=ih (i+1) (by omega)
  have htk:t.exps.take (i+1)=t.exps.take i++[t.exps[i]]:=by rw [List.take_add_one,List.getElem?_eq_getElem hlt]; rfl
  have hst:=N4 hlt
  rw [List.drop_eq_getElem_cons hlt,List.any_cons,aB]
  simp only [bv] at k3
  rw [hst] at ih'
  rw [htk] at ih'
  generalize t.exps[i]=x at e2 ih' ⊢
  generalize aU _ _ _=L at ih' ⊢
  unfold rI at ih' ⊢
  by_cases g1:x < 0
  ·have e6:(x < 0)=True:=tt g1
   simp only [decide_eq_true g1,Bool.true_or]
   refine ⟨?hh1,?_⟩
   rotate_left
   rw [if_pos trivial]
   simp only [adw,go_sem,↓reduceIte,ad7,ad9,ad8,aeb,h3,h5,h6,k3,e1,e2,e6]
   rfl
  ·have e6:(x < 0)=False:=ff g1
   by_cases g2:32 < x
   ·have e7:(32 < x)=True:=tt g2
    simp only [decide_eq_false g1,decide_eq_true g2,Bool.false_or,Bool.true_or]
    refine ⟨?hh2,?_⟩
    rotate_left
    rw [if_pos trivial]
    simp only [adw,go_sem,↓reduceIte,ad7,ad9,ad8,aeb,h3,h5,h6,k3,e1,e2,e6,e7]
    rfl
   ·have e7:(32 < x)=False:=ff g2
    simp only [decide_eq_false g1,decide_eq_false g2,Bool.false_or]
    have e8:IntKind.i64.wrap (bi (t.exps.take i)+x)=bi (t.exps.take i)+x:=i64_in _ ⟨by omega,by omega⟩
    simp only [adw,go_sem,↓reduceIte,ad7,ad9,ad8,aeb,h3,h5,h6,k3,e1,e2,e5,e6,e7,e8]
    exact ih' (fun y hy=>by
     rcases List.mem_append.1 hy with h | h
     ·exact hg y h
     ·rw [List.mem_singleton.1 h]
      omega) _ _ rfl rfl rfl rfl
theorem aic {v:Int} {t:Rt} (ok:OkT t) (hv:v≤1000):R F.r23_term [I v,.agg (bv t)] []=some (B (Da v t),[]):=by
 refine aX ahz ahy (af9 false) rfl ?_
 have hvd:=ae1 ok.c
 simp only [aF,aW] at hvd
 unfold Da
 by_cases c1:(t.exps.length:Int)=v
 ·have f1:((t.exps.length:Int)=v)=True:=tt c1
  rw [decide_eq_true c1,Bool.true_and]
  cases c2:vd t.c with
  | false =>
   rw [c2] at hvd
   rw [Bool.false_and]
   simp only [adH,aeK,bv,go_sem,↓reduceIte,ad7,ad9,ad8,aea,f1,hvd]
  | true =>
   rw [c2] at hvd
   rw [Bool.true_and]
   by_cases c3:t.c.m.length=0
   ·have f3:((t.c.m.length:Int)=0)=True:=tt (by omega)
    rw [decide_eq_false (p:=t.c.m.length ≠ 0) (fun h=>h c3),Bool.false_and]
    simp only [adH,aeK,bv,go_sem,↓reduceIte,ad7,ad9,ad8,aea,f1,hvd,f3]
   ·have f3:((t.c.m.length:Int)=0)=False:=ff (by omega)
    rw [decide_eq_true (p:=t.c.m.length ≠ 0) c3,Bool.true_and]
    have hL:=aib (t:=t) (by omega) t.exps.length 0 (Nat.zero_add _) (fun x hx=>by rw [List.take_zero] at hx; exact nomatch hx)
    simp only [List.drop_zero,List.take_zero,bi,Int.natCast_zero] at hL
    generalize hLL:aU (az R (ab false) adw) [3,5,6] [3]=L at hL
    have hX:∀ s h,az R (ab false) (.loop [3,5,6] [3] adw) s h=L s h:=fun s h=>by rw [← hLL]; rfl
    clear hLL
    have hL2:∀ (S:af) (H:aa) (X:Option (Ex × St)),aI 0 [5] (L S H)=X→S 3=.ref 3 none 0 0 0→S 5=I 0→S 6=I 0→H 3=.bx (bv t)→∃ hh,X=if t.exps.any rI=true then some (.ret,⟨upd (fun _=>.any) 4 (B false),hh⟩) else some (.normal,⟨upd (fun _=>.any) 5 (I (bi t.exps)),hh⟩):=fun S H X hX=>by
     rw [← hX]
     exact hL S H
    simp only [bv] at hL2
    cases c4:t.exps.any rI with
    | true =>
     simp only [c4] at hL2
     rw [Bool.not_true,Bool.false_and]
     simp only [adH,aeK,hX,bv,go_sem,↓reduceIte,ad7,ad9,ad8,aea,f1,hvd,f3]
     generalize hB:aI 0 [5] (L _ _)=X
     obtain ⟨hh,g0⟩:=hL2 _ _ _ hB rfl rfl rfl rfl
     rw [g0]
     simp only [go_sem,↓reduceIte]
    | false =>
     simp only [c4,if_neg Bool.false_ne_true] at hL2
     rw [Bool.not_false,Bool.true_and]
     simp only [adH,aeK,hX,bv,go_sem,↓reduceIte,ad7,ad9,ad8,aea,f1,hvd,f3]
     generalize hB:aI 0 [5] (L _ _)=X
     obtain ⟨hh,g0⟩:=hL2 _ _ _ hB rfl rfl rfl rfl
     rw [g0]
     simp only [go_sem,↓reduceIte]
 ·have f1:((t.exps.length:Int)=v)=False:=ff c1
  rw [decide_eq_false c1,Bool.false_and]
  simp only [adH,aeK,bv,go_sem,↓reduceIte,ad7,ad9,ad8,f1]
theorem aid {a:Rp} (ok:OkP a) (hv:a.vars≤8) (h2:a.terms.length≤500):∀ (k i:Nat),i+k=a.terms.length→∀ (pr:Option Rt),(i=0→pr=none)→(0 < i→∃ q,pr=some q∧a.terms[i - 1]?=some q∧Da a.vars q=true) →
  ∀ (s:af) (h:aa),s 1=.ref 1 none 0 0 0→s 3=I i→h 1=.bx [I a.vars,.sl 4 (ax a.terms)] →
  ∃ hh,aI 0 [] (aU (az R (ab false) ady) [1,3] [1] s h)=if tL a.vars pr (a.terms.drop i)=true then some (.normal,⟨fun _=>.any,hh⟩) else some (.ret,⟨upd (fun _=>.any) 2 (B false),hh⟩):=by
 intro k
 induction k with
 | zero =>
  intro i hi pr p0 p1 s h h1 h3 k1
  have e1:((i:Int) < a.terms.length)=False:=ff (by omega)
  rw [List.drop_eq_nil_of_le (by omega),aB]
  refine ⟨?hh0,?_⟩
  rotate_left
  show _=if true=true then _ else _
  rw [if_pos rfl]
  simp only [ady,go_sem,↓reduceIte,ad7,ad9,ad8,aeb,h1,h3,k1,e1]
  rfl
 | succ k ih =>
  intro i hi pr p0 p1 s h h1 h3 k1
  have hlt:i < a.terms.length:=by omega
  have e1:((i:Int) < a.terms.length)=True:=tt (by omega)
  have e2:bH (ax a.terms) (i:Int)=some (.ipt (bv a.terms[i])):=jq rfl (List.getElem?_eq_getElem hlt)
  have e5:IntKind.i64.wrap ((i:Int)+1)=((i+1:Nat):Int):=wi (by omega) (by omega)
  have okt:=ok.t a.terms[i] (List.getElem_mem hlt)
  have hnext:a.terms[i+1 - 1]?=some a.terms[i]:=List.getElem?_eq_getElem hlt
  rw [List.drop_eq_getElem_cons hlt,aB]
  have ih':=ih (i+1) (by omega) (some a.terms[i]) (fun h=>absurd h (Nat.succ_ne_zero _))
  generalize a.terms[i]=t at e2 okt ih' hnext ⊢
  generalize aU _ _ _=L at ih' ⊢
  have htm:=aic okt (v:=a.vars) (by omega)
  simp only [bv] at e2 htm
  unfold tL
  cases hb:Da a.vars t with
  | false =>
   rw [hb] at htm
   simp only [Bool.false_and,if_neg Bool.false_ne_true]
   refine ⟨?hh2,?_⟩
   rotate_left
   simp only [ady,go_sem,↓reduceIte,ad7,ad9,ad8,aea,aec,aeb,h1,h3,k1,e1,e2,htm]
   rfl
  | true =>
   rw [hb] at htm
   obtain ⟨c1,c2,c3,c4,c5⟩:=Br hb
   simp only [Bool.true_and]
   by_cases hi0:i=0
   ·have f6:(0 < (i:Int))=False:=ff (by omega)
    rw [p0 hi0]
    simp only [Hb,Bool.true_and]
    simp only [ady,go_sem,↓reduceIte,ad7,ad9,ad8,aea,aec,aeb,h1,h3,k1,e1,e2,htm,f6,e5]
    exact ih' (fun _=>⟨t,rfl,hnext,hb⟩) _ _ rfl rfl rfl
   ·have f6:(0 < (i:Int))=True:=tt (by omega)
    obtain ⟨q,q1,q2,q3⟩:=p1 (by omega)
    obtain ⟨d1,d2,d3,d4,d5⟩:=Br q3
    rw [q1]
    have e7:IntKind.i64.wrap ((i:Int) - 1)=((i - 1:Nat):Int):=wi (by omega) (by omega)
    have e8:bH (ax a.terms) ((i - 1:Nat):Int)=some (.ipt (bv q)):=jq rfl q2
    simp only [bv] at e8
    have ho:=afn (a:=q.exps) (b:=t.exps) ⟨by omega,qV d4⟩ ⟨by omega,qV c4⟩ (by omega)
    simp only [Hb]
    by_cases c6:bt q.exps t.exps < 0
    ·have f7:(0≤bt q.exps t.exps)=False:=ff (by omega)
     simp only [decide_eq_true c6,Bool.true_and]
     simp only [ady,go_sem,↓reduceIte,ad7,ad9,ad8,aea,aec,aeb,h1,h3,k1,e1,e2,htm,f6,e5,e7,e8,ho,f7]
     exact ih' (fun _=>⟨t,rfl,hnext,hb⟩) _ _ rfl rfl rfl
    ·have f7:(0≤bt q.exps t.exps)=True:=tt (by omega)
     simp only [decide_eq_false c6,Bool.false_and,if_neg Bool.false_ne_true]
     refine ⟨?hh7,?_⟩
     rotate_left
     simp only [ady,go_sem,↓reduceIte,ad7,ad9,ad8,aea,aec,aeb,h1,h3,k1,e1,e2,htm,f6,e7,e8,ho,f7]
     rfl
theorem afM {a:Rp} (ok:OkP a):R F.r23_Valid [aZ a] []=some (B (vp a),[]):=by
 refine aX ag0 agZ (afO false) rfl ?_
 unfold vp
 by_cases c1:0≤a.vars
 ·have f1:(a.vars < 0)=False:=ff (by omega)
  rw [decide_eq_true c1,Bool.true_and]
  by_cases c2:a.vars≤8
  ·have f2:(8 < a.vars)=False:=ff (by omega)
   rw [decide_eq_true c2,Bool.true_and]
   by_cases c3:a.terms.length≤500
   ·have f3:(500 < (a.terms.length:Int))=False:=ff (by omega)
    rw [decide_eq_true c3,Bool.true_and]
    have h3:=aid ok c2 c3 a.terms.length 0 (Nat.zero_add _) none (fun _=>rfl) (fun h=>absurd h (Nat.lt_irrefl _))
    simp only [List.drop_zero,Int.natCast_zero] at h3
    cases hb:tL a.vars none a.terms with
    | true =>
     rw [hb] at h3
     simp only [] at h3
     simp only [adC,aeB,aZ,go_sem,↓reduceIte,ad7,ad9,ad8,f1,f2,f3]
     rw [(h3 _ _ rfl rfl rfl).choose_spec]
     simp only [go_sem,↓reduceIte]
    | false =>
     rw [hb] at h3
     simp only [if_neg Bool.false_ne_true] at h3
     simp only [adC,aeB,aZ,go_sem,↓reduceIte,ad7,ad9,ad8,f1,f2,f3]
     rw [(h3 _ _ rfl rfl rfl).choose_spec]
     simp only [go_sem,↓reduceIte]
   ·have f3:(500 < (a.terms.length:Int))=True:=tt (by omega)
    rw [decide_eq_false c3,Bool.false_and]
    simp only [adC,aeB,aZ,go_sem,↓reduceIte,ad7,ad9,ad8,f1,f2,f3]
  ·have f2:(8 < a.vars)=True:=tt (by omega)
   rw [decide_eq_false c2,Bool.false_and]
   simp only [adC,aeB,aZ,go_sem,↓reduceIte,ad7,ad9,ad8,f1,f2]
 ·have f1:(a.vars < 0)=True:=tt (by omega)
  rw [decide_eq_false c1,Bool.false_and]
  simp only [adC,aeB,aZ,go_sem,↓reduceIte,ad7,ad9,ad8,f1]
end Go.Ab
namespace Go.Ab
open Go Go.IntWalk
set_option maxRecDepth 4000
set_option maxHeartbeats 1000000
end Go.Ab
namespace Go.Ab
open Go Go.IntWalk
set_option maxRecDepth 4000
set_option maxHeartbeats 1000000
structure Len1 (x:Ri):Prop where
 lo:Lb x.lo.m∧x.lo.m.length≤100000
 hi:Lb x.hi.m∧x.hi.m.length≤100000
def VI (x:Ri):Prop:=(vd x.lo=true∧Ok0 x.lo)∧(vd x.hi=true∧Ok0 x.hi)
theorem VI.len {x:Ri} (h:VI x):Len1 x:=⟨⟨h.1.2.1,Nat.le_trans (xj h.1.1 h.1.2.1) (by decide)⟩,⟨h.2.2.1,Nat.le_trans (xj h.2.1 h.2.2.1) (by decide)⟩⟩
end Go.Ab
namespace Go.Ab
open Go Go.IntWalk
set_option maxRecDepth 4000
set_option maxHeartbeats 1000000
def iJ (a:Rp):Int:=if vp a=true then (match a.terms.getLast? with | none=>-1 | some t=>bi t.exps) else -1
theorem Kt {a:Rp} (h:vp a=true):0≤a.vars∧a.vars≤8∧a.terms.length≤500∧tL a.vars none a.terms=true:=by
 simp only [vp,Bool.and_eq_true,decide_eq_true_eq] at h
 exact ⟨h.1,h.2.1,h.2.2.1,h.2.2.2⟩
theorem Qe {a:Rp} (h:vp a=true) {t:Rt} (ht:t ∈ a.terms):sm t.exps∧(t.exps.length:Int)=a.vars∧vd t.c=true∧t.c.m.length ≠ 0∧bi t.exps≤32:=by
 obtain ⟨v1,v2,v3,v4⟩:=Kt h
 obtain ⟨c1,c2,c3,c4,c5⟩:=Br (Qd _ _ v4 t ht)
 exact ⟨⟨by omega,qV c4⟩,c1,c2,c3,c5⟩
theorem Db {a:Rp} (ok:OkP a):R F.poly_Degree [aZ a] []=some (I (iJ a),[]):=by
 refine aX DE DD (yQ false) rfl ?_
 have hv:=nM ok
 unfold iJ
 simp only [aZ] at hv
 cases hb:vp a with
 | false =>
  rw [hb] at hv
  rw [if_neg Bool.false_ne_true]
  simp only [gu,mP,aZ,go_sem,↓reduceIte,ad7,ad9,ad8,aea,hv]
 | true =>
  rw [hb] at hv
  rw [if_pos rfl]
  obtain ⟨v1,v2,v3,v4⟩:=Kt hb
  by_cases h0:a.terms.length=0
  ·have e1:((a.terms.length:Int)=0)=True:=tt (by omega)
   have e4:a.terms.getLast?=none:=by
    rw [List.length_eq_zero_iff.1 h0]
    rfl
   rw [e4]
   simp only [gu,mP,aZ,go_sem,↓reduceIte,ad7,ad9,ad8,aea,hv,e1]
  ·have e1:((a.terms.length:Int)=0)=False:=ff (by omega)
   have e2:IntKind.i64.wrap ((a.terms.length:Int) - 1)=((a.terms.length - 1:Nat):Int):=by rw [i64_in] <;> omega
   have hlt:a.terms.length - 1 < a.terms.length:=by omega
   have e3:bH (ax a.terms) ((a.terms.length - 1:Nat):Int)=some (.ipt (bv a.terms[a.terms.length - 1])):=jq rfl (List.getElem?_eq_getElem hlt)
   have e4:a.terms.getLast?=some a.terms[a.terms.length - 1]:=by rw [List.getLast?_eq_getElem?,List.getElem?_eq_getElem hlt]
   obtain ⟨c1,c2,c3,c4,c5⟩:=Qe hb (List.getElem_mem hlt)
   rw [e4]
   generalize a.terms[a.terms.length - 1]=t at e3 c1 c2 c3 c4 c5 ⊢
   have hd:=qj c1
   simp only [bv] at e3
   simp only [gu,mP,aZ,go_sem,↓reduceIte,ad7,ad9,ad8,aea,hv,e1,e2,e3,hd]
end Go.Ab
namespace Go.Ab
open Go Go.IntWalk
set_option maxRecDepth 4000
set_option maxHeartbeats 1000000
def rdE:Option Rd→List AV
 | none=>[B false,.emp,I 0]
 | some d=>aW d
def XJ (l:List (Option Rd)):List (List AV):=l.map rdE
@[go_sem] theorem abI (l:List (Option Rd)):(XJ l).length=l.length:=by simp [XJ]
end Go.Ab
namespace Go.Ab
open Go Go.IntWalk
set_option maxRecDepth 4000
set_option maxHeartbeats 1000000
def nn (a b:Rd):Rd × Int:=if (vd a && vd b)=true then et (gj (zI a*zI b) (-32768)) else (el,1)
def iK (a b:Rd):Rd × Int:=if (vd a && vd b)=true then et (gj (zI a+zI b) (-16384)) else (el,1)
theorem IQ {z f:Int}:vd (et (gj z f)).1=true∧Ok0 (et (gj z f)).1:=by
 unfold et gj
 by_cases h:sk (aq (ac (cB (decide (z < 0)) z.natAbs f).m)) (cB (decide (z < 0)) z.natAbs f).e=true
 ·rw [if_pos h]
  have hv:=Qb h
  have hb:=Cs (decide (z < 0)) z.natAbs f
  exact ⟨hv,hb,Nat.lt_of_le_of_lt (xj hv hb) (by decide)⟩
 ·rw [if_neg h]
  exact G8
theorem Qf (a b:Rd):vd (iK a b).1=true∧Ok0 (iK a b).1:=by
 unfold iK
 split
 ·exact IQ
 ·exact G8
theorem xR {d:Rd} (h:vd d=true) (h0:d.m.length ≠ 0):ac d.m % 2=1:=by
 obtain ⟨h1,h2,h3,h4⟩:=rH h h0
 cases hm:d.m with
 | nil=>rw [hm] at h0; exact absurd rfl h0
 | cons x l =>
  rw [hm] at h2
  have h2':x % 2=1:=h2
  show (x+4294967296*ac l) % 2=1
  omega
theorem Hc {x y:Nat} (hx:x ≠ 0) (hy:y ≠ 0):aq x+aq y - 2 < aq (x*y):=by
 have h1:=lD hx
 have h2:=lD hy
 have h3:2 ^ (aq x - 1)≤x:=kw.1 (by omega)
 have h4:2 ^ (aq y - 1)≤y:=kw.1 (by omega)
 rw [kw,show aq x+aq y - 2=(aq x - 1)+(aq y - 1) by omega,Nat.pow_add]
 exact Nat.mul_le_mul h3 h4
theorem Qg {a b:Rd} (oa:Ok0 a) (ob:Ok0 b):EP a b=rV (nn a b):=by
 unfold EP nn
 by_cases hv:vd a=true∧vd b=true
 ·obtain ⟨va,vb⟩:=hv
  rw [if_pos ⟨va,vb⟩,va,vb,Bool.true_and,if_pos rfl,← LQ oa ob va vb]
  by_cases h0:a.m.length=0∨b.m.length=0
  ·rw [if_pos h0]
   have:ac a.m*ac b.m=0:=by
    rcases h0 with h0 | h0
    ·rw [List.length_eq_zero_iff.1 h0]
     exact Nat.zero_mul _
    ·rw [List.length_eq_zero_iff.1 h0]
     exact Nat.mul_zero _
   rw [this,jx]
   rfl
  ·rw [if_neg h0]
   have a0:a.m.length ≠ 0:=fun h=>h0 (.inl h)
   have b0:b.m.length ≠ 0:=fun h=>h0 (.inr h)
   have x0:=iF va a0
   have y0:=iF vb b0
   by_cases hb:4096 < aq (ac a.m)+aq (ac b.m) - 1
   ·rw [if_pos hb]
    have h1:=Hc x0 y0
    have ho:ac a.m*ac b.m % 2=1:=by rw [Nat.mul_mod,xR va a0,xR vb b0]
    have ht:=LP ho 0
    rw [Nat.pow_zero,Nat.mul_one] at ht
    obtain ⟨g1,g2,g3,g4⟩:=uU (neg:=a.neg != b.neg) (e:=a.e+b.e) (Nat.mul_ne_zero x0 y0)
    unfold et
    rw [if_neg]
    ·rfl
    ·intro h2
     rw [g1,ht,Nat.pow_zero,Nat.div_one] at h2
     have h3:=(tI h2 (by omega)).1
     omega
   ·rw [if_neg hb]
    exact IN _
 ·rw [if_neg hv,if_neg]
  ·rfl
  ·intro h
   rw [Bool.and_eq_true] at h
   exact hv h
theorem Qh {a b:Rd} (oa:Ok0 a) (ob:Ok0 b):R F.dyadic_Mul [aF a,aF b] []=some (rV (nn a b),[]):=by
 rw [← Qg oa ob]
 exact P9 oa ob
end Go.Ab
namespace Go.Ab
open Go Go.IntWalk
set_option maxRecDepth 4000
set_option maxHeartbeats 1000000
end Go.Ab
namespace Go.Ab
open Go Go.IntWalk
set_option maxRecDepth 4000
theorem IR {z:Int} {j:Nat} (h:(et (gj z (-16384 - j))).2=0):zI (et (gj z (-16384 - j))).1*2 ^ j=z:=by
 unfold et at h ⊢
 by_cases hr:sk (aq (ac (gj z (-16384 - j)).m)) (gj z (-16384 - j)).e=true
 ·rw [if_pos hr]
  show zI (gj z (-16384 - j))*2 ^ j=z
  unfold gj at hr ⊢
  by_cases h0:z.natAbs=0
  ·rw [h0,jx]
   have:z=0:=by omega
   rw [this,qT rfl,Int.zero_mul]
  ·obtain ⟨g1,g2,g3,g4⟩:=uU (neg:=decide (z < 0)) (e:=-16384 - (j:Int)) h0
   obtain ⟨t1,t2⟩:=tv h0
   have hp:aq (ac (cB (decide (z < 0)) z.natAbs (-16384 - j)).m) ≠ 0:=by
    rw [g1]
    exact Nat.pos_iff_ne_zero.1 (lD (by omega))
   have he:=tI hr hp
   rw [g2] at he
   rw [nj h0]
   unfold zI mg
   rw [bI]
   have ht:(-16384 - (j:Int)+(tz z.natAbs:Nat)+16384).toNat+j=tz z.natAbs:=by omega
   generalize (-16384 - (j:Int)+(tz z.natAbs:Nat)+16384).toNat=k at ht ⊢
   have hm:(((z.natAbs / 2 ^ tz z.natAbs*2 ^ k:Nat):Int))*2 ^ j=z.natAbs:=by
    have:z.natAbs / 2 ^ tz z.natAbs*2 ^ k*2 ^ j=z.natAbs:=by
     rw [Nat.mul_assoc,← Nat.pow_add,ht,Nat.mul_comm]
     exact t1.symm
    have h3:=congrArg (Nat.cast (R:=Int)) this
    rw [Int.natCast_mul,Int.natCast_pow] at h3
    exact h3
   show (if decide (z < 0)=true then -(((z.natAbs / 2 ^ tz z.natAbs*2 ^ k:Nat):Int)) else ((z.natAbs / 2 ^ tz z.natAbs*2 ^ k:Nat):Int))*2 ^ j=z
   by_cases hz:z < 0
   ·rw [decide_eq_true hz,if_pos rfl,Int.neg_mul,hm]
    omega
   ·rw [decide_eq_false hz,if_neg Bool.false_ne_true,hm]
    omega
 ·rw [if_neg hr] at h
  exact absurd h (show ((9:Int)=0)→False by decide)
end Go.Ab
namespace Go.Ab
open Go Go.IntWalk
set_option maxRecDepth 4000
set_option maxHeartbeats 1000000
theorem ahg {d:Rd} (ok:Ok0 d):R F.r02_Checked [aF d] []=some (rV (if vd d=true then (d,0) else (el,9)),[]):=by
 refine aX age agd (afB false) rfl ?_
 have hv:=ae1 ok
 simp only [aF,aW] at hv
 cases hb:vd d with
 | false =>
  rw [hb] at hv
  rw [if_neg Bool.false_ne_true]
  simp only [aeq,ae2,rV,aF,aW,el,go_sem,↓reduceIte,ad7,ad9,ad8,aea,hv]
 | true =>
  rw [hb] at hv
  rw [if_pos rfl]
  simp only [aeq,ae2,rV,aF,aW,go_sem,↓reduceIte,ad7,ad9,ad8,aea,hv]
theorem aiB (z f:Int):(if vd (gj z f)=true then (gj z f,(0:Int)) else (el,9))=et (gj z f):=by
 unfold et
 by_cases h:sk (aq (ac (gj z f).m)) (gj z f).e=true
 ·rw [if_pos h,if_pos (show vd (gj z f)=true from Qb h)]
 ·rw [if_neg h,if_neg]
  intro h2
  by_cases h0:(gj z f).m.length=0
  ·rw [xQ h2 h0] at h
   exact h (by decide)
  ·exact h (rH h2 h0).2.2.2
theorem amM {z f:Int} {k:Nat} (h:aq z.natAbs≤32*k) (hk:k≤100000):Ok0 (gj z f) :=
 ⟨Cs _ _ _,Nat.lt_of_le_of_lt (G6 (k:=k) h) (by omega)⟩
theorem ahl {a b:Rd} (oa:Ok0 a) (ob:Ok0 b):R F.r02_Mul [aF a,aF b] []=some (rV (nn a b),[]):=by
 refine aX ahV ahU (agv false) rfl ?_
 have ha:=ae1 oa
 have hb:=ae1 ob
 unfold nn
 simp only [aF,aW] at ha hb
 cases va:vd a with
 | false =>
  rw [va] at ha
  rw [Bool.false_and,if_neg Bool.false_ne_true]
  simp only [aeJ,ae8,rV,aF,aW,el,go_sem,↓reduceIte,ad7,ad9,ad8,aea,ha]
 | true =>
  rw [va] at ha
  cases vb:vd b with
  | false =>
   rw [vb] at hb
   rw [Bool.true_and,if_neg Bool.false_ne_true]
   simp only [aeJ,ae8,rV,aF,aW,el,go_sem,↓reduceIte,ad7,ad9,ad8,aea,ha,hb]
  | true =>
   rw [vb] at hb
   rw [Bool.true_and,if_pos rfl]
   have hp:=ahf oa ob va vb
   rw [LQ oa ob va vb] at hp
   have hl:Ok0 (gj (zI a*zI b) (-32768)):=by
    rw [← LQ oa ob va vb]
    have h1:=G5 (ac a.m) (ac b.m)
    obtain ⟨_,_,_,h2⟩:=j8 va oa.lb
    obtain ⟨_,_,_,h3⟩:=j8 vb ob.lb
    exact ⟨Cs _ _ _,Nat.lt_of_le_of_lt (G6 (k:=256) (by omega)) (by decide)⟩
   have hc:=ahg hl
   rw [aiB] at hc
   generalize et (gj (zI a*zI b) (-32768))=r at hc ⊢
   generalize gj (zI a*zI b) (-32768)=d at hp hc
   simp only [rV,aF,aW] at hp hc
   simp only [aeJ,ae8,rV,aF,aW,go_sem,↓reduceIte,ad7,ad9,ad8,aea,ha,hb,hp,hc]
theorem amN {a b:Rd} (oa:Ok0 a) (ob:Ok0 b):R F.r02_Add [aF a,aF b] []=some (rV (iK a b),[]):=by
 refine aX ame amd (alJ false) rfl ?_
 have ha:=ae1 oa
 have hb:=ae1 ob
 unfold iK
 simp only [aF,aW] at ha hb
 cases va:vd a with
 | false =>
  rw [va] at ha
  rw [Bool.false_and,if_neg Bool.false_ne_true]
  simp only [akC,akW,rV,aF,aW,el,go_sem,↓reduceIte,ad7,ad9,ad8,aea,ha]
 | true =>
  rw [va] at ha
  cases vb:vd b with
  | false =>
   rw [vb] at hb
   rw [Bool.true_and,if_neg Bool.false_ne_true]
   simp only [akC,akW,rV,aF,aW,el,go_sem,↓reduceIte,ad7,ad9,ad8,aea,ha,hb]
  | true =>
   rw [vb] at hb
   rw [Bool.true_and,if_pos rfl]
   have hp:=amL oa ob va vb
   have hl:Ok0 (gj (zI a+zI b) (-16384)):=amM (k:=2000) (Nat.le_trans (alj (alY oa va) (alY ob vb)) (by decide)) (by decide)
   have hc:=ahg hl
   rw [aiB] at hc
   generalize et (gj (zI a+zI b) (-16384))=r at hc ⊢
   generalize gj (zI a+zI b) (-16384)=d at hp hc
   simp only [rV,aF,aW] at hp hc
   simp only [akC,akW,rV,aF,aW,go_sem,↓reduceIte,ad7,ad9,ad8,aea,ha,hb,hp,hc]
end Go.Ab
namespace Go.Ab
open Go Go.IntWalk
set_option maxRecDepth 4000
set_option maxHeartbeats 1000000
abbrev zb:List AV:=[B false,.emp,I 0]
end Go.Ab
namespace Go.Ab
open Go Go.IntWalk
set_option maxRecDepth 4000
set_option maxHeartbeats 1000000
end Go.Ab
namespace Go.Ab
open Go Go.IntWalk
set_option maxRecDepth 4000
set_option maxHeartbeats 1000000
theorem anF {a:Rp} (ok:OkP a):R F.r23_Degree [aZ a] []=some (I (iJ a),[]):=by
 refine aX anD anC (anB false) rfl ?_
 have hv:=afM ok
 unfold iJ
 simp only [aZ] at hv
 cases hb:vp a with
 | false =>
  rw [hb] at hv
  rw [if_neg Bool.false_ne_true]
  simp only [amG,am5,aZ,go_sem,↓reduceIte,ad7,ad9,ad8,aea,hv]
 | true =>
  rw [hb] at hv
  rw [if_pos rfl]
  obtain ⟨v1,v2,v3,v4⟩:=Kt hb
  by_cases h0:a.terms.length=0
  ·have e1:((a.terms.length:Int)=0)=True:=tt (by omega)
   have e4:a.terms.getLast?=none:=by
    rw [List.length_eq_zero_iff.1 h0]
    rfl
   rw [e4]
   simp only [amG,am5,aZ,go_sem,↓reduceIte,ad7,ad9,ad8,aea,hv,e1]
  ·have e1:((a.terms.length:Int)=0)=False:=ff (by omega)
   have e2:IntKind.i64.wrap ((a.terms.length:Int) - 1)=((a.terms.length - 1:Nat):Int):=by rw [i64_in] <;> omega
   have hlt:a.terms.length - 1 < a.terms.length:=by omega
   have e3:bH (ax a.terms) ((a.terms.length - 1:Nat):Int)=some (.ipt (bv a.terms[a.terms.length - 1])):=jq rfl (List.getElem?_eq_getElem hlt)
   have e4:a.terms.getLast?=some a.terms[a.terms.length - 1]:=by rw [List.getLast?_eq_getElem?,List.getElem?_eq_getElem hlt]
   obtain ⟨c1,c2,c3,c4,c5⟩:=Qe hb (List.getElem_mem hlt)
   rw [e4]
   generalize a.terms[a.terms.length - 1]=t at e3 c1 c2 c3 c4 c5 ⊢
   have hd:=agM c1
   simp only [bv] at e3
   simp only [amG,am5,aZ,go_sem,↓reduceIte,ad7,ad9,ad8,aea,hv,e1,e2,e3,hd]
end Go.Ab
namespace Go.Ab
open Go Go.IntWalk
set_option maxRecDepth 4000
set_option maxHeartbeats 1000000
end Go.Ab
namespace Go.Ab
open Go Go.IntWalk
set_option maxRecDepth 4000
set_option maxHeartbeats 1000000
@[go_sem] theorem abJ (l:List Rd):(LM l).map (ce [.o 0 [],.o 2 [],.o 0 []])=LM l:=by
 refine qk fun x hx=>?_
 simp only [LM,List.mem_map] at hx
 obtain ⟨t,ht,rfl⟩:=hx
 simp only [aW,go_sem]
end Go.Ab
namespace Go.Ab
open Go Go.IntWalk
set_option maxRecDepth 4000
set_option maxHeartbeats 1000000
theorem Hd {d:Rd} (h:vd d=true):et d=(d,0):=by
 unfold et
 by_cases h0:d.m.length=0
 ·rw [xQ h h0]
  rfl
 ·rw [if_pos (rH h h0).2.2.2]
theorem Dc {d:Rd} (ok:Ok0 d) (h:vd d=true):cB d.neg (ac d.m) d.e=d:=by
 have h1:=tN ok h
 obtain ⟨g1,g2,g3,g4⟩:=j8 h ok.lb
 have hz:zI d=fR d.neg (mg d):=rfl
 rw [hz,← tM] at h1
 unfold mg at h1
 rw [oK,show -16384+(((d.e+16384).toNat:Nat):Int)=d.e by omega] at h1
 exact h1
theorem IS {N k:Nat} {neg:Bool} (ho:N % 2=1) (hb:4096 < aq N):et (cB neg (N*2 ^ k) (-16384))=(el,9):=by
 have h0:N ≠ 0:=by omega
 rw [oK]
 obtain ⟨g1,g2,g3,g4⟩:=uU (neg:=neg) (e:=-16384+(k:Int)) h0
 have ht:=LP ho 0
 rw [Nat.pow_zero,Nat.mul_one] at ht
 unfold et
 rw [if_neg]
 intro h2
 rw [g1,ht,Nat.pow_zero,Nat.div_one] at h2
 have h3:=(tI h2 (by omega)).1
 omega
theorem He {a b:Rd} (oa:Ok0 a) (ob:Ok0 b) (va:vd a=true) (vb:vd b=true) (na:a.m.length ≠ 0) (nb:b.m.length ≠ 0) {e:Int} (he:e=if b.e < a.e then b.e else a.e) (h:4097 < bm a - e) (hg:1 < bm a - bm b) :
  et (gj (zI a+zI b) (-16384))=(el,9)∧et (gj (zI b+zI a) (-16384))=(el,9):=by
 obtain ⟨a1,a2,a3,a4⟩:=j8 va oa.lb
 obtain ⟨b1,b2,b3,b4⟩:=j8 vb ob.lb
 have e1:=pC va na
 have e2:=pC vb nb
 have he1:-16384≤e∧e≤a.e∧e≤b.e∧(e=a.e∨e=b.e):=by
  rw [he]
  split <;> omega
 have hne:a.e ≠ b.e:=by omega
 have z1:zI a=fR a.neg (ac a.m*2 ^ (a.e - e).toNat*2 ^ (e+16384).toNat):=by
  rw [show zI a=fR a.neg (mg a) from rfl,pB he1.1 he1.2.1]
 have z2:zI b=fR b.neg (ac b.m*2 ^ (b.e - e).toNat*2 ^ (e+16384).toNat):=by
  rw [show zI b=fR b.neg (mg b) from rfl,pB he1.1 he1.2.2.1]
 have bx:(aq (ac a.m*2 ^ (a.e - e).toNat):Int)=bm a - e:=by
  rw [lE _ (iF va na)]
  omega
 have by':(aq (ac b.m*2 ^ (b.e - e).toNat):Int)=bm b - e:=by
  rw [lE _ (iF vb nb)]
  omega
 have oX:=xR va na
 have oY:=xR vb nb
 have odd:(ac a.m*2 ^ (a.e - e).toNat+ac b.m*2 ^ (b.e - e).toNat) % 2=1:=by
  rcases he1.2.2.2 with h1 | h1
  ·obtain ⟨k,hk⟩:∃ k,(b.e - e).toNat=k+1:=⟨(b.e - e).toNat - 1,by omega⟩
   rw [show (a.e - e).toNat=0 by omega,hk,Nat.pow_zero,Nat.mul_one,Nat.pow_succ,← Nat.mul_assoc]
   omega
  ·obtain ⟨k,hk⟩:∃ k,(a.e - e).toNat=k+1:=⟨(a.e - e).toNat - 1,by omega⟩
   rw [show (b.e - e).toNat=0 by omega,hk,Nat.pow_zero,Nat.mul_one,Nat.pow_succ,← Nat.mul_assoc]
   omega
 rw [Int.add_comm (zI b),and_self,z1,z2]
 generalize ac a.m*2 ^ (a.e - e).toNat=x at bx odd ⊢
 generalize ac b.m*2 ^ (b.e - e).toNat=y at by' odd ⊢
 generalize (e+16384).toNat=k
 have hx:2 ^ (aq x - 1)≤x:=kw.1 (by omega)
 have hy:y < 2 ^ (aq x - 2):=by
  have h3:y < 2 ^ aq y:=dm.1 (Nat.le_refl _)
  exact Nat.lt_of_lt_of_le h3 (Nat.pow_le_pow_right (by omega) (by omega))
 have hp:2 ^ (aq x - 1)=2 ^ (aq x - 2)*2:=by
  rw [← Nat.pow_succ]
  congr 1
  omega
 have hbig:∀ N:Nat,x - y≤N→4096 < aq N:=fun N hN=>by
  have h5:aq x - 2 < aq N:=kw.2 (by omega)
  omega
 have hsum:∀ (n:Bool) (z:Nat),gj (fR n (z*2 ^ k)) (-16384)=cB n (z*2 ^ k) (-16384):=fun n z=>tM.symm
 have hmul:y*2 ^ k≤x*2 ^ k:=Nat.mul_le_mul_right _ (by omega)
 by_cases hs:a.neg=b.neg
 ·have hz:fR a.neg (x*2 ^ k)+fR b.neg (y*2 ^ k)=fR a.neg ((x+y)*2 ^ k):=by
   rw [← hs,Nat.add_mul]
   cases a.neg
   ·rw [i7,i7,i7]
    omega
   ·rw [i6,i6,i6]
    omega
  rw [hz,hsum]
  exact IS odd (hbig _ (by omega))
 ·have hbn:b.neg=!a.neg:=by
   cases ha:a.neg <;> cases hb:b.neg <;> first | rfl | (rw [ha,hb] at hs; exact absurd rfl hs)
  have hz:fR a.neg (x*2 ^ k)+fR b.neg (y*2 ^ k)=fR a.neg ((x - y)*2 ^ k):=by
   rw [hbn,Nat.sub_mul]
   cases a.neg
   ·rw [Bool.not_false,i7,i6,i7]
    omega
   ·rw [Bool.not_true,i7,i6,i6]
    omega
  rw [hz,hsum]
  exact IS (by omega) (hbig _ (Nat.le_refl _))
def jr:Cmd:=.seq (.dops [2,3,4,6,9,10] [fa 65 1 2,ld 66 1 65,fa 67 2 2,ld 68 1 67,cm 69 6,b2 70 .sub 68 69,ca 71 F.dyadic_shifted [.t 66,.t 70],fa 72 1 3,ld 73 1 72,fa 74 2 3,ld 75 1 74,cm 76 6,b2 77 .sub 75 76,ca 78 F.dyadic_shifted [.t 73,.t 77],cm 9 71,cm 10 78] [(6,8),(6,10)]) (.seq (.seq (.ops [2,3,4,6,9,10,83] [fa 79 0 2,ld 80 1 79,fa 81 0 3,ld 82 1 81,co 83 (.eqc false 0 (.t 80) (.t 82))]) (.cond (.t 83) (.seq (.ops [2,4,6,11] [cm 85 9,cm 86 10,ca 87 F.natural_Add [.t 85,.t 86],cm 84 87,co 88 (.ext 0 (.t 84)),co 89 (.ext 1 (.t 84)),cm 11 88,cm 12 89]) (.seq (.ops [4,5] [fa 90 0 2,ld 91 1 90,cm 92 11,cm 93 6,ca 94 F.dyadic_canonical [.t 91,.t 92,.t 93],ca 95 F.dyadic_checked [.t 94],co 96 (.ext 0 (.t 95)),co 97 (.ext 1 (.t 95)),sr 3 (.t 4) (.t 96),cm 5 97]) (.ret))) (.skip))) (.seq (.seq (.ops [2,3,4,6,9,10,101] [cm 98 9,cm 99 10,ca 100 F.natural_Cmp [.t 98,.t 99],co 101 (.bin .lss (.t 100) (.c (I 0)))]) (.cond (.t 101) (.ops [2,4,6,9,10] [la 102 3 3,cm 103 10,cm 104 9,sr 3 (.t 2) (.t 102),cm 9 103,cm 10 104]) (.skip))) (.seq (.ops [2,4,6,13] [cm 106 9,cm 107 10,ca 108 F.natural_Sub [.t 106,.t 107],cm 105 108,co 109 (.ext 0 (.t 105)),co 110 (.ext 1 (.t 105)),cm 13 109,cm 14 110]) (.seq (.ops [4,5] [fa 111 0 2,ld 112 1 111,cm 113 13,cm 114 6,ca 115 F.dyadic_canonical [.t 112,.t 113,.t 114],ca 116 F.dyadic_checked [.t 115],co 117 (.ext 0 (.t 116)),co 118 (.ext 1 (.t 116)),sr 3 (.t 4) (.t 117),cm 5 118]) (.ret)))))
theorem gW:ow=.seq (.ops [2,3,4] [bx 2 3 (.t 0),bx 3 3 (.t 1),al 4 [B false,.emp,I 0],co 5 (.mv (.c (I 0)))]) (.seq (.seq (.ops [2,3,4,24] [fa 15 1 2,ld 16 1 15,co 17 (.len false (.t 16)),co 18 (.bin .eql (.t 17) (.c (I 0))),cm 19 18,cg 20 19 false (.fadr 1 (.t 3)),⟨(some 21),(some (19,false)),.load 1 false (.t 20)⟩,cg 22 19 false (.len false (.t 21)),cg 23 19 false (.bin .eql (.t 22) (.c (I 0))),co 24 (.pick (.t 19) (.c (B true)) (.t 23))]) (.cond (.t 24) (.seq (.seq (.ops [2,3,4,28] [fa 25 1 2,ld 26 1 25,co 27 (.len false (.t 26)),co 28 (.bin .eql (.t 27) (.c (I 0)))]) (.cond (.t 28) (.ops [2,4] [la 29 3 3,sr 3 (.t 2) (.t 29)]) (.skip))) (.seq (.ops [4,5] [fa 30 0 2,ld 31 1 30,fa 32 1 2,ld 33 1 32,fa 34 2 2,ld 35 1 34,ca 36 F.dyadic_canonical [.t 31,.t 33,.t 35],sr 3 (.t 4) (.t 36),co 5 (.mv (.c (I 0)))]) (.ret))) (.skip))) (.seq (.ops [2,3,4,6] [fa 37 2 2,ld 38 1 37,fa 39 2 3,ld 40 1 39,co 41 (.mnx true (.t 38) [.t 40]),cm 6 41]) (.seq (.dops [2,3,4,6,7,8] [la 42 3 2,ca 43 F.dyadic_Top [.t 42],la 44 3 3,ca 45 F.dyadic_Top [.t 44],cm 7 43,cm 8 45] [(1,2)]) (.seq (.seq (.ops [2,3,4,6,63] [cm 46 7,cm 47 8,co 48 (.mnx false (.t 46) [.t 47]),cm 49 6,b2 50 .sub 48 49,co 51 (.bin .gtr (.t 50) (.c (I 4097))),cm 52 51,cg 53 52 true (.mv (.t 7)),cg 54 52 true (.mv (.t 8)),cg 55 52 true (.bin .sub (.t 53) (.t 54)),cg 56 52 true (.bin .gtr (.t 55) (.c (I 1))),cg 57 52 true (.mv (.t 56)),cg 58 57 false (.mv (.t 8)),cg 59 57 false (.mv (.t 7)),cg 60 57 false (.bin .sub (.t 58) (.t 59)),cg 61 57 false (.bin .gtr (.t 60) (.c (I 1))),cg 62 52 true (.pick (.t 57) (.c (B true)) (.t 61)),co 63 (.pick (.t 52) (.t 62) (.c (B false)))]) (.cond (.t 63) (.seq (.ops [4,5] [co 64 (.build [B false,.emp,I 0] []),sr 3 (.t 4) (.t 64),co 5 (.mv (.c (I 9)))]) (.ret)) (.skip))) jr)))):=rfl
theorem Dd {a b:Rd} (oa:Ok0 a) (ob:Ok0 b) (va:vd a=true) (vb:vd b=true) (na:a.m.length ≠ 0) (nb:b.m.length ≠ 0) {e:Int} (he1:-16384≤e∧e≤a.e∧e≤b.e) (hX:bm a - e≤5000) (hY:bm b - e≤5000) (s:af)
  (h2:s 2=.ref 2 none 0 0 0) (h3:s 3=.ref 3 none 0 0 0) (h4:s 4=.ref 4 none 0 0 0) (h6:s 6=I e) :
  rg false [[.o 0 [],.o 2 [],.o 0 []],[]] [.cell 4 3 true,.t 5] 0 (az R (ab false) jr s (upd (upd (upd (fun _=>.dead) 2 (.bx (aW a))) 3 (.bx (aW b))) 4 (.bx [B false,.emp,I 0])))=some (rV (et (gj (zI a+zI b) (-16384))),[]):=by
 obtain ⟨a1,a2,a3,a4⟩:=j8 va oa.lb
 obtain ⟨b1,b2,b3,b4⟩:=j8 vb ob.lb
 have e1:=pC va na
 have e2:=pC vb nb
 have w1:IntKind.i64.wrap (a.e - e)=(((a.e - e).toNat:Nat):Int):=wi (by omega) (by omega)
 have w2:IntKind.i64.wrap (b.e - e)=(((b.e - e).toNat:Nat):Int):=wi (by omega) (by omega)
 have z1:zI a=fR a.neg (ac a.m*2 ^ (a.e - e).toNat*2 ^ (e+16384).toNat):=by
  rw [show zI a=fR a.neg (mg a) from rfl,pB he1.1 he1.2.1]
 have z2:zI b=fR b.neg (ac b.m*2 ^ (b.e - e).toNat*2 ^ (e+16384).toNat):=by
  rw [show zI b=fR b.neg (mg b) from rfl,pB he1.1 he1.2.2]
 have bx:aq (ac a.m*2 ^ (a.e - e).toNat)≤5000:=by
  rw [lE _ (iF va na)]
  omega
 have by':aq (ac b.m*2 ^ (b.e - e).toNat)≤5000:=by
  rw [lE _ (iF vb nb)]
  omega
 have l1:=qN oa.lb a1 (k:=(a.e - e).toNat) (by omega) (Nat.le_trans (bF (k:=157) (by omega)) (by decide))
 have l2:=qN ob.lb b1 (k:=(b.e - e).toNat) (by omega) (Nat.le_trans (bF (k:=157) (by omega)) (by decide))
 rw [z1,z2]
 generalize ac a.m*2 ^ (a.e - e).toNat=x at l1 bx ⊢
 generalize ac b.m*2 ^ (b.e - e).toNat=y at l2 by' ⊢
 have hsum:∀ (n:Bool) (z:Nat),cB n z e=gj (fR n (z*2 ^ (e+16384).toNat)) (-16384):=fun n z=>by
  rw [← tM,oK,show -16384+(((e+16384).toNat:Nat):Int)=e by omega]
 have lx:(av x).length≤157:=bF (by omega)
 have ly:(av y).length≤157:=bF (by omega)
 have hq:XF e:=⟨by omega,by omega⟩
 have hcp:=xf (cd x) (cd y) (by omega) (by omega)
 rw [bI,bI] at hcp
 have chk:∀ (n:Bool) (z:Nat),aq z≤5001→R F.dyadic_canonical [B n,lm (av z),I e] []=some (aF (cB n z e),[])∧R F.dyadic_checked [aF (cB n z e)] []=some (rV (et (cB n z e)),[]):=fun n z hz=>by
  have hl:(av z).length≤157:=bF (by omega)
  have c1:=oJ (neg:=n) (m:=av z) (e:=e) (cd z) (by omega) hq
  rw [bI] at c1
  refine ⟨c1,?_⟩
  rw [Bn (Cs n z e) (Nat.le_trans (G6 (k:=157) (by omega)) (by decide))]
  exact congrArg (fun v=>some (v,[])) (IN _)
 by_cases hs:a.neg=b.neg
 ·have p1:=Qa (x:=x) (y:=y) bx by'
  obtain ⟨c1,c2⟩:=chk a.neg (x+y) (G7 bx by')
  have hz:fR a.neg (x*2 ^ (e+16384).toNat)+fR b.neg (y*2 ^ (e+16384).toNat)=fR a.neg ((x+y)*2 ^ (e+16384).toNat):=by
   rw [← hs,Nat.add_mul]
   cases a.neg
   ·rw [i7,i7,i7]
    omega
   ·rw [i6,i6,i6]
    omega
  rw [hz,← hsum]
  generalize cB a.neg (x+y) e=r at c1 c2 ⊢
  generalize et r=q at c2 ⊢
  obtain ⟨q1,q2⟩:=q
  have hs2:(a.neg == b.neg)=true:=by rw [hs]; exact beq_self_eq_true _
  have hs3:(false != (a.neg == b.neg))=true:=by rw [hs2]; rfl
  simp only [rV,aF,aW] at c1 c2
  simp only [jr,rV,aF,aW,go_sem,↓reduceIte,ad7,ad9,ad8,aea,aec,aeb,h2,h3,h4,h6,w1,w2,l1,l2,hs3,p1,c1,c2]
 ·have hs2:(a.neg == b.neg)=false:=by
   cases ha:a.neg <;> cases hb:b.neg <;> first | rfl | (rw [ha,hb] at hs; exact absurd rfl hs)
  have hs3:(false != (a.neg == b.neg))=false:=by rw [hs2]; rfl
  have hbn:b.neg=!a.neg:=by
   cases ha:a.neg <;> cases hb:b.neg <;> first | rfl | (rw [ha,hb] at hs; exact absurd rfl hs)
  have hb1:∀ u v:Nat,aq u≤5000→aq (u - v)≤5001:=fun u v hu=>LJ (Nat.sub_le u v) (Nat.le_trans hu (by decide))
  by_cases hlt:x < y
  ·have e5:(dk x y < 0)=True:=tt (by unfold dk; rw [if_pos hlt]; decide)
   have m1:=IP (x:=y) (y:=x) by' bx (by omega)
   obtain ⟨c1,c2⟩:=chk b.neg (y - x) (hb1 _ _ by')
   have hmul:x*2 ^ (e+16384).toNat≤y*2 ^ (e+16384).toNat:=Nat.mul_le_mul_right _ (by omega)
   have hz:fR a.neg (x*2 ^ (e+16384).toNat)+fR b.neg (y*2 ^ (e+16384).toNat)=fR b.neg ((y - x)*2 ^ (e+16384).toNat):=by
    rw [hbn,Nat.sub_mul]
    cases a.neg
    ·rw [Bool.not_false,i7,i6,i6]
     omega
    ·rw [Bool.not_true,i7,i6,i7]
     omega
   rw [hz,← hsum]
   generalize cB b.neg (y - x) e=r at c1 c2 ⊢
   generalize et r=q at c2 ⊢
   obtain ⟨q1,q2⟩:=q
   simp only [rV,aF,aW] at c1 c2
   simp only [jr,rV,aF,aW,go_sem,↓reduceIte,ad7,ad9,ad8,aea,aec,aeb,h2,h3,h4,h6,w1,w2,l1,l2,hs3,hcp,e5,m1,c1,c2]
  ·have e5:(dk x y < 0)=False:=ff (by unfold dk; rw [if_neg hlt]; split <;> decide)
   have m1:=IP (x:=x) (y:=y) bx by' (by omega)
   obtain ⟨c1,c2⟩:=chk a.neg (x - y) (hb1 _ _ bx)
   have hmul:y*2 ^ (e+16384).toNat≤x*2 ^ (e+16384).toNat:=Nat.mul_le_mul_right _ (by omega)
   have hz:fR a.neg (x*2 ^ (e+16384).toNat)+fR b.neg (y*2 ^ (e+16384).toNat)=fR a.neg ((x - y)*2 ^ (e+16384).toNat):=by
    rw [hbn,Nat.sub_mul]
    cases a.neg
    ·rw [Bool.not_false,i7,i6,i7]
     omega
    ·rw [Bool.not_true,i7,i6,i6]
     omega
   rw [hz,← hsum]
   generalize cB a.neg (x - y) e=r at c1 c2 ⊢
   generalize et r=q at c2 ⊢
   obtain ⟨q1,q2⟩:=q
   simp only [rV,aF,aW] at c1 c2
   simp only [jr,rV,aF,aW,go_sem,↓reduceIte,ad7,ad9,ad8,aea,aec,aeb,h2,h3,h4,h6,w1,w2,l1,l2,hs3,hcp,e5,m1,c1,c2]
theorem Qj {a b:Rd} (oa:Ok0 a) (ob:Ok0 b) (va:vd a=true) (vb:vd b=true):R F.dyadic_sum [aF a,aF b] []=some (rV (et (gj (zI a+zI b) (-16384))),[]):=by
 refine aX GA Gz (A9 false) rfl ?_
 by_cases a0:a.m.length=0
 ·have e1:((a.m.length:Int)=0)=True:=tt (by omega)
  have hz:=xQ va a0
  obtain ⟨b1,b2,b3,b4⟩:=j8 vb ob.lb
  have c1:=oJ (neg:=b.neg) (m:=b.m) (e:=b.e) ob.lb (by omega) ⟨by omega,by omega⟩
  have hr:cB b.neg (ac b.m) b.e=b:=Dc ob vb
  have hk:et (gj (zI a+zI b) (-16384))=(b,0):=by
   rw [qT a0,Int.zero_add,tN ob vb]
   exact Hd vb
  rw [hr] at c1
  rw [hk]
  simp only [aF,aW] at c1
  simp only [dF,ow,rV,aF,aW,go_sem,↓reduceIte,ad7,ad9,ad8,aea,e1,c1]
 have e1:((a.m.length:Int)=0)=False:=ff (by omega)
 obtain ⟨a1,a2,a3,a4⟩:=j8 va oa.lb
 by_cases b0:b.m.length=0
 ·have e2:((b.m.length:Int)=0)=True:=tt (by omega)
  have c1:=oJ (neg:=a.neg) (m:=a.m) (e:=a.e) oa.lb (by omega) ⟨by omega,by omega⟩
  have hr:cB a.neg (ac a.m) a.e=a:=Dc oa va
  have hk:et (gj (zI a+zI b) (-16384))=(a,0):=by
   rw [qT b0,Int.add_zero,tN oa va]
   exact Hd va
  rw [hr] at c1
  rw [hk]
  simp only [aF,aW] at c1
  simp only [dF,ow,rV,aF,aW,go_sem,↓reduceIte,ad7,ad9,ad8,aea,e1,e2,c1]
 have e2:((b.m.length:Int)=0)=False:=ff (by omega)
 obtain ⟨b1,b2,b3,b4⟩:=j8 vb ob.lb
 have ta:=Bo oa
 have tb:=Bo ob
 have q1:=pC va a0
 have q2:=pC vb b0
 have p1:=lD (iF va a0)
 have p2:=lD (iF vb b0)
 simp only [aF,aW] at ta tb
 have g1:=fun h2 h3=>(He oa ob va vb a0 b0 rfl h2 h3).1
 have g2:=fun h2 h3=>(He ob oa vb va b0 a0 rfl h2 h3).2
 obtain ⟨e,he⟩:∃ e,(if b.e < a.e then b.e else a.e)=e:=⟨_,rfl⟩
 have he2:(if a.e < b.e then a.e else b.e)=e:=by
  rw [← he]
  by_cases h:b.e < a.e
  ·rw [if_pos h,if_neg (by omega)]
  ·rw [if_neg h]
   by_cases h2:a.e < b.e
   ·rw [if_pos h2]
   ·rw [if_neg h2]
    omega
 rw [he] at g1
 rw [he2] at g2
 have he1:-16384≤e∧e≤a.e∧e≤b.e:=by
  split at he <;> omega
 obtain ⟨M,hM⟩:∃ M,(if bm a < bm b then bm b else bm a)=M:=⟨_,rfl⟩
 have hM1:bm a≤M∧bm b≤M∧(M=bm a∨M=bm b):=by
  split at hM <;> omega
 have w1:IntKind.i64.wrap (M - e)=M - e:=i64_in _ ⟨by omega,by omega⟩
 have w2:IntKind.i64.wrap (bm a - bm b)=bm a - bm b:=i64_in _ ⟨by omega,by omega⟩
 have w3:IntKind.i64.wrap (bm b - bm a)=bm b - bm a:=i64_in _ ⟨by omega,by omega⟩
 by_cases h1:4097 < M - e
 ·have f1:(4097 < M - e)=True:=tt h1
  by_cases h2:1 < bm a - bm b
  ·have f2:(1 < bm a - bm b)=True:=tt h2
   rw [g1 (by omega) h2]
   simp only [dF,gW,rV,el,aF,aW,go_sem,↓reduceIte,ad7,ad9,ad8,aea,aec,aeb,e1,e2,he,ta,tb,hM,w1,w2,f1,f2]
  ·have f2:(1 < bm a - bm b)=False:=ff h2
   by_cases h3:1 < bm b - bm a
   ·have f3:(1 < bm b - bm a)=True:=tt h3
    rw [g2 (by omega) h3]
    simp only [dF,gW,rV,el,aF,aW,go_sem,↓reduceIte,ad7,ad9,ad8,aea,aec,aeb,e1,e2,he,ta,tb,hM,w1,w2,w3,f1,f2,f3]
   ·have f3:(1 < bm b - bm a)=False:=ff h3
    simp only [dF,gW,rV,aF,aW,go_sem,↓reduceIte,ad7,ad9,ad8,aea,aec,aeb,e1,e2,he,ta,tb,hM,w1,w2,w3,f1,f2,f3]
    exact Dd oa ob va vb a0 b0 he1 (by omega) (by omega) _ rfl rfl rfl rfl
 ·have f1:(4097 < M - e)=False:=ff h1
  simp only [dF,gW,rV,aF,aW,go_sem,↓reduceIte,ad7,ad9,ad8,aea,aec,aeb,e1,e2,he,ta,tb,hM,w1,f1]
  exact Dd oa ob va vb a0 b0 he1 (by omega) (by omega) _ rfl rfl rfl rfl
theorem Qk {a b:Rd} (oa:Ok0 a) (ob:Ok0 b):R F.dyadic_Add [aF a,aF b] []=some (rV (iK a b),[]):=by
 refine aX Gq Gp (A5 false) rfl ?_
 have v1:=iI oa
 have v2:=iI ob
 simp only [aF,aW] at v1 v2
 unfold iK
 cases va:vd a with
 | false =>
  rw [va] at v1
  rw [Bool.false_and,if_neg Bool.false_ne_true]
  simp only [ia,oo,rV,el,aF,aW,go_sem,↓reduceIte,ad7,ad9,ad8,aea,v1]
 | true =>
  rw [va] at v1
  cases vb:vd b with
  | false =>
   rw [vb] at v2
   rw [Bool.and_false,if_neg Bool.false_ne_true]
   simp only [ia,oo,rV,el,aF,aW,go_sem,↓reduceIte,ad7,ad9,ad8,aea,v1,v2]
  | true =>
   rw [vb] at v2
   have hs:=Qj oa ob va vb
   rw [Bool.and_self,if_pos rfl]
   generalize et (gj (zI a+zI b) (-16384))=q at hs ⊢
   obtain ⟨q1,q2⟩:=q
   simp only [rV,aF,aW] at hs
   simp only [ia,oo,rV,aF,aW,go_sem,↓reduceIte,ad7,ad9,ad8,aea,v1,v2,hs]
end Go.Ab
namespace Go.Ab
open Go Go.IntWalk
theorem De:∀ a:List Int,gR a a=0
 | []=>rfl
 | x::a=>by
  unfold gR
  rw [if_pos (by unfold dM; simp),De a]
theorem IT:∀ {a b:List Int},a.length=b.length→gR a b=0→a=b
 | [],[],_,_=>rfl
 | x::a,y::b,h,h2=>by
  unfold gR at h2
  rcases ke x y with ⟨g,e⟩ | ⟨g,e⟩ | ⟨g,e⟩ <;> rw [e] at h2
  ·simp at h2
  ·rw [if_pos rfl] at h2
   rw [g,IT (by simpa using h) h2]
  ·simp at h2
 | [],_::_,h,_=>by simp at h
 | _::_,[],h,_=>by simp at h
theorem Df:∀ {a b:List Int},a.length=b.length→gR b a=- gR a b
 | [],[],_=>rfl
 | x::a,y::b,h=>by
  unfold gR
  rcases ke x y with ⟨g,e⟩ | ⟨g,e⟩ | ⟨g,e⟩ <;> rcases ke y x with ⟨g',e'⟩ | ⟨g',e'⟩ | ⟨g',e'⟩ <;> rw [e,e'] <;> first | omega | (simp; done) | skip
  rw [if_pos rfl,if_pos rfl]
  exact Df (by simpa using h)
 | [],_::_,h=>by simp at h
 | _::_,[],h=>by simp at h
theorem IU:∀ {a b c:List Int},a.length=b.length→b.length=c.length→(gR a b≤0→gR b c < 0→gR a c < 0)∧(gR a b < 0→gR b c≤0→gR a c < 0)
 | [],[],[],_,_=>⟨fun _ h=>by simp [gR] at h,fun h _=>by simp [gR] at h⟩
 | x::a,y::b,z::c,h,h'=>by
  have ih:=IU (a:=a) (b:=b) (c:=c) (by simpa using h) (by simpa using h')
  unfold gR
  rcases ke x y with ⟨g,e⟩ | ⟨g,e⟩ | ⟨g,e⟩ <;> rcases ke y z with ⟨g',e'⟩ | ⟨g',e'⟩ | ⟨g',e'⟩ <;> rcases ke x z with ⟨g2,e2⟩ | ⟨g2,e2⟩ | ⟨g2,e2⟩ <;> rw [e,e',e2] <;> first | omega | skip
  all_goals simp
  all_goals first | exact ih | omega
 | [],[],_::_,_,h=>by simp at h
 | [],_::_,_,h,_=>by simp at h
 | _::_,[],_,h,_=>by simp at h
 | _::_,_::_,[],_,h=>by simp at h
theorem LS (a:List Int):bt a a=0:=by
 unfold bt
 rw [if_pos (by unfold dM; simp),De]
theorem IV {a b:List Int} (h:a.length=b.length) (h2:bt a b=0):a=b:=by
 unfold bt at h2
 rcases ke (bi a) (bi b) with ⟨g,e⟩ | ⟨g,e⟩ | ⟨g,e⟩ <;> rw [e] at h2
 ·simp at h2
 ·rw [if_pos rfl] at h2
  exact (IT h.symm h2).symm
 ·simp at h2
theorem sn {a b:List Int} (h:a.length=b.length):bt b a=- bt a b:=by
 unfold bt
 rcases ke (bi a) (bi b) with ⟨g,e⟩ | ⟨g,e⟩ | ⟨g,e⟩ <;> rcases ke (bi b) (bi a) with ⟨g',e'⟩ | ⟨g',e'⟩ | ⟨g',e'⟩ <;> rw [e,e'] <;> first | omega | (simp; done) | skip
 rw [if_pos rfl,if_pos rfl]
 exact Df h.symm
theorem tO {a b c:List Int} (h:a.length=b.length) (h':b.length=c.length):(bt a b≤0→bt b c < 0→bt a c < 0)∧(bt a b < 0→bt b c≤0→bt a c < 0):=by
 have ih:=IU (a:=c) (b:=b) (c:=a) h'.symm h.symm
 unfold bt
 rcases ke (bi a) (bi b) with ⟨g,e⟩ | ⟨g,e⟩ | ⟨g,e⟩ <;> rcases ke (bi b) (bi c) with ⟨g',e'⟩ | ⟨g',e'⟩ | ⟨g',e'⟩ <;> rcases ke (bi a) (bi c) with ⟨g2,e2⟩ | ⟨g2,e2⟩ | ⟨g2,e2⟩ <;> rw [e,e',e2] <;> first | omega | skip
 all_goals simp
 all_goals first | exact ⟨fun x y=>ih.2 y x,fun x y=>ih.1 y x⟩ | omega
structure VT (v:Int) (t:Rt):Prop where
 c:Ok0 t.c
 len:(t.exps.length:Int)=v
 v8:v≤8
 vc:vd t.c=true
 nz:t.c.m.length ≠ 0
 b:∀ e ∈ t.exps,0≤e∧e≤32
 d:bi t.exps≤32
theorem VT.sm {v:Int} {t:Rt} (h:VT v t):sm t.exps:=⟨by have:=h.len; have:=h.v8; omega,h.b⟩
theorem VT.ok {v:Int} {t:Rt} (h:VT v t):OkT t:=⟨h.c,by have:=h.len; have:=h.v8; omega⟩
theorem VT.l2 {v:Int} {t q:Rt} (h:VT v t) (h2:VT v q):t.exps.length=q.exps.length:=by have:=h.len; have:=h2.len; omega
structure Cl (v:Int) (l:List Rt):Prop where
 t:∀ t ∈ l,VT v t
 s:l.Pairwise fun a b=>bt a.exps b.exps < 0
theorem Cl.nil (v:Int):Cl v []:=⟨(fun _ h=>nomatch h),List.Pairwise.nil⟩
theorem Cl.cons {v:Int} {q:Rt} {l:List Rt} (h:Cl v (q::l)):VT v q∧(∀ t ∈ l,bt q.exps t.exps < 0)∧Cl v l :=
 ⟨h.t q (by simp),(List.pairwise_cons.1 h.s).1,fun t ht=>h.t t (by simp [ht]),(List.pairwise_cons.1 h.s).2⟩
theorem Cl.mk' {v:Int} {q:Rt} {l:List Rt} (h1:VT v q) (h2:∀ t ∈ l,bt q.exps t.exps < 0) (h3:Cl v l):Cl v (q::l) :=
 ⟨fun t ht=>(List.mem_cons.1 ht).elim (fun e=>e ▸ h1) (h3.t t),List.pairwise_cons.2 ⟨h2,h3.s⟩⟩
theorem LT {v:Int} (hv:v≤8):∀ (l:List Rt) (pr:Option Rt),(∀ t ∈ l,OkT t)→tL v pr l=true→Cl v l∧∀ q,pr=some q→(q.exps.length:Int)=v→∀ t ∈ l,bt q.exps t.exps < 0
 | [],pr,_,_=>⟨Cl.nil v,fun _ _ _ t ht=>by cases ht⟩
 | t::l,pr,ok,h=>by
  unfold tL at h
  simp only [Bool.and_eq_true] at h
  obtain ⟨h1,h2,h3⟩:=h
  obtain ⟨g1,g2⟩:=LT hv l (some t) (fun x hx=>ok x (by simp [hx])) h3
  obtain ⟨k1,k2,k3,k4,k5⟩:=Br h1
  have vt:VT v t:=⟨(ok t (by simp)).c,k1,hv,k2,k3,qV k4,k5⟩
  have gt:=g2 t rfl k1
  refine ⟨Cl.mk' vt gt g1,fun q hq hl x hx=>?_⟩
  subst hq
  unfold Hb at h2
  have h4:=of_decide_eq_true h2
  rcases List.mem_cons.1 hx with rfl | hx
  ·exact h4
  ·exact (tO (by omega) (vt.l2 (g1.t x hx))).1 (by omega) (gt x hx)
theorem dH {a:Rp} (oa:OkP a) (h:vp a=true):Cl a.vars a.terms∧0≤a.vars∧a.vars≤8∧a.terms.length≤500:=by
 unfold vp at h
 simp only [Bool.and_eq_true,decide_eq_true_eq] at h
 exact ⟨(LT h.2.1 _ none oa.t h.2.2.2).1,h.1,h.2.1,h.2.2.1⟩
def bd:List Rt→List Int→Nat
 | [],_=>0
 | q::l,x=>if bt q.exps x < 0 then bd l x+1 else 0
def ns:List Rt→Rt→Option (List Rt)
 | [],t=>some [t]
 | q::l,t=>if bt q.exps t.exps < 0 then (ns l t).map (q::·) else if bt q.exps t.exps=0 then (if (iK q.c t.c).2=0 then some (if (iK q.c t.c).1.m.length=0 then l else ⟨q.exps,(iK q.c t.c).1⟩::l) else none) else some (t::q::l)
theorem xS:∀ (l:List Rt) (x:List Int),bd l x≤l.length
 | [],x=>Nat.le_refl _
 | q::l,x=>by
  unfold bd
  split
  ·exact Nat.succ_le_succ (xS l x)
  ·exact Nat.zero_le _
theorem IW:∀ {l:List Rt} {x:List Int} {i:Nat} {q:Rt},i < bd l x→l[i]?=some q→bt q.exps x < 0
 | [],x,i,q,h,_=>by simp [bd] at h
 | p::l,x,i,q,h,hq=>by
  unfold bd at h
  split at h
  ·rename_i hc
   cases i with
   | zero=>cases hq; exact hc
   | succ i=>exact IW (l:=l) (i:=i) (by omega) (by simpa using hq)
  ·omega
theorem Ct:∀ {l:List Rt} {x:List Int} {q:Rt},l[bd l x]?=some q→0≤bt q.exps x
 | [],x,q,h=>by simp at h
 | p::l,x,q,h=>by
  unfold bd at h
  split at h
  ·exact Ct (l:=l) (by simpa using h)
  ·rename_i hc
   cases h
   omega
theorem Ql {v:Int} {l:List Rt} {x:List Int} (c:Cl v l) (hx:(x.length:Int)=v) {i:Nat} {q:Rt} (hi:bd l x < i) (h:l[i]?=some q):0 < bt q.exps x:=by
 have hlt:=(List.getElem?_eq_some_iff.1 h).1
 have h1:l[bd l x]?=some l[bd l x]:=List.getElem?_eq_getElem (by omega)
 have h2:=Ct h1
 have h3:=(List.getElem?_eq_some_iff.1 h).2
 have h4:bt (l[bd l x]).exps q.exps < 0:=by
  rw [← h3]
  exact List.pairwise_iff_getElem.1 c.s _ _ (by omega) hlt hi
 have v1:=c.t _ (List.getElem_mem (by omega:bd l x < l.length))
 have v2:=c.t q (List.mem_of_getElem? h)
 generalize l[bd l x]=p at *
 have l1:x.length=p.exps.length:=by have:=v1.len; omega
 have h5:=(tO l1 (v1.l2 v2)).1 (by rw [sn l1.symm]; omega) h4
 rw [sn (by have:=v2.len; omega:x.length=q.exps.length)]
 omega
theorem IX:∀ (l:List Rt) (t:Rt),ns l t=match l[bd l t.exps]? with
  | none=>some (l.take (bd l t.exps)++t::l.drop (bd l t.exps))
  | some q=>if bt q.exps t.exps=0 then (if (iK q.c t.c).2=0 then some (if (iK q.c t.c).1.m.length=0 then l.take (bd l t.exps)++l.drop (bd l t.exps+1) else l.set (bd l t.exps) ⟨q.exps,(iK q.c t.c).1⟩) else none) else some (l.take (bd l t.exps)++t::l.drop (bd l t.exps))
 | [],t=>rfl
 | q::l,t=>by
  unfold ns bd
  by_cases h:bt q.exps t.exps < 0
  ·simp only [if_pos h,List.getElem?_cons_succ]
   rw [IX l t]
   cases l[bd l t.exps]? with
   | none=>rfl
   | some p =>
    simp only []
    split
    ·split
     ·split <;> rfl
     ·rfl
    ·rfl
  ·simp only [if_neg h,List.getElem?_cons_zero,List.take_zero,List.drop_zero,List.nil_append,List.set_cons_zero,Nat.zero_add,List.drop_one,List.tail_cons]
theorem xT {v:Int}:∀ {l l':List Rt} {t:Rt},Cl v l→VT v t→ns l t=some l'→Cl v l'∧∀ q:List Int,(q.length:Int)=v→(∀ x ∈ l,bt q x.exps < 0)→bt q t.exps < 0→∀ x ∈ l',bt q x.exps < 0
 | [],l',t,c,vt,h=>by
  cases h
  exact ⟨Cl.mk' vt (fun _ h=>by cases h) c,fun q _ _ h x hx=>by simp at hx; subst hx; exact h⟩
 | p::l,l',t,c,vt,h=>by
  obtain ⟨c1,c2,c3⟩:=c.cons
  unfold ns at h
  split at h
  ·rename_i h1
   rw [Option.map_eq_some_iff] at h
   obtain ⟨l2,h2,rfl⟩:=h
   obtain ⟨g1,g2⟩:=xT c3 vt h2
   refine ⟨Cl.mk' c1 (g2 p.exps c1.len c2 h1) g1,fun q hq k1 k2 x hx=>?_⟩
   rcases List.mem_cons.1 hx with rfl | hx
   ·exact k1 x (by simp)
   ·exact g2 q hq (fun y hy=>k1 y (by simp [hy])) k2 x hx
  ·split at h
   ·rename_i h1 h2
    split at h
    ·rename_i h3
     cases h
     split
     ·exact ⟨c3,fun q hq k1 k2 x hx=>k1 x (by simp [hx])⟩
     ·rename_i h4
      obtain ⟨a1,a2⟩:=Qf p.c t.c
      refine ⟨Cl.mk' ⟨a2,c1.len,c1.v8,a1,h4,c1.b,c1.d⟩ c2 c3,fun q hq k1 k2 x hx=>?_⟩
      rcases List.mem_cons.1 hx with rfl | hx
      ·exact k1 p (by simp)
      ·exact k1 x (by simp [hx])
    ·cases h
   ·rename_i h1 h2
    cases h
    have h3:bt t.exps p.exps < 0:=by
     rw [sn (c1.l2 vt)]
     omega
    refine ⟨Cl.mk' vt (fun x hx=>?_) c,fun q hq k1 k2 x hx=>?_⟩
    ·rcases List.mem_cons.1 hx with rfl | hx
     ·exact h3
     ·exact (tO (vt.l2 c1) (c1.l2 (c3.t x hx))).1 (by omega) (c2 x hx)
    ·rcases List.mem_cons.1 hx with rfl | hx
     ·exact k2
     ·exact k1 x hx
theorem zU:∀ {l l':List Rt} {t:Rt},ns l t=some l'→l'.length≤l.length+1
 | [],l',t,h=>by cases h; simp
 | p::l,l',t,h=>by
  unfold ns at h
  split at h
  ·rw [Option.map_eq_some_iff] at h
   obtain ⟨l2,h2,rfl⟩:=h
   simpa using zU h2
  ·split at h
   ·split at h
    ·cases h
     split
     ·simp
      omega
     ·simp
    ·cases h
   ·cases h
    simp
def gS:List Rt→List Rt→Option (List Rt)
 | l,[]=>some l
 | l,t::ts=>(ns l t).bind fun l'=>gS l' ts
theorem Hf:∀ (ts us:List Rt) (l:List Rt),gS l (ts++us)=(gS l ts).bind fun l'=>gS l' us
 | [],us,l=>rfl
 | t::ts,us,l=>by
  show (ns l t).bind _=((ns l t).bind _).bind _
  cases ns l t with
  | none=>rfl
  | some l'=>exact Hf ts us l'
theorem nN {v:Int}:∀ {ts l l':List Rt},Cl v l→(∀ t ∈ ts,VT v t)→gS l ts=some l'→Cl v l'∧l'.length≤l.length+ts.length
 | [],l,l',c,_,h=>by cases h; exact ⟨c,Nat.le_refl _⟩
 | t::ts,l,l',c,vt,h=>by
  unfold gS at h
  rw [Option.bind_eq_some_iff] at h
  obtain ⟨l2,h2,h3⟩:=h
  obtain ⟨g1,g2⟩:=nN (xT c (vt t (by simp)) h2).1 (fun x hx=>vt x (by simp [hx])) h3
  have:=zU h2
  exact ⟨g1,by simp; omega⟩
section
variable {call:cT} {md:Mode} {s:af} {h:aa}
@[go_sem] theorem abK (d k x y rest):am call md (⟨some d,none,.cpy k x y⟩::rest) s h=aK (bK md.nm s (some d) (BI h k (ev s x) (ev s y))) (am call md rest):=_root_.id rfl
@[go_sem] theorem Zm (d k x lo hi rest):am call md (⟨some d,none,.slcM k x lo hi⟩::rest) s h=aK (bK md.nm s (some d) (xC h k (ev s x) (evo s lo) (evo s hi))) (am call md rest):=_root_.id rfl
@[go_sem] theorem abL (d k z x rest):am call md (⟨d,none,.clr k z x⟩::rest) s h=aK (bK md.nm s d (BJ h k z (ev s x))) (am call md rest):=_root_.id rfl
@[go_sem] theorem Zn (d k b z x n rest):am call md (⟨some d,none,.appz k b z x n⟩::rest) s h=aK (bK md.nm s (some d) (rR h d k b z (ev s x) (ev s n))) (am call md rest):=_root_.id rfl
@[go_sem] theorem Zo (d x rest):am call md (⟨some d,none,.take x⟩::rest) s h=aK (bK md.nm s (some d) (Ai h d (ev s x))) (am call md rest):=_root_.id rfl
@[go_sem] theorem XK (d f zas rest):am call md (⟨some d,none,.callC f zas⟩::rest) s h=aK (bK md.nm s (some d) ((ai call md h d (zas.map (ev s)) (ev s f)).bind (nV d))) (am call md rest):=_root_.id rfl
@[go_sem] theorem Zp (ps acc d k x y rest):bA call md ps acc (⟨some d,none,.cpy k x y⟩::rest) s h=ey call md ps acc rest s (some d) (fun _=>none) (BI h k (ev s x) (ev s y)):=cH _ _ _ _ rfl
@[go_sem] theorem Zq (ps acc d k b x y rest):bA call md ps acc (⟨some d,none,.app k b x y⟩::rest) s h=ey call md ps acc rest s (some d) (fun _=>none) (yI h d k b (ev s x) (ev s y)):=cH _ _ _ _ rfl
@[go_sem] theorem U4 (ps acc d f zas rest):bA call md ps acc (⟨some d,none,.callC f zas⟩::rest) s h=ey call md ps acc rest s (some d) (fun _=>wk d h (ig (zas.map (ev s)) (ev s f))) ((ai call md h d (zas.map (ev s)) (ev s f)).bind (nV d)):=cH _ _ _ _ rfl
@[go_sem] theorem XL (d h l):wk d h l=if l.all dat=true then some ([],[2000+8*d]) else none:=_root_.id rfl
@[go_sem] theorem abM (d k r h ks):nV d (.sl k r,h,ks)=some (.sl k r,h,ks):=_root_.id rfl
@[go_sem] theorem Zr (d h ks):nV d (.emp,h,ks)=some (.emp,h,ks):=_root_.id rfl
@[go_sem] theorem Zs (d id k lo n h ks):nV d (.rsl id none k lo n,h,ks)=if id=2000+8*d then (jc h id k lo n (h id)).map (fun q=>(q.1,q.2.1,ks++q.2.2)) else none:=_root_.id rfl
@[go_sem] theorem abN (h k id k' lo n y):BI h k (.rsl id none k' lo n) y=(E4 y).bind fun l=>(lK h k (E3 n y)).bind fun ys=>E5 h id k k' lo n l ys (h id):=_root_.id rfl
@[go_sem] theorem abO (k r):E4 (.sl k r)=some r.length:=_root_.id rfl
@[go_sem] theorem Zt (id sub k lo n):E4 (.rsl id sub k lo n)=some n:=_root_.id rfl
@[go_sem] theorem abP (m k r):E3 m (.sl k r)=.sl k (r.take m):=_root_.id rfl
@[go_sem] theorem Zu (m id sub k lo n):E3 m (.rsl id sub k lo n)=.rsl id sub k lo (min m n):=_root_.id rfl
@[go_sem] theorem abQ (h id k lo n l ys r):E5 h id k k lo n l ys (.ar k r)=if lo≤r.length∧ys.length=min l n then some (.v (.int .i64 ys.length),upd h id (.ar k (r.take lo++ys++r.drop (lo+ys.length))),[]) else none:=by simp [E5]
@[go_sem] theorem Zv (h k id l0 n lo hi):xC h k (.rsl id none k l0 n) lo hi=Ag h k id l0 lo hi (h id):=by simp [xC]
@[go_sem] theorem Zw (h k id l0 lo hi r):Ag h k id l0 lo hi (.ar k r)=if hi.isSome=true∧l0≤r.length then (gY (r.length - l0) lo hi none).map fun p=>(.rsl id none k (l0+p.1) (p.2 - p.1),h,[]) else none:=by simp [Ag]
@[go_sem] theorem abR (h k z id lo n):BJ h k z (.rsl id none k lo n)=E6 h k id lo n z (h id):=by simp [BJ]
@[go_sem] theorem abS (h k id lo n z r):E6 h k id lo n z (.ar k r)=if lo+n≤r.length then some (.tup [],upd h id (.ar k (r.take lo++List.replicate n z++r.drop (lo+n))),[]) else none:=by simp [E6]
@[go_sem] theorem Zx (h d k b z id i c m):rR h d k b z (.rsc id k 0 i c) (.v (.int .i64 m))=if 0 < m∧c < i+m.toNat then Ah h d k b id i m.toNat z (h id) else none:=by simp [rR]
@[go_sem] theorem Zy (h d k b id i m z r):Ah h d k b id i m z (.ar k r)=if i≤r.length∧(i+m)*b≤140737488355328 then bO h d k (r.take i++List.replicate m z) (i+m) [] else none:=by simp [Ah]
@[go_sem] theorem abT (id k lo n c):i9 false (.rsc id k lo n c)=some (I n):=_root_.id rfl
@[go_sem] theorem abU (id k lo n c):BD (.rsc id k lo n c)=some (I c):=_root_.id rfl
@[go_sem] theorem abV (k id l0 n c lo hi mx):dJ k (.rsc id k l0 n c) lo hi mx=EV k id l0 n c lo hi mx:=by simp [dJ]
@[go_sem] theorem abW (k id l0 n c x):EV k id l0 n c none (some x) none=(gC n c (some x)).map fun r=>.rsc id k l0 r c:=_root_.id rfl
@[go_sem] theorem abX (k id l0 n c x hi):EV k id l0 n c (some x) hi none=(gY n (some x) hi none).map fun p=>.rsl id none k (l0+p.1) (p.2 - p.1):=_root_.id rfl
@[go_sem] theorem abY (ks id k lo n c):l8 ks (.rsc id k lo n c)=if dT ks id none=true then .any else .rsc id k lo n c:=_root_.id rfl
@[go_sem] theorem Zz (h d id k i j):Ai h d (.ref id none k i j)=EC h d id (i*k+j) (h id):=_root_.id rfl
@[go_sem] theorem ZA (h d id p cs):EC h d id p (.bx cs)=xD h d id p cs cs[p]?:=_root_.id rfl
@[go_sem] theorem XM (h d id p cs k r):xD h d id p cs (some (.osl k r))=bO (upd h id (.bx (cs.set p .any))) d k r r.length [(id,true)]:=_root_.id rfl
@[go_sem] theorem XN (h d id p cs):xD h d id p cs (some .emp)=some (.emp,h,[]):=_root_.id rfl
@[go_sem] theorem ZB (nm:Bool) (s h):o5 nm [] s h=some ⟨s,h⟩:=_root_.id rfl
@[go_sem] theorem XO (nm:Bool) (i l s h):o5 nm (i::l) s h=if 200000≤i then (BL (i - 200000) s h (s (i - 200000))).bind (fun r=>if jE nm r.2.2 then o5 nm l r.1 r.2.1 else none) else if 100000≤i then o5 nm l s (uk h (s (i - 100000))) else (Jl i s h (s i)).bind fun r=>if jE nm r.2.2 then o5 nm l r.1 r.2.1 else none:=_root_.id rfl
@[go_sem] theorem U5 (ks):jE false ks=true:=_root_.id rfl
@[go_sem] theorem abZ (i s h id k lo n):BL i s h (.rsl id none k lo n)=wl i s h id k lo n (h id):=_root_.id rfl
@[go_sem] theorem ab0 (i s h id k lo n c):BL i s h (.rsc id k lo n c)=wl i s h id k lo n (h id):=_root_.id rfl
@[go_sem] theorem ab1 (i s h id k lo n r):wl i s h id k lo n (.ar k r)=if lo=0∧aG i=false∧cD (h i)=true then some (upd (eE [(id,false)] s) i (.rsl i none k 0 n),upd (upd h id .dead) i (.ar k r),[(id,false)]) else none:=by simp [wl]
@[go_sem] theorem ZC (h id k lo n):uk h (.rsl id none k lo n)=(match h id with | .ar k rows=>upd h id (.ar k (rows.take (lo+n))) | _=>h):=_root_.id rfl
@[go_sem] theorem ab2 (nm:Bool) (s h):kL nm 0 s h=some ⟨s,h⟩:=_root_.id rfl
@[go_sem] theorem ab3 (nm:Bool) (i s h):kL nm (i+1) s h=(CJ i s h (s i)).bind fun r=>if jE nm r.2.2 then some ⟨r.1,r.2.1⟩ else none:=_root_.id rfl
@[go_sem] theorem ab4 (i s h):CJ i s h .emp=some (s,h,[]):=_root_.id rfl
@[go_sem] theorem ab5 (i s h id p k lo n):CJ i s h (.rsl id (some p) k lo n)=if aG i=false then Ii i s h id p k lo n (h id) else none:=_root_.id rfl
@[go_sem] theorem adu (i s h id p k lo n cs):Ii i s h id p k lo n (.bx cs)=An i s h id p k lo n cs cs[p]?:=_root_.id rfl
@[go_sem] theorem ab6 (i s h id p k lo n cs r):An i s h id p k lo n cs (some (.osl k r))=if lo=0∧n=r.length∧cD (h i)=true then some (upd (eE [(id,true)] s) i (.rsl i none k 0 n),upd (upd h id (.bx (cs.set p .any))) i (.ar k r),[(id,true)]) else none:=by simp [An]
@[go_sem] theorem ab7 (m g ps l):Nr call md m g ps l s h=aK (bA call md ps [] (l.take m) s h) fun s h=>aK (kL md.nm g s h) (am call md (l.drop m)):=_root_.id rfl
end
end Go.Ab
namespace Go.Ab
open Go Go.IntWalk
set_option maxRecDepth 4000
set_option maxHeartbeats 1000000
theorem IY {t:Rt} {x:List Int} (ht:sm t.exps) (hx:sm x) (hl:t.exps.length=x.length):R F.poly_collector_add_1 [.agg (bv t),.sl 1 (aY x)] []=some (I (bt t.exps x),[]):=by
 refine aX sK sJ (qI false) rfl ?_
 have ho:=Ha ht hx hl
 simp only [ez,mG,bv,go_sem,↓reduceIte,ad7,ad9,ad8,ho]
theorem Qm {v:Int} {l:List Rt} {x:List Int} (c:Cl v l) (hx:sm x) (hl:(x.length:Int)=v) (h2:l.length≤1000000):∀ (k i j:Nat),j - i≤k→i≤bd l x→bd l x≤j→j≤l.length→∀ (s:af) (h:aa),s 0=.sl 4 (ax l)→s 1=.sl 1 (aY x)→s 2=.fn F.poly_collector_add_1 [] []→s 8=I l.length→s 9=I i→s 10=I j →
  aI 0 [0,1,2,8,9] (aU (az R (ab false) aS) [0,1,2,8,9,10] [] s h)=some (.normal,⟨upd (upd (upd (upd (upd (fun _=>.any) 9 (I (bd l x))) 8 (I l.length)) 2 (.fn F.poly_collector_add_1 [] [])) 1 (.sl 1 (aY x))) 0 (.sl 4 (ax l)),fun _=>.dead⟩):=by
 intro k
 induction k with
 | zero =>
  intro i j hk hi hj hn s h h0 h1 h2' h8 h9 h10
  have e1:((i:Int) < (j:Int))=False:=ff (by omega)
  obtain rfl:i=bd l x:=by omega
  rw [aB]
  simp only [aS,go_sem,↓reduceIte,ad7,h0,h1,h2',h8,h9,h10,e1]
 | succ k ih =>
  intro i j hk hi hj hn s h h0 h1 h2' h8 h9 h10
  by_cases hij:i < j
  ·have e1:((i:Int) < (j:Int))=True:=tt (by omega)
   have e2:IntKind.i64.wrap ((i:Int)+(j:Int))=((i+j:Nat):Int):=wi (by omega) (by omega)
   have hlt:(i+j) / 2 < l.length:=by omega
   have g1:IntKind.u64.wrap (((i+j:Nat)):Int)=((i+j:Nat):Int):=qh rfl (by omega)
   have g2:((1:Int) < 0)=False:=ff (by decide)
   have g3:Int.fdiv ((i+j:Nat):Int) (2 ^ (min (Int.toNat 1) 64))=(((i+j) / 2:Nat):Int):=by
    rw [show (2:Int) ^ (min (Int.toNat 1) 64)=2 from rfl,Int.fdiv_eq_ediv_of_nonneg _ (by decide)]
    omega
   have g4:IntKind.i64.wrap (((i+j) / 2:Nat):Int)=(((i+j) / 2:Nat):Int):=wi (by omega) (by omega)
   have e3:bH (ax l) (((i+j) / 2:Nat):Int)=some (.ipt (bv l[(i+j) / 2])):=jq rfl (List.getElem?_eq_getElem hlt)
   have q:=c.t _ (List.getElem_mem hlt)
   have hc:=IY q.sm hx (by have:=q.len; omega)
   have p1:bt (l[(i+j) / 2]).exps x < 0→(i+j) / 2 < bd l x:=fun ho=>by
    rcases Nat.lt_trichotomy ((i+j) / 2) (bd l x) with h | h | h
    ·exact h
    ·have:=Ct (l:=l) (x:=x) (q:=l[(i+j) / 2]) (by rw [← h]; exact List.getElem?_eq_getElem hlt)
     omega
    ·have:=Ql c hl h (List.getElem?_eq_getElem hlt)
     omega
   have p2:¬ bt (l[(i+j) / 2]).exps x < 0→bd l x≤(i+j) / 2:=fun ho=>by
    rcases Nat.lt_or_ge ((i+j) / 2) (bd l x) with h | h
    ·exact absurd (IW h (List.getElem?_eq_getElem hlt)) ho
    ·exact h
   have i1:=ih ((i+j) / 2+1) j (by omega)
   have i2:=ih i ((i+j) / 2) (by omega) hi
   generalize l[(i+j) / 2]=t at e3 q hc p1 p2
   rw [aB]
   generalize aU _ _ _=L at i1 i2 ⊢
   simp only [bv] at hc e3
   by_cases ho:bt t.exps x < 0
   ·have e4:(bt t.exps x < 0)=True:=tt ho
    have e5:IntKind.i64.wrap ((((i+j) / 2:Nat):Int)+1)=(((i+j) / 2+1:Nat):Int):=wi (by omega) (by omega)
    have:=p1 ho
    simp only [aS,go_sem,↓reduceIte,ad7,ad9,ad8,aea,h0,h1,h2',h8,h9,h10,e1,e2,g1,g2,g3,g4,e3,hc,e4,e5]
    exact i1 (by omega) hj hn _ _ rfl rfl rfl rfl rfl rfl
   ·have e4:(bt t.exps x < 0)=False:=ff ho
    have:=p2 ho
    simp only [aS,go_sem,↓reduceIte,ad7,ad9,ad8,aea,h0,h1,h2',h8,h9,h10,e1,e2,g1,g2,g3,g4,e3,hc,e4]
    exact i2 this (by omega) _ _ rfl rfl rfl rfl rfl rfl
  ·exact ih i j (by omega) hi hj hn s h h0 h1 h2' h8 h9 h10
def xn (l:List Rt) (x:List Int):Bool:=match l[bd l x]? with
 | some q=>decide (bt q.exps x=0)
 | none=>false
theorem Ku {v:Int} {l:List Rt} {x:List Int} (c:Cl v l) (hx:sm x) (hl:(x.length:Int)=v) (h2:l.length≤1000000):R F.slices_BinarySearchFunc_api_Term_api_Term_Sint_ [.sl 4 (ax l),.sl 1 (aY x),.fn F.poly_collector_add_1 [] []] []=some (.tup [I (bd l x),B (xn l x)],[]):=by
 refine aX gB gA (cG false) rfl ?_
 have h3:=Qm c hx hl h2 l.length 0 l.length (by omega) (Nat.zero_le _) (xS l x) (Nat.le_refl _)
 simp only [Int.natCast_zero] at h3
 simp only [be,cV,go_sem,↓reduceIte,ad7]
 rw [h3 _ _ rfl rfl rfl rfl rfl rfl]
 unfold xn
 cases hq:l[bd l x]? with
 | none =>
  have:l.length≤bd l x:=List.getElem?_eq_none_iff.1 hq
  have e1:((bd l x:Int) < (l.length:Int))=False:=ff (by omega)
  simp only [go_sem,↓reduceIte,ad7,e1]
 | some q =>
  have hlt:=(List.getElem?_eq_some_iff.1 hq).1
  have e1:((bd l x:Int) < (l.length:Int))=True:=tt (by omega)
  have vq:=c.t q (List.mem_of_getElem? hq)
  have hc:=IY vq.sm hx (by have:=vq.len; omega)
  have e3:bH (ax l) (bd l x:Int)=some (.ipt (bv q)):=jq rfl hq
  simp only [bv] at hc e3
  by_cases ho:bt q.exps x=0
  ·have e4:(bt q.exps x=0)=True:=tt ho
   simp only [go_sem,↓reduceIte,ad7,ad9,ad8,aea,e1,e3,hc,e4,decide_true]
  ·have e4:(bt q.exps x=0)=False:=ff ho
   simp only [go_sem,↓reduceIte,ad7,ad9,ad8,aea,e1,e3,hc,e4,decide_false]
end Go.Ab
namespace Go.Ab
open Go Go.IntWalk
set_option maxRecDepth 4000
set_option maxHeartbeats 1000000
theorem Dg {d:Rd} (hn:d.m.length ≠ 0) (h1:d.m.length≤100000):R F.poly_copied [aF d] []=some (aF d,[]):=by
 refine aX DP DO (yV false) rfl ?_
 have hc:=zS (m:=d.m) (fun h=>hn (by rw [h]; rfl)) h1
 simp only [lR,vn,aF,aW,go_sem,↓reduceIte,ad7,ad9,ad8,aea,hc]
theorem IZ {h:aa} {d id p n:Nat} {cs:List AV} {rows:List (List AV)} {x:AV} (hh:h id=.bx cs) (hp:cs[p]?=some (.osl 4 rows)) (hn:n=rows.length) (hx:∃ r,x=.sl 1 r) :
  ai R (ab false) h d [.rsl id (some p) 4 0 n,x,.fn F.poly_collector_add_1 [] []] (.fn F.slices_BinarySearchFunc_api_Term_api_Term_Sint_ [] [])=(R F.slices_BinarySearchFunc_api_Term_api_Term_Sint_ (aM [[.o 5 [.o 2 [],.o 0 [],.o 2 [],.o 0 []]],[.o 2 []],[]] [.sl 4 rows,x,.fn F.poly_collector_add_1 [] []]) []).bind (E7 h):=by
 obtain ⟨r,rfl⟩:=hx
 subst hn
 unfold ai
 rw [if_pos (by simp [jD,cW,Aj])]
 simp only [Ak,BK,Jk,nT,gr,hh,hp,mZ,dN,List.nil_append,List.append_nil,cO]
 simp
theorem Hg (o:Ob):ae [o]=upd (fun _=>.dead) 1000 o:=by
 funext i
 unfold ae upd
 by_cases h:i=1000
 ·subst h
  rfl
 ·rw [if_neg h]
  split
  ·rw [List.getElem?_eq_none (by simp; omega)]
   rfl
  ·rfl
theorem so {f:FuncId} {fd:FD} {args:List AV} {o:Ob} {r:AV × List Ob} (hE:au.E f=none) (hC:au.C f=some fd) (hk:au.md.keep f=false) (h1:args.length=fd.np)
  (hz:rg false fd.rs fd.res 1 (az R (ab false) fd.body (o6 args) (upd (fun _=>.dead) 1000 o))=some r):R f args [o]=some r:=by
 refine F6 false hE hC hk h1 (by simp) ?_
 rw [Hg]
 exact hz
theorem ER {f:FuncId} {g:List AV→List Ob→Option (AV × List Ob)} {args:List AV} {hs:List Ob} (hE:au.E f=some g):R f args hs=g args hs:=uG hE
theorem Dh:R F.slices_Clone_int_int_ [.sl 1 []] []=some (.sl 1 [],[]):=by
 rw [ER (g:=Lw) (by kernel_rfl)]
 rfl
theorem Di {x:Int} {l:List Int} (h:l.length≤1000000):R F.slices_Clone_int_int_ [.sl 1 (aY (x::l))] []=some (.osl 1 (aY (x::l)),[]):=by
 rw [ER (g:=Lw) (by kernel_rfl)]
 show (if (((aY l).length+1)*8≤140737488355328) then _ else _)=_
 rw [if_pos (by rw [tJ]; omega)]
 rfl
def mj (c:AV) (l:List Rt):Prop:=c=.osl 4 (ax l)∨(c=.emp∧l=[])
def t3 (v:Int) (c:AV) (e:Int):Ob:=.bx [I v,c,I e]
theorem tP {h:aa} {v e:Int} {c:AV} {l:List Rt} (hc:mj c l) (hh:h 1000=t3 v c e):nX [] 1 h []=some (.tup [],[t3 v c e]):=by
 have hp:bS 1=[1000]:=rfl
 have h2:aA [1000] (t3 v c e)=true:=by
  rcases hc with rfl | ⟨rfl,_⟩ <;> rfl
 unfold nX
 rw [hp]
 simp [hh,h2,fk,lM,kM,aM]
theorem Hh {v e:Int} {c x:AV} {d:Rd} {l:List Rt} (hc:mj c l) (he:e ≠ 0):R F.poly_collector_add [.ref 1000 none 0 0 0,x,aF d] [t3 v c e]=some (.tup [],[t3 v c e]):=by
 refine so ge gb (dt false) rfl ?_
 have e1:(e=0)=False:=ff he
 simp only [ck,dW,t3,aF,aW,go_sem,↓reduceIte,ad7,ad9,ad8,e1]
 exact tP hc rfl
theorem xU (h:aa) (i:Int) (b:Bool):E7 h (.tup [I i,B b],[])=some (.tup [I i,B b],h,[]):=rfl
theorem oL {h:aa} {id p id2 k n:Nat} {rows:List (List AV)} {cs:List AV} (h1:h id2=.ar k rows) (hn:n=rows.length) (h2:h id=.bx cs) (hne:id ≠ id2) (hp:p < cs.length) :
  mD h id p 1 [.rsl id2 none k 0 n]=some (upd (upd h id2 .dead) id (.bx (cs.set p (.osl k rows))),(id2,false)::(if cs[p]?.any aN then [(id,true)] else [])):=by
 have h3:upd h id2 .dead id=.bx cs:=by
  unfold upd
  rw [if_neg hne,h2]
 subst hn
 simp [mD,yf,h1,EY,EZ,h3,hp,ub]
theorem R7 {l:List Rt} {t:Rt} {n i:Nat} (hn:n=l.length) (hi:i≤n) (h2:n≤1000000):R F.slices_Insert_api_Term_api_Term_ [.rsl 1000 none 4 0 n,I i,.sl 4 [bv t]] [.ar 4 (ax l)]=some (.osl 4 (ax (l.take i++t::l.drop i)),[.dead]):=by
 rw [ER (g:=F5 4 64) (by kernel_rfl)]
 show (if (4:Nat)=4∧(4:Nat)=4∧(4:Nat)=4∧n=(ax l).length∧(0:Int)≤(i:Int)∧(i:Int)≤(n:Int)∧(n+1)*64≤140737488355328 then some (AV.osl 4 ((ax l).take (i:Int).toNat++bv t::(ax l).drop (i:Int).toNat),[Ob.dead]) else none)=_
 rw [if_pos ⟨rfl,rfl,rfl,by rw [fB,hn],by omega,by omega,by omega⟩,Int.toNat_natCast]
 simp [ax,List.map_take,List.map_drop]
theorem Qn {t:Rt}:R F.slices_Insert_api_Term_api_Term_ [.emp,I 0,.sl 4 [bv t]] []=some (.osl 4 (ax [t]),[]):=by
 rw [ER (g:=F5 4 64) (by kernel_rfl)]
 rfl
theorem LV (t:Rt):nrmV [.o 5 [.o 2 [],.o 0 [],.o 2 [],.o 0 []]] (.sl 4 [bv t])=.sl 4 [bv t]:=by
 have:=tK [t]
 simp only [ax,List.map_cons,List.map_nil] at this
 simp only [nrmV,List.headD_cons,nrmL,List.map_cons,List.map_nil,this]
theorem N8 {l:List Rt} {t:Rt} {h:aa} {d a b n i:Nat} (ha:h a=.ar 4 (ax l)) (hb:h b=.ar 4 [bv t]) (hab:a ≠ b) (_hda:2000+8*d ≠ a) (hdb:2000+8*d ≠ b) (hd:h (2000+8*d)=.dead) (hn:n=l.length) (hi:i≤n) (h2:n≤1000000) :
  ai R (ab false) h d [.rsl a none 4 0 n,.v (.int .i64 i),.rsl b none 4 0 1] (.fn F.slices_Insert_api_Term_api_Term_ [] []) =
   some (.rsl (2000+8*d) none 4 0 (l.length+1),upd (upd (upd h b (.fz 4 [bv t])) a .dead) (2000+8*d) (.ar 4 (ax (l.take i++t::l.drop i))),[(a,true),(a,false)]):=by
 have hm:=fP false
 have hs:=fy false
 have hk:=eY false
 have hf:=R7 (t:=t) hn hi h2
 have hb':jD (ab false) [.rsl a none 4 0 n,.v (.int .i64 i),.rsl b none 4 0 1] (.fn F.slices_Insert_api_Term_api_Term_ [] [])=false:=by
  simp [jD,hm]
 have h1:ah h [2,0,0] [.rsl a none 4 0 n,.v (.int .i64 i),.rsl b none 4 0 1]=some ([.rsl a none 4 0 n,.v (.int .i64 i),.sl 4 [bv t]],upd h b (.fz 4 [bv t]),[]):=by
  simp [ah,bM,mB,du,ak,ha,hb,MX,jc,ja]
 have g1:upd h b (.fz 4 [bv t]) a=.ar 4 (ax l):=by
  unfold upd
  rw [if_neg hab,ha]
 have g2:upd h b (.fz 4 [bv t]) (2000+8*d)=.dead:=by
  unfold upd
  rw [if_neg hdb,hd]
 have hr:bJ (upd h b (.fz 4 [bv t])) 40 [a] 0=[a]:=by
  simp [bJ,g1,ue,bo]
 have hp:bo [] ([AV.rsl a none 4 0 n,.v (.int .i64 i),.sl 4 [bv t]].flatMap bk)=[a]:=by
  simp [bk,cP,bo]
 have h3:aV [a] a=1000:=by simp [aV]
 have hnr:cf (.osl 4 (ax (l.take i++t::l.drop i)))=1:=rfl
 have hlen:(ax (l.take i++t::l.drop i)).length=l.length+1:=by
  rw [fB,List.length_append,List.length_take,List.length_cons,List.length_drop]
  omega
 have hnm:aM [[],[],[.o 5 [.o 2 [],.o 0 [],.o 2 [],.o 0 []]]] [.rsl a none 4 0 n,.v (.int .i64 i),.sl 4 [bv t]]=[.rsl a none 4 0 n,.v (.int .i64 i),.sl 4 [bv t]]:=by
  simp only [aM,LV]
  rfl
 unfold ai
 rw [if_neg (by rw [hb']; exact Bool.false_ne_true)]
 simp only [dq,hm,List.nil_append,List.append_nil,h1,Option.bind_some,hp,hr,hs,hnm]
 simp [jC,aJ,aO,g1,aA,cD,cQ,fT,h3,cC,hf,dZ,hnr,cx,g2,cU,bf,mM,ui,kK,cP,eu,cZ,qZ,cz,mat,bU,dC,hk,ug,hm,hlen]
 exact ⟨by unfold bN; rw [if_neg (by omega)],by rw [te]⟩
theorem N9 {h:aa} {d:Nat} {r:List (List AV)} {i:Int} {b:Bool} (hR:R F.slices_BinarySearchFunc_api_Term_api_Term_Sint_ [.sl 4 [],nrmV [.o 2 []] (.sl 1 r),.fn F.poly_collector_add_1 [] []] []=some (.tup [I i,B b],[])) (h0:h (2000+8*d)=.dead) (h1:h (2000+8*d+1)=.dead) :
  ai R (ab false) h d [.emp,.sl 1 r,.fn F.poly_collector_add_1 [] []] (.fn F.slices_BinarySearchFunc_api_Term_api_Term_Sint_ [] [])=some (.tup [I i,B b],h,[]):=by
 have hm:=cW false
 have hs:=cO false
 have hk:=cG false
 have hb':jD (ab false) [.emp,.sl 1 r,.fn F.poly_collector_add_1 [] []] (.fn F.slices_BinarySearchFunc_api_Term_api_Term_Sint_ [] [])=false:=by
  simp [jD,hm,Aj]
 have h3:ah h [3,0,0] [.emp,.sl 1 r,.fn F.poly_collector_add_1 [] []]=some ([.emp,.sl 1 r,.fn F.poly_collector_add_1 [] []],h,[]):=by
  simp [ah,bM,mB,du,ak]
 have hp:bo [] ([AV.emp,.sl 1 r,.fn F.poly_collector_add_1 [] []].flatMap bk)=[]:=by
  simp [bk,cP,bo]
 have hnm:aM [[.o 5 [.o 2 [],.o 0 [],.o 2 [],.o 0 []]],[.o 2 []],[]] [.emp,.sl 1 r,.fn F.poly_collector_add_1 [] []]=[.sl 4 [],nrmV [.o 2 []] (.sl 1 r),.fn F.poly_collector_add_1 [] []]:=by
  simp only [aM]
  rfl
 obtain ⟨q,hq⟩:∃ q,nrmV [.o 2 []] (.sl 1 r)=.sl 1 q:=⟨_,rfl⟩
 rw [hq] at hR hnm
 have hr:∀ n,bJ h n [] 0=[]:=fun n=>by cases n <;> rfl
 unfold ai
 rw [if_neg (by rw [hb']; exact Bool.false_ne_true)]
 simp only [dq,hm,List.nil_append,List.append_nil,h3,Option.bind_some,hp,hr,hs,hnm]
 simp [jC,aJ,aO,cQ,fT,hR,dZ,cf,cx,h0,h1,cD,cU,mM,ui,kK,eu,cZ,qZ,cz,mat,bp,bU,dC,hk,ug,hm]
theorem LW {t:Rt} {h:aa} {d b:Nat} (hb:h b=.ar 4 [bv t]) (hdb:2000+8*d ≠ b) (hd:h (2000+8*d)=.dead) :
  ai R (ab false) h d [.emp,.v (.int .i64 0),.rsl b none 4 0 1] (.fn F.slices_Insert_api_Term_api_Term_ [] [])=some (.rsl (2000+8*d) none 4 0 1,upd (upd h b (.fz 4 [bv t])) (2000+8*d) (.ar 4 (ax [t])),[]):=by
 have hm:=fP false
 have hs:=fy false
 have hk:=eY false
 have hf:=Qn (t:=t)
 have hb':jD (ab false) [.emp,.v (.int .i64 0),.rsl b none 4 0 1] (.fn F.slices_Insert_api_Term_api_Term_ [] [])=false:=by
  simp [jD,hm]
 have h1:ah h [2,0,0] [.emp,.v (.int .i64 0),.rsl b none 4 0 1]=some ([.emp,.v (.int .i64 0),.sl 4 [bv t]],upd h b (.fz 4 [bv t]),[]):=by
  simp [ah,bM,mB,du,ak,hb,jc,ja]
 have g2:upd h b (.fz 4 [bv t]) (2000+8*d)=.dead:=by
  unfold upd
  rw [if_neg hdb,hd]
 have hp:bo [] ([AV.emp,.v (.int .i64 0),.sl 4 [bv t]].flatMap bk)=[]:=by
  simp [bk,cP,bo]
 have hnr:cf (.osl 4 (ax [t]))=1:=rfl
 have hnm:aM [[],[],[.o 5 [.o 2 [],.o 0 [],.o 2 [],.o 0 []]]] [.emp,.v (.int .i64 0),.sl 4 [bv t]]=[.emp,.v (.int .i64 0),.sl 4 [bv t]]:=by
  simp only [aM,LV]
  rfl
 have hr:∀ (h:aa) n,bJ h n [] 0=[]:=fun h n=>by cases n <;> rfl
 have hlen:(ax [t]).length=1:=rfl
 unfold ai
 rw [if_neg (by rw [hb']; exact Bool.false_ne_true)]
 simp only [dq,hm,List.nil_append,List.append_nil,h1,Option.bind_some,hp,hr,hs,hnm]
 simp [jC,aJ,aO,cQ,fT,hf,dZ,hnr,cx,g2,cD,cU,mM,ui,kK,cP,eu,cZ,qZ,cz,mat,bU,dC,hk,ug,hm,hlen]
 unfold bN
 rw [if_neg (by omega)]
def ClE (x:List Int):Prop:=R F.slices_Clone_int_int_ [.sl 1 (aY x)] []=some (.osl 1 (aY x),[])∨R F.slices_Clone_int_int_ [.sl 1 (aY x)] []=some (.sl 1 (aY x),[])
theorem LX:∀ {x:List Int},x.length≤100000→ClE x
 | [],_=>.inr Dh
 | x::l,h=>.inl (Di (by simp at h; omega))
theorem Hi {v v':Int} {l:List Rt} {t:Rt} (c:Cl v l) (vt:VT v t) (hl:l.length≤1000000) (hf:xn l t.exps=false) :
  R F.poly_collector_add [.ref 1000 none 0 0 0,.sl 1 (aY t.exps),aF t.c] [t3 v' (.osl 4 (ax l)) 0]=some (.tup [],[t3 v' (.osl 4 (ax (l.take (bd l t.exps)++t::l.drop (bd l t.exps)))) 0]):=by
 refine so ge gb (dt false) rfl ?_
 have hbs:=Ku c vt.sm vt.len hl
 rw [hf] at hbs
 have hcp:=Dg vt.nz (Nat.le_trans (xj vt.vc vt.c.lb) (by decide))
 simp only [aF,aW] at hcp
 have k1:(aY t.exps).take t.exps.length=aY t.exps:=List.take_of_length_le (by rw [tJ]; exact Nat.le_refl _)
 have k2:(ax l).take l.length=ax l:=List.take_of_length_le (by rw [fB]; exact Nat.le_refl _)
 have hlen:(l.take (bd l t.exps)++t::l.drop (bd l t.exps)).length=l.length+1:=by
  have:=xS l t.exps
  rw [List.length_append,List.length_take,List.length_cons,List.length_drop]
  omega
 have hp:=xS l t.exps
 simp only [ck,dW,t3,aF,aW,go_sem,↓reduceIte,ad7,ad9,ad8]
 rw [IZ rfl rfl (fB l).symm ⟨_,rfl⟩]
 rcases LX vt.ok.len with hcv | hcv
 all_goals
  simp only [go_sem,↓reduceIte,ad7,ad9,ad8,aea,aec,aeb,hbs,xU,hcv,hcp,Nat.zero_add,Nat.le_refl,k1]
  rw [N8 rfl rfl (by decide) (by decide) (by decide) rfl rfl hp hl]
  generalize l.take (bd l t.exps)++t::l.drop (bd l t.exps)=L at hlen ⊢
  simp only [go_sem,↓reduceIte,ad7,ad9,ad8,aea,aeb]
  rw [if_pos (by rfl),oL rfl (by rw [fB,hlen]) rfl (by decide) (Nat.lt_of_lt_of_le (by decide) (Nat.le_refl 3))]
  simp only [go_sem,↓reduceIte]
  exact tP (.inl rfl) rfl
theorem Oa {v':Int} {v:Int} {t:Rt} (vt:VT v t) :
  R F.poly_collector_add [.ref 1000 none 0 0 0,.sl 1 (aY t.exps),aF t.c] [t3 v' .emp 0]=some (.tup [],[t3 v' (.osl 4 (ax [t])) 0]):=by
 refine so ge gb (dt false) rfl ?_
 have hbs:=Ku (l:=[]) (Cl.nil v) vt.sm vt.len (Nat.zero_le _)
 rw [show bd [] t.exps=0 from rfl,show xn [] t.exps=false from rfl,Int.natCast_zero] at hbs
 have hcp:=Dg vt.nz (Nat.le_trans (xj vt.vc vt.c.lb) (by decide))
 simp only [aF,aW] at hcp
 have k1:(aY t.exps).take t.exps.length=aY t.exps:=List.take_of_length_le (by rw [tJ]; exact Nat.le_refl _)
 have k2:nrmV [.o 2 []] (.sl 1 (aY t.exps))=.sl 1 (aY t.exps):=by
  simp only [go_sem]
 have hlen:[t].length=1:=rfl
 simp only [ck,dW,t3,aF,aW,go_sem,↓reduceIte,ad7,ad9,ad8]
 rw [N9 (by rw [k2]; exact hbs) rfl rfl]
 rcases LX vt.ok.len with hcv | hcv
 all_goals
  simp only [go_sem,↓reduceIte,ad7,ad9,ad8,aea,aec,hcv,hcp,Nat.zero_add,Nat.le_refl,k1]
  rw [LW rfl (by decide) rfl]
  simp only [go_sem,↓reduceIte,ad7,ad9,ad8,aea]
  rw [if_pos (by rfl),oL rfl (show 1=(ax [t]).length from rfl) rfl (by decide) (Nat.lt_of_lt_of_le (by decide) (Nat.le_refl 3))]
  simp only [go_sem,↓reduceIte]
  exact tP (.inl rfl) rfl
end Go.Ab
namespace Go.Ab
open Go Go.IntWalk
set_option maxRecDepth 4000
set_option maxHeartbeats 1000000
theorem xp {d n i:Nat} (h:i≤n):gC d n (some (I i))=some i:=by
 simp only [gC]
 rw [if_pos ⟨by omega,by omega⟩]
 rfl
theorem R8 {h:aa} {j k n:Nat} {rows:List (List AV)} (hj:aG j=false) (hh:h j=.ar k rows) (hn:n=rows.length) (hc:aA [1000] (h 1000)=true):nX [[]] 1 h [.rsl j none k 0 n]=some (.osl k rows,[h 1000]):=by
 subst hn
 have hp:bS 1=[1000]:=rfl
 unfold nX
 rw [if_pos]
 ·simp [lM,lh,fV,hj,hh,qm,kM,aM,nrmV,nrmL,hp]
 ·simp [hp,hc,fk,bk,cP,hj]
theorem R9 {rows:List (List AV)} {n i:Nat} (hn:n=rows.length) (hi:i < n) (h2:n≤1000000):R F.slices_Delete_api_Term_api_Term_ [.rsl 1000 none 4 0 n,I i,I ((i+1:Nat):Int)] [.ar 4 rows]=some (.osl 4 (rows.take i++rows.drop (i+1)),[.dead]):=by
 refine so my mw (eZ false) rfl ?_
 subst hn
 have b1:gC rows.length rows.length (some (I rows.length))=some rows.length:=xp (Nat.le_refl _)
 have b2:∀ d,gC d rows.length (some (I ((i+1:Nat):Int)))=some (i+1):=fun d=>xp (by omega)
 have b3:∀ d,gC d (i+1) (some (I i))=some i:=fun d=>xp (by omega)
 have b4:∀ d,gC d rows.length (some (I i))=some i:=fun d=>xp (by omega)
 have e1:((i:Int)=((i+1:Nat):Int))=False:=ff (by omega)
 have s1:dJ 4 (.rsl 1000 none 4 0 rows.length) (some (I i)) (some (I ((i+1:Nat):Int))) (some (I rows.length))=some .any:=by
  simp only [dJ,if_true,gY,b1,b2,b3,Option.bind_some,Option.map_some,Option.isNone_some,if_neg Bool.false_ne_true]
 have s2:dJ 4 (.rsl 1000 none 4 0 rows.length) none (some (I i)) none=some (.rsl 1000 none 4 0 i):=by
  simp only [dJ,if_true,gY,b4,zL,Option.bind_some,Option.map_some,Option.isNone_none,Nat.sub_zero,Nat.add_zero]
 have s3:dJ 4 (.rsl 1000 none 4 0 rows.length) (some (I ((i+1:Nat):Int))) none none=some (.rsl 1000 none 4 (i+1) (rows.length - (i+1))):=by
  simp only [dJ,if_true,gY,b2,zL,Option.bind_some,Option.map_some,Option.isNone_none,Nat.zero_add]
 have t1:(rows.drop (i+1)).take (rows.length - (i+1))=rows.drop (i+1):=List.take_of_length_le (by rw [List.length_drop]; omega)
 have t2:(i+1+(rows.length - (i+1))≤rows.length)=True:=eq_true (by omega)
 obtain ⟨m,hm⟩:∃ m,i+(rows.length - (i+1))=m:=⟨_,rfl⟩
 obtain ⟨D,hD⟩:∃ D,rows.take i++rows.drop (i+1)=D:=⟨_,rfl⟩
 have d1:D.length=m:=by
  rw [← hD,List.length_append,List.length_take,List.length_drop]
  omega
 obtain ⟨A,hA⟩:∃ A,D++rows.drop m=A:=⟨_,rfl⟩
 have a1:A.length=rows.length:=by
  rw [← hA,List.length_append,List.length_drop,d1]
  omega
 have a2:A.take m=D:=by rw [← hA,List.take_append_of_le_length (by omega),List.take_of_length_le (by omega)]
 have e5:∀ h,yH h 26 4 64 1000 4 0 i (rows.drop (i+1)) 4 rows=some (.rsl 1000 none 4 0 m,upd h 1000 (.ar 4 A),[]):=fun h=>by
  unfold yH
  rw [if_pos ⟨rfl,rfl,by rw [List.length_drop]; omega⟩,List.length_drop,Nat.zero_add,hm,hD,hA]
 have e7:(i=rows.length)=False:=eq_false (by omega)
 have b5:gY rows.length (some (I m)) (some (I rows.length)) none=some (m,rows.length):=by
  simp only [gY,b1,Option.bind_some]
  rw [xp (by omega)]
  rfl
 have c1:(m+(rows.length - m)≤rows.length)=True:=eq_true (by omega)
 have c2:∀ z,(D++List.replicate (rows.length - m) z++A.drop (m+(rows.length - m))).take m=D:=fun z=>by
  rw [List.append_assoc,List.take_append_of_le_length (by omega),List.take_of_length_le (by omega)]
 rw [hD]
 simp only [bZ,fL,go_sem,↓reduceIte,ad7,aea,aec,s1,s2,s3,e1,t1,t2,e5,e7,false_and,and_false,a1,a2,b5,c1,c2,Nat.sub_zero,Nat.zero_add,Nat.zero_le,aee,decide_false]
 exact R8 (by rfl) (by rfl) d1.symm (by rfl)
theorem Oc {l:List Rt} {h:aa} {d a n i:Nat} (ha:h a=.ar 4 (ax l)) (_hda:2000+8*d ≠ a) (hd:h (2000+8*d)=.dead) (hn:n=l.length) (hi:i < n) (h2:n≤1000000) :
  ai R (ab false) h d [.rsl a none 4 0 n,.v (.int .i64 i),.v (.int .i64 ((i+1:Nat):Int))] (.fn F.slices_Delete_api_Term_api_Term_ [] []) =
   some (.rsl (2000+8*d) none 4 0 (l.length - 1),upd (upd h a .dead) (2000+8*d) (.ar 4 (ax (l.take i++l.drop (i+1)))),[(a,true),(a,false)]):=by
 have hm:=mz false
 have hs:=l4 false
 have hk:=eZ false
 have hf:=R9 (rows:=ax l) (n:=n) (i:=i) (by rw [fB,hn]) hi h2
 have e1:(ax l).take i++(ax l).drop (i+1)=ax (l.take i++l.drop (i+1)):=by simp [ax,List.map_take,List.map_drop]
 rw [e1] at hf
 have hb':jD (ab false) [.rsl a none 4 0 n,.v (.int .i64 i),.v (.int .i64 ((i+1:Nat):Int))] (.fn F.slices_Delete_api_Term_api_Term_ [] [])=false:=by
  simp [jD,hm]
 have h1:ah h [2,0,0] [.rsl a none 4 0 n,.v (.int .i64 i),.v (.int .i64 ((i+1:Nat):Int))]=some ([.rsl a none 4 0 n,.v (.int .i64 i),.v (.int .i64 ((i+1:Nat):Int))],h,[]):=by
  simp [ah,bM,mB,du,ak,ha,MX]
 have hr:bJ h 40 [a] 0=[a]:=by
  simp [bJ,ha,ue,bo]
 have hp:bo [] ([AV.rsl a none 4 0 n,.v (.int .i64 i),.v (.int .i64 ((i+1:Nat):Int))].flatMap bk)=[a]:=by
  simp [bk,cP,bo]
 have h3:aV [a] a=1000:=by simp [aV]
 have hnr:cf (.osl 4 (ax (l.take i++l.drop (i+1))))=1:=rfl
 have hlen:(ax (l.take i++l.drop (i+1))).length=l.length - 1:=by
  rw [fB,List.length_append,List.length_take,List.length_drop]
  omega
 unfold ai
 rw [if_neg (by rw [hb']; exact Bool.false_ne_true)]
 simp only [dq,hm,List.nil_append,List.append_nil,h1,Option.bind_some,hp,hr,hs]
 simp only [Int.natCast_add,Int.natCast_one] at hf
 simp [jC,aM,aJ,aO,ha,aA,cD,cQ,fT,h3,cC,hf,dZ,hnr,cx,hd,cU,bf,mM,ui,kK,cP,eu,cZ,qZ,cz,mat,bU,dC,hk,ug,hm,hlen]
 exact ⟨by unfold bN; rw [if_neg (by omega)],by rw [te]⟩
theorem Qo (h:aa) (i:Nat) (xs:List AV) (a b:AV) (r:List (List AV)):xB h 3 1000 1 4 i 1 xs [] (.bx [a,.osl 4 r,b])=(we 3 4 i 1 xs 4 r).map fun q=>(.und,upd h 1000 (.bx [a,.osl 4 q,b]),[]):=rfl
theorem xq (a b:AV) (k:Nat) (r:List (List AV)):gr 1 (.bx [a,.osl k r,b])=some (k,r):=rfl
theorem Cu (h:aa) (n:Nat) (g:Bool) (i j:Nat) (r:List (List AV)):jB h n g 4 i j (some (4,r))=(r[i]?).bind fun row=>(ie n g row j).map fun a=>(a,h,[]):=rfl
theorem Od {v v':Int} {l:List Rt} {t q:Rt} (c:Cl v l) (vt:VT v t) (hl:l.length≤1000000) (hq:l[bd l t.exps]?=some q) (ho:bt q.exps t.exps=0) :
  R F.poly_collector_add [.ref 1000 none 0 0 0,.sl 1 (aY t.exps),aF t.c] [t3 v' (.osl 4 (ax l)) 0]=some (.tup [],[if (iK q.c t.c).2=0 then (if (iK q.c t.c).1.m.length=0 then t3 v' (.osl 4 (ax (l.take (bd l t.exps)++l.drop (bd l t.exps+1)))) 0 else t3 v' (.osl 4 (ax (l.set (bd l t.exps) ⟨q.exps,(iK q.c t.c).1⟩))) 0) else t3 v' (.osl 4 (ax l)) 9]):=by
 refine so ge gb (dt false) rfl ?_
 have hbs:=Ku c vt.sm vt.len hl
 have hf:xn l t.exps=true:=by
  unfold xn
  rw [hq]
  exact decide_eq_true ho
 rw [hf] at hbs
 have vq:=c.t q (List.mem_of_getElem? hq)
 have hadd:=Qk vq.c vt.c
 have hlt:=(List.getElem?_eq_some_iff.1 hq).1
 have hrow:(ax l)[bd l t.exps]?=some (bv q):=by simp [ax,hq]
 have hi0:(0≤(bd l t.exps:Int)∧(bd l t.exps:Int) < (l.length:Int))=True:=eq_true ⟨by omega,by omega⟩
 have hw:IntKind.i64.wrap ((bd l t.exps:Int)+1)=((bd l t.exps+1:Nat):Int):=wi (by omega) (by omega)
 generalize iK q.c t.c=r at hadd ⊢
 obtain ⟨s,e⟩:=r
 simp only [rV,aF,aW] at hadd
 simp only [bv] at hrow
 simp only [ck,dW,t3,aF,aW,go_sem,↓reduceIte,ad7,ad9,ad8]
 rw [IZ rfl rfl (fB l).symm ⟨_,rfl⟩]
 by_cases he:e=0
 ·subst he
  by_cases hs:s.m.length=0
  ·have e1:((s.m.length:Int)=0)=True:=tt (by omega)
   have hlen:(l.take (bd l t.exps)++l.drop (bd l t.exps+1)).length=l.length - 1:=by
    rw [List.length_append,List.length_take,List.length_drop]
    omega
   simp only [go_sem,↓reduceIte,ad7,ad9,ad8,aea,aec,aeb,hbs,xU,hi0,hrow,hadd,hs,Int.toNat_natCast,Int.natCast_zero,Nat.zero_add,xq,Cu,hw]
   rw [Oc rfl (by decide) rfl rfl hlt hl]
   generalize l.take (bd l t.exps)++l.drop (bd l t.exps+1)=L at hlen ⊢
   simp only [go_sem,↓reduceIte,ad7,ad9,ad8,aea,aeb]
   rw [oL rfl (by rw [fB,hlen]) rfl (by decide) (Nat.lt_of_lt_of_le (by decide) (Nat.le_refl 3))]
   simp only [go_sem,↓reduceIte]
   exact tP (.inl rfl) rfl
  ·have e1:((s.m.length:Int)=0)=False:=ff (by omega)
   have hset:(ax l).set (bd l t.exps) [.sl 1 (aY q.exps),B s.neg,lm s.m,I s.e]=ax (l.set (bd l t.exps) ⟨q.exps,s⟩):=by
    unfold ax
    rw [List.map_set]
    rfl
   simp only [go_sem,↓reduceIte,ad7,ad9,ad8,aea,aec,aeb,hbs,xU,hi0,hrow,hadd,hs,e1,Int.toNat_natCast,Nat.zero_add,xq,Cu,hw,Qo,hset]
   exact tP (.inl rfl) rfl
 ·have e1:(e=0)=False:=ff he
  simp only [go_sem,↓reduceIte,ad7,ad9,ad8,aea,aec,aeb,hbs,xU,hi0,hrow,hadd,e1,Int.toNat_natCast,Nat.zero_add,xq,Cu,hw]
  exact tP (.inl rfl) rfl
theorem I0 {v v':Int} {l:List Rt} {t:Rt} {cell:AV} (c:Cl v l) (vt:VT v t) (hl:l.length≤1000000) (hc:mj cell l) :
  ∃ cell' l' e',R F.poly_collector_add [.ref 1000 none 0 0 0,.sl 1 (aY t.exps),aF t.c] [t3 v' cell 0]=some (.tup [],[t3 v' cell' e'])∧mj cell' l'∧((e'=0∧ns l t=some l')∨(e'=9∧ns l t=none∧l'=l)):=by
 rcases hc with rfl | ⟨rfl,rfl⟩
 ·rw [IX]
  cases hq:l[bd l t.exps]? with
  | none =>
   exact ⟨_,_,_,Hi c vt hl (by unfold xn; rw [hq]),.inl rfl,.inl ⟨rfl,rfl⟩⟩
  | some q =>
   by_cases ho:bt q.exps t.exps=0
   ·have h1:=Od (v':=v') c vt hl hq ho
    simp only [if_pos ho]
    by_cases he:(iK q.c t.c).2=0
    ·rw [if_pos he] at h1 ⊢
     by_cases hs:(iK q.c t.c).1.m.length=0
     ·rw [if_pos hs] at h1 ⊢
      exact ⟨_,_,_,h1,.inl rfl,.inl ⟨rfl,rfl⟩⟩
     ·rw [if_neg hs] at h1 ⊢
      exact ⟨_,_,_,h1,.inl rfl,.inl ⟨rfl,rfl⟩⟩
    ·rw [if_neg he] at h1 ⊢
     exact ⟨_,_,_,h1,.inl rfl,.inr ⟨rfl,rfl,rfl⟩⟩
   ·simp only [if_neg ho]
    exact ⟨_,_,_,Hi c vt hl (by unfold xn; rw [hq]; exact decide_eq_false ho),.inl rfl,.inl ⟨rfl,rfl⟩⟩
 ·exact ⟨_,_,_,Oa vt,.inl rfl,.inl ⟨rfl,rfl⟩⟩
end Go.Ab
namespace Go.Ab
open Go Go.IntWalk
theorem VT.zn {v:Int} {t:Rt} (h:VT v t):zI t.c ≠ 0:=by
 rcases zT t.c h.vc with ⟨_,_,h2⟩ | ⟨_,h1,h2,_⟩ | ⟨_,h1,h2,_⟩
 ·exact absurd h2 h.nz
 ·omega
 ·omega
end Go.Ab
namespace Go.Ab
open Go Go.IntWalk
def p0:Rp:=⟨0,[]⟩
def pV (r:Rp × Int):AV:=.tup [aZ r.1,I r.2]
def kf (v:Int):Option (List Rt)→Rp × Int
 | none=>(p0,9)
 | some l=>if 500 < l.length then (p0,5) else (⟨v,l⟩,0)
def mY (a b:Rp):Bool:=vp a && (vp b && decide (a.vars=b.vars))
def bQ (a b:List Int):List Int:=List.zipWith (·+·) a b
def xW (s t:Rt):Option Rt:=if (nn s.c t.c).2=0 then some ⟨bQ s.exps t.exps,(nn s.c t.c).1⟩ else none
def gT (s:Rt):List Rt→Option (List Rt)
 | []=>some []
 | t::ts=>(xW s t).bind fun x=>(gT s ts).map (x::·)
def fS:List Rt→List Rt→Option (List Rt)
 | [],_=>some []
 | s::ss,ts=>(gT s ts).bind fun r=>(fS ss ts).map (r++·)
def bX (a b:Rp):Rp × Int:=if mY a b=true then (if a.terms.length ≠ 0∧b.terms.length ≠ 0∧32 < iJ a+iJ b then (p0,5) else kf a.vars ((fS a.terms b.terms).bind (gS []))) else (p0,1)
theorem Hk:∃ K:Int,K ≠ 0∧∀ a b:Rd,(nn a b).2=0→zI (nn a b).1*K=zI a*zI b:=by
 refine ⟨2 ^ 16384,?_,fun a b h=>?_⟩
 ·generalize 16384=n
  exact Int.pow_ne_zero (by decide)
 ·unfold nn at h ⊢
  split at h
  ·rename_i hc
   rw [if_pos hc]
   exact IR (j:=16384) h
  ·simp at h
noncomputable def KK:Int:=Classical.choose Hk
theorem I2 {a b:Rd} (h:(nn a b).2=0):zI (nn a b).1*KK=zI a*zI b:=(Classical.choose_spec Hk).2 a b h
theorem Hl:∀ {a b:List Int},a.length=b.length→bi (bQ a b)=bi a+bi b
 | [],[],_=>rfl
 | x::a,y::b,h=>by
  show x+y+bi (bQ a b)=x+bi a+(y+bi b)
  rw [Hl (by simpa using h)]
  omega
 | [],_::_,h=>by simp at h
 | _::_,[],h=>by simp at h
theorem Cx:∀ {l:List Int},(∀ x ∈ l,0≤x)→0≤bi l∧∀ x ∈ l,x≤bi l
 | [],_=>⟨Int.le_refl _,fun _ h=>by cases h⟩
 | y::l,h=>by
  obtain ⟨h1,h2⟩:=Cx fun x hx=>h x (List.mem_cons_of_mem _ hx)
  have h3:=h y (by simp)
  refine ⟨by unfold bi; omega,fun x hx=>?_⟩
  unfold bi
  rcases List.mem_cons.1 hx with rfl | hx
  ·omega
  ·have:=h2 x hx
   omega
theorem Hm:∀ {a b:List Int},(∀ x ∈ a,0≤x)→(∀ x ∈ b,0≤x)→∀ x ∈ bQ a b,0≤x
 | [],b,_,_,x,hx=>by simp [bQ] at hx
 | _::_,[],_,_,x,hx=>by simp [bQ] at hx
 | y::a,z::b,h1,h2,x,hx=>by
  have hx':x ∈ (y+z)::bQ a b:=hx
  rcases List.mem_cons.1 hx' with rfl | hx'
  ·have:=h1 y (by simp)
   have:=h2 z (by simp)
   omega
  ·exact Hm (fun x hx=>h1 x (by simp [hx])) (fun x hx=>h2 x (by simp [hx])) x hx'
theorem nv {a b:List Int} (h:a.length=b.length):(bQ a b).length=a.length:=by
 unfold bQ
 rw [List.length_zipWith]
 omega
theorem Hn {v:Int} {s t x:Rt} (vs:VT v s) (vt:VT v t) (hd:bi s.exps+bi t.exps≤32) (h:xW s t=some x):VT v x:=by
 unfold xW at h
 split at h
 ·rename_i h0
  cases h
  have hl:=vs.l2 vt
  have hp:=Hm (fun x hx=>(vs.b x hx).1) (fun x hx=>(vt.b x hx).1)
  have hs:=Hl hl
  obtain ⟨q1,q2⟩:vd (nn s.c t.c).1=true∧Ok0 (nn s.c t.c).1:=by
   unfold nn
   split
   ·exact IQ
   ·exact G8
  refine ⟨q2,by show ((bQ s.exps t.exps).length:Int)=v; rw [nv hl]; exact vs.len,vs.v8,q1,fun h=>?_,fun e he=>⟨hp e he,?_⟩,by show bi (bQ s.exps t.exps)≤32; omega⟩
  ·have h1:=I2 h0
   rw [qT h,Int.zero_mul] at h1
   rcases Int.mul_eq_zero.1 h1.symm with h2 | h2
   ·exact vs.zn h2
   ·exact vt.zn h2
  ·have:=(Cx hp).2 e he
   omega
 ·cases h
theorem xr {v:Int} {s:Rt} (vs:VT v s):∀ {ts r:List Rt},(∀ t ∈ ts,VT v t∧bi s.exps+bi t.exps≤32)→gT s ts=some r→(∀ x ∈ r,VT v x)∧r.length=ts.length
 | [],r,_,h=>by cases h; exact ⟨(fun _ h=>nomatch h),rfl⟩
 | t::ts,r,ht,h=>by
  unfold gT at h
  rw [Option.bind_eq_some_iff] at h
  obtain ⟨x,h1,h2⟩:=h
  rw [Option.map_eq_some_iff] at h2
  obtain ⟨r2,h3,rfl⟩:=h2
  obtain ⟨g1,g2⟩:=xr vs (fun y hy=>ht y (by simp [hy])) h3
  have vx:=Hn vs (ht t (by simp)).1 (ht t (by simp)).2 h1
  refine ⟨fun y hy=>?_,by simp [g2]⟩
  rcases List.mem_cons.1 hy with rfl | hy
  ·exact vx
  ·exact g1 y hy
theorem xt {v:Int}:∀ {ss ts r:List Rt},(∀ s ∈ ss,VT v s)→(∀ t ∈ ts,VT v t)→(∀ s ∈ ss,∀ t ∈ ts,bi s.exps+bi t.exps≤32)→fS ss ts=some r→(∀ x ∈ r,VT v x)∧r.length=ss.length*ts.length
 | [],ts,r,_,_,_,h=>by cases h; exact ⟨(fun _ h=>nomatch h),by simp⟩
 | s::ss,ts,r,vs,vt,hd,h=>by
  unfold fS at h
  rw [Option.bind_eq_some_iff] at h
  obtain ⟨x,h1,h2⟩:=h
  rw [Option.map_eq_some_iff] at h2
  obtain ⟨r2,h3,rfl⟩:=h2
  obtain ⟨g1,g2⟩:=xr (vs s (by simp)) (fun t ht=>⟨vt t ht,hd s (by simp) t ht⟩) h1
  obtain ⟨k1,k2⟩:=xt (fun y hy=>vs y (by simp [hy])) vt (fun y hy t ht=>hd y (by simp [hy]) t ht) h3
  refine ⟨fun y hy=>?_,by rw [List.length_append,g2,k2,List.length_cons,Nat.succ_mul]; omega⟩
  rcases List.mem_append.1 hy with hy | hy
  ·exact g1 y hy
  ·exact k1 y hy
end Go.Ab
namespace Go.Ab
open Go Go.IntWalk
theorem Qp {a b:List Int} (h:bt a b < 0):bi a≤bi b:=by
 unfold bt at h
 rcases ke (bi a) (bi b) with ⟨g,e⟩ | ⟨g,e⟩ | ⟨g,e⟩ <;> rw [e] at h
 ·omega
 ·omega
 ·rw [if_neg (by decide)] at h
  omega
theorem zV {v:Int}:∀ {l:List Rt} {t q:Rt},Cl v l→l.getLast?=some q→t ∈ l→bi t.exps≤bi q.exps
 | [],t,q,_,h,_=>by simp at h
 | [x],t,q,_,h,ht=>by
  simp at h ht
  subst h ht
  exact Int.le_refl _
 | x::y::l,t,q,c,h,ht=>by
  obtain ⟨c1,c2,c3⟩:=c.cons
  rw [List.getLast?_cons_cons] at h
  rcases List.mem_cons.1 ht with rfl | ht
  ·have h1:=Qp (c2 y (by simp))
   have h2:=zV c3 h (t:=y) (by simp)
   omega
  ·exact zV c3 h ht
theorem I3 {a:Rp} (oa:OkP a) (h:vp a=true):∀ t ∈ a.terms,bi t.exps≤iJ a:=by
 intro t ht
 unfold iJ
 rw [if_pos h]
 cases hg:a.terms.getLast? with
 | none =>
  rw [List.getLast?_eq_none_iff] at hg
  rw [hg] at ht
  cases ht
 | some q=>exact zV (dH oa h).1 hg ht
theorem fq {a b:Rp}:mY a b=true↔vp a=true∧vp b=true∧a.vars=b.vars:=by
 unfold mY
 simp
structure Pv (v:Int) (a:Rp):Prop where
 v:a.vars=v
 p:vp a=true
 o:OkP a
theorem Pv.cl {v:Int} {a:Rp} (h:Pv v a):Cl v a.terms:=by
 have:=(dH h.o h.p).1
 rw [h.v] at this
 exact this
theorem zW {a b:Rp} (oa:OkP a) (ob:OkP b) (va:vp a=true) (vb:vp b=true) (h:¬ (a.terms.length ≠ 0∧b.terms.length ≠ 0∧32 < iJ a+iJ b)):∀ s ∈ a.terms,∀ t ∈ b.terms,bi s.exps+bi t.exps≤32:=by
 intro s hs t ht
 have h1:=I3 oa va s hs
 have h2:=I3 ob vb t ht
 have h3:a.terms.length ≠ 0:=fun e=>by rw [List.length_eq_zero_iff] at e; rw [e] at hs; cases hs
 have h4:b.terms.length ≠ 0:=fun e=>by rw [List.length_eq_zero_iff] at e; rw [e] at ht; cases ht
 omega
end Go.Ab
namespace Go.Ab
open Go Go.IntWalk
set_option maxRecDepth 4000
set_option maxHeartbeats 1000000
theorem Hq {a:AV} (h:ak a=true):cP a=[]:=by cases a <;> simp [ak] at h <;> rfl
theorem I5 {a:AV} (h:ak a=true) (l:List Nat):aO l a=true:=by cases a <;> simp [ak] at h <;> simp [aO,h]
theorem Hr {a:AV} (h:ak a=true) (g:Nat→Nat):fT g a=a:=by cases a <;> simp [ak] at h <;> rfl
theorem uW {α β:Type} {f:α→List β}:∀ {l:List α},(∀ x ∈ l,f x=[])→l.flatMap f=[]
 | [],_=>rfl
 | x::l,h=>by
  rw [List.flatMap_cons,h x (by simp),uW fun y hy=>h y (by simp [hy])]
  rfl
theorem I6 {a:AV} (h:dat a=true):bk a=[]:=by
 cases a <;> simp only [dat] at h <;> first | exact Hq h | skip
 ·rename_i cs
  exact uW fun x hx=>Hq (List.all_eq_true.1 h x hx)
 ·rename_i f x y
  simp [ak] at h
  obtain ⟨rfl,rfl⟩:=h
  rfl
theorem LZ {a:AV} (h:dat a=true) (l:List Nat):aJ l a=true:=by
 cases a <;> simp only [dat] at h <;> first | exact I5 h l | skip
 ·rename_i cs
  simp only [aJ,List.all_eq_true]
  exact fun x hx=>I5 (List.all_eq_true.1 h x hx) l
 ·rename_i f x y
  simp [ak] at h
  obtain ⟨rfl,rfl⟩:=h
  rfl
theorem I7 {a:AV} (h:dat a=true) (g:Nat→Nat):cQ g a=a:=by
 cases a <;> simp only [dat] at h <;> first | exact Hr h g | skip
 ·rename_i cs
  show AV.agg (cs.map (fT g))=_
  rw [(List.map_congr_left (g:=fun c=>c) fun x hx=>Hr (List.all_eq_true.1 h x hx) g).trans (List.map_id' cs)]
 ·rename_i f x y
  simp [ak] at h
  obtain ⟨rfl,rfl⟩:=h
  rfl
theorem L4 {a:AV} (h:dat a=true) (hp:aa):bM hp 0 a=some (a,hp,[]):=by
 by_cases hagg:∃ cs,a=.agg cs
 ·obtain ⟨cs,rfl⟩:=hagg
  simp only [dat] at h
  simp only [bM,mB]
  rw [gl h hp]
  rfl
 ·have h2:ak a=true:=by cases a <;> first | exact h | exact absurd ⟨_,rfl⟩ hagg
  cases a <;> first | (simp [ak] at h2; done) | rfl | skip
theorem CA (hp:aa):∀ {l:List AV},l.all dat=true→ah hp [] l=some (l,hp,[])
 | [],_=>rfl
 | a::l,h=>by
  simp only [List.all_cons,Bool.and_eq_true] at h
  simp only [ah,List.headD_nil,L4 h.1,Option.bind_some,List.tail_nil,CA hp h.2,List.append_nil]
structure OC (o:Ob):Prop where
 cl:∀ l,aA l o=true
 ids:ue o=[]
 ren:∀ g,cC g o=o
 nd:cD o=false
structure RT (r:AV):Prop where
 ren:∀ g,ug g r=r
 mat:∀ n h,mat n h r=(r,h)
 ok:∀ l,eu l r=true
theorem CB:∀ l:List AV,kK [] l=[]
 | []=>rfl
 | a::l=>by
  show (if (0:Nat)=2 then _ else [])++kK [] l=[]
  rw [CB l]
  rfl
theorem Hs {f:FuncId} {h:aa} {d id:Nat} {zas as':List AV} {o o':Ob} {res:AV} (hm:(ab false).m f=[]) (hk:(ab false).keep f=false) (hn:aM ((ab false).sh f) (.ref id none 0 0 0::zas)=.ref id none 0 0 0::as') (hd:zas.all dat=true) (hd':as'.all dat=true)
  (hh:h id=o) (ho:OC o) (ho':OC o') (hb:bf o=true→bf o'=true) (hR:R f (.ref 1000 none 0 0 0::as') [o]=some (res,[o'])) (hr:RT res) (h8:cf res≤8) (hfr:cx h (2000+8*d) (cf res)=true) :
  ai R (ab false) h d (.ref id none 0 0 0::zas) (.fn f [] [])=some (res,upd h id o',[(id,true)]):=by
 have h1:ah h [] (.ref id none 0 0 0::zas)=some (.ref id none 0 0 0::zas,h,[]):=by
  simp only [ah,bM,Option.bind_some,List.tail_nil,CA h hd,List.append_nil]
 have hp:bo [] ((AV.ref id none 0 0 0::zas).flatMap bk)=[id]:=by
  rw [List.flatMap_cons,uW fun x hx=>I6 (List.all_eq_true.1 hd x hx)]
  rfl
 have hre:bJ h 40 [id] 0=[id]:=by
  simp [bJ,hh,ho.ids,bo]
 have h3:aV [id] id=1000:=by simp [aV]
 have hall:(AV.ref id none 0 0 0::as').all (aJ [id])=true:=by
  rw [List.all_cons,Bool.and_eq_true]
  exact ⟨by simp [aJ,aO],List.all_eq_true.2 fun x hx=>LZ (List.all_eq_true.1 hd' x hx) _⟩
 have hmap:(AV.ref id none 0 0 0::as').map (cQ (aV [id]))=.ref 1000 none 0 0 0::as':=by
  rw [List.map_cons,(List.map_congr_left (g:=fun c=>c) fun x hx=>I7 (List.all_eq_true.1 hd' x hx) _).trans (List.map_id' as')]
  simp [cQ,fT,h3]
 have hob:([id].map fun a=>cC (aV [id]) (h a))=[o]:=by simp [hh,ho.ren]
 have hids:([id].all fun a=>aA [id] (h a) && !cD (h a))=true:=by simp [hh,ho.cl,ho.nd]
 unfold ai
 rw [if_neg (by simp [jD,hm])]
 simp only [dq,hm,List.nil_append,List.append_nil,h1,Option.bind_some,hp,hre,hn]
 unfold jC
 rw [hall,hids,hmap,hob,hR,Bool.and_self,if_pos rfl,Option.bind_some,hk,hm,CB]
 unfold dZ
 have hbf:cU h [] [id] [o']=true:=by
  have:=ho'.nd
  cases h5:bf o with
  | false=>simp [cU,hh,h5,this]
  | true=>simp [cU,hh,h5,hb h5,this]
 have hend:mM h [id] [] (res,[o'])=true:=by
  simp [mM,ui,hr.ok,ho'.cl]
 rw [if_pos ⟨rfl,by simp,h8,hfr,hbf,hend⟩]
 simp [cz,dC,hr.mat,hr.ren,ho'.ren]
theorem sp {f:FuncId} {h:aa} {d id:Nat} {zas:List AV} {r:Option R3} (hm:(ab false).m f=[]) (hd:zas.all dat=true) (hc:ai R (ab false) h d (.ref id none 0 0 0::zas) (.fn f [] [])=r):aD R (ab false) d f (.ref id none 0 0 0::zas,h,[])=r:=by
 have h1:ah h [] (.ref id none 0 0 0::zas)=some (.ref id none 0 0 0::zas,h,[]):=by
  simp only [ah,bM,Option.bind_some,List.tail_nil,CA h hd,List.append_nil]
 rw [aj d hm,h1] at hc
 exact hc
theorem l7 {v e:Int} {c:AV} {l:List Rt} (hc:mj c l):OC (t3 v c e):=by
 rcases hc with rfl | ⟨rfl,_⟩
 ·exact ⟨fun l=>rfl,rfl,fun g=>rfl,rfl⟩
 ·exact ⟨fun l=>rfl,rfl,fun g=>rfl,rfl⟩
theorem ZD:RT (.tup []):=⟨fun _=>rfl,fun _ _=>rfl,fun _=>rfl⟩
theorem Dk {v e e':Int} {c c':AV} {l l':List Rt} {h:aa} {d id:Nat} {x:List Int} {q:Rd} (hh:h id=t3 v c e) (hc:mj c l) (hc':mj c' l') (hR:R F.poly_collector_add [.ref 1000 none 0 0 0,.sl 1 (aY x),aF q] [t3 v c e]=some (.tup [],[t3 v c' e'])) :
  ai R (ab false) h d [.ref id none 0 0 0,.sl 1 (aY x),aF q] (.fn F.poly_collector_add [] [])=some (.tup [],upd h id (t3 v c' e'),[(id,true)]) :=
 Hs (gg false) (dt false) (as':=[.sl 1 (aY x),aF q]) (by rw [tw]; simp only [aF,aW,go_sem]) rfl rfl hh (l7 hc) (l7 hc') (fun _=>rfl) hR ZD (by decide) rfl
end Go.Ab
namespace Go.Ab
open Go Go.IntWalk
set_option maxRecDepth 4000
set_option maxHeartbeats 1000000
theorem Ht {v:Int}:R F.poly_empty [I v] []=some (.obx [I v,.emp,I 0],[]):=by
 refine aX Ge Gd (AZ false) rfl ?_
 simp only [mR,wP,go_sem,↓reduceIte,ad7,ad8,aea]
 rfl
theorem U7 (r:Rp × Int):RT (pV r):=⟨fun _=>rfl,fun _ _=>rfl,fun _=>rfl⟩
theorem uX {h:aa} {o:Ob} {rs:List (List Sh)} {vs us:List AV} {r:AV} (h0:((vs.flatMap bk).filter fun i=>!aG i)=[]) (h1:h 1000=o) (ho:aA [1000] o=true) (h2:lM h vs=some us) (h3:kM (aM rs us)=r):nX rs 1 h vs=some (r,[o]):=by
 have hp:bS 1=[1000]:=rfl
 unfold nX
 rw [h0,hp,h2,if_pos (by simp [fk,h1,ho])]
 simp [h1,h3]
theorem L5 (x:Value):gD (.v x)=.v x:=rfl
theorem Hu (k:Nat) (r:List (List AV)):gD (.osl k r)=.sl k r:=rfl
theorem Sa {v e:Int} {l:List Rt}:kM (aM [[.o 0 [],.o 5 [.o 2 [],.o 0 [],.o 2 [],.o 0 []]],[]] [.agg [I v,.sl 4 (ax l)],I e])=pV (⟨v,l⟩,e):=by
 have h:=tK l
 show AV.tup [.agg [I v,.sl 4 ((ax l).map _)],I e]=_
 rw [h]
 rfl
theorem Of {v e:Int} {c:AV} {l:List Rt} (hc:mj c l) (he:e ≠ 0):R F.poly_collector_done [.ref 1000 none 0 0 0] [t3 v c e]=some (pV (p0,e),[t3 v c e]):=by
 refine so jp jo (dY false) rfl ?_
 have e1:(e=0)=False:=ff he
 simp only [bW,dP,t3,go_sem,↓reduceIte,ad7,ad9,ad8,aea,aec,aeb,e1]
 exact uX rfl (by rfl) ((l7 hc).cl _) (by rfl) (by rfl)
theorem Og {v:Int} {l:List Rt}:R F.poly_collector_done [.ref 1000 none 0 0 0] [t3 v (.osl 4 (ax l)) 0]=some (pV (kf v (some l)),[if 500 < l.length then t3 v (.osl 4 (ax l)) 0 else .bx [I v,.sl 4 (ax l),I 0]]):=by
 refine so jp jo (dY false) rfl ?_
 unfold kf
 by_cases h:500 < l.length
 ·have e1:(500 < (l.length:Int))=True:=tt (by omega)
  simp only [if_pos h]
  simp only [bW,dP,t3,go_sem,↓reduceIte,ad7,ad9,ad8,aea,aec,aeb,e1]
  exact uX rfl (by rfl) rfl (by rfl) (by rfl)
 ·have e1:(500 < (l.length:Int))=False:=ff (by omega)
  have k2:(ax l).take l.length=ax l:=List.take_of_length_le (by rw [fB]; exact Nat.le_refl _)
  simp only [if_neg h]
  simp only [bW,dP,t3,go_sem,↓reduceIte,ad7,ad9,ad8,aea,aec,aeb,e1,L5,Hu]
  exact uX rfl (by rfl) rfl (by rfl) Sa
theorem Oh {v:Int}:R F.poly_collector_done [.ref 1000 none 0 0 0] [t3 v .emp 0]=some (pV (kf v (some [])),[t3 v .emp 0]):=by
 refine so jp jo (dY false) rfl ?_
 have e1:((500:Int) < 0)=False:=ff (by decide)
 simp only [bW,dP,t3,go_sem,↓reduceIte,ad7,ad9,ad8,aea,aec,aeb,e1]
 exact uX rfl (by rfl) rfl (by rfl) (by rfl)
theorem Dl {v e:Int} {c:AV} {l:List Rt} {h:aa} {d id:Nat} (hh:h id=t3 v c e) (hc:mj c l) (hf:cx h (2000+8*d) 2=true) :
  ∃ o,ai R (ab false) h d [.ref id none 0 0 0] (.fn F.poly_collector_done [] [])=some (pV (if e=0 then kf v (some l) else (p0,e)),upd h id o,[(id,true)]):=by
 have key:∃ o,OC o∧bf o=true∧R F.poly_collector_done [.ref 1000 none 0 0 0] [t3 v c e]=some (pV (if e=0 then kf v (some l) else (p0,e)),[o]):=by
  by_cases he:e=0
  ·subst he
   rw [if_pos rfl]
   rcases hc with rfl | ⟨rfl,rfl⟩
   ·refine ⟨_,?_,?_,Og⟩
    ·split
     ·exact l7 (.inl rfl)
     ·exact ⟨fun l=>rfl,rfl,fun g=>rfl,rfl⟩
    ·split <;> rfl
   ·exact ⟨_,l7 (.inr ⟨rfl,rfl⟩),rfl,Oh⟩
  ·rw [if_neg he]
   exact ⟨_,l7 hc,rfl,Of hc he⟩
 obtain ⟨o,h1,h2,h3⟩:=key
 exact ⟨o,Hs (fw false) (dY false) (as':=[]) (by rw [sI]; rfl) rfl rfl hh (l7 hc) h1 (fun _=>h2) h3 (U7 _) (by show 2≤8; decide) hf⟩
theorem CC {a b:Rp} (oa:OkP a) (ob:OkP b):R F.poly_pair [aZ a,aZ b] []=some (B (mY a b),[]):=by
 refine aX Ic Ib (B4 false) rfl ?_
 have h1:=nM oa
 have h2:=nM ob
 simp only [aZ] at h1 h2
 unfold mY
 cases ha:vp a with
 | false =>
  rw [ha] at h1
  rw [Bool.false_and]
  simp only [jg,pP,aZ,go_sem,↓reduceIte,ad7,ad9,ad8,aea,h1]
 | true =>
  rw [ha] at h1
  rw [Bool.true_and]
  cases hb:vp b with
  | false =>
   rw [hb] at h2
   rw [Bool.false_and]
   simp only [jg,pP,aZ,go_sem,↓reduceIte,ad7,ad9,ad8,aea,h1,h2]
  | true =>
   rw [hb] at h2
   rw [Bool.true_and]
   simp only [jg,pP,aZ,go_sem,↓reduceIte,ad7,ad9,ad8,aea,h1,h2]
structure ColE (v:Int) (l ts:List Rt) (e:Int) (c':AV) (l':List Rt) (e':Int):Prop where
 c:mj c' l'
 r:(e'=0∧e=0∧gS l ts=some l')∨(e'=9∧(e=0→gS l ts=none))
theorem ColE.fin {v:Int} {ts:List Rt} {c':AV} {l':List Rt} {e':Int} (h:ColE v [] ts 0 c' l' e'):(if e'=0 then kf v (some l') else (p0,e'))=kf v (gS [] ts):=by
 rcases h.r with ⟨h1,_,h2⟩ | ⟨h1,h2⟩
 ·rw [if_pos h1,h2]
 ·rw [h1,if_neg (by decide),h2 rfl]
  rfl
theorem ColE.step {v:Int} {l ts:List Rt} {t:Rt} {c:AV} (hc:mj c l) {e:Int} (he:e=0∨e=9) (hC:e=0→Cl v l∧l.length+ts.length+1≤1000000) (vt:VT v t) {v':Int} :
  ∃ c1 l1 e1,R F.poly_collector_add [.ref 1000 none 0 0 0,.sl 1 (aY t.exps),aF t.c] [t3 v' c e]=some (.tup [],[t3 v' c1 e1])∧mj c1 l1∧(e1=0∨e1=9)∧(e1=0→Cl v l1∧l1.length+ts.length≤1000000)∧∀ c' l' e',ColE v l1 ts e1 c' l' e'→ColE v l (t::ts) e c' l' e':=by
 rcases he with rfl | rfl
 ·obtain ⟨h1,h2⟩:=hC rfl
  obtain ⟨c1,l1,e1,g1,g2,g3⟩:=I0 (v':=v') h1 vt (by omega) hc
  refine ⟨c1,l1,e1,g1,g2,?_,fun h0=>?_,fun c' l' e' h=>⟨h.c,?_⟩⟩
  ·rcases g3 with ⟨g,_⟩ | ⟨g,_⟩
   ·exact .inl g
   ·exact .inr g
  ·rcases g3 with ⟨_,g⟩ | ⟨g,_⟩
   ·have:=zU g
    exact ⟨(xT h1 vt g).1,by omega⟩
   ·omega
  ·rcases g3 with ⟨g,k⟩ | ⟨g,k,_⟩
   ·subst g
    rcases h.r with ⟨q1,_,q2⟩ | ⟨q1,q2⟩
    ·refine .inl ⟨q1,rfl,?_⟩
     unfold gS
     rw [k]
     exact q2
    ·refine .inr ⟨q1,fun _=>?_⟩
     unfold gS
     rw [k]
     exact q2 rfl
   ·subst g
    rcases h.r with ⟨_,q1,_⟩ | ⟨q1,_⟩
    ·omega
    ·refine .inr ⟨q1,fun _=>?_⟩
     unfold gS
     rw [k]
     rfl
 ·refine ⟨c,l,9,Hh hc (by decide),hc,.inr rfl,fun h=>by omega,fun c' l' e' h=>⟨h.c,?_⟩⟩
  rcases h.r with ⟨_,q1,_⟩ | ⟨q1,_⟩
  ·omega
  ·exact .inr ⟨q1,fun h=>by omega⟩
end Go.Ab
namespace Go.Ab
open Go Go.IntWalk
set_option maxRecDepth 4000
set_option maxHeartbeats 1000000
theorem sq (h:aa) (d:Nat) (v:Int):gV h d (some (.obx [I v,.emp,I 0],[]))=if cD (h (2000+8*d))=true then some (.ref (2000+8*d) none 0 0 0,upd h (2000+8*d) (.bx [I v,.emp,I 0]),[]) else none:=by
 simp [gV,cf,cx,eu,cZ,gE,ak,aN,mat,bU]
end Go.Ab
namespace Go.Ab
open Go Go.IntWalk
set_option maxRecDepth 4000
set_option maxHeartbeats 1000000
def t2 (v:Int) (c:AV):Ob:=.bx [I v,c]
end Go.Ab
namespace Go.Ab
open Go Go.IntWalk
set_option maxRecDepth 4000
set_option maxHeartbeats 1000000
theorem aoy {v:Int} {l:List Rt}:R F.r23_finish [I v,.sl 4 (ax l)] []=some (pV (kf v (some l)),[]):=by
 refine aX aoi aoh (aob false) rfl ?_
 unfold kf
 by_cases h:500 < l.length
 ·have e1:(500 < (l.length:Int))=True:=tt (by omega)
  simp only [if_pos h]
  simp only [anT,anZ,pV,p0,aZ,go_sem,↓reduceIte,ad7,ad9,ad8,aea,e1]
  rfl
 ·have e1:(500 < (l.length:Int))=False:=ff (by omega)
  simp only [if_neg h]
  simp only [anT,anZ,pV,aZ,go_sem,↓reduceIte,ad7,ad9,ad8,aea,e1]
theorem aok (l:List Rt) (n:Nat):(ax l).take n=ax (l.take n):=by simp [ax,List.map_take]
theorem aoB (l:List Rt) (n:Nat):(ax l).drop n=ax (l.drop n):=by simp [ax,List.map_drop]
theorem anY (l r:List Rt):ax l++ax r=ax (l++r):=by simp [ax]
theorem aoQ {l:List Rt} {p:Nat} (h:p≤l.length):dJ 4 (.sl 4 (ax l)) none (some (I p)) none=some (.sl 4 (ax (l.take p))):=by
 simp only [dJ,if_true,gY,fB,xp h,zL,Option.bind_some,Option.map_some,wc,if_neg Bool.false_ne_true,List.drop_zero,Nat.sub_zero,aok]
theorem aoz {l:List Rt} {p:Nat} (h:p≤l.length):dJ 4 (.sl 4 (ax l)) (some (I p)) none none=some (.sl 4 (ax (l.drop p))):=by
 simp only [dJ,if_true,gY,fB,xp h,zL,Option.bind_some,Option.map_some,wc,if_neg Bool.false_ne_true,aok,aoB]
 rw [List.take_of_length_le (by rw [List.length_drop]; omega)]
theorem aiC {v:Int} {q t:Rt} (vq:VT v q) (vt:VT v t):R F.r23_Compare [.sl 1 (aY q.exps),.sl 1 (aY t.exps)] []=some (I (bt q.exps t.exps),[]):=afn vq.sm vt.sm (vq.l2 vt)
theorem aoC {v:Int} {l:List Rt} {t:Rt} (c:Cl v l) (vt:VT v t) (hl:l.length≤1000000):∀ (k i:Nat),i+k=bd l t.exps→∀ (s:af) (h:aa),s 0=.sl 4 (ax l)→s 3=.ref 3 none 0 0 0→s 6=I i→h 3=.bx (bv t) →
  aI 0 [0,3,6] (aU (az R (ab false) anQ) [0,3,6] [3] s h)=some (.normal,⟨upd (upd (upd (fun _=>.any) 6 (I (bd l t.exps))) 3 (.ref 3 none 0 0 0)) 0 (.sl 4 (ax l)),upd (fun _=>.dead) 3 (.bx (bv t))⟩):=by
 intro k
 induction k with
 | zero =>
  intro i hi s h h0 h3 h6 k3
  obtain rfl:i=bd l t.exps:=by omega
  rw [aB]
  simp only [bv] at k3
  cases hq:l[bd l t.exps]? with
  | none =>
   have:l.length≤bd l t.exps:=List.getElem?_eq_none_iff.1 hq
   have e1:((bd l t.exps:Int) < (l.length:Int))=False:=ff (by omega)
   simp only [anQ,bv,go_sem,↓reduceIte,ad7,aeb,h0,h3,h6,k3,e1]
  | some q =>
   have hlt:=(List.getElem?_eq_some_iff.1 hq).1
   have e1:((bd l t.exps:Int) < (l.length:Int))=True:=tt (by omega)
   have e2:bH (ax l) (bd l t.exps:Int)=some (.ipt (bv q)):=jq rfl hq
   have hc:=aiC (c.t q (List.mem_of_getElem? hq)) vt
   have e3:(bt q.exps t.exps < 0)=False:=ff (by have:=Ct hq; omega)
   simp only [bv] at e2
   simp only [anQ,bv,go_sem,↓reduceIte,ad7,ad9,ad8,aec,aeb,h0,h3,h6,k3,e1,e2,hc,e3]
 | succ k ih =>
  intro i hi s h h0 h3 h6 k3
  have hle:=xS l t.exps
  have hlt:i < l.length:=by omega
  have e1:((i:Int) < (l.length:Int))=True:=tt (by omega)
  have hq:l[i]?=some l[i]:=List.getElem?_eq_getElem hlt
  have e2:bH (ax l) (i:Int)=some (.ipt (bv l[i])):=jq rfl hq
  have hc:=aiC (c.t l[i] (List.mem_of_getElem? hq)) vt
  have e3:(bt (l[i]).exps t.exps < 0)=True:=tt (IW (by omega) hq)
  have e5:IntKind.i64.wrap ((i:Int)+1)=((i+1:Nat):Int):=wi (by omega) (by omega)
  have ih':=ih (i+1) (by omega)
  generalize l[i]=q at e2 hc e3
  rw [aB]
  generalize aU _ _ _=L at ih' ⊢
  simp only [bv] at k3 e2
  simp only [anQ,go_sem,↓reduceIte,ad7,ad9,ad8,aec,aeb,h0,h3,h6,k3,e1,e2,e5,hc,e3]
  exact ih' _ _ rfl rfl rfl rfl
def aoo:Option (List Rt)→AV
 | none=>.tup [.sl 4 [],B false]
 | some l=>.tup [.sl 4 (ax l),B true]
theorem an4 {L:List Rt} {r:List (List AV)} (h:r=ax L):(Option.map (fun us=>(kM (aM [[.o 5 [.o 2 [],.o 0 [],.o 2 [],.o 0 []]],[]] us),([]:List Ob))) ((some (AV.osl 4 r)).bind fun b=>some [b,.v (.bool true)]))=some (aoo (some L),[]):=by
 subst h
 have h:=tK L
 show some (AV.tup [.sl 4 ((ax L).map _),B true],[])=_
 rw [h]
 rfl
theorem aoq {v:Int} {l:List Rt} {t:Rt} (c:Cl v l) (vt:VT v t) (hl:l.length≤1000000):R F.r23_Collect [.sl 4 (ax l),.agg (bv t)] []=some (aoo (ns l t),[]):=by
 refine aX aoe aod (an9 false) rfl ?_
 have hle:=xS l t.exps
 have h3:=aoC c vt hl (bd l t.exps) 0 (Nat.zero_add _)
 simp only [Int.natCast_zero,bv] at h3
 have s1:=aoQ (l:=l) hle
 have s2:=aoz (l:=l) hle
 have l1:(l.take (bd l t.exps)).length=bd l t.exps:=by rw [List.length_take]; omega
 have b1:(bd l t.exps*64≤140737488355328)=True:=eq_true (by omega)
 have b2:((bd l t.exps+1)*64≤140737488355328)=True:=eq_true (by omega)
 have b3:((bd l t.exps+1+(l.length - bd l t.exps))*64≤140737488355328)=True:=eq_true (by omega)
 rw [IX]
 simp only [anX,an5,bv,go_sem,↓reduceIte,ad7,ad8]
 rw [h3 _ _ rfl rfl rfl rfl]
 have t0:[[AV.sl 1 (aY t.exps),B t.c.neg,lm t.c.m,I t.c.e]]=ax [t]:=rfl
 cases hq:l[bd l t.exps]? with
 | none =>
  have:l.length≤bd l t.exps:=List.getElem?_eq_none_iff.1 hq
  have e1:((bd l t.exps:Int) < (l.length:Int))=False:=ff (by omega)
  simp only [go_sem,↓reduceIte,ad7,ad9,ad8,aea,aec,aeb,s1,s2,l1,b1,b2,b3,e1,true_or,List.nil_append,List.length_nil,Nat.zero_add,List.length_cons,List.length_append,List.length_drop]
  rw [if_pos (Nat.le_refl _)]
  exact an4 (by rw [t0,anY,anY,List.append_assoc]; rfl)
 | some q =>
  have hlt:=(List.getElem?_eq_some_iff.1 hq).1
  have e1:((bd l t.exps:Int) < (l.length:Int))=True:=tt (by omega)
  have e2:bH (ax l) (bd l t.exps:Int)=some (.ipt (bv q)):=jq rfl hq
  have vq:=c.t q (List.mem_of_getElem? hq)
  have hc:=aiC vq vt
  simp only [bv] at e2
  by_cases ho:bt q.exps t.exps=0
  ·have e3:(bt q.exps t.exps=0)=True:=tt ho
   simp only [if_pos ho]
   have hadd:=amN vq.c vt.c
   have hexp:=IV (vq.l2 vt) ho
   have hw:IntKind.i64.wrap ((bd l t.exps:Int)+1)=((bd l t.exps+1:Nat):Int):=wi (by omega) (by omega)
   have s3:=aoz (l:=l) (p:=bd l t.exps+1) hlt
   have c1:((bd l t.exps+(l.length - (bd l t.exps+1)))*64≤140737488355328)=True:=eq_true (by omega)
   have c2:((bd l t.exps+1+(l.length - (bd l t.exps+1)))*64≤140737488355328)=True:=eq_true (by omega)
   generalize iK q.c t.c=r at hadd ⊢
   obtain ⟨s,e⟩:=r
   simp only [rV,aF,aW] at hadd
   by_cases he:e=0
   ·subst he
    by_cases hs:s.m.length=0
    ·have f1:(0 < (s.m.length:Int))=False:=ff (by omega)
     have f2:(s.m.length=0)=True:=eq_true hs
     simp only [go_sem,↓reduceIte,ad7,ad9,ad8,aea,aec,aeb,s1,l1,b1,b2,true_or,List.nil_append,List.length_nil,Nat.zero_add,List.length_cons,List.length_append,List.length_drop,s3,hw,e1,e2,hc,e3,hadd,f1,f2,c1]
     rw [if_pos (Nat.le_refl _)]
     exact an4 (by rw [anY])
    ·have f1:(0 < (s.m.length:Int))=True:=tt (by omega)
     simp only [go_sem,↓reduceIte,ad7,ad9,ad8,aea,aec,aeb,s1,l1,b1,b2,true_or,List.nil_append,List.length_nil,Nat.zero_add,List.length_cons,List.length_append,List.length_drop,s3,hw,e1,e2,hc,e3,hadd,f1,c2,hs]
     rw [if_pos (Nat.le_refl _)]
     refine an4 ?_
     rw [List.set_eq_take_append_cons_drop,if_pos hlt,hexp]
     show ax _++ax [⟨t.exps,s⟩]++ax _=_
     rw [anY,anY,List.append_assoc]
     rfl
   ·have f1:(e=0)=False:=ff he
    simp only [go_sem,↓reduceIte,ad7,ad9,ad8,aea,aec,aeb,s1,l1,b1,true_or,List.nil_append,List.length_nil,Nat.zero_add,List.length_cons,e1,e2,hc,e3,hadd,f1]
    rfl
  ·have e3:(bt q.exps t.exps=0)=False:=ff ho
   simp only [if_neg ho]
   simp only [go_sem,↓reduceIte,ad7,ad9,ad8,aea,aec,aeb,s1,s2,l1,b1,b2,b3,true_or,List.nil_append,List.length_nil,Nat.zero_add,List.length_cons,List.length_append,List.length_drop,e1,e2,hc,e3]
   rw [if_pos (Nat.le_refl _)]
   exact an4 (by rw [t0,anY,anY,List.append_assoc]; rfl)
end Go.Ab
namespace Go.Ab
open Go Go.IntWalk
set_option maxRecDepth 4000
set_option maxHeartbeats 1000000
end Go.Ab
namespace Go.Ab
open Go Go.IntWalk
set_option maxRecDepth 4000
set_option maxHeartbeats 1000000
def aeW:List Nat→List Nat→Bool
 | [],[]=>true
 | x::xs,y::ys=>decide (x=y) && aeW xs ys
 | _,_=>false
theorem ahm:∀ {a b:List Nat},aeW a b=true↔a=b
 | [],[]=>by simp [aeW]
 | x::a,y::b=>by simp [aeW,ahm]
 | [],_::_=>by simp [aeW]
 | _::_,[]=>by simp [aeW]
theorem aiD {x y:Rd} (hl:x.m.length=y.m.length) (h2:x.m.length≤100000):∀ (k i:Nat),i+k=x.m.length→∀ (s:af) (h:aa),s 2=.ref 2 none 0 0 0→s 3=.ref 3 none 0 0 0→s 5=I i→h 2=.bx (aW x)→h 3=.bx (aW y) →
  ∃ hh,aI 0 [] (aU (az R (ab false) adD) [2,3,5] [2,3] s h)=if aeW (x.m.drop i) (y.m.drop i)=true then some (.normal,⟨fun _=>.any,hh⟩) else some (.ret,⟨upd (fun _=>.any) 4 (B false),hh⟩):=by
 intro k
 induction k with
 | zero =>
  intro i hi s h g2 g3 g5 k2 k3
  have e1:((i:Int) < x.m.length)=False:=ff (by omega)
  rw [List.drop_eq_nil_of_le (by omega),List.drop_eq_nil_of_le (by omega),aB]
  simp only [aW] at k2 k3
  refine ⟨?hh0,?_⟩
  rotate_left
  ·simp only [adD,aeW,go_sem,↓reduceIte,ad7,ad9,ad8,aeb,g2,g3,g5,k2,k3,e1]
   rfl
 | succ k ih =>
  intro i hi s h g2 g3 g5 k2 k3
  have hlt:i < x.m.length:=by omega
  have hlt2:i < y.m.length:=by omega
  have e1:((i:Int) < x.m.length)=True:=tt (by omega)
  have e2:bH (aP x.m) (i:Int)=some (.ipt [U (x.m.getD i 0:Nat)]):=de rfl hlt
  have e3:bH (aP y.m) (i:Int)=some (.ipt [U (y.m.getD i 0:Nat)]):=de rfl hlt2
  have e5:IntKind.i64.wrap ((i:Int)+1)=((i+1:Nat):Int):=wi (by omega) (by omega)
  have ih':=ih (i+1) (by omega)
  rw [List.drop_eq_getElem_cons hlt,List.drop_eq_getElem_cons hlt2,aB]
  have v1:x.m.getD i 0=x.m[i]:=by simp [List.getD,hlt]
  have v2:y.m.getD i 0=y.m[i]:=by simp [List.getD,hlt2]
  rw [v1] at e2
  rw [v2] at e3
  generalize x.m[i]=p at e2 ⊢
  generalize y.m[i]=q at e3 ⊢
  generalize aU _ _ _=L at ih' ⊢
  unfold aeW
  simp only [aW] at k2 k3
  by_cases hpq:p=q
  ·have e4:((p:Int)=(q:Int))=True:=tt (by omega)
   rw [decide_eq_true hpq,Bool.true_and]
   simp only [adD,go_sem,↓reduceIte,ad7,ad9,ad8,aec,aeb,g2,g3,g5,k2,k3,e1,e2,e3,e4,e5]
   exact ih' _ _ rfl rfl rfl rfl rfl
  ·have e4:((p:Int)=(q:Int))=False:=ff (by omega)
   rw [decide_eq_false hpq,Bool.false_and]
   simp only [if_neg Bool.false_ne_true]
   refine ⟨?hh1,?_⟩
   rotate_left
   ·simp only [adD,go_sem,↓reduceIte,ad7,ad9,ad8,aec,aeb,g2,g3,g5,k2,k3,e1,e2,e3,e4]
    rfl
theorem ajO {x y:Rd} (hl:x.m.length=y.m.length) (h2:x.m.length≤100000) (s:af) (h:aa) (X:Option (Ex × St)) (hX:aI 0 [] (aU (az R (ab false) adD) [2,3,5] [2,3] s h)=X) (g2:s 2=.ref 2 none 0 0 0) (g3:s 3=.ref 3 none 0 0 0) (g5:s 5=I 0) (k2:h 2=.bx [B x.neg,lm x.m,I x.e]) (k3:h 3=.bx [B y.neg,lm y.m,I y.e]) :
  ∃ hh,X=if aeW x.m y.m=true then some (.normal,⟨fun _=>.any,hh⟩) else some (.ret,⟨upd (fun _=>.any) 4 (B false),hh⟩):=by
 subst hX
 exact aiD hl h2 x.m.length 0 (Nat.zero_add _) s h g2 g3 g5 k2 k3
def afT (x y:Rd):Bool:=(x.neg == y.neg) && (decide (x.e=y.e) && aeW x.m y.m)
theorem ai3 {x y:Rd}:afT x y=true↔x=y:=by
 unfold afT
 rw [Bool.and_eq_true,Bool.and_eq_true,ahm,beq_iff_eq,decide_eq_true_eq]
 constructor
 ·rintro ⟨h1,h2,h3⟩
  cases x
  cases y
  cases h1
  cases h2
  cases h3
  rfl
 ·rintro rfl
  exact ⟨rfl,rfl,rfl⟩
theorem agO:∀ {a b:List Nat},a.length ≠ b.length→aeW a b=false
 | [],[],h=>absurd rfl h
 | x::a,y::b,h=>by
  unfold aeW
  rw [agO (fun e=>h (by simp [e])),Bool.and_false]
 | [],_::_,_=>rfl
 | _::_,[],_=>rfl
theorem aie {x y:Rd} (hx:x.m.length≤100000):R F.r23_number [aF x,aF y] []=some (B (afT x y),[]):=by
 refine aX agE agD (afL false) rfl ?_
 unfold afT
 cases h1:(x.neg == y.neg) with
 | false =>
  have h4:(true != (x.neg == y.neg))=true:=by rw [h1]; rfl
  rw [Bool.false_and]
  simp only [adG,aeG,aF,aW,go_sem,↓reduceIte,ad7,ad9,ad8,h4]
 | true =>
  have h4:(true != (x.neg == y.neg))=false:=by rw [h1]; rfl
  rw [Bool.true_and]
  by_cases h2:x.e=y.e
  ·have e2:(x.e=y.e)=True:=eq_true h2
   rw [decide_eq_true h2,Bool.true_and]
   by_cases h3:x.m.length=y.m.length
   ·have e3:((x.m.length:Int)=(y.m.length:Int))=True:=tt (by omega)
    have hl:=ajO (x:=x) (y:=y) h3 hx
    simp only [adG,aeG,aF,aW,go_sem,↓reduceIte,ad7,ad9,ad8,h4,e2,e3]
    generalize hX:aI 0 [] _=X
    obtain ⟨hh,rfl⟩:=hl _ _ _ hX rfl rfl rfl rfl rfl
    cases aeW x.m y.m with
    | true =>
     simp only [go_sem,↓reduceIte]
    | false =>
     simp only [go_sem,↓reduceIte]
   ·have e3:((x.m.length:Int)=(y.m.length:Int))=False:=ff (by omega)
    rw [agO h3]
    simp only [adG,aeG,aF,aW,go_sem,↓reduceIte,ad7,ad9,ad8,h4,e2,e3]
  ·have e2:(x.e=y.e)=False:=eq_false h2
   rw [decide_eq_false h2,Bool.false_and]
   simp only [adG,aeG,aF,aW,go_sem,↓reduceIte,ad7,ad9,ad8,h4,e2]
def aeE:List Rt→List Rt→Bool
 | [],[]=>true
 | x::xs,y::ys=>(decide (bt x.exps y.exps=0) && afT x.c y.c) && aeE xs ys
 | _,_=>false
theorem afY:∀ {a b:List Rt},a.length ≠ b.length→aeE a b=false
 | [],[],h=>absurd rfl h
 | x::a,y::b,h=>by
  unfold aeE
  rw [afY (fun e=>h (by simp [e])),Bool.and_false]
 | [],_::_,_=>rfl
 | _::_,[],_=>rfl
theorem agP {v:Int}:∀ {a b:List Rt},(∀ t ∈ a,VT v t)→(∀ t ∈ b,VT v t)→(aeE a b=true↔a=b)
 | [],[],_,_=>by simp [aeE]
 | x::a,y::b,ha,hb=>by
  have ih:=agP (a:=a) (b:=b) (fun t ht=>ha t (by simp [ht])) (fun t ht=>hb t (by simp [ht]))
  have vx:=ha x (by simp)
  have vy:=hb y (by simp)
  unfold aeE
  rw [Bool.and_eq_true,Bool.and_eq_true,decide_eq_true_eq,ai3,ih]
  constructor
  ·rintro ⟨⟨h1,h2⟩,rfl⟩
   have h3:=IV (vx.l2 vy) h1
   cases x
   cases y
   cases h3
   cases h2
   rfl
  ·intro h
   cases h
   exact ⟨⟨LS _,rfl⟩,rfl⟩
 | [],_::_,_,_=>by simp [aeE]
 | _::_,[],_,_=>by simp [aeE]
theorem aif {v:Int} {a b:Rp} (ha:∀ t ∈ a.terms,VT v t) (hb:∀ t ∈ b.terms,VT v t) (hl:a.terms.length=b.terms.length) (h2:a.terms.length≤100000):∀ (k i:Nat),i+k=a.terms.length→∀ (s:af) (h:aa),s 2=.ref 2 none 0 0 0→s 3=.ref 3 none 0 0 0→s 5=I i→h 2=.bx [I a.vars,.sl 4 (ax a.terms)]→h 3=.bx [I b.vars,.sl 4 (ax b.terms)] →
  ∃ hh,aI 0 [] (aU (az R (ab false) adF) [2,3,5] [2,3] s h)=if aeE (a.terms.drop i) (b.terms.drop i)=true then some (.normal,⟨fun _=>.any,hh⟩) else some (.ret,⟨upd (fun _=>.any) 4 (B false),hh⟩):=by
 intro k
 induction k with
 | zero =>
  intro i hi s h g2 g3 g5 k2 k3
  have e1:((i:Int) < a.terms.length)=False:=ff (by omega)
  rw [List.drop_eq_nil_of_le (by omega),List.drop_eq_nil_of_le (by omega),aB]
  refine ⟨?hh0,?_⟩
  rotate_left
  ·simp only [adF,aeE,go_sem,↓reduceIte,ad7,ad9,ad8,aeb,g2,g3,g5,k2,k3,e1]
   rfl
 | succ k ih =>
  intro i hi s h g2 g3 g5 k2 k3
  have hlt:i < a.terms.length:=by omega
  have hlt2:i < b.terms.length:=by omega
  have e1:((i:Int) < a.terms.length)=True:=tt (by omega)
  have e2:bH (ax a.terms) (i:Int)=some (.ipt (bv a.terms[i])):=jq rfl (List.getElem?_eq_getElem hlt)
  have e3:bH (ax b.terms) (i:Int)=some (.ipt (bv b.terms[i])):=jq rfl (List.getElem?_eq_getElem hlt2)
  have e5:IntKind.i64.wrap ((i:Int)+1)=((i+1:Nat):Int):=wi (by omega) (by omega)
  have ih':=ih (i+1) (by omega)
  have vx:=ha _ (List.getElem_mem hlt)
  have vy:=hb _ (List.getElem_mem hlt2)
  rw [List.drop_eq_getElem_cons hlt,List.drop_eq_getElem_cons hlt2,aB]
  generalize a.terms[i]=x at e2 vx ⊢
  generalize b.terms[i]=y at e3 vy ⊢
  generalize aU _ _ _=L at ih' ⊢
  have hc:=aiC vx vy
  have hnum:=aie (x:=x.c) (y:=y.c) (Nat.le_trans (xj vx.vc vx.c.lb) (by decide))
  have hle:((x.exps.length:Int)=(y.exps.length:Int))=True:=tt (by have:=vx.l2 vy; omega)
  unfold aeE
  simp only [bv] at e2 e3
  simp only [aF,aW] at hnum
  by_cases ho:bt x.exps y.exps=0
  ·have e4:(bt x.exps y.exps=0)=True:=eq_true ho
   rw [decide_eq_true ho,Bool.true_and]
   cases hn:afT x.c y.c with
   | true =>
    rw [hn] at hnum
    rw [Bool.true_and]
    simp only [adF,go_sem,↓reduceIte,ad7,ad9,ad8,aea,aec,aeb,g2,g3,g5,k2,k3,e1,e2,e3,hle,hc,e4,hnum,e5]
    exact ih' _ _ rfl rfl rfl rfl rfl
   | false =>
    rw [hn] at hnum
    rw [Bool.false_and]
    simp only [if_neg Bool.false_ne_true]
    refine ⟨?hh1,?_⟩
    rotate_left
    ·simp only [adF,go_sem,↓reduceIte,ad7,ad9,ad8,aea,aec,aeb,g2,g3,g5,k2,k3,e1,e2,e3,hle,hc,e4,hnum]
     rfl
  ·have e4:(bt x.exps y.exps=0)=False:=eq_false ho
   rw [decide_eq_false ho,Bool.false_and,Bool.false_and]
   simp only [if_neg Bool.false_ne_true]
   refine ⟨?hh2,?_⟩
   rotate_left
   ·simp only [adF,go_sem,↓reduceIte,ad7,ad9,ad8,aea,aec,aeb,g2,g3,g5,k2,k3,e1,e2,e3,hle,hc,e4]
    rfl
theorem aju {v:Int} {a b:Rp} (ha:∀ t ∈ a.terms,VT v t) (hb:∀ t ∈ b.terms,VT v t) (hl:a.terms.length=b.terms.length) (h2:a.terms.length≤100000) (s:af) (h:aa) (X:Option (Ex × St)) (hX:aI 0 [] (aU (az R (ab false) adF) [2,3,5] [2,3] s h)=X)
  (g2:s 2=.ref 2 none 0 0 0) (g3:s 3=.ref 3 none 0 0 0) (g5:s 5=I 0) (k2:h 2=.bx [I a.vars,.sl 4 (ax a.terms)]) (k3:h 3=.bx [I b.vars,.sl 4 (ax b.terms)]) :
  ∃ hh,X=if aeE a.terms b.terms=true then some (.normal,⟨fun _=>.any,hh⟩) else some (.ret,⟨upd (fun _=>.any) 4 (B false),hh⟩):=by
 subst hX
 exact aif ha hb hl h2 a.terms.length 0 (Nat.zero_add _) s h g2 g3 g5 k2 k3
def agm (a b:Rp):Bool:=decide (a.vars=b.vars) && aeE a.terms b.terms
theorem ai4 {a b:Rp} (ha:Cl a.vars a.terms) (hb:Cl b.vars b.terms) (h2:a.terms.length≤100000):R F.r23_Same [aZ a,aZ b] []=some (B (agm a b),[]):=by
 refine aX aht ahs (af6 false) rfl ?_
 unfold agm
 by_cases hv:a.vars=b.vars
 ·have e1:(a.vars=b.vars)=True:=eq_true hv
  rw [decide_eq_true hv,Bool.true_and]
  by_cases h3:a.terms.length=b.terms.length
  ·have e3:((a.terms.length:Int)=(b.terms.length:Int))=True:=tt (by omega)
   have hbt:=hb.t
   rw [← hv] at hbt
   have hl:=aju (a:=a) (b:=b) ha.t hbt h3 h2
   simp only [aeC,ae3,aZ,go_sem,↓reduceIte,ad7,ad9,ad8,e1,e3]
   generalize hX:aI 0 [] _=X
   obtain ⟨hh,rfl⟩:=hl _ _ _ hX rfl rfl rfl rfl rfl
   cases aeE a.terms b.terms with
   | true=>simp only [go_sem,↓reduceIte]
   | false=>simp only [go_sem,↓reduceIte]
  ·have e3:((a.terms.length:Int)=(b.terms.length:Int))=False:=ff (by omega)
   rw [afY h3]
   simp only [aeC,ae3,aZ,go_sem,↓reduceIte,ad7,ad9,ad8,e1,e3]
 ·have e1:(a.vars=b.vars)=False:=eq_false hv
  rw [decide_eq_false hv,Bool.false_and]
  simp only [aeC,ae3,aZ,go_sem,↓reduceIte,ad7,ad9,ad8,e1]
end Go.Ab
namespace Go.Ab
open Go Go.IntWalk
set_option maxRecDepth 4000
set_option maxHeartbeats 1000000
def uY (t:Rt):Bool:=decide (10 < t.c.m.length) || decide (20 < t.exps.length)
theorem Kw {t:Rt}:R F.l23_great_1_1 [.agg (bv t)] []=some (B (uY t),[]):=by
 refine aX AY AX (wX false) rfl ?_
 unfold uY
 by_cases h:10 < t.c.m.length
 ·have e1:(10 < (t.c.m.length:Int))=True:=tt (by omega)
  rw [decide_eq_true h,Bool.true_or]
  simp only [gI,oi,bv,go_sem,↓reduceIte,ad7,ad9,ad8,e1]
 ·have e1:(10 < (t.c.m.length:Int))=False:=ff (by omega)
  rw [decide_eq_false h,Bool.false_or]
  have e2:decide ((20:Int) < (t.exps.length:Int))=decide (20 < t.exps.length):=by rw [decide_eq_decide]; omega
  simp only [gI,oi,bv,go_sem,↓reduceIte,ad7,ad9,ad8,e1,e2]
theorem lmB (m:List Nat):(aP m).map (fun r=>match r with | [.v (.int _ x)]=>x.toNat | _=>0)=m:=by
 unfold aP
 rw [List.map_map]
 exact (List.map_congr_left (g:=fun c=>c) fun x _=>by simp).trans (List.map_id' _)
theorem izB (m:List Int):(aY m).map (fun r=>match r with | [.v (.int _ x)]=>x | _=>0)=m:=by
 unfold aY
 rw [List.map_map]
 exact (List.map_congr_left (g:=fun c=>c) fun x _=>by simp).trans (List.map_id' _)
def Dm:List AV→Rt
 | [.sl _ m1,.v (.bool n2),.sl _ m2,.v (.int _ e2)]=>⟨m1.map (fun r=>match r with | [.v (.int _ x)]=>x | _=>0),⟨n2,m2.map (fun r=>match r with | [.v (.int _ x)]=>x.toNat | _=>0),e2⟩⟩
 | _=>⟨[],el⟩
theorem ES (t:Rt):Dm (bv t)=t:=by
 show (⟨(aY t.exps).map _,⟨t.c.neg,(aP t.c.m).map _,t.c.e⟩⟩:Rt)=t
 rw [lmB,izB]
theorem Om {l:List Rt} (h2:l.length < 4611686018427387904):R F.slices_ContainsFunc_api_Term_api_Term_ [.sl 4 (ax l),.fn F.l23_great_1_1 [] []] []=some (B (l.any uY),[]):=by
 have h1:=Bh (k:=4) (g:=true) (f:=F.l23_great_1_1) (rows:=ax l) (p:=fun r=>uY (Dm r)) kY kX (j5 false) rfl (si false) (by rw [fB]; omega) (fun row hr=>by
  simp only [ax,List.mem_map] at hr
  obtain ⟨t,ht,rfl⟩:=hr
  have hd:=Kw (t:=t)
  refine ⟨.agg (bv t),rfl,rfl,?_⟩
  rw [ES]
  simp only [bv] at hd
  simp only [bv,go_sem,hd])
 have h2:=xP (k:=4) jZ jY (iS false) rfl (eX false) (kF false) (by simp only [go_sem]) h1
 have h3:(ax l).any (fun r=>uY (Dm r))=l.any uY:=by
  unfold ax
  rw [List.any_map]
  congr 1
  funext t
  exact congrArg uY (ES t)
 rw [h3] at h2
 exact h2
def mL (a:Rp):Bool:=(decide (40 < a.terms.length) && decide (a.terms.length≤500)) || a.terms.any uY
theorem L9 {a:Rp} (h2:a.terms.length < 4611686018427387904):R F.l23_great_1 [aZ a] []=some (B (mL a),[]):=by
 refine aX DH DG (yT false) rfl ?_
 have hc:=Om h2
 have nr:(ax a.terms).map (ce [.o 2 [],.o 0 [],.o 2 [],.o 0 []])=ax a.terms:=tK _
 unfold mL
 by_cases h:40 < a.terms.length
 ·have e1:(40 < (a.terms.length:Int))=True:=tt (by omega)
  rw [decide_eq_true h,Bool.true_and]
  by_cases h5:a.terms.length≤500
  ·have e2:((a.terms.length:Int)≤500)=True:=tt (by omega)
   rw [decide_eq_true h5,Bool.true_or]
   simp only [gw,mQ,aZ,go_sem,↓reduceIte,ad7,ad9,ad8,e1,e2]
  ·have e2:((a.terms.length:Int)≤500)=False:=ff (by omega)
   rw [decide_eq_false h5,Bool.false_or]
   simp only [gw,mQ,aZ,go_sem,↓reduceIte,ad7,ad9,ad8,e1,e2,hc]
 ·have e1:(40 < (a.terms.length:Int))=False:=ff (by omega)
  rw [decide_eq_false h,Bool.false_and,Bool.false_or]
  simp only [gw,mQ,aZ,go_sem,↓reduceIte,ad7,ad9,ad8,e1,hc]
def Ja (a:Rp):List AV:=[I a.vars,.sl 4 (ax a.terms)]
def xu (l:List Rp):List (List AV):=l.map Ja
@[go_sem] theorem Qv (l:List Rp):(xu l).length=l.length:=by simp [xu]
@[go_sem] theorem ZE (l:List Rt):(ax l).map (ce [.o 2 [],.o 0 [],.o 0 [],.o 0 []])=ax l:=by
 refine qk fun x hx=>?_
 simp only [ax,List.mem_map] at hx
 obtain ⟨t,ht,rfl⟩:=hx
 simp only [bv,go_sem]
@[go_sem] theorem ab8 (l:List Rp):(xu l).map (ce [.o 0 [],.o 5 [.o 2 [],.o 0 [],.o 0 [],.o 0 []]])=xu l:=by
 refine qk fun x hx=>?_
 simp only [xu,List.mem_map] at hx
 obtain ⟨t,ht,rfl⟩:=hx
 simp only [Ja,go_sem]
def Sd:List AV→Rp
 | [.v (.int _ v),.sl _ r]=>⟨v,r.map Dm⟩
 | _=>p0
theorem Ph (a:Rp):Sd (Ja a)=a:=by
 show (⟨a.vars,(ax a.terms).map Dm⟩:Rp)=a
 have h:(ax a.terms).map Dm=a.terms:=by
  unfold ax
  rw [List.map_map]
  exact (List.map_congr_left (g:=fun c=>c) fun x _=>ES x).trans (List.map_id' _)
 rw [h]
theorem On {l:List Rp} (hl:l.length≤10) (h2:∀ a ∈ l,a.terms.length < 4611686018427387904):R F.l23_great [.sl 2 (xu l)] []=some (B (l.any mL),[]):=by
 refine aX H6 H5 (B3 false) rfl ?_
 have h1:=Bh (k:=2) (g:=true) (f:=F.l23_great_1) (rows:=xu l) (p:=fun r=>mL (Sd r)) kW kV (j3 false) rfl (vJ false) (by rw [Qv]; omega) (fun row hr=>by
  simp only [xu,List.mem_map] at hr
  obtain ⟨t,ht,rfl⟩:=hr
  have hd:=L9 (h2 t ht)
  refine ⟨.agg (Ja t),rfl,rfl,?_⟩
  rw [Ph]
  simp only [aZ] at hd
  simp only [Ja,go_sem,hd])
 have h2:=xP (k:=2) jW jV (iR false) rfl (eW false) (kE false) (by simp only [go_sem]) h1
 have h3:(xu l).any (fun r=>mL (Sd r))=l.any mL:=by
  unfold xu
  rw [List.any_map]
  congr 1
  funext t
  exact congrArg mL (Ph t)
 rw [h3] at h2
 simp only [og,yA,go_sem,↓reduceIte,ad7,ad9,ad8,h2]
theorem zY {a:Rp} (oc:∀ t ∈ a.terms,Ok0 t.c) (h:mL a=false):OkP a:=by
 unfold mL at h
 rw [Bool.or_eq_false_iff] at h
 refine ⟨fun t ht=>⟨oc t ht,?_⟩⟩
 have:=List.any_eq_false.1 h.2 t ht
 unfold uY at this
 simp at this
 omega
def ahM (a:Rp):Bool:=decide (a.vars=0) && decide (a.terms.length=0)
theorem ai5 {a:Rp}:R F.l23_zero [aZ a] []=some (B (ahM a),[]):=by
 refine aX ahw ahv (af7 false) rfl ?_
 unfold ahM
 by_cases h:a.vars=0
 ·have e1:(a.vars=0)=True:=eq_true h
  rw [decide_eq_true h,Bool.true_and]
  by_cases h2:a.terms.length=0
  ·have e2:((a.terms.length:Int)=0)=True:=tt (by omega)
   rw [decide_eq_true h2]
   simp only [aeD,ae4,aZ,go_sem,↓reduceIte,ad7,ad9,ad8,e1,e2]
  ·have e2:((a.terms.length:Int)=0)=False:=ff (by omega)
   rw [decide_eq_false h2]
   simp only [aeD,ae4,aZ,go_sem,↓reduceIte,ad7,ad9,ad8,e1,e2]
 ·have e1:(a.vars=0)=False:=eq_false h
  rw [decide_eq_false h,Bool.false_and]
  simp only [aeD,ae4,aZ,go_sem,↓reduceIte,ad7,ad9,ad8,e1]
structure Res (r:Rp × Int):Prop where
 cl:Cl r.1.vars r.1.terms
 len:r.1.terms.length≤100000
 z:r.2=0∨r.1=p0
theorem ahN {a:Rp} (h:Cl a.vars a.terms):agm a a=true:=by
 unfold agm
 rw [decide_eq_true rfl,Bool.true_and,(agP h.t h.t).2 rfl]
theorem aiQ {r:Rp × Int} (h:Res r):R F.l23_is [aZ r.1,I r.2,aZ r.1,I r.2] []=some (B true,[]):=by
 refine aX ain aim (agV false) rfl ?_
 have h1:=ai4 h.cl h.cl h.len
 rw [ahN h.cl] at h1
 have h2:=ai5 (a:=r.1)
 obtain ⟨⟨v,l⟩,e⟩:=r
 simp only [aZ] at h1 h2
 by_cases he:e=0
 ·subst he
  simp only [aeZ,afu,aZ,go_sem,↓reduceIte,ad7,ad9,ad8,aea,h1]
 ·have e1:(e=0)=False:=eq_false he
  have hz:ahM ⟨v,l⟩=true:=by
   rcases h.z with h3 | h3
   ·exact absurd h3 he
   ·cases h3
    rfl
  rw [hz] at h2
  simp only [aeZ,afu,aZ,go_sem,↓reduceIte,ad7,ad9,ad8,aea,h1,h2,e1]
theorem afo (e:Int):Res (p0,e):=⟨Cl.nil _,Nat.zero_le _,.inr rfl⟩
theorem aoD {v:Int} {o:Option (List Rt)} (h:∀ l,o=some l→Cl v l):Res (kf v o):=by
 unfold kf
 cases o with
 | none=>exact afo _
 | some l =>
  simp only []
  split
  ·exact afo _
  ·exact ⟨h l rfl,by show l.length≤100000; omega,.inl rfl⟩
end Go.Ab
namespace Go.Ab
open Go Go.IntWalk
set_option maxRecDepth 4000
set_option maxHeartbeats 2000000
theorem Qw (l:List Int) (n:Nat) (x:Int):(aY l).set n [I x]=aY (l.set n x):=by simp [aY,List.map_set]
theorem Oo {a b:List Int} {i:Nat} {x y:Int} (hx:a[i]?=some x) (hy:b[i]?=some y):(bQ a b)[i]?=some (x+y):=by
 unfold bQ
 rw [List.getElem?_zipWith,hx,hy]
def su (a b:List Int) (i:Nat):List Int:=(bQ a b).take i++a.drop i
theorem Qx {a b:List Int} (h:a.length=b.length) {i:Nat} {x:Int} (hx:a[i]?=some x):(su a b i)[i]?=some x:=by
 have hlt:=(List.getElem?_eq_some_iff.1 hx).1
 unfold su
 rw [List.getElem?_append_right (by rw [List.length_take,nv h]; omega),List.length_take,nv h,List.getElem?_drop,show i+(i - min i a.length)=i by omega]
 exact hx
theorem Qy {a b:List Int} (h:a.length=b.length) {i:Nat} {x y:Int} (hx:a[i]?=some x) (hy:b[i]?=some y):(su a b i).set i (x+y)=su a b (i+1):=by
 have hlt:=(List.getElem?_eq_some_iff.1 hx).1
 have hg:=Oo hx hy
 have hlen:=nv h
 unfold su
 have ht:((bQ a b).take i).length=i:=by rw [List.length_take]; omega
 rw [List.set_append_right _ _ (by omega),ht,Nat.sub_self,List.drop_eq_getElem_cons hlt,List.set_cons_zero,List.take_succ_eq_append_getElem (by omega:i < (bQ a b).length),List.append_assoc]
 have:=(List.getElem?_eq_some_iff.1 hg).2
 rw [this]
 rfl
theorem Qz {a b:List Int} (h:a.length=b.length) {i:Nat} (hi:a.length≤i):su a b i=bQ a b:=by
 unfold su
 rw [List.take_of_length_le (by rw [nv h]; omega),List.drop_eq_nil_of_le hi,List.append_nil]
theorem Ma {v:Int} {p q:Rt} (vp:VT v p) (vq:VT v q) {A Bt:List Rt} {nA iA nB iB:Int} {o2 o3 o4 o8 o10 o11 o2352:Ob} (c2:aA [2,3,4,8,10,11,2352,2576] o2=true) (c3:aA [2,3,4,8,10,11,2352,2576] o3=true) (c4:aA [2,3,4,8,10,11,2352,2576] o4=true) (c8:aA [2,3,4,8,10,11,2352,2576] o8=true) (c10:aA [2,3,4,8,10,11,2352,2576] o10=true) (c11:aA [2,3,4,8,10,11,2352,2576] o11=true) (cc:aA [2,3,4,8,10,11,2352,2576] o2352=true) :
  ∀ (k i:Nat),i+k=p.exps.length→∀ (s:af) (h:aa),s 3=.ref 3 none 0 0 0→s 4=.ref 4 none 0 0 0→s 6=.ref 2352 none 0 0 0→s 8=.ref 8 none 0 0 0→s 11=.ref 11 none 0 0 0→s 13=.rsl 2576 none 1 0 p.exps.length→s 46=.sl 4 (ax A)→s 47=I nA→s 48=I iA→s 53=.sl 4 (ax Bt)→s 54=I nB→s 55=I iB→s 74=.sl 1 (aY q.exps)→s 75=I q.exps.length→s 76=I i→h 2=o2→h 3=o3→h 4=o4→h 8=o8→h 10=o10→h 11=o11→h 2352=o2352→h 2576=.ar 1 (aY (su p.exps q.exps i)) →
  ∃ hh,aI 5 [3,4,6,8,11,13,46,47,48,53,54,55] (aU (az R (ab false) hH) [3,4,6,8,11,13,46,47,48,53,54,55,74,75,76] [2,3,4,8,10,11,2352,2576] s h)=some (.normal,⟨upd (upd (upd (upd (upd (upd (upd (upd (upd (upd (upd (upd (fun _=>.any) 55 (I iB)) 54 (I nB)) 53 (.sl 4 (ax Bt))) 48 (I iA)) 47 (I nA)) 46 (.sl 4 (ax A))) 13 (.rsl 2576 none 1 0 p.exps.length)) 11 (.ref 11 none 0 0 0)) 8 (.ref 8 none 0 0 0)) 6 (.ref 2352 none 0 0 0)) 4 (.ref 4 none 0 0 0)) 3 (.ref 3 none 0 0 0),hh⟩) ∧
   hh 2=o2∧hh 3=o3∧hh 4=o4∧hh 8=o8∧hh 10=o10∧hh 11=o11∧hh 2352=o2352∧hh 2576=.ar 1 (aY (bQ p.exps q.exps))∧∀ a,a ≠ 2→a ≠ 3→a ≠ 4→a ≠ 8→a ≠ 10→a ≠ 11→a ≠ 2352→a ≠ 2576→hh a=.dead:=by
 have hl:=vp.l2 vq
 have hs:=vp.ok.len
 intro k
 induction k with
 | zero =>
  intro i hi s h g3 g4 g6 g8 g11 g13 g46 g47 g48 g53 g54 g55 g74 g75 g76 k2 k3 k4 k8 k10 k11 k2352 k2576
  have e1:((i:Int) < (q.exps.length:Int))=False:=ff (by omega)
  rw [Qz hl (by omega)] at k2576
  rw [aB]
  refine ⟨?hh0,?_,?_,?_,?_,?_,?_,?_,?_,?_,?_⟩
  rotate_left
  ·simp only [hH,go_sem,↓reduceIte,ad7,aeb,g3,g4,g6,g8,g11,g13,g46,g47,g48,g53,g54,g55,g74,g75,g76,k2,k3,k4,k8,k10,k11,k2352,k2576,c2,c3,c4,c8,c10,c11,cc,e1]
   rfl
  all_goals first | rfl | (intro a a1 a2 a3 a4 a5 a6 a7 a8; simp only [i8,a1,a2,a3,a4,a5,a6,a7,a8,if_false])
 | succ k ih =>
  intro i hi s h g3 g4 g6 g8 g11 g13 g46 g47 g48 g53 g54 g55 g74 g75 g76 k2 k3 k4 k8 k10 k11 k2352 k2576
  have hlt:i < p.exps.length:=by omega
  have hlt2:i < q.exps.length:=by omega
  have e1:((i:Int) < (q.exps.length:Int))=True:=tt (by omega)
  have hq:q.exps[i]?=some q.exps[i]:=List.getElem?_eq_getElem hlt2
  have hp:p.exps[i]?=some p.exps[i]:=List.getElem?_eq_getElem hlt
  have e2:bH (aY q.exps) (i:Int)=some (.ipt [I q.exps[i]]):=qU rfl hq
  have e3:=Qx hl hp (b:=q.exps)
  have e3':(aY (su p.exps q.exps i))[i]?=some [I p.exps[i]]:=by simp [aY,e3]
  have e4:=Qy hl hp hq
  have b1:=vp.b _ (List.getElem_mem hlt)
  have b2:=vq.b _ (List.getElem_mem hlt2)
  have e5:IntKind.i64.wrap ((i:Int)+1)=((i+1:Nat):Int):=wi (by omega) (by omega)
  have e6:(0≤(i:Int)∧(i:Int) < (p.exps.length:Int))=True:=eq_true ⟨by omega,by omega⟩
  have e7:IntKind.i64.wrap (p.exps[i]+q.exps[i])=p.exps[i]+q.exps[i]:=i64_in _ ⟨by omega,by omega⟩
  have ih':=ih (i+1) (by omega)
  rw [← e4,← Qw] at ih'
  generalize p.exps[i]=x at e3' e7 ih'
  generalize q.exps[i]=y at e2 e7 ih'
  rw [aB]
  generalize aU _ _ _=L at ih' ⊢
  simp only [hH,go_sem,↓reduceIte,ad7,aea,aeb,g3,g4,g6,g8,g11,g13,g46,g47,g48,g53,g54,g55,g74,g75,g76,k2,k3,k4,k8,k10,k11,k2352,k2576,c2,c3,c4,c8,c10,c11,cc,e1,e2,e3',e5,e6,e7,Int.toNat_natCast,Nat.zero_add]
  exact ih' _ _ rfl rfl rfl rfl rfl rfl rfl rfl rfl rfl rfl rfl rfl rfl rfl rfl rfl rfl rfl rfl rfl rfl rfl
theorem Se {v:Int} {p q:Rt} (vp:VT v p) (vq:VT v q) {A Bt:List Rt} {nA iA nB iB:Int} {o2 o3 o4 o8 o10 o11 o2352:Ob} (s:af) (h:aa) (X:Option (Ex × St)) (hX:aI 5 [3,4,6,8,11,13,46,47,48,53,54,55] (aU (az R (ab false) hH) [3,4,6,8,11,13,46,47,48,53,54,55,74,75,76] [2,3,4,8,10,11,2352,2576] s h)=X)
  (g3:s 3=.ref 3 none 0 0 0) (g4:s 4=.ref 4 none 0 0 0) (g6:s 6=.ref 2352 none 0 0 0) (g8:s 8=.ref 8 none 0 0 0) (g11:s 11=.ref 11 none 0 0 0) (g13:s 13=.rsl 2576 none 1 0 p.exps.length) (g46:s 46=.sl 4 (ax A)) (g47:s 47=I nA) (g48:s 48=I iA) (g53:s 53=.sl 4 (ax Bt)) (g54:s 54=I nB) (g55:s 55=I iB) (g74:s 74=.sl 1 (aY q.exps)) (g75:s 75=I q.exps.length) (g76:s 76=I 0) (k2:h 2=o2) (k3:h 3=o3) (k4:h 4=o4) (k8:h 8=o8) (k10:h 10=o10) (k11:h 11=o11) (k2352:h 2352=o2352) (k2576:h 2576=.ar 1 (aY p.exps)) (c2:aA [2,3,4,8,10,11,2352,2576] o2=true) (c3:aA [2,3,4,8,10,11,2352,2576] o3=true) (c4:aA [2,3,4,8,10,11,2352,2576] o4=true) (c8:aA [2,3,4,8,10,11,2352,2576] o8=true) (c10:aA [2,3,4,8,10,11,2352,2576] o10=true) (c11:aA [2,3,4,8,10,11,2352,2576] o11=true) (c2352:aA [2,3,4,8,10,11,2352,2576] o2352=true) :
  ∃ hh,X=some (.normal,⟨upd (upd (upd (upd (upd (upd (upd (upd (upd (upd (upd (upd (fun _=>.any) 55 (I iB)) 54 (I nB)) 53 (.sl 4 (ax Bt))) 48 (I iA)) 47 (I nA)) 46 (.sl 4 (ax A))) 13 (.rsl 2576 none 1 0 p.exps.length)) 11 (.ref 11 none 0 0 0)) 8 (.ref 8 none 0 0 0)) 6 (.ref 2352 none 0 0 0)) 4 (.ref 4 none 0 0 0)) 3 (.ref 3 none 0 0 0),hh⟩)∧hh 2=o2∧hh 3=o3∧hh 4=o4∧hh 8=o8∧hh 10=o10∧hh 11=o11∧hh 2352=o2352∧hh 2576=.ar 1 (aY (bQ p.exps q.exps))∧∀ a,a ≠ 2→a ≠ 3→a ≠ 4→a ≠ 8→a ≠ 10→a ≠ 11→a ≠ 2352→a ≠ 2576→hh a=.dead:=by
 subst hX
 have hc:su p.exps q.exps 0=p.exps:=by simp [su]
 rw [← hc] at k2576
 exact Ma vp vq c2 c3 c4 c8 c10 c11 c2352 p.exps.length 0 (Nat.zero_add _) s h g3 g4 g6 g8 g11 g13 g46 g47 g48 g53 g54 g55 g74 g75 g76 k2 k3 k4 k8 k10 k11 k2352 k2576
end Go.Ab
namespace Go.Ab
open Go Go.IntWalk
set_option maxRecDepth 4000
set_option maxHeartbeats 4000000
theorem ColE.stepN {v:Int} {l:List Rt} {t:Rt} {c:AV} (hc:mj c l) {e:Int} (he:e=0∨e=9) (N:Nat) (hC:e=0→Cl v l∧l.length+N+1≤1000000) (vt:VT v t) {v':Int} :
  ∃ c1 l1 e1,R F.poly_collector_add [.ref 1000 none 0 0 0,.sl 1 (aY t.exps),aF t.c] [t3 v' c e]=some (.tup [],[t3 v' c1 e1])∧mj c1 l1∧(e1=0∨e1=9)∧(e1=0→Cl v l1∧l1.length+N≤1000000)∧∀ ts c' l' e',ColE v l1 ts e1 c' l' e'→ColE v l (t::ts) e c' l' e':=by
 obtain ⟨c1,l1,e1,g1,g2,g3,g4,_⟩:=ColE.step (ts:=List.replicate N t) hc he (by rw [List.length_replicate]; exact hC) vt (v':=v')
 rw [List.length_replicate] at g4
 refine ⟨c1,l1,e1,g1,g2,g3,g4,fun ts c' l' e' h=>?_⟩
 rcases he with rfl | rfl
 ·obtain ⟨h1,h2⟩:=hC rfl
  obtain ⟨c2,l2,e2,k1,k2,k3⟩:=I0 (v':=v') h1 vt (by omega) hc
  rw [k1] at g1
  simp only [Option.some.injEq,Prod.mk.injEq,List.cons.injEq,and_true,true_and,t3,Ob.bx.injEq,AV.v.injEq,Value.int.injEq] at g1
  obtain ⟨rfl,rfl⟩:=g1
  have hl:l2=l1:=by
   rcases k2 with rfl | ⟨rfl,rfl⟩
   ·rcases g2 with g2 | ⟨g2,_⟩
    ·simp only [AV.osl.injEq,true_and] at g2
     have:=congrArg (List.map Dm) g2
     unfold ax at this
     rw [List.map_map,List.map_map] at this
     have hid:∀ l:List Rt,l.map (Dm ∘ bv)=l:=fun l=>(List.map_congr_left (g:=fun c=>c) fun x _=>ES x).trans (List.map_id' l)
     rw [hid,hid] at this
     exact this
    ·cases g2
   ·rcases g2 with g2 | ⟨_,g2⟩
    ·cases g2
    ·exact g2.symm
  subst hl
  refine ⟨h.c,?_⟩
  rcases k3 with ⟨g,k⟩ | ⟨g,k,_⟩
  ·subst g
   rcases h.r with ⟨q1,_,q2⟩ | ⟨q1,q2⟩
   ·refine .inl ⟨q1,rfl,?_⟩
    unfold gS
    rw [k]
    exact q2
   ·refine .inr ⟨q1,fun _=>?_⟩
    unfold gS
    rw [k]
    exact q2 rfl
  ·subst g
   rcases h.r with ⟨_,q1,_⟩ | ⟨q1,_⟩
   ·omega
   ·refine .inr ⟨q1,fun _=>?_⟩
    unfold gS
    rw [k]
    rfl
 ·refine ⟨h.c,?_⟩
  have:=Hh (v:=v') (x:=.sl 1 (aY t.exps)) (d:=t.c) hc (by decide:(9:Int) ≠ 0)
  rw [this] at g1
  simp only [Option.some.injEq,Prod.mk.injEq,List.cons.injEq,and_true,true_and,t3,Ob.bx.injEq,AV.v.injEq,Value.int.injEq] at g1
  obtain ⟨_,rfl⟩:=g1
  rcases h.r with ⟨_,q1,_⟩ | ⟨q1,_⟩
  ·omega
  ·exact .inr ⟨q1,fun h=>by omega⟩
def uZ (blk:Option (Ex × St)) (S:af) (o2 o3:Ob) (v v':Int) (l:List Rt) (e:Int):Option (List Rt)→Prop
 | some r=>∃ hh c' l' e',blk=some (.normal,⟨S,hh⟩)∧hh 2=o2∧hh 3=o3∧hh 4=.bx [I 0,.emp]∧hh 2352=t3 v' c' e'∧(∀ a,a ≠ 2→a ≠ 3→a ≠ 4→a ≠ 8→a ≠ 2352→hh a=.dead)∧ColE v l r e c' l' e'
 | none=>∃ hh,blk=some (.ret,⟨upd (upd (fun _=>.any) 5 (I 9)) 4 (.ref 4 none 0 0 0),hh⟩)∧hh 4=.bx [I 0,.emp]
theorem Mb {v v':Int} {p:Rt} (vp:VT v p) {A Bt:List Rt} (hB:∀ q ∈ Bt,VT v q∧bi p.exps+bi q.exps≤32) (hn:Bt.length≤100000) {nA iA:Int} {o2:Ob} (c2:∀ ids,aA ids o2=true) {vb:Int} :
  ∀ (k i:Nat),i+k=Bt.length→∀ (c:AV) (l:List Rt) (e:Int),mj c l→(e=0∨e=9)→(e=0→Cl v l∧l.length+k≤1000000)→∀ (s:af) (h:aa),s 3=.ref 3 none 0 0 0→s 4=.ref 4 none 0 0 0→s 6=.ref 2352 none 0 0 0→s 8=.ref 8 none 0 0 0→s 46=.sl 4 (ax A)→s 47=I nA→s 48=I iA→s 53=.sl 4 (ax Bt)→s 54=I Bt.length→s 55=I i→h 2=o2→h 3=.bx [I vb,.sl 4 (ax Bt)]→h 4=.bx [I 0,.emp]→h 8=.bx (bv p)→h 2352=t3 v' c e →
  uZ (aI 3 [3,4,6,46,47,48] (aU (az R (ab false) fD) [3,4,6,8,46,47,48,53,54,55] [2,3,4,8,2352] s h)) (upd (upd (upd (upd (upd (upd (fun _=>.any) 48 (I iA)) 47 (I nA)) 46 (.sl 4 (ax A))) 6 (.ref 2352 none 0 0 0)) 4 (.ref 4 none 0 0 0)) 3 (.ref 3 none 0 0 0)) o2 (.bx [I vb,.sl 4 (ax Bt)]) v v' l e (gT p (Bt.drop i)):=by
 intro k
 induction k with
 | zero =>
  intro i hi c l e hc he hC s h g3 g4 g6 g8 g46 g47 g48 g53 g54 g55 k2 k3 k4 k8 k2352
  have e1:((i:Int) < (Bt.length:Int))=False:=ff (by omega)
  have ho:=(l7 (v:=v') (e:=e) hc).cl [2,3,4,8,2352]
  have ho2:=c2 [2,3,4,8,2352]
  rw [List.drop_eq_nil_of_le (by omega),aB]
  simp only [bv] at k8
  refine ⟨?hh0,c,l,e,?_,?_,?_,?_,?_,?_,⟨hc,?_⟩⟩
  rotate_left
  ·simp only [fD,go_sem,↓reduceIte,ad7,aeb,g3,g4,g6,g8,g46,g47,g48,g53,g54,g55,k2,k3,k4,k8,k2352,ho,ho2,e1]
   rfl
  ·rfl
  ·rfl
  ·rfl
  ·rfl
  ·intro a a1 a2 a3 a4 a5
   simp only [i8,a1,a2,a3,a4,a5,if_false]
  ·rcases he with rfl | rfl
   ·exact .inl ⟨rfl,rfl,rfl⟩
   ·exact .inr ⟨rfl,fun h=>by omega⟩
 | succ k ih =>
  intro i hi c l e hc he hC s h g3 g4 g6 g8 g46 g47 g48 g53 g54 g55 k2 k3 k4 k8 k2352
  have hlt:i < Bt.length:=by omega
  have e1:((i:Int) < (Bt.length:Int))=True:=tt (by omega)
  have e2:bH (ax Bt) (i:Int)=some (.ipt (bv Bt[i])):=jq rfl (List.getElem?_eq_getElem hlt)
  have e5:IntKind.i64.wrap ((i:Int)+1)=((i+1:Nat):Int):=wi (by omega) (by omega)
  have ho:=(l7 (v:=v') (e:=e) hc).cl
  obtain ⟨vq,hd⟩:=hB _ (List.getElem_mem hlt)
  have hmul:=Qh vp.c vq.c
  have hdl:(Bt.drop (i+1)).length=k:=by rw [List.length_drop]; omega
  rw [List.drop_eq_getElem_cons hlt]
  have ih':=ih (i+1) (by omega)
  have hrow:∀ q ts,gT p (q::ts)=(xW p q).bind fun x=>(gT p ts).map (x::·):=fun q ts=>rfl
  rw [hrow]
  generalize hqq:Bt[i]=q at e2 vq hd hmul ⊢
  have hVT:=fun x=>Hn (x:=x) vp vq hd
  rw [aB]
  generalize aU _ _ _=L at ih' ⊢
  unfold xW at hVT ⊢
  have ho1:=ho [2,3,4,8,2352]
  have ho2:=c2 [2,3,4,8,2352]
  have hle:=vp.l2 vq
  simp only [bv] at k8 e2
  generalize nn p.c q.c=m at hmul hVT ⊢
  obtain ⟨m,em⟩:=m
  simp only [rV,aF,aW] at hmul
  by_cases hm:em=0
  ·subst hm
   simp only [if_true,Option.bind_some] at hVT ⊢
   have vx:=hVT _ rfl
   obtain ⟨c1,l1,e1',s1,s2,s3,s4,s5⟩:=ColE.stepN (t:=⟨bQ p.exps q.exps,m⟩) hc he k (fun h=>by have:=hC h; exact ⟨this.1,by omega⟩) vx (v':=v')
   have ih2:=ih' c1 l1 e1' s2 s3 s4
   have hcall:=fun (h:aa) (hh:h 2352=t3 v' c e) (d:Nat)=>sp (gg false) rfl (Dk (d:=d) hh hc s2 s1)
   simp only [aF,aW] at hcall
   have hpush:∀ (S:af) (H:aa),uZ (aI 3 [3,4,6,46,47,48] (L S H)) (upd (upd (upd (upd (upd (upd (fun _=>.any) 48 (I iA)) 47 (I nA)) 46 (.sl 4 (ax A))) 6 (.ref 2352 none 0 0 0)) 4 (.ref 4 none 0 0 0)) 3 (.ref 3 none 0 0 0)) o2 (.bx [I vb,.sl 4 (ax Bt)]) v v' l1 e1' (gT p (Bt.drop (i+1)))→uZ (aI 3 [3,4,6,46,47,48] (L S H)) (upd (upd (upd (upd (upd (upd (fun _=>.any) 48 (I iA)) 47 (I nA)) 46 (.sl 4 (ax A))) 6 (.ref 2352 none 0 0 0)) 4 (.ref 4 none 0 0 0)) 3 (.ref 3 none 0 0 0)) o2 (.bx [I vb,.sl 4 (ax Bt)]) v v' l e ((gT p (Bt.drop (i+1))).map (⟨bQ p.exps q.exps,m⟩::·)):=fun S H h=>by
    cases hr:gT p (Bt.drop (i+1)) with
    | none=>rw [hr] at h; exact h
    | some r =>
     rw [hr] at h
     obtain ⟨hh,c',l',e',q1,q2,q3,q4,q5,q6,q7⟩:=h
     exact ⟨hh,c',l',e',q1,q2,q3,q4,q5,q6,s5 _ _ _ _ q7⟩
   cases hx:p.exps with
   | nil =>
    have hcl:R F.slices_Clone_int_int_ [lm []] []=some (lm [],[]):=Dh
    have hq0:q.exps=[]:=List.length_eq_zero_iff.1 (by rw [← hle,hx]; rfl)
    rw [hx] at hpush
    rw [hx,hq0] at hcall
    rw [hx] at k8
    rw [hq0] at e2
    have i0:aY []=[]:=rfl
    have a0:bQ [] []=[]:=rfl
    have z0:((0:Int) < 0)=False:=ff (by decide)
    have ho2':=c2 [2,3,4,8,10,11,2352,2576]
    have ho1':=ho [2,3,4,8,10,11,2352,2576]
    rw [i0] at k8 e2
    rw [a0,i0,RL] at hcall
    simp only [fD,go_sem,↓reduceIte,ad7,ad9,ad8,aea,aeb,g3,g4,g6,g8,g46,g47,g48,g53,g54,g55,k2,k3,k4,k8,k2352,ho1,ho2,e1,e2,hmul,hcl,List.length_nil,Int.natCast_zero]
    rw [aB]
    simp only [hH,go_sem,↓reduceIte,ad7,ad9,ad8,aea,aeb,ho1',ho2',z0]
    rw [hcall _ rfl]
    simp only [go_sem,↓reduceIte,ad7,aeb,e5]
    refine hpush _ _ (ih2 _ _ rfl rfl rfl rfl rfl rfl rfl rfl rfl rfl rfl rfl rfl ?_ rfl)
    simp only [bv,hx]
    rfl
   | cons x xs =>
    have hcl:R F.slices_Clone_int_int_ [.sl 1 (aY p.exps)] []=some (.osl 1 (aY p.exps),[]):=by
     rw [hx]
     exact Di (by have:=vp.ok.len; rw [hx] at this; simp at this; omega)
    rw [← hx]
    have hX0:=Se vp vq (A:=A) (Bt:=Bt) (nA:=nA) (iA:=iA) (nB:=(Bt.length:Int)) (iB:=(i:Int)) (o2:=o2) (o3:=.bx [I vb,.sl 4 (ax Bt)]) (o4:=.bx [I 0,.emp]) (o8:=.bx [.sl 1 (aY p.exps),B p.c.neg,lm p.c.m,I p.c.e]) (o10:=.bx [.sl 1 (aY q.exps),B q.c.neg,lm q.c.m,I q.c.e]) (o11:=.bx [B m.neg,lm m.m,I m.e]) (o2352:=t3 v' c e)
    have k9:(aY (bQ p.exps q.exps)).take p.exps.length=aY (bQ p.exps q.exps):=List.take_of_length_le (by rw [tJ,nv hle]; exact Nat.le_refl _)
    have k8l:(bQ p.exps q.exps).length=p.exps.length:=nv hle
    simp only [fD,go_sem,↓reduceIte,ad7,ad9,ad8,aea,aeb,g3,g4,g6,g8,g46,g47,g48,g53,g54,g55,k2,k3,k4,k8,k2352,ho1,ho2,e1,e2,hmul,hcl]
    generalize hXX:aI 5 _ _=X
    obtain ⟨hh,rfl,q2,q3,q4,q8,q10,q11,qc,q25,qd⟩:=hX0 _ _ _ hXX rfl rfl rfl rfl rfl rfl rfl rfl rfl rfl rfl rfl rfl rfl rfl rfl rfl rfl rfl rfl rfl rfl rfl (c2 _) rfl rfl rfl rfl rfl (ho _)
    simp only [go_sem,↓reduceIte,ad7,ad9,ad8,q11,q25,k9,k8l,Nat.zero_add,Nat.le_refl]
    rw [hcall (upd hh 2576 (.fz 1 (aY (bQ p.exps q.exps)))) (by rw [i8,if_neg (by decide)]; exact qc)]
    simp only [go_sem,↓reduceIte,ad7,aeb,e5]
    refine hpush _ _ (ih2 _ _ ?_ ?_ ?_ ?_ ?_ ?_ ?_ ?_ ?_ ?_ ?_ ?_ ?_ ?_ ?_)
    all_goals first | rfl | (simp only [i8,ad7,↓reduceIte,q2,q3,q4,q8]; done) | (simp only [i8,ad7,↓reduceIte,q8]; rfl)
  ·have f1:(em=0)=False:=ff hm
   simp only [if_neg hm,Option.bind_none]
   refine ⟨?hh1,?_,?_⟩
   rotate_left
   ·simp only [fD,go_sem,↓reduceIte,ad7,ad9,ad8,aea,aeb,g3,g4,g6,g8,g46,g47,g48,g53,g54,g55,k2,k3,k4,k8,k2352,ho1,ho2,e1,e2,hmul,f1]
    rfl
   ·rfl
end Go.Ab
namespace Go.Ab
open Go Go.IntWalk
set_option maxRecDepth 4000
set_option maxHeartbeats 4000000
theorem Sf {v v':Int} {p:Rt} (vp:VT v p) {A Bt:List Rt} (hB:∀ q ∈ Bt,VT v q∧bi p.exps+bi q.exps≤32) (hn:Bt.length≤100000) {nA iA:Int} {o2:Ob} (c2:∀ ids,aA ids o2=true) {vb:Int}
  {c:AV} {l:List Rt} {e:Int} (hc:mj c l) (he:e=0∨e=9) (hC:e=0→Cl v l∧l.length+Bt.length≤1000000) (s:af) (h:aa) (X:Option (Ex × St)) (hX:aI 3 [3,4,6,46,47,48] (aU (az R (ab false) fD) [3,4,6,8,46,47,48,53,54,55] [2,3,4,8,2352] s h)=X)
  (g3:s 3=.ref 3 none 0 0 0) (g4:s 4=.ref 4 none 0 0 0) (g6:s 6=.ref 2352 none 0 0 0) (g8:s 8=.ref 8 none 0 0 0) (g46:s 46=.sl 4 (ax A)) (g47:s 47=I nA) (g48:s 48=I iA) (g53:s 53=.sl 4 (ax Bt)) (g54:s 54=I Bt.length) (g55:s 55=I 0) (k2:h 2=o2) (k3:h 3=.bx [I vb,.sl 4 (ax Bt)]) (k4:h 4=.bx [I 0,.emp]) (k8:h 8=.bx [.sl 1 (aY p.exps),B p.c.neg,lm p.c.m,I p.c.e]) (k2352:h 2352=t3 v' c e) :
  uZ X (upd (upd (upd (upd (upd (upd (fun _=>.any) 48 (I iA)) 47 (I nA)) 46 (.sl 4 (ax A))) 6 (.ref 2352 none 0 0 0)) 4 (.ref 4 none 0 0 0)) 3 (.ref 3 none 0 0 0)) o2 (.bx [I vb,.sl 4 (ax Bt)]) v v' l e (gT p Bt):=by
 subst hX
 exact Mb vp hB hn c2 Bt.length 0 (Nat.zero_add _) c l e hc he hC s h g3 g4 g6 g8 g46 g47 g48 g53 g54 g55 k2 k3 k4 k8 k2352
theorem ColE.app {v:Int} {l r r2:List Rt} {e:Int} {c1:AV} {l1:List Rt} {e1:Int} {c':AV} {l':List Rt} {e':Int} (h1:ColE v l r e c1 l1 e1) (h2:ColE v l1 r2 e1 c' l' e'):ColE v l (r++r2) e c' l' e':=by
 refine ⟨h2.c,?_⟩
 rw [Hf]
 rcases h1.r with ⟨a1,a2,a3⟩ | ⟨a1,a2⟩
 ·rw [a3]
  rcases h2.r with ⟨b1,b2,b3⟩ | ⟨b1,b2⟩
  ·exact .inl ⟨b1,a2,b3⟩
  ·exact .inr ⟨b1,fun _=>b2 a1⟩
 ·rcases h2.r with ⟨b1,b2,b3⟩ | ⟨b1,b2⟩
  ·omega
  ·exact .inr ⟨b1,fun h=>by rw [a2 h]; rfl⟩
theorem ColE.nx {v:Int} {l r:List Rt} {e:Int} {c1:AV} {l1:List Rt} {e1:Int} (h:ColE v l r e c1 l1 e1) (hC:e=0→Cl v l) (hr:∀ t ∈ r,VT v t):(e1=0∨e1=9)∧(e1=0→e=0∧Cl v l1∧l1.length≤l.length+r.length):=by
 rcases h.r with ⟨a1,a2,a3⟩ | ⟨a1,a2⟩
 ·exact ⟨.inl a1,fun _=>⟨a2,nN (hC a2) hr a3⟩⟩
 ·exact ⟨.inr a1,fun h=>by omega⟩
theorem Mc {v v':Int} {A Bt:List Rt} (hA:∀ p ∈ A,VT v p) (hB:∀ q ∈ Bt,VT v q) (hd:∀ p ∈ A,∀ q ∈ Bt,bi p.exps+bi q.exps≤32) (hn:Bt.length≤1000) (hm:A.length≤1000) {o2:Ob} (c2:∀ ids,aA ids o2=true) {vb:Int} :
  ∀ (k i:Nat),i+k=A.length→∀ (c:AV) (l:List Rt) (e:Int),mj c l→(e=0∨e=9)→(e=0→Cl v l∧l.length+k*Bt.length≤1000000)→∀ (s:af) (h:aa),s 3=.ref 3 none 0 0 0→s 4=.ref 4 none 0 0 0→s 6=.ref 2352 none 0 0 0→s 46=.sl 4 (ax A)→s 47=I A.length→s 48=I i→h 2=o2→h 3=.bx [I vb,.sl 4 (ax Bt)]→h 4=.bx [I 0,.emp]→h 2352=t3 v' c e →
  uZ (aI 1 [4,6] (aU (az R (ab false) ko) [3,4,6,46,47,48] [2,3,4,2352] s h)) (upd (upd (fun _=>.any) 6 (.ref 2352 none 0 0 0)) 4 (.ref 4 none 0 0 0)) o2 (.bx [I vb,.sl 4 (ax Bt)]) v v' l e (fS (A.drop i) Bt):=by
 intro k
 induction k with
 | zero =>
  intro i hi c l e hc he hC s h g3 g4 g6 g46 g47 g48 k2 k3 k4 k2352
  have e1:((i:Int) < (A.length:Int))=False:=ff (by omega)
  have ho:=(l7 (v:=v') (e:=e) hc).cl [2,3,4,2352]
  have ho2:=c2 [2,3,4,2352]
  rw [List.drop_eq_nil_of_le (by omega),aB]
  refine ⟨?hh0,c,l,e,?_,?_,?_,?_,?_,?_,⟨hc,?_⟩⟩
  rotate_left
  ·simp only [ko,go_sem,↓reduceIte,ad7,aeb,g3,g4,g6,g46,g47,g48,k2,k3,k4,k2352,ho,ho2,e1]
   rfl
  ·rfl
  ·rfl
  ·rfl
  ·rfl
  ·intro a a1 a2 a3 a4 a5
   simp only [i8,a1,a2,a3,a5,if_false]
  ·rcases he with rfl | rfl
   ·exact .inl ⟨rfl,rfl,rfl⟩
   ·exact .inr ⟨rfl,fun h=>by omega⟩
 | succ k ih =>
  intro i hi c l e hc he hC s h g3 g4 g6 g46 g47 g48 k2 k3 k4 k2352
  have hlt:i < A.length:=by omega
  have e1:((i:Int) < (A.length:Int))=True:=tt (by omega)
  have e2:bH (ax A) (i:Int)=some (.ipt (bv A[i])):=jq rfl (List.getElem?_eq_getElem hlt)
  have e5:IntKind.i64.wrap ((i:Int)+1)=((i+1:Nat):Int):=wi (by omega) (by omega)
  have ho:=(l7 (v:=v') (e:=e) hc).cl
  have vp:=hA _ (List.getElem_mem hlt)
  have hdp:=hd _ (List.getElem_mem hlt)
  rw [List.drop_eq_getElem_cons hlt]
  have ih':=ih (i+1) (by omega)
  have hall:∀ q ts,fS (q::ts) Bt=(gT q Bt).bind fun r=>(fS ts Bt).map (r++·):=fun q ts=>rfl
  rw [hall]
  generalize A[i]=p at e2 vp hdp ⊢
  have hl1:=Sf vp (A:=A) (Bt:=Bt) (nA:=(A.length:Int)) (iA:=(i:Int)) (fun q hq=>⟨hB q hq,hdp q hq⟩) (by omega) c2 (vb:=vb) (v':=v') hc he (fun h=>by have:=hC h; rw [Nat.succ_mul] at this; exact ⟨this.1,by omega⟩)
  have hRV:=fun r=>xr (r:=r) vp (fun q hq=>⟨hB q hq,hdp q hq⟩)
  rw [aB]
  generalize aU _ _ _=L at ih' ⊢
  have ho1:=ho [2,3,4,2352]
  have ho2:=c2 [2,3,4,2352]
  simp only [bv] at e2
  simp only [ko,go_sem,↓reduceIte,ad7,ad9,ad8,aea,aeb,g3,g4,g6,g46,g47,g48,k2,k3,k4,k2352,ho1,ho2,e1,e2]
  generalize hXX:aI 3 _ _=X
  have hM:=hl1 _ _ _ hXX rfl rfl rfl rfl rfl rfl rfl rfl rfl rfl rfl rfl rfl rfl rfl
  cases hr:gT p Bt with
  | none =>
   rw [hr] at hM
   obtain ⟨hh,rfl,q4⟩:=hM
   refine ⟨hh,?_,q4⟩
   simp only [go_sem]
  | some r =>
   rw [hr] at hM
   obtain ⟨hh,c1,l1,e1',rfl,q2,q3,q4,qc,qd,qe⟩:=hM
   obtain ⟨w1,w2⟩:=hRV r hr
   obtain ⟨n1,n2⟩:=qe.nx (fun h=>(hC h).1) w1
   have ih2:=ih' c1 l1 e1' qe.c n1 (fun h=>by
    obtain ⟨m1,m2,m3⟩:=n2 h
    have:=(hC m1).2
    rw [Nat.succ_mul] at this
    exact ⟨m2,by omega⟩)
   simp only [Option.bind_some]
   have hpush:∀ (S:af) (H:aa),uZ (aI 1 [4,6] (L S H)) (upd (upd (fun _=>.any) 6 (.ref 2352 none 0 0 0)) 4 (.ref 4 none 0 0 0)) o2 (.bx [I vb,.sl 4 (ax Bt)]) v v' l1 e1' (fS (A.drop (i+1)) Bt)→uZ (aI 1 [4,6] (L S H)) (upd (upd (fun _=>.any) 6 (.ref 2352 none 0 0 0)) 4 (.ref 4 none 0 0 0)) o2 (.bx [I vb,.sl 4 (ax Bt)]) v v' l e ((fS (A.drop (i+1)) Bt).map (r++·)):=fun S H h=>by
    cases hr2:fS (A.drop (i+1)) Bt with
    | none=>rw [hr2] at h; exact h
    | some r2 =>
     rw [hr2] at h
     obtain ⟨hh,c',l',e',q1,q2,q3,q4,q5,q6,q7⟩:=h
     exact ⟨hh,c',l',e',q1,q2,q3,q4,q5,q6,qe.app q7⟩
   simp only [go_sem,↓reduceIte,ad7,e5]
   refine hpush _ _ (ih2 _ _ ?_ ?_ ?_ ?_ ?_ ?_ ?_ ?_ ?_ ?_)
   all_goals first | rfl | assumption
end Go.Ab
namespace Go.Ab
open Go Go.IntWalk
set_option maxRecDepth 4000
set_option maxHeartbeats 4000000
theorem Sg {v v':Int} {A Bt:List Rt} (hA:∀ p ∈ A,VT v p) (hB:∀ q ∈ Bt,VT v q) (hd:∀ p ∈ A,∀ q ∈ Bt,bi p.exps+bi q.exps≤32) (hn:Bt.length≤500) (hm:A.length≤500) {o2:Ob} (c2:∀ ids,aA ids o2=true) {vb:Int}
  (s:af) (h:aa) (X:Option (Ex × St)) (hX:aI 1 [4,6] (aU (az R (ab false) ko) [3,4,6,46,47,48] [2,3,4,2352] s h)=X) (g3:s 3=.ref 3 none 0 0 0) (g4:s 4=.ref 4 none 0 0 0) (g6:s 6=.ref 2352 none 0 0 0) (g46:s 46=.sl 4 (ax A)) (g47:s 47=I A.length) (g48:s 48=I 0) (k2:h 2=o2) (k3:h 3=.bx [I vb,.sl 4 (ax Bt)]) (k4:h 4=.bx [I 0,.emp]) (k2352:h 2352=.bx [I v',.emp,I 0]) :
  uZ X (upd (upd (fun _=>.any) 6 (.ref 2352 none 0 0 0)) 4 (.ref 4 none 0 0 0)) o2 (.bx [I vb,.sl 4 (ax Bt)]) v v' [] 0 (fS A Bt):=by
 subst hX
 exact Mc hA hB hd (by omega) (by omega) c2 A.length 0 (Nat.zero_add _) .emp [] 0 (.inr ⟨rfl,rfl⟩) (.inl rfl) (fun _=>⟨Cl.nil _,by
  have:A.length*Bt.length≤500*500:=Nat.mul_le_mul hm hn
  show 0+_≤_
  omega⟩) s h g3 g4 g6 g46 g47 g48 k2 k3 k4 k2352
theorem Si {v:Int} {t:Rt} (h:VT v t):0≤bi t.exps:=(Cx fun x hx=>(h.b x hx).1).1
theorem Jb {a:Rp} (oa:OkP a):-1≤iJ a∧iJ a≤32:=by
 unfold iJ
 split
 ·rename_i h
  cases hg:a.terms.getLast? with
  | none=>simp
  | some t =>
   have vt:=(dH oa h).1.t t (List.mem_of_getLast? hg)
   have:=Si vt
   have:=vt.d
   simp only []
   omega
 ·omega
theorem QA {a b:Rp} (oa:OkP a) (ob:OkP b):R F.poly_Mul [aZ a,aZ b] []=some (pV (bX a b),[]):=by
 refine aX Kk Kj (vI false) rfl ?_
 have hp:=CC oa ob
 have hda:=Db oa
 have hdb:=Db ob
 have bda:=Jb oa
 have bdb:=Jb ob
 simp only [aZ] at hp hda hdb
 unfold bX
 cases hb:mY a b with
 | false =>
  rw [hb] at hp
  rw [if_neg Bool.false_ne_true]
  simp only [gn,lP,aZ,go_sem,↓reduceIte,ad7,ad9,ad8,aea,aec,hp]
  rfl
 | true =>
  rw [hb] at hp
  rw [if_pos rfl]
  obtain ⟨va,vb,hv⟩:=fq.1 hb
  obtain ⟨ka,a0,a8,al⟩:=dH oa va
  obtain ⟨kb,b0,b8,bl⟩:=dH ob vb
  rw [← hv] at kb
  have w1:IntKind.i64.wrap (iJ a+iJ b)=iJ a+iJ b:=i64_in _ ⟨by omega,by omega⟩
  by_cases hd:a.terms.length ≠ 0∧b.terms.length ≠ 0∧32 < iJ a+iJ b
  ·rw [if_pos hd]
   have e1:(0 < (a.terms.length:Int))=True:=tt (by omega)
   have e2:(0 < (b.terms.length:Int))=True:=tt (by omega)
   have e3:(32 < iJ a+iJ b)=True:=eq_true hd.2.2
   simp only [gn,lP,aZ,go_sem,↓reduceIte,ad7,ad9,ad8,aea,aec,aeb,hp,hda,hdb,w1,e1,e2,e3]
   rfl
  ·rw [if_neg hd]
   have hf:=zW oa ob va vb hd
   have hemp:=Ht (v:=a.vars)
   have hl:=Sg (v':=a.vars) (A:=a.terms) (Bt:=b.terms) ka.t kb.t hf (by omega) (by omega) (o2:=.bx [I a.vars,.sl 4 (ax a.terms)]) (fun _=>rfl) (vb:=b.vars)
   have fin:∀ X:Option (Ex × St),uZ X (upd (upd (fun _=>.any) 6 (.ref 2352 none 0 0 0)) 4 (.ref 4 none 0 0 0)) (.bx [I a.vars,.sl 4 (ax a.terms)]) (.bx [I b.vars,.sl 4 (ax b.terms)]) a.vars a.vars [] 0 (fS a.terms b.terms) →
     rg false [[.o 0 [],.o 5 [.o 2 [],.o 0 [],.o 2 [],.o 0 []]],[]] [.cell 4 2 true,.t 5] 0 (dD X (az R (ab false) (.seq (.ops [4,5] [cm 95 6,ca 96 F.poly_collector_done [.t 95],co 97 (.ext 0 (.t 96)),co 98 (.ext 1 (.t 96)),sr 2 (.t 4) (.t 97),cm 5 98]) .ret)))=some (pV (kf a.vars ((fS a.terms b.terms).bind (gS []))),[]):=by
    intro X hM
    cases hr:fS a.terms b.terms with
    | none =>
     rw [hr] at hM
     obtain ⟨hh,rfl,q4⟩:=hM
     simp only [Option.bind_none,kf,pV,p0,aZ,go_sem,↓reduceIte,ad7,ad9,ad8,aea,q4]
     rfl
    | some r =>
     rw [hr] at hM
     obtain ⟨hh,c',l',e',rfl,q2,q3,q4,qc,qd,qe⟩:=hM
     obtain ⟨o,hdn⟩:=Dl (d:=96) qc qe.c (by simp [cx,qd,cD])
     have hd':=sp (fw false) rfl hdn
     rw [qe.fin] at hd'
     rw [Option.bind_some]
     generalize kf a.vars (gS [] r)=z at hd' ⊢
     obtain ⟨z1,z2⟩:=z
     simp only [pV,aZ] at hd'
     simp only [pV,aZ,go_sem,↓reduceIte,ad7,ad9,ad8,aea,aeb,q4,hd']
   by_cases h1:a.terms.length=0
   ·have e1:(0 < (a.terms.length:Int))=False:=ff (by omega)
    simp only [gn,lP,aZ,go_sem,↓reduceIte,ad7,ad9,ad8,aea,aec,hp,e1,hemp,sq]
    generalize hX:aI 1 _ _=X
    exact fin X (hl _ _ _ hX rfl rfl rfl rfl rfl rfl rfl rfl rfl rfl)
   ·have e1:(0 < (a.terms.length:Int))=True:=tt (by omega)
    by_cases h2:b.terms.length=0
    ·have e2:(0 < (b.terms.length:Int))=False:=ff (by omega)
     simp only [gn,lP,aZ,go_sem,↓reduceIte,ad7,ad9,ad8,aea,aec,hp,e1,e2,hemp,sq]
     generalize hX:aI 1 _ _=X
     exact fin X (hl _ _ _ hX rfl rfl rfl rfl rfl rfl rfl rfl rfl rfl)
    ·have e2:(0 < (b.terms.length:Int))=True:=tt (by omega)
     have e3:(32 < iJ a+iJ b)=False:=eq_false fun h=>hd ⟨h1,h2,h⟩
     simp only [gn,lP,aZ,go_sem,↓reduceIte,ad7,ad9,ad8,aea,aec,aeb,hp,hda,hdb,w1,e1,e2,e3,hemp,sq]
     generalize hX:aI 1 _ _=X
     exact fin X (hl _ _ _ hX rfl rfl rfl rfl rfl rfl rfl rfl rfl rfl)
end Go.Ab
namespace Go.Ab
open Go Go.IntWalk
set_option maxRecDepth 4000
set_option maxHeartbeats 2000000
def an2 (a b:List Int) (i:Nat):List Int:=(bQ a b).take i++List.replicate (a.length - i) 0
theorem aoE {a b:List Int} (h:a.length=b.length) {i:Nat} {x y:Int} (hx:a[i]?=some x) (hy:b[i]?=some y):(an2 a b i).set i (x+y)=an2 a b (i+1)∧(an2 a b i)[i]?=some 0:=by
 have hlt:=(List.getElem?_eq_some_iff.1 hx).1
 have hg:=Oo hx hy
 have hlen:=nv h
 have ht:((bQ a b).take i).length=i:=by rw [List.length_take]; omega
 obtain ⟨m,hm⟩:∃ m,a.length - i=m+1:=⟨a.length - i - 1,by omega⟩
 unfold an2
 rw [hm,show a.length - (i+1)=m by omega]
 constructor
 ·rw [List.set_append_right _ _ (by omega),ht,Nat.sub_self,List.replicate_succ,List.set_cons_zero,List.take_succ_eq_append_getElem (by omega:i < (bQ a b).length),List.append_assoc]
  have:=(List.getElem?_eq_some_iff.1 hg).2
  rw [this]
  rfl
 ·rw [List.getElem?_append_right (by omega),ht,Nat.sub_self,List.replicate_succ]
  rfl
theorem aoF {a b:List Int} (h:a.length=b.length) {i:Nat} (hi:a.length≤i):an2 a b i=bQ a b:=by
 unfold an2
 rw [List.take_of_length_le (by rw [nv h]; omega),show a.length - i=0 by omega,List.replicate_zero,List.append_nil]
theorem aor {v:Int} {a b:Rp} {p q:Rt} (vp:VT v p) (vq:VT v q) {i j:Nat} (hp:a.terms[i]?=some p) (hq:b.terms[j]?=some q) (hv:a.vars=v) {x6:AV} (k6:ew [2,3,4,9,84] x6=x6) {o4 o9:Ob} (c4:aA [2,3,4,9,84] o4=true) (c9:aA [2,3,4,9,84] o9=true) :
  ∀ (k n:Nat),n+k=p.exps.length→∀ (s:af) (h:aa),s 2=.ref 2 none 0 0 0→s 3=.ref 3 none 0 0 0→s 4=.ref 4 none 0 0 0→s 6=x6→s 7=I (i:Int)→s 8=I (j:Int)→s 9=.ref 9 none 0 0 0→s 11=.rsl 84 none 1 0 a.vars.toNat→s 12=I n→h 2=.bx [I a.vars,.sl 4 (ax a.terms)]→h 3=.bx [I b.vars,.sl 4 (ax b.terms)]→h 4=o4→h 9=o9→h 84=.ar 1 (aY (an2 p.exps q.exps n)) →
  ∃ hh,aI 4 [2,3,4,6,7,8,9,11] (aU (az R (ab false) anV) [2,3,4,6,7,8,9,11,12] [2,3,4,9,84] s h)=some (.normal,⟨upd (upd (upd (upd (upd (upd (upd (upd (fun _=>.any) 11 (.rsl 84 none 1 0 a.vars.toNat)) 9 (.ref 9 none 0 0 0)) 8 (I (j:Int))) 7 (I (i:Int))) 6 (x6)) 4 (.ref 4 none 0 0 0)) 3 (.ref 3 none 0 0 0)) 2 (.ref 2 none 0 0 0),hh⟩) ∧
   hh 2=.bx [I a.vars,.sl 4 (ax a.terms)]∧hh 3=.bx [I b.vars,.sl 4 (ax b.terms)]∧hh 4=o4∧hh 9=o9∧hh 84=.ar 1 (aY (bQ p.exps q.exps))∧∀ x,x ≠ 2→x ≠ 3→x ≠ 4→x ≠ 9→x ≠ 84→hh x=.dead:=by
 have hl:=vp.l2 vq
 have hs:=vp.ok.len
 have hvl:=vp.len
 have hvt:a.vars.toNat=p.exps.length:=by omega
 intro k
 induction k with
 | zero =>
  intro n hi s h g2 g3 g4 g6 g7 g8 g9 g11 g12 k2 k3 k4 k9 k84
  have e1:((n:Int) < a.vars)=False:=ff (by omega)
  rw [aoF hl (by omega)] at k84
  rw [aB]
  refine ⟨?hh0,?_,?_,?_,?_,?_,?_,?_⟩
  rotate_left
  ·simp only [anV,go_sem,↓reduceIte,ad7,ad9,ad8,aeb,g2,g3,g4,g6,g7,g8,g9,g11,g12,k2,k3,k4,k9,k84,k6,c4,c9,e1]
   rfl
  all_goals first | rfl | (intro x a1 a2 a3 a4 a5; simp only [i8,a1,a2,a3,a4,a5,if_false])
 | succ k ih =>
  intro n hi s h g2 g3 g4 g6 g7 g8 g9 g11 g12 k2 k3 k4 k9 k84
  have hlt:n < p.exps.length:=by omega
  have hlt2:n < q.exps.length:=by omega
  have e1:((n:Int) < a.vars)=True:=tt (by omega)
  have hpe:p.exps[n]?=some p.exps[n]:=List.getElem?_eq_getElem hlt
  have hqe:q.exps[n]?=some q.exps[n]:=List.getElem?_eq_getElem hlt2
  have e2:bH (aY p.exps) (n:Int)=some (.ipt [I p.exps[n]]):=qU rfl hpe
  have e3:bH (aY q.exps) (n:Int)=some (.ipt [I q.exps[n]]):=qU rfl hqe
  have r1:bH (ax a.terms) (i:Int)=some (.ipt (bv p)):=jq rfl hp
  have r2:bH (ax b.terms) (j:Int)=some (.ipt (bv q)):=jq rfl hq
  obtain ⟨e4,e4'⟩:=aoE hl hpe hqe
  have e8:(aY (an2 p.exps q.exps n))[n]?=some [I 0]:=by simp [aY,e4']
  have b1:=vp.b _ (List.getElem_mem hlt)
  have b2:=vq.b _ (List.getElem_mem hlt2)
  have e5:IntKind.i64.wrap ((n:Int)+1)=((n+1:Nat):Int):=wi (by omega) (by omega)
  have e6:(0≤(n:Int)∧(n:Int) < ((a.vars.toNat:Nat):Int))=True:=eq_true ⟨by omega,by omega⟩
  have e7:IntKind.i64.wrap (p.exps[n]+q.exps[n])=p.exps[n]+q.exps[n]:=i64_in _ ⟨by omega,by omega⟩
  have ih':=ih (n+1) (by omega)
  rw [← e4,← Qw] at ih'
  generalize p.exps[n]=x at e2 e7 ih'
  generalize q.exps[n]=y at e3 e7 ih'
  rw [aB]
  generalize aU _ _ _=L at ih' ⊢
  simp only [bv] at r1 r2
  simp only [anV,go_sem,↓reduceIte,ad7,ad9,aea,aec,aeb,g2,g3,g4,g6,g7,g8,g9,g11,g12,k2,k3,k4,k9,k84,k6,c4,c9,e1,r1,r2,e2,e3,e8,e5,e6,e7,Int.toNat_natCast,Nat.zero_add]
  exact ih' _ _ rfl rfl rfl rfl rfl rfl rfl rfl rfl rfl rfl rfl rfl rfl
theorem aoK {v:Int} {a b:Rp} {p q:Rt} (vp:VT v p) (vq:VT v q) {i j:Nat} (hp:a.terms[i]?=some p) (hq:b.terms[j]?=some q) (hv:a.vars=v) {x6:AV} (k6:ew [2,3,4,9,84] x6=x6) {o4 o9:Ob} (c4:aA [2,3,4,9,84] o4=true) (s:af) (h:aa) (X:Option (Ex × St)) (hX:aI 4 [2,3,4,6,7,8,9,11] (aU (az R (ab false) anV) [2,3,4,6,7,8,9,11,12] [2,3,4,9,84] s h)=X)
  (g2:s 2=.ref 2 none 0 0 0) (g3:s 3=.ref 3 none 0 0 0) (g4:s 4=.ref 4 none 0 0 0) (g6:s 6=x6) (g7:s 7=I (i:Int)) (g8:s 8=I (j:Int)) (g9:s 9=.ref 9 none 0 0 0) (g11:s 11=.rsl 84 none 1 0 a.vars.toNat) (g12:s 12=I 0) (k2:h 2=.bx [I a.vars,.sl 4 (ax a.terms)]) (k3:h 3=.bx [I b.vars,.sl 4 (ax b.terms)]) (k4:h 4=o4) (k9:h 9=o9) (k84:h 84=.ar 1 (List.replicate p.exps.length [I 0])) (c9:aA [2,3,4,9,84] o9=true) :
  ∃ hh,X=some (.normal,⟨upd (upd (upd (upd (upd (upd (upd (upd (fun _=>.any) 11 (.rsl 84 none 1 0 a.vars.toNat)) 9 (.ref 9 none 0 0 0)) 8 (I (j:Int))) 7 (I (i:Int))) 6 (x6)) 4 (.ref 4 none 0 0 0)) 3 (.ref 3 none 0 0 0)) 2 (.ref 2 none 0 0 0),hh⟩) ∧
   hh 2=.bx [I a.vars,.sl 4 (ax a.terms)]∧hh 3=.bx [I b.vars,.sl 4 (ax b.terms)]∧hh 4=o4∧hh 9=o9∧hh 84=.ar 1 (aY (bQ p.exps q.exps))∧∀ x,x ≠ 2→x ≠ 3→x ≠ 4→x ≠ 9→x ≠ 84→hh x=.dead:=by
 subst hX
 have hc:aY (an2 p.exps q.exps 0)=List.replicate p.exps.length [I 0]:=by simp [an2,aY]
 rw [← hc] at k84
 exact aor vp vq hp hq hv k6 c4 c9 p.exps.length 0 (Nat.zero_add _) s h g2 g3 g4 g6 g7 g8 g9 g11 g12 k2 k3 k4 k9 k84
end Go.Ab
namespace Go.Ab
open Go Go.IntWalk
set_option maxRecDepth 4000
set_option maxHeartbeats 4000000
def an0 (p:Rt):List Rt→List Rt→Option (List Rt)
 | [],l=>some l
 | q::ts,l=>(xW p q).bind fun x=>(ns l x).bind fun l'=>an0 p ts l'
theorem aoc (p:Rt):∀ (ts l:List Rt),an0 p ts l=(gT p ts).bind (gS l)
 | [],l=>rfl
 | q::ts,l=>by
  unfold an0 gT
  cases xW p q with
  | none=>rfl
  | some x =>
   simp only [Option.bind_some]
   cases h:ns l x with
   | none =>
    simp only [Option.bind_none]
    cases gT p ts with
    | none=>rfl
    | some r =>
     show none=(ns l x).bind _
     rw [h]
     rfl
   | some l' =>
    simp only [Option.bind_some]
    rw [aoc p ts l']
    cases gT p ts with
    | none=>rfl
    | some r =>
     show gS l' r=(ns l x).bind _
     rw [h]
     rfl
def XP (x:AV) (l:List Rt):Prop:=x=.sl 4 (ax l)∨(x=.emp∧l=[])
theorem XP.keep {x:AV} {l:List Rt} (h:XP x l) (hs:List Nat):ew hs x=x:=by
 rcases h with rfl | ⟨rfl,_⟩ <;> rfl
def aol (blk:Option (Ex × St)) (S:AV→af) (a b:Rp):Option (List Rt)→Prop
 | some l=>∃ hh x,blk=some (.normal,⟨S x,hh⟩)∧XP x l∧hh 2=.bx [I a.vars,.sl 4 (ax a.terms)]∧hh 3=.bx [I b.vars,.sl 4 (ax b.terms)]∧hh 4=.bx [I 0,.emp]∧∀ x,x ≠ 2→x ≠ 3→x ≠ 4→hh x=.dead
 | none=>∃ hh,blk=some (.ret,⟨upd (upd (fun _=>.any) 5 (I 9)) 4 (.ref 4 none 0 0 0),hh⟩)∧hh 4=.bx [I 0,.emp]
theorem aos {v:Int} {a b:Rp} {p:Rt} (vp:VT v p) {i:Nat} (hp:a.terms[i]?=some p) (hv:a.vars=v) (v8:0≤v) (hB:∀ q ∈ b.terms,VT v q∧bi p.exps+bi q.exps≤32) (hn:b.terms.length≤100000) :
  ∀ (k j:Nat),j+k=b.terms.length→∀ (x6:AV) (l:List Rt),XP x6 l→Cl v l→l.length+k≤1000000→∀ (s:af) (h:aa),s 2=.ref 2 none 0 0 0→s 3=.ref 3 none 0 0 0→s 4=.ref 4 none 0 0 0→s 6=x6→s 7=I (i:Int)→s 8=I (j:Int)→h 2=.bx [I a.vars,.sl 4 (ax a.terms)]→h 3=.bx [I b.vars,.sl 4 (ax b.terms)]→h 4=.bx [I 0,.emp] →
  aol (aI 2 [2,3,4,6,7] (aU (az R (ab false) anR) [2,3,4,6,7,8] [2,3,4] s h)) (fun x=>upd (upd (upd (upd (upd (fun _=>.any) 7 (I (i:Int))) 6 x) 4 (.ref 4 none 0 0 0)) 3 (.ref 3 none 0 0 0)) 2 (.ref 2 none 0 0 0)) a b (an0 p (b.terms.drop j) l):=by
 have hvt:a.vars.toNat=p.exps.length:=by have:=vp.len; omega
 intro k
 induction k with
 | zero =>
  intro j hi x6 l h6 c hl s h g2 g3 g4 g6 g7 g8 k2 k3 k4
  have e1:((j:Int) < (b.terms.length:Int))=False:=ff (by omega)
  have kx:=h6.keep [2,3,4]
  rw [List.drop_eq_nil_of_le (by omega),aB]
  refine ⟨?hh0,x6,?_,h6,?_,?_,?_,?_⟩
  rotate_left
  ·simp only [anR,go_sem,↓reduceIte,ad7,ad9,ad8,aeb,g2,g3,g4,g6,g7,g8,k2,k3,k4,kx,e1]
   rfl
  ·rfl
  ·rfl
  ·rfl
  ·intro x a1 a2 a3
   simp only [i8,a1,a2,a3,if_false]
 | succ k ih =>
  intro j hi x6 l h6 c hl s h g2 g3 g4 g6 g7 g8 k2 k3 k4
  have hlt:j < b.terms.length:=by omega
  have e1:((j:Int) < (b.terms.length:Int))=True:=tt (by omega)
  have hq:b.terms[j]?=some b.terms[j]:=List.getElem?_eq_getElem hlt
  have e2:bH (ax b.terms) (j:Int)=some (.ipt (bv b.terms[j])):=jq rfl hq
  have e3:bH (ax a.terms) (i:Int)=some (.ipt (bv p)):=jq rfl hp
  have e5:IntKind.i64.wrap ((j:Int)+1)=((j+1:Nat):Int):=wi (by omega) (by omega)
  obtain ⟨vq,hd⟩:=hB _ (List.getElem_mem hlt)
  have hmul:=ahl vp.c vq.c
  have ih':=ih (j+1) (by omega)
  rw [List.drop_eq_getElem_cons hlt]
  have hcol:∀ q ts,an0 p (q::ts) l=(xW p q).bind fun x=>(ns l x).bind fun l'=>an0 p ts l':=fun q ts=>rfl
  rw [hcol]
  generalize b.terms[j]=q at e2 vq hd hmul hq ⊢
  have hVT:=fun x=>Hn (x:=x) vp vq hd
  have hX0:=fun o9=>aoK vp vq hp hq hv (h6.keep [2,3,4,9,84]) (o4:=.bx [I 0,.emp]) (o9:=o9)
  have kx:=h6.keep [2,3,4]
  rw [aB]
  generalize aU _ _ _=L at ih' ⊢
  unfold xW at hVT ⊢
  simp only [bv] at e2 e3
  generalize nn p.c q.c=m at hmul hVT ⊢
  obtain ⟨m,em⟩:=m
  simp only [rV,aF,aW] at hmul
  by_cases hm:em=0
  ·subst hm
   simp only [if_true,Option.bind_some] at hVT ⊢
   have vx:=hVT _ rfl
   have hC:=aoq c vx (by omega)
   simp only [bv] at hC
   have z1:ud (.v (.int .i64 a.vars)) (.v (.int .i64 a.vars))=some (a.vars.toNat,a.vars.toNat):=by
    simp only [ud]
    rw [if_pos ⟨by omega,by omega,by have:=vp.v8; omega⟩]
   have z2:(a.vars.toNat*8≤140737488355328)=True:=eq_true (by have:=vp.v8; omega)
   have hle:=vp.l2 vq
   have k8l:(bQ p.exps q.exps).length=a.vars.toNat:=by rw [hvt]; exact nv hle
   have k9:(aY (bQ p.exps q.exps)).take a.vars.toNat=aY (bQ p.exps q.exps):=List.take_of_length_le (by rw [tJ,k8l]; exact Nat.le_refl _)
   simp only [anR,go_sem,↓reduceIte,ad7,ad9,ad8,aea,aec,aeb,g2,g3,g4,g6,g7,g8,k2,k3,k4,kx,e1,e2,e3,hmul,z1,z2]
   generalize hXX:aI 4 _ _=X
   obtain ⟨hh,rfl,q2,q3,q4,q9,q84,qd⟩:=hX0 _ rfl _ _ _ hXX rfl rfl rfl rfl rfl rfl rfl rfl rfl rfl rfl rfl rfl (by rw [← hvt]; rfl) rfl
   have d1:hh 2944=.dead:=qd _ (by decide) (by decide) (by decide) (by decide) (by decide)
   have d2:hh 2945=.dead:=qd _ (by decide) (by decide) (by decide) (by decide) (by decide)
   have hin:ns l ⟨bQ p.exps q.exps,m⟩=none∨∃ l',ns l ⟨bQ p.exps q.exps,m⟩=some l':=by
    cases ns l ⟨bQ p.exps q.exps,m⟩ with
    | none=>exact .inl rfl
    | some l'=>exact .inr ⟨l',rfl⟩
   rcases hin with hins | ⟨l',hins⟩
   ·rw [hins] at hC ⊢
    simp only [Option.bind_none]
    simp only [aoo] at hC
    rcases h6 with rfl | ⟨rfl,rfl⟩
    ·refine ⟨?hh2,?_,?_⟩
     rotate_left
     ·simp only [go_sem,↓reduceIte,ad7,ad9,ad8,aea,q4,q9,q84,d1,d2,k8l,k9,Nat.zero_add,Nat.le_refl,hC]
      rfl
     ·rfl
    ·rw [show ax []=[] from rfl] at hC
     refine ⟨?hh3,?_,?_⟩
     rotate_left
     ·simp only [go_sem,↓reduceIte,ad7,ad9,ad8,aea,q4,q9,q84,d1,d2,k8l,k9,Nat.zero_add,Nat.le_refl,hC]
      rfl
     ·rfl
   ·have hlen:=zU hins
    have ih2:=ih' (.sl 4 (ax l')) l' (.inl rfl) (xT c vx hins).1 (by omega)
    rw [hins] at hC ⊢
    simp only [Option.bind_some]
    simp only [aoo] at hC
    rcases h6 with rfl | ⟨rfl,rfl⟩
    ·simp only [go_sem,↓reduceIte,ad7,ad9,ad8,aea,q4,q9,q84,d1,d2,k8l,k9,Nat.zero_add,Nat.le_refl,hC,e5]
     refine ih2 _ _ ?_ ?_ ?_ ?_ ?_ ?_ ?_ ?_ ?_
     all_goals first | rfl | (simp only [i8,ad7,↓reduceIte,q2,q3,q4]; done) | (simp only [i8,ad7,↓reduceIte,q2,q3,q4]; rfl)
    ·rw [show ax []=[] from rfl] at hC
     simp only [go_sem,↓reduceIte,ad7,ad9,ad8,aea,q4,q9,q84,d1,d2,k8l,k9,Nat.zero_add,Nat.le_refl,hC,e5]
     refine ih2 _ _ ?_ ?_ ?_ ?_ ?_ ?_ ?_ ?_ ?_
     all_goals first | rfl | (simp only [i8,ad7,↓reduceIte,q2,q3,q4]; done) | (simp only [i8,ad7,↓reduceIte,q2,q3,q4]; rfl)
  ·have f1:(em=0)=False:=ff hm
   simp only [if_neg hm,Option.bind_none]
   refine ⟨?hh1,?_,?_⟩
   rotate_left
   ·simp only [anR,go_sem,↓reduceIte,ad7,ad9,ad8,aea,aec,aeb,g2,g3,g4,g6,g7,g8,k2,k3,k4,kx,e1,e2,e3,hmul,f1]
    rfl
   ·rfl
end Go.Ab
namespace Go.Ab
open Go Go.IntWalk
set_option maxRecDepth 4000
set_option maxHeartbeats 4000000
theorem aoL {v:Int} {a b:Rp} {p:Rt} (vp:VT v p) {i:Nat} (hp:a.terms[i]?=some p) (hv:a.vars=v) (v8:0≤v) (hB:∀ q ∈ b.terms,VT v q∧bi p.exps+bi q.exps≤32) (hn:b.terms.length≤100000) {x6:AV} {l:List Rt} (hx:XP x6 l) (c:Cl v l) (hl:l.length+b.terms.length≤1000000) (s:af) (h:aa) (X:Option (Ex × St)) (hX:aI 2 [2,3,4,6,7] (aU (az R (ab false) anR) [2,3,4,6,7,8] [2,3,4] s h)=X)
  (g2:s 2=.ref 2 none 0 0 0) (g3:s 3=.ref 3 none 0 0 0) (g4:s 4=.ref 4 none 0 0 0) (g6:s 6=x6) (g7:s 7=I (i:Int)) (g8:s 8=I 0) (k2:h 2=.bx [I a.vars,.sl 4 (ax a.terms)]) (k3:h 3=.bx [I b.vars,.sl 4 (ax b.terms)]) (k4:h 4=.bx [I 0,.emp]) :
  aol X (fun x=>upd (upd (upd (upd (upd (fun _=>.any) 7 (I (i:Int))) 6 x) 4 (.ref 4 none 0 0 0)) 3 (.ref 3 none 0 0 0)) 2 (.ref 2 none 0 0 0)) a b (an0 p b.terms l):=by
 subst hX
 exact aos vp hp hv v8 hB hn b.terms.length 0 (Nat.zero_add _) x6 l hx c hl s h g2 g3 g4 g6 g7 g8 k2 k3 k4
def aoa (Bt:List Rt):List Rt→List Rt→Option (List Rt)
 | [],l=>some l
 | p::ps,l=>(an0 p Bt l).bind fun l'=>aoa Bt ps l'
theorem aon (Bt:List Rt):∀ (ps l:List Rt),aoa Bt ps l=(fS ps Bt).bind (gS l)
 | [],l=>rfl
 | p::ps,l=>by
  show (an0 p Bt l).bind (fun l'=>aoa Bt ps l')=((gT p Bt).bind fun r=>(fS ps Bt).map (r++·)).bind (gS l)
  rw [aoc]
  cases gT p Bt with
  | none=>rfl
  | some r =>
   simp only [Option.bind_some]
   cases h:gS l r with
   | none =>
    cases fS ps Bt with
    | none=>rfl
    | some r2 =>
     show none=gS l (r++r2)
     rw [Hf,h]
     rfl
   | some l' =>
    show aoa Bt ps l'=_
    rw [aon Bt ps l']
    cases fS ps Bt with
    | none=>rfl
    | some r2 =>
     show gS l' r2=gS l (r++r2)
     rw [Hf,h]
     rfl
theorem aot {v:Int} {a b:Rp} (hv:a.vars=v) (v8:0≤v) (hA:∀ p ∈ a.terms,VT v p) (hB:∀ q ∈ b.terms,VT v q) (hd:∀ p ∈ a.terms,∀ q ∈ b.terms,bi p.exps+bi q.exps≤32) (hn:b.terms.length≤1000) (hm:a.terms.length≤1000) :
  ∀ (k i:Nat),i+k=a.terms.length→∀ (x6:AV) (l:List Rt),XP x6 l→Cl v l→l.length+k*b.terms.length≤1000000→∀ (s:af) (h:aa),s 2=.ref 2 none 0 0 0→s 3=.ref 3 none 0 0 0→s 4=.ref 4 none 0 0 0→s 6=x6→s 7=I (i:Int)→h 2=.bx [I a.vars,.sl 4 (ax a.terms)]→h 3=.bx [I b.vars,.sl 4 (ax b.terms)]→h 4=.bx [I 0,.emp] →
  aol (aI 0 [2,4,6] (aU (az R (ab false) anW) [2,3,4,6,7] [2,3,4] s h)) (fun x=>upd (upd (upd (fun _=>.any) 6 x) 4 (.ref 4 none 0 0 0)) 2 (.ref 2 none 0 0 0)) a b (aoa b.terms (a.terms.drop i) l):=by
 intro k
 induction k with
 | zero =>
  intro i hi x6 l h6 c hl s h g2 g3 g4 g6 g7 k2 k3 k4
  have e1:((i:Int) < (a.terms.length:Int))=False:=ff (by omega)
  have kx:=h6.keep [2,3,4]
  rw [List.drop_eq_nil_of_le (by omega),aB]
  refine ⟨?hh0,x6,?_,h6,?_,?_,?_,?_⟩
  rotate_left
  ·simp only [anW,go_sem,↓reduceIte,ad7,ad9,ad8,aeb,g2,g3,g4,g6,g7,k2,k3,k4,kx,e1]
   rfl
  ·rfl
  ·rfl
  ·rfl
  ·intro x a1 a2 a3
   simp only [i8,a1,a2,a3,if_false]
 | succ k ih =>
  intro i hi x6 l h6 c hl s h g2 g3 g4 g6 g7 k2 k3 k4
  have hlt:i < a.terms.length:=by omega
  have e1:((i:Int) < (a.terms.length:Int))=True:=tt (by omega)
  have hp:a.terms[i]?=some a.terms[i]:=List.getElem?_eq_getElem hlt
  have e5:IntKind.i64.wrap ((i:Int)+1)=((i+1:Nat):Int):=wi (by omega) (by omega)
  have vp:=hA _ (List.getElem_mem hlt)
  have hdp:=hd _ (List.getElem_mem hlt)
  have ih':=ih (i+1) (by omega)
  rw [List.drop_eq_getElem_cons hlt]
  have hall:∀ q ts,aoa b.terms (q::ts) l=(an0 q b.terms l).bind fun l'=>aoa b.terms ts l':=fun q ts=>rfl
  rw [hall]
  rw [Nat.succ_mul] at hl
  generalize a.terms[i]=p at vp hdp hp ⊢
  have hBp:∀ q ∈ b.terms,VT v q∧bi p.exps+bi q.exps≤32:=fun q hq=>⟨hB q hq,hdp q hq⟩
  have hl1:=aoL vp hp hv v8 hBp (by omega) h6 c (by omega)
  have kx:=h6.keep [2,3,4]
  rw [aB]
  generalize aU _ _ _=L at ih' ⊢
  simp only [anW,go_sem,↓reduceIte,ad7,ad9,ad8,aeb,g2,g3,g4,g6,g7,k2,k3,k4,kx,e1]
  generalize hXX:aI 2 _ _=X
  have hM:=hl1 _ _ _ hXX rfl rfl rfl rfl rfl rfl rfl rfl rfl
  cases hr:an0 p b.terms l with
  | none =>
   rw [hr] at hM
   obtain ⟨hh,rfl,q4⟩:=hM
   refine ⟨hh,?_,q4⟩
   simp only [go_sem]
  | some l' =>
   rw [hr] at hM
   obtain ⟨hh,x,rfl,hx,q2,q3,q4,qd⟩:=hM
   have hcl:Cl v l'∧l'.length≤l.length+b.terms.length:=by
    rw [aoc,Option.bind_eq_some_iff] at hr
    obtain ⟨r,h1,h2⟩:=hr
    obtain ⟨w1,w2⟩:=xr vp hBp h1
    rw [← w2]
    exact nN c w1 h2
   simp only [Option.bind_some,go_sem,↓reduceIte,ad7,e5]
   refine ih' x l' hx hcl.1 (by omega) _ _ ?_ ?_ ?_ ?_ ?_ ?_ ?_ ?_
   all_goals first | rfl | assumption
theorem aoM {v:Int} {a b:Rp} (hv:a.vars=v) (v8:0≤v) (hA:∀ p ∈ a.terms,VT v p) (hB:∀ q ∈ b.terms,VT v q) (hd:∀ p ∈ a.terms,∀ q ∈ b.terms,bi p.exps+bi q.exps≤32) (hn:b.terms.length≤500) (hm:a.terms.length≤500)
  (s:af) (h:aa) (X:Option (Ex × St)) (hX:aI 0 [2,4,6] (aU (az R (ab false) anW) [2,3,4,6,7] [2,3,4] s h)=X) (g2:s 2=.ref 2 none 0 0 0) (g3:s 3=.ref 3 none 0 0 0) (g4:s 4=.ref 4 none 0 0 0) (g6:s 6=.emp) (g7:s 7=I 0) (k2:h 2=.bx [I a.vars,.sl 4 (ax a.terms)]) (k3:h 3=.bx [I b.vars,.sl 4 (ax b.terms)]) (k4:h 4=.bx [I 0,.emp]) :
  aol X (fun x=>upd (upd (upd (fun _=>.any) 6 x) 4 (.ref 4 none 0 0 0)) 2 (.ref 2 none 0 0 0)) a b ((fS a.terms b.terms).bind (gS [])):=by
 subst hX
 rw [← aon]
 exact aot hv v8 hA hB hd (by omega) (by omega) a.terms.length 0 (Nat.zero_add _) .emp [] (.inr ⟨rfl,rfl⟩) (Cl.nil _) (by
  have:a.terms.length*b.terms.length≤500*500:=Nat.mul_le_mul hm hn
  show 0+_≤_
  omega) s h g2 g3 g4 g6 g7 k2 k3 k4
theorem aoG {a b:Rp} (oa:OkP a) (ob:OkP b):R F.r23_Mul [aZ a,aZ b] []=some (pV (bX a b),[]):=by
 refine aX aow aov (aog false) rfl ?_
 have v1:=afM oa
 have v2:=afM ob
 have hda:=anF oa
 have hdb:=anF ob
 have bda:=Jb oa
 have bdb:=Jb ob
 simp only [aZ] at v1 v2 hda hdb
 have hne:mY a b=false→bX a b=(p0,1):=fun h=>by
  unfold bX
  rw [h]
  simp
 cases va:vp a with
 | false =>
  rw [va] at v1
  rw [hne (by unfold mY; rw [va]; rfl)]
  simp only [anP,anS,aZ,go_sem,↓reduceIte,ad7,ad9,ad8,aea,v1]
  rfl
 | true =>
  rw [va] at v1
  cases vb:vp b with
  | false =>
   rw [vb] at v2
   rw [hne (by unfold mY; rw [va,vb]; rfl)]
   simp only [anP,anS,aZ,go_sem,↓reduceIte,ad7,ad9,ad8,aea,v1,v2]
   rfl
  | true =>
   rw [vb] at v2
   by_cases hv:a.vars=b.vars
   ·have e0:(a.vars=b.vars)=True:=eq_true hv
    have hb:=fq.2 ⟨va,vb,hv⟩
    obtain ⟨ka,a0,a8,al⟩:=dH oa va
    obtain ⟨kb,b0,b8,bl⟩:=dH ob vb
    rw [← hv] at kb
    unfold bX
    rw [if_pos hb]
    have w1:IntKind.i64.wrap (iJ a+iJ b)=iJ a+iJ b:=i64_in _ ⟨by omega,by omega⟩
    by_cases hd:a.terms.length ≠ 0∧b.terms.length ≠ 0∧32 < iJ a+iJ b
    ·rw [if_pos hd]
     have e1:(0 < (a.terms.length:Int))=True:=tt (by omega)
     have e2:(0 < (b.terms.length:Int))=True:=tt (by omega)
     have e3:(32 < iJ a+iJ b)=True:=eq_true hd.2.2
     simp only [anP,anS,aZ,go_sem,↓reduceIte,ad7,ad9,ad8,aea,aec,aeb,v1,v2,e0,hda,hdb,w1,e1,e2,e3]
     rfl
    ·rw [if_neg hd]
     have hf:=zW oa ob va vb hd
     have hl:=aoM (a:=a) (b:=b) rfl a0 ka.t kb.t hf bl al
     have fin:∀ X:Option (Ex × St),aol X (fun x=>upd (upd (upd (fun _=>.any) 6 x) 4 (.ref 4 none 0 0 0)) 2 (.ref 2 none 0 0 0)) a b ((fS a.terms b.terms).bind (gS [])) →
       rg false [[.o 0 [],.o 5 [.o 2 [],.o 0 [],.o 2 [],.o 0 []]],[]] [.cell 4 2 true,.t 5] 0 (dD X (az R (ab false) (.seq (.ops [4,5] [fa 124 0 2,ld 125 1 124,cm 126 6,ca 127 F.r23_finish [.t 125,.t 126],co 128 (.ext 0 (.t 127)),co 129 (.ext 1 (.t 127)),sr 2 (.t 4) (.t 128),cm 5 129]) .ret)))=some (pV (kf a.vars ((fS a.terms b.terms).bind (gS []))),[]):=by
      intro X hM
      cases hr:(fS a.terms b.terms).bind (gS []) with
      | none =>
       rw [hr] at hM
       obtain ⟨hh,rfl,q4⟩:=hM
       simp only [kf,pV,p0,aZ,go_sem,↓reduceIte,ad7,ad9,ad8,aea,q4]
       rfl
      | some l =>
       rw [hr] at hM
       obtain ⟨hh,x,rfl,hx,q2,q3,q4,qd⟩:=hM
       have d1:hh 3016=.dead:=qd _ (by decide) (by decide) (by decide)
       have d2:hh 3017=.dead:=qd _ (by decide) (by decide) (by decide)
       have hf:=aoy (v:=a.vars) (l:=l)
       generalize kf a.vars (some l)=z at hf ⊢
       obtain ⟨z1,z2⟩:=z
       simp only [pV,aZ] at hf
       rcases hx with rfl | ⟨rfl,rfl⟩
       ·simp only [pV,aZ,go_sem,↓reduceIte,ad7,ad9,ad8,aea,q2,q4,d1,d2,hf]
       ·rw [show ax []=[] from rfl] at hf
        simp only [pV,aZ,go_sem,↓reduceIte,ad7,ad9,ad8,aea,q2,q4,d1,d2,hf]
     by_cases h1:a.terms.length=0
     ·have e1:(0 < (a.terms.length:Int))=False:=ff (by omega)
      simp only [anP,anS,aZ,go_sem,↓reduceIte,ad7,ad9,ad8,aea,aec,v1,v2,e0,e1]
      generalize hX:aI 0 _ _=X
      exact fin X (hl _ _ _ hX rfl rfl rfl rfl rfl rfl rfl rfl)
     ·have e1:(0 < (a.terms.length:Int))=True:=tt (by omega)
      by_cases h2:b.terms.length=0
      ·have e2:(0 < (b.terms.length:Int))=False:=ff (by omega)
       simp only [anP,anS,aZ,go_sem,↓reduceIte,ad7,ad9,ad8,aea,aec,v1,v2,e0,e1,e2]
       generalize hX:aI 0 _ _=X
       exact fin X (hl _ _ _ hX rfl rfl rfl rfl rfl rfl rfl rfl)
      ·have e2:(0 < (b.terms.length:Int))=True:=tt (by omega)
       have e3:(32 < iJ a+iJ b)=False:=eq_false fun h=>hd ⟨h1,h2,h⟩
       simp only [anP,anS,aZ,go_sem,↓reduceIte,ad7,ad9,ad8,aea,aec,aeb,v1,v2,e0,hda,hdb,w1,e1,e2,e3]
       generalize hX:aI 0 _ _=X
       exact fin X (hl _ _ _ hX rfl rfl rfl rfl rfl rfl rfl rfl)
   ·have e1:(a.vars=b.vars)=False:=eq_false hv
    rw [hne (by unfold mY; rw [va,vb,decide_eq_false hv]; rfl)]
    simp only [anP,anS,aZ,go_sem,↓reduceIte,ad7,ad9,ad8,aea,v1,v2,e1]
    rfl
theorem aoH {a b:Rp} (oa:OkP a) (ob:OkP b):Res (bX a b):=by
 unfold bX
 split
 ·rename_i hp
  obtain ⟨va,vb,hv⟩:=fq.1 hp
  obtain ⟨ca,_⟩:=dH oa va
  obtain ⟨cb,_⟩:=dH ob vb
  rw [← hv] at cb
  split
  ·exact afo _
  ·rename_i hd
   refine aoD fun l hl=>?_
   rw [Option.bind_eq_some_iff] at hl
   obtain ⟨r,h1,h2⟩:=hl
   exact (nN (Cl.nil _) (xt ca.t cb.t (zW oa ob va vb hd) h1).1 h2).1
 ·exact afo _
theorem aoN {a b:Rp} (haw:R F.l23_awake [] []=some (B true,[])) (oa:∀ t ∈ a.terms,Ok0 t.c) (la:a.terms.length < 4611686018427387904) (ob:∀ t ∈ b.terms,Ok0 t.c) (lb:b.terms.length < 4611686018427387904) :
  R F.l23_PolyProducts [aZ a,aZ b] []=some (B true,[]):=by
 refine aX an7 an6 (an3 false) rfl ?_
 have hg:=On (l:=[a,b]) (by simp) (fun x hx=>by simp at hx; rcases hx with rfl | rfl; exact la; exact lb)
 simp only [xu,Ja,List.map_cons,List.map_nil] at hg
 cases h:[a,b].any mL with
 | true =>
  rw [h] at hg
  simp only [anO,anU,aZ,go_sem,↓reduceIte,ad7,ad9,ad8,aea,aec,haw,hg]
  done
 | false =>
  rw [h] at hg
  simp only [List.any_cons,List.any_nil,Bool.or_false,Bool.or_eq_false_iff] at h
  have ka:=zY oa h.1
  have kb:=zY ob h.2
  have h1:=QA ka kb
  have h2:=aoG ka kb
  have i1:=aiQ (aoH ka kb)
  generalize bX a b=r at h1 h2 i1
  obtain ⟨r1,r2⟩:=r
  simp only [pV,aZ] at h1 h2 i1
  simp only [anO,anU,aZ,go_sem,↓reduceIte,ad7,ad9,ad8,aea,aec,haw,hg,h1,h2,i1]
  done
end Go.Ab
namespace Go.Ab
open Go Go.IntWalk
set_option maxRecDepth 4000
set_option maxHeartbeats 1000000
def sO:Env:=⟨fun f=>EK.lookup f,au.C,au.md⟩
noncomputable def R0:cT:=cR sO
theorem tU {f:FuncId} {fd:FD} {args:List AV} {hs:List Ob} {r:AV × List Ob} (hE:sO.E f=none) (hC:sO.C f=some fd) (hk:sO.md.keep f=false) (h1:args.length=fd.np) (h2:hs.length≤1000)
  (hz:rg false fd.rs fd.res hs.length (az R0 (ab false) fd.body (o6 args) (ae hs))=some r):R0 f args hs=some r:=by
 refine wM hE hC ?_
 unfold FQ
 rw [if_pos ⟨h1,h2⟩,hk]
 exact hz
theorem oM (o:Ob):ae [o]=upd (fun _=>.dead) 1000 o:=by
 funext i
 unfold ae upd
 by_cases h:i=1000
 ·subst h
  rfl
 ·rw [if_neg h]
  split
  ·rw [List.getElem?_eq_none (by simp; omega)]
   rfl
  ·rfl
theorem Ov {r:List AV} {rs:List (List AV)} (h:(rs.length+1)*8≤140737488355328):R0 F.slices_Clone_int_int_ [.sl 1 (r::rs)] []=some (.osl 1 (r::rs),[]):=by
 refine tU (fd:=dX) (by kernel_rfl) (by kernel_rfl) (by kernel_rfl) rfl (by decide) ?_
 have e1:((rs.length+1)*8≤140737488355328)=True:=eq_true h
 have e2:xz false (.sl 1 (r::rs))=some (B false):=rfl
 simp only [dX,l9,go_sem,↓reduceIte,ad7,aea,aec,e1,e2,List.length_cons,List.length_nil,Nat.zero_add,Nat.le_refl,true_and,true_or,List.nil_append]
theorem Ow:dJ 4 .emp (some (I 0)) none none=some .emp:=rfl
theorem QD {r:List AV}:R0 F.slices_Insert_api_Term_api_Term_ [.emp,I 0,.sl 4 [r]] []=some (.osl 4 [r],[]):=by
 refine tU (fd:=aH) (by kernel_rfl) (by kernel_rfl) (by kernel_rfl) rfl (by decide) ?_
 have e1:((1:Int)=0)=False:=by decide
 simp only [aH,bD,go_sem,↓reduceIte,ad7,ad9,aea,aec,Ow,List.length_cons,List.length_nil,Int.natCast_one,e1,Nat.zero_add]
theorem pH {n i:Nat} (h:i≤n):gY n (some (I i)) none none=some (i,n):=by
 simp only [gY,gC,Option.bind_some]
 rw [if_pos ⟨by omega,by omega⟩]
 rfl
theorem Mj {id k l0 n i:Nat} (h:i≤n):dJ k (.rsl id none k l0 n) (some (I i)) none none=some (.rsl id none k (l0+i) (n - i)):=by
 simp only [dJ,if_true,pH h,Option.map_some,Option.isNone_none]
theorem CE {h:aa} {j k n:Nat} {rows:List (List AV)} (hj:aG j=false) (hh:h j=.ar k rows) (hn:n=rows.length) (hc:aA [1000] (h 1000)=true):nX [[]] 1 h [.rsl j none k 0 n]=some (.osl k rows,[h 1000]):=by
 subst hn
 have hp:bS 1=[1000]:=rfl
 unfold nX
 rw [if_pos]
 ·simp [lM,lh,fV,hj,hh,qm,kM,aM,nrmV,nrmL,hp]
 ·simp [hp,hc,fk,bk,cP,hj]
theorem Mk {r:List AV} {rows:List (List AV)} {n:Nat} (hn:n=rows.length) (hb:(n+1)*64≤140737488355328):R0 F.slices_Insert_api_Term_api_Term_ [.rsl 1000 none 4 0 n,I n,.sl 4 [r]] [.ar 4 rows]=some (.osl 4 (rows++[r]),[.dead]):=by
 refine tU (fd:=aH) (by kernel_rfl) (by kernel_rfl) (by kernel_rfl) rfl (by simp) ?_
 subst hn
 rw [oM]
 have e1:((1:Int)=0)=False:=by decide
 have e2:=Mj (id:=1000) (k:=4) (l0:=0) (Nat.le_refl rows.length)
 have e3:((rows.length+1)*64≤140737488355328)=True:=eq_true hb
 have e4:(rows.length+1≤rows.length)=False:=eq_false (by omega)
 have e5:∀ h,yH h 25 4 64 1000 4 0 rows.length [r] 4 rows=bO (upd h 1000 .dead) 25 4 (rows++[r]) (rows.length+1) [(1000,false)]:=fun h=>by
  simp only [yH,List.length_singleton]
  rw [if_neg (by omega),if_pos ⟨trivial,trivial,trivial,trivial,hb⟩]
 simp only [aH,bD,go_sem,↓reduceIte,ad7,aea,aec,List.length_cons,List.length_nil,Int.natCast_one,e1,e2,e5,Nat.zero_add,Nat.sub_self,or_self]
 exact CE rfl rfl (by simp) rfl
theorem Sp {f:FuncId} {g:List AV→List Ob→Option (AV × List Ob)} {args:List AV} {hs:List Ob} (hE:sO.E f=some g):R0 f args hs=g args hs:=uG hE
theorem QE {h:aa} {d:Nat} {r:List AV} {rows:List (List AV)} {lo m:Nat} (hh:h 1000=.ar 4 rows) (hd:h (2000+8*d)=.dead) :
  ai R0 (ab false) h d [.sl 4 [r],.rsl 1000 none 4 lo m] (.fn F.slices_overlaps_api_Term_ [] [])=some (B false,upd h 1000 (.ar 4 rows),[(1000,true)]):=by
 have hm:(ab false).m F.slices_overlaps_api_Term_=[0,1]:=by kernel_rfl
 have hs:(ab false).sh F.slices_overlaps_api_Term_=[]:=by kernel_rfl
 have hk:(ab false).keep F.slices_overlaps_api_Term_=false:=by kernel_rfl
 have hf:R0 F.slices_overlaps_api_Term_ [.sl 4 [r],.rsl 1000 none 4 lo m] [.ar 4 rows]=some (B false,[.ar 4 rows]):=by
  rw [Sp (g:=IB 4) (by kernel_rfl)]
  simp [IB]
 have hb:jD (ab false) [.sl 4 [r],.rsl 1000 none 4 lo m] (.fn F.slices_overlaps_api_Term_ [] [])=false:=by
  simp [jD,hm]
 have hr:bJ h 40 [1000] 0=[1000]:=by
  simp [bJ,hh,ue,bo]
 have hn:cf (B false)=1:=rfl
 unfold ai
 rw [if_neg (by rw [hb]; exact Bool.false_ne_true)]
 have h1:ah h [0,1] [.sl 4 [r],.rsl 1000 none 4 lo m]=some ([.sl 4 [r],.rsl 1000 none 4 lo m],h,[]):=by
  simp [ah,bM,mB,du,ak]
 have h2:bo [] ([AV.sl 4 [r],.rsl 1000 none 4 lo m].flatMap bk)=[1000]:=by
  simp [bk,cP,bo]
 have h3:aV [1000] 1000=1000:=rfl
 simp only [dq,hm,List.nil_append,List.append_nil,h1,Option.bind_some,h2,hr,hs]
 simp [jC,aM,aJ,aO,hh,aA,cD,cQ,fT,h3,cC,hf,dZ,hn,cx,hd,cU,bf,mM,ui,kK,eu,cZ,qZ,cz,mat,bU,dC,hk,ug,hm]
theorem Dn {id k l0 n i:Nat}:dJ k (.rsl id none k l0 n) (some (I i)) none none=(gY n (some (I i)) none none).map fun p=>.rsl id none k (l0+p.1) (p.2 - p.1):=by
 simp only [dJ,if_true,Option.isNone_none]
theorem Ml {n c i:Nat} (h:i≤c):gC n c (some (I i))=some i:=by
 simp only [gC]
 rw [if_pos ⟨by omega,by omega⟩]
 rfl
theorem QF {r:List AV} {rows:List (List AV)} {n i:Nat} (hn:n=rows.length) (hi:i < n) (hb:(n+1)*64≤140737488355328) :
  R0 F.slices_Insert_api_Term_api_Term_ [.rsc 1000 4 0 n n,I i,.sl 4 [r]] [.ar 4 rows]=some (.osl 4 (rows.take i++r::rows.drop i),[.ar 4 rows]):=by
 refine tU (fd:=aH) (by kernel_rfl) (by kernel_rfl) (by kernel_rfl) rfl (by simp) ?_
 rw [oM]
 have e1:((1:Int)=0)=False:=by decide
 have e2:((i:Int)=(n:Int))=False:=eq_false (by omega)
 have e3:IntKind.i64.wrap ((n:Int)+1)=((n+1:Nat):Int):=wi (by omega) (by omega)
 have e4:((n:Int) < ((n+1:Nat):Int))=True:=eq_true (by omega)
 have e5:IntKind.i64.wrap (((n+1:Nat):Int) - (i:Int))=((n+1 - i:Nat):Int):=wi (by omega) (by omega)
 have e6:IntKind.i64.wrap ((i:Int)+1)=((i+1:Nat):Int):=wi (by omega) (by omega)
 have b1:=pH (n:=n) (i:=i) (by omega)
 have b2:=Ml (n:=n) (c:=n) (i:=i) (by omega)
 have b3:=pH (n:=n+1) (i:=i) (by omega)
 have b4:=pH (n:=n+1) (i:=i+1) (by omega)
 have f1:((0:Int) < ((n+1 - i:Nat):Int))=True:=eq_true (by omega)
 have f2:(n < i+((n+1 - i:Nat):Int).toNat)=True:=eq_true (by omega)
 have f3:i+((n+1 - i:Nat):Int).toNat=n+1:=by omega
 have f4:(i≤rows.length)=True:=eq_true (by omega)
 have f5:((n+1)*64≤140737488355328)=True:=eq_true hb
 have f6:(n < n+1)=True:=eq_true (by omega)
 obtain ⟨A,hA⟩:∃ A,rows.take i++List.replicate ((n+1 - i:Nat):Int).toNat [AV.emp,B false,AV.emp,I 0]=A:=⟨_,rfl⟩
 have a1:A.length=n+1:=by rw [← hA,List.length_append,List.length_take,List.length_replicate]; omega
 have a2:A.take i=rows.take i:=by
  rw [← hA,List.take_append_of_le_length (by rw [List.length_take]; omega),List.take_of_length_le (by rw [List.length_take]; omega)]
 have a3:(i≤A.length)=True:=eq_true (by omega)
 obtain ⟨D,hD⟩:∃ D,A.take i++[r]++A.drop (i+1)=D:=⟨_,rfl⟩
 have d1:D.length=n+1:=by
  rw [← hD,List.length_append,List.length_append,List.length_take,List.length_drop,List.length_singleton]
  omega
 have d2:D.take (i+1)=rows.take i++[r]:=by
  rw [← hD,a2,List.take_append_of_le_length (by rw [List.length_append,List.length_take,List.length_singleton]; omega),List.take_of_length_le (by rw [List.length_append,List.length_take,List.length_singleton]; omega)]
 have d3:(i+1≤D.length)=True:=eq_true (by omega)
 have t1:List.take (n+1 - i) [r]=[r]:=List.take_of_length_le (by rw [List.length_singleton]; omega)
 have t2:(rows.drop i).take (n - i)=rows.drop i:=List.take_of_length_le (by rw [List.length_drop]; omega)
 have t3:(1=min 1 (n+1 - i))=True:=eq_true (by omega)
 have t4:n+1 - (i+1)=n - i:=by omega
 have t5:(i+(n - i)≤rows.length)=True:=eq_true (by omega)
 have t6:(rows.drop i).length=n - i:=by rw [List.length_drop]; omega
 have t7:D.drop (i+1+(n - i))=[]:=List.drop_eq_nil_of_le (by omega)
 simp only [aH,bD,go_sem,↓reduceIte,ad7,List.length_cons,List.length_nil,Int.natCast_one,e1,e2,e3,e4,e5,e6,b1,b2,b3,b4,f1,f3,f4,f5,f6,hA,hD,a3,d3,t1,t2,t3,t4,t5,t6,t7,Nat.min_self,Nat.zero_add,Dn,and_self]
 rw [d2]
 have hfin:rows.take i++[r]++rows.drop i=rows.take i++r::rows.drop i:=by rw [List.append_assoc]; rfl
 rw [hfin]
 exact CE rfl rfl (by rw [List.length_append,List.length_take,List.length_cons,List.length_drop]; omega) rfl
theorem QG {r:List AV} {rows:List (List AV)} {n i c:Nat} (hn:n=rows.length) (hi:i < n) (hc:n+1≤c) (hb:(n+1)*64≤140737488355328) :
  R0 F.slices_Insert_api_Term_api_Term_ [.rsc 1000 4 0 n c,I i,.sl 4 [r]] [.ar 4 rows]=some (.osl 4 (rows.take i++r::rows.drop i),[.dead]):=by
 refine tU (fd:=aH) (by kernel_rfl) (by kernel_rfl) (by kernel_rfl) rfl (by simp) ?_
 rw [oM]
 have e1:((1:Int)=0)=False:=by decide
 have e2:((i:Int)=(n:Int))=False:=eq_false (by omega)
 have e3:IntKind.i64.wrap ((n:Int)+1)=((n+1:Nat):Int):=wi (by omega) (by omega)
 have e4:((c:Int) < ((n+1:Nat):Int))=False:=eq_false (by omega)
 have e6:IntKind.i64.wrap ((i:Int)+1)=((i+1:Nat):Int):=wi (by omega) (by omega)
 have b1:=pH (n:=n) (i:=i) (by omega)
 have b2:=Ml (n:=n) (c:=c) (i:=n+1) hc
 have b3:=pH (n:=n+1) (i:=i) (by omega)
 have b4:=pH (n:=n+1) (i:=i+1) (by omega)
 have o1:=fun (h:aa) (h0:h 1000=.ar 4 rows) (h1:h (2000+8*67)=.dead)=>QE (r:=r) (lo:=i+1) (m:=n - i) h0 h1
 have t1:List.take (n+1 - i) [r]=[r]:=List.take_of_length_le (by rw [List.length_singleton]; omega)
 have t2:(rows.drop i).take (n - i)=rows.drop i:=List.take_of_length_le (by rw [List.length_drop]; omega)
 have t3:(1=min 1 (n+1 - i))=True:=eq_true (by omega)
 have t4:n+1 - (i+1)=n - i:=by omega
 have t5:(i+(n - i)≤rows.length)=True:=eq_true (by omega)
 have t6:(rows.drop i).length=n - i:=by rw [List.length_drop]; omega
 have t8:min (n - i) (n+1 - i)=n - i:=by omega
 have t9:(n - i=min (n+1 - i) (n - i))=True:=eq_true (by omega)
 have f4:(i+1≤rows.length)=True:=eq_true (by omega)
 have t7:rows.drop (i+1+(n - i))=[]:=List.drop_eq_nil_of_le (by omega)
 obtain ⟨A,hA⟩:∃ A,rows.take (i+1)++rows.drop i=A:=⟨_,rfl⟩
 have a1:A.length=n+1:=by
  rw [← hA,List.length_append,List.length_take,List.length_drop]
  omega
 have a2:A.take i=rows.take i:=by
  rw [← hA,List.take_append_of_le_length (by rw [List.length_take]; omega),List.take_take,Nat.min_eq_left (by omega)]
 have a4:A.drop (i+1)=rows.drop i:=by
  rw [← hA,List.drop_append_of_le_length (by rw [List.length_take]; omega),List.drop_eq_nil_of_le (by rw [List.length_take]; omega),List.nil_append]
 have a3:(i≤A.length)=True:=eq_true (by omega)
 simp only [aH,bD,go_sem,↓reduceIte,ad7,List.length_cons,List.length_nil,Int.natCast_one,e1,e2,e3,e4,e6,b1,b2,b4,t4,Nat.zero_add]
 rw [o1 _ rfl rfl]
 simp only [go_sem,↓reduceIte,ad7,aea,aec,aeb,List.length_cons,List.length_nil,Int.natCast_one,e6,b3,b4,t1,t2,t3,t4,t5,t6,t7,t8,t9,f4,a3,hA,Nat.zero_add,Nat.sub_self,Nat.le_refl,and_self]
 rw [a2,a4,show rows.take i++[r]++rows.drop i=rows.take i++r::rows.drop i by rw [List.append_assoc]; rfl]
 exact CE rfl rfl (by rw [List.length_append,List.length_take,List.length_cons,List.length_drop]; omega) rfl
def vM (c1 c2:cT):Prop:=∀ f a hs r,c1 f a hs=some r→c2 f a hs=some r
section
variable {c1 c2:cT} {md:Mode}
theorem Ig (hc:vM c1 c2) {h:aa} {d:Nat} {zas:List AV} {f:AV} {r:R3} (hz:dq c1 md h d zas f=some r):dq c2 md h d zas f=some r:=by
 cases f <;> simp only [dq] at hz ⊢ <;> try (cases hz; done)
 simp only [Option.bind_eq_some_iff] at hz ⊢
 obtain ⟨p,e1,e2⟩:=hz
 unfold jC at e2 ⊢
 split at e2
 ·rename_i hcc
  simp only [Option.bind_eq_some_iff] at e2
  obtain ⟨q,e3,e4⟩:=e2
  refine ⟨p,e1,?_⟩
  rw [if_pos hcc]
  simp only [Option.bind_eq_some_iff]
  exact ⟨q,hc _ _ _ _ e3,e4⟩
 ·cases e2
theorem Bx (hc:vM c1 c2) {h:aa} {d:Nat} {zas:List AV} {f:AV} {r:R3} (hz:ai c1 md h d zas f=some r):ai c2 md h d zas f=some r:=by
 unfold ai at hz ⊢
 split at hz
 ·rename_i hb
  rw [if_pos hb]
  cases f <;> simp only [Ak] at hz ⊢ <;> try (cases hz; done)
  simp only [Option.bind_eq_some_iff] at hz ⊢
  obtain ⟨p,e1,q,e3,e4⟩:=hz
  exact ⟨p,e1,q,hc _ _ _ _ e3,e4⟩
 ·rename_i hb
  rw [if_neg hb]
  exact Ig hc hz
theorem Do (hc:vM c1 c2) {d:Nat} {op:AOp} {s:af} {h:aa} {r:R3} (hz:step c1 md d op s h=some r):step c2 md d op s h=some r:=by
 cases op with
 | call f zas=>exact Bx hc hz
 | callC f zas =>
  simp only [step,Option.bind_eq_some_iff] at hz ⊢
  obtain ⟨q,e1,e2⟩:=hz
  exact ⟨q,Bx hc e1,e2⟩
 | _=>exact hz
theorem Dp (hc:vM c1 c2) {d:Option Nat} {op:AOp} {s:af} {h:aa} {t:St} (hz:bK md.nm s d (step c1 md (d.getD 0) op s h)=some t):bK md.nm s d (step c2 md (d.getD 0) op s h)=some t:=by
 cases hs:step c1 md (d.getD 0) op s h with
 | none=>rw [hs] at hz; cases hz
 | some r =>
  rw [hs] at hz
  rw [Do hc hs]
  exact hz
theorem Kz (hc:vM c1 c2) {o:COp} {s:af} {h:aa} {t:St} (hz:fU c1 md o s h=some t):fU c2 md o s h=some t:=by
 unfold fU at hz ⊢
 cases hg:o.g with
 | none=>rw [hg] at hz; exact Dp hc hz
 | some g =>
  rw [hg] at hz
  simp only at hz ⊢
  unfold ft at hz ⊢
  split at hz
  ·split at hz
   ·rename_i hb
    simp only [if_pos hb]
    exact Dp hc hz
   ·rename_i hb
    simp only [if_neg hb]
    exact hz
  ·exact hz
  ·cases hz
theorem rL (hc:vM c1 c2):∀ {l:List COp} {s:af} {h:aa} {t:St},am c1 md l s h=some t→am c2 md l s h=some t
 | [],s,h,t,hz=>hz
 | o::l,s,h,t,hz=>by
  simp only [am,aK] at hz
  split at hz
  ·cases hz
  ·rename_i t1 ht1
   simp only [am,aK,Kz hc ht1,rL hc hz]
theorem By (hc:vM c1 c2) {d:Option Nat} {op:AOp} {s:af} {h:aa} {f:aa→Fp} {t:St × Fp} (hz:fe s d f (step c1 md (d.getD 0) op s h)=some t):fe s d f (step c2 md (d.getD 0) op s h)=some t:=by
 cases hs:step c1 md (d.getD 0) op s h with
 | none=>rw [hs] at hz; cases hz
 | some r =>
  rw [hs] at hz
  rw [Do hc hs]
  exact hz
theorem KA (hc:vM c1 c2) {o:COp} {s:af} {h:aa} {t:St × Fp} (hz:cj c1 md o s h=some t):cj c2 md o s h=some t:=by
 unfold cj at hz ⊢
 cases hg:o.g with
 | none=>rw [hg] at hz; exact By hc hz
 | some g =>
  rw [hg] at hz
  simp only at hz ⊢
  unfold jF at hz ⊢
  split at hz
  ·split at hz
   ·rename_i hb
    simp only [if_pos hb]
    exact By hc hz
   ·rename_i hb
    simp only [if_neg hb]
    exact hz
  ·exact hz
  ·cases hz
theorem xv (hc:vM c1 c2):∀ {l:List COp} {s:af} {h:aa} {t:St × List Fp},dA c1 md l s h=some t→dA c2 md l s h=some t
 | [],s,h,t,hz=>hz
 | o::l,s,h,t,hz=>by
  simp only [dA,Option.bind_eq_some_iff] at hz
  obtain ⟨r,e1,q,e2,e3⟩:=hz
  simp only [dA,KA hc e1,xv hc e2,Option.bind_some,e3]
theorem KB (hc:vM c1 c2) {l:List COp} {ps:List (Nat × Nat)} {s:af} {h:aa} {t:St} (hz:jG c1 md l ps s h=some t):jG c2 md l ps s h=some t:=by
 unfold jG at hz ⊢
 cases hb:pM ps with
 | none =>
  rw [hb] at hz
  simp only [pR,Option.bind_eq_some_iff] at hz
  obtain ⟨q,e1,e2⟩:=hz
  simp only [pR,xv hc e1,Option.bind_some,e2]
 | some b =>
  rw [hb] at hz
  simp only [uj,Option.bind_eq_some_iff] at hz
  obtain ⟨q,e1,e2⟩:=hz
  split at e2
  ·rename_i hps
   simp only [aK] at e2
   split at e2
   ·cases e2
   ·rename_i t1 ht1
    simp only [uj,xv hc e1,Option.bind_some,if_pos hps,ht1,aK,rL hc e2]
  ·cases e2
theorem xw {b1 b2:af→aa→Option (Ex × St)} {ks hs:List Nat} (ih:∀ {s:af} {h:aa} {r:Ex × St},b1 s h=some r→b2 s h=some r) :
  ∀ (m:Nat) {j:Nat},m≤j→∀ {s:af} {h:aa} {r:Ex × St},ky b1 ks hs m s h=some r→ky b2 ks hs j s h=some r
 | 0,j,hj,s,h,r,hz=>by simp [ky] at hz
 | m+1,j,hj,s,h,r,hz=>by
  obtain ⟨j,rfl⟩:∃ j',j=j'+1:=⟨j - 1,by omega⟩
  simp only [ky] at hz ⊢
  split at hz
  ·rename_i hc
   rw [if_pos hc]
   cases hb:b1 (mk .any (fun i=>ew hs (s i)) ks) (mk .dead h hs) with
   | none=>rw [hb] at hz; cases hz
   | some q =>
    rw [hb] at hz
    rw [ih hb]
    obtain ⟨ex,t⟩:=q
    cases ex with
    | normal=>exact xw ih m (by omega) hz
    | exit id=>exact hz
    | ret=>exact hz
  ·cases hz
theorem en (hc:vM c1 c2) {lf lf':Nat} (hl:lf≤lf'):∀ (c:Cmd) {s:af} {h:aa} {r:Ex × St},bc c1 md lf c s h=some r→bc c2 md lf' c s h=some r
 | .skip,s,h,r,hz=>hz
 | .ops ks l,s,h,r,hz=>by
  simp only [bc,aK] at hz
  split at hz
  ·cases hz
  ·rename_i t1 ht1
   simp only [bc,rL hc ht1,aK]
   exact hz
 | .dops ks l ps,s,h,r,hz=>by
  simp only [bc,aK] at hz
  split at hz
  ·cases hz
  ·rename_i t1 ht1
   simp only [bc,KB hc ht1,aK]
   exact hz
 | .seq a b,s,h,r,hz=>by
  simp only [bc,dD] at hz
  split at hz
  ·cases hz
  ·rename_i t1 ht1
   simp only [bc,dD,en hc hl a ht1,en hc hl b hz]
  ·rename_i i t1 ht1
   simp only [bc,dD,en hc hl a ht1]
   exact hz
  ·rename_i t1 ht1
   simp only [bc,dD,en hc hl a ht1]
   exact hz
 | .cond c a b,s,h,r,hz=>by
  simp only [bc,jH] at hz
  split at hz
  ·rename_i t ht
   cases t with
   | true=>simp only [bc,jH,ht,if_true]; exact en hc hl a hz
   | false=>simp only [bc,jH,ht,Bool.false_eq_true,if_false]; exact en hc hl b hz
  ·cases hz
 | .block id ks a,s,h,r,hz=>by
  simp only [bc,aI] at hz
  split at hz
  ·cases hz
  ·rename_i t1 ht1
   simp only [bc,aI,en hc hl a ht1]
   exact hz
  ·rename_i i t1 ht1
   simp only [bc,aI,en hc hl a ht1]
   exact hz
  ·rename_i t1 ht1
   simp only [bc,aI,en hc hl a ht1]
   exact hz
 | .loop ks hs a,s,h,r,hz=>by
  simp only [bc] at hz ⊢
  exact xw (fun hh=>en hc hl a hh) lf hl hz
 | .exit id,s,h,r,hz=>hz
 | .ret,s,h,r,hz=>hz
 | .frz is a,s,h,r,hz=>by
  simp only [bc,aK] at hz
  split at hz
  ·cases hz
  ·rename_i t1 ht1
   simp only [bc,aK,ht1]
   exact en hc hl a hz
end
abbrev zZ:=List (Nat × List AV × AV)
def Hy:zZ→FuncId→List AV→Option AV
 | [],_,_=>none
 | x::l,f,args=>if x.1=f then (if wh x.2.1 args=true then some x.2.2 else Hy l f args) else Hy l f args
def Je (a:Option AV) (hs:List Ob) (b:Option (AV × List Ob)):Option (AV × List Ob):=match a,hs with
 | some r,[]=>some (r,[])
 | _,_=>b
def CF (e:Env) (T:zZ):Nat→cT
 | 0=>fun _ _ _=>none
 | n+1=>fun f args hs=>Je (Hy T f args) hs (match e.E f with
  | some g=>g args hs
  | none=>(e.C f).bind fun fd=>wm (CF e T n) { e.md with nm:=e.md.keep f } n fd args hs)
theorem CG {e:Env}:∀ {T:zZ} {f:FuncId} {args:List AV} {r:AV},(∀ x ∈ T,cR e x.1 x.2.1 []=some (x.2.2,[]))→Hy T f args=some r→cR e f args []=some (r,[])
 | [],f,args,r,_,h=>by cases h
 | x::l,f,args,r,ht,h=>by
  unfold Hy at h
  split at h
  ·rename_i h1
   split at h
   ·rename_i h2
    cases h
    have:=ht x (by simp)
    rw [h1,n5 h2] at this
    exact this
   ·exact CG (fun y hy=>ht y (by simp [hy])) h
  ·exact CG (fun y hy=>ht y (by simp [hy])) h
theorem ku {call:cT} {md:Mode} {lf:Nat}:∀ (c:Cmd) {s:af} {h:aa} {r:Ex × St},bc call md lf c s h=some r→az call md c s h=some r
 | .skip,s,h,r,hz=>hz
 | .ops ks l,s,h,r,hz=>hz
 | .dops ks l ps,s,h,r,hz=>hz
 | .seq a b,s,h,r,hz=>by
  simp only [bc,dD] at hz
  split at hz
  ·cases hz
  ·rename_i t1 ht1
   simp only [az,dD,ku a ht1,ku b hz]
  ·rename_i i t1 ht1
   simp only [az,dD,ku a ht1]
   exact hz
  ·rename_i t1 ht1
   simp only [az,dD,ku a ht1]
   exact hz
 | .cond c a b,s,h,r,hz=>by
  simp only [bc,jH] at hz
  split at hz
  ·rename_i t ht
   cases t with
   | true=>simp only [az,jH,ht,if_true]; exact ku a hz
   | false=>simp only [az,jH,ht,Bool.false_eq_true,if_false]; exact ku b hz
  ·cases hz
 | .block id ks a,s,h,r,hz=>by
  simp only [bc,aI] at hz
  split at hz
  ·cases hz
  ·rename_i t1 ht1
   simp only [az,aI,ku a ht1]
   exact hz
  ·rename_i i t1 ht1
   simp only [az,aI,ku a ht1]
   exact hz
  ·rename_i t1 ht1
   simp only [az,aI,ku a ht1]
   exact hz
 | .loop ks hs a,s,h,r,hz=>by
  simp only [bc] at hz
  simp only [az,aU]
  rw [iH]
  exact ⟨lf,fun k hk=>xw (fun hh=>ku a hh) lf hk hz⟩
 | .exit id,s,h,r,hz=>hz
 | .ret,s,h,r,hz=>hz
 | .frz is a,s,h,r,hz=>by
  simp only [bc,aK] at hz
  split at hz
  ·cases hz
  ·rename_i t1 ht1
   simp only [az,aK,ht1]
   exact ku a hz
theorem Jf {e:Env} {T:zZ} (ht:∀ x ∈ T,cR e x.1 x.2.1 []=some (x.2.2,[])):∀ n,vM (CF e T n) (cR e)
 | 0=>fun f a hs r hz=>by cases hz
 | n+1=>fun f a hs r hz=>by
  have old:(match e.E f with | some g=>g a hs | none=>(e.C f).bind fun fd=>wm (CF e T n) { e.md with nm:=e.md.keep f } n fd a hs)=some r→cR e f a hs=some r:=by
   intro hz
   split at hz
   ·rename_i g hE
    rw [uG hE]
    exact hz
   ·rename_i hE
    simp only [Option.bind_eq_some_iff] at hz
    obtain ⟨fd,hC,hz⟩:=hz
    refine wM hE hC ?_
    unfold wm at hz
    unfold FQ
    split at hz
    ·rename_i hcc
     rw [if_pos hcc]
     cases hx:bc (CF e T n) { e.md with nm:=e.md.keep f } n fd.body (o6 a) (ae hs) with
     | none=>rw [hx] at hz; cases hz
     | some q =>
      rw [hx] at hz
      rw [ku fd.body (en (Jf ht n) (Nat.le_refl n) fd.body hx)]
      exact hz
    ·cases hz
  unfold CF at hz
  unfold Je at hz
  split at hz
  ·rename_i r' hl
   cases hz
   exact CG ht hl
  ·exact old hz
theorem bL {e:Env}:∀ x ∈ ([]:zZ),cR e x.1 x.2.1 []=some (x.2.2,[]):=fun _ h=>by cases h
theorem cw {e:Env} {x:Nat × List AV × AV} {T:zZ} (h1:cR e x.1 x.2.1 []=some (x.2.2,[])) (h2:∀ x ∈ T,cR e x.1 x.2.1 []=some (x.2.2,[])):∀ y ∈ x::T,cR e y.1 y.2.1 []=some (y.2.2,[]):=fun y hy=>by
 rcases List.mem_cons.1 hy with rfl | hy
 ·exact h1
 ·exact h2 y hy
theorem gU {e:Env} (T:zZ) (n:Nat) (x:Nat × List AV × AV) (ht:∀ x ∈ T,cR e x.1 x.2.1 []=some (x.2.2,[])) (h:CF e T n x.1 x.2.1 []=some (x.2.2,[])):cR e x.1 x.2.1 []=some (x.2.2,[]):=Jf ht n _ _ _ _ h
end Go.Ab
namespace Go.Ab
open Go Go.Proofs Go.Shelf
def Pj:Ren:=⟨fun | 28=>151 | n=>n,fun | 25=>119 | 27=>84 | 53=>173 | n=>n,fun n=>n⟩
theorem Mm:Lays7.n28 Tryz.prog Pj where
 mixed:=by kernel_rfl
 f28:=by kernel_rfl
 t0:=by kernel_rfl
 a0:=Tryz.isAgg0
 z0:=Tryz.sizeOf0
 v0:=Tryz.zeroValue0
 i0:=by kernel_rfl
 t3:=by kernel_rfl
 a3:=Tryz.isAgg3
 z3:=Tryz.sizeOf3
 v3:=Tryz.zeroValue3
 i3:=by kernel_rfl
 t4:=by kernel_rfl
 a4:=Tryz.isAgg4
 z4:=Tryz.sizeOf4
 v4:=Tryz.zeroValue4
 i4:=by kernel_rfl
 t5:=by kernel_rfl
 a5:=Tryz.isAgg5
 z5:=Tryz.sizeOf5
 v5:=Tryz.zeroValue5
 i5:=by kernel_rfl
 t25:=by kernel_rfl
 a25:=Tryz.isAgg119
 z25:=Tryz.sizeOf119
 v25:=Tryz.zeroValue119
 i25:=by kernel_rfl
 t27:=by kernel_rfl
 a27:=Tryz.isAgg84
 z27:=Tryz.sizeOf84
 v27:=Tryz.zeroValue84
 i27:=by kernel_rfl
 t53:=by kernel_rfl
 a53:=Tryz.isAgg173
 z53:=Tryz.sizeOf173
 v53:=Tryz.zeroValue173
 i53:=by kernel_rfl
 g0:=by kernel_rfl
def u9:Inv where
 p w X:=X 0∧TabAt 0 Lib.deBruijn32tab w
 stab:=fun {w w' X} h hs=>⟨h.1,fun j hj=>by rw [il (hs 0 h.1)]; exact h.2 j hj⟩
 more:=fun h hx=>⟨hx 0 h.1,h.2⟩
theorem Jg:∀ (k x:Nat),Lib.ctzFrom k x=C9 k x
 | 0,x=>rfl
 | k+1,x=>by
  unfold Lib.ctzFrom C9
  rw [Jg k (x / 2),Nat.add_comm]
set_option maxRecDepth 100000 in
theorem Pk:fg Tryz.prog u9 false F.bits_TrailingZeros32 OP:=by
 intro args obs obs' res w X ρ vals n hz hn hi hr hs hv
 unfold OP at hz
 split at hz
 ·rename_i x
  by_cases hc:0 < x∧x < 4294967296∧obs=[]
  ·rw [if_pos hc] at hz
   obtain ⟨h0,h1,rfl⟩:=hc
   simp only [Option.some.injEq,Prod.mk.injEq] at hz
   obtain ⟨rfl,rfl⟩:=hz
   have hv0:=hv 0 (.v (.int .u32 x)) (vals.getD 0 undef) rfl (by simp at hs; simp [Array.getD_eq_getD_getElem?,hs])
   have e0:vals=#[.int .u32 x]:=by
    simp only [List.length_cons,List.length_nil] at hs
    have:=hv0.v_inv.1
    apply Array.ext
    ·simpa using hs
    ·intro i h2 h3
     have:i=0:=by simp at h3; exact h3
     subst this
     simpa [Array.getD_eq_getD_getElem?,hs] using this
   subst e0
   obtain ⟨m,rfl⟩:∃ m:Nat,x=m:=⟨x.toNat,by omega⟩
   have key:=Any7.bits_TrailingZeros32 Mm m (by omega) w fun _=>hi.2
   have he:(callFunc F.bits_TrailingZeros32 #[.int .u32 (m:Int)]).run Tryz.prog w=.ok (.enter F.bits_TrailingZeros32 #[.int .u32 (m:Int)]) w:=(enters_of (Mm.f28) (by kernel_rfl) rfl:Proofs.Enters Tryz.prog (Pj.f 28)) _ _
   unfold Enters
   rw [he]
   refine Calls.mono key fun e w' hw=>?_
   obtain ⟨rfl,rfl⟩:=hw
   refine ⟨ρ,hr,.refl _ _ _ _,?_⟩
   refine .dat ?_
   have:Lib.ctz 32 m=C9 32 m:=by
    unfold Lib.ctz
    rw [if_neg (by omega),Jg]
   simp only [this,Int.toNat_natCast,mat,bU]
   exact .v _ rfl
  ·rw [if_neg hc] at hz
   cases hz
 ·cases hz
end Go.Ab
namespace Go.Ab
open Go Go.Proofs Go.ChangeShapes Go.WideShapes Go.Deep Go.RowKit
set_option maxRecDepth 100000
section
variable {H:Type} {enc:TypeId × Value→H} {w:World}
def Bz (w:World) (b:Nat):Prop:=b < w.heap.size∧b ≠ 0
def xx (w:World):Prop:=∀ o v,w.cell? ⟨0,o,none⟩=some v→∃ n,v=.int .u8 n
def sP (u:Value):Prop:=∀ n,u ≠ .int .u8 n
theorem Sq (ht:xx w) {a:Addr} {u:Value} (h:w.cell? a=some u) (hn:sP u):Bz w a.block∧a.spot=none:=by
 have h1:a.spot=none:=by
  unfold World.cell? at h
  split at h
  ·split at h
   ·cases h
   ·rename_i hs
    simpa using hs
  ·cases h
 refine ⟨⟨?_,fun h0=>?_⟩,h1⟩
 ·unfold World.cell? at h
  split at h
  ·rename_i hb
   exact (Array.getElem?_eq_some_iff.1 hb).1
  ·cases h
 ·obtain ⟨b,o,s⟩:=a
  simp only at h0 h1
  subst h0 h1
  obtain ⟨n,hv⟩:=ht o u h
  exact hn n hv
def lH (w:World) (fs:List AV) (cs:List Value):Prop :=
 fs.length=cs.length∧∀ (j:Nat) (c:AV) (u:Value),fs[j]?=some c→cs[j]?=some u→RD w (Bz w) c u∧ak c=true∧u.oneCell'=true
theorem lH.app {fa fb:List AV} {ca cb:List Value} (ha:lH w fa ca) (hb:lH w fb cb):lH w (fa++fb) (ca++cb):=by
 refine ⟨by simp [ha.1,hb.1],fun j c u h1 h2=>?_⟩
 by_cases hj:j < fa.length
 ·rw [List.getElem?_append_left hj] at h1
  rw [List.getElem?_append_left (by rw [← ha.1]; exact hj)] at h2
  exact ha.2 j c u h1 h2
 ·rw [List.getElem?_append_right (by omega)] at h1
  rw [List.getElem?_append_right (by rw [← ha.1]; omega),← ha.1] at h2
  exact hb.2 _ c u h1 h2
theorem lH.one {c:AV} {u:Value} (h:RD w (Bz w) c u) (hd:ak c=true) (h1:u.oneCell'=true):lH w [c] [u]:=by
 refine ⟨rfl,fun j c' u' hc hu=>?_⟩
 cases j with
 | zero=>simp at hc hu; subst hc hu; exact ⟨h,hd,h1⟩
 | succ j=>simp at hc
noncomputable abbrev Tr (w:World) (enc:TypeId × Value→H) (n:Nat) (t:TypeId) (cs:List Value):Option (DataW H × List MemPlace):=DataW.trod enc Tryz.prog w 0 (fun _=>true) true n t cs
def ql (t:TypeId) (d:DataW H):Prop:=∀ m ∈ DataW.weights Tryz.prog t d,m≤reachBytes
theorem Sr {e:TypeId}:∀ {l:List (DataW H)} {d:DataW H} {m:Nat},d ∈ l→m ∈ DataW.weights Tryz.prog e d→m ∈ DataW.weightsAll Tryz.prog e l
 | [],d,m,h,_=>by simp at h
 | a::l,d,m,h,hm=>by
  simp only [DataW.weightsAll,List.mem_append]
  rcases List.mem_cons.1 h with rfl | h
  ·exact .inl hm
  ·exact .inr (Sr h hm)
theorem Jh {α:Type} {p:Nat→α→Prop}:∀ (n:Nat),(∀ i,i < n→∃ r,p i r)→∃ l:List α,l.length=n∧∀ (i:Nat) (r:α),l[i]?=some r→p i r
 | 0,_=>⟨[],rfl,fun i r h=>by simp at h⟩
 | n+1,h=>by
  obtain ⟨l,h1,h2⟩:=Jh n fun i hi=>h i (by omega)
  obtain ⟨r,hr⟩:=h n (by omega)
  refine ⟨l++[r],by simp [h1],fun i r' hi=>?_⟩
  by_cases hin:i < n
  ·rw [List.getElem?_append_left (by omega)] at hi
   exact h2 i r' hi
  ·rw [List.getElem?_append_right (by omega)] at hi
   have:i=n:=by
    have:=(List.getElem?_eq_some_iff.1 hi).1
    simp at this
    omega
   subst this
   simp [h1] at hi
   subst hi
   exact hr
theorem CH {α:Type} {t e:TypeId} {k bs:Nat} (ht:Tryz.prog.underlying t=some (.slice e)) (hk:Tryz.prog.cellsOf e=k) (h0:0 < k) (hbs:Tryz.prog.bytesOf e=bs) (F:α→List AV) (Q:α→Prop) (hT:xx w)
  (hrow:∀ n cs' x,Tr w enc n e cs'=some x→ql e x.1→∃ r,Q r∧lH w (F r) cs'∧∃ u,cs'[0]?=some u∧sP u) {fuel:Nat} {cs:List Value} {x:DataW H × List MemPlace}
  (h:Tr w enc fuel t cs=some x) (hw:ql t x.1):∃ (l:List α) (v:Value),cs=[v]∧(∀ r ∈ l,Q r)∧l.length*bs≤reachBytes∧RD w (Bz w) (.sl k (l.map F)) v∧v.oneCell'=true∧sP v:=by
 rcases open_slice ht h with ⟨rfl,_⟩ | ⟨a,len,cap,m,n,D,Pl,rfl,hb,hl,hm,hmm,rfl,hx⟩
 ·exact ⟨[],_,rfl,fun r hr=>by simp at hr,by simp,.sl k [] none 0 ⟨0,0,none⟩ (fun _ _=>undef) (by simp) (fun h=>absurd rfl h) (fun r hr=>by simp at hr) (fun i r j c hr=>by simp at hr) (fun r hr=>by simp at hr) (fun i r j c hr=>by simp at hr),rfl,fun n e=>by cases e⟩
 ·have hlm:len≤m:=by rw [hmm]; split <;> omega
  have hwe:∀ i,i < len→ql e (D i):=fun i hi q hq=>by
   refine hw q ?_
   simp only [DataW.weights,ht,List.mem_cons,List.mem_append]
   exact .inr (.inl (Sr (List.mem_map.2 ⟨i,List.mem_range.2 hi,rfl⟩) hq))
  have hbn:len*bs≤reachBytes:=by
   have:=hw ((((List.range len).map D).length+((List.range (m - len)).map fun j=>D (len+j)).length)*Tryz.prog.bytesOf e) (by simp [DataW.weights,ht])
   simp only [List.length_map,List.length_range,hbs] at this
   exact Nat.le_trans (Nat.mul_le_mul_right _ (by omega)) this
  obtain ⟨l,l1,l2⟩:=Jh (p:=fun i r=>Q r∧∃ cs',w.cells? 0 (a.add (i*k)) k=some cs'∧lH w (F r) cs'∧∃ u,cs'[0]?=some u∧sP u) len fun i hi=>by
   obtain ⟨cs',h1,h2⟩:=hx i (by omega)
   obtain ⟨r,g1,g2,g3⟩:=hrow _ _ _ h2 (hwe i hi)
   rw [hk] at h1
   exact ⟨r,g1,cs',h1,g2,g3⟩
  have cell:∀ (i:Nat) (row:List AV) (j:Nat) (c:AV),(l.map F)[i]?=some row→row[j]?=some c→∃ u,w.cell? (a.add (i*k+j))=some u∧RD w (Bz w) c u∧ak c=true:=fun i row j c hi hj=>by
   simp only [List.getElem?_map,Option.map_eq_some_iff] at hi
   obtain ⟨r,hr,rfl⟩:=hi
   obtain ⟨_,cs',c1,c2,_⟩:=l2 i r hr
   obtain ⟨_,c3,c4⟩:=World.cells?_some c1
   have hjk:j < k:=by
    have:=(List.getElem?_eq_some_iff.1 hj).1
    rw [c2.1,c3] at this
    exact this
   have:=c4 j hjk
   rw [rh] at this
   obtain ⟨u,hu⟩:∃ u,cs'[j]?=some u:=⟨cs'[j]'(by omega),by simp⟩
   exact ⟨u,by rw [this,hu],(c2.2 j c u hj hu).1,(c2.2 j c u hj hu).2.1⟩
  refine ⟨l,_,rfl,fun r hr=>?_,by rw [l1]; exact hbn,?_,rfl,fun n e=>by cases e⟩
  ·obtain ⟨i,hi⟩:=List.getElem?_of_mem hr
   exact (l2 i r hi).1
  ·have:=RD.sl (w:=w) (A:=Bz w) k (l.map F) (some a) cap a (fun i j=>(w.cell? (a.add (i*k+j))).getD undef) (by simp [l1,hl]) (fun hne=>?_) (fun row hr=>?_) (fun i row j c hi hj=>?_) (fun row hr c hc=>?_) (fun i row j c hi hj=>?_)
   ·simpa [l1] using this
   ·have hlen:0 < l.length:=List.length_pos_iff.2 fun e=>hne (by simp [e])
    obtain ⟨_,cs',c1,c2,u,c3,c4⟩:=l2 0 l[0] (by simp)
    have:=(World.cells?_some c1).2.2 0 h0
    rw [c3,Nat.zero_mul,rT,rT] at this
    obtain ⟨q1,q2⟩:=Sq hT this c4
    exact ⟨rfl,q1,q2⟩
   ·simp only [List.mem_map] at hr
    obtain ⟨r,hr,rfl⟩:=hr
    obtain ⟨i,hi⟩:=List.getElem?_of_mem hr
    obtain ⟨_,cs',c1,c2,_⟩:=l2 i r hi
    rw [c2.1]
    exact (World.cells?_some c1).2.1
   ·obtain ⟨u,q1,_⟩:=cell i row j c hi hj
    rw [q1]; rfl
   ·obtain ⟨i,hi⟩:=List.getElem?_of_mem hr
    obtain ⟨j,hj⟩:=List.getElem?_of_mem hc
    obtain ⟨u,_,_,q⟩:=cell i row j c hi hj
    exact q
   ·obtain ⟨u,q1,q2,_⟩:=cell i row j c hi hj
    rw [q1]; exact q2
theorem QH {n:Nat} {cs:List Value} {x:DataW H × List MemPlace} (h:Tr w enc n 84 cs=some x) (_:ql 84 x.1):∃ r:Nat,r < 4294967296∧lH w [U (r:Int)] cs∧∃ u,cs[0]?=some u∧sP u:=by
 obtain ⟨z,rfl,rfl,hw⟩:=DataW.trod_int Tryz.underlying84 h
 simp only [Lit.wf,Bool.and_eq_true,decide_eq_true_eq] at hw
 have h1:(0:Int)≤z:=hw.1
 have h2:z≤4294967295:=hw.2
 obtain ⟨m,rfl⟩:∃ m:Nat,z=m:=⟨z.toNat,by omega⟩
 exact ⟨m,by omega,.one (.v _ rfl) rfl rfl,_,rfl,fun n e=>by cases e⟩
theorem QI {n:Nat} {cs:List Value} {x:DataW H × List MemPlace} (h:Tr w enc n 3 cs=some x) (_:ql 3 x.1):∃ r:Int,True∧lH w [I r] cs∧∃ u,cs[0]?=some u∧sP u:=by
 obtain ⟨z,rfl,rfl,hw⟩:=DataW.trod_int Tryz.underlying3 h
 exact ⟨z,trivial,.one (.v _ rfl) rfl rfl,_,rfl,fun n e=>by cases e⟩
theorem Mn (hT:xx w) {n:Nat} {cs:List Value} {x:DataW H × List MemPlace} (h:Tr w enc n 35 cs=some x) (hw:ql 35 x.1):∃ m:List Nat,(Lb m∧m.length < 4611686018427387904)∧lH w [lm m] cs∧∃ u,cs[0]?=some u∧sP u:=by
 obtain ⟨l,v,rfl,h1,h2,h3,h4,h5⟩:=CH (k:=1) (bs:=4) Tryz.underlying35 (by kernel_rfl) (by decide) (by kernel_rfl) (fun (r:Nat)=>[U (r:Int)]) (fun r=>r < 4294967296) hT (fun n cs' x=>QH) h hw
 refine ⟨l,⟨h1,?_⟩,.one h3 rfl h4,_,rfl,h5⟩
 unfold reachBytes at h2
 omega
theorem Ox (hT:xx w) {n:Nat} {cs:List Value} {x:DataW H × List MemPlace} (h:Tr w enc n 62 cs=some x) (hw:ql 62 x.1):∃ m:List Int,True∧lH w [.sl 1 (aY m)] cs∧∃ u,cs[0]?=some u∧sP u:=by
 obtain ⟨l,v,rfl,h1,h2,h3,h4,h5⟩:=CH (k:=1) (bs:=8) Tryz.underlying62 (by kernel_rfl) (by decide) (by kernel_rfl) (fun (r:Int)=>[I r]) (fun r=>True) hT (fun n cs' x=>QI) h hw
 exact ⟨l,trivial,.one h3 rfl h4,_,rfl,h5⟩
theorem Ss (hT:xx w) {n:Nat} {cs:List Value} {x:DataW H × List MemPlace} (h:Tr w enc n 37 cs=some x) (hw:ql 37 x.1):∃ d:Rd,Ok0 d∧lH w (aW d) cs∧∃ u,cs[0]?=some u∧sP u:=by
 obtain ⟨y0,y1,y2,m,rfl,hl,h0,h1,h2⟩:=trod_struct3 Tryz.underlying37 h
 have hl3:cs.length=3:=hl.trans (by kernel_rfl)
 match cs,hl3 with
 | [a,b,c],_ =>
  have k0:Tr w enc m 4 [a]=some y0:=h0
  have k1:Tr w enc m 35 [b]=some y1:=h1
  have k2:Tr w enc m 3 [c]=some y2:=h2
  have w1:ql 35 y1.1:=fun q hq=>hw q (by simp [DataW.weights,DataW.weightsEach,Tryz.underlying37]; exact .inr (.inl hq))
  obtain ⟨bb,e0,e1⟩:=DataW.trod_bool Tryz.underlying4 k0
  simp only [List.cons.injEq,and_true] at e0
  subst e0
  obtain ⟨l,⟨q1,q2⟩,q3,_⟩:=Mn hT k1 w1
  obtain ⟨z,e2,e3,_⟩:=DataW.trod_int Tryz.underlying3 k2
  simp only [List.cons.injEq,and_true] at e2
  subst e2
  exact ⟨⟨bb,l,z⟩,⟨q1,q2⟩,(lH.one (.v _ rfl) rfl rfl).app (q3.app (.one (.v _ rfl) rfl rfl)),_,rfl,fun n e=>by cases e⟩
theorem Oy (hT:xx w) {n:Nat} {cs:List Value} {x:DataW H × List MemPlace} (h:Tr w enc n 64 cs=some x) (hw:ql 64 x.1):∃ d:Rt,Ok0 d.c∧lH w (bv d) cs∧∃ u,cs[0]?=some u∧sP u:=by
 obtain ⟨y0,y1,m,rfl,hl,h0,h1⟩:=trod_struct2 Tryz.underlying64 h
 have hl3:cs.length=4:=hl.trans (by kernel_rfl)
 match cs,hl3 with
 | [a,b,c,d],_ =>
  have k0:Tr w enc m 62 [a]=some y0:=h0
  have k1:Tr w enc m 37 [b,c,d]=some y1:=h1
  have w0:ql 62 y0.1:=fun q hq=>hw q (by simp [DataW.weights,DataW.weightsEach,Tryz.underlying64]; exact .inl hq)
  have w1:ql 37 y1.1:=fun q hq=>hw q (by simp [DataW.weights,DataW.weightsEach,Tryz.underlying64]; exact .inr hq)
  obtain ⟨l,_,q3,q4⟩:=Ox hT k0 w0
  obtain ⟨d,d1,d2,_⟩:=Ss hT k1 w1
  exact ⟨⟨l,d⟩,d1,q3.app d2,q4⟩
theorem Aa (hT:xx w) {n:Nat} {us:Array Value} {x:DataW H × List MemPlace} (h:Tr w enc n 24 us.toList=some x) (hw:ql 24 x.1):∃ a:Rp,((∀ t ∈ a.terms,Ok0 t.c)∧a.terms.length < 4611686018427387904)∧RD w (Bz w) (aZ a) (.agg us):=by
 obtain ⟨y0,y1,m,rfl,hl,h0,h1⟩:=trod_struct2 Tryz.underlying24 h
 have hl3:us.toList.length=2:=hl.trans (by kernel_rfl)
 obtain ⟨cs⟩:=us
 simp only at hl3 h0 h1
 match cs,hl3 with
 | [a,b],_ =>
  have k0:Tr w enc m 3 [a]=some y0:=h0
  have k1:Tr w enc m 22 [b]=some y1:=h1
  have w1:ql 22 y1.1:=fun q hq=>hw q (by simp [DataW.weights,DataW.weightsEach,Tryz.underlying24]; exact .inr hq)
  obtain ⟨z,e2,e3,_⟩:=DataW.trod_int Tryz.underlying3 k0
  simp only [List.cons.injEq,and_true] at e2
  subst e2
  obtain ⟨l,v,e4,q1,q2,q3,q4,q5⟩:=CH (k:=4) (bs:=64) Tryz.underlying22 (by kernel_rfl) (by decide) (by kernel_rfl) bv (fun t=>Ok0 t.c) hT (fun n cs' x=>Oy hT) k1 w1
  simp only [List.cons.injEq,and_true] at e4
  subst e4
  refine ⟨⟨z,l⟩,⟨q1,by show l.length < _; unfold reachBytes at q2; omega⟩,?_⟩
  have rc:lH w [I z,.sl 4 (l.map bv)] [.int .i64 z,b]:=(lH.one (.v _ rfl) rfl rfl).app (.one q3 rfl q4)
  refine .agg _ _ rfl (fun i u hu=>?_) fun i c u hc hu=>?_
  ·have hu':[Value.int .i64 z,b][i]?=some u:=by simpa using hu
   obtain ⟨c,hc⟩:∃ c,[I z,AV.sl 4 (l.map bv)][i]?=some c:=⟨_,List.getElem?_eq_getElem (by have:=(List.getElem?_eq_some_iff.1 hu').1; simpa using this)⟩
   exact (rc.2 i c u hc hu').2.2
  ·exact (rc.2 i c u hc (by simpa using hu)).1
end
end Go.Ab
namespace Go.Ab
open Go Go.Proofs Go.Shelf
def sv:Ren:=⟨fun | 166=>111 | 167=>110 | 169=>112 | 240=>145 | 276=>163 | n=>n,fun | 0=>0 | 3=>3 | 4=>4 | 5=>5 | 9=>9 | 20=>20 | 37=>126 | 70=>125 | 72=>128 | 75=>130 | 80=>134 | 127=>150 | 164=>164 | n=>n,fun n=>n⟩
theorem Dq:Lays.n166 Tryz.prog sv where
 mixed:=by kernel_rfl
 f166:=by kernel_rfl
 f240:=by kernel_rfl
 f276:=by kernel_rfl
 t0:=by kernel_rfl
 a0:=Tryz.isAgg0
 z0:=Tryz.sizeOf0
 v0:=Tryz.zeroValue0
 t3:=by kernel_rfl
 a3:=Tryz.isAgg3
 z3:=Tryz.sizeOf3
 v3:=Tryz.zeroValue3
 t4:=by kernel_rfl
 a4:=Tryz.isAgg4
 z4:=Tryz.sizeOf4
 v4:=Tryz.zeroValue4
 t9:=by kernel_rfl
 a9:=Tryz.isAgg9
 z9:=Tryz.sizeOf9
 v9:=Tryz.zeroValue9
 t20:=by kernel_rfl
 a20:=Tryz.isAgg20
 z20:=Tryz.sizeOf20
 v20:=Tryz.zeroValue20
 t37:=by kernel_rfl
 a37:=Tryz.isAgg126
 z37:=Tryz.sizeOf126
 v37:=Tryz.zeroValue126
 t70:=by kernel_rfl
 a70:=Tryz.isAgg125
 z70:=Tryz.sizeOf125
 v70:=Tryz.zeroValue125
 t72:=by kernel_rfl
 a72:=Tryz.isAgg128
 z72:=Tryz.sizeOf128
 v72:=Tryz.zeroValue128
 t75:=by kernel_rfl
 a75:=Tryz.isAgg130
 z75:=Tryz.sizeOf130
 v75:=Tryz.zeroValue130
 t164:=by kernel_rfl
 a164:=Tryz.isAgg164
 z164:=Tryz.sizeOf164
 v164:=Tryz.zeroValue164
theorem Mo:Lays.n167 Tryz.prog sv where
 mixed:=by kernel_rfl
 f167:=by kernel_rfl
 f240:=by kernel_rfl
 f276:=by kernel_rfl
 t0:=by kernel_rfl
 a0:=Tryz.isAgg0
 z0:=Tryz.sizeOf0
 v0:=Tryz.zeroValue0
 t4:=by kernel_rfl
 a4:=Tryz.isAgg4
 z4:=Tryz.sizeOf4
 v4:=Tryz.zeroValue4
 t5:=by kernel_rfl
 a5:=Tryz.isAgg5
 z5:=Tryz.sizeOf5
 v5:=Tryz.zeroValue5
 t9:=by kernel_rfl
 a9:=Tryz.isAgg9
 z9:=Tryz.sizeOf9
 v9:=Tryz.zeroValue9
 t20:=by kernel_rfl
 a20:=Tryz.isAgg20
 z20:=Tryz.sizeOf20
 v20:=Tryz.zeroValue20
 t37:=by kernel_rfl
 a37:=Tryz.isAgg126
 z37:=Tryz.sizeOf126
 v37:=Tryz.zeroValue126
 t70:=by kernel_rfl
 a70:=Tryz.isAgg125
 z70:=Tryz.sizeOf125
 v70:=Tryz.zeroValue125
 t72:=by kernel_rfl
 a72:=Tryz.isAgg128
 z72:=Tryz.sizeOf128
 v72:=Tryz.zeroValue128
 t75:=by kernel_rfl
 a75:=Tryz.isAgg130
 z75:=Tryz.sizeOf130
 v75:=Tryz.zeroValue130
 t164:=by kernel_rfl
 a164:=Tryz.isAgg164
 z164:=Tryz.sizeOf164
 v164:=Tryz.zeroValue164
theorem Dr:Lays.n169 Tryz.prog sv where
 mixed:=by kernel_rfl
 f169:=by kernel_rfl
 t0:=by kernel_rfl
 a0:=Tryz.isAgg0
 z0:=Tryz.sizeOf0
 v0:=Tryz.zeroValue0
 t3:=by kernel_rfl
 a3:=Tryz.isAgg3
 z3:=Tryz.sizeOf3
 v3:=Tryz.zeroValue3
 t9:=by kernel_rfl
 a9:=Tryz.isAgg9
 z9:=Tryz.sizeOf9
 v9:=Tryz.zeroValue9
 t37:=by kernel_rfl
 a37:=Tryz.isAgg126
 z37:=Tryz.sizeOf126
 v37:=Tryz.zeroValue126
 t70:=by kernel_rfl
 a70:=Tryz.isAgg125
 z70:=Tryz.sizeOf125
 v70:=Tryz.zeroValue125
 t72:=by kernel_rfl
 a72:=Tryz.isAgg128
 z72:=Tryz.sizeOf128
 v72:=Tryz.zeroValue128
 t127:=by kernel_rfl
 a127:=Tryz.isAgg150
 z127:=Tryz.sizeOf150
 v127:=Tryz.zeroValue150
theorem tV:Builder.Extra Tryz.prog sv where
 sizeBuilder:=by kernel_rfl
 liesBuilder:=by kernel_rfl
 t5:=by kernel_rfl
 a5:=Tryz.isAgg5
 z5:=Tryz.sizeOf5
 v5:=Tryz.zeroValue5
 infoByte:=by kernel_rfl
 cellsByte:=by kernel_rfl
 sizeByte:=by kernel_rfl
 neB5:=by decide
end Go.Ab
namespace Go.Ab
open Go Go.Proofs Go.Shelf Go.RowKit
set_option maxHeartbeats 4000000
set_option maxRecDepth 1000000
theorem BA {T e:TypeId} {B b:Nat} {p:Value} {bs:List Value} {w w':World} (h:Lib.BuilderAtF T e B b p bs w) (hb:Below w.heap.size w w'):Lib.BuilderAtF T e B b p bs w':=by
 obtain ⟨h1,v,h2,⟨h3,h4⟩,h5⟩:=h
 have hlt:b < w.heap.size:=(Array.getElem?_eq_some_iff.1 h2).1
 refine ⟨h1,v,(hb.block _ hlt).trans h2,⟨h3,?_⟩,h5⟩
 rcases h4 with h4 | ⟨g,cap,su,fz,g1,g2,g3,g4⟩
 ·exact .inl h4
 ·exact .inr ⟨g,cap,su,fz,g1,g2,(hb.block _ (Array.getElem?_eq_some_iff.1 g3).1).trans g3,g4⟩
theorem BB {T e:TypeId} {B b:Nat} {bs:List Value} {w w':World} (h:Lib.IsBuilderF T e B b bs w) (hb:Below w.heap.size w w'):Lib.IsBuilderF T e B b bs w':=h.imp (fun h=>BA h hb) (fun h=>BA h hb)
theorem QJ (n:Bool) (a:Option Addr) (l cap:Nat) (e:Int) (t u:List UInt8) (w:World) (hl:(l:Int) ≠ 0) (ht:t.length≤10000) (hu:u.length≤1000)
  (hV:∀ w1,Below w.heap.size w w1→Calls Tryz.prog F.dyadic_Valid #[.agg #[.bool n,.slice a l cap,.int .i64 e]] w1 fun x w2=>x=.returned (.bool true)∧Below w1.heap.size w1 w2)
  (hT:∀ w1,Below w.heap.size w w1→Calls Tryz.prog F.natural_Text #[.slice a l cap] w1 fun x w2=>x=.returned (.tuple #[.string ⟨t.toArray⟩,.int .i64 0])∧Below w1.heap.size w1 w2)
  (hI:∀ w1,Below w.heap.size w w1→Calls Tryz.prog F.strconv_Itoa #[.int .i64 e] w1 fun x w2=>x=.returned (.string ⟨u.toArray⟩)∧Below w1.heap.size w1 w2) :
  Calls Tryz.prog F.dyadic_Text #[.agg #[.bool n,.slice a l cap,.int .i64 e]] w fun x w'=>x=.returned (.tuple #[.string ⟨((if n then [45] else [])++t++[112]++u).toArray⟩,.int .i64 0])∧Below w.heap.size w w':=by
 go_enter Tryz.func78,Tryz.ntmps78
 go_wp2_with (go_at_call 53; refine (hV _ ((Below.refl _ w).alloc (Nat.le_refl _) _)).mono ?_)
 rintro x W1 ⟨rfl,b1⟩
 have b01:Below w.heap.size w W1:=((Below.refl _ w).alloc (Nat.le_refl _) _).trans (b1.mono (by simp))
 have s1:w.heap.size < W1.heap.size:=Nat.lt_of_lt_of_le (by simp) b1.size
 have hb1:W1.heap[w.heap.size]?=some (.cells #[.bool n,.slice a l cap,.int .i64 e] 37 (0,0)):=by
  rw [b1.block _ (by simp)]
  exact heap_alloc_new w _
 have c1:W1.cell? ⟨w.heap.size,1,none⟩=some (.slice a l cap):=by simp [World.cell?,hb1]
 go_wp2_with (go_at_call 109; refine (hT _ b01).mono ?_)
 rintro x W2 ⟨rfl,b2⟩
 have b02:Below w.heap.size w W2:=b01.trans (b2.mono (by omega))
 have s2:w.heap.size < W2.heap.size:=Nat.lt_of_lt_of_le s1 b2.size
 have hb2:W2.heap[w.heap.size]?=some (.cells #[.bool n,.slice a l cap,.int .i64 e] 37 (0,0)):=(b2.block _ s1).trans hb1
 have hb3:(W2.alloc (.cells #[.pointer none,.slice none 0 0] 128)).heap[w.heap.size]?=some (.cells #[.bool n,.slice a l cap,.int .i64 e] 37 (0,0)):=(pd W2 _ s2).trans hb2
 have d0:(W2.alloc (.cells #[.pointer none,.slice none 0 0] 128)).cell? ⟨w.heap.size,0,none⟩=some (.bool n):=by simp only [World.cell?,hb3]; rfl
 have d2:(W2.alloc (.cells #[.pointer none,.slice none 0 0] 128)).cell? ⟨w.heap.size,2,none⟩=some (.int .i64 e):=by simp only [World.cell?,hb3]; rfl
 have hB:=Lib.IsBuilderF.of (Lib.fresh_isBuilder 128 5 W2)
 have b03:Below w.heap.size w (W2.alloc (.cells #[.pointer none,.slice none 0 0] 128)):=b02.trans ((Below.refl _ W2).alloc (Nat.le_of_lt s2) _)
 have sS:(ByteArray.mk t.toArray++ByteArray.mk #[112]++ByteArray.mk u.toArray).data.toList=t++[112]++u:=by simp
 have sZ:(ByteArray.mk t.toArray++ByteArray.mk #[112]++ByteArray.mk u.toArray).size=t.length+1+u.length:=by simp [ByteArray.size]; omega
 cases n with
 | true =>
  go_wp2_with (go_at_call 110; refine (Any.Builder_WriteByte_k Mo tV W2.heap.size W2.heap.size [] 45 _ hB (by simp) (by simp)).mono ?_)
  rintro x W3 ⟨rfl,hB3,b3,_⟩
  have b03':Below w.heap.size w W3:=b03.trans (b3.mono (Nat.le_of_lt s2))
  have e2:W3.cell? ⟨w.heap.size,2,none⟩=some (.int .i64 e):=by simp only [World.cell?,(b3.block _ s2).trans hb3]; rfl
  go_wp2_with (go_at_call 79; refine (hI _ b03').mono ?_)
  rintro x W4 ⟨rfl,b4⟩
  have b04:Below w.heap.size w W4:=b03'.trans (b4.mono b03'.size)
  have hB4:=BB (.inr hB3) b4
  have s4:W2.heap.size≤W4.heap.size:=Nat.le_trans (Nat.le_trans (by simp) b3.size) b4.size
  go_wp2_with (go_at_call 111; refine (Any.Builder_WriteString_k Dq tV W2.heap.size W2.heap.size _ (ByteArray.mk t.toArray++ByteArray.mk #[112]++ByteArray.mk u.toArray) _ hB4 (by rw [sZ]; simp; omega) s4).mono ?_)
  rintro x W5 ⟨rfl,hB5,b5,_⟩
  have b05:Below w.heap.size w W5:=b04.trans (b5.mono (Nat.le_of_lt s2))
  have hB5':Lib.IsBuilderF (sv.t 72) (sv.t 5) W2.heap.size W2.heap.size (Lib.byteCells (45::(t++[112]++u))) W5:=by
   rw [show Lib.byteCells (45::(t++[112]++u))=[]++[Value.int .u8 45]++Lib.strCells (ByteArray.mk t.toArray++ByteArray.mk #[112]++ByteArray.mk u.toArray) by rw [Lib.strCells_eq,sS]; rfl]
   exact .inr hB5
  go_wp2_with (go_at_call 112; refine (Any.Builder_String_any_k Dr tV W2.heap.size W2.heap.size _ _ hB5' (Nat.le_trans s4 b5.size)).mono ?_)
  rintro x W6 ⟨rfl,_,b6,_⟩
  go_wp2
  go_ret2
  exact ⟨by simp,b05.trans (b6.mono (Nat.le_of_lt s2))⟩
 | false =>
  go_wp2_with (go_at_call 79; refine (hI _ b03).mono ?_)
  rintro x W4 ⟨rfl,b4⟩
  have b04:Below w.heap.size w W4:=b03.trans (b4.mono b03.size)
  have hB4:=BB hB b4
  have s4:W2.heap.size≤W4.heap.size:=Nat.le_trans (by simp) b4.size
  go_wp2_with (go_at_call 111; refine (Any.Builder_WriteString_k Dq tV W2.heap.size W2.heap.size _ (ByteArray.mk t.toArray++ByteArray.mk #[112]++ByteArray.mk u.toArray) _ hB4 (by rw [sZ]; simp; omega) s4).mono ?_)
  rintro x W5 ⟨rfl,hB5,b5,_⟩
  have b05:Below w.heap.size w W5:=b04.trans (b5.mono (Nat.le_of_lt s2))
  have hB5':Lib.IsBuilderF (sv.t 72) (sv.t 5) W2.heap.size W2.heap.size (Lib.byteCells (t++[112]++u)) W5:=by
   rw [show Lib.byteCells (t++[112]++u)=[]++Lib.strCells (ByteArray.mk t.toArray++ByteArray.mk #[112]++ByteArray.mk u.toArray) by rw [Lib.strCells_eq,sS]; rfl]
   exact .inr hB5
  go_wp2_with (go_at_call 112; refine (Any.Builder_String_any_k Dr tV W2.heap.size W2.heap.size _ _ hB5' (Nat.le_trans s4 b5.size)).mono ?_)
  rintro x W6 ⟨rfl,_,b6,_⟩
  go_wp2
  go_ret2
  exact ⟨by simp,b05.trans (b6.mono (Nat.le_of_lt s2))⟩
end Go.Ab
namespace Go.Ab
open Go Go.Proofs Go.Shelf Go.RowKit
set_option maxRecDepth 100000
theorem iM {args:List AV} {vals:Array Value} (h:vals.size=args.length) {i:Nat} {c:AV} (hc:args[i]?=some c):∃ u,vals[i]?=some u:=by
 have:i < args.length:=(List.getElem?_eq_some_iff.1 hc).1
 exact ⟨vals[i]'(by omega),by simp [h,this]⟩
theorem Su {vals:Array Value} {a:Value} (h:vals.size=1) (h0:vals[0]?=some a):vals=#[a]:=by
 apply Array.ext_getElem?
 intro i
 match i with
 | 0=>simpa using h0
 | i+1=>simp [h]
theorem Sv {vals:Array Value} {a b:Value} (h:vals.size=2) (h0:vals[0]?=some a) (h1:vals[1]?=some b):vals=#[a,b]:=by
 apply Array.ext_getElem?
 intro i
 match i with
 | 0=>simpa using h0
 | 1=>simpa using h1
 | i+2=>simp [h]
theorem Ds {w:World} {a:Addr} {us:Array Value} {e:TypeId} (h:w.heap[a.block]?=some (.cells us e (0,0))):w.frozen? a=false:=by
 simp [World.frozen?,h]
theorem QK {P:Program} (w:World) (tS tR e:TypeId) (ht:P.underlying tS=some (.slice e)) (size:Nat) (hz:∀ w,(Go.sizeOf e).run P w=.ok size w) (a:Addr) (b:Option Addr) (la ca cb:Nat) :
  (Extern.SlicesOverlaps.overlaps #[tS,tS] #[tR] #[.slice (some a) la ca,.slice b 0 cb]).run P w=.ok (.bool false) w:=by
 change Sem.run P (α:=Value) (do
  let some t := (#[tS, tS] : Array TypeId)[0]? | stuck "slices.overlaps: no parameter types"
  let .slice elem ← underlying t | stuck "slices.overlaps: slice type expected"
  let size ← sizeOf elem
  match (some a:Option Addr),b with
  | some a,some b =>
   if la=0∨0=0∨size=0 then pure (Value.bool false)
   else if a.block != b.block && (← frozen a) && (← frozen b) then unsupported .addressObserved
   else do
    if a.block != b.block then do
     noView a; noView b
     if ← mayBeOne a b then return Value.bool ((← choose (.extern "sameAddr.stringBytes" 2)) == 1)
    pure (Value.bool (a.block == b.block && a.off < b.off+0*size && b.off < a.off+la*size))
  | _,_=>pure (Value.bool false)) w=_
 cases b <;> simp [run_underlying ht,hz]
theorem Sw {P:Program} (w:World) (tS tR e:TypeId) (ht:P.underlying tS=some (.slice e)) (size:Nat) (hz:∀ w,(Go.sizeOf e).run P w=.ok size w)
  (a b:Addr) (la ca lb cb:Nat) (hne:a.block ≠ b.block) (tA:TypeId) (kA:Nat) {us:Array Value} {tB:TypeId}
  (hkA:kA ≠ 0) (hsa:w.shape? a.block=some (tA,kA)) (hb:w.heap[b.block]?=some (.cells us tB (0,0))) (hu:us.size ≠ 0) :
  (Extern.SlicesOverlaps.overlaps #[tS,tS] #[tR] #[.slice (some a) la ca,.slice (some b) lb cb]).run P w=.ok (.bool false) w:=by
 have hnb:(a.block != b.block)=true:=by simpa using hne
 have hnb':(a.block == b.block)=false:=by simpa using hne
 have hsb:w.shape? b.block=some (tB,us.size):=by simp [World.shape?,hb]
 have hfb:w.frozen? b=false:=Ds hb
 have hfe:w.frozen? { block:=b.block,off:=us.size }=false:=Ds (a:=⟨b.block,us.size,none⟩) hb
 change Sem.run P (α:=Value) (do
  let some t := (#[tS, tS] : Array TypeId)[0]? | stuck "slices.overlaps: no parameter types"
  let .slice elem ← underlying t | stuck "slices.overlaps: slice type expected"
  let size ← sizeOf elem
  match (some a:Option Addr),(some b:Option Addr) with
  | some a,some b =>
   if la=0∨lb=0∨size=0 then pure (Value.bool false)
   else if a.block != b.block && (← frozen a) && (← frozen b) then unsupported .addressObserved
   else do
    if a.block != b.block then do
     noView a; noView b
     if ← mayBeOne a b then return Value.bool ((← choose (.extern "sameAddr.stringBytes" 2)) == 1)
    pure (Value.bool (a.block == b.block && a.off < b.off+lb*size && b.off < a.off+la*size))
  | _,_=>pure (Value.bool false)) w=_
 by_cases h0:la=0∨lb=0∨size=0
 ·simp [run_underlying ht,hz,h0]
 ·obtain ⟨n,hn⟩:∃ n,us.size=n+1:=⟨us.size - 1,by omega⟩
  rw [hn] at hsb hfe
  obtain ⟨kA,rfl⟩:∃ k,kA=k+1:=⟨kA - 1,by omega⟩
  cases hfa:w.frozen? a <;> cases hfa2:w.frozen? { block:=a.block,off:=kA+1 } <;>
   simp [run_underlying ht,hz,h0,hnb,hnb',frozen,noView,viewAt,mayBeOne,stringish,shape,Sem.run,hsa,hsb,hfa,hfa2,hfb,hfe]
theorem KC {w:World} {a:Addr} {v:Value} (h:w.cell? a=some v):∃ t k,k ≠ 0∧w.shape? a.block=some (t,k):=by
 unfold World.cell? at h
 split at h
 ·rename_i cs t fr hb
  refine ⟨t,cs.size,fun h0=>?_,by unfold World.shape?; rw [hb]⟩
  split at h
  ·cases h
  ·have:=(Array.getElem?_eq_some_iff.1 h).1
   omega
 ·cases h
theorem Sx {P : Program} {I : Inv} {f : FuncId} {fn : Func} {tS tR e : TypeId} {size : Nat} (hf : P.funcs[f]? = some fn) (hname : (fn.name == "runtime.NumGoroutine") = false) (hb : fn.body.isNone = true) (hn : Extern.findNext fn = none)
  (he:Extern.find fn=some (Extern.SlicesOverlaps.overlaps #[tS,tS] #[tR])) (ht:P.underlying tS=some (.slice e)) (hz:∀ w,(Go.sizeOf e).run P w=.ok size w):fg P I false f (IB 4):=by
 intro args obs obs' res w X ρ vals n hz' hn' hi hr hs hv
 unfold IB at hz'
 split at hz'
 ·rename_i k0 row rows k1 lo m k2 rows2
  split at hz'
  ·rename_i hk
   obtain ⟨rfl,rfl,rfl⟩:=hk
   cases hz'
   obtain ⟨u0,h0⟩:=iM hs (i:=0) rfl
   obtain ⟨u1,h1⟩:=iM hs (i:=1) rfl
   have e0:=hv 0 _ _ rfl h0
   have e1:=hv 1 _ _ rfl h1
   obtain rfl:=Sv hs h0 h1
   have d0:=e0.sl_inv
   obtain ⟨a1,cap1,rfl,hp,hn1,hb1,ha1⟩:=e1.rsl_inv
   have ho:RO w (ao w X (ae [.ar 4 rows2]) ρ) ρ (ae [.ar 4 rows2]) 1000 (.ar 4 rows2):=hr.ob 1000
   obtain ⟨us,tB,g1,g2,g3,g4⟩:=ho
   have hlive:live (ae [.ar 4 rows2]) 1000 none:=trivial
   cases d0 with
   | sl _ _ a cap ad vs hc ha hk hv2 hl hr2 =>
    obtain ⟨rfl,hA,hsp⟩:=ha (by simp)
    have hlen:=hk row (by simp)
    obtain ⟨c,hrow⟩:∃ c,row[0]?=some c:=⟨row[0]'(by omega),by simp⟩
    have hcell:=hv2 0 row 0 c rfl hrow
    obtain ⟨tA,kA,hkA,hsh⟩:=KC hcell
    rw [ij] at hsh
    have run:(callFunc f #[.slice (some ad) (row::rows).length cap,.slice a1 m cap1]).run P w=.ok (.value (.bool false)) w:=by
     rw [run_callFunc_extern hf hname hb hn he]
     by_cases hm:m=0
     ·subst hm
      rw [QK w tS tR e ht size hz]
      rfl
     ·rcases ha1 with h | rfl
      ·omega
      ·rw [Sw w tS tR e ht size hz ad ⟨(ρ 1000 none).1,lo*4,none⟩ _ cap m cap1 (fun hh=>hA.2.2 ⟨1000,none,hlive,hh.symm⟩) tA kA hkA hsh g1 (by omega)]
       rfl
    unfold Enters
    rw [run]
    exact ⟨ρ,hr,.refl _ _ _ _,.dat (.v _ rfl)⟩
  ·cases hz'
 ·cases hz'
theorem QL {P:Program} {I:Inv} (hR:fg P I false F.slices_Insert_api_Term_api_Term_ (R0 F.slices_Insert_api_Term_api_Term_)):fg P I false F.slices_Insert_api_Term_api_Term_ (F5 4 64):=by
 intro args obs obs' res w X ρ vals n hz hn hi hr hs hv
 unfold F5 at hz
 split at hz
 ·rename_i k0 r
  split at hz
  ·rename_i hk
   subst hk
   cases hz
   exact hR QD hn hi hr hs hv
  ·cases hz
 ·rename_i k1 m i k0 r k2 rows
  split at hz
  ·rename_i hk
   obtain ⟨rfl,rfl,rfl,rfl,hi0,hi1,hb⟩:=hk
   cases hz
   obtain ⟨i,rfl⟩:=Int.eq_ofNat_of_zero_le hi0
   rw [Int.toNat_natCast]
   by_cases hend:i=rows.length
   ·subst hend
    have:=hR (Mk (r:=r) rfl hb) hn hi hr hs hv
    rw [List.take_of_length_le (Nat.le_refl _),List.drop_eq_nil_of_le (Nat.le_refl _)]
    exact this
   ·have hlt:i < rows.length:=by omega
    obtain ⟨u0,h0⟩:=iM hs (i:=0) rfl
    obtain ⟨a,cap,rfl,hp,hn1,hb1,ha⟩:=(hv 0 _ _ rfl h0).rsl_inv
    have hv':∀ (j:Nat) (c:AV) (u:Value),[AV.rsc 1000 4 0 rows.length cap,.v (.int .i64 i),.sl 4 [r]][j]?=some c→vals[j]?=some u→RV w (ao w X (ae [.ar 4 rows]) ρ) ρ (ae [.ar 4 rows]) c u:=by
     intro j c u hc hu
     match j,hc with
     | 0,hc =>
      cases hc
      rw [h0] at hu
      cases hu
      exact .rsc 1000 4 0 _ cap a hp hn1 hb1 ha
     | j+1,hc=>exact hv (j+1) c u hc hu
    rcases Nat.lt_or_ge rows.length cap with hc | hc
    ·exact hR (QG rfl hlt hc hb) hn hi hr hs hv'
    ·obtain rfl:cap=rows.length:=by omega
     refine (hR (QF rfl hlt hb) hn hi hr hs hv').mono fun v w' ⟨ρ',q1,q2,q3⟩=>?_
     generalize rows.take i++r::rows.drop i=L at q1 q2 q3 ⊢
     have hd:=Ax q1 (id:=1000) (k:=4) (rows:=rows) (by
      show (if 1000=n then _ else _)=_
      rw [if_neg (by omega)]
      rfl)
     have eq:upd (mat n (ae [.ar 4 rows]) (.osl 4 L)).2 1000 .dead=(mat n (ae [.dead]) (.osl 4 L)).2:=by
      show upd (upd (ae [.ar 4 rows]) n (.ar 4 L)) 1000 .dead=upd (ae [.dead]) n (.ar 4 L)
      rw [oM,oM]
      funext j
      unfold upd
      by_cases h1:j=1000
      ·rw [if_pos h1,if_neg (by omega),if_pos h1]
      ·rw [if_neg h1,if_neg h1,if_neg h1]
     rw [eq] at hd
     refine ⟨ρ',hd.1,q2.trans (hd.2.far rfl),hd.2.rvk q3 (.inr ?_)⟩
     show dT [(1000,false)] n none=false
     simp [dT]
     omega
  ·cases hz
 ·cases hz
theorem lI {w w':World} {X:Nat→Prop} {ρ:aT} (hr:Rel w X ρ (ae [])) (hb:Below w.heap.size w w'):Rel w' X ρ (ae [])∧Far false w ρ (ae []) w' ρ (ae []):=by
 have hl:∀ id sub,¬ live (ae []) id sub:=fun id sub=>by
  have hd:ae [] id=.dead:=by
   unfold ae
   split <;> simp
  cases sub with
  | none=>simp [live,hd]
  | some p=>simp [live,hd]
 refine ⟨⟨fun id sub _ _ h=>(hl id sub h).elim,fun id sub h=>(hl id sub h).elim,fun id=>?_,fun b hb'=>Nat.lt_of_lt_of_le (hr.xl b hb') hb.size⟩,hb.os,hb.tape,hb.output,hb.size,fun b h1 _=>hb.block b h1,fun b ⟨id,sub,h,_⟩=>(hl id sub h).elim,fun id _ h=>?_,fun h=>by cases h⟩
 ·have hd:ae [] id=.dead:=by
   unfold ae
   split <;> simp
  rw [hd]
  trivial
 ·exfalso
  apply h
  unfold ae
  split <;> simp
theorem Mp {w w':World} {X:Nat→Prop} {ρ:aT} {b:Nat} (h:ao w X (ae []) ρ b) (hb:Below w.heap.size w w'):ao w' X (ae []) ρ b∧w'.heap[b]?=w.heap[b]? :=
 ⟨⟨Nat.lt_of_lt_of_le h.1 hb.size,h.2.1,h.2.2⟩,hb.block b h.1⟩
theorem Sy {P:Program} {I:Inv} {ρ0:Ren} (L:Lays2.n15 P ρ0) (hf:ρ0.f 15=F.slices_Clone_int_int_) (he:∀ a w,(callFunc F.slices_Clone_int_int_ a).run P w=.ok (.enter F.slices_Clone_int_int_ a) w)
  (hR:fg P I false F.slices_Clone_int_int_ (R0 F.slices_Clone_int_int_)):fg P I false F.slices_Clone_int_int_ Lw:=by
 intro args obs obs' res w X ρ vals n hz hn hi hr hs hv
 unfold Lw at hz
 split at hz
 ·cases hz
  obtain ⟨u0,h0⟩:=iM hs (i:=0) rfl
  have d0:=(hv 0 _ _ rfl h0).sl_inv
  obtain rfl:=Su hs h0
  cases d0 with
  | sl _ _ a cap ad vs hc ha hk hv2 hl hr2 =>
   unfold Enters
   rw [he]
   have fin:∀ (w':World) (b:Option Addr) (c:Nat),Below w.heap.size w w'→∃ ρ',Rel w' X ρ' (mat n (ae []) (.sl 1 [])).2∧Far false w ρ (ae []) w' ρ' (mat n (ae []) (.sl 1 [])).2 ∧
     RV w' (ao w' X (mat n (ae []) (.sl 1 [])).2 ρ') ρ' (mat n (ae []) (.sl 1 [])).2 (mat n (ae []) (.sl 1 [])).1 (.slice b 0 c):=fun w' b c hb =>
    ⟨ρ,(lI hr hb).1,(lI hr hb).2,.dat (.sl 1 [] b c ad vs (Nat.zero_le _) (fun h=>absurd rfl h) (fun _ h=>by cases h) (fun i row j c h=>by simp at h) (fun _ h=>by cases h) (fun i row j c h=>by simp at h))⟩
   cases a with
   | none =>
    have key:=Any.slices_Clone_int_nil L 0 cap w
    rw [hf] at key
    refine Calls.mono key fun e w' hw=>?_
    obtain ⟨rfl,rfl⟩:=hw
    exact fin _ _ _ (Below.refl _ _)
   | some a0 =>
    have key:=Any.slices_Clone_int_zero L a0 cap w
    rw [hf] at key
    refine Calls.mono key fun e w' hw=>?_
    obtain ⟨v',rfl,⟨_,hown⟩,_,hb⟩:=hw
    rcases hown with ⟨rfl,_⟩ | ⟨g,c2,su,rfl,_⟩
    ·exact fin _ _ _ hb
    ·exact fin _ _ _ hb
 ·rename_i r rs
  split at hz
  ·rename_i hb
   cases hz
   exact hR (Ov hb) hn hi hr hs hv
  ·cases hz
 ·cases hz
end Go.Ab
namespace Go.Ab
open Go Go.Proofs Go.RowKit
set_option maxRecDepth 100000
theorem RV.tup_inv {w:World} {A:Nat→Prop} {ρ:aT} {h:aa} {vs:List AV} {u:Value} (hv:RV w A ρ h (.tup vs) u):∃ us:Array Value,u=.tuple us∧us.size=vs.length∧∀ (i:Nat) (c:AV) (u:Value),vs[i]?=some c→us[i]?=some u→RV w A ρ h c u:=by
 cases hv with
 | dat hd=>cases hd
 | tup _ us hs hr=>exact ⟨us,rfl,hs,hr⟩
theorem Ac {P:Program} {I:Inv} {f:FuncId} {g:List AV→List Ob→Option (AV × List Ob)} (hR:fg P I false f g) {args:List AV} {vals:Array Value} {w:World} {X:Nat→Prop} {ρ:aT} {res:AV}
  (he:(callFunc f vals).run P w=.ok (.enter f vals) w) (hz:g args []=some (res,[])) (hm:mat 2000 (ae []) res=(res,ae [])) (hi:I.p w X) (hr:Rel w X ρ (ae [])) (hs:vals.size=args.length)
  (hv:∀ (i:Nat) (c:AV) (u:Value),args[i]?=some c→vals[i]?=some u→RV w (ao w X (ae []) ρ) ρ (ae []) c u) :
  Calls P f vals w fun e w'=>(∃ v ρ',e=.returned v∧RV w' (ao w' X (ae []) ρ') ρ' (ae []) res v)∧Below w.heap.size w w':=by
 have key:=hR hz (Nat.le_refl 2000) hi hr hs hv
 unfold Enters at key
 rw [he] at key
 refine Calls.mono key fun e w' hw=>?_
 cases e with
 | returned v =>
  obtain ⟨ρ',r,far,rv⟩:=hw
  rw [hm] at rv far
  have hl:∀ id sub,¬ live (ae []) id sub:=fun id sub=>by
   have hd:ae [] id=.dead:=by
    unfold ae
    split <;> simp
   cases sub with
   | none=>simp [live,hd]
   | some p=>simp [live,hd]
  exact ⟨⟨v,ρ',rfl,rv⟩,far.os,far.tape,far.output,far.size,fun k hk=>far.old k hk fun ⟨id,sub,h,_⟩=>hl id sub h⟩
 | _=>exact hw.elim
theorem Oz (n:Bool) (e:Int) (he:e=0∨e=1):R0 F.dyadic_Valid [.agg [B n,.sl 1 [[U 1]],I e]] []=some (B true,[]):=by
 rcases he with rfl | rfl <;> cases n
 ·exact gU [] 40 (F.dyadic_Valid,[.agg [B false,.sl 1 [[U 1]],I 0]],B true) bL (by kernel_rfl)
 ·exact gU [] 40 (F.dyadic_Valid,[.agg [B true,.sl 1 [[U 1]],I 0]],B true) bL (by kernel_rfl)
 ·exact gU [] 40 (F.dyadic_Valid,[.agg [B false,.sl 1 [[U 1]],I 1]],B true) bL (by kernel_rfl)
 ·exact gU [] 40 (F.dyadic_Valid,[.agg [B true,.sl 1 [[U 1]],I 1]],B true) bL (by kernel_rfl)
theorem QM (e:Int) (he:e=0∨e=1):R0 F.strconv_Itoa [I e] []=some (S ⟨[if e=0 then (48:UInt8) else 49].toArray⟩,[]):=by
 rcases he with rfl | rfl
 ·exact gU [] 40 (F.strconv_Itoa,[I 0],S ⟨[(48:UInt8)].toArray⟩) bL (by kernel_rfl)
 ·exact gU [] 40 (F.strconv_Itoa,[I 1],S ⟨[(49:UInt8)].toArray⟩) bL (by kernel_rfl)
theorem OA:R0 F.natural_Text [.sl 1 [[U 1]]] []=some (.tup [S ⟨[(49:UInt8)].toArray⟩,I 0],[]) :=
 gU [] 60 (F.natural_Text,[.sl 1 [[U 1]]],.tup [S ⟨[(49:UInt8)].toArray⟩,I 0]) bL (by kernel_rfl)
theorem ZF {vals:Array Value} {a b c:Value} (h:vals.size=3) (h0:vals[0]?=some a) (h1:vals[1]?=some b) (h2:vals[2]?=some c):vals=#[a,b,c]:=by
 apply Array.ext_getElem?
 intro i
 match i with
 | 0=>simpa using h0
 | 1=>simpa using h1
 | 2=>simpa using h2
 | i+3=>simp [h]
theorem Vc {I:Inv} (hV:fg Tryz.prog I false F.dyadic_Valid (R0 F.dyadic_Valid)) (hT:fg Tryz.prog I false F.natural_Text (R0 F.natural_Text)) (hI:fg Tryz.prog I false F.strconv_Itoa (R0 F.strconv_Itoa))
  (eV:∀ a w,(callFunc F.dyadic_Valid a).run Tryz.prog w=.ok (.enter F.dyadic_Valid a) w) (eT:∀ a w,(callFunc F.natural_Text a).run Tryz.prog w=.ok (.enter F.natural_Text a) w)
  (eI:∀ a w,(callFunc F.strconv_Itoa a).run Tryz.prog w=.ok (.enter F.strconv_Itoa a) w) (eD:∀ a w,(callFunc F.dyadic_Text a).run Tryz.prog w=.ok (.enter F.dyadic_Text a) w) :
  fg Tryz.prog I false F.dyadic_Text RG:=by
 intro args obs obs' res w X ρ vals n hz hn hi hr hs hv
 unfold RG at hz
 split at hz
 ·rename_i nb m e
  split at hz
  ·rename_i hc
   obtain ⟨rfl,he,rfl⟩:=hc
   cases hz
   obtain ⟨u0,h0⟩:=iM hs (i:=0) rfl
   obtain ⟨us,rfl,hsz,_,hr2⟩:=(hv 0 _ _ rfl h0).agg_inv
   obtain rfl:=Su hs h0
   obtain ⟨v0,g0⟩:=iM (args:=[B nb,.sl 1 [[.v (.int .u32 1)]],.v (.int .i64 e)]) hsz (i:=0) rfl
   obtain ⟨v1,g1⟩:=iM (args:=[B nb,.sl 1 [[.v (.int .u32 1)]],.v (.int .i64 e)]) hsz (i:=1) rfl
   obtain ⟨v2,g2⟩:=iM (args:=[B nb,.sl 1 [[.v (.int .u32 1)]],.v (.int .i64 e)]) hsz (i:=2) rfl
   obtain ⟨rfl,_⟩:=(hr2 0 _ _ rfl g0).v_inv
   obtain ⟨rfl,_⟩:=(hr2 2 _ _ rfl g2).v_inv
   have d1:=(hr2 1 _ _ rfl g1).sl_inv
   obtain rfl:=ZF hsz g0 g1 g2
   obtain ⟨a,l,cap,rfl⟩:∃ a l cap,v1=.slice a l cap:=by
    cases d1
    exact ⟨_,_,_,rfl⟩
   have hl:l=1:=by
    cases d1
    rfl
   subst hl
   have d1':∀ {w1:World},Below w.heap.size w w1→RD w1 (ao w1 X (ae []) ρ) (.sl 1 [[.v (.int .u32 1)]]) (.slice a 1 cap):=fun hb=>d1.mono fun b h=>Mp h hb
   have inv:∀ {w1:World},Below w.heap.size w w1→I.p w1 X:=fun hb=>I.stab hi fun b h=>hb.block b (hr.xl b h)
   unfold Enters
   rw [eD]
   refine Calls.mono (QJ nb a 1 cap e [49] [if e=0 then 48 else 49] w (by decide) (by decide) (Nat.le_of_lt (by decide:1 < 1000)) (fun w1 hb=>?_) (fun w1 hb=>?_) fun w1 hb=>?_) fun ex w' hw=>?_
   ·refine Calls.mono (Ac hV (eV _ _) (Oz nb e he) rfl (inv hb) (lI hr hb).1 rfl fun i c u hc hu=>?_) fun ex w2 hw=>?_
    ·match i,hc with
     | 0,hc =>
      cases hc
      cases hu
      refine .dat (.agg _ _ rfl (fun i u hu=>?_) fun i c u hc hu=>?_)
      ·match i,hu with
       | 0,hu=>cases hu; rfl
       | 1,hu=>cases hu; rfl
       | 2,hu=>cases hu; rfl
      ·match i,hc,hu with
       | 0,hc,hu=>cases hc; cases hu; exact .v _ rfl
       | 1,hc,hu=>cases hc; cases hu; exact d1' hb
       | 2,hc,hu=>cases hc; cases hu; exact .v _ rfl
    ·obtain ⟨⟨v,ρ',rfl,rv⟩,hb2⟩:=hw
     obtain ⟨rfl,_⟩:=rv.v_inv
     exact ⟨rfl,hb2⟩
   ·refine Calls.mono (Ac hT (eT _ _) OA rfl (inv hb) (lI hr hb).1 rfl fun i c u hc hu=>?_) fun ex w2 hw=>?_
    ·match i,hc with
     | 0,hc =>
      cases hc
      cases hu
      exact .dat (d1' hb)
    ·obtain ⟨⟨v,ρ',rfl,rv⟩,hb2⟩:=hw
     obtain ⟨us,rfl,h1,h2⟩:=rv.tup_inv
     obtain ⟨x0,q0⟩:=iM (args:=[S ⟨[(49:UInt8)].toArray⟩,.v (.int .i64 0)]) h1 (i:=0) rfl
     obtain ⟨x1,q1⟩:=iM (args:=[S ⟨[(49:UInt8)].toArray⟩,.v (.int .i64 0)]) h1 (i:=1) rfl
     obtain ⟨rfl,_⟩:=(h2 0 _ _ rfl q0).v_inv
     obtain ⟨rfl,_⟩:=(h2 1 _ _ rfl q1).v_inv
     obtain rfl:=Sv h1 q0 q1
     exact ⟨rfl,hb2⟩
   ·refine Calls.mono (Ac hI (eI _ _) (QM e he) rfl (inv hb) (lI hr hb).1 rfl fun i c u hc hu=>?_) fun ex w2 hw=>?_
    ·match i,hc with
     | 0,hc =>
      cases hc
      cases hu
      exact .dat (.v _ rfl)
    ·obtain ⟨⟨v,ρ',rfl,rv⟩,hb2⟩:=hw
     obtain ⟨rfl,_⟩:=rv.v_inv
     exact ⟨rfl,hb2⟩
   ·obtain ⟨rfl,hb⟩:=hw
    refine ⟨ρ,(lI hr hb).1,(lI hr hb).2,?_⟩
    refine .tup _ _ rfl fun i c u hc hu=>?_
    match i,hc,hu with
    | 0,hc,hu=>cases hc; cases hu; exact .dat (.v _ rfl)
    | 1,hc,hu=>cases hc; cases hu; exact .dat (.v _ rfl)
  ·cases hz
 ·cases hz
end Go.Ab
