/-
  PolySums holds at every input that the statement speaks of, under the conditions that its card names. Part F1.
-/
import Derived.Test.YtaffadijdjgmdaaGreatDoorProg
import Derived.Shelf.Spec.TrailingZeros
import Derived.Test.YtaffadijdjgmdaaGreatDoorRows
import Derived.Deep.Strs
import Derived.ProofKit
import Derived.LaidMore
import Derived.OpenShut
import Derived.Carry
import Derived.Shelf.Strings.BuilderK
import Derived.WalkKit
import Derived.BigCall
import Derived.Lib.Overlaps
import Derived.Laws.Externs
import Derived.Shelf.Slices.Clone
import Derived.KernelRfl
import Derived.Test.YtaffadijdjgmdaaGreatDoorE1
open Nat renaming reduceEqDiff → adx, reduceAdd → ady, reduceMul → adz, reduceLeDiff → adA, reduceLT → adB, reduceBEq → adC, reduceSub → adE
namespace Go.Ab
open Go Go.IntWalk
theorem Bh:∀ a:List Int,en a a=0
 | []=>rfl
 | x::a=>by
  unfold en
  rw [if_pos (by unfold jN; simp),Bh a]
theorem He:∀ {a b:List Int},a.length=b.length→en a b=0→a=b
 | [],[],_,_=>rfl
 | x::a,y::b,h,h2=>by
  unfold en at h2
  rcases jY x y with ⟨g,e⟩ | ⟨g,e⟩ | ⟨g,e⟩ <;> rw [e] at h2
  ·simp at h2
  ·rw [if_pos rfl] at h2
   rw [g,He (by simpa using h) h2]
  ·simp at h2
 | [],_::_,h,_=>by simp at h
 | _::_,[],h,_=>by simp at h
theorem Bi:∀ {a b:List Int},a.length=b.length→en b a=- en a b
 | [],[],_=>rfl
 | x::a,y::b,h=>by
  unfold en
  rcases jY x y with ⟨g,e⟩ | ⟨g,e⟩ | ⟨g,e⟩ <;> rcases jY y x with ⟨g',e'⟩ | ⟨g',e'⟩ | ⟨g',e'⟩ <;> rw [e,e'] <;> first | omega | (simp; done) | skip
  rw [if_pos rfl,if_pos rfl]
  exact Bi (by simpa using h)
 | [],_::_,h=>by simp at h
 | _::_,[],h=>by simp at h
theorem Hf:∀ {a b c:List Int},a.length=b.length→b.length=c.length→(en a b≤0→en b c < 0→en a c < 0)∧(en a b < 0→en b c≤0→en a c < 0)
 | [],[],[],_,_=>⟨fun _ h=>by simp [en] at h,fun h _=>by simp [en] at h⟩
 | x::a,y::b,z::c,h,h'=>by
  have ih:=Hf (a:=a) (b:=b) (c:=c) (by simpa using h) (by simpa using h')
  unfold en
  rcases jY x y with ⟨g,e⟩ | ⟨g,e⟩ | ⟨g,e⟩ <;> rcases jY y z with ⟨g',e'⟩ | ⟨g',e'⟩ | ⟨g',e'⟩ <;> rcases jY x z with ⟨g2,e2⟩ | ⟨g2,e2⟩ | ⟨g2,e2⟩ <;> rw [e,e',e2] <;> first | omega | skip
  all_goals simp
  all_goals first | exact ih | omega
 | [],[],_::_,_,h=>by simp at h
 | [],_::_,_,h,_=>by simp at h
 | _::_,[],_,h,_=>by simp at h
 | _::_,_::_,[],_,h=>by simp at h
theorem KO (a:List Int):aZ a a=0:=by
 unfold aZ
 rw [if_pos (by unfold jN; simp),Bh]
theorem Hg {a b:List Int} (h:a.length=b.length) (h2:aZ a b=0):a=b:=by
 unfold aZ at h2
 rcases jY (bw a) (bw b) with ⟨g,e⟩ | ⟨g,e⟩ | ⟨g,e⟩ <;> rw [e] at h2
 ·simp at h2
 ·rw [if_pos rfl] at h2
  exact (He h.symm h2).symm
 ·simp at h2
theorem vf {a b:List Int} (h:a.length=b.length):aZ b a=- aZ a b:=by
 unfold aZ
 rcases jY (bw a) (bw b) with ⟨g,e⟩ | ⟨g,e⟩ | ⟨g,e⟩ <;> rcases jY (bw b) (bw a) with ⟨g',e'⟩ | ⟨g',e'⟩ | ⟨g',e'⟩ <;> rw [e,e'] <;> first | omega | (simp; done) | skip
 rw [if_pos rfl,if_pos rfl]
 exact Bi h.symm
theorem As {a b c:List Int} (h:a.length=b.length) (h':b.length=c.length):(aZ a b≤0→aZ b c < 0→aZ a c < 0)∧(aZ a b < 0→aZ b c≤0→aZ a c < 0):=by
 have ih:=Hf (a:=c) (b:=b) (c:=a) h'.symm h.symm
 unfold aZ
 rcases jY (bw a) (bw b) with ⟨g,e⟩ | ⟨g,e⟩ | ⟨g,e⟩ <;> rcases jY (bw b) (bw c) with ⟨g',e'⟩ | ⟨g',e'⟩ | ⟨g',e'⟩ <;> rcases jY (bw a) (bw c) with ⟨g2,e2⟩ | ⟨g2,e2⟩ | ⟨g2,e2⟩ <;> rw [e,e',e2] <;> first | omega | skip
 all_goals simp
 all_goals first | exact ⟨fun x y=>ih.2 y x,fun x y=>ih.1 y x⟩ | omega
structure VT (v:Int) (t:Rt):Prop where
 c:Ok0 t.c
 len:(t.exps.length:Int)=v
 v8:v≤8
 vc:vd t.c=true
 nz:t.c.m.length ≠ 0
 b:∀ e ∈ t.exps,0≤e∧e≤32
 d:bw t.exps≤32
theorem VT.sm {v:Int} {t:Rt} (h:VT v t):sm t.exps:=⟨by have:=h.len; have:=h.v8; omega,h.b⟩
theorem VT.ok {v:Int} {t:Rt} (h:VT v t):OkT t:=⟨h.c,by have:=h.len; have:=h.v8; omega⟩
theorem VT.l2 {v:Int} {t q:Rt} (h:VT v t) (h2:VT v q):t.exps.length=q.exps.length:=by have:=h.len; have:=h2.len; omega
structure Cl (v:Int) (l:List Rt):Prop where
 t:∀ t ∈ l,VT v t
 s:l.Pairwise fun a b=>aZ a.exps b.exps < 0
theorem Cl.nil (v:Int):Cl v []:=⟨(fun _ h=>nomatch h),List.Pairwise.nil⟩
theorem Cl.cons {v:Int} {q:Rt} {l:List Rt} (h:Cl v (q::l)):VT v q∧(∀ t ∈ l,aZ q.exps t.exps < 0)∧Cl v l :=
 ⟨h.t q (by simp),(List.pairwise_cons.1 h.s).1,fun t ht=>h.t t (by simp [ht]),(List.pairwise_cons.1 h.s).2⟩
theorem Cl.mk' {v:Int} {q:Rt} {l:List Rt} (h1:VT v q) (h2:∀ t ∈ l,aZ q.exps t.exps < 0) (h3:Cl v l):Cl v (q::l) :=
 ⟨fun t ht=>(List.mem_cons.1 ht).elim (fun e=>e ▸ h1) (h3.t t),List.pairwise_cons.2 ⟨h2,h3.s⟩⟩
theorem KP {v:Int} (hv:v≤8):∀ (l:List Rt) (pr:Option Rt),(∀ t ∈ l,OkT t)→rS v pr l=true→Cl v l∧∀ q,pr=some q→(q.exps.length:Int)=v→∀ t ∈ l,aZ q.exps t.exps < 0
 | [],pr,_,_=>⟨Cl.nil v,fun _ _ _ t ht=>by cases ht⟩
 | t::l,pr,ok,h=>by
  unfold rS at h
  simp only [Bool.and_eq_true] at h
  obtain ⟨h1,h2,h3⟩:=h
  obtain ⟨g1,g2⟩:=KP hv l (some t) (fun x hx=>ok x (by simp [hx])) h3
  obtain ⟨k1,k2,k3,k4,k5⟩:=u7 h1
  have vt:VT v t:=⟨(ok t (by simp)).c,k1,hv,k2,k3,n4 k4,k5⟩
  have gt:=g2 t rfl k1
  refine ⟨Cl.mk' vt gt g1,fun q hq hl x hx=>?_⟩
  subst hq
  unfold xQ at h2
  have h4:=of_decide_eq_true h2
  rcases List.mem_cons.1 hx with rfl | hx
  ·exact h4
  ·exact (As (by omega) (vt.l2 (g1.t x hx))).1 (by omega) (gt x hx)
theorem ni {a:Rp} (oa:OkP a) (h:vp a=true):Cl a.vars a.terms∧0≤a.vars∧a.vars≤8∧a.terms.length≤500:=by
 unfold vp at h
 simp only [Bool.and_eq_true,decide_eq_true_eq] at h
 exact ⟨(KP h.2.1 _ none oa.t h.2.2.2).1,h.1,h.2.1,h.2.2.1⟩
theorem KQ {v:Int}:∀ (l:List Rt) (pr:Option Rt),Cl v l→(∀ q,pr=some q→∀ t ∈ l,aZ q.exps t.exps < 0)→rS v pr l=true
 | [],pr,_,_=>by unfold rS; rfl
 | t::l,pr,c,h=>by
  obtain ⟨c1,c2,c3⟩:=c.cons
  unfold rS
  simp only [Bool.and_eq_true]
  refine ⟨?_,?_,KQ l (some t) c3 fun q hq=>by cases hq; exact c2⟩
  ·unfold u6
   simp only [Bool.and_eq_true,decide_eq_true_eq]
   refine ⟨c1.len,c1.vc,c1.nz,?_,c1.d⟩
   rw [Bool.not_eq_true',List.any_eq_false]
   intro e he
   have:=c1.b e he
   unfold mf
   simp
   omega
  ·unfold xQ
   cases pr with
   | none=>rfl
   | some q=>exact decide_eq_true (h q rfl t (by simp))
theorem Ur {v:Int} {l:List Rt} (h:Cl v l) (h0:0≤v) (h8:v≤8) (hl:l.length≤500):vp ⟨v,l⟩=true:=by
 unfold vp
 simp only [Bool.and_eq_true,decide_eq_true_eq]
 exact ⟨h0,h8,hl,KQ l none h fun q hq=>by cases hq⟩
theorem QZ {v:Int} {l:List Rt} (h:Cl v l):OkP ⟨v,l⟩:=⟨fun t ht=>(h.t t ht).ok⟩
def aJ:List Rt→List Int→Nat
 | [],_=>0
 | q::l,x=>if aZ q.exps x < 0 then aJ l x+1 else 0
def ji:List Rt→Rt→Option (List Rt)
 | [],t=>some [t]
 | q::l,t=>if aZ q.exps t.exps < 0 then (ji l t).map (q::·) else if aZ q.exps t.exps=0 then (if (iF q.c t.c).2=0 then some (if (iF q.c t.c).1.m.length=0 then l else ⟨q.exps,(iF q.c t.c).1⟩::l) else none) else some (t::q::l)
theorem pE:∀ (l:List Rt) (x:List Int),aJ l x≤l.length
 | [],x=>Nat.le_refl _
 | q::l,x=>by
  unfold aJ
  split
  ·exact Nat.succ_le_succ (pE l x)
  ·exact Nat.zero_le _
theorem At:∀ {l:List Rt} {x:List Int} {i:Nat} {q:Rt},i < aJ l x→l[i]?=some q→aZ q.exps x < 0
 | [],x,i,q,h,_=>by simp [aJ] at h
 | p::l,x,i,q,h,hq=>by
  unfold aJ at h
  split at h
  ·rename_i hc
   cases i with
   | zero=>cases hq; exact hc
   | succ i=>exact At (l:=l) (i:=i) (by omega) (by simpa using hq)
  ·omega
theorem vQ:∀ {l:List Rt} {x:List Int} {q:Rt},l[aJ l x]?=some q→0≤aZ q.exps x
 | [],x,q,h=>by simp at h
 | p::l,x,q,h=>by
  unfold aJ at h
  split at h
  ·exact vQ (l:=l) (by simpa using h)
  ·rename_i hc
   cases h
   omega
theorem Pe {v:Int} {l:List Rt} {x:List Int} (c:Cl v l) (hx:(x.length:Int)=v) {i:Nat} {q:Rt} (hi:aJ l x < i) (h:l[i]?=some q):0 < aZ q.exps x:=by
 have hlt:=(List.getElem?_eq_some_iff.1 h).1
 have h1:l[aJ l x]?=some l[aJ l x]:=List.getElem?_eq_getElem (by omega)
 have h2:=vQ h1
 have h3:=(List.getElem?_eq_some_iff.1 h).2
 have h4:aZ (l[aJ l x]).exps q.exps < 0:=by
  rw [← h3]
  exact List.pairwise_iff_getElem.1 c.s _ _ (by omega) hlt hi
 have v1:=c.t _ (List.getElem_mem (by omega:aJ l x < l.length))
 have v2:=c.t q (List.mem_of_getElem? h)
 generalize l[aJ l x]=p at *
 have l1:x.length=p.exps.length:=by have:=v1.len; omega
 have h5:=(As l1 (v1.l2 v2)).1 (by rw [vf l1.symm]; omega) h4
 rw [vf (by have:=v2.len; omega:x.length=q.exps.length)]
 omega
theorem Au:∀ (l:List Rt) (t:Rt),ji l t=match l[aJ l t.exps]? with
  | none=>some (l.take (aJ l t.exps)++t::l.drop (aJ l t.exps))
  | some q=>if aZ q.exps t.exps=0 then (if (iF q.c t.c).2=0 then some (if (iF q.c t.c).1.m.length=0 then l.take (aJ l t.exps)++l.drop (aJ l t.exps+1) else l.set (aJ l t.exps) ⟨q.exps,(iF q.c t.c).1⟩) else none) else some (l.take (aJ l t.exps)++t::l.drop (aJ l t.exps))
 | [],t=>rfl
 | q::l,t=>by
  unfold ji aJ
  by_cases h:aZ q.exps t.exps < 0
  ·simp only [if_pos h,List.getElem?_cons_succ]
   rw [Au l t]
   cases l[aJ l t.exps]? with
   | none=>rfl
   | some p =>
    simp only []
    split
    ·split
     ·split <;> rfl
     ·rfl
    ·rfl
  ·simp only [if_neg h,List.getElem?_cons_zero,List.take_zero,List.drop_zero,List.nil_append,List.set_cons_zero,Nat.zero_add,List.drop_one,List.tail_cons]
theorem vR {v:Int}:∀ {l l':List Rt} {t:Rt},Cl v l→VT v t→ji l t=some l'→Cl v l'∧∀ q:List Int,(q.length:Int)=v→(∀ x ∈ l,aZ q x.exps < 0)→aZ q t.exps < 0→∀ x ∈ l',aZ q x.exps < 0
 | [],l',t,c,vt,h=>by
  cases h
  exact ⟨Cl.mk' vt (fun _ h=>by cases h) c,fun q _ _ h x hx=>by simp at hx; subst hx; exact h⟩
 | p::l,l',t,c,vt,h=>by
  obtain ⟨c1,c2,c3⟩:=c.cons
  unfold ji at h
  split at h
  ·rename_i h1
   rw [Option.map_eq_some_iff] at h
   obtain ⟨l2,h2,rfl⟩:=h
   obtain ⟨g1,g2⟩:=vR c3 vt h2
   refine ⟨Cl.mk' c1 (g2 p.exps c1.len c2 h1) g1,fun q hq k1 k2 x hx=>?_⟩
   rcases List.mem_cons.1 hx with rfl | hx
   ·exact k1 x (by simp)
   ·exact g2 q hq (fun y hy=>k1 y (by simp [hy])) k2 x hx
  ·split at h
   ·rename_i h1 h2
    split at h
    ·rename_i h3
     cases h
     split
     ·exact ⟨c3,fun q hq k1 k2 x hx=>k1 x (by simp [hx])⟩
     ·rename_i h4
      obtain ⟨a1,a2⟩:=O9 p.c t.c
      refine ⟨Cl.mk' ⟨a2,c1.len,c1.v8,a1,h4,c1.b,c1.d⟩ c2 c3,fun q hq k1 k2 x hx=>?_⟩
      rcases List.mem_cons.1 hx with rfl | hx
      ·exact k1 p (by simp)
      ·exact k1 x (by simp [hx])
    ·cases h
   ·rename_i h1 h2
    cases h
    have h3:aZ t.exps p.exps < 0:=by
     rw [vf (c1.l2 vt)]
     omega
    refine ⟨Cl.mk' vt (fun x hx=>?_) c,fun q hq k1 k2 x hx=>?_⟩
    ·rcases List.mem_cons.1 hx with rfl | hx
     ·exact h3
     ·exact (As (vt.l2 c1) (c1.l2 (c3.t x hx))).1 (by omega) (c2 x hx)
    ·rcases List.mem_cons.1 hx with rfl | hx
     ·exact k2
     ·exact k1 x hx
theorem sN:∀ {l l':List Rt} {t:Rt},ji l t=some l'→l'.length≤l.length+1
 | [],l',t,h=>by cases h; simp
 | p::l,l',t,h=>by
  unfold ji at h
  split at h
  ·rw [Option.map_eq_some_iff] at h
   obtain ⟨l2,h2,rfl⟩:=h
   simpa using sN h2
  ·split at h
   ·split at h
    ·cases h
     split
     ·simp
      omega
     ·simp
    ·cases h
   ·cases h
    simp
theorem Fj:∀ {l:List Rt} {t:Rt},(∀ q ∈ l,aZ q.exps t.exps < 0)→ji l t=some (l++[t])
 | [],t,_=>rfl
 | p::l,t,h=>by
  unfold ji
  rw [if_pos (h p (by simp)),Fj fun q hq=>h q (by simp [hq])]
  rfl
def dG:List Rt→List Rt→Option (List Rt)
 | l,[]=>some l
 | l,t::ts=>(ji l t).bind fun l'=>dG l' ts
theorem xS:∀ (ts us:List Rt) (l:List Rt),dG l (ts++us)=(dG l ts).bind fun l'=>dG l' us
 | [],us,l=>rfl
 | t::ts,us,l=>by
  show (ji l t).bind _=((ji l t).bind _).bind _
  cases ji l t with
  | none=>rfl
  | some l'=>exact xS ts us l'
theorem Av {v:Int}:∀ {ts l l':List Rt},Cl v l→(∀ t ∈ ts,VT v t)→dG l ts=some l'→Cl v l'∧l'.length≤l.length+ts.length
 | [],l,l',c,_,h=>by cases h; exact ⟨c,Nat.le_refl _⟩
 | t::ts,l,l',c,vt,h=>by
  unfold dG at h
  rw [Option.bind_eq_some_iff] at h
  obtain ⟨l2,h2,h3⟩:=h
  obtain ⟨g1,g2⟩:=Av (vR c (vt t (by simp)) h2).1 (fun x hx=>vt x (by simp [hx])) h3
  have:=sN h2
  exact ⟨g1,by simp; omega⟩
theorem Fk {v:Int}:∀ {ts l:List Rt},Cl v (l++ts)→dG l ts=some (l++ts)
 | [],l,_=>by simp [dG]
 | t::ts,l,c=>by
  have h1:ji l t=some (l++[t]):=Fj fun q hq=>by
   have:=List.pairwise_append.1 c.s
   exact this.2.2 q hq t (by simp)
  unfold dG
  rw [h1]
  show dG (l++[t]) ts=_
  rw [Fk (v:=v) (by rw [List.append_assoc]; exact c),List.append_assoc]
  rfl
section
variable {call:cI} {md:Mode} {s:af} {h:aa}
@[go_sem] theorem aa8 (d k x y rest):an call md (⟨some d,none,.cpy k x y⟩::rest) s h=aI (bB md.nm s (some d) (zp h k (ev s x) (ev s y))) (an call md rest):=_root_.id rfl
@[go_sem] theorem YP (d k x lo hi rest):an call md (⟨some d,none,.slcM k x lo hi⟩::rest) s h=aI (bB md.nm s (some d) (vu h k (ev s x) (evo s lo) (evo s hi))) (an call md rest):=_root_.id rfl
@[go_sem] theorem aa9 (d k z x rest):an call md (⟨d,none,.clr k z x⟩::rest) s h=aI (bB md.nm s d (zq h k z (ev s x))) (an call md rest):=_root_.id rfl
@[go_sem] theorem YQ (d k b z x n rest):an call md (⟨some d,none,.appz k b z x n⟩::rest) s h=aI (bB md.nm s (some d) (qo h d k b z (ev s x) (ev s n))) (an call md rest):=_root_.id rfl
@[go_sem] theorem YR (d x rest):an call md (⟨some d,none,.take x⟩::rest) s h=aI (bB md.nm s (some d) (x3 h d (ev s x))) (an call md rest):=_root_.id rfl
@[go_sem] theorem Xh (d f zas rest):an call md (⟨some d,none,.callC f zas⟩::rest) s h=aI (bB md.nm s (some d) ((aj call md h d (zas.map (ev s)) (ev s f)).bind (mE d))) (an call md rest):=_root_.id rfl
@[go_sem] theorem YS (ps acc d k x y rest):br call md ps acc (⟨some d,none,.cpy k x y⟩::rest) s h=dV call md ps acc rest s (some d) (fun _=>none) (zp h k (ev s x) (ev s y)):=cu _ _ _ _ rfl
@[go_sem] theorem YT (ps acc d k b x y rest):br call md ps acc (⟨some d,none,.app k b x y⟩::rest) s h=dV call md ps acc rest s (some d) (fun _=>none) (wL h d k b (ev s x) (ev s y)):=cu _ _ _ _ rfl
@[go_sem] theorem Us (ps acc d f zas rest):br call md ps acc (⟨some d,none,.callC f zas⟩::rest) s h=dV call md ps acc rest s (some d) (fun _=>tU d h (gG (zas.map (ev s)) (ev s f))) ((aj call md h d (zas.map (ev s)) (ev s f)).bind (mE d)):=cu _ _ _ _ rfl
@[go_sem] theorem Xi (d h l):tU d h l=if l.all dat=true then some ([],[2000+8*d]) else none:=_root_.id rfl
@[go_sem] theorem aba (d k r h ks):mE d (.sl k r,h,ks)=some (.sl k r,h,ks):=_root_.id rfl
@[go_sem] theorem YU (d h ks):mE d (.emp,h,ks)=some (.emp,h,ks):=_root_.id rfl
@[go_sem] theorem YV (d id k lo n h ks):mE d (.rsl id none k lo n,h,ks)=if id=2000+8*d then (iq h id k lo n (h id)).map (fun q=>(q.1,q.2.1,ks++q.2.2)) else none:=_root_.id rfl
@[go_sem] theorem abb (h k id k' lo n y):zp h k (.rsl id none k' lo n) y=(C9 y).bind fun l=>(kD h k (C8 n y)).bind fun ys=>Da h id k k' lo n l ys (h id):=_root_.id rfl
@[go_sem] theorem abc (k r):C9 (.sl k r)=some r.length:=_root_.id rfl
@[go_sem] theorem YW (id sub k lo n):C9 (.rsl id sub k lo n)=some n:=_root_.id rfl
@[go_sem] theorem abd (m k r):C8 m (.sl k r)=.sl k (r.take m):=_root_.id rfl
@[go_sem] theorem YX (m id sub k lo n):C8 m (.rsl id sub k lo n)=.rsl id sub k lo (min m n):=_root_.id rfl
@[go_sem] theorem abe (h id k lo n l ys r):Da h id k k lo n l ys (.ar k r)=if lo≤r.length∧ys.length=min l n then some (.v (.int .i64 ys.length),upd h id (.ar k (r.take lo++ys++r.drop (lo+ys.length))),[]) else none:=by simp [Da]
@[go_sem] theorem YY (h k id l0 n lo hi):vu h k (.rsl id none k l0 n) lo hi=xZ h k id l0 lo hi (h id):=by simp [vu]
@[go_sem] theorem YZ (h k id l0 lo hi r):xZ h k id l0 lo hi (.ar k r)=if hi.isSome=true∧l0≤r.length then (fv (r.length - l0) lo hi none).map fun p=>(.rsl id none k (l0+p.1) (p.2 - p.1),h,[]) else none:=by simp [xZ]
@[go_sem] theorem abf (h k z id lo n):zq h k z (.rsl id none k lo n)=Db h k id lo n z (h id):=by simp [zq]
@[go_sem] theorem abg (h k id lo n z r):Db h k id lo n z (.ar k r)=if lo+n≤r.length then some (.tup [],upd h id (.ar k (r.take lo++List.replicate n z++r.drop (lo+n))),[]) else none:=by simp [Db]
@[go_sem] theorem Y0 (h d k b z id i c m):qo h d k b z (.rsc id k 0 i c) (.v (.int .i64 m))=if 0 < m∧c < i+m.toNat then x2 h d k b id i m.toNat z (h id) else none:=by simp [qo]
@[go_sem] theorem Y1 (h d k b id i m z r):x2 h d k b id i m z (.ar k r)=if i≤r.length∧(i+m)*b≤140737488355328 then bF h d k (r.take i++List.replicate m z) (i+m) [] else none:=by simp [x2]
@[go_sem] theorem abh (id k lo n c):io false (.rsc id k lo n c)=some (I n):=_root_.id rfl
@[go_sem] theorem abi (id k lo n c):zk (.rsc id k lo n c)=some (I c):=_root_.id rfl
@[go_sem] theorem abj (k id l0 n c lo hi mx):cx k (.rsc id k l0 n c) lo hi mx=C2 k id l0 n c lo hi mx:=by simp [cx]
@[go_sem] theorem abk (k id l0 n c x):C2 k id l0 n c none (some x) none=(fT n c (some x)).map fun r=>.rsc id k l0 r c:=_root_.id rfl
@[go_sem] theorem abl (k id l0 n c x hi):C2 k id l0 n c (some x) hi none=(fv n (some x) hi none).map fun p=>.rsl id none k (l0+p.1) (p.2 - p.1):=_root_.id rfl
@[go_sem] theorem abm (ks id k lo n c):k7 ks (.rsc id k lo n c)=if dI ks id none=true then .any else .rsc id k lo n c:=_root_.id rfl
@[go_sem] theorem Y2 (h d id k i j):x3 h d (.ref id none k i j)=CI h d id (i*k+j) (h id):=_root_.id rfl
@[go_sem] theorem Y3 (h d id p cs):CI h d id p (.bx cs)=vw h d id p cs cs[p]?:=_root_.id rfl
@[go_sem] theorem Xj (h d id p cs k r):vw h d id p cs (some (.osl k r))=bF (upd h id (.bx (cs.set p .any))) d k r r.length [(id,true)]:=_root_.id rfl
@[go_sem] theorem Xk (h d id p cs):vw h d id p cs (some .emp)=some (.emp,h,[]):=_root_.id rfl
@[go_sem] theorem Y4 (nm:Bool) (s h):nB nm [] s h=some ⟨s,h⟩:=_root_.id rfl
@[go_sem] theorem Xl (nm:Bool) (i l s h):nB nm (i::l) s h=if 200000≤i then (zu (i - 200000) s h (s (i - 200000))).bind (fun r=>if iN nm r.2.2 then nB nm l r.1 r.2.1 else none) else if 100000≤i then nB nm l s (sf h (s (i - 100000))) else (Hz i s h (s i)).bind fun r=>if iN nm r.2.2 then nB nm l r.1 r.2.1 else none:=_root_.id rfl
@[go_sem] theorem Ut (ks):iN false ks=true:=_root_.id rfl
@[go_sem] theorem abn (i s h id k lo n):zu i s h (.rsl id none k lo n)=tV i s h id k lo n (h id):=_root_.id rfl
@[go_sem] theorem abo (i s h id k lo n c):zu i s h (.rsc id k lo n c)=tV i s h id k lo n (h id):=_root_.id rfl
@[go_sem] theorem abp (i s h id k lo n r):tV i s h id k lo n (.ar k r)=if lo=0∧aF i=false∧cY (h i)=true then some (upd (d6 [(id,false)] s) i (.rsl i none k 0 n),upd (upd h id .dead) i (.ar k r),[(id,false)]) else none:=by simp [tV]
@[go_sem] theorem Y5 (h id k lo n):sf h (.rsl id none k lo n)=(match h id with | .ar k rows=>upd h id (.ar k (rows.take (lo+n))) | _=>h):=_root_.id rfl
@[go_sem] theorem abq (nm:Bool) (s h):jR nm 0 s h=some ⟨s,h⟩:=_root_.id rfl
@[go_sem] theorem abr (nm:Bool) (i s h):jR nm (i+1) s h=(wd i s h (s i)).bind fun r=>if iN nm r.2.2 then some ⟨r.1,r.2.1⟩ else none:=_root_.id rfl
@[go_sem] theorem abt (i s h):wd i s h .emp=some (s,h,[]):=_root_.id rfl
@[go_sem] theorem abu (i s h id p k lo n):wd i s h (.rsl id (some p) k lo n)=if aF i=false then GF i s h id p k lo n (h id) else none:=_root_.id rfl
@[go_sem] theorem acT (i s h id p k lo n cs):GF i s h id p k lo n (.bx cs)=x8 i s h id p k lo n cs cs[p]?:=_root_.id rfl
@[go_sem] theorem abv (i s h id p k lo n cs r):x8 i s h id p k lo n cs (some (.osl k r))=if lo=0∧n=r.length∧cY (h i)=true then some (upd (d6 [(id,true)] s) i (.rsl i none k 0 n),upd (upd h id (.bx (cs.set p .any))) i (.ar k r),[(id,true)]) else none:=by simp [x8]
@[go_sem] theorem abw (m g ps l):Mi call md m g ps l s h=aI (br call md ps [] (l.take m) s h) fun s h=>aI (jR md.nm g s h) (an call md (l.drop m)):=_root_.id rfl
end
end Go.Ab
namespace Go.Ab
open Go Go.IntWalk
set_option maxRecDepth 4000
set_option maxHeartbeats 1000000
theorem Hh {t:Rt} {x:List Int} (ht:sm t.exps) (hx:sm x) (hl:t.exps.length=x.length):R F.poly_collector_add_1 [.agg (aW t),.sl 1 (bo x)] []=some (I (aZ t.exps x),[]):=by
 refine aO qZ qY (pm false) rfl ?_
 have ho:=Fb ht hx hl
 simp only [dW,lF,aW,go_sem,↓reduceIte,adx,adz,ady,ho]
theorem Pf {v:Int} {l:List Rt} {x:List Int} (c:Cl v l) (hx:sm x) (hl:(x.length:Int)=v) (h2:l.length≤1000000):∀ (k i j:Nat),j - i≤k→i≤aJ l x→aJ l x≤j→j≤l.length→∀ (s:af) (h:aa),s 0=.sl 4 (az l)→s 1=.sl 1 (bo x)→s 2=.fn F.poly_collector_add_1 [] []→s 8=I l.length→s 9=I i→s 10=I j →
  aB 0 [0,1,2,8,9] (aD (au R (ab false) aS) [0,1,2,8,9,10] [] s h)=some (.normal,⟨upd (upd (upd (upd (upd (fun _=>.any) 9 (I (aJ l x))) 8 (I l.length)) 2 (.fn F.poly_collector_add_1 [] [])) 1 (.sl 1 (bo x))) 0 (.sl 4 (az l)),fun _=>.dead⟩):=by
 intro k
 induction k with
 | zero =>
  intro i j hk hi hj hn s h h0 h1 h2' h8 h9 h10
  have e1:((i:Int) < (j:Int))=False:=ff (by omega)
  obtain rfl:i=aJ l x:=by omega
  rw [av]
  simp only [aS,go_sem,↓reduceIte,adx,h0,h1,h2',h8,h9,h10,e1]
 | succ k ih =>
  intro i j hk hi hj hn s h h0 h1 h2' h8 h9 h10
  by_cases hij:i < j
  ·have e1:((i:Int) < (j:Int))=True:=tt (by omega)
   have e2:IntKind.i64.wrap ((i:Int)+(j:Int))=((i+j:Nat):Int):=wi (by omega) (by omega)
   have hlt:(i+j) / 2 < l.length:=by omega
   have g1:IntKind.u64.wrap (((i+j:Nat)):Int)=((i+j:Nat):Int):=gu rfl (by omega)
   have g2:((1:Int) < 0)=False:=ff (by decide)
   have g3:Int.fdiv ((i+j:Nat):Int) (2 ^ (min (Int.toNat 1) 64))=(((i+j) / 2:Nat):Int):=by
    rw [show (2:Int) ^ (min (Int.toNat 1) 64)=2 from rfl,Int.fdiv_eq_ediv_of_nonneg _ (by decide)]
    omega
   have g4:IntKind.i64.wrap (((i+j) / 2:Nat):Int)=(((i+j) / 2:Nat):Int):=wi (by omega) (by omega)
   have e3:aX (az l) (((i+j) / 2:Nat):Int)=some (.ipt (aW l[(i+j) / 2])):=eW rfl (List.getElem?_eq_getElem hlt)
   have q:=c.t _ (List.getElem_mem hlt)
   have hc:=Hh q.sm hx (by have:=q.len; omega)
   have p1:aZ (l[(i+j) / 2]).exps x < 0→(i+j) / 2 < aJ l x:=fun ho=>by
    rcases Nat.lt_trichotomy ((i+j) / 2) (aJ l x) with h | h | h
    ·exact h
    ·have:=vQ (l:=l) (x:=x) (q:=l[(i+j) / 2]) (by rw [← h]; exact List.getElem?_eq_getElem hlt)
     omega
    ·have:=Pe c hl h (List.getElem?_eq_getElem hlt)
     omega
   have p2:¬ aZ (l[(i+j) / 2]).exps x < 0→aJ l x≤(i+j) / 2:=fun ho=>by
    rcases Nat.lt_or_ge ((i+j) / 2) (aJ l x) with h | h
    ·exact absurd (At h (List.getElem?_eq_getElem hlt)) ho
    ·exact h
   have i1:=ih ((i+j) / 2+1) j (by omega)
   have i2:=ih i ((i+j) / 2) (by omega) hi
   generalize l[(i+j) / 2]=t at e3 q hc p1 p2
   rw [av]
   generalize aD _ _ _=L at i1 i2 ⊢
   simp only [aW] at hc e3
   by_cases ho:aZ t.exps x < 0
   ·have e4:(aZ t.exps x < 0)=True:=tt ho
    have e5:IntKind.i64.wrap ((((i+j) / 2:Nat):Int)+1)=(((i+j) / 2+1:Nat):Int):=wi (by omega) (by omega)
    have:=p1 ho
    simp only [aS,go_sem,↓reduceIte,adx,adz,ady,adA,h0,h1,h2',h8,h9,h10,e1,e2,g1,g2,g3,g4,e3,hc,e4,e5]
    exact i1 (by omega) hj hn _ _ rfl rfl rfl rfl rfl rfl
   ·have e4:(aZ t.exps x < 0)=False:=ff ho
    have:=p2 ho
    simp only [aS,go_sem,↓reduceIte,adx,adz,ady,adA,h0,h1,h2',h8,h9,h10,e1,e2,g1,g2,g3,g4,e3,hc,e4]
    exact i2 this (by omega) _ _ rfl rfl rfl rfl rfl rfl
  ·exact ih i j (by omega) hi hj hn s h h0 h1 h2' h8 h9 h10
def vg (l:List Rt) (x:List Int):Bool:=match l[aJ l x]? with
 | some q=>decide (aZ q.exps x=0)
 | none=>false
theorem Jb {v:Int} {l:List Rt} {x:List Int} (c:Cl v l) (hx:sm x) (hl:(x.length:Int)=v) (h2:l.length≤1000000):R F.slices_BinarySearchFunc_api_Term_api_Term_Sint_ [.sl 4 (az l),.sl 1 (bo x),.fn F.poly_collector_add_1 [] []] []=some (.tup [I (aJ l x),B (vg l x)],[]):=by
 refine aO fS fR (cj false) rfl ?_
 have h3:=Pf c hx hl h2 l.length 0 l.length (by omega) (Nat.zero_le _) (pE l x) (Nat.le_refl _)
 simp only [Int.natCast_zero] at h3
 simp only [bd,cJ,go_sem,↓reduceIte,adx]
 rw [h3 _ _ rfl rfl rfl rfl rfl rfl]
 unfold vg
 cases hq:l[aJ l x]? with
 | none =>
  have:l.length≤aJ l x:=List.getElem?_eq_none_iff.1 hq
  have e1:((aJ l x:Int) < (l.length:Int))=False:=ff (by omega)
  simp only [go_sem,↓reduceIte,adx,e1]
 | some q =>
  have hlt:=(List.getElem?_eq_some_iff.1 hq).1
  have e1:((aJ l x:Int) < (l.length:Int))=True:=tt (by omega)
  have vq:=c.t q (List.mem_of_getElem? hq)
  have hc:=Hh vq.sm hx (by have:=vq.len; omega)
  have e3:aX (az l) (aJ l x:Int)=some (.ipt (aW q)):=eW rfl hq
  simp only [aW] at hc e3
  by_cases ho:aZ q.exps x=0
  ·have e4:(aZ q.exps x=0)=True:=tt ho
   simp only [go_sem,↓reduceIte,adx,adz,ady,adA,e1,e3,hc,e4,decide_true]
  ·have e4:(aZ q.exps x=0)=False:=ff ho
   simp only [go_sem,↓reduceIte,adx,adz,ady,adA,e1,e3,hc,e4,decide_false]
end Go.Ab
namespace Go.Ab
open Go Go.IntWalk
set_option maxRecDepth 4000
set_option maxHeartbeats 1000000
theorem Bj {d:Rd} (hn:d.m.length ≠ 0) (h1:d.m.length≤100000):R F.poly_copied [aC d] []=some (aC d,[]):=by
 refine aO BY BX (xc false) rfl ?_
 have hc:=xO (m:=d.m) (fun h=>hn (by rw [h]; rfl)) h1
 simp only [kM,s6,aC,aP,go_sem,↓reduceIte,adx,adz,ady,adA,hc]
theorem Hi {h:aa} {d id p n:Nat} {cs:List AV} {rows:List (List AV)} {x:AV} (hh:h id=.bx cs) (hp:cs[p]?=some (.osl 4 rows)) (hn:n=rows.length) (hx:∃ r,x=.sl 1 r) :
  aj R (ab false) h d [.rsl id (some p) 4 0 n,x,.fn F.poly_collector_add_1 [] []] (.fn F.slices_BinarySearchFunc_api_Term_api_Term_Sint_ [] [])=(R F.slices_BinarySearchFunc_api_Term_api_Term_Sint_ (aM [[.o 5 [.o 2 [],.o 0 [],.o 2 [],.o 0 []]],[.o 2 []],[]] [.sl 4 rows,x,.fn F.poly_collector_add_1 [] []]) []).bind (Dd h):=by
 obtain ⟨r,rfl⟩:=hx
 subst hn
 unfold aj
 rw [if_pos (by simp [jC,cK,x4])]
 simp only [x5,zt,Hy,mC,fM,hh,hp,lZ,dy,List.nil_append,List.append_nil,cG]
 simp
theorem M3 (o:Ob):ae [o]=upd (fun _=>.dead) 1000 o:=by
 funext i
 unfold ae upd
 by_cases h:i=1000
 ·subst h
  rfl
 ·rw [if_neg h]
  split
  ·rw [List.getElem?_eq_none (by simp; omega)]
   rfl
  ·rfl
theorem qI {f:FuncId} {fd:FD} {args:List AV} {o:Ob} {r:AV × List Ob} (hE:am.E f=none) (hC:am.C f=some fd) (hk:am.md.keep f=false) (h1:args.length=fd.np)
  (hz:oT false fd.rs fd.res 1 (au R (ab false) fd.body (oU args) (upd (fun _=>.dead) 1000 o))=some r):R f args [o]=some r:=by
 refine J9 false hE hC hk h1 (by simp) ?_
 rw [M3]
 exact hz
theorem CX {f:FuncId} {g:List AV→List Ob→Option (AV × List Ob)} {args:List AV} {hs:List Ob} (hE:am.E f=some g):R f args hs=g args hs:=sA hE
theorem KR:R F.slices_Clone_int_int_ [.sl 1 []] []=some (.sl 1 [],[]):=by
 rw [CX (g:=J8) (by kernel_rfl)]
 rfl
theorem KS {x:Int} {l:List Int} (h:l.length≤1000000):R F.slices_Clone_int_int_ [.sl 1 (bo (x::l))] []=some (.osl 1 (bo (x::l)),[]):=by
 rw [CX (g:=J8) (by kernel_rfl)]
 show (if (((bo l).length+1)*8≤140737488355328) then _ else _)=_
 rw [if_pos (by rw [vP]; omega)]
 rfl
def oO (c:AV) (l:List Rt):Prop:=c=.osl 4 (az l)∨(c=.emp∧l=[])
def t3 (v:Int) (c:AV) (e:Int):Ob:=.bx [I v,c,I e]
theorem rW {h:aa} {v e:Int} {c:AV} {l:List Rt} (hc:oO c l) (hh:h 1000=t3 v c e):mG [] 1 h []=some (.tup [],[t3 v c e]):=by
 have hp:bI 1=[1000]:=rfl
 have h2:aU [1000] (t3 v c e)=true:=by
  rcases hc with rfl | ⟨rfl,_⟩ <;> rfl
 unfold mG
 rw [hp]
 simp [hh,h2,eF,kF,jS,aM]
theorem M4 {v e:Int} {c x:AV} {d:Rd} {l:List Rt} (hc:oO c l) (he:e ≠ 0):R F.poly_collector_add [.ref 1000 none 0 0 0,x,aC d] [t3 v c e]=some (.tup [],[t3 v c e]):=by
 refine qI fF fE (cZ false) rfl ?_
 have e1:(e=0)=False:=ff he
 simp only [bT,dL,t3,aC,aP,go_sem,↓reduceIte,adx,adz,ady,e1]
 exact rW hc rfl
theorem rX (h:aa) (i:Int) (b:Bool):Dd h (.tup [I i,B b],[])=some (.tup [I i,B b],h,[]):=rfl
theorem nj {h:aa} {id p id2 k n:Nat} {rows:List (List AV)} {cs:List AV} (h1:h id2=.ar k rows) (hn:n=rows.length) (h2:h id=.bx cs) (hne:id ≠ id2) (hp:p < cs.length) :
  lC h id p 1 [.rsl id2 none k 0 n]=some (upd (upd h id2 .dead) id (.bx (cs.set p (.osl k rows))),(id2,false)::(if cs[p]?.any aL then [(id,true)] else [])):=by
 have h3:upd h id2 .dead id=.bx cs:=by
  unfold upd
  rw [if_neg hne,h2]
 subst hn
 simp [lC,wc,h1,C5,C6,h3,hp,r8]
theorem Q0 {l:List Rt} {t:Rt} {n i:Nat} (hn:n=l.length) (hi:i≤n) (h2:n≤1000000):R F.slices_Insert_api_Term_api_Term_ [.rsl 1000 none 4 0 n,I i,.sl 4 [aW t]] [.ar 4 (az l)]=some (.osl 4 (az (l.take i++t::l.drop i)),[.dead]):=by
 rw [CX (g:=D6 4 64) (by kernel_rfl)]
 show (if (4:Nat)=4∧(4:Nat)=4∧(4:Nat)=4∧n=(az l).length∧(0:Int)≤(i:Int)∧(i:Int)≤(n:Int)∧(n+1)*64≤140737488355328 then some (AV.osl 4 ((az l).take (i:Int).toNat++aW t::(az l).drop (i:Int).toNat),[Ob.dead]) else none)=_
 rw [if_pos ⟨rfl,rfl,rfl,by rw [dQ,hn],by omega,by omega,by omega⟩,Int.toNat_natCast]
 simp [az,List.map_take,List.map_drop]
theorem Pg {t:Rt}:R F.slices_Insert_api_Term_api_Term_ [.emp,I 0,.sl 4 [aW t]] []=some (.osl 4 (az [t]),[]):=by
 rw [CX (g:=D6 4 64) (by kernel_rfl)]
 rfl
theorem KT (t:Rt):nrmV [.o 5 [.o 2 [],.o 0 [],.o 2 [],.o 0 []]] (.sl 4 [aW t])=.sl 4 [aW t]:=by
 have:=rR [t]
 simp only [az,List.map_cons,List.map_nil] at this
 simp only [nrmV,List.headD_cons,nrmL,List.map_cons,List.map_nil,this]
theorem M5 {l:List Rt} {t:Rt} {h:aa} {d a b n i:Nat} (ha:h a=.ar 4 (az l)) (hb:h b=.ar 4 [aW t]) (hab:a ≠ b) (hda:2000+8*d ≠ a) (hdb:2000+8*d ≠ b) (hd:h (2000+8*d)=.dead) (hn:n=l.length) (hi:i≤n) (h2:n≤1000000) :
  aj R (ab false) h d [.rsl a none 4 0 n,.v (.int .i64 i),.rsl b none 4 0 1] (.fn F.slices_Insert_api_Term_api_Term_ [] []) =
   some (.rsl (2000+8*d) none 4 0 (l.length+1),upd (upd (upd h b (.fz 4 [aW t])) a .dead) (2000+8*d) (.ar 4 (az (l.take i++t::l.drop i))),[(a,true),(a,false)]):=by
 have hm:=fu false
 have hs:=eR false
 have hk:=ew false
 have hf:=Q0 (t:=t) hn hi h2
 have hb':jC (ab false) [.rsl a none 4 0 n,.v (.int .i64 i),.rsl b none 4 0 1] (.fn F.slices_Insert_api_Term_api_Term_ [] [])=false:=by
  simp [jC,hm]
 have h1:ag h [2,0,0] [.rsl a none 4 0 n,.v (.int .i64 i),.rsl b none 4 0 1]=some ([.rsl a none 4 0 n,.v (.int .i64 i),.sl 4 [aW t]],upd h b (.fz 4 [aW t]),[]):=by
  simp [ag,bD,lA,c9,ak,ha,hb,LM,iq,ip]
 have g1:upd h b (.fz 4 [aW t]) a=.ar 4 (az l):=by
  unfold upd
  rw [if_neg hab,ha]
 have g2:upd h b (.fz 4 [aW t]) (2000+8*d)=.dead:=by
  unfold upd
  rw [if_neg hdb,hd]
 have hr:bX (upd h b (.fz 4 [aW t])) 40 [a] 0=[a]:=by
  simp [bX,g1,Dc,bp]
 have hp:bp [] ([AV.rsl a none 4 0 n,.v (.int .i64 i),.sl 4 [aW t]].flatMap bh)=[a]:=by
  simp [bh,cz,bp]
 have h3:aY [a] a=1000:=by simp [aY]
 have hnr:b9 (.osl 4 (az (l.take i++t::l.drop i)))=1:=rfl
 have hlen:(az (l.take i++t::l.drop i)).length=l.length+1:=by
  rw [dQ,List.length_append,List.length_take,List.length_cons,List.length_drop]
  omega
 have hnm:aM [[],[],[.o 5 [.o 2 [],.o 0 [],.o 2 [],.o 0 []]]] [.rsl a none 4 0 n,.v (.int .i64 i),.sl 4 [aW t]]=[.rsl a none 4 0 n,.v (.int .i64 i),.sl 4 [aW t]]:=by
  simp only [aM,KT]
  rfl
 unfold aj
 rw [if_neg (by rw [hb']; exact Bool.false_ne_true)]
 simp only [dh,hm,List.nil_append,List.append_nil,h1,Option.bind_some,hp,hr,hs,hnm]
 simp [jQ,aK,aN,g1,aU,cY,cU,fV,h3,cA,hf,d8,hnr,cN,g2,dz,bf,oe,tP,jP,cz,dU,cQ,pH,ck,mat,bK,dC,hk,sd,hm,hlen]
 exact ⟨by unfold bE; rw [if_neg (by omega)],by rw [rr]⟩
theorem M6 {h:aa} {d:Nat} {r:List (List AV)} {i:Int} {b:Bool} (hR:R F.slices_BinarySearchFunc_api_Term_api_Term_Sint_ [.sl 4 [],nrmV [.o 2 []] (.sl 1 r),.fn F.poly_collector_add_1 [] []] []=some (.tup [I i,B b],[])) (h0:h (2000+8*d)=.dead) (h1:h (2000+8*d+1)=.dead) :
  aj R (ab false) h d [.emp,.sl 1 r,.fn F.poly_collector_add_1 [] []] (.fn F.slices_BinarySearchFunc_api_Term_api_Term_Sint_ [] [])=some (.tup [I i,B b],h,[]):=by
 have hm:=cK false
 have hs:=cG false
 have hk:=cj false
 have hb':jC (ab false) [.emp,.sl 1 r,.fn F.poly_collector_add_1 [] []] (.fn F.slices_BinarySearchFunc_api_Term_api_Term_Sint_ [] [])=false:=by
  simp [jC,hm,x4]
 have h3:ag h [3,0,0] [.emp,.sl 1 r,.fn F.poly_collector_add_1 [] []]=some ([.emp,.sl 1 r,.fn F.poly_collector_add_1 [] []],h,[]):=by
  simp [ag,bD,lA,c9,ak]
 have hp:bp [] ([AV.emp,.sl 1 r,.fn F.poly_collector_add_1 [] []].flatMap bh)=[]:=by
  simp [bh,cz,bp]
 have hnm:aM [[.o 5 [.o 2 [],.o 0 [],.o 2 [],.o 0 []]],[.o 2 []],[]] [.emp,.sl 1 r,.fn F.poly_collector_add_1 [] []]=[.sl 4 [],nrmV [.o 2 []] (.sl 1 r),.fn F.poly_collector_add_1 [] []]:=by
  simp only [aM]
  rfl
 obtain ⟨q,hq⟩:∃ q,nrmV [.o 2 []] (.sl 1 r)=.sl 1 q:=⟨_,rfl⟩
 rw [hq] at hR hnm
 have hr:∀ n,bX h n [] 0=[]:=fun n=>by cases n <;> rfl
 unfold aj
 rw [if_neg (by rw [hb']; exact Bool.false_ne_true)]
 simp only [dh,hm,List.nil_append,List.append_nil,h3,Option.bind_some,hp,hr,hs,hnm]
 simp [jQ,aK,aN,cU,fV,hR,d8,b9,cN,h0,h1,cY,dz,oe,tP,jP,dU,cQ,pH,ck,mat,bi,bK,dC,hk,sd,hm]
theorem KU {t:Rt} {h:aa} {d b:Nat} (hb:h b=.ar 4 [aW t]) (hdb:2000+8*d ≠ b) (hd:h (2000+8*d)=.dead) :
  aj R (ab false) h d [.emp,.v (.int .i64 0),.rsl b none 4 0 1] (.fn F.slices_Insert_api_Term_api_Term_ [] [])=some (.rsl (2000+8*d) none 4 0 1,upd (upd h b (.fz 4 [aW t])) (2000+8*d) (.ar 4 (az [t])),[]):=by
 have hm:=fu false
 have hs:=eR false
 have hk:=ew false
 have hf:=Pg (t:=t)
 have hb':jC (ab false) [.emp,.v (.int .i64 0),.rsl b none 4 0 1] (.fn F.slices_Insert_api_Term_api_Term_ [] [])=false:=by
  simp [jC,hm]
 have h1:ag h [2,0,0] [.emp,.v (.int .i64 0),.rsl b none 4 0 1]=some ([.emp,.v (.int .i64 0),.sl 4 [aW t]],upd h b (.fz 4 [aW t]),[]):=by
  simp [ag,bD,lA,c9,ak,hb,iq,ip]
 have g2:upd h b (.fz 4 [aW t]) (2000+8*d)=.dead:=by
  unfold upd
  rw [if_neg hdb,hd]
 have hp:bp [] ([AV.emp,.v (.int .i64 0),.sl 4 [aW t]].flatMap bh)=[]:=by
  simp [bh,cz,bp]
 have hnr:b9 (.osl 4 (az [t]))=1:=rfl
 have hnm:aM [[],[],[.o 5 [.o 2 [],.o 0 [],.o 2 [],.o 0 []]]] [.emp,.v (.int .i64 0),.sl 4 [aW t]]=[.emp,.v (.int .i64 0),.sl 4 [aW t]]:=by
  simp only [aM,KT]
  rfl
 have hr:∀ (h:aa) n,bX h n [] 0=[]:=fun h n=>by cases n <;> rfl
 have hlen:(az [t]).length=1:=rfl
 unfold aj
 rw [if_neg (by rw [hb']; exact Bool.false_ne_true)]
 simp only [dh,hm,List.nil_append,List.append_nil,h1,Option.bind_some,hp,hr,hs,hnm]
 simp [jQ,aK,aN,cU,fV,hf,d8,hnr,cN,g2,cY,dz,oe,tP,jP,cz,dU,cQ,pH,ck,mat,bK,dC,hk,sd,hm,hlen]
 unfold bE
 rw [if_neg (by omega)]
def ClE (x:List Int):Prop:=R F.slices_Clone_int_int_ [.sl 1 (bo x)] []=some (.osl 1 (bo x),[])∨R F.slices_Clone_int_int_ [.sl 1 (bo x)] []=some (.sl 1 (bo x),[])
theorem KV:∀ {x:List Int},x.length≤100000→ClE x
 | [],_=>.inr KR
 | x::l,h=>.inl (KS (by simp at h; omega))
theorem Fl {v v':Int} {l:List Rt} {t:Rt} (c:Cl v l) (vt:VT v t) (hl:l.length≤1000000) (hf:vg l t.exps=false) :
  R F.poly_collector_add [.ref 1000 none 0 0 0,.sl 1 (bo t.exps),aC t.c] [t3 v' (.osl 4 (az l)) 0]=some (.tup [],[t3 v' (.osl 4 (az (l.take (aJ l t.exps)++t::l.drop (aJ l t.exps)))) 0]):=by
 refine qI fF fE (cZ false) rfl ?_
 have hbs:=Jb c vt.sm vt.len hl
 rw [hf] at hbs
 have hcp:=Bj vt.nz (Nat.le_trans (rP vt.vc vt.c.lb) (by decide))
 simp only [aC,aP] at hcp
 have k1:(bo t.exps).take t.exps.length=bo t.exps:=List.take_of_length_le (by rw [vP]; exact Nat.le_refl _)
 have k2:(az l).take l.length=az l:=List.take_of_length_le (by rw [dQ]; exact Nat.le_refl _)
 have hlen:(l.take (aJ l t.exps)++t::l.drop (aJ l t.exps)).length=l.length+1:=by
  have:=pE l t.exps
  rw [List.length_append,List.length_take,List.length_cons,List.length_drop]
  omega
 have hp:=pE l t.exps
 simp only [bT,dL,t3,aC,aP,go_sem,↓reduceIte,adx,adz,ady]
 rw [Hi rfl rfl (dQ l).symm ⟨_,rfl⟩]
 rcases KV vt.ok.len with hcv | hcv
 all_goals
  simp only [go_sem,↓reduceIte,adx,adz,ady,adA,adB,adC,hbs,rX,hcv,hcp,Nat.zero_add,Nat.le_refl,k1]
  rw [M5 rfl rfl (by decide) (by decide) (by decide) rfl rfl hp hl]
  generalize l.take (aJ l t.exps)++t::l.drop (aJ l t.exps)=L at hlen ⊢
  simp only [go_sem,↓reduceIte,adx,adz,ady,adA,adC]
  rw [if_pos (by rfl),nj rfl (by rw [dQ,hlen]) rfl (by decide) (Nat.lt_of_lt_of_le (by decide) (Nat.le_refl 3))]
  simp only [go_sem,↓reduceIte]
  exact rW (.inl rfl) rfl
theorem M7 {v':Int} {v:Int} {t:Rt} (vt:VT v t) :
  R F.poly_collector_add [.ref 1000 none 0 0 0,.sl 1 (bo t.exps),aC t.c] [t3 v' .emp 0]=some (.tup [],[t3 v' (.osl 4 (az [t])) 0]):=by
 refine qI fF fE (cZ false) rfl ?_
 have hbs:=Jb (l:=[]) (Cl.nil v) vt.sm vt.len (Nat.zero_le _)
 rw [show aJ [] t.exps=0 from rfl,show vg [] t.exps=false from rfl,Int.natCast_zero] at hbs
 have hcp:=Bj vt.nz (Nat.le_trans (rP vt.vc vt.c.lb) (by decide))
 simp only [aC,aP] at hcp
 have k1:(bo t.exps).take t.exps.length=bo t.exps:=List.take_of_length_le (by rw [vP]; exact Nat.le_refl _)
 have k2:nrmV [.o 2 []] (.sl 1 (bo t.exps))=.sl 1 (bo t.exps):=by
  simp only [go_sem]
 have hlen:[t].length=1:=rfl
 simp only [bT,dL,t3,aC,aP,go_sem,↓reduceIte,adx,adz,ady]
 rw [M6 (by rw [k2]; exact hbs) rfl rfl]
 rcases KV vt.ok.len with hcv | hcv
 all_goals
  simp only [go_sem,↓reduceIte,adx,adz,ady,adA,adB,hcv,hcp,Nat.zero_add,Nat.le_refl,k1]
  rw [KU rfl (by decide) rfl]
  simp only [go_sem,↓reduceIte,adx,adz,ady,adA]
  rw [if_pos (by rfl),nj rfl (show 1=(az [t]).length from rfl) rfl (by decide) (Nat.lt_of_lt_of_le (by decide) (Nat.le_refl 3))]
  simp only [go_sem,↓reduceIte]
  exact rW (.inl rfl) rfl
end Go.Ab
namespace Go.Ab
open Go Go.IntWalk
set_option maxRecDepth 4000
set_option maxHeartbeats 1000000
theorem qj {d n i:Nat} (h:i≤n):fT d n (some (I i))=some i:=by
 simp only [fT]
 rw [if_pos ⟨by omega,by omega⟩]
 rfl
theorem Q1 {h:aa} {j k n:Nat} {rows:List (List AV)} (hj:aF j=false) (hh:h j=.ar k rows) (hn:n=rows.length) (hc:aU [1000] (h 1000)=true):mG [[]] 1 h [.rsl j none k 0 n]=some (.osl k rows,[h 1000]):=by
 subst hn
 have hp:bI 1=[1000]:=rfl
 unfold mG
 rw [if_pos]
 ·simp [kF,kd,fy,hj,hh,oR,jS,aM,nrmV,nrmL,hp]
 ·simp [hp,hc,eF,bh,cz,hj]
theorem Q2 {rows:List (List AV)} {n i:Nat} (hn:n=rows.length) (hi:i < n) (h2:n≤1000000):R F.slices_Delete_api_Term_api_Term_ [.rsl 1000 none 4 0 n,I i,I ((i+1:Nat):Int)] [.ar 4 rows]=some (.osl 4 (rows.take i++rows.drop (i+1)),[.dead]):=by
 refine qI lu ls (ey false) rfl ?_
 subst hn
 have b1:fT rows.length rows.length (some (I rows.length))=some rows.length:=qj (Nat.le_refl _)
 have b2:∀ d,fT d rows.length (some (I ((i+1:Nat):Int)))=some (i+1):=fun d=>qj (by omega)
 have b3:∀ d,fT d (i+1) (some (I i))=some i:=fun d=>qj (by omega)
 have b4:∀ d,fT d rows.length (some (I i))=some i:=fun d=>qj (by omega)
 have e1:((i:Int)=((i+1:Nat):Int))=False:=ff (by omega)
 have s1:cx 4 (.rsl 1000 none 4 0 rows.length) (some (I i)) (some (I ((i+1:Nat):Int))) (some (I rows.length))=some .any:=by
  simp only [cx,if_true,fv,b1,b2,b3,Option.bind_some,Option.map_some,Option.isNone_some,if_neg Bool.false_ne_true]
 have s2:cx 4 (.rsl 1000 none 4 0 rows.length) none (some (I i)) none=some (.rsl 1000 none 4 0 i):=by
  simp only [cx,if_true,fv,b4,qa,Option.bind_some,Option.map_some,Option.isNone_none,Nat.sub_zero,Nat.add_zero]
 have s3:cx 4 (.rsl 1000 none 4 0 rows.length) (some (I ((i+1:Nat):Int))) none none=some (.rsl 1000 none 4 (i+1) (rows.length - (i+1))):=by
  simp only [cx,if_true,fv,b2,qa,Option.bind_some,Option.map_some,Option.isNone_none,Nat.zero_add]
 have t1:(rows.drop (i+1)).take (rows.length - (i+1))=rows.drop (i+1):=List.take_of_length_le (by rw [List.length_drop]; omega)
 have t2:(i+1+(rows.length - (i+1))≤rows.length)=True:=eq_true (by omega)
 obtain ⟨m,hm⟩:∃ m,i+(rows.length - (i+1))=m:=⟨_,rfl⟩
 obtain ⟨D,hD⟩:∃ D,rows.take i++rows.drop (i+1)=D:=⟨_,rfl⟩
 have d1:D.length=m:=by
  rw [← hD,List.length_append,List.length_take,List.length_drop]
  omega
 obtain ⟨A,hA⟩:∃ A,D++rows.drop m=A:=⟨_,rfl⟩
 have a1:A.length=rows.length:=by
  rw [← hA,List.length_append,List.length_drop,d1]
  omega
 have a2:A.take m=D:=by rw [← hA,List.take_append_of_le_length (by omega),List.take_of_length_le (by omega)]
 have e5:∀ h,wK h 26 4 64 1000 4 0 i (rows.drop (i+1)) 4 rows=some (.rsl 1000 none 4 0 m,upd h 1000 (.ar 4 A),[]):=fun h=>by
  unfold wK
  rw [if_pos ⟨rfl,rfl,by rw [List.length_drop]; omega⟩,List.length_drop,Nat.zero_add,hm,hD,hA]
 have e7:(i=rows.length)=False:=eq_false (by omega)
 have b5:fv rows.length (some (I m)) (some (I rows.length)) none=some (m,rows.length):=by
  simp only [fv,b1,Option.bind_some]
  rw [qj (by omega)]
  rfl
 have c1:(m+(rows.length - m)≤rows.length)=True:=eq_true (by omega)
 have c2:∀ z,(D++List.replicate (rows.length - m) z++A.drop (m+(rows.length - m))).take m=D:=fun z=>by
  rw [List.append_assoc,List.take_append_of_le_length (by omega),List.take_of_length_le (by omega)]
 rw [hD]
 simp only [bO,fm,go_sem,↓reduceIte,adx,adA,adB,s1,s2,s3,e1,t1,t2,e5,e7,false_and,and_false,a1,a2,b5,c1,c2,Nat.sub_zero,Nat.zero_add,Nat.zero_le,adE,decide_false]
 exact Q1 (by rfl) (by rfl) d1.symm (by rfl)
theorem M8 {l:List Rt} {h:aa} {d a n i:Nat} (ha:h a=.ar 4 (az l)) (hda:2000+8*d ≠ a) (hd:h (2000+8*d)=.dead) (hn:n=l.length) (hi:i < n) (h2:n≤1000000) :
  aj R (ab false) h d [.rsl a none 4 0 n,.v (.int .i64 i),.v (.int .i64 ((i+1:Nat):Int))] (.fn F.slices_Delete_api_Term_api_Term_ [] []) =
   some (.rsl (2000+8*d) none 4 0 (l.length - 1),upd (upd h a .dead) (2000+8*d) (.ar 4 (az (l.take i++l.drop (i+1)))),[(a,true),(a,false)]):=by
 have hm:=lv false
 have hs:=kU false
 have hk:=ey false
 have hf:=Q2 (rows:=az l) (n:=n) (i:=i) (by rw [dQ,hn]) hi h2
 have e1:(az l).take i++(az l).drop (i+1)=az (l.take i++l.drop (i+1)):=by simp [az,List.map_take,List.map_drop]
 rw [e1] at hf
 have hb':jC (ab false) [.rsl a none 4 0 n,.v (.int .i64 i),.v (.int .i64 ((i+1:Nat):Int))] (.fn F.slices_Delete_api_Term_api_Term_ [] [])=false:=by
  simp [jC,hm]
 have h1:ag h [2,0,0] [.rsl a none 4 0 n,.v (.int .i64 i),.v (.int .i64 ((i+1:Nat):Int))]=some ([.rsl a none 4 0 n,.v (.int .i64 i),.v (.int .i64 ((i+1:Nat):Int))],h,[]):=by
  simp [ag,bD,lA,c9,ak,ha,LM]
 have hr:bX h 40 [a] 0=[a]:=by
  simp [bX,ha,Dc,bp]
 have hp:bp [] ([AV.rsl a none 4 0 n,.v (.int .i64 i),.v (.int .i64 ((i+1:Nat):Int))].flatMap bh)=[a]:=by
  simp [bh,cz,bp]
 have h3:aY [a] a=1000:=by simp [aY]
 have hnr:b9 (.osl 4 (az (l.take i++l.drop (i+1))))=1:=rfl
 have hlen:(az (l.take i++l.drop (i+1))).length=l.length - 1:=by
  rw [dQ,List.length_append,List.length_take,List.length_drop]
  omega
 unfold aj
 rw [if_neg (by rw [hb']; exact Bool.false_ne_true)]
 simp only [dh,hm,List.nil_append,List.append_nil,h1,Option.bind_some,hp,hr,hs]
 simp only [Int.natCast_add,Int.natCast_one] at hf
 simp [jQ,aM,aK,aN,ha,aU,cY,cU,fV,h3,cA,hf,d8,hnr,cN,hd,dz,bf,oe,tP,jP,cz,dU,cQ,pH,ck,mat,bK,dC,hk,sd,hm,hlen]
 exact ⟨by unfold bE; rw [if_neg (by omega)],by rw [rr]⟩
theorem Ph (h:aa) (i:Nat) (xs:List AV) (a b:AV) (r:List (List AV)):vr h 3 1000 1 4 i 1 xs [] (.bx [a,.osl 4 r,b])=(tO 3 4 i 1 xs 4 r).map fun q=>(.und,upd h 1000 (.bx [a,.osl 4 q,b]),[]):=rfl
theorem vh (a b:AV) (k:Nat) (r:List (List AV)):fM 1 (.bx [a,.osl k r,b])=some (k,r):=rfl
theorem Aw (h:aa) (n:Nat) (g:Bool) (i j:Nat) (r:List (List AV)):iM h n g 4 i j (some (4,r))=(r[i]?).bind fun row=>(gF n g row j).map fun a=>(a,h,[]):=rfl
theorem M9 {v v':Int} {l:List Rt} {t q:Rt} (c:Cl v l) (vt:VT v t) (hl:l.length≤1000000) (hq:l[aJ l t.exps]?=some q) (ho:aZ q.exps t.exps=0) :
  R F.poly_collector_add [.ref 1000 none 0 0 0,.sl 1 (bo t.exps),aC t.c] [t3 v' (.osl 4 (az l)) 0]=some (.tup [],[if (iF q.c t.c).2=0 then (if (iF q.c t.c).1.m.length=0 then t3 v' (.osl 4 (az (l.take (aJ l t.exps)++l.drop (aJ l t.exps+1)))) 0 else t3 v' (.osl 4 (az (l.set (aJ l t.exps) ⟨q.exps,(iF q.c t.c).1⟩))) 0) else t3 v' (.osl 4 (az l)) 9]):=by
 refine qI fF fE (cZ false) rfl ?_
 have hbs:=Jb c vt.sm vt.len hl
 have hf:vg l t.exps=true:=by
  unfold vg
  rw [hq]
  exact decide_eq_true ho
 rw [hf] at hbs
 have vq:=c.t q (List.mem_of_getElem? hq)
 have hadd:=Pd vq.c vt.c
 have hlt:=(List.getElem?_eq_some_iff.1 hq).1
 have hrow:(az l)[aJ l t.exps]?=some (aW q):=by simp [az,hq]
 have hi0:(0≤(aJ l t.exps:Int)∧(aJ l t.exps:Int) < (l.length:Int))=True:=eq_true ⟨by omega,by omega⟩
 have hw:IntKind.i64.wrap ((aJ l t.exps:Int)+1)=((aJ l t.exps+1:Nat):Int):=wi (by omega) (by omega)
 generalize iF q.c t.c=r at hadd ⊢
 obtain ⟨s,e⟩:=r
 simp only [rV,aC,aP] at hadd
 simp only [aW] at hrow
 simp only [bT,dL,t3,aC,aP,go_sem,↓reduceIte,adx,adz,ady]
 rw [Hi rfl rfl (dQ l).symm ⟨_,rfl⟩]
 by_cases he:e=0
 ·subst he
  by_cases hs:s.m.length=0
  ·have e1:((s.m.length:Int)=0)=True:=tt (by omega)
   have hlen:(l.take (aJ l t.exps)++l.drop (aJ l t.exps+1)).length=l.length - 1:=by
    rw [List.length_append,List.length_take,List.length_drop]
    omega
   simp only [go_sem,↓reduceIte,adx,adz,ady,adA,adB,adC,hbs,rX,hi0,hrow,hadd,hs,Int.toNat_natCast,Int.natCast_zero,Nat.zero_add,vh,Aw,hw]
   rw [M8 rfl (by decide) rfl rfl hlt hl]
   generalize l.take (aJ l t.exps)++l.drop (aJ l t.exps+1)=L at hlen ⊢
   simp only [go_sem,↓reduceIte,adx,adz,ady,adA,adC]
   rw [nj rfl (by rw [dQ,hlen]) rfl (by decide) (Nat.lt_of_lt_of_le (by decide) (Nat.le_refl 3))]
   simp only [go_sem,↓reduceIte]
   exact rW (.inl rfl) rfl
  ·have e1:((s.m.length:Int)=0)=False:=ff (by omega)
   have hset:(az l).set (aJ l t.exps) [.sl 1 (bo q.exps),B s.neg,lm s.m,I s.e]=az (l.set (aJ l t.exps) ⟨q.exps,s⟩):=by
    unfold az
    rw [List.map_set]
    rfl
   simp only [go_sem,↓reduceIte,adx,adz,ady,adA,adB,adC,hbs,rX,hi0,hrow,hadd,hs,e1,Int.toNat_natCast,Nat.zero_add,vh,Aw,hw,Ph,hset]
   exact rW (.inl rfl) rfl
 ·have e1:(e=0)=False:=ff he
  simp only [go_sem,↓reduceIte,adx,adz,ady,adA,adB,adC,hbs,rX,hi0,hrow,hadd,e1,Int.toNat_natCast,Nat.zero_add,vh,Aw,hw]
  exact rW (.inl rfl) rfl
theorem Pi {v v':Int} {l:List Rt} {t:Rt} {cell:AV} (c:Cl v l) (vt:VT v t) (hl:l.length≤1000000) (hc:oO cell l) :
  ∃ cell' l' e',R F.poly_collector_add [.ref 1000 none 0 0 0,.sl 1 (bo t.exps),aC t.c] [t3 v' cell 0]=some (.tup [],[t3 v' cell' e'])∧oO cell' l'∧((e'=0∧ji l t=some l')∨(e'=9∧ji l t=none∧l'=l)):=by
 rcases hc with rfl | ⟨rfl,rfl⟩
 ·rw [Au]
  cases hq:l[aJ l t.exps]? with
  | none =>
   exact ⟨_,_,_,Fl c vt hl (by unfold vg; rw [hq]),.inl rfl,.inl ⟨rfl,rfl⟩⟩
  | some q =>
   by_cases ho:aZ q.exps t.exps=0
   ·have h1:=M9 (v':=v') c vt hl hq ho
    simp only [if_pos ho]
    by_cases he:(iF q.c t.c).2=0
    ·rw [if_pos he] at h1 ⊢
     by_cases hs:(iF q.c t.c).1.m.length=0
     ·rw [if_pos hs] at h1 ⊢
      exact ⟨_,_,_,h1,.inl rfl,.inl ⟨rfl,rfl⟩⟩
     ·rw [if_neg hs] at h1 ⊢
      exact ⟨_,_,_,h1,.inl rfl,.inl ⟨rfl,rfl⟩⟩
    ·rw [if_neg he] at h1 ⊢
     exact ⟨_,_,_,h1,.inl rfl,.inr ⟨rfl,rfl,rfl⟩⟩
   ·simp only [if_neg ho]
    exact ⟨_,_,_,Fl c vt hl (by unfold vg; rw [hq]; exact decide_eq_false ho),.inl rfl,.inl ⟨rfl,rfl⟩⟩
 ·exact ⟨_,_,_,M7 vt,.inl rfl,.inl ⟨rfl,rfl⟩⟩
end Go.Ab
namespace Go.Ab
open Go Go.IntWalk
end Go.Ab
namespace Go.Ab
open Go Go.IntWalk
def p0:Rp:=⟨0,[]⟩
def pV (r:Rp × Int):AV:=.tup [bm r.1,I r.2]
def jO (v:Int):Option (List Rt)→Rp × Int
 | none=>(p0,9)
 | some l=>if 500 < l.length then (p0,5) else (⟨v,l⟩,0)
def jZ (a b:Rp):Bool:=vp a && (vp b && decide (a.vars=b.vars))
def qk (a b:Rp):Rp × Int:=if jZ a b=true then jO a.vars (dG [] (a.terms++b.terms)) else (p0,1)
def gy (t:Rt):Rt:=⟨t.exps,⟨!t.c.neg,t.c.m,t.c.e⟩⟩
def o7 (a b:Rp):Rp × Int:=if jZ a b=true then jO a.vars (dG [] (a.terms++b.terms.map gy)) else (p0,1)
end Go.Ab
namespace Go.Ab
open Go Go.IntWalk
theorem ky {a b:Rp}:jZ a b=true↔vp a=true∧vp b=true∧a.vars=b.vars:=by
 unfold jZ
 simp
theorem Ax {v:Int} {t:Rt} (h:VT v t):VT v (gy t):=by
 refine ⟨⟨h.c.1,h.c.2⟩,h.len,h.v8,?_,h.nz,h.b,h.d⟩
 have h1:=h.vc
 have h2:=h.nz
 unfold vd at h1 ⊢
 rw [if_neg h2] at h1
 unfold gy
 rw [if_neg h2]
 exact h1
structure Pv (v:Int) (a:Rp):Prop where
 v:a.vars=v
 p:vp a=true
 o:OkP a
theorem Pv.cl {v:Int} {a:Rp} (h:Pv v a):Cl v a.terms:=by
 have:=(ni h.o h.p).1
 rw [h.v] at this
 exact this
end Go.Ab
namespace Go.Ab
open Go Go.IntWalk
set_option maxRecDepth 4000
set_option maxHeartbeats 1000000
theorem Fm {a:AV} (h:ak a=true):cz a=[]:=by cases a <;> simp [ak] at h <;> rfl
theorem Hj {a:AV} (h:ak a=true) (l:List Nat):aN l a=true:=by cases a <;> simp [ak] at h <;> simp [aN,h]
theorem Fo {a:AV} (h:ak a=true) (g:Nat→Nat):fV g a=a:=by cases a <;> simp [ak] at h <;> rfl
theorem xT {α β:Type} {f:α→List β}:∀ {l:List α},(∀ x ∈ l,f x=[])→l.flatMap f=[]
 | [],_=>rfl
 | x::l,h=>by
  rw [List.flatMap_cons,h x (by simp),xT fun y hy=>h y (by simp [hy])]
  rfl
theorem Pj {a:AV} (h:dat a=true):bh a=[]:=by
 cases a <;> simp only [dat] at h <;> first | exact Fm h | skip
 ·rename_i cs
  exact xT fun x hx=>Fm (List.all_eq_true.1 h x hx)
 ·rename_i f x y
  simp [ak] at h
  obtain ⟨rfl,rfl⟩:=h
  rfl
theorem Q3 {a:AV} (h:dat a=true) (l:List Nat):aK l a=true:=by
 cases a <;> simp only [dat] at h <;> first | exact Hj h l | skip
 ·rename_i cs
  simp only [aK,List.all_eq_true]
  exact fun x hx=>Hj (List.all_eq_true.1 h x hx) l
 ·rename_i f x y
  simp [ak] at h
  obtain ⟨rfl,rfl⟩:=h
  rfl
theorem Pk {a:AV} (h:dat a=true) (g:Nat→Nat):cU g a=a:=by
 cases a <;> simp only [dat] at h <;> first | exact Fo h g | skip
 ·rename_i cs
  show AV.agg (cs.map (fV g))=_
  rw [(List.map_congr_left (g:=fun c=>c) fun x hx=>Fo (List.all_eq_true.1 h x hx) g).trans (List.map_id' cs)]
 ·rename_i f x y
  simp [ak] at h
  obtain ⟨rfl,rfl⟩:=h
  rfl
theorem Q4 {a:AV} (h:dat a=true) (hp:aa):bD hp 0 a=some (a,hp,[]):=by
 by_cases hagg:∃ cs,a=.agg cs
 ·obtain ⟨cs,rfl⟩:=hagg
  simp only [dat] at h
  simp only [bD,lA]
  rw [fH h hp]
  rfl
 ·have h2:ak a=true:=by cases a <;> first | exact h | exact absurd ⟨_,rfl⟩ hagg
  cases a <;> first | (simp [ak] at h2; done) | rfl | skip
theorem Ay (hp:aa):∀ {l:List AV},l.all dat=true→ag hp [] l=some (l,hp,[])
 | [],_=>rfl
 | a::l,h=>by
  simp only [List.all_cons,Bool.and_eq_true] at h
  simp only [ag,List.headD_nil,Q4 h.1,Option.bind_some,List.tail_nil,Ay hp h.2,List.append_nil]
structure OC (o:Ob):Prop where
 cl:∀ l,aU l o=true
 ids:Dc o=[]
 ren:∀ g,cA g o=o
 nd:cY o=false
structure RT (r:AV):Prop where
 ren:∀ g,sd g r=r
 mat:∀ n h,mat n h r=(r,h)
 ok:∀ l,dU l r=true
theorem Hk:∀ l:List AV,jP [] l=[]
 | []=>rfl
 | a::l=>by
  show (if (0:Nat)=2 then _ else [])++jP [] l=[]
  rw [Hk l]
  rfl
theorem Fq {f:FuncId} {h:aa} {d id:Nat} {zas as':List AV} {o o':Ob} {res:AV} (hm:(ab false).m f=[]) (hk:(ab false).keep f=false) (hn:aM ((ab false).sh f) (.ref id none 0 0 0::zas)=.ref id none 0 0 0::as') (hd:zas.all dat=true) (hd':as'.all dat=true)
  (hh:h id=o) (ho:OC o) (ho':OC o') (hb:bf o=true→bf o'=true) (hR:R f (.ref 1000 none 0 0 0::as') [o]=some (res,[o'])) (hr:RT res) (h8:b9 res≤8) (hfr:cN h (2000+8*d) (b9 res)=true) :
  aj R (ab false) h d (.ref id none 0 0 0::zas) (.fn f [] [])=some (res,upd h id o',[(id,true)]):=by
 have h1:ag h [] (.ref id none 0 0 0::zas)=some (.ref id none 0 0 0::zas,h,[]):=by
  simp only [ag,bD,Option.bind_some,List.tail_nil,Ay h hd,List.append_nil]
 have hp:bp [] ((AV.ref id none 0 0 0::zas).flatMap bh)=[id]:=by
  rw [List.flatMap_cons,xT fun x hx=>Pj (List.all_eq_true.1 hd x hx)]
  rfl
 have hre:bX h 40 [id] 0=[id]:=by
  simp [bX,hh,ho.ids,bp]
 have h3:aY [id] id=1000:=by simp [aY]
 have hall:(AV.ref id none 0 0 0::as').all (aK [id])=true:=by
  rw [List.all_cons,Bool.and_eq_true]
  exact ⟨by simp [aK,aN],List.all_eq_true.2 fun x hx=>Q3 (List.all_eq_true.1 hd' x hx) _⟩
 have hmap:(AV.ref id none 0 0 0::as').map (cU (aY [id]))=.ref 1000 none 0 0 0::as':=by
  rw [List.map_cons,(List.map_congr_left (g:=fun c=>c) fun x hx=>Pk (List.all_eq_true.1 hd' x hx) _).trans (List.map_id' as')]
  simp [cU,fV,h3]
 have hob:([id].map fun a=>cA (aY [id]) (h a))=[o]:=by simp [hh,ho.ren]
 have hids:([id].all fun a=>aU [id] (h a) && !cY (h a))=true:=by simp [hh,ho.cl,ho.nd]
 unfold aj
 rw [if_neg (by simp [jC,hm])]
 simp only [dh,hm,List.nil_append,List.append_nil,h1,Option.bind_some,hp,hre,hn]
 unfold jQ
 rw [hall,hids,hmap,hob,hR,Bool.and_self,if_pos rfl,Option.bind_some,hk,hm,Hk]
 unfold d8
 have hbf:dz h [] [id] [o']=true:=by
  have:=ho'.nd
  cases h5:bf o with
  | false=>simp [dz,hh,h5,this]
  | true=>simp [dz,hh,h5,hb h5,this]
 have hend:oe h [id] [] (res,[o'])=true:=by
  simp [oe,tP,hr.ok,ho'.cl]
 rw [if_pos ⟨rfl,by simp,h8,hfr,hbf,hend⟩]
 simp [ck,dC,hr.mat,hr.ren,ho'.ren]
theorem Bk {f:FuncId} {h:aa} {d id:Nat} {zas:List AV} {r:Option R3} (hm:(ab false).m f=[]) (hd:zas.all dat=true) (hc:aj R (ab false) h d (.ref id none 0 0 0::zas) (.fn f [] [])=r):aA R (ab false) d f (.ref id none 0 0 0::zas,h,[])=r:=by
 have h1:ag h [] (.ref id none 0 0 0::zas)=some (.ref id none 0 0 0::zas,h,[]):=by
  simp only [ag,bD,Option.bind_some,List.tail_nil,Ay h hd,List.append_nil]
 rw [ah d hm,h1] at hc
 exact hc
theorem pu {v e:Int} {c:AV} {l:List Rt} (hc:oO c l):OC (t3 v c e):=by
 rcases hc with rfl | ⟨rfl,_⟩
 ·exact ⟨fun l=>rfl,rfl,fun g=>rfl,rfl⟩
 ·exact ⟨fun l=>rfl,rfl,fun g=>rfl,rfl⟩
theorem Y6:RT (.tup []):=⟨fun _=>rfl,fun _ _=>rfl,fun _=>rfl⟩
theorem KW {v e e':Int} {c c':AV} {l l':List Rt} {h:aa} {d id:Nat} {x:List Int} {q:Rd} (hh:h id=t3 v c e) (hc:oO c l) (hc':oO c' l') (hR:R F.poly_collector_add [.ref 1000 none 0 0 0,.sl 1 (bo x),aC q] [t3 v c e]=some (.tup [],[t3 v c' e'])) :
  aj R (ab false) h d [.ref id none 0 0 0,.sl 1 (bo x),aC q] (.fn F.poly_collector_add [] [])=some (.tup [],upd h id (t3 v c' e'),[(id,true)]) :=
 Fq (je false) (cZ false) (as':=[.sl 1 (bo x),aC q]) (by rw [rG]; simp only [aC,aP,go_sem]) rfl rfl hh (pu hc) (pu hc') (fun _=>rfl) hR Y6 (by decide) rfl
end Go.Ab
namespace Go.Ab
open Go Go.IntWalk
set_option maxRecDepth 4000
set_option maxHeartbeats 1000000
theorem Na {v:Int}:R F.poly_empty [I v] []=some (.obx [I v,.emp,I 0],[]):=by
 refine aO Ec Eb (yK false) rfl ?_
 simp only [lP,uI,go_sem,↓reduceIte,adx,ady,adA]
 rfl
theorem Uu (r:Rp × Int):RT (pV r):=⟨fun _=>rfl,fun _ _=>rfl,fun _=>rfl⟩
theorem CY {h:aa} {o:Ob} {rs:List (List Sh)} {vs us:List AV} {r:AV} (h0:((vs.flatMap bh).filter fun i=>!aF i)=[]) (h1:h 1000=o) (ho:aU [1000] o=true) (h2:kF h vs=some us) (h3:jS (aM rs us)=r):mG rs 1 h vs=some (r,[o]):=by
 have hp:bI 1=[1000]:=rfl
 unfold mG
 rw [h0,hp,h2,if_pos (by simp [eF,h1,ho])]
 simp [h1,h3]
theorem zb (x:Value):fw (.v x)=.v x:=rfl
theorem Fr (k:Nat) (r:List (List AV)):fw (.osl k r)=.sl k r:=rfl
theorem Ft:fw .emp=.emp:=rfl
theorem Q5 {v e:Int} {l:List Rt}:jS (aM [[.o 0 [],.o 5 [.o 2 [],.o 0 [],.o 2 [],.o 0 []]],[]] [.agg [I v,.sl 4 (az l)],I e])=pV (⟨v,l⟩,e):=by
 have h:=rR l
 show AV.tup [.agg [I v,.sl 4 ((az l).map _)],I e]=_
 rw [h]
 rfl
theorem Nb {v e:Int} {c:AV} {l:List Rt} (hc:oO c l) (he:e ≠ 0):R F.poly_collector_done [.ref 1000 none 0 0 0] [t3 v c e]=some (pV (p0,e),[t3 v c e]):=by
 refine qI iD iC (dP false) rfl ?_
 have e1:(e=0)=False:=ff he
 simp only [bM,dA,t3,go_sem,↓reduceIte,adx,adz,ady,adA,adB,adC,e1]
 exact CY rfl (by rfl) ((pu hc).cl _) (by rfl) (by rfl)
theorem Nc {v:Int} {l:List Rt}:R F.poly_collector_done [.ref 1000 none 0 0 0] [t3 v (.osl 4 (az l)) 0]=some (pV (jO v (some l)),[if 500 < l.length then t3 v (.osl 4 (az l)) 0 else .bx [I v,.sl 4 (az l),I 0]]):=by
 refine qI iD iC (dP false) rfl ?_
 unfold jO
 by_cases h:500 < l.length
 ·have e1:(500 < (l.length:Int))=True:=tt (by omega)
  simp only [if_pos h]
  simp only [bM,dA,t3,go_sem,↓reduceIte,adx,adz,ady,adA,adB,adC,e1]
  exact CY rfl (by rfl) rfl (by rfl) (by rfl)
 ·have e1:(500 < (l.length:Int))=False:=ff (by omega)
  have k2:(az l).take l.length=az l:=List.take_of_length_le (by rw [dQ]; exact Nat.le_refl _)
  simp only [if_neg h]
  simp only [bM,dA,t3,go_sem,↓reduceIte,adx,adz,ady,adA,adB,adC,e1,zb,Fr]
  exact CY rfl (by rfl) rfl (by rfl) Q5
theorem Nd {v:Int}:R F.poly_collector_done [.ref 1000 none 0 0 0] [t3 v .emp 0]=some (pV (jO v (some [])),[t3 v .emp 0]):=by
 refine qI iD iC (dP false) rfl ?_
 have e1:((500:Int) < 0)=False:=ff (by decide)
 simp only [bM,dA,t3,go_sem,↓reduceIte,adx,adz,ady,adA,adB,adC,e1]
 exact CY rfl (by rfl) rfl (by rfl) (by rfl)
theorem KX {v e:Int} {c:AV} {l:List Rt} {h:aa} {d id:Nat} (hh:h id=t3 v c e) (hc:oO c l) (hf:cN h (2000+8*d) 2=true) :
  ∃ o,aj R (ab false) h d [.ref id none 0 0 0] (.fn F.poly_collector_done [] [])=some (pV (if e=0 then jO v (some l) else (p0,e)),upd h id o,[(id,true)]):=by
 have key:∃ o,OC o∧bf o=true∧R F.poly_collector_done [.ref 1000 none 0 0 0] [t3 v c e]=some (pV (if e=0 then jO v (some l) else (p0,e)),[o]):=by
  by_cases he:e=0
  ·subst he
   rw [if_pos rfl]
   rcases hc with rfl | ⟨rfl,rfl⟩
   ·refine ⟨_,?_,?_,Nc⟩
    ·split
     ·exact pu (.inl rfl)
     ·exact ⟨fun l=>rfl,rfl,fun g=>rfl,rfl⟩
    ·split <;> rfl
   ·exact ⟨_,pu (.inr ⟨rfl,rfl⟩),rfl,Nd⟩
  ·rw [if_neg he]
   exact ⟨_,pu hc,rfl,Nb hc he⟩
 obtain ⟨o,h1,h2,h3⟩:=key
 exact ⟨o,Fq (iE false) (dP false) (as':=[]) (by rw [qX]; rfl) rfl rfl hh (pu hc) h1 (fun _=>h2) h3 (Uu _) (by show 2≤8; decide) hf⟩
theorem Hl {a b:Rp} (oa:OkP a) (ob:OkP b):R F.poly_pair [bm a,bm b] []=some (B (jZ a b),[]):=by
 refine aO Gk Gj (zR false) rfl ?_
 have h1:=Bd oa
 have h2:=Bd ob
 simp only [bm] at h1 h2
 unfold jZ
 cases ha:vp a with
 | false =>
  rw [ha] at h1
  rw [Bool.false_and]
  simp only [iu,ol,bm,go_sem,↓reduceIte,adx,adz,ady,adA,h1]
 | true =>
  rw [ha] at h1
  rw [Bool.true_and]
  cases hb:vp b with
  | false =>
   rw [hb] at h2
   rw [Bool.false_and]
   simp only [iu,ol,bm,go_sem,↓reduceIte,adx,adz,ady,adA,h1,h2]
  | true =>
   rw [hb] at h2
   rw [Bool.true_and]
   simp only [iu,ol,bm,go_sem,↓reduceIte,adx,adz,ady,adA,h1,h2]
structure ColE (v:Int) (l ts:List Rt) (e:Int) (c':AV) (l':List Rt) (e':Int):Prop where
 c:oO c' l'
 r:(e'=0∧e=0∧dG l ts=some l')∨(e'=9∧(e=0→dG l ts=none))
theorem ColE.fin {v:Int} {ts:List Rt} {c':AV} {l':List Rt} {e':Int} (h:ColE v [] ts 0 c' l' e'):(if e'=0 then jO v (some l') else (p0,e'))=jO v (dG [] ts):=by
 rcases h.r with ⟨h1,_,h2⟩ | ⟨h1,h2⟩
 ·rw [if_pos h1,h2]
 ·rw [h1,if_neg (by decide),h2 rfl]
  rfl
theorem ColE.step {v:Int} {l ts:List Rt} {t:Rt} {c:AV} (hc:oO c l) {e:Int} (he:e=0∨e=9) (hC:e=0→Cl v l∧l.length+ts.length+1≤1000000) (vt:VT v t) {v':Int} :
  ∃ c1 l1 e1,R F.poly_collector_add [.ref 1000 none 0 0 0,.sl 1 (bo t.exps),aC t.c] [t3 v' c e]=some (.tup [],[t3 v' c1 e1])∧oO c1 l1∧(e1=0∨e1=9)∧(e1=0→Cl v l1∧l1.length+ts.length≤1000000)∧∀ c' l' e',ColE v l1 ts e1 c' l' e'→ColE v l (t::ts) e c' l' e':=by
 rcases he with rfl | rfl
 ·obtain ⟨h1,h2⟩:=hC rfl
  obtain ⟨c1,l1,e1,g1,g2,g3⟩:=Pi (v':=v') h1 vt (by omega) hc
  refine ⟨c1,l1,e1,g1,g2,?_,fun h0=>?_,fun c' l' e' h=>⟨h.c,?_⟩⟩
  ·rcases g3 with ⟨g,_⟩ | ⟨g,_⟩
   ·exact .inl g
   ·exact .inr g
  ·rcases g3 with ⟨_,g⟩ | ⟨g,_⟩
   ·have:=sN g
    exact ⟨(vR h1 vt g).1,by omega⟩
   ·omega
  ·rcases g3 with ⟨g,k⟩ | ⟨g,k,_⟩
   ·subst g
    rcases h.r with ⟨q1,_,q2⟩ | ⟨q1,q2⟩
    ·refine .inl ⟨q1,rfl,?_⟩
     unfold dG
     rw [k]
     exact q2
    ·refine .inr ⟨q1,fun _=>?_⟩
     unfold dG
     rw [k]
     exact q2 rfl
   ·subst g
    rcases h.r with ⟨_,q1,_⟩ | ⟨q1,_⟩
    ·omega
    ·refine .inr ⟨q1,fun _=>?_⟩
     unfold dG
     rw [k]
     rfl
 ·refine ⟨c,l,9,M4 hc (by decide),hc,.inr rfl,fun h=>by omega,fun c' l' e' h=>⟨h.c,?_⟩⟩
  rcases h.r with ⟨_,q1,_⟩ | ⟨q1,_⟩
  ·omega
  ·exact .inr ⟨q1,fun h=>by omega⟩
theorem KY {v v':Int} {T:List Rt} (hT:∀ t ∈ T,VT v t) (hn:T.length≤100000):∀ (k i:Nat),i+k=T.length→∀ (c:AV) (l:List Rt) (e:Int),oO c l→(e=0∨e=9)→(e=0→Cl v l∧l.length+k≤1000000) →
  ∀ (s:af) (h:aa),s 4=.ref 4 none 0 0 0→s 6=.ref 2128 none 0 0 0→s 22=.sl 4 (az T)→s 23=I T.length→s 24=I i→h 4=.bx [I 0,.emp]→h 2128=t3 v' c e →
  ∃ hh c' l' e',aB 0 [4,6] (aD (au R (ab false) jo) [4,6,22,23,24] [4,2128] s h)=some (.normal,⟨upd (upd (fun _=>.any) 6 (.ref 2128 none 0 0 0)) 4 (.ref 4 none 0 0 0),hh⟩) ∧
   hh 4=.bx [I 0,.emp]∧hh 2128=t3 v' c' e'∧(∀ a,a ≠ 4→a ≠ 2128→hh a=.dead)∧ColE v l (T.drop i) e c' l' e':=by
 intro k
 induction k with
 | zero =>
  intro i hi c l e hc he hC s h h4 h6 h22 h23 h24 k4 k6
  have e1:((i:Int) < T.length)=False:=ff (by omega)
  have ho:=(pu (v:=v') (e:=e) hc).cl [4,2128]
  rw [av]
  refine ⟨?hh0,c,l,e,?_,?_,?_,?_,?_⟩
  rotate_left
  ·simp only [jo,go_sem,↓reduceIte,adx,adC,h4,h6,h22,h23,h24,k4,k6,ho,e1]
   rfl
  ·rfl
  ·rfl
  ·intro a a1 a2
   simp only [gz,a1,a2,if_false]
  ·rw [List.drop_eq_nil_of_le (by omega)]
   refine ⟨hc,?_⟩
   rcases he with rfl | rfl
   ·exact .inl ⟨rfl,rfl,rfl⟩
   ·exact .inr ⟨rfl,fun h=>by omega⟩
 | succ k ih =>
  intro i hi c l e hc he hC s h h4 h6 h22 h23 h24 k4 k6
  have hlt:i < T.length:=by omega
  have e1:((i:Int) < T.length)=True:=tt (by omega)
  have e2:aX (az T) (i:Int)=some (.ipt (aW T[i])):=eW rfl (List.getElem?_eq_getElem hlt)
  have e5:IntKind.i64.wrap ((i:Int)+1)=((i+1:Nat):Int):=wi (by omega) (by omega)
  have ho:=(pu (v:=v') (e:=e) hc).cl [4,2128]
  have hdl:(T.drop (i+1)).length=k:=by rw [List.length_drop]; omega
  obtain ⟨c1,l1,ee,g1,g2,g3,g4,g5⟩:=ColE.step (ts:=T.drop (i+1)) hc he (fun h=>by have:=hC h; exact ⟨this.1,by omega⟩) (hT _ (List.getElem_mem hlt)) (v':=v')
  rw [hdl] at g4
  have ih':=ih (i+1) (by omega) c1 l1 ee g2 g3 g4
  rw [List.drop_eq_getElem_cons hlt,av]
  generalize T[i]=t at e2 g1 g5 ⊢
  generalize aD _ _ _=L at ih' ⊢
  have hcall:=fun (h:aa) (hh:h 2128=t3 v' c e) (d:Nat)=>Bk (je false) rfl (KW (d:=d) hh hc g2 g1)
  simp only [aC,aP] at hcall
  simp only [aW] at e2
  simp only [jo,go_sem,↓reduceIte,adx,adz,ady,adA,adC,h4,h6,h22,h23,h24,k4,k6,ho,e1,e2]
  rw [hcall _ rfl]
  simp only [go_sem,↓reduceIte,adx,adC,e5]
  refine (ih' _ _ ?_ ?_ ?_ ?_ ?_ ?_ ?_).imp fun hh ⟨c',l',e',q1,q2,q3,q4,q5⟩=>⟨c',l',e',q1,q2,q3,q4,g5 _ _ _ q5⟩
  all_goals rfl
end Go.Ab
namespace Go.Ab
open Go Go.IntWalk
set_option maxRecDepth 4000
set_option maxHeartbeats 1000000
theorem Hm:zk .emp=some (I 0):=rfl
theorem Fu (h:aa):sf h .emp=h:=rfl
theorem Jc:cx 4 .emp none (some (I 0)) none=some .emp:=rfl
theorem Nf {h:aa} {d:Nat} {z:List AV} {n:Nat} (h0:0 < n) (h1:n≤1000000):qo h d 4 64 z .emp (I n)=bF h d 4 (List.replicate n z) n []:=by
 simp only [qo]
 rw [if_pos ⟨by omega,by omega⟩,Int.toNat_natCast]
theorem Ng:R F.slices_Grow_api_Term_api_Term_ [.emp,I 0] []=some (.emp,[]):=by
 refine aO gn gl (eQ false) rfl ?_
 have e1:((0:Int) < 0)=False:=ff (by decide)
 have w1:IntKind.i64.wrap ((0:Int) - 0)=0:=by decide
 simp only [bA,dw,go_sem,↓reduceIte,adx,adA,e1,w1,Hm,Fu]
theorem Nh {n:Nat} (h0:0 < n) (h1:n≤1000000):R F.slices_Grow_api_Term_api_Term_ [.emp,I n] []=some (.osl 4 [],[]):=by
 refine aO gn gl (eQ false) rfl ?_
 have e1:((n:Int) < 0)=False:=ff (by omega)
 have e2:(0 < (n:Int))=True:=tt (by omega)
 have w0:IntKind.i64.wrap ((0:Int) - 0)=0:=by decide
 have w1:IntKind.i64.wrap ((n:Int) - 0)=(n:Int):=wi (by omega) (by omega)
 have e3:(n*64≤140737488355328)=True:=eq_true (by omega)
 have e5:cx 4 (.rsl 22 none 4 0 n) none (some (I 0)) none=some (.rsl 22 none 4 0 0):=by
  simp [cx,fv,fT]
 have e4:=fun h d z=>Nf (h:=h) (d:=d) (z:=z) h0 h1
 simp only [bA,dw,go_sem,↓reduceIte,adx,ady,adA,adB,e1,e2,e4,w0,w1,Hm,Fu,Jc,e5,List.take_zero]
 done
theorem KZ {a b:List Rt} (ha:a.length≤100000) (hb:b.length≤100000):R F.slices_Concat_api_Term_api_Term_ [.sl 1 [[.sl 4 (az a)],[.sl 4 (az b)]]] []=some (.sl 4 (az (a++b)),[]):=by
 refine aO lq lp (j4 false) rfl ?_
 have w1:IntKind.i64.wrap ((0:Int)+(a.length:Int))=(a.length:Int):=wi (by omega) (by omega)
 have w2:IntKind.i64.wrap ((a.length:Int)+(b.length:Int))=((a.length+b.length:Nat):Int):=wi (by omega) (by omega)
 have e1:((a.length:Int) < 0)=False:=ff (by omega)
 have e2:(((a.length+b.length:Nat):Int) < 0)=False:=ff (by omega)
 have c1:((0:Int) < ((0+1+1:Nat):Int))=True:=tt (by decide)
 have c2:((1:Int) < ((0+1+1:Nat):Int))=True:=tt (by decide)
 have c3:((2:Int) < ((0+1+1:Nat):Int))=False:=ff (by decide)
 have r0:aX [[AV.sl 4 (az a)],[.sl 4 (az b)]] 0=some (.ipt [.sl 4 (az a)]):=rfl
 have r1:aX [[AV.sl 4 (az a)],[.sl 4 (az b)]] 1=some (.ipt [.sl 4 (az b)]):=rfl
 have i1:IntKind.i64.wrap ((0:Int)+1)=1:=by decide
 have i2:IntKind.i64.wrap ((1:Int)+1)=2:=by decide
 simp only [bN,fl,go_sem,↓reduceIte,adx,ady,List.length_cons,List.length_nil]
 rw [av]
 simp only [er,go_sem,↓reduceIte,adx,c1,r0,w1,e1,i1]
 rw [av]
 simp only [go_sem,↓reduceIte,adx,c2,r1,w2,e2,i2]
 rw [av]
 simp only [go_sem,↓reduceIte,adx,c3]
 by_cases hz:a.length+b.length=0
 ·have ea:a=[]:=List.length_eq_zero_iff.1 (by omega)
  have eb:b=[]:=List.length_eq_zero_iff.1 (by omega)
  subst ea eb
  have hg:=Ng
  have a0:∀ h d,wL h d 4 64 .emp (.sl 4 [])=some (.emp,h,[]):=fun h d=>rfl
  have hcr:gp (fun _=>.dead) 24 (some (.emp,[]))=some (.emp,fun _=>.dead,[]):=rfl
  rw [show az []=[] from rfl] at *
  simp only [go_sem,↓reduceIte,adx,ady,hg,hcr,List.length_nil,Nat.add_zero,Int.natCast_zero]
  rw [av]
  simp only [cH,go_sem,↓reduceIte,adx,c1,r0,i1,a0]
  rw [av]
  simp only [go_sem,↓reduceIte,adx,c2,r1,i2,a0]
  rw [av]
  simp only [go_sem,↓reduceIte,adx,c3]
  rfl
 ·have hg:=Nh (n:=a.length+b.length) (by omega) (by omega)
  have b1:(a.length*64≤140737488355328)=True:=eq_true (by omega)
  have b2:((a.length+b.length)*64≤140737488355328)=True:=eq_true (by omega)
  simp only [go_sem,↓reduceIte,adx,adz,ady,hg,List.length_nil]
  rw [av]
  simp only [cH,go_sem,↓reduceIte,adx,adA,adB,adC,c1,r0,i1,b1,or_true,Nat.zero_add,List.nil_append,List.length_nil]
  rw [av]
  simp only [go_sem,↓reduceIte,adx,adA,adB,adC,c2,r1,i2,b2,or_true]
  rw [av]
  simp only [go_sem,↓reduceIte,adx,adA,adB,adC,c3,Nat.zero_add]
  have hl:(az a++az b).length=a.length+b.length:=by rw [List.length_append,dQ,dQ]
  have hab:az a++az b=az (a++b):=by simp [az]
  rw [hl,if_pos (Nat.le_refl _),if_pos rfl,hab]
  show some (jS (aM _ [.osl 4 (az (a++b))]),[])=_
  have h:=rR (a++b)
  show some (AV.sl 4 ((az (a++b)).map _),[])=_
  rw [h]
theorem K0 (h:aa) (d:Nat) (v:Int):gp h d (some (.obx [I v,.emp,I 0],[]))=if cY (h (2000+8*d))=true then some (.ref (2000+8*d) none 0 0 0,upd h (2000+8*d) (.bx [I v,.emp,I 0]),[]) else none:=by
 simp [gp,b9,cN,dU,cQ,fU,ak,aL,mat,bK]
theorem Q6 {v v':Int} {T:List Rt} (hT:∀ t ∈ T,VT v t) (hn:T.length≤100000) (s:af) (h:aa) (X:Option (Ex × St)) (hX:aB 0 [4,6] (aD (au R (ab false) jo) [4,6,22,23,24] [4,2128] s h)=X) (h4:s 4=.ref 4 none 0 0 0) (h6:s 6=.ref 2128 none 0 0 0) (h22:s 22=.sl 4 (az T)) (h23:s 23=I T.length) (h24:s 24=I 0) (k4:h 4=.bx [I 0,.emp]) (k6:h 2128=t3 v' .emp 0) :
  ∃ hh c' l' e',X=some (.normal,⟨upd (upd (fun _=>.any) 6 (.ref 2128 none 0 0 0)) 4 (.ref 4 none 0 0 0),hh⟩) ∧
   hh 4=.bx [I 0,.emp]∧hh 2128=t3 v' c' e'∧(∀ a,a ≠ 4→a ≠ 2128→hh a=.dead)∧ColE v [] T 0 c' l' e':=by
 subst hX
 exact KY hT hn T.length 0 (Nat.zero_add _) .emp [] 0 (.inr ⟨rfl,rfl⟩) (.inl rfl) (fun _=>⟨Cl.nil _,by show 0+_≤_; omega⟩) s h h4 h6 h22 h23 h24 k4 k6
theorem Hn {a b:Rp} (oa:OkP a) (ob:OkP b):R F.poly_Add [bm a,bm b] []=some (pV (qk a b),[]):=by
 refine aO Iw Iv (BF false) rfl ?_
 have hp:=Hl oa ob
 simp only [bm] at hp
 unfold qk
 cases hb:jZ a b with
 | false =>
  rw [hb] at hp
  rw [if_neg Bool.false_ne_true]
  simp only [lD,sB,bm,go_sem,↓reduceIte,adx,adz,ady,adA,hp]
  rfl
 | true =>
  rw [hb] at hp
  rw [if_pos rfl]
  obtain ⟨va,vb,hv⟩:=ky.1 hb
  obtain ⟨ca,a0,a8,al⟩:=ni oa va
  obtain ⟨cb,b0,b8,bl⟩:=ni ob vb
  rw [← hv] at cb
  have hT:∀ t ∈ a.terms++b.terms,VT a.vars t:=fun t ht=>by
   rcases List.mem_append.1 ht with ht | ht
   ·exact ca.t t ht
   ·exact cb.t t ht
  have hemp:=Na (v:=a.vars)
  have hcat:=KZ (a:=a.terms) (b:=b.terms) (by omega) (by omega)
  have hl:=Q6 (v':=a.vars) hT (by rw [List.length_append]; omega)
  generalize a.terms++b.terms=T at hcat hl ⊢
  simp only [lD,sB,bm,go_sem,↓reduceIte,adx,adz,ady,adA,adB,hp,hemp,K0,hcat,List.length_cons,List.length_nil]
  generalize hX:aB 0 [4,6] _=X
  obtain ⟨hh,c',l',e',rfl,q2,q3,q4,q5⟩:=hl _ _ _ hX rfl rfl rfl rfl rfl rfl rfl
  obtain ⟨o,hd⟩:=KX (d:=36) q3 q5.c (by simp [cN,q4,cY])
  have hd':=Bk (iE false) rfl hd
  rw [q5.fin] at hd'
  generalize jO a.vars (dG [] T)=r at hd' ⊢
  obtain ⟨r1,r2⟩:=r
  simp only [pV,bm] at hd'
  simp only [pV,bm,go_sem,↓reduceIte,adx,adz,ady,adA,adC,q2,hd']
end Go.Ab
namespace Go.Ab
open Go Go.IntWalk
set_option maxRecDepth 4000
set_option maxHeartbeats 1000000
theorem Pm {v:Int} {t:Rt} (vt:VT v t):R F.dyadic_Neg [aC t.c] []=some (aC (gy t).c,[]):=by
 have h:=QV vt.c
 have hvc:=vt.vc
 rw [if_neg (by rw [hvc]; exact fun h=>h.elim (fun h=>by cases h) vt.nz)] at h
 exact h
def t2 (v:Int) (c:AV):Ob:=.bx [I v,c]
theorem N5 {v:Int} {c:AV} {l:List Rt} (hc:oO c l) (ids:List Nat):aU ids (t2 v c)=true:=by
 rcases hc with rfl | ⟨rfl,_⟩ <;> rfl
theorem K1 {v v':Int} {a:Rp} {T:List Rt} (hT:∀ t ∈ T,VT v t) (hn:T.length≤100000) {o3:Ob} (ho3:aU [2,3,4,6] o3=true):∀ (k i:Nat),i+k=T.length→∀ (c:AV),oO c ((T.take i).map gy) →
  ∀ (s:af) (h:aa),s 2=.ref 2 none 0 0 0→s 4=.ref 4 none 0 0 0→s 6=.ref 6 none 0 0 0→s 18=.sl 4 (az T)→s 19=I T.length→s 20=I i→h 2=.bx [I a.vars,.sl 4 (az a.terms)]→h 3=o3→h 4=.bx [I 0,.emp]→h 6=t2 v' c →
  ∃ hh c',aB 0 [2,4,6] (aD (au R (ab false) gB) [2,4,6,18,19,20] [2,3,4,6] s h)=some (.normal,⟨upd (upd (upd (fun _=>.any) 6 (.ref 6 none 0 0 0)) 4 (.ref 4 none 0 0 0)) 2 (.ref 2 none 0 0 0),hh⟩) ∧
   hh 2=.bx [I a.vars,.sl 4 (az a.terms)]∧hh 4=.bx [I 0,.emp]∧hh 6=t2 v' c'∧(∀ a,a ≠ 2→a ≠ 3→a ≠ 4→a ≠ 6→hh a=.dead)∧oO c' (T.map gy):=by
 intro k
 induction k with
 | zero =>
  intro i hi c hc s h h2 h4 h6 h18 h19 h20 k2 k3 k4 k6
  have e1:((i:Int) < T.length)=False:=ff (by omega)
  rw [List.take_of_length_le (by omega)] at hc
  have ho:=N5 (v:=v') hc [2,3,4,6]
  rw [av]
  refine ⟨?hh0,c,?_,?_,?_,?_,?_,hc⟩
  rotate_left
  ·simp only [gB,go_sem,↓reduceIte,adx,adC,h2,h4,h6,h18,h19,h20,k2,k3,k4,k6,ho,ho3,e1]
   rfl
  ·rfl
  ·rfl
  ·rfl
  ·intro a a1 a2 a3 a4
   simp only [gz,a1,a2,a3,a4,if_false]
 | succ k ih =>
  intro i hi c hc s h h2 h4 h6 h18 h19 h20 k2 k3 k4 k6
  have hlt:i < T.length:=by omega
  have e1:((i:Int) < T.length)=True:=tt (by omega)
  have e2:aX (az T) (i:Int)=some (.ipt (aW T[i])):=eW rfl (List.getElem?_eq_getElem hlt)
  have e5:IntKind.i64.wrap ((i:Int)+1)=((i+1:Nat):Int):=wi (by omega) (by omega)
  have hng:=Pm (hT _ (List.getElem_mem hlt))
  have ho:=N5 (v:=v') hc [2,3,4,6]
  have ih':=ih (i+1) (by omega)
  rw [List.take_succ_eq_append_getElem hlt,List.map_append,List.map_singleton] at ih'
  have hlen:((T.take i).map gy).length=i:=by rw [List.length_map,List.length_take]; omega
  generalize T[i]=t at e2 hng ih'
  generalize (T.take i).map gy=l at hc ih' hlen
  rw [av]
  generalize aD _ _ _=L at ih' ⊢
  simp only [aC,aP,gy] at hng
  simp only [aW] at e2
  rcases hc with rfl | ⟨rfl,rfl⟩
  ·simp only [t2] at k6
   have b1:((l.length+1)*64≤140737488355328)=True:=eq_true (by omega)
   simp only [gB,go_sem,↓reduceIte,adx,adz,ady,adA,adB,adC,h2,h4,h6,h18,h19,h20,k2,k3,k4,k6,ho3,e1,e2,hng,b1,true_or]
   rw [if_pos (by rfl),nj rfl (by rw [List.length_append,dQ]; rfl) rfl (by decide) (by show 1 < 2; decide)]
   simp only [go_sem,↓reduceIte,adx,adC,e5]
   refine (ih' (.osl 4 (az l++[[.sl 1 (bo t.exps),B (!t.c.neg),lm t.c.m,I t.c.e]])) (.inl ?_) _ _ ?_ ?_ ?_ ?_ ?_ ?_ ?_ ?_ ?_ ?_).imp fun hh ⟨c',q⟩=>⟨c',q⟩
   ·simp [az,aW,gy]
   all_goals rfl
  ·simp only [t2] at k6
   simp only [gB,go_sem,↓reduceIte,adx,adz,ady,adA,adB,adC,h2,h4,h6,h18,h19,h20,k2,k3,k4,k6,ho3,e1,e2,hng]
   rw [if_pos (by rfl),nj rfl (show 1=List.length [[AV.sl 1 (bo t.exps),B (!t.c.neg),lm t.c.m,I t.c.e]] from rfl) rfl (by decide) (by show 1 < 2; decide)]
   simp only [go_sem,↓reduceIte,adx,adC,e5]
   refine (ih' (.osl 4 [[.sl 1 (bo t.exps),B (!t.c.neg),lm t.c.m,I t.c.e]]) (.inl ?_) _ _ ?_ ?_ ?_ ?_ ?_ ?_ ?_ ?_ ?_ ?_).imp fun hh ⟨c',q⟩=>⟨c',q⟩
   all_goals rfl
theorem Q7 {v v':Int} {a:Rp} {T:List Rt} (hT:∀ t ∈ T,VT v t) (hn:T.length≤100000) {o3:Ob} (ho3:aU [2,3,4,6] o3=true) (s:af) (h:aa) (X:Option (Ex × St)) (hX:aB 0 [2,4,6] (aD (au R (ab false) gB) [2,4,6,18,19,20] [2,3,4,6] s h)=X)
  (h2:s 2=.ref 2 none 0 0 0) (h4:s 4=.ref 4 none 0 0 0) (h6:s 6=.ref 6 none 0 0 0) (h18:s 18=.sl 4 (az T)) (h19:s 19=I T.length) (h20:s 20=I 0) (k2:h 2=.bx [I a.vars,.sl 4 (az a.terms)]) (k3:h 3=o3) (k4:h 4=.bx [I 0,.emp]) (k6:h 6=.bx [I v',.emp]) :
  ∃ hh c',X=some (.normal,⟨upd (upd (upd (fun _=>.any) 6 (.ref 6 none 0 0 0)) 4 (.ref 4 none 0 0 0)) 2 (.ref 2 none 0 0 0),hh⟩) ∧
   hh 2=.bx [I a.vars,.sl 4 (az a.terms)]∧hh 4=.bx [I 0,.emp]∧hh 6=t2 v' c'∧(∀ a,a ≠ 2→a ≠ 3→a ≠ 4→a ≠ 6→hh a=.dead)∧oO c' (T.map gy):=by
 subst hX
 exact K1 hT hn ho3 T.length 0 (Nat.zero_add _) .emp (.inr ⟨rfl,rfl⟩) s h h2 h4 h6 h18 h19 h20 k2 k3 k4 k6
theorem Pn {a b:Rp} (oa:OkP a) (ob:OkP b) (h:jZ a b=true):OkP ⟨b.vars,b.terms.map gy⟩∧qk a ⟨b.vars,b.terms.map gy⟩=o7 a b:=by
 obtain ⟨va,vb,hv⟩:=ky.1 h
 obtain ⟨cb,b0,b8,bl⟩:=ni ob vb
 have hp:∀ l:List Rt,Cl b.vars l→Cl b.vars (l.map gy):=by
  intro l
  induction l with
  | nil=>exact fun c=>c
  | cons t l ih =>
   intro c
   obtain ⟨c1,c2,c3⟩:=c.cons
   refine Cl.mk' (Ax c1) (fun x hx=>?_) (ih c3)
   obtain ⟨q,hq,rfl⟩:=List.mem_map.1 hx
   exact c2 q hq
 have hn:=hp _ cb
 refine ⟨QZ hn,?_⟩
 have h2:jZ a ⟨b.vars,b.terms.map gy⟩=true:=ky.2 ⟨va,Ur hn b0 b8 (by rw [List.length_map]; exact bl),hv⟩
 unfold qk o7
 rw [if_pos h2,if_pos h]
theorem Po {a b:Rp} (oa:OkP a) (ob:OkP b):R F.poly_Sub [bm a,bm b] []=some (pV (o7 a b),[]):=by
 refine aO Iz Iy (BG false) rfl ?_
 have hp:=Hl oa ob
 simp only [bm] at hp
 cases hb:jZ a b with
 | false =>
  rw [hb] at hp
  unfold o7
  rw [hb,if_neg Bool.false_ne_true]
  simp only [lE,sC,bm,go_sem,↓reduceIte,adx,adz,ady,adA,hp]
  rfl
 | true =>
  rw [hb] at hp
  obtain ⟨va,vb,hv⟩:=ky.1 hb
  obtain ⟨cb,b0,b8,bl⟩:=ni ob vb
  obtain ⟨on,e1⟩:=Pn oa ob hb
  have hadd:=Hn oa on
  rw [e1] at hadd
  have hl:=Q7 (v':=b.vars) (a:=a) (T:=b.terms) cb.t (by omega) (o3:=.bx [I b.vars,.sl 4 (az b.terms)]) rfl
  simp only [lE,sC,bm,go_sem,↓reduceIte,adx,adz,ady,adA,hp]
  generalize hX:aB 0 [2,4,6] _=X
  obtain ⟨hh,c',rfl,q2,q3,q4,q5,q6⟩:=hl _ _ _ hX rfl rfl rfl rfl rfl rfl rfl rfl rfl rfl
  have d1:hh 2304=.dead:=q5 _ (by decide) (by decide) (by decide) (by decide)
  have d2:hh 2305=.dead:=q5 _ (by decide) (by decide) (by decide) (by decide)
  generalize o7 a b=r at hadd ⊢
  obtain ⟨r1,r2⟩:=r
  simp only [pV,bm] at hadd
  rcases q6 with rfl | ⟨rfl,q6⟩
  ·simp only [t2] at q4
   simp only [pV,bm,go_sem,↓reduceIte,adx,adz,ady,adA,adC,q2,q3,q4,d1,d2,zb,Fr,hadd]
  ·simp only [t2] at q4
   rw [q6] at hadd
   rw [show az []=[] from rfl] at hadd
   simp only [pV,bm,go_sem,↓reduceIte,adx,adz,ady,adA,q2,q3,q4,d1,d2,hadd]
end Go.Ab
namespace Go.Ab
open Go Go.IntWalk
set_option maxRecDepth 4000
set_option maxHeartbeats 1000000
theorem K2 {v:Int} {l:List Rt}:R F.r23_finish [I v,.sl 4 (az l)] []=some (pV (jO v (some l)),[]):=by
 refine aO Eh Eg (yL false) rfl ?_
 unfold jO
 by_cases h:500 < l.length
 ·have e1:(500 < (l.length:Int))=True:=tt (by omega)
  simp only [if_pos h]
  simp only [jp,pT,pV,p0,bm,go_sem,↓reduceIte,adx,adz,ady,adA,e1]
  rfl
 ·have e1:(500 < (l.length:Int))=False:=ff (by omega)
  simp only [if_neg h]
  simp only [jp,pT,pV,bm,go_sem,↓reduceIte,adx,adz,ady,adA,e1]
theorem Fv (l:List Rt) (n:Nat):(az l).take n=az (l.take n):=by simp [az,List.map_take]
theorem Ni (l:List Rt) (n:Nat):(az l).drop n=az (l.drop n):=by simp [az,List.map_drop]
theorem n6 (l r:List Rt):az l++az r=az (l++r):=by simp [az]
theorem Q8 {l:List Rt} {p:Nat} (h:p≤l.length):cx 4 (.sl 4 (az l)) none (some (I p)) none=some (.sl 4 (az (l.take p))):=by
 simp only [cx,if_true,fv,dQ,qj h,qa,Option.bind_some,Option.map_some,rj,if_neg Bool.false_ne_true,List.drop_zero,Nat.sub_zero,Fv]
theorem K3 {l:List Rt} {p:Nat} (h:p≤l.length):cx 4 (.sl 4 (az l)) (some (I p)) none none=some (.sl 4 (az (l.drop p))):=by
 simp only [cx,if_true,fv,dQ,qj h,qa,Option.bind_some,Option.map_some,rj,if_neg Bool.false_ne_true,Fv,Ni]
 rw [List.take_of_length_le (by rw [List.length_drop]; omega)]
theorem sO {v:Int} {q t:Rt} (vq:VT v q) (vt:VT v t):R F.r23_Compare [.sl 1 (bo q.exps),.sl 1 (bo t.exps)] []=some (I (aZ q.exps t.exps),[]):=ve vq.sm vt.sm (vq.l2 vt)
theorem Nj {v:Int} {l:List Rt} {t:Rt} (c:Cl v l) (vt:VT v t) (hl:l.length≤1000000):∀ (k i:Nat),i+k=aJ l t.exps→∀ (s:af) (h:aa),s 0=.sl 4 (az l)→s 3=.ref 3 none 0 0 0→s 6=I i→h 3=.bx (aW t) →
  aB 0 [0,3,6] (aD (au R (ab false) gb) [0,3,6] [3] s h)=some (.normal,⟨upd (upd (upd (fun _=>.any) 6 (I (aJ l t.exps))) 3 (.ref 3 none 0 0 0)) 0 (.sl 4 (az l)),upd (fun _=>.dead) 3 (.bx (aW t))⟩):=by
 intro k
 induction k with
 | zero =>
  intro i hi s h h0 h3 h6 k3
  obtain rfl:i=aJ l t.exps:=by omega
  rw [av]
  simp only [aW] at k3
  cases hq:l[aJ l t.exps]? with
  | none =>
   have:l.length≤aJ l t.exps:=List.getElem?_eq_none_iff.1 hq
   have e1:((aJ l t.exps:Int) < (l.length:Int))=False:=ff (by omega)
   simp only [gb,aW,go_sem,↓reduceIte,adx,adC,h0,h3,h6,k3,e1]
  | some q =>
   have hlt:=(List.getElem?_eq_some_iff.1 hq).1
   have e1:((aJ l t.exps:Int) < (l.length:Int))=True:=tt (by omega)
   have e2:aX (az l) (aJ l t.exps:Int)=some (.ipt (aW q)):=eW rfl hq
   have hc:=sO (c.t q (List.mem_of_getElem? hq)) vt
   have e3:(aZ q.exps t.exps < 0)=False:=ff (by have:=vQ hq; omega)
   simp only [aW] at e2
   simp only [gb,aW,go_sem,↓reduceIte,adx,adz,ady,adB,adC,h0,h3,h6,k3,e1,e2,hc,e3]
 | succ k ih =>
  intro i hi s h h0 h3 h6 k3
  have hle:=pE l t.exps
  have hlt:i < l.length:=by omega
  have e1:((i:Int) < (l.length:Int))=True:=tt (by omega)
  have hq:l[i]?=some l[i]:=List.getElem?_eq_getElem hlt
  have e2:aX (az l) (i:Int)=some (.ipt (aW l[i])):=eW rfl hq
  have hc:=sO (c.t l[i] (List.mem_of_getElem? hq)) vt
  have e3:(aZ (l[i]).exps t.exps < 0)=True:=tt (At (by omega) hq)
  have e5:IntKind.i64.wrap ((i:Int)+1)=((i+1:Nat):Int):=wi (by omega) (by omega)
  have ih':=ih (i+1) (by omega)
  generalize l[i]=q at e2 hc e3
  rw [av]
  generalize aD _ _ _=L at ih' ⊢
  simp only [aW] at k3 e2
  simp only [gb,go_sem,↓reduceIte,adx,adz,ady,adB,adC,h0,h3,h6,k3,e1,e2,e5,hc,e3]
  exact ih' _ _ rfl rfl rfl rfl
def Az:Option (List Rt)→AV
 | none=>.tup [.sl 4 [],B false]
 | some l=>.tup [.sl 4 (az l),B true]
theorem sP {L:List Rt} {r:List (List AV)} (h:r=az L):(Option.map (fun us=>(jS (aM [[.o 5 [.o 2 [],.o 0 [],.o 2 [],.o 0 []]],[]] us),([]:List Ob))) ((some (AV.osl 4 r)).bind fun b=>some [b,.v (.bool true)]))=some (Az (some L),[]):=by
 subst h
 have h:=rR L
 show some (AV.tup [.sl 4 ((az L).map _),B true],[])=_
 rw [h]
 rfl
theorem Jd {v:Int} {l:List Rt} {t:Rt} (c:Cl v l) (vt:VT v t) (hl:l.length≤1000000):R F.r23_Collect [.sl 4 (az l),.agg (aW t)] []=some (Az (ji l t),[]):=by
 refine aO BL BK (w6 false) rfl ?_
 have hle:=pE l t.exps
 have h3:=Nj c vt hl (aJ l t.exps) 0 (Nat.zero_add _)
 simp only [Int.natCast_zero,aW] at h3
 have s1:=Q8 (l:=l) hle
 have s2:=K3 (l:=l) hle
 have l1:(l.take (aJ l t.exps)).length=aJ l t.exps:=by rw [List.length_take]; omega
 have b1:(aJ l t.exps*64≤140737488355328)=True:=eq_true (by omega)
 have b2:((aJ l t.exps+1)*64≤140737488355328)=True:=eq_true (by omega)
 have b3:((aJ l t.exps+1+(l.length - aJ l t.exps))*64≤140737488355328)=True:=eq_true (by omega)
 rw [Au]
 simp only [kI,sX,aW,go_sem,↓reduceIte,adx,ady]
 rw [h3 _ _ rfl rfl rfl rfl]
 have t0:[[AV.sl 1 (bo t.exps),B t.c.neg,lm t.c.m,I t.c.e]]=az [t]:=rfl
 cases hq:l[aJ l t.exps]? with
 | none =>
  have:l.length≤aJ l t.exps:=List.getElem?_eq_none_iff.1 hq
  have e1:((aJ l t.exps:Int) < (l.length:Int))=False:=ff (by omega)
  simp only [go_sem,↓reduceIte,adx,adz,ady,adA,adB,adC,s1,s2,l1,b1,b2,b3,e1,true_or,List.nil_append,List.length_nil,Nat.zero_add,List.length_cons,List.length_append,List.length_drop]
  rw [if_pos (Nat.le_refl _)]
  exact sP (by rw [t0,n6,n6,List.append_assoc]; rfl)
 | some q =>
  have hlt:=(List.getElem?_eq_some_iff.1 hq).1
  have e1:((aJ l t.exps:Int) < (l.length:Int))=True:=tt (by omega)
  have e2:aX (az l) (aJ l t.exps:Int)=some (.ipt (aW q)):=eW rfl hq
  have vq:=c.t q (List.mem_of_getElem? hq)
  have hc:=sO vq vt
  simp only [aW] at e2
  by_cases ho:aZ q.exps t.exps=0
  ·have e3:(aZ q.exps t.exps=0)=True:=tt ho
   simp only [if_pos ho]
   have hadd:=Pb vq.c vt.c
   have hexp:=Hg (vq.l2 vt) ho
   have hw:IntKind.i64.wrap ((aJ l t.exps:Int)+1)=((aJ l t.exps+1:Nat):Int):=wi (by omega) (by omega)
   have s3:=K3 (l:=l) (p:=aJ l t.exps+1) hlt
   have c1:((aJ l t.exps+(l.length - (aJ l t.exps+1)))*64≤140737488355328)=True:=eq_true (by omega)
   have c2:((aJ l t.exps+1+(l.length - (aJ l t.exps+1)))*64≤140737488355328)=True:=eq_true (by omega)
   generalize iF q.c t.c=r at hadd ⊢
   obtain ⟨s,e⟩:=r
   simp only [rV,aC,aP] at hadd
   by_cases he:e=0
   ·subst he
    by_cases hs:s.m.length=0
    ·have f1:(0 < (s.m.length:Int))=False:=ff (by omega)
     have f2:(s.m.length=0)=True:=eq_true hs
     simp only [go_sem,↓reduceIte,adx,adz,ady,adA,adB,adC,s1,l1,b1,b2,true_or,List.nil_append,List.length_nil,Nat.zero_add,List.length_cons,List.length_append,List.length_drop,s3,hw,e1,e2,hc,e3,hadd,f1,f2,c1]
     rw [if_pos (Nat.le_refl _)]
     exact sP (by rw [n6])
    ·have f1:(0 < (s.m.length:Int))=True:=tt (by omega)
     simp only [go_sem,↓reduceIte,adx,adz,ady,adA,adB,adC,s1,l1,b1,b2,true_or,List.nil_append,List.length_nil,Nat.zero_add,List.length_cons,List.length_append,List.length_drop,s3,hw,e1,e2,hc,e3,hadd,f1,c2,hs]
     rw [if_pos (Nat.le_refl _)]
     refine sP ?_
     rw [List.set_eq_take_append_cons_drop,if_pos hlt,hexp]
     show az _++az [⟨t.exps,s⟩]++az _=_
     rw [n6,n6,List.append_assoc]
     rfl
   ·have f1:(e=0)=False:=ff he
    simp only [go_sem,↓reduceIte,adx,adz,ady,adA,adB,adC,s1,l1,b1,true_or,List.nil_append,List.length_nil,Nat.zero_add,List.length_cons,e1,e2,hc,e3,hadd,f1]
    rfl
  ·have e3:(aZ q.exps t.exps=0)=False:=ff ho
   simp only [if_neg ho]
   simp only [go_sem,↓reduceIte,adx,adz,ady,adA,adB,adC,s1,s2,l1,b1,b2,b3,true_or,List.nil_append,List.length_nil,Nat.zero_add,List.length_cons,List.length_append,List.length_drop,e1,e2,hc,e3]
   rw [if_pos (Nat.le_refl _)]
   exact sP (by rw [t0,n6,n6,List.append_assoc]; rfl)
end Go.Ab
namespace Go.Ab
open Go Go.IntWalk
set_option maxRecDepth 4000
set_option maxHeartbeats 1000000
theorem Nk {v:Int} {t:Rt} (vt:VT v t):R F.r02_Neg [aC t.c] []=some (aC (gy t).c,[]):=by
 have h:=O6 (d:=t.c)
 have e:I8 t.c=(gy t).c:=by
  have:=vt.nz
  unfold I8 gy
  simp
  omega
 rw [e] at h
 exact h
def oP (m:Bool) (t:Rt):Rt:=if m=true then gy t else t
theorem K4 {v:Int} {t:Rt} (m:Bool) (h:VT v t):VT v (oP m t):=by
 unfold oP
 split
 ·exact Ax h
 ·exact h
def xU (hh:aa):Option (List Rt)→Option (Ex × St)
 | some l=>some (.normal,⟨upd (upd (upd (fun _=>.any) 8 (.sl 4 (az l))) 6 (.ref 6 none 0 0 0)) 3 (.ref 3 none 0 0 0),hh⟩)
 | none=>some (.ret,⟨upd (upd (fun _=>.any) 7 (I 9)) 6 (.ref 6 none 0 0 0),hh⟩)
theorem K5 {v:Int} {a:Rp} {b:Rp} {m:Bool} (hb:∀ t ∈ b.terms,VT v t) (hn:b.terms.length≤100000):∀ (k i:Nat),i+k=b.terms.length→∀ (l:List Rt),Cl v l→l.length+k≤1000000 →
  ∀ (s:af) (h:aa),s 2=B m→s 3=.ref 3 none 0 0 0→s 4=.ref 4 none 0 0 0→s 6=.ref 6 none 0 0 0→s 8=.sl 4 (az l)→s 9=I i→h 3=.bx [I a.vars,.sl 4 (az a.terms)]→h 4=.bx [I b.vars,.sl 4 (az b.terms)]→h 6=.bx [I 0,.emp] →
  ∃ hh,aB 0 [3,6,8] (aD (au R (ab false) eH) [2,3,4,6,8,9] [3,4,6] s h)=xU hh (dG l ((b.terms.drop i).map (oP m)))∧hh 3=.bx [I a.vars,.sl 4 (az a.terms)]∧hh 6=.bx [I 0,.emp]∧∀ x,100≤x→(dG l ((b.terms.drop i).map (oP m))).isSome=true→hh x=.dead:=by
 intro k
 induction k with
 | zero =>
  intro i hi l c hl s h h2 h3 h4 h6 h8 h9 k3 k4 k6
  have e1:((i:Int) < b.terms.length)=False:=ff (by omega)
  rw [List.drop_eq_nil_of_le (by omega),av]
  refine ⟨?hh0,?_,?_,?_,?_⟩
  rotate_left
  ·simp only [eH,List.map_nil,dG,xU,go_sem,↓reduceIte,adx,adz,ady,adC,h2,h3,h4,h6,h8,h9,k3,k4,k6,e1]
   rfl
  ·rfl
  ·rfl
  ·intro x hx _
   simp only [gz]
   rw [if_neg (by omega),if_neg (by omega),if_neg (by omega)]
 | succ k ih =>
  intro i hi l c hl s h h2 h3 h4 h6 h8 h9 k3 k4 k6
  have hlt:i < b.terms.length:=by omega
  have e1:((i:Int) < b.terms.length)=True:=tt (by omega)
  have e2:aX (az b.terms) (i:Int)=some (.ipt (aW b.terms[i])):=eW rfl (List.getElem?_eq_getElem hlt)
  have e5:IntKind.i64.wrap ((i:Int)+1)=((i+1:Nat):Int):=wi (by omega) (by omega)
  have vt:=hb _ (List.getElem_mem hlt)
  have hng:=Nk vt
  have hcol:=Jd c (K4 m vt) (by omega)
  rw [List.drop_eq_getElem_cons hlt,List.map_cons]
  have ih':=ih (i+1) (by omega)
  generalize b.terms[i]=t at e2 vt hng hcol ⊢
  rw [av]
  generalize aD _ _ _=L at ih' ⊢
  simp only [aC,aP,gy] at hng
  simp only [aW] at e2
  have hc0:dG l (oP m t::(b.terms.drop (i+1)).map (oP m))=(ji l (oP m t)).bind fun l'=>dG l' ((b.terms.drop (i+1)).map (oP m)):=rfl
  rw [hc0]
  cases hins:ji l (oP m t) with
  | none =>
   rw [hins] at hcol
   cases m
   ·simp only [oP,if_neg Bool.false_ne_true,aW,Az] at hcol
    refine ⟨?hh1,?_,?_,?_,fun x _ h=>by cases h⟩
    rotate_left
    ·simp only [eH,Option.bind_none,xU,go_sem,↓reduceIte,adx,adz,ady,adA,adC,h2,h3,h4,h6,h8,h9,k3,k4,k6,e1,e2,hcol]
     rfl
    ·rfl
    ·rfl
   ·simp only [oP,if_true,aW,gy,Az] at hcol
    refine ⟨?hh2,?_,?_,?_,fun x _ h=>by cases h⟩
    rotate_left
    ·simp only [eH,Option.bind_none,xU,go_sem,↓reduceIte,adx,adz,ady,adA,adC,h2,h3,h4,h6,h8,h9,k3,k4,k6,e1,e2,hng,hcol]
     rfl
    ·rfl
    ·rfl
  | some l' =>
   rw [hins] at hcol
   have hlen:=sN hins
   have ih2:=ih' l' (vR c (K4 m vt) hins).1 (by omega)
   cases m
   ·simp only [oP,if_neg Bool.false_ne_true,aW,Az] at hcol
    simp only [eH,Option.bind_some,go_sem,↓reduceIte,adx,adz,ady,adA,adC,h2,h3,h4,h6,h8,h9,k3,k4,k6,e1,e2,e5,hcol]
    exact ih2 _ _ rfl rfl rfl rfl rfl rfl rfl rfl rfl
   ·simp only [oP,if_true,aW,gy,Az] at hcol
    simp only [eH,Option.bind_some,go_sem,↓reduceIte,adx,adz,ady,adA,adC,h2,h3,h4,h6,h8,h9,k3,k4,k6,e1,e2,e5,hng,hcol]
    exact ih2 _ _ rfl rfl rfl rfl rfl rfl rfl rfl rfl
theorem Q9 {v:Int} {a b:Rp} {m:Bool} (hb:∀ t ∈ b.terms,VT v t) (hn:b.terms.length≤100000) (c:Cl v a.terms) (hl:a.terms.length≤100000) (s:af) (h:aa) (X:Option (Ex × St)) (hX:aB 0 [3,6,8] (aD (au R (ab false) eH) [2,3,4,6,8,9] [3,4,6] s h)=X)
  (h2:s 2=B m) (h3:s 3=.ref 3 none 0 0 0) (h4:s 4=.ref 4 none 0 0 0) (h6:s 6=.ref 6 none 0 0 0) (h8:s 8=.sl 4 (az a.terms)) (h9:s 9=I 0) (k3:h 3=.bx [I a.vars,.sl 4 (az a.terms)]) (k4:h 4=.bx [I b.vars,.sl 4 (az b.terms)]) (k6:h 6=.bx [I 0,.emp]) :
  ∃ hh,X=xU hh (dG a.terms (b.terms.map (oP m)))∧hh 3=.bx [I a.vars,.sl 4 (az a.terms)]∧hh 6=.bx [I 0,.emp]∧∀ x,100≤x→(dG a.terms (b.terms.map (oP m))).isSome=true→hh x=.dead:=by
 subst hX
 exact K5 hb hn b.terms.length 0 (Nat.zero_add _) a.terms c (by omega) s h h2 h3 h4 h6 h8 h9 k3 k4 k6
def Fw (m:Bool) (a b:Rp):Rp × Int:=if m=true then o7 a b else qk a b
theorem Fx {a b:Rp} (oa:OkP a) (ob:OkP b) {m:Bool}:R F.r23_Add [bm a,bm b,B m] []=some (pV (Fw m a b),[]):=by
 refine aO Kb Ka (D7 false) rfl ?_
 have v1:=za oa
 have v2:=za ob
 simp only [bm] at v1 v2
 have hne:jZ a b=false→Fw m a b=(p0,1):=fun h=>by
  unfold Fw o7 qk
  rw [h]
  simp
 cases va:vp a with
 | false =>
  rw [va] at v1
  rw [hne (by unfold jZ; rw [va]; rfl)]
  simp only [iU,oD,bm,go_sem,↓reduceIte,adx,adz,ady,adA,v1]
  rfl
 | true =>
  rw [va] at v1
  cases vb:vp b with
  | false =>
   rw [vb] at v2
   rw [hne (by unfold jZ; rw [va,vb]; rfl)]
   simp only [iU,oD,bm,go_sem,↓reduceIte,adx,adz,ady,adA,v1,v2]
   rfl
  | true =>
   rw [vb] at v2
   by_cases hv:a.vars=b.vars
   ·have e1:(a.vars=b.vars)=True:=eq_true hv
    have hb:=ky.2 ⟨va,vb,hv⟩
    obtain ⟨ca,a0,a8,al⟩:=ni oa va
    obtain ⟨cb,b0,b8,bl⟩:=ni ob vb
    rw [← hv] at cb
    have has:Fw m a b=jO a.vars (dG a.terms (b.terms.map (oP m))):=by
     have h0:dG [] a.terms=some a.terms:=Fk (l:=[]) ca
     unfold Fw o7 qk
     rw [hb]
     cases m
     ·rw [if_neg Bool.false_ne_true,if_pos rfl,xS,h0]
      show jO a.vars (dG a.terms b.terms)=_
      congr 2
      exact (List.map_id' _).symm
     ·rw [if_pos rfl,if_pos rfl,xS,h0]
      rfl
    have hl:=Q9 (a:=a) (m:=m) cb.t (by omega) ca (by omega)
    rw [has]
    simp only [iU,oD,bm,go_sem,↓reduceIte,adx,adz,ady,adA,v1,v2,e1]
    generalize hX:aB 0 [3,6,8] _=X
    obtain ⟨hh,rfl,q2,q3,q4⟩:=hl _ _ _ hX rfl rfl rfl rfl rfl rfl rfl rfl rfl
    cases hc:dG a.terms (b.terms.map (oP m)) with
    | none =>
     simp only [xU,jO,p0,pV,bm,go_sem,↓reduceIte,adx,adz,ady,adA,q3]
     rfl
    | some l =>
     rw [hc] at q4
     have d1:hh 2472=.dead:=q4 _ (by decide) rfl
     have d2:hh 2473=.dead:=q4 _ (by decide) rfl
     have hf:=K2 (v:=a.vars) (l:=l)
     generalize jO a.vars (some l)=r at hf ⊢
     obtain ⟨r1,r2⟩:=r
     simp only [pV,bm] at hf
     simp only [xU,pV,bm,go_sem,↓reduceIte,adx,adz,ady,adA,q2,q3,d1,d2,hf]
   ·have e1:(a.vars=b.vars)=False:=eq_false hv
    rw [hne (by unfold jZ; rw [va,vb,decide_eq_false hv]; rfl)]
    simp only [iU,oD,bm,go_sem,↓reduceIte,adx,adz,ady,adA,v1,v2,e1]
    rfl
end Go.Ab
namespace Go.Ab
open Go Go.IntWalk
set_option maxRecDepth 4000
set_option maxHeartbeats 1000000
def nl:List Nat→List Nat→Bool
 | [],[]=>true
 | x::xs,y::ys=>decide (x=y) && nl xs ys
 | _,_=>false
theorem Ho:∀ {a b:List Nat},nl a b=true↔a=b
 | [],[]=>by simp [nl]
 | x::a,y::b=>by simp [nl,Ho]
 | [],_::_=>by simp [nl]
 | _::_,[]=>by simp [nl]
theorem Nl {x y:Rd} (hl:x.m.length=y.m.length) (h2:x.m.length≤100000):∀ (k i:Nat),i+k=x.m.length→∀ (s:af) (h:aa),s 2=.ref 2 none 0 0 0→s 3=.ref 3 none 0 0 0→s 5=I i→h 2=.bx (aP x)→h 3=.bx (aP y) →
  ∃ hh,aB 0 [] (aD (au R (ab false) eP) [2,3,5] [2,3] s h)=if nl (x.m.drop i) (y.m.drop i)=true then some (.normal,⟨fun _=>.any,hh⟩) else some (.ret,⟨upd (fun _=>.any) 4 (B false),hh⟩):=by
 intro k
 induction k with
 | zero =>
  intro i hi s h g2 g3 g5 k2 k3
  have e1:((i:Int) < x.m.length)=False:=ff (by omega)
  rw [List.drop_eq_nil_of_le (by omega),List.drop_eq_nil_of_le (by omega),av]
  simp only [aP] at k2 k3
  refine ⟨?hh0,?_⟩
  rotate_left
  ·simp only [eP,nl,go_sem,↓reduceIte,adx,adz,ady,adC,g2,g3,g5,k2,k3,e1]
   rfl
 | succ k ih =>
  intro i hi s h g2 g3 g5 k2 k3
  have hlt:i < x.m.length:=by omega
  have hlt2:i < y.m.length:=by omega
  have e1:((i:Int) < x.m.length)=True:=tt (by omega)
  have e2:aX (aG x.m) (i:Int)=some (.ipt [U (x.m.getD i 0:Nat)]):=ba rfl hlt
  have e3:aX (aG y.m) (i:Int)=some (.ipt [U (y.m.getD i 0:Nat)]):=ba rfl hlt2
  have e5:IntKind.i64.wrap ((i:Int)+1)=((i+1:Nat):Int):=wi (by omega) (by omega)
  have ih':=ih (i+1) (by omega)
  rw [List.drop_eq_getElem_cons hlt,List.drop_eq_getElem_cons hlt2,av]
  have v1:x.m.getD i 0=x.m[i]:=by simp [List.getD,hlt]
  have v2:y.m.getD i 0=y.m[i]:=by simp [List.getD,hlt2]
  rw [v1] at e2
  rw [v2] at e3
  generalize x.m[i]=p at e2 ⊢
  generalize y.m[i]=q at e3 ⊢
  generalize aD _ _ _=L at ih' ⊢
  unfold nl
  simp only [aP] at k2 k3
  by_cases hpq:p=q
  ·have e4:((p:Int)=(q:Int))=True:=tt (by omega)
   rw [decide_eq_true hpq,Bool.true_and]
   simp only [eP,go_sem,↓reduceIte,adx,adz,ady,adB,adC,g2,g3,g5,k2,k3,e1,e2,e3,e4,e5]
   exact ih' _ _ rfl rfl rfl rfl rfl
  ·have e4:((p:Int)=(q:Int))=False:=ff (by omega)
   rw [decide_eq_false hpq,Bool.false_and]
   simp only [if_neg Bool.false_ne_true]
   refine ⟨?hh1,?_⟩
   rotate_left
   ·simp only [eP,go_sem,↓reduceIte,adx,adz,ady,adB,adC,g2,g3,g5,k2,k3,e1,e2,e3,e4]
    rfl
theorem Uv {x y:Rd} (hl:x.m.length=y.m.length) (h2:x.m.length≤100000) (s:af) (h:aa) (X:Option (Ex × St)) (hX:aB 0 [] (aD (au R (ab false) eP) [2,3,5] [2,3] s h)=X) (g2:s 2=.ref 2 none 0 0 0) (g3:s 3=.ref 3 none 0 0 0) (g5:s 5=I 0) (k2:h 2=.bx [B x.neg,lm x.m,I x.e]) (k3:h 3=.bx [B y.neg,lm y.m,I y.e]) :
  ∃ hh,X=if nl x.m y.m=true then some (.normal,⟨fun _=>.any,hh⟩) else some (.ret,⟨upd (fun _=>.any) 4 (B false),hh⟩):=by
 subst hX
 exact Nl hl h2 x.m.length 0 (Nat.zero_add _) s h g2 g3 g5 k2 k3
def AA (x y:Rd):Bool:=(x.neg == y.neg) && (decide (x.e=y.e) && nl x.m y.m)
theorem Pp {x y:Rd}:AA x y=true↔x=y:=by
 unfold AA
 rw [Bool.and_eq_true,Bool.and_eq_true,Ho,beq_iff_eq,decide_eq_true_eq]
 constructor
 ·rintro ⟨h1,h2,h3⟩
  cases x
  cases y
  cases h1
  cases h2
  cases h3
  rfl
 ·rintro rfl
  exact ⟨rfl,rfl,rfl⟩
theorem Fy:∀ {a b:List Nat},a.length ≠ b.length→nl a b=false
 | [],[],h=>absurd rfl h
 | x::a,y::b,h=>by
  unfold nl
  rw [Fy (fun e=>h (by simp [e])),Bool.and_false]
 | [],_::_,_=>rfl
 | _::_,[],_=>rfl
theorem K6 {x y:Rd} (hx:x.m.length≤100000):R F.r23_number [aC x,aC y] []=some (B (AA x y),[]):=by
 refine aO Ez Ey (yP false) rfl ?_
 unfold AA
 cases h1:(x.neg == y.neg) with
 | false =>
  have h4:(true != (x.neg == y.neg))=true:=by rw [h1]; rfl
  rw [Bool.false_and]
  simp only [eZ,kl,aC,aP,go_sem,↓reduceIte,adx,adz,ady,h4]
 | true =>
  have h4:(true != (x.neg == y.neg))=false:=by rw [h1]; rfl
  rw [Bool.true_and]
  by_cases h2:x.e=y.e
  ·have e2:(x.e=y.e)=True:=eq_true h2
   rw [decide_eq_true h2,Bool.true_and]
   by_cases h3:x.m.length=y.m.length
   ·have e3:((x.m.length:Int)=(y.m.length:Int))=True:=tt (by omega)
    have hl:=Uv (x:=x) (y:=y) h3 hx
    simp only [eZ,kl,aC,aP,go_sem,↓reduceIte,adx,adz,ady,h4,e2,e3]
    generalize hX:aB 0 [] _=X
    obtain ⟨hh,rfl⟩:=hl _ _ _ hX rfl rfl rfl rfl rfl
    cases nl x.m y.m with
    | true =>
     simp only [go_sem,↓reduceIte]
    | false =>
     simp only [go_sem,↓reduceIte]
   ·have e3:((x.m.length:Int)=(y.m.length:Int))=False:=ff (by omega)
    rw [Fy h3]
    simp only [eZ,kl,aC,aP,go_sem,↓reduceIte,adx,adz,ady,h4,e2,e3]
  ·have e2:(x.e=y.e)=False:=eq_false h2
   rw [decide_eq_false h2,Bool.false_and]
   simp only [eZ,kl,aC,aP,go_sem,↓reduceIte,adx,adz,ady,h4,e2]
def j1:List Rt→List Rt→Bool
 | [],[]=>true
 | x::xs,y::ys=>(decide (aZ x.exps y.exps=0) && AA x.c y.c) && j1 xs ys
 | _,_=>false
theorem Bl:∀ {a b:List Rt},a.length ≠ b.length→j1 a b=false
 | [],[],h=>absurd rfl h
 | x::a,y::b,h=>by
  unfold j1
  rw [Bl (fun e=>h (by simp [e])),Bool.and_false]
 | [],_::_,_=>rfl
 | _::_,[],_=>rfl
theorem Fz {v:Int}:∀ {a b:List Rt},(∀ t ∈ a,VT v t)→(∀ t ∈ b,VT v t)→(j1 a b=true↔a=b)
 | [],[],_,_=>by simp [j1]
 | x::a,y::b,ha,hb=>by
  have ih:=Fz (a:=a) (b:=b) (fun t ht=>ha t (by simp [ht])) (fun t ht=>hb t (by simp [ht]))
  have vx:=ha x (by simp)
  have vy:=hb y (by simp)
  unfold j1
  rw [Bool.and_eq_true,Bool.and_eq_true,decide_eq_true_eq,Pp,ih]
  constructor
  ·rintro ⟨⟨h1,h2⟩,rfl⟩
   have h3:=Hg (vx.l2 vy) h1
   cases x
   cases y
   cases h3
   cases h2
   rfl
  ·intro h
   cases h
   exact ⟨⟨KO _,rfl⟩,rfl⟩
 | [],_::_,_,_=>by simp [j1]
 | _::_,[],_,_=>by simp [j1]
theorem K7 {v:Int} {a b:Rp} (ha:∀ t ∈ a.terms,VT v t) (hb:∀ t ∈ b.terms,VT v t) (hl:a.terms.length=b.terms.length) (h2:a.terms.length≤100000):∀ (k i:Nat),i+k=a.terms.length→∀ (s:af) (h:aa),s 2=.ref 2 none 0 0 0→s 3=.ref 3 none 0 0 0→s 5=I i→h 2=.bx [I a.vars,.sl 4 (az a.terms)]→h 3=.bx [I b.vars,.sl 4 (az b.terms)] →
  ∃ hh,aB 0 [] (aD (au R (ab false) eY) [2,3,5] [2,3] s h)=if j1 (a.terms.drop i) (b.terms.drop i)=true then some (.normal,⟨fun _=>.any,hh⟩) else some (.ret,⟨upd (fun _=>.any) 4 (B false),hh⟩):=by
 intro k
 induction k with
 | zero =>
  intro i hi s h g2 g3 g5 k2 k3
  have e1:((i:Int) < a.terms.length)=False:=ff (by omega)
  rw [List.drop_eq_nil_of_le (by omega),List.drop_eq_nil_of_le (by omega),av]
  refine ⟨?hh0,?_⟩
  rotate_left
  ·simp only [eY,j1,go_sem,↓reduceIte,adx,adz,ady,adC,g2,g3,g5,k2,k3,e1]
   rfl
 | succ k ih =>
  intro i hi s h g2 g3 g5 k2 k3
  have hlt:i < a.terms.length:=by omega
  have hlt2:i < b.terms.length:=by omega
  have e1:((i:Int) < a.terms.length)=True:=tt (by omega)
  have e2:aX (az a.terms) (i:Int)=some (.ipt (aW a.terms[i])):=eW rfl (List.getElem?_eq_getElem hlt)
  have e3:aX (az b.terms) (i:Int)=some (.ipt (aW b.terms[i])):=eW rfl (List.getElem?_eq_getElem hlt2)
  have e5:IntKind.i64.wrap ((i:Int)+1)=((i+1:Nat):Int):=wi (by omega) (by omega)
  have ih':=ih (i+1) (by omega)
  have vx:=ha _ (List.getElem_mem hlt)
  have vy:=hb _ (List.getElem_mem hlt2)
  rw [List.drop_eq_getElem_cons hlt,List.drop_eq_getElem_cons hlt2,av]
  generalize a.terms[i]=x at e2 vx ⊢
  generalize b.terms[i]=y at e3 vy ⊢
  generalize aD _ _ _=L at ih' ⊢
  have hc:=sO vx vy
  have hnum:=K6 (x:=x.c) (y:=y.c) (Nat.le_trans (rP vx.vc vx.c.lb) (by decide))
  have hle:((x.exps.length:Int)=(y.exps.length:Int))=True:=tt (by have:=vx.l2 vy; omega)
  unfold j1
  simp only [aW] at e2 e3
  simp only [aC,aP] at hnum
  by_cases ho:aZ x.exps y.exps=0
  ·have e4:(aZ x.exps y.exps=0)=True:=eq_true ho
   rw [decide_eq_true ho,Bool.true_and]
   cases hn:AA x.c y.c with
   | true =>
    rw [hn] at hnum
    rw [Bool.true_and]
    simp only [eY,go_sem,↓reduceIte,adx,adz,ady,adA,adB,adC,g2,g3,g5,k2,k3,e1,e2,e3,hle,hc,e4,hnum,e5]
    exact ih' _ _ rfl rfl rfl rfl rfl
   | false =>
    rw [hn] at hnum
    rw [Bool.false_and]
    simp only [if_neg Bool.false_ne_true]
    refine ⟨?hh1,?_⟩
    rotate_left
    ·simp only [eY,go_sem,↓reduceIte,adx,adz,ady,adA,adB,adC,g2,g3,g5,k2,k3,e1,e2,e3,hle,hc,e4,hnum]
     rfl
  ·have e4:(aZ x.exps y.exps=0)=False:=eq_false ho
   rw [decide_eq_false ho,Bool.false_and,Bool.false_and]
   simp only [if_neg Bool.false_ne_true]
   refine ⟨?hh2,?_⟩
   rotate_left
   ·simp only [eY,go_sem,↓reduceIte,adx,adz,ady,adA,adB,adC,g2,g3,g5,k2,k3,e1,e2,e3,hle,hc,e4]
    rfl
theorem Ra {v:Int} {a b:Rp} (ha:∀ t ∈ a.terms,VT v t) (hb:∀ t ∈ b.terms,VT v t) (hl:a.terms.length=b.terms.length) (h2:a.terms.length≤100000) (s:af) (h:aa) (X:Option (Ex × St)) (hX:aB 0 [] (aD (au R (ab false) eY) [2,3,5] [2,3] s h)=X)
  (g2:s 2=.ref 2 none 0 0 0) (g3:s 3=.ref 3 none 0 0 0) (g5:s 5=I 0) (k2:h 2=.bx [I a.vars,.sl 4 (az a.terms)]) (k3:h 3=.bx [I b.vars,.sl 4 (az b.terms)]) :
  ∃ hh,X=if j1 a.terms b.terms=true then some (.normal,⟨fun _=>.any,hh⟩) else some (.ret,⟨upd (fun _=>.any) 4 (B false),hh⟩):=by
 subst hX
 exact K7 ha hb hl h2 a.terms.length 0 (Nat.zero_add _) s h g2 g3 g5 k2 k3
def CZ (a b:Rp):Bool:=decide (a.vars=b.vars) && j1 a.terms b.terms
theorem Pq {a b:Rp} (ha:Cl a.vars a.terms) (hb:Cl b.vars b.terms) (h2:a.terms.length≤100000):R F.r23_Same [bm a,bm b] []=some (B (CZ a b),[]):=by
 refine aO IC IB (BH false) rfl ?_
 unfold CZ
 by_cases hv:a.vars=b.vars
 ·have e1:(a.vars=b.vars)=True:=eq_true hv
  rw [decide_eq_true hv,Bool.true_and]
  by_cases h3:a.terms.length=b.terms.length
  ·have e3:((a.terms.length:Int)=(b.terms.length:Int))=True:=tt (by omega)
   have hbt:=hb.t
   rw [← hv] at hbt
   have hl:=Ra (a:=a) (b:=b) ha.t hbt h3 h2
   simp only [jx,pj,bm,go_sem,↓reduceIte,adx,adz,ady,e1,e3]
   generalize hX:aB 0 [] _=X
   obtain ⟨hh,rfl⟩:=hl _ _ _ hX rfl rfl rfl rfl rfl
   cases j1 a.terms b.terms with
   | true=>simp only [go_sem,↓reduceIte]
   | false=>simp only [go_sem,↓reduceIte]
  ·have e3:((a.terms.length:Int)=(b.terms.length:Int))=False:=ff (by omega)
   rw [Bl h3]
   simp only [jx,pj,bm,go_sem,↓reduceIte,adx,adz,ady,e1,e3]
 ·have e1:(a.vars=b.vars)=False:=eq_false hv
  rw [decide_eq_false hv,Bool.false_and]
  simp only [jx,pj,bm,go_sem,↓reduceIte,adx,adz,ady,e1]
end Go.Ab
namespace Go.Ab
open Go Go.IntWalk
set_option maxRecDepth 4000
set_option maxHeartbeats 1000000
def sQ (t:Rt):Bool:=decide (10 < t.c.m.length) || decide (20 < t.exps.length)
theorem Je {t:Rt}:R F.l23_great_1_1 [.agg (aW t)] []=some (B (sQ t),[]):=by
 refine aO yJ yI (uT false) rfl ?_
 unfold sQ
 by_cases h:10 < t.c.m.length
 ·have e1:(10 < (t.c.m.length:Int))=True:=tt (by omega)
  rw [decide_eq_true h,Bool.true_or]
  simp only [fZ,mQ,aW,go_sem,↓reduceIte,adx,adz,ady,e1]
 ·have e1:(10 < (t.c.m.length:Int))=False:=ff (by omega)
  rw [decide_eq_false h,Bool.false_or]
  have e2:decide ((20:Int) < (t.exps.length:Int))=decide (20 < t.exps.length):=by rw [decide_eq_decide]; omega
  simp only [fZ,mQ,aW,go_sem,↓reduceIte,adx,adz,ady,e1,e2]
theorem lmB (m:List Nat):(aG m).map (fun r=>match r with | [.v (.int _ x)]=>x.toNat | _=>0)=m:=by
 unfold aG
 rw [List.map_map]
 exact (List.map_congr_left (g:=fun c=>c) fun x _=>by simp).trans (List.map_id' _)
theorem izB (m:List Int):(bo m).map (fun r=>match r with | [.v (.int _ x)]=>x | _=>0)=m:=by
 unfold bo
 rw [List.map_map]
 exact (List.map_congr_left (g:=fun c=>c) fun x _=>by simp).trans (List.map_id' _)
def Hp:List AV→Rt
 | [.sl _ m1,.v (.bool n2),.sl _ m2,.v (.int _ e2)]=>⟨m1.map (fun r=>match r with | [.v (.int _ x)]=>x | _=>0),⟨n2,m2.map (fun r=>match r with | [.v (.int _ x)]=>x.toNat | _=>0),e2⟩⟩
 | _=>⟨[],ez⟩
theorem Jf (t:Rt):Hp (aW t)=t:=by
 show (⟨(bo t.exps).map _,⟨t.c.neg,(aG t.c.m).map _,t.c.e⟩⟩:Rt)=t
 rw [lmB,izB]
theorem Nm {l:List Rt} (h2:l.length < 4611686018427387904):R F.slices_ContainsFunc_api_Term_api_Term_ [.sl 4 (az l),.fn F.l23_great_1_1 [] []] []=some (B (l.any sQ),[]):=by
 have h1:=yY (k:=4) (g:=true) (f:=F.l23_great_1_1) (rows:=az l) (p:=fun r=>sQ (Hp r)) j8 j7 (jg false) rfl (qC false) (by rw [dQ]; omega) (fun row hr=>by
  simp only [az,List.mem_map] at hr
  obtain ⟨t,ht,rfl⟩:=hr
  have hd:=Je (t:=t)
  refine ⟨.agg (aW t),rfl,rfl,?_⟩
  rw [Jf]
  simp only [aW] at hd
  simp only [aW,go_sem,hd])
 have h2:=vM (k:=4) jc ja (ic false) rfl (eu false) (jJ false) (by simp only [go_sem]) h1
 have h3:(az l).any (fun r=>sQ (Hp r))=l.any sQ:=by
  unfold az
  rw [List.any_map]
  congr 1
  funext t
  exact congrArg sQ (Jf t)
 rw [h3] at h2
 exact h2
def lL (a:Rp):Bool:=(decide (40 < a.terms.length) && decide (a.terms.length≤500)) || a.terms.any sQ
theorem K8 {a:Rp} (h2:a.terms.length < 4611686018427387904):R F.l23_great_1 [bm a] []=some (B (lL a),[]):=by
 refine aO BJ BI (wZ false) rfl ?_
 have hc:=Nm h2
 have nr:(az a.terms).map (bQ [.o 2 [],.o 0 [],.o 2 [],.o 0 []])=az a.terms:=rR _
 unfold lL
 by_cases h:40 < a.terms.length
 ·have e1:(40 < (a.terms.length:Int))=True:=tt (by omega)
  rw [decide_eq_true h,Bool.true_and]
  by_cases h5:a.terms.length≤500
  ·have e2:((a.terms.length:Int)≤500)=True:=tt (by omega)
   rw [decide_eq_true h5,Bool.true_or]
   simp only [fN,lO,bm,go_sem,↓reduceIte,adx,adz,ady,e1,e2]
  ·have e2:((a.terms.length:Int)≤500)=False:=ff (by omega)
   rw [decide_eq_false h5,Bool.false_or]
   simp only [fN,lO,bm,go_sem,↓reduceIte,adx,adz,ady,e1,e2,hc]
 ·have e1:(40 < (a.terms.length:Int))=False:=ff (by omega)
  rw [decide_eq_false h,Bool.false_and,Bool.false_or]
  simp only [fN,lO,bm,go_sem,↓reduceIte,adx,adz,ady,e1,hc]
def Hq (a:Rp):List AV:=[I a.vars,.sl 4 (az a.terms)]
def vi (l:List Rp):List (List AV):=l.map Hq
@[go_sem] theorem Pr (l:List Rp):(vi l).length=l.length:=by simp [vi]
@[go_sem] theorem Y7 (l:List Rt):(az l).map (bQ [.o 2 [],.o 0 [],.o 0 [],.o 0 []])=az l:=by
 refine oN fun x hx=>?_
 simp only [az,List.mem_map] at hx
 obtain ⟨t,ht,rfl⟩:=hx
 simp only [aW,go_sem]
@[go_sem] theorem abx (l:List Rp):(vi l).map (bQ [.o 0 [],.o 5 [.o 2 [],.o 0 [],.o 0 [],.o 0 []]])=vi l:=by
 refine oN fun x hx=>?_
 simp only [vi,List.mem_map] at hx
 obtain ⟨t,ht,rfl⟩:=hx
 simp only [Hq,go_sem]
def Rb:List AV→Rp
 | [.v (.int _ v),.sl _ r]=>⟨v,r.map Hp⟩
 | _=>p0
theorem N6 (a:Rp):Rb (Hq a)=a:=by
 show (⟨a.vars,(az a.terms).map Hp⟩:Rp)=a
 have h:(az a.terms).map Hp=a.terms:=by
  unfold az
  rw [List.map_map]
  exact (List.map_congr_left (g:=fun c=>c) fun x _=>Jf x).trans (List.map_id' _)
 rw [h]
theorem Nn {l:List Rp} (hl:l.length≤10) (h2:∀ a ∈ l,a.terms.length < 4611686018427387904):R F.l23_great [.sl 2 (vi l)] []=some (B (l.any lL),[]):=by
 refine aO Gd Gc (zP false) rfl ?_
 have h1:=yY (k:=2) (g:=true) (f:=F.l23_great_1) (rows:=vi l) (p:=fun r=>lL (Rb r)) j6 j5 (jf false) rfl (tq false) (by rw [Pr]; omega) (fun row hr=>by
  simp only [vi,List.mem_map] at hr
  obtain ⟨t,ht,rfl⟩:=hr
  have hd:=K8 (h2 t ht)
  refine ⟨.agg (Hq t),rfl,rfl,?_⟩
  rw [N6]
  simp only [bm] at hd
  simp only [Hq,go_sem,hd])
 have h2:=vM (k:=2) i8 i7 (ib false) rfl (et false) (jI false) (by simp only [go_sem]) h1
 have h3:(vi l).any (fun r=>lL (Rb r))=l.any lL:=by
  unfold vi
  rw [List.any_map]
  congr 1
  funext t
  exact congrArg lL (N6 t)
 rw [h3] at h2
 simp only [mP,wA,go_sem,↓reduceIte,adx,adz,ady,h2]
theorem FA {a:Rp} (oc:∀ t ∈ a.terms,Ok0 t.c) (h:lL a=false):OkP a:=by
 unfold lL at h
 rw [Bool.or_eq_false_iff] at h
 refine ⟨fun t ht=>⟨oc t ht,?_⟩⟩
 have:=List.any_eq_false.1 h.2 t ht
 unfold sQ at this
 simp at this
 omega
def Jg (a:Rp):Bool:=decide (a.vars=0) && decide (a.terms.length=0)
theorem Ps {a:Rp}:R F.l23_zero [bm a] []=some (B (Jg a),[]):=by
 refine aO IF IE (BN false) rfl ?_
 unfold Jg
 by_cases h:a.vars=0
 ·have e1:(a.vars=0)=True:=eq_true h
  rw [decide_eq_true h,Bool.true_and]
  by_cases h2:a.terms.length=0
  ·have e2:((a.terms.length:Int)=0)=True:=tt (by omega)
   rw [decide_eq_true h2]
   simp only [jy,pk,bm,go_sem,↓reduceIte,adx,adz,ady,e1,e2]
  ·have e2:((a.terms.length:Int)=0)=False:=ff (by omega)
   rw [decide_eq_false h2]
   simp only [jy,pk,bm,go_sem,↓reduceIte,adx,adz,ady,e1,e2]
 ·have e1:(a.vars=0)=False:=eq_false h
  rw [decide_eq_false h,Bool.false_and]
  simp only [jy,pk,bm,go_sem,↓reduceIte,adx,adz,ady,e1]
structure Res (r:Rp × Int):Prop where
 cl:Cl r.1.vars r.1.terms
 len:r.1.terms.length≤100000
 z:r.2=0∨r.1=p0
theorem Jh {a:Rp} (h:Cl a.vars a.terms):CZ a a=true:=by
 unfold CZ
 rw [decide_eq_true rfl,Bool.true_and,(Fz h.t h.t).2 rfl]
theorem N7 {r:Rp × Int} (h:Res r):R F.l23_is [bm r.1,I r.2,bm r.1,I r.2] []=some (B true,[]):=by
 refine aO Ml Mk (Gf false) rfl ?_
 have h1:=Pq h.cl h.cl h.len
 rw [Jh h.cl] at h1
 have h2:=Ps (a:=r.1)
 obtain ⟨⟨v,l⟩,e⟩:=r
 simp only [bm] at h1 h2
 by_cases he:e=0
 ·subst he
  simp only [oE,wR,bm,go_sem,↓reduceIte,adx,adz,ady,adA,h1]
 ·have e1:(e=0)=False:=eq_false he
  have hz:Jg ⟨v,l⟩=true:=by
   rcases h.z with h3 | h3
   ·exact absurd h3 he
   ·cases h3
    rfl
  rw [hz] at h2
  simp only [oE,wR,bm,go_sem,↓reduceIte,adx,adz,ady,adA,h1,h2,e1]
theorem zd (e:Int):Res (p0,e):=⟨Cl.nil _,Nat.zero_le _,.inr rfl⟩
theorem FB {v:Int} {o:Option (List Rt)} (h:∀ l,o=some l→Cl v l):Res (jO v o):=by
 unfold jO
 cases o with
 | none=>exact zd _
 | some l =>
  simp only []
  split
  ·exact zd _
  ·exact ⟨h l rfl,by show l.length≤100000; omega,.inl rfl⟩
theorem No {a b:Rp} (oa:OkP a) (ob:OkP b):Res (qk a b):=by
 unfold qk
 split
 ·rename_i hp
  obtain ⟨va,vb,hv⟩:=ky.1 hp
  obtain ⟨ca,_⟩:=ni oa va
  obtain ⟨cb,_⟩:=ni ob vb
  rw [← hv] at cb
  exact FB fun l hl=>(Av (Cl.nil _) (fun t ht=>(List.mem_append.1 ht).elim (ca.t t) (cb.t t)) hl).1
 ·exact zd _
theorem Np {a b:Rp} (oa:OkP a) (ob:OkP b):Res (o7 a b):=by
 unfold o7
 split
 ·rename_i hp
  obtain ⟨va,vb,hv⟩:=ky.1 hp
  obtain ⟨ca,_⟩:=ni oa va
  obtain ⟨cb,_⟩:=ni ob vb
  rw [← hv] at cb
  refine FB fun l hl=>(Av (Cl.nil _) (fun t ht=>?_) hl).1
  rcases List.mem_append.1 ht with ht | ht
  ·exact ca.t t ht
  ·obtain ⟨q,hq,rfl⟩:=List.mem_map.1 ht
   exact Ax (cb.t q hq)
 ·exact zd _
theorem Pt {a b:Rp} (haw:R F.l23_awake [] []=some (B true,[])) (oa:∀ t ∈ a.terms,Ok0 t.c) (la:a.terms.length < 4611686018427387904) (ob:∀ t ∈ b.terms,Ok0 t.c) (lb:b.terms.length < 4611686018427387904) :
  R F.l23_PolySums [bm a,bm b] []=some (B true,[]):=by
 refine aO zN zM (vV false) rfl ?_
 have hg:=Nn (l:=[a,b]) (by simp) (fun x hx=>by simp at hx; rcases hx with rfl | rfl; exact la; exact lb)
 simp only [vi,Hq,List.map_cons,List.map_nil] at hg
 cases h:[a,b].any lL with
 | true =>
  rw [h] at hg
  simp only [gO,nH,bm,go_sem,↓reduceIte,adx,adz,ady,adA,adB,haw,hg]
  done
 | false =>
  rw [h] at hg
  simp only [List.any_cons,List.any_nil,Bool.or_false,Bool.or_eq_false_iff] at h
  have ka:=FA oa h.1
  have kb:=FA ob h.2
  have h1:=Hn ka kb
  have h2:=Fx ka kb (m:=false)
  have h3:=Po ka kb
  have h4:=Fx ka kb (m:=true)
  have i1:=N7 (No ka kb)
  have i2:=N7 (Np ka kb)
  rw [show Fw false a b=qk a b from rfl] at h2
  rw [show Fw true a b=o7 a b from rfl] at h4
  generalize qk a b=r at h1 h2 i1
  generalize o7 a b=q at h3 h4 i2
  obtain ⟨r1,r2⟩:=r
  obtain ⟨q1,q2⟩:=q
  simp only [pV,bm] at h1 h2 h3 h4 i1 i2
  simp only [gO,nH,bm,go_sem,↓reduceIte,adx,adz,ady,adA,adB,haw,hg,h1,h2,h3,h4,i1,i2]
  done
end Go.Ab
namespace Go.Ab
open Go Go.IntWalk
set_option maxRecDepth 4000
set_option maxHeartbeats 1000000
def sR:Env:=⟨fun f=>CR.lookup f,am.C,am.md⟩
noncomputable def R0:cI:=dc sR
theorem rY {f:FuncId} {fd:FD} {args:List AV} {hs:List Ob} {r:AV × List Ob} (hE:sR.E f=none) (hC:sR.C f=some fd) (hk:sR.md.keep f=false) (h1:args.length=fd.np) (h2:hs.length≤1000)
  (hz:oT false fd.rs fd.res hs.length (au R0 (ab false) fd.body (oU args) (ae hs))=some r):R0 f args hs=some r:=by
 refine uF hE hC ?_
 unfold DS
 rw [if_pos ⟨h1,h2⟩,hk]
 exact hz
theorem nn (o:Ob):ae [o]=upd (fun _=>.dead) 1000 o:=by
 funext i
 unfold ae upd
 by_cases h:i=1000
 ·subst h
  rfl
 ·rw [if_neg h]
  split
  ·rw [List.getElem?_eq_none (by simp; omega)]
   rfl
  ·rfl
theorem Nq {r:List AV} {rs:List (List AV)} (h:(rs.length+1)*8≤140737488355328):R0 F.slices_Clone_int_int_ [.sl 1 (r::rs)] []=some (.osl 1 (r::rs),[]):=by
 refine rY (fd:=dM) (by kernel_rfl) (by kernel_rfl) (by kernel_rfl) rfl (by decide) ?_
 have e1:((rs.length+1)*8≤140737488355328)=True:=eq_true h
 have e2:vn false (.sl 1 (r::rs))=some (B false):=rfl
 simp only [dM,k8,go_sem,↓reduceIte,adx,adA,adB,e1,e2,List.length_cons,List.length_nil,Nat.zero_add,Nat.le_refl,true_and,true_or,List.nil_append]
theorem Nr:cx 4 .emp (some (I 0)) none none=some .emp:=rfl
theorem Pu {r:List AV}:R0 F.slices_Insert_api_Term_api_Term_ [.emp,I 0,.sl 4 [r]] []=some (.osl 4 [r],[]):=by
 refine rY (fd:=aH) (by kernel_rfl) (by kernel_rfl) (by kernel_rfl) rfl (by decide) ?_
 have e1:((1:Int)=0)=False:=by decide
 simp only [aH,bu,go_sem,↓reduceIte,adx,adz,adA,adB,Nr,List.length_cons,List.length_nil,Int.natCast_one,e1,Nat.zero_add]
theorem n7 {n i:Nat} (h:i≤n):fv n (some (I i)) none none=some (i,n):=by
 simp only [fv,fT,Option.bind_some]
 rw [if_pos ⟨by omega,by omega⟩]
 rfl
theorem K9 {id k l0 n i:Nat} (h:i≤n):cx k (.rsl id none k l0 n) (some (I i)) none none=some (.rsl id none k (l0+i) (n - i)):=by
 simp only [cx,if_true,n7 h,Option.map_some,Option.isNone_none]
theorem AB {h:aa} {j k n:Nat} {rows:List (List AV)} (hj:aF j=false) (hh:h j=.ar k rows) (hn:n=rows.length) (hc:aU [1000] (h 1000)=true):mG [[]] 1 h [.rsl j none k 0 n]=some (.osl k rows,[h 1000]):=by
 subst hn
 have hp:bI 1=[1000]:=rfl
 unfold mG
 rw [if_pos]
 ·simp [kF,kd,fy,hj,hh,oR,jS,aM,nrmV,nrmL,hp]
 ·simp [hp,hc,eF,bh,cz,hj]
theorem La {r:List AV} {rows:List (List AV)} {n:Nat} (hn:n=rows.length) (hb:(n+1)*64≤140737488355328):R0 F.slices_Insert_api_Term_api_Term_ [.rsl 1000 none 4 0 n,I n,.sl 4 [r]] [.ar 4 rows]=some (.osl 4 (rows++[r]),[.dead]):=by
 refine rY (fd:=aH) (by kernel_rfl) (by kernel_rfl) (by kernel_rfl) rfl (by simp) ?_
 subst hn
 rw [nn]
 have e1:((1:Int)=0)=False:=by decide
 have e2:=K9 (id:=1000) (k:=4) (l0:=0) (Nat.le_refl rows.length)
 have e3:((rows.length+1)*64≤140737488355328)=True:=eq_true hb
 have e4:(rows.length+1≤rows.length)=False:=eq_false (by omega)
 have e5:∀ h,wK h 25 4 64 1000 4 0 rows.length [r] 4 rows=bF (upd h 1000 .dead) 25 4 (rows++[r]) (rows.length+1) [(1000,false)]:=fun h=>by
  simp only [wK,List.length_singleton]
  rw [if_neg (by omega),if_pos ⟨trivial,trivial,trivial,trivial,hb⟩]
 simp only [aH,bu,go_sem,↓reduceIte,adx,adA,adB,List.length_cons,List.length_nil,Int.natCast_one,e1,e2,e5,Nat.zero_add,Nat.sub_self,or_self]
 exact AB rfl rfl (by simp) rfl
theorem Rc {f:FuncId} {g:List AV→List Ob→Option (AV × List Ob)} {args:List AV} {hs:List Ob} (hE:sR.E f=some g):R0 f args hs=g args hs:=sA hE
theorem Pw {h:aa} {d:Nat} {r:List AV} {rows:List (List AV)} {lo m:Nat} (hh:h 1000=.ar 4 rows) (hd:h (2000+8*d)=.dead) :
  aj R0 (ab false) h d [.sl 4 [r],.rsl 1000 none 4 lo m] (.fn F.slices_overlaps_api_Term_ [] [])=some (B false,upd h 1000 (.ar 4 rows),[(1000,true)]):=by
 have hm:(ab false).m F.slices_overlaps_api_Term_=[0,1]:=by kernel_rfl
 have hs:(ab false).sh F.slices_overlaps_api_Term_=[]:=by kernel_rfl
 have hk:(ab false).keep F.slices_overlaps_api_Term_=false:=by kernel_rfl
 have hf:R0 F.slices_overlaps_api_Term_ [.sl 4 [r],.rsl 1000 none 4 lo m] [.ar 4 rows]=some (B false,[.ar 4 rows]):=by
  rw [Rc (g:=GZ 4) (by kernel_rfl)]
  simp [GZ]
 have hb:jC (ab false) [.sl 4 [r],.rsl 1000 none 4 lo m] (.fn F.slices_overlaps_api_Term_ [] [])=false:=by
  simp [jC,hm]
 have hr:bX h 40 [1000] 0=[1000]:=by
  simp [bX,hh,Dc,bp]
 have hn:b9 (B false)=1:=rfl
 unfold aj
 rw [if_neg (by rw [hb]; exact Bool.false_ne_true)]
 have h1:ag h [0,1] [.sl 4 [r],.rsl 1000 none 4 lo m]=some ([.sl 4 [r],.rsl 1000 none 4 lo m],h,[]):=by
  simp [ag,bD,lA,c9,ak]
 have h2:bp [] ([AV.sl 4 [r],.rsl 1000 none 4 lo m].flatMap bh)=[1000]:=by
  simp [bh,cz,bp]
 have h3:aY [1000] 1000=1000:=rfl
 simp only [dh,hm,List.nil_append,List.append_nil,h1,Option.bind_some,h2,hr,hs]
 simp [jQ,aM,aK,aN,hh,aU,cY,cU,fV,h3,cA,hf,d8,hn,cN,hd,dz,bf,oe,tP,jP,dU,cQ,pH,ck,mat,bK,dC,hk,sd,hm]
theorem Bm {id k l0 n i:Nat}:cx k (.rsl id none k l0 n) (some (I i)) none none=(fv n (some (I i)) none none).map fun p=>.rsl id none k (l0+p.1) (p.2 - p.1):=by
 simp only [cx,if_true,Option.isNone_none]
theorem Lc {n c i:Nat} (h:i≤c):fT n c (some (I i))=some i:=by
 simp only [fT]
 rw [if_pos ⟨by omega,by omega⟩]
 rfl
theorem Px {r:List AV} {rows:List (List AV)} {n i:Nat} (hn:n=rows.length) (hi:i < n) (hb:(n+1)*64≤140737488355328) :
  R0 F.slices_Insert_api_Term_api_Term_ [.rsc 1000 4 0 n n,I i,.sl 4 [r]] [.ar 4 rows]=some (.osl 4 (rows.take i++r::rows.drop i),[.ar 4 rows]):=by
 refine rY (fd:=aH) (by kernel_rfl) (by kernel_rfl) (by kernel_rfl) rfl (by simp) ?_
 rw [nn]
 have e1:((1:Int)=0)=False:=by decide
 have e2:((i:Int)=(n:Int))=False:=eq_false (by omega)
 have e3:IntKind.i64.wrap ((n:Int)+1)=((n+1:Nat):Int):=wi (by omega) (by omega)
 have e4:((n:Int) < ((n+1:Nat):Int))=True:=eq_true (by omega)
 have e5:IntKind.i64.wrap (((n+1:Nat):Int) - (i:Int))=((n+1 - i:Nat):Int):=wi (by omega) (by omega)
 have e6:IntKind.i64.wrap ((i:Int)+1)=((i+1:Nat):Int):=wi (by omega) (by omega)
 have b1:=n7 (n:=n) (i:=i) (by omega)
 have b2:=Lc (n:=n) (c:=n) (i:=i) (by omega)
 have b3:=n7 (n:=n+1) (i:=i) (by omega)
 have b4:=n7 (n:=n+1) (i:=i+1) (by omega)
 have f1:((0:Int) < ((n+1 - i:Nat):Int))=True:=eq_true (by omega)
 have f2:(n < i+((n+1 - i:Nat):Int).toNat)=True:=eq_true (by omega)
 have f3:i+((n+1 - i:Nat):Int).toNat=n+1:=by omega
 have f4:(i≤rows.length)=True:=eq_true (by omega)
 have f5:((n+1)*64≤140737488355328)=True:=eq_true hb
 have f6:(n < n+1)=True:=eq_true (by omega)
 obtain ⟨A,hA⟩:∃ A,rows.take i++List.replicate ((n+1 - i:Nat):Int).toNat [AV.emp,B false,AV.emp,I 0]=A:=⟨_,rfl⟩
 have a1:A.length=n+1:=by rw [← hA,List.length_append,List.length_take,List.length_replicate]; omega
 have a2:A.take i=rows.take i:=by
  rw [← hA,List.take_append_of_le_length (by rw [List.length_take]; omega),List.take_of_length_le (by rw [List.length_take]; omega)]
 have a3:(i≤A.length)=True:=eq_true (by omega)
 obtain ⟨D,hD⟩:∃ D,A.take i++[r]++A.drop (i+1)=D:=⟨_,rfl⟩
 have d1:D.length=n+1:=by
  rw [← hD,List.length_append,List.length_append,List.length_take,List.length_drop,List.length_singleton]
  omega
 have d2:D.take (i+1)=rows.take i++[r]:=by
  rw [← hD,a2,List.take_append_of_le_length (by rw [List.length_append,List.length_take,List.length_singleton]; omega),List.take_of_length_le (by rw [List.length_append,List.length_take,List.length_singleton]; omega)]
 have d3:(i+1≤D.length)=True:=eq_true (by omega)
 have t1:List.take (n+1 - i) [r]=[r]:=List.take_of_length_le (by rw [List.length_singleton]; omega)
 have t2:(rows.drop i).take (n - i)=rows.drop i:=List.take_of_length_le (by rw [List.length_drop]; omega)
 have t3:(1=min 1 (n+1 - i))=True:=eq_true (by omega)
 have t4:n+1 - (i+1)=n - i:=by omega
 have t5:(i+(n - i)≤rows.length)=True:=eq_true (by omega)
 have t6:(rows.drop i).length=n - i:=by rw [List.length_drop]; omega
 have t7:D.drop (i+1+(n - i))=[]:=List.drop_eq_nil_of_le (by omega)
 simp only [aH,bu,go_sem,↓reduceIte,adx,List.length_cons,List.length_nil,Int.natCast_one,e1,e2,e3,e4,e5,e6,b1,b2,b3,b4,f1,f3,f4,f5,f6,hA,hD,a3,d3,t1,t2,t3,t4,t5,t6,t7,Nat.min_self,Nat.zero_add,Bm,and_self]
 rw [d2]
 have hfin:rows.take i++[r]++rows.drop i=rows.take i++r::rows.drop i:=by rw [List.append_assoc]; rfl
 rw [hfin]
 exact AB rfl rfl (by rw [List.length_append,List.length_take,List.length_cons,List.length_drop]; omega) rfl
theorem Py {r:List AV} {rows:List (List AV)} {n i c:Nat} (hn:n=rows.length) (hi:i < n) (hc:n+1≤c) (hb:(n+1)*64≤140737488355328) :
  R0 F.slices_Insert_api_Term_api_Term_ [.rsc 1000 4 0 n c,I i,.sl 4 [r]] [.ar 4 rows]=some (.osl 4 (rows.take i++r::rows.drop i),[.dead]):=by
 refine rY (fd:=aH) (by kernel_rfl) (by kernel_rfl) (by kernel_rfl) rfl (by simp) ?_
 rw [nn]
 have e1:((1:Int)=0)=False:=by decide
 have e2:((i:Int)=(n:Int))=False:=eq_false (by omega)
 have e3:IntKind.i64.wrap ((n:Int)+1)=((n+1:Nat):Int):=wi (by omega) (by omega)
 have e4:((c:Int) < ((n+1:Nat):Int))=False:=eq_false (by omega)
 have e6:IntKind.i64.wrap ((i:Int)+1)=((i+1:Nat):Int):=wi (by omega) (by omega)
 have b1:=n7 (n:=n) (i:=i) (by omega)
 have b2:=Lc (n:=n) (c:=c) (i:=n+1) hc
 have b3:=n7 (n:=n+1) (i:=i) (by omega)
 have b4:=n7 (n:=n+1) (i:=i+1) (by omega)
 have o1:=fun (h:aa) (h0:h 1000=.ar 4 rows) (h1:h (2000+8*67)=.dead)=>Pw (r:=r) (lo:=i+1) (m:=n - i) h0 h1
 have t1:List.take (n+1 - i) [r]=[r]:=List.take_of_length_le (by rw [List.length_singleton]; omega)
 have t2:(rows.drop i).take (n - i)=rows.drop i:=List.take_of_length_le (by rw [List.length_drop]; omega)
 have t3:(1=min 1 (n+1 - i))=True:=eq_true (by omega)
 have t4:n+1 - (i+1)=n - i:=by omega
 have t5:(i+(n - i)≤rows.length)=True:=eq_true (by omega)
 have t6:(rows.drop i).length=n - i:=by rw [List.length_drop]; omega
 have t8:min (n - i) (n+1 - i)=n - i:=by omega
 have t9:(n - i=min (n+1 - i) (n - i))=True:=eq_true (by omega)
 have f4:(i+1≤rows.length)=True:=eq_true (by omega)
 have t7:rows.drop (i+1+(n - i))=[]:=List.drop_eq_nil_of_le (by omega)
 obtain ⟨A,hA⟩:∃ A,rows.take (i+1)++rows.drop i=A:=⟨_,rfl⟩
 have a1:A.length=n+1:=by
  rw [← hA,List.length_append,List.length_take,List.length_drop]
  omega
 have a2:A.take i=rows.take i:=by
  rw [← hA,List.take_append_of_le_length (by rw [List.length_take]; omega),List.take_take,Nat.min_eq_left (by omega)]
 have a4:A.drop (i+1)=rows.drop i:=by
  rw [← hA,List.drop_append_of_le_length (by rw [List.length_take]; omega),List.drop_eq_nil_of_le (by rw [List.length_take]; omega),List.nil_append]
 have a3:(i≤A.length)=True:=eq_true (by omega)
 simp only [aH,bu,go_sem,↓reduceIte,adx,List.length_cons,List.length_nil,Int.natCast_one,e1,e2,e3,e4,e6,b1,b2,b4,t4,Nat.zero_add]
 rw [o1 _ rfl rfl]
 simp only [go_sem,↓reduceIte,adx,adA,adB,adC,List.length_cons,List.length_nil,Int.natCast_one,e6,b3,b4,t1,t2,t3,t4,t5,t6,t7,t8,t9,f4,a3,hA,Nat.zero_add,Nat.sub_self,Nat.le_refl,and_self]
 rw [a2,a4,show rows.take i++[r]++rows.drop i=rows.take i++r::rows.drop i by rw [List.append_assoc]; rfl]
 exact AB rfl rfl (by rw [List.length_append,List.length_take,List.length_cons,List.length_drop]; omega) rfl
def tv (c1 c2:cI):Prop:=∀ f a hs r,c1 f a hs=some r→c2 f a hs=some r
section
variable {c1 c2:cI} {md:Mode}
theorem GD (hc:tv c1 c2) {h:aa} {d:Nat} {zas:List AV} {f:AV} {r:R3} (hz:dh c1 md h d zas f=some r):dh c2 md h d zas f=some r:=by
 cases f <;> simp only [dh] at hz ⊢ <;> try (cases hz; done)
 simp only [Option.bind_eq_some_iff] at hz ⊢
 obtain ⟨p,e1,e2⟩:=hz
 unfold jQ at e2 ⊢
 split at e2
 ·rename_i hcc
  simp only [Option.bind_eq_some_iff] at e2
  obtain ⟨q,e3,e4⟩:=e2
  refine ⟨p,e1,?_⟩
  rw [if_pos hcc]
  simp only [Option.bind_eq_some_iff]
  exact ⟨q,hc _ _ _ _ e3,e4⟩
 ·cases e2
theorem ze (hc:tv c1 c2) {h:aa} {d:Nat} {zas:List AV} {f:AV} {r:R3} (hz:aj c1 md h d zas f=some r):aj c2 md h d zas f=some r:=by
 unfold aj at hz ⊢
 split at hz
 ·rename_i hb
  rw [if_pos hb]
  cases f <;> simp only [x5] at hz ⊢ <;> try (cases hz; done)
  simp only [Option.bind_eq_some_iff] at hz ⊢
  obtain ⟨p,e1,q,e3,e4⟩:=hz
  exact ⟨p,e1,q,hc _ _ _ _ e3,e4⟩
 ·rename_i hb
  rw [if_neg hb]
  exact GD hc hz
theorem Bn (hc:tv c1 c2) {d:Nat} {op:AOp} {s:af} {h:aa} {r:R3} (hz:step c1 md d op s h=some r):step c2 md d op s h=some r:=by
 cases op with
 | call f zas=>exact ze hc hz
 | callC f zas =>
  simp only [step,Option.bind_eq_some_iff] at hz ⊢
  obtain ⟨q,e1,e2⟩:=hz
  exact ⟨q,ze hc e1,e2⟩
 | _=>exact hz
theorem Bo (hc:tv c1 c2) {d:Option Nat} {op:AOp} {s:af} {h:aa} {t:St} (hz:bB md.nm s d (step c1 md (d.getD 0) op s h)=some t):bB md.nm s d (step c2 md (d.getD 0) op s h)=some t:=by
 cases hs:step c1 md (d.getD 0) op s h with
 | none=>rw [hs] at hz; cases hz
 | some r =>
  rw [hs] at hz
  rw [Bn hc hs]
  exact hz
theorem Ji (hc:tv c1 c2) {o:COp} {s:af} {h:aa} {t:St} (hz:fx c1 md o s h=some t):fx c2 md o s h=some t:=by
 unfold fx at hz ⊢
 cases hg:o.g with
 | none=>rw [hg] at hz; exact Bo hc hz
 | some g =>
  rw [hg] at hz
  simp only at hz ⊢
  unfold eM at hz ⊢
  split at hz
  ·split at hz
   ·rename_i hb
    simp only [if_pos hb]
    exact Bo hc hz
   ·rename_i hb
    simp only [if_neg hb]
    exact hz
  ·exact hz
  ·cases hz
theorem ql (hc:tv c1 c2):∀ {l:List COp} {s:af} {h:aa} {t:St},an c1 md l s h=some t→an c2 md l s h=some t
 | [],s,h,t,hz=>hz
 | o::l,s,h,t,hz=>by
  simp only [an,aI] at hz
  split at hz
  ·cases hz
  ·rename_i t1 ht1
   simp only [an,aI,Ji hc ht1,ql hc hz]
theorem zf (hc:tv c1 c2) {d:Option Nat} {op:AOp} {s:af} {h:aa} {f:aa→Fp} {t:St × Fp} (hz:eA s d f (step c1 md (d.getD 0) op s h)=some t):eA s d f (step c2 md (d.getD 0) op s h)=some t:=by
 cases hs:step c1 md (d.getD 0) op s h with
 | none=>rw [hs] at hz; cases hz
 | some r =>
  rw [hs] at hz
  rw [Bn hc hs]
  exact hz
theorem Jj (hc:tv c1 c2) {o:COp} {s:af} {h:aa} {t:St × Fp} (hz:bR c1 md o s h=some t):bR c2 md o s h=some t:=by
 unfold bR at hz ⊢
 cases hg:o.g with
 | none=>rw [hg] at hz; exact zf hc hz
 | some g =>
  rw [hg] at hz
  simp only at hz ⊢
  unfold iO at hz ⊢
  split at hz
  ·split at hz
   ·rename_i hb
    simp only [if_pos hb]
    exact zf hc hz
   ·rename_i hb
    simp only [if_neg hb]
    exact hz
  ·exact hz
  ·cases hz
theorem vj (hc:tv c1 c2):∀ {l:List COp} {s:af} {h:aa} {t:St × List Fp},dj c1 md l s h=some t→dj c2 md l s h=some t
 | [],s,h,t,hz=>hz
 | o::l,s,h,t,hz=>by
  simp only [dj,Option.bind_eq_some_iff] at hz
  obtain ⟨r,e1,q,e2,e3⟩:=hz
  simp only [dj,Jj hc e1,vj hc e2,Option.bind_some,e3]
theorem Jk (hc:tv c1 c2) {l:List COp} {ps:List (Nat × Nat)} {s:af} {h:aa} {t:St} (hz:iP c1 md l ps s h=some t):iP c2 md l ps s h=some t:=by
 unfold iP at hz ⊢
 cases hb:oh ps with
 | none =>
  rw [hb] at hz
  simp only [ou,Option.bind_eq_some_iff] at hz
  obtain ⟨q,e1,e2⟩:=hz
  simp only [ou,vj hc e1,Option.bind_some,e2]
 | some b =>
  rw [hb] at hz
  simp only [se,Option.bind_eq_some_iff] at hz
  obtain ⟨q,e1,e2⟩:=hz
  split at e2
  ·rename_i hps
   simp only [aI] at e2
   split at e2
   ·cases e2
   ·rename_i t1 ht1
    simp only [se,vj hc e1,Option.bind_some,if_pos hps,ht1,aI,ql hc e2]
  ·cases e2
theorem vk {b1 b2:af→aa→Option (Ex × St)} {ks hs:List Nat} (ih:∀ {s:af} {h:aa} {r:Ex × St},b1 s h=some r→b2 s h=some r) :
  ∀ (m:Nat) {j:Nat},m≤j→∀ {s:af} {h:aa} {r:Ex × St},jD b1 ks hs m s h=some r→jD b2 ks hs j s h=some r
 | 0,j,hj,s,h,r,hz=>by simp [jD] at hz
 | m+1,j,hj,s,h,r,hz=>by
  obtain ⟨j,rfl⟩:∃ j',j=j'+1:=⟨j - 1,by omega⟩
  simp only [jD] at hz ⊢
  split at hz
  ·rename_i hc
   rw [if_pos hc]
   cases hb:b1 (mk .any (fun i=>eB hs (s i)) ks) (mk .dead h hs) with
   | none=>rw [hb] at hz; cases hz
   | some q =>
    rw [hb] at hz
    rw [ih hb]
    obtain ⟨ex,t⟩:=q
    cases ex with
    | normal=>exact vk ih m (by omega) hz
    | exit id=>exact hz
    | ret=>exact hz
  ·cases hz
theorem dT (hc:tv c1 c2) {lf lf':Nat} (hl:lf≤lf'):∀ (c:Cmd) {s:af} {h:aa} {r:Ex × St},bc c1 md lf c s h=some r→bc c2 md lf' c s h=some r
 | .skip,s,h,r,hz=>hz
 | .ops ks l,s,h,r,hz=>by
  simp only [bc,aI] at hz
  split at hz
  ·cases hz
  ·rename_i t1 ht1
   simp only [bc,ql hc ht1,aI]
   exact hz
 | .dops ks l ps,s,h,r,hz=>by
  simp only [bc,aI] at hz
  split at hz
  ·cases hz
  ·rename_i t1 ht1
   simp only [bc,Jk hc ht1,aI]
   exact hz
 | .seq a b,s,h,r,hz=>by
  simp only [bc,cp] at hz
  split at hz
  ·cases hz
  ·rename_i t1 ht1
   simp only [bc,cp,dT hc hl a ht1,dT hc hl b hz]
  ·rename_i i t1 ht1
   simp only [bc,cp,dT hc hl a ht1]
   exact hz
  ·rename_i t1 ht1
   simp only [bc,cp,dT hc hl a ht1]
   exact hz
 | .cond c a b,s,h,r,hz=>by
  simp only [bc,iQ] at hz
  split at hz
  ·rename_i t ht
   cases t with
   | true=>simp only [bc,iQ,ht,if_true]; exact dT hc hl a hz
   | false=>simp only [bc,iQ,ht,Bool.false_eq_true,if_false]; exact dT hc hl b hz
  ·cases hz
 | .block id ks a,s,h,r,hz=>by
  simp only [bc,aB] at hz
  split at hz
  ·cases hz
  ·rename_i t1 ht1
   simp only [bc,aB,dT hc hl a ht1]
   exact hz
  ·rename_i i t1 ht1
   simp only [bc,aB,dT hc hl a ht1]
   exact hz
  ·rename_i t1 ht1
   simp only [bc,aB,dT hc hl a ht1]
   exact hz
 | .loop ks hs a,s,h,r,hz=>by
  simp only [bc] at hz ⊢
  exact vk (fun hh=>dT hc hl a hh) lf hl hz
 | .exit id,s,h,r,hz=>hz
 | .ret,s,h,r,hz=>hz
 | .frz is a,s,h,r,hz=>by
  simp only [bc,aI] at hz
  split at hz
  ·cases hz
  ·rename_i t1 ht1
   simp only [bc,aI,ht1]
   exact dT hc hl a hz
end
abbrev AC:=List (Nat × List AV × AV)
def FC:AC→FuncId→List AV→Option AV
 | [],_,_=>none
 | x::l,f,args=>if x.1=f then (if tT x.2.1 args=true then some x.2.2 else FC l f args) else FC l f args
def Hr (a:Option AV) (hs:List Ob) (b:Option (AV × List Ob)):Option (AV × List Ob):=match a,hs with
 | some r,[]=>some (r,[])
 | _,_=>b
def AD (e:Env) (T:AC):Nat→cI
 | 0=>fun _ _ _=>none
 | n+1=>fun f args hs=>Hr (FC T f args) hs (match e.E f with
  | some g=>g args hs
  | none=>(e.C f).bind fun fd=>tW (AD e T n) { e.md with nm:=e.md.keep f } n fd args hs)
theorem AE {e:Env}:∀ {T:AC} {f:FuncId} {args:List AV} {r:AV},(∀ x ∈ T,dc e x.1 x.2.1 []=some (x.2.2,[]))→FC T f args=some r→dc e f args []=some (r,[])
 | [],f,args,r,_,h=>by cases h
 | x::l,f,args,r,ht,h=>by
  unfold FC at h
  split at h
  ·rename_i h1
   split at h
   ·rename_i h2
    cases h
    have:=ht x (by simp)
    rw [h1,mJ h2] at this
    exact this
   ·exact AE (fun y hy=>ht y (by simp [hy])) h
  ·exact AE (fun y hy=>ht y (by simp [hy])) h
theorem ju {call:cI} {md:Mode} {lf:Nat}:∀ (c:Cmd) {s:af} {h:aa} {r:Ex × St},bc call md lf c s h=some r→au call md c s h=some r
 | .skip,s,h,r,hz=>hz
 | .ops ks l,s,h,r,hz=>hz
 | .dops ks l ps,s,h,r,hz=>hz
 | .seq a b,s,h,r,hz=>by
  simp only [bc,cp] at hz
  split at hz
  ·cases hz
  ·rename_i t1 ht1
   simp only [au,cp,ju a ht1,ju b hz]
  ·rename_i i t1 ht1
   simp only [au,cp,ju a ht1]
   exact hz
  ·rename_i t1 ht1
   simp only [au,cp,ju a ht1]
   exact hz
 | .cond c a b,s,h,r,hz=>by
  simp only [bc,iQ] at hz
  split at hz
  ·rename_i t ht
   cases t with
   | true=>simp only [au,iQ,ht,if_true]; exact ju a hz
   | false=>simp only [au,iQ,ht,Bool.false_eq_true,if_false]; exact ju b hz
  ·cases hz
 | .block id ks a,s,h,r,hz=>by
  simp only [bc,aB] at hz
  split at hz
  ·cases hz
  ·rename_i t1 ht1
   simp only [au,aB,ju a ht1]
   exact hz
  ·rename_i i t1 ht1
   simp only [au,aB,ju a ht1]
   exact hz
  ·rename_i t1 ht1
   simp only [au,aB,ju a ht1]
   exact hz
 | .loop ks hs a,s,h,r,hz=>by
  simp only [bc] at hz
  simp only [au,aD]
  rw [hF]
  exact ⟨lf,fun k hk=>vk (fun hh=>ju a hh) lf hk hz⟩
 | .exit id,s,h,r,hz=>hz
 | .ret,s,h,r,hz=>hz
 | .frz is a,s,h,r,hz=>by
  simp only [bc,aI] at hz
  split at hz
  ·cases hz
  ·rename_i t1 ht1
   simp only [au,aI,ht1]
   exact ju a hz
theorem Hs {e:Env} {T:AC} (ht:∀ x ∈ T,dc e x.1 x.2.1 []=some (x.2.2,[])):∀ n,tv (AD e T n) (dc e)
 | 0=>fun f a hs r hz=>by cases hz
 | n+1=>fun f a hs r hz=>by
  have old:(match e.E f with | some g=>g a hs | none=>(e.C f).bind fun fd=>tW (AD e T n) { e.md with nm:=e.md.keep f } n fd a hs)=some r→dc e f a hs=some r:=by
   intro hz
   split at hz
   ·rename_i g hE
    rw [sA hE]
    exact hz
   ·rename_i hE
    simp only [Option.bind_eq_some_iff] at hz
    obtain ⟨fd,hC,hz⟩:=hz
    refine uF hE hC ?_
    unfold tW at hz
    unfold DS
    split at hz
    ·rename_i hcc
     rw [if_pos hcc]
     cases hx:bc (AD e T n) { e.md with nm:=e.md.keep f } n fd.body (oU a) (ae hs) with
     | none=>rw [hx] at hz; cases hz
     | some q =>
      rw [hx] at hz
      rw [ju fd.body (dT (Hs ht n) (Nat.le_refl n) fd.body hx)]
      exact hz
    ·cases hz
  unfold AD at hz
  unfold Hr at hz
  split at hz
  ·rename_i r' hl
   cases hz
   exact AE ht hl
  ·exact old hz
theorem bC {e:Env}:∀ x ∈ ([]:AC),dc e x.1 x.2.1 []=some (x.2.2,[]):=fun _ h=>by cases h
theorem go {e:Env} (T:AC) (n:Nat) (x:Nat × List AV × AV) (ht:∀ x ∈ T,dc e x.1 x.2.1 []=some (x.2.2,[])) (h:AD e T n x.1 x.2.1 []=some (x.2.2,[])):dc e x.1 x.2.1 []=some (x.2.2,[]):=Hs ht n _ _ _ _ h
end Go.Ab
namespace Go.Ab
open Go Go.Proofs Go.Shelf
def N8:Ren:=⟨fun | 28=>151 | n=>n,fun | 25=>119 | 27=>84 | 53=>173 | n=>n,fun n=>n⟩
theorem Ld:Lays7.n28 Tryz.prog N8 where
 mixed:=by kernel_rfl
 f28:=by kernel_rfl
 t0:=by kernel_rfl
 a0:=Tryz.isAgg0
 z0:=Tryz.sizeOf0
 v0:=Tryz.zeroValue0
 i0:=by kernel_rfl
 t3:=by kernel_rfl
 a3:=Tryz.isAgg3
 z3:=Tryz.sizeOf3
 v3:=Tryz.zeroValue3
 i3:=by kernel_rfl
 t4:=by kernel_rfl
 a4:=Tryz.isAgg4
 z4:=Tryz.sizeOf4
 v4:=Tryz.zeroValue4
 i4:=by kernel_rfl
 t5:=by kernel_rfl
 a5:=Tryz.isAgg5
 z5:=Tryz.sizeOf5
 v5:=Tryz.zeroValue5
 i5:=by kernel_rfl
 t25:=by kernel_rfl
 a25:=Tryz.isAgg119
 z25:=Tryz.sizeOf119
 v25:=Tryz.zeroValue119
 i25:=by kernel_rfl
 t27:=by kernel_rfl
 a27:=Tryz.isAgg84
 z27:=Tryz.sizeOf84
 v27:=Tryz.zeroValue84
 i27:=by kernel_rfl
 t53:=by kernel_rfl
 a53:=Tryz.isAgg173
 z53:=Tryz.sizeOf173
 v53:=Tryz.zeroValue173
 i53:=by kernel_rfl
 g0:=by kernel_rfl
def sT:Inv where
 p w X:=X 0∧TabAt 0 Lib.deBruijn32tab w
 stab:=fun {w w' X} h hs=>⟨h.1,fun j hj=>by rw [gJ (hs 0 h.1)]; exact h.2 j hj⟩
 more:=fun h hx=>⟨hx 0 h.1,h.2⟩
theorem Ht:∀ (k x:Nat),Lib.ctzFrom k x=Bb k x
 | 0,x=>rfl
 | k+1,x=>by
  unfold Lib.ctzFrom Bb
  rw [Ht k (x / 2),Nat.add_comm]
set_option maxRecDepth 100000 in
theorem N9:eN Tryz.prog sT false F.bits_TrailingZeros32 NI:=by
 intro args obs obs' res w X ρ vals n hz hn hi hr hs hv
 unfold NI at hz
 split at hz
 ·rename_i x
  by_cases hc:0 < x∧x < 4294967296∧obs=[]
  ·rw [if_pos hc] at hz
   obtain ⟨h0,h1,rfl⟩:=hc
   simp only [Option.some.injEq,Prod.mk.injEq] at hz
   obtain ⟨rfl,rfl⟩:=hz
   have hv0:=hv 0 (.v (.int .u32 x)) (vals.getD 0 undef) rfl (by simp at hs; simp [Array.getD_eq_getD_getElem?,hs])
   have e0:vals=#[.int .u32 x]:=by
    simp only [List.length_cons,List.length_nil] at hs
    have:=hv0.v_inv.1
    apply Array.ext
    ·simpa using hs
    ·intro i h2 h3
     have:i=0:=by simp at h3; exact h3
     subst this
     simpa [Array.getD_eq_getD_getElem?,hs] using this
   subst e0
   obtain ⟨m,rfl⟩:∃ m:Nat,x=m:=⟨x.toNat,by omega⟩
   have key:=Any7.bits_TrailingZeros32 Ld m (by omega) w fun _=>hi.2
   have he:(callFunc F.bits_TrailingZeros32 #[.int .u32 (m:Int)]).run Tryz.prog w=.ok (.enter F.bits_TrailingZeros32 #[.int .u32 (m:Int)]) w:=(enters_of (Ld.f28) (by kernel_rfl) rfl:Proofs.Enters Tryz.prog (N8.f 28)) _ _
   unfold Enters
   rw [he]
   refine Calls.mono key fun e w' hw=>?_
   obtain ⟨rfl,rfl⟩:=hw
   refine ⟨ρ,hr,.refl _ _ _ _,?_⟩
   refine .dat ?_
   have:Lib.ctz 32 m=Bb 32 m:=by
    unfold Lib.ctz
    rw [if_neg (by omega),Ht]
   simp only [this,Int.toNat_natCast,mat,bK]
   exact .v _ rfl
  ·rw [if_neg hc] at hz
   cases hz
 ·cases hz
end Go.Ab
namespace Go.Ab
open Go Go.Proofs Go.ChangeShapes Go.WideShapes Go.Deep Go.RowKit
set_option maxRecDepth 100000
section
variable {H:Type} {enc:TypeId × Value→H} {w:World}
def zg (w:World) (b:Nat):Prop:=b < w.heap.size∧b ≠ 0
def vl (w:World):Prop:=∀ o v,w.cell? ⟨0,o,none⟩=some v→∃ n,v=.int .u8 n
def rg (u:Value):Prop:=∀ n,u ≠ .int .u8 n
theorem Re (ht:vl w) {a:Addr} {u:Value} (h:w.cell? a=some u) (hn:rg u):zg w a.block∧a.spot=none:=by
 have h1:a.spot=none:=by
  unfold World.cell? at h
  split at h
  ·split at h
   ·cases h
   ·rename_i hs
    simpa using hs
  ·cases h
 refine ⟨⟨?_,fun h0=>?_⟩,h1⟩
 ·unfold World.cell? at h
  split at h
  ·rename_i hb
   exact (Array.getElem?_eq_some_iff.1 hb).1
  ·cases h
 ·obtain ⟨b,o,s⟩:=a
  simp only at h0 h1
  subst h0 h1
  obtain ⟨n,hv⟩:=ht o u h
  exact hn n hv
def kz (w:World) (fs:List AV) (cs:List Value):Prop :=
 fs.length=cs.length∧∀ (j:Nat) (c:AV) (u:Value),fs[j]?=some c→cs[j]?=some u→RD w (zg w) c u∧ak c=true∧u.oneCell'=true
theorem kz.app {fa fb:List AV} {ca cb:List Value} (ha:kz w fa ca) (hb:kz w fb cb):kz w (fa++fb) (ca++cb):=by
 refine ⟨by simp [ha.1,hb.1],fun j c u h1 h2=>?_⟩
 by_cases hj:j < fa.length
 ·rw [List.getElem?_append_left hj] at h1
  rw [List.getElem?_append_left (by rw [← ha.1]; exact hj)] at h2
  exact ha.2 j c u h1 h2
 ·rw [List.getElem?_append_right (by omega)] at h1
  rw [List.getElem?_append_right (by rw [← ha.1]; omega),← ha.1] at h2
  exact hb.2 _ c u h1 h2
theorem kz.one {c:AV} {u:Value} (h:RD w (zg w) c u) (hd:ak c=true) (h1:u.oneCell'=true):kz w [c] [u]:=by
 refine ⟨rfl,fun j c' u' hc hu=>?_⟩
 cases j with
 | zero=>simp at hc hu; subst hc hu; exact ⟨h,hd,h1⟩
 | succ j=>simp at hc
noncomputable abbrev Tr (w:World) (enc:TypeId × Value→H) (n:Nat) (t:TypeId) (cs:List Value):Option (DataW H × List MemPlace):=DataW.trod enc Tryz.prog w 0 (fun _=>true) true n t cs
def o9 (t:TypeId) (d:DataW H):Prop:=∀ m ∈ DataW.weights Tryz.prog t d,m≤reachBytes
theorem Rf {e:TypeId}:∀ {l:List (DataW H)} {d:DataW H} {m:Nat},d ∈ l→m ∈ DataW.weights Tryz.prog e d→m ∈ DataW.weightsAll Tryz.prog e l
 | [],d,m,h,_=>by simp at h
 | a::l,d,m,h,hm=>by
  simp only [DataW.weightsAll,List.mem_append]
  rcases List.mem_cons.1 h with rfl | h
  ·exact .inl hm
  ·exact .inr (Rf h hm)
theorem Hu {α:Type} {p:Nat→α→Prop}:∀ (n:Nat),(∀ i,i < n→∃ r,p i r)→∃ l:List α,l.length=n∧∀ (i:Nat) (r:α),l[i]?=some r→p i r
 | 0,_=>⟨[],rfl,fun i r h=>by simp at h⟩
 | n+1,h=>by
  obtain ⟨l,h1,h2⟩:=Hu n fun i hi=>h i (by omega)
  obtain ⟨r,hr⟩:=h n (by omega)
  refine ⟨l++[r],by simp [h1],fun i r' hi=>?_⟩
  by_cases hin:i < n
  ·rw [List.getElem?_append_left (by omega)] at hi
   exact h2 i r' hi
  ·rw [List.getElem?_append_right (by omega)] at hi
   have:i=n:=by
    have:=(List.getElem?_eq_some_iff.1 hi).1
    simp at this
    omega
   subst this
   simp [h1] at hi
   subst hi
   exact hr
theorem AF {α:Type} {t e:TypeId} {k bs:Nat} (ht:Tryz.prog.underlying t=some (.slice e)) (hk:Tryz.prog.cellsOf e=k) (h0:0 < k) (hbs:Tryz.prog.bytesOf e=bs) (F:α→List AV) (Q:α→Prop) (hT:vl w)
  (hrow:∀ n cs' x,Tr w enc n e cs'=some x→o9 e x.1→∃ r,Q r∧kz w (F r) cs'∧∃ u,cs'[0]?=some u∧rg u) {fuel:Nat} {cs:List Value} {x:DataW H × List MemPlace}
  (h:Tr w enc fuel t cs=some x) (hw:o9 t x.1):∃ (l:List α) (v:Value),cs=[v]∧(∀ r ∈ l,Q r)∧l.length*bs≤reachBytes∧RD w (zg w) (.sl k (l.map F)) v∧v.oneCell'=true∧rg v:=by
 rcases open_slice ht h with ⟨rfl,_⟩ | ⟨a,len,cap,m,n,D,Pl,rfl,hb,hl,hm,hmm,rfl,hx⟩
 ·exact ⟨[],_,rfl,fun r hr=>by simp at hr,by simp,.sl k [] none 0 ⟨0,0,none⟩ (fun _ _=>undef) (by simp) (fun h=>absurd rfl h) (fun r hr=>by simp at hr) (fun i r j c hr=>by simp at hr) (fun r hr=>by simp at hr) (fun i r j c hr=>by simp at hr),rfl,fun n e=>by cases e⟩
 ·have hlm:len≤m:=by rw [hmm]; split <;> omega
  have hwe:∀ i,i < len→o9 e (D i):=fun i hi q hq=>by
   refine hw q ?_
   simp only [DataW.weights,ht,List.mem_cons,List.mem_append]
   exact .inr (.inl (Rf (List.mem_map.2 ⟨i,List.mem_range.2 hi,rfl⟩) hq))
  have hbn:len*bs≤reachBytes:=by
   have:=hw ((((List.range len).map D).length+((List.range (m - len)).map fun j=>D (len+j)).length)*Tryz.prog.bytesOf e) (by simp [DataW.weights,ht])
   simp only [List.length_map,List.length_range,hbs] at this
   exact Nat.le_trans (Nat.mul_le_mul_right _ (by omega)) this
  obtain ⟨l,l1,l2⟩:=Hu (p:=fun i r=>Q r∧∃ cs',w.cells? 0 (a.add (i*k)) k=some cs'∧kz w (F r) cs'∧∃ u,cs'[0]?=some u∧rg u) len fun i hi=>by
   obtain ⟨cs',h1,h2⟩:=hx i (by omega)
   obtain ⟨r,g1,g2,g3⟩:=hrow _ _ _ h2 (hwe i hi)
   rw [hk] at h1
   exact ⟨r,g1,cs',h1,g2,g3⟩
  have cell:∀ (i:Nat) (row:List AV) (j:Nat) (c:AV),(l.map F)[i]?=some row→row[j]?=some c→∃ u,w.cell? (a.add (i*k+j))=some u∧RD w (zg w) c u∧ak c=true:=fun i row j c hi hj=>by
   simp only [List.getElem?_map,Option.map_eq_some_iff] at hi
   obtain ⟨r,hr,rfl⟩:=hi
   obtain ⟨_,cs',c1,c2,_⟩:=l2 i r hr
   obtain ⟨_,c3,c4⟩:=World.cells?_some c1
   have hjk:j < k:=by
    have:=(List.getElem?_eq_some_iff.1 hj).1
    rw [c2.1,c3] at this
    exact this
   have:=c4 j hjk
   rw [pK] at this
   obtain ⟨u,hu⟩:∃ u,cs'[j]?=some u:=⟨cs'[j]'(by omega),by simp⟩
   exact ⟨u,by rw [this,hu],(c2.2 j c u hj hu).1,(c2.2 j c u hj hu).2.1⟩
  refine ⟨l,_,rfl,fun r hr=>?_,by rw [l1]; exact hbn,?_,rfl,fun n e=>by cases e⟩
  ·obtain ⟨i,hi⟩:=List.getElem?_of_mem hr
   exact (l2 i r hi).1
  ·have:=RD.sl (w:=w) (A:=zg w) k (l.map F) (some a) cap a (fun i j=>(w.cell? (a.add (i*k+j))).getD undef) (by simp [l1,hl]) (fun hne=>?_) (fun row hr=>?_) (fun i row j c hi hj=>?_) (fun row hr c hc=>?_) (fun i row j c hi hj=>?_)
   ·simpa [l1] using this
   ·have hlen:0 < l.length:=List.length_pos_iff.2 fun e=>hne (by simp [e])
    obtain ⟨_,cs',c1,c2,u,c3,c4⟩:=l2 0 l[0] (by simp)
    have:=(World.cells?_some c1).2.2 0 h0
    rw [c3,Nat.zero_mul,qq,qq] at this
    obtain ⟨q1,q2⟩:=Re hT this c4
    exact ⟨rfl,q1,q2⟩
   ·simp only [List.mem_map] at hr
    obtain ⟨r,hr,rfl⟩:=hr
    obtain ⟨i,hi⟩:=List.getElem?_of_mem hr
    obtain ⟨_,cs',c1,c2,_⟩:=l2 i r hi
    rw [c2.1]
    exact (World.cells?_some c1).2.1
   ·obtain ⟨u,q1,_⟩:=cell i row j c hi hj
    rw [q1]; rfl
   ·obtain ⟨i,hi⟩:=List.getElem?_of_mem hr
    obtain ⟨j,hj⟩:=List.getElem?_of_mem hc
    obtain ⟨u,_,_,q⟩:=cell i row j c hi hj
    exact q
   ·obtain ⟨u,q1,q2,_⟩:=cell i row j c hi hj
    rw [q1]; exact q2
theorem Pz {n:Nat} {cs:List Value} {x:DataW H × List MemPlace} (h:Tr w enc n 84 cs=some x) (_:o9 84 x.1):∃ r:Nat,r < 4294967296∧kz w [U (r:Int)] cs∧∃ u,cs[0]?=some u∧rg u:=by
 obtain ⟨z,rfl,rfl,hw⟩:=DataW.trod_int Tryz.underlying84 h
 simp only [Lit.wf,Bool.and_eq_true,decide_eq_true_eq] at hw
 have h1:(0:Int)≤z:=hw.1
 have h2:z≤4294967295:=hw.2
 obtain ⟨m,rfl⟩:∃ m:Nat,z=m:=⟨z.toNat,by omega⟩
 exact ⟨m,by omega,.one (.v _ rfl) rfl rfl,_,rfl,fun n e=>by cases e⟩
theorem PA {n:Nat} {cs:List Value} {x:DataW H × List MemPlace} (h:Tr w enc n 3 cs=some x) (_:o9 3 x.1):∃ r:Int,True∧kz w [I r] cs∧∃ u,cs[0]?=some u∧rg u:=by
 obtain ⟨z,rfl,rfl,hw⟩:=DataW.trod_int Tryz.underlying3 h
 exact ⟨z,trivial,.one (.v _ rfl) rfl rfl,_,rfl,fun n e=>by cases e⟩
theorem Le (hT:vl w) {n:Nat} {cs:List Value} {x:DataW H × List MemPlace} (h:Tr w enc n 35 cs=some x) (hw:o9 35 x.1):∃ m:List Nat,(Lb m∧m.length < 4611686018427387904)∧kz w [lm m] cs∧∃ u,cs[0]?=some u∧rg u:=by
 obtain ⟨l,v,rfl,h1,h2,h3,h4,h5⟩:=AF (k:=1) (bs:=4) Tryz.underlying35 (by kernel_rfl) (by decide) (by kernel_rfl) (fun (r:Nat)=>[U (r:Int)]) (fun r=>r < 4294967296) hT (fun n cs' x=>Pz) h hw
 refine ⟨l,⟨h1,?_⟩,.one h3 rfl h4,_,rfl,h5⟩
 unfold reachBytes at h2
 omega
theorem Ns (hT:vl w) {n:Nat} {cs:List Value} {x:DataW H × List MemPlace} (h:Tr w enc n 62 cs=some x) (hw:o9 62 x.1):∃ m:List Int,True∧kz w [.sl 1 (bo m)] cs∧∃ u,cs[0]?=some u∧rg u:=by
 obtain ⟨l,v,rfl,h1,h2,h3,h4,h5⟩:=AF (k:=1) (bs:=8) Tryz.underlying62 (by kernel_rfl) (by decide) (by kernel_rfl) (fun (r:Int)=>[I r]) (fun r=>True) hT (fun n cs' x=>PA) h hw
 exact ⟨l,trivial,.one h3 rfl h4,_,rfl,h5⟩
theorem Rg (hT:vl w) {n:Nat} {cs:List Value} {x:DataW H × List MemPlace} (h:Tr w enc n 37 cs=some x) (hw:o9 37 x.1):∃ d:Rd,Ok0 d∧kz w (aP d) cs∧∃ u,cs[0]?=some u∧rg u:=by
 obtain ⟨y0,y1,y2,m,rfl,hl,h0,h1,h2⟩:=trod_struct3 Tryz.underlying37 h
 have hl3:cs.length=3:=hl.trans (by kernel_rfl)
 match cs,hl3 with
 | [a,b,c],_ =>
  have k0:Tr w enc m 4 [a]=some y0:=h0
  have k1:Tr w enc m 35 [b]=some y1:=h1
  have k2:Tr w enc m 3 [c]=some y2:=h2
  have w1:o9 35 y1.1:=fun q hq=>hw q (by simp [DataW.weights,DataW.weightsEach,Tryz.underlying37]; exact .inr (.inl hq))
  obtain ⟨bb,e0,e1⟩:=DataW.trod_bool Tryz.underlying4 k0
  simp only [List.cons.injEq,and_true] at e0
  subst e0
  obtain ⟨l,⟨q1,q2⟩,q3,_⟩:=Le hT k1 w1
  obtain ⟨z,e2,e3,_⟩:=DataW.trod_int Tryz.underlying3 k2
  simp only [List.cons.injEq,and_true] at e2
  subst e2
  exact ⟨⟨bb,l,z⟩,⟨q1,q2⟩,(kz.one (.v _ rfl) rfl rfl).app (q3.app (.one (.v _ rfl) rfl rfl)),_,rfl,fun n e=>by cases e⟩
theorem Nt (hT:vl w) {n:Nat} {cs:List Value} {x:DataW H × List MemPlace} (h:Tr w enc n 64 cs=some x) (hw:o9 64 x.1):∃ d:Rt,Ok0 d.c∧kz w (aW d) cs∧∃ u,cs[0]?=some u∧rg u:=by
 obtain ⟨y0,y1,m,rfl,hl,h0,h1⟩:=trod_struct2 Tryz.underlying64 h
 have hl3:cs.length=4:=hl.trans (by kernel_rfl)
 match cs,hl3 with
 | [a,b,c,d],_ =>
  have k0:Tr w enc m 62 [a]=some y0:=h0
  have k1:Tr w enc m 37 [b,c,d]=some y1:=h1
  have w0:o9 62 y0.1:=fun q hq=>hw q (by simp [DataW.weights,DataW.weightsEach,Tryz.underlying64]; exact .inl hq)
  have w1:o9 37 y1.1:=fun q hq=>hw q (by simp [DataW.weights,DataW.weightsEach,Tryz.underlying64]; exact .inr hq)
  obtain ⟨l,_,q3,q4⟩:=Ns hT k0 w0
  obtain ⟨d,d1,d2,_⟩:=Rg hT k1 w1
  exact ⟨⟨l,d⟩,d1,q3.app d2,q4⟩
theorem FE (hT:vl w) {n:Nat} {us:Array Value} {x:DataW H × List MemPlace} (h:Tr w enc n 24 us.toList=some x) (hw:o9 24 x.1):∃ a:Rp,((∀ t ∈ a.terms,Ok0 t.c)∧a.terms.length < 4611686018427387904)∧RD w (zg w) (bm a) (.agg us):=by
 obtain ⟨y0,y1,m,rfl,hl,h0,h1⟩:=trod_struct2 Tryz.underlying24 h
 have hl3:us.toList.length=2:=hl.trans (by kernel_rfl)
 obtain ⟨cs⟩:=us
 simp only at hl3 h0 h1
 match cs,hl3 with
 | [a,b],_ =>
  have k0:Tr w enc m 3 [a]=some y0:=h0
  have k1:Tr w enc m 22 [b]=some y1:=h1
  have w1:o9 22 y1.1:=fun q hq=>hw q (by simp [DataW.weights,DataW.weightsEach,Tryz.underlying24]; exact .inr hq)
  obtain ⟨z,e2,e3,_⟩:=DataW.trod_int Tryz.underlying3 k0
  simp only [List.cons.injEq,and_true] at e2
  subst e2
  obtain ⟨l,v,e4,q1,q2,q3,q4,q5⟩:=AF (k:=4) (bs:=64) Tryz.underlying22 (by kernel_rfl) (by decide) (by kernel_rfl) aW (fun t=>Ok0 t.c) hT (fun n cs' x=>Nt hT) k1 w1
  simp only [List.cons.injEq,and_true] at e4
  subst e4
  refine ⟨⟨z,l⟩,⟨q1,by show l.length < _; unfold reachBytes at q2; omega⟩,?_⟩
  have rc:kz w [I z,.sl 4 (l.map aW)] [.int .i64 z,b]:=(kz.one (.v _ rfl) rfl rfl).app (.one q3 rfl q4)
  refine .agg _ _ rfl (fun i u hu=>?_) fun i c u hc hu=>?_
  ·have hu':[Value.int .i64 z,b][i]?=some u:=by simpa using hu
   obtain ⟨c,hc⟩:∃ c,[I z,AV.sl 4 (l.map aW)][i]?=some c:=⟨_,List.getElem?_eq_getElem (by have:=(List.getElem?_eq_some_iff.1 hu').1; simpa using this)⟩
   exact (rc.2 i c u hc hu').2.2
  ·exact (rc.2 i c u hc (by simpa using hu)).1
end
end Go.Ab
namespace Go.Ab
open Go Go.Proofs Go.Shelf
def qJ:Ren:=⟨fun | 166=>111 | 167=>110 | 169=>112 | 240=>145 | 276=>163 | n=>n,fun | 0=>0 | 3=>3 | 4=>4 | 5=>5 | 9=>9 | 20=>20 | 37=>126 | 70=>125 | 72=>128 | 75=>130 | 80=>134 | 127=>150 | 164=>164 | n=>n,fun n=>n⟩
theorem Bp:Lays.n166 Tryz.prog qJ where
 mixed:=by kernel_rfl
 f166:=by kernel_rfl
 f240:=by kernel_rfl
 f276:=by kernel_rfl
 t0:=by kernel_rfl
 a0:=Tryz.isAgg0
 z0:=Tryz.sizeOf0
 v0:=Tryz.zeroValue0
 t3:=by kernel_rfl
 a3:=Tryz.isAgg3
 z3:=Tryz.sizeOf3
 v3:=Tryz.zeroValue3
 t4:=by kernel_rfl
 a4:=Tryz.isAgg4
 z4:=Tryz.sizeOf4
 v4:=Tryz.zeroValue4
 t9:=by kernel_rfl
 a9:=Tryz.isAgg9
 z9:=Tryz.sizeOf9
 v9:=Tryz.zeroValue9
 t20:=by kernel_rfl
 a20:=Tryz.isAgg20
 z20:=Tryz.sizeOf20
 v20:=Tryz.zeroValue20
 t37:=by kernel_rfl
 a37:=Tryz.isAgg126
 z37:=Tryz.sizeOf126
 v37:=Tryz.zeroValue126
 t70:=by kernel_rfl
 a70:=Tryz.isAgg125
 z70:=Tryz.sizeOf125
 v70:=Tryz.zeroValue125
 t72:=by kernel_rfl
 a72:=Tryz.isAgg128
 z72:=Tryz.sizeOf128
 v72:=Tryz.zeroValue128
 t75:=by kernel_rfl
 a75:=Tryz.isAgg130
 z75:=Tryz.sizeOf130
 v75:=Tryz.zeroValue130
 t164:=by kernel_rfl
 a164:=Tryz.isAgg164
 z164:=Tryz.sizeOf164
 v164:=Tryz.zeroValue164
theorem Lf:Lays.n167 Tryz.prog qJ where
 mixed:=by kernel_rfl
 f167:=by kernel_rfl
 f240:=by kernel_rfl
 f276:=by kernel_rfl
 t0:=by kernel_rfl
 a0:=Tryz.isAgg0
 z0:=Tryz.sizeOf0
 v0:=Tryz.zeroValue0
 t4:=by kernel_rfl
 a4:=Tryz.isAgg4
 z4:=Tryz.sizeOf4
 v4:=Tryz.zeroValue4
 t5:=by kernel_rfl
 a5:=Tryz.isAgg5
 z5:=Tryz.sizeOf5
 v5:=Tryz.zeroValue5
 t9:=by kernel_rfl
 a9:=Tryz.isAgg9
 z9:=Tryz.sizeOf9
 v9:=Tryz.zeroValue9
 t20:=by kernel_rfl
 a20:=Tryz.isAgg20
 z20:=Tryz.sizeOf20
 v20:=Tryz.zeroValue20
 t37:=by kernel_rfl
 a37:=Tryz.isAgg126
 z37:=Tryz.sizeOf126
 v37:=Tryz.zeroValue126
 t70:=by kernel_rfl
 a70:=Tryz.isAgg125
 z70:=Tryz.sizeOf125
 v70:=Tryz.zeroValue125
 t72:=by kernel_rfl
 a72:=Tryz.isAgg128
 z72:=Tryz.sizeOf128
 v72:=Tryz.zeroValue128
 t75:=by kernel_rfl
 a75:=Tryz.isAgg130
 z75:=Tryz.sizeOf130
 v75:=Tryz.zeroValue130
 t164:=by kernel_rfl
 a164:=Tryz.isAgg164
 z164:=Tryz.sizeOf164
 v164:=Tryz.zeroValue164
theorem Bq:Lays.n169 Tryz.prog qJ where
 mixed:=by kernel_rfl
 f169:=by kernel_rfl
 t0:=by kernel_rfl
 a0:=Tryz.isAgg0
 z0:=Tryz.sizeOf0
 v0:=Tryz.zeroValue0
 t3:=by kernel_rfl
 a3:=Tryz.isAgg3
 z3:=Tryz.sizeOf3
 v3:=Tryz.zeroValue3
 t9:=by kernel_rfl
 a9:=Tryz.isAgg9
 z9:=Tryz.sizeOf9
 v9:=Tryz.zeroValue9
 t37:=by kernel_rfl
 a37:=Tryz.isAgg126
 z37:=Tryz.sizeOf126
 v37:=Tryz.zeroValue126
 t70:=by kernel_rfl
 a70:=Tryz.isAgg125
 z70:=Tryz.sizeOf125
 v70:=Tryz.zeroValue125
 t72:=by kernel_rfl
 a72:=Tryz.isAgg128
 z72:=Tryz.sizeOf128
 v72:=Tryz.zeroValue128
 t127:=by kernel_rfl
 a127:=Tryz.isAgg150
 z127:=Tryz.sizeOf150
 v127:=Tryz.zeroValue150
theorem rZ:Builder.Extra Tryz.prog qJ where
 sizeBuilder:=by kernel_rfl
 liesBuilder:=by kernel_rfl
 t5:=by kernel_rfl
 a5:=Tryz.isAgg5
 z5:=Tryz.sizeOf5
 v5:=Tryz.zeroValue5
 infoByte:=by kernel_rfl
 cellsByte:=by kernel_rfl
 sizeByte:=by kernel_rfl
 neB5:=by decide
end Go.Ab
namespace Go.Ab
open Go Go.Proofs Go.Shelf Go.RowKit
set_option maxHeartbeats 4000000
set_option maxRecDepth 1000000
theorem zh {T e:TypeId} {B b:Nat} {p:Value} {bs:List Value} {w w':World} (h:Lib.BuilderAtF T e B b p bs w) (hb:Below w.heap.size w w'):Lib.BuilderAtF T e B b p bs w':=by
 obtain ⟨h1,v,h2,⟨h3,h4⟩,h5⟩:=h
 have hlt:b < w.heap.size:=(Array.getElem?_eq_some_iff.1 h2).1
 refine ⟨h1,v,(hb.block _ hlt).trans h2,⟨h3,?_⟩,h5⟩
 rcases h4 with h4 | ⟨g,cap,cur,fz,g1,g2,g3,g4⟩
 ·exact .inl h4
 ·exact .inr ⟨g,cap,cur,fz,g1,g2,(hb.block _ (Array.getElem?_eq_some_iff.1 g3).1).trans g3,g4⟩
theorem zi {T e:TypeId} {B b:Nat} {bs:List Value} {w w':World} (h:Lib.IsBuilderF T e B b bs w) (hb:Below w.heap.size w w'):Lib.IsBuilderF T e B b bs w':=h.imp (fun h=>zh h hb) (fun h=>zh h hb)
theorem PB (n:Bool) (a:Option Addr) (l cap:Nat) (e:Int) (t u:List UInt8) (w:World) (hl:(l:Int) ≠ 0) (ht:t.length≤10000) (hu:u.length≤1000)
  (hV:∀ w1,Below w.heap.size w w1→Calls Tryz.prog F.dyadic_Valid #[.agg #[.bool n,.slice a l cap,.int .i64 e]] w1 fun x w2=>x=.returned (.bool true)∧Below w1.heap.size w1 w2)
  (hT:∀ w1,Below w.heap.size w w1→Calls Tryz.prog F.natural_Text #[.slice a l cap] w1 fun x w2=>x=.returned (.tuple #[.string ⟨t.toArray⟩,.int .i64 0])∧Below w1.heap.size w1 w2)
  (hI:∀ w1,Below w.heap.size w w1→Calls Tryz.prog F.strconv_Itoa #[.int .i64 e] w1 fun x w2=>x=.returned (.string ⟨u.toArray⟩)∧Below w1.heap.size w1 w2) :
  Calls Tryz.prog F.dyadic_Text #[.agg #[.bool n,.slice a l cap,.int .i64 e]] w fun x w'=>x=.returned (.tuple #[.string ⟨((if n then [45] else [])++t++[112]++u).toArray⟩,.int .i64 0])∧Below w.heap.size w w':=by
 go_enter Tryz.func78,Tryz.ntmps78
 go_wp2_with (go_at_call 53; refine (hV _ ((Below.refl _ w).alloc (Nat.le_refl _) _)).mono ?_)
 rintro x W1 ⟨rfl,b1⟩
 have b01:Below w.heap.size w W1:=((Below.refl _ w).alloc (Nat.le_refl _) _).trans (b1.mono (by simp))
 have s1:w.heap.size < W1.heap.size:=Nat.lt_of_lt_of_le (by simp) b1.size
 have hb1:W1.heap[w.heap.size]?=some (.cells #[.bool n,.slice a l cap,.int .i64 e] 37 (0,0)):=by
  rw [b1.block _ (by simp)]
  exact heap_alloc_new w _
 have c1:W1.cell? ⟨w.heap.size,1,none⟩=some (.slice a l cap):=by simp [World.cell?,hb1]
 go_wp2_with (go_at_call 109; refine (hT _ b01).mono ?_)
 rintro x W2 ⟨rfl,b2⟩
 have b02:Below w.heap.size w W2:=b01.trans (b2.mono (by omega))
 have s2:w.heap.size < W2.heap.size:=Nat.lt_of_lt_of_le s1 b2.size
 have hb2:W2.heap[w.heap.size]?=some (.cells #[.bool n,.slice a l cap,.int .i64 e] 37 (0,0)):=(b2.block _ s1).trans hb1
 have hb3:(W2.alloc (.cells #[.pointer none,.slice none 0 0] 128)).heap[w.heap.size]?=some (.cells #[.bool n,.slice a l cap,.int .i64 e] 37 (0,0)):=(nD W2 _ s2).trans hb2
 have d0:(W2.alloc (.cells #[.pointer none,.slice none 0 0] 128)).cell? ⟨w.heap.size,0,none⟩=some (.bool n):=by simp only [World.cell?,hb3]; rfl
 have d2:(W2.alloc (.cells #[.pointer none,.slice none 0 0] 128)).cell? ⟨w.heap.size,2,none⟩=some (.int .i64 e):=by simp only [World.cell?,hb3]; rfl
 have hB:=Lib.IsBuilderF.of (Lib.fresh_isBuilder 128 5 W2)
 have b03:Below w.heap.size w (W2.alloc (.cells #[.pointer none,.slice none 0 0] 128)):=b02.trans ((Below.refl _ W2).alloc (Nat.le_of_lt s2) _)
 have sS:(ByteArray.mk t.toArray++ByteArray.mk #[112]++ByteArray.mk u.toArray).data.toList=t++[112]++u:=by simp
 have sZ:(ByteArray.mk t.toArray++ByteArray.mk #[112]++ByteArray.mk u.toArray).size=t.length+1+u.length:=by simp [ByteArray.size]; omega
 cases n with
 | true =>
  go_wp2_with (go_at_call 110; refine (Any.Builder_WriteByte_k Lf rZ W2.heap.size W2.heap.size [] 45 _ hB (by simp) (by simp)).mono ?_)
  rintro x W3 ⟨rfl,hB3,b3,_⟩
  have b03':Below w.heap.size w W3:=b03.trans (b3.mono (Nat.le_of_lt s2))
  have e2:W3.cell? ⟨w.heap.size,2,none⟩=some (.int .i64 e):=by simp only [World.cell?,(b3.block _ s2).trans hb3]; rfl
  go_wp2_with (go_at_call 79; refine (hI _ b03').mono ?_)
  rintro x W4 ⟨rfl,b4⟩
  have b04:Below w.heap.size w W4:=b03'.trans (b4.mono b03'.size)
  have hB4:=zi (.inr hB3) b4
  have s4:W2.heap.size≤W4.heap.size:=Nat.le_trans (Nat.le_trans (by simp) b3.size) b4.size
  go_wp2_with (go_at_call 111; refine (Any.Builder_WriteString_k Bp rZ W2.heap.size W2.heap.size _ (ByteArray.mk t.toArray++ByteArray.mk #[112]++ByteArray.mk u.toArray) _ hB4 (by rw [sZ]; simp; omega) s4).mono ?_)
  rintro x W5 ⟨rfl,hB5,b5,_⟩
  have b05:Below w.heap.size w W5:=b04.trans (b5.mono (Nat.le_of_lt s2))
  have hB5':Lib.IsBuilderF (qJ.t 72) (qJ.t 5) W2.heap.size W2.heap.size (Lib.byteCells (45::(t++[112]++u))) W5:=by
   rw [show Lib.byteCells (45::(t++[112]++u))=[]++[Value.int .u8 45]++Lib.strCells (ByteArray.mk t.toArray++ByteArray.mk #[112]++ByteArray.mk u.toArray) by rw [Lib.strCells_eq,sS]; rfl]
   exact .inr hB5
  go_wp2_with (go_at_call 112; refine (Any.Builder_String_any_k Bq rZ W2.heap.size W2.heap.size _ _ hB5' (Nat.le_trans s4 b5.size)).mono ?_)
  rintro x W6 ⟨rfl,_,b6,_⟩
  go_wp2
  go_ret2
  exact ⟨by simp,b05.trans (b6.mono (Nat.le_of_lt s2))⟩
 | false =>
  go_wp2_with (go_at_call 79; refine (hI _ b03).mono ?_)
  rintro x W4 ⟨rfl,b4⟩
  have b04:Below w.heap.size w W4:=b03.trans (b4.mono b03.size)
  have hB4:=zi hB b4
  have s4:W2.heap.size≤W4.heap.size:=Nat.le_trans (by simp) b4.size
  go_wp2_with (go_at_call 111; refine (Any.Builder_WriteString_k Bp rZ W2.heap.size W2.heap.size _ (ByteArray.mk t.toArray++ByteArray.mk #[112]++ByteArray.mk u.toArray) _ hB4 (by rw [sZ]; simp; omega) s4).mono ?_)
  rintro x W5 ⟨rfl,hB5,b5,_⟩
  have b05:Below w.heap.size w W5:=b04.trans (b5.mono (Nat.le_of_lt s2))
  have hB5':Lib.IsBuilderF (qJ.t 72) (qJ.t 5) W2.heap.size W2.heap.size (Lib.byteCells (t++[112]++u)) W5:=by
   rw [show Lib.byteCells (t++[112]++u)=[]++Lib.strCells (ByteArray.mk t.toArray++ByteArray.mk #[112]++ByteArray.mk u.toArray) by rw [Lib.strCells_eq,sS]; rfl]
   exact .inr hB5
  go_wp2_with (go_at_call 112; refine (Any.Builder_String_any_k Bq rZ W2.heap.size W2.heap.size _ _ hB5' (Nat.le_trans s4 b5.size)).mono ?_)
  rintro x W6 ⟨rfl,_,b6,_⟩
  go_wp2
  go_ret2
  exact ⟨by simp,b05.trans (b6.mono (Nat.le_of_lt s2))⟩
end Go.Ab
namespace Go.Ab
open Go Go.Proofs Go.Shelf Go.RowKit
set_option maxRecDepth 100000
theorem hH {args:List AV} {vals:Array Value} (h:vals.size=args.length) {i:Nat} {c:AV} (hc:args[i]?=some c):∃ u,vals[i]?=some u:=by
 have:i < args.length:=(List.getElem?_eq_some_iff.1 hc).1
 exact ⟨vals[i]'(by omega),by simp [h,this]⟩
theorem Rh {vals:Array Value} {a:Value} (h:vals.size=1) (h0:vals[0]?=some a):vals=#[a]:=by
 apply Array.ext_getElem?
 intro i
 match i with
 | 0=>simpa using h0
 | i+1=>simp [h]
theorem Rj {vals:Array Value} {a b:Value} (h:vals.size=2) (h0:vals[0]?=some a) (h1:vals[1]?=some b):vals=#[a,b]:=by
 apply Array.ext_getElem?
 intro i
 match i with
 | 0=>simpa using h0
 | 1=>simpa using h1
 | i+2=>simp [h]
theorem Br {w:World} {a:Addr} {us:Array Value} {e:TypeId} (h:w.heap[a.block]?=some (.cells us e (0,0))):w.frozen? a=false:=by
 simp [World.frozen?,h]
theorem PC {P:Program} (w:World) (tS tR e:TypeId) (ht:P.underlying tS=some (.slice e)) (size:Nat) (hz:∀ w,(Go.sizeOf e).run P w=.ok size w) (a:Addr) (b:Option Addr) (la ca cb:Nat) :
  (Extern.SlicesOverlaps.overlaps #[tS,tS] #[tR] #[.slice (some a) la ca,.slice b 0 cb]).run P w=.ok (.bool false) w:=by
 change Sem.run P (α:=Value) (do
  let some t := (#[tS, tS] : Array TypeId)[0]? | stuck "slices.overlaps: no parameter types"
  let .slice elem ← underlying t | stuck "slices.overlaps: slice type expected"
  let size ← sizeOf elem
  match (some a:Option Addr),b with
  | some a,some b =>
   if la=0∨0=0∨size=0 then pure (Value.bool false)
   else if a.block != b.block && (← frozen a) && (← frozen b) then unsupported .addressObserved
   else do
    if a.block != b.block then do
     noView a; noView b
     if ← mayBeOne a b then return Value.bool ((← choose (.extern "sameAddr.stringBytes" 2)) == 1)
    pure (Value.bool (a.block == b.block && a.off < b.off+0*size && b.off < a.off+la*size))
  | _,_=>pure (Value.bool false)) w=_
 cases b <;> simp [run_underlying ht,hz]
theorem Rk {P:Program} (w:World) (tS tR e:TypeId) (ht:P.underlying tS=some (.slice e)) (size:Nat) (hz:∀ w,(Go.sizeOf e).run P w=.ok size w)
  (a b:Addr) (la ca lb cb:Nat) (hne:a.block ≠ b.block) (tA:TypeId) (kA:Nat) {us:Array Value} {tB:TypeId}
  (hkA:kA ≠ 0) (hsa:w.shape? a.block=some (tA,kA)) (hb:w.heap[b.block]?=some (.cells us tB (0,0))) (hu:us.size ≠ 0) :
  (Extern.SlicesOverlaps.overlaps #[tS,tS] #[tR] #[.slice (some a) la ca,.slice (some b) lb cb]).run P w=.ok (.bool false) w:=by
 have hnb:(a.block != b.block)=true:=by simpa using hne
 have hnb':(a.block == b.block)=false:=by simpa using hne
 have hsb:w.shape? b.block=some (tB,us.size):=by simp [World.shape?,hb]
 have hfb:w.frozen? b=false:=Br hb
 have hfe:w.frozen? { block:=b.block,off:=us.size }=false:=Br (a:=⟨b.block,us.size,none⟩) hb
 change Sem.run P (α:=Value) (do
  let some t := (#[tS, tS] : Array TypeId)[0]? | stuck "slices.overlaps: no parameter types"
  let .slice elem ← underlying t | stuck "slices.overlaps: slice type expected"
  let size ← sizeOf elem
  match (some a:Option Addr),(some b:Option Addr) with
  | some a,some b =>
   if la=0∨lb=0∨size=0 then pure (Value.bool false)
   else if a.block != b.block && (← frozen a) && (← frozen b) then unsupported .addressObserved
   else do
    if a.block != b.block then do
     noView a; noView b
     if ← mayBeOne a b then return Value.bool ((← choose (.extern "sameAddr.stringBytes" 2)) == 1)
    pure (Value.bool (a.block == b.block && a.off < b.off+lb*size && b.off < a.off+la*size))
  | _,_=>pure (Value.bool false)) w=_
 by_cases h0:la=0∨lb=0∨size=0
 ·simp [run_underlying ht,hz,h0]
 ·obtain ⟨n,hn⟩:∃ n,us.size=n+1:=⟨us.size - 1,by omega⟩
  rw [hn] at hsb hfe
  obtain ⟨kA,rfl⟩:∃ k,kA=k+1:=⟨kA - 1,by omega⟩
  cases hfa:w.frozen? a <;> cases hfa2:w.frozen? { block:=a.block,off:=kA+1 } <;>
   simp [run_underlying ht,hz,h0,hnb,hnb',frozen,noView,viewAt,mayBeOne,stringish,shape,Sem.run,hsa,hsb,hfa,hfa2,hfb,hfe]
theorem Jl {w:World} {a:Addr} {v:Value} (h:w.cell? a=some v):∃ t k,k ≠ 0∧w.shape? a.block=some (t,k):=by
 unfold World.cell? at h
 split at h
 ·rename_i cs t fr hb
  refine ⟨t,cs.size,fun h0=>?_,by unfold World.shape?; rw [hb]⟩
  split at h
  ·cases h
  ·have:=(Array.getElem?_eq_some_iff.1 h).1
   omega
 ·cases h
theorem Rl {P : Program} {I : Inv} {f : FuncId} {fn : Func} {tS tR e : TypeId} {size : Nat} (hf : P.funcs[f]? = some fn) (hname : (fn.name == "runtime.NumGoroutine") = false) (hb : fn.body.isNone = true) (hn : Extern.findNext fn = none)
  (he:Extern.find fn=some (Extern.SlicesOverlaps.overlaps #[tS,tS] #[tR])) (ht:P.underlying tS=some (.slice e)) (hz:∀ w,(Go.sizeOf e).run P w=.ok size w):eN P I false f (GZ 4):=by
 intro args obs obs' res w X ρ vals n hz' hn' hi hr hs hv
 unfold GZ at hz'
 split at hz'
 ·rename_i k0 row rows k1 lo m k2 rows2
  split at hz'
  ·rename_i hk
   obtain ⟨rfl,rfl,rfl⟩:=hk
   cases hz'
   obtain ⟨u0,h0⟩:=hH hs (i:=0) rfl
   obtain ⟨u1,h1⟩:=hH hs (i:=1) rfl
   have e0:=hv 0 _ _ rfl h0
   have e1:=hv 1 _ _ rfl h1
   obtain rfl:=Rj hs h0 h1
   have d0:=e0.sl_inv
   obtain ⟨a1,cap1,rfl,hp,hn1,hb1,ha1⟩:=e1.rsl_inv
   have ho:RO w (ap w X (ae [.ar 4 rows2]) ρ) ρ (ae [.ar 4 rows2]) 1000 (.ar 4 rows2):=hr.ob 1000
   obtain ⟨us,tB,g1,g2,g3,g4⟩:=ho
   have hlive:live (ae [.ar 4 rows2]) 1000 none:=trivial
   cases d0 with
   | sl _ _ a cap ad vs hc ha hk hv2 hl hr2 =>
    obtain ⟨rfl,hA,hsp⟩:=ha (by simp)
    have hlen:=hk row (by simp)
    obtain ⟨c,hrow⟩:∃ c,row[0]?=some c:=⟨row[0]'(by omega),by simp⟩
    have hcell:=hv2 0 row 0 c rfl hrow
    obtain ⟨tA,kA,hkA,hsh⟩:=Jl hcell
    rw [gH] at hsh
    have run:(callFunc f #[.slice (some ad) (row::rows).length cap,.slice a1 m cap1]).run P w=.ok (.value (.bool false)) w:=by
     rw [run_callFunc_extern hf hname hb hn he]
     by_cases hm:m=0
     ·subst hm
      rw [PC w tS tR e ht size hz]
      rfl
     ·rcases ha1 with h | rfl
      ·omega
      ·rw [Rk w tS tR e ht size hz ad ⟨(ρ 1000 none).1,lo*4,none⟩ _ cap m cap1 (fun hh=>hA.2.2 ⟨1000,none,hlive,hh.symm⟩) tA kA hkA hsh g1 (by omega)]
       rfl
    unfold Enters
    rw [run]
    exact ⟨ρ,hr,.refl _ _ _ _,.dat (.v _ rfl)⟩
  ·cases hz'
 ·cases hz'
theorem PD {P:Program} {I:Inv} (hR:eN P I false F.slices_Insert_api_Term_api_Term_ (R0 F.slices_Insert_api_Term_api_Term_)):eN P I false F.slices_Insert_api_Term_api_Term_ (D6 4 64):=by
 intro args obs obs' res w X ρ vals n hz hn hi hr hs hv
 unfold D6 at hz
 split at hz
 ·rename_i k0 r
  split at hz
  ·rename_i hk
   subst hk
   cases hz
   exact hR Pu hn hi hr hs hv
  ·cases hz
 ·rename_i k1 m i k0 r k2 rows
  split at hz
  ·rename_i hk
   obtain ⟨rfl,rfl,rfl,rfl,hi0,hi1,hb⟩:=hk
   cases hz
   obtain ⟨i,rfl⟩:=Int.eq_ofNat_of_zero_le hi0
   rw [Int.toNat_natCast]
   by_cases hend:i=rows.length
   ·subst hend
    have:=hR (La (r:=r) rfl hb) hn hi hr hs hv
    rw [List.take_of_length_le (Nat.le_refl _),List.drop_eq_nil_of_le (Nat.le_refl _)]
    exact this
   ·have hlt:i < rows.length:=by omega
    obtain ⟨u0,h0⟩:=hH hs (i:=0) rfl
    obtain ⟨a,cap,rfl,hp,hn1,hb1,ha⟩:=(hv 0 _ _ rfl h0).rsl_inv
    have hv':∀ (j:Nat) (c:AV) (u:Value),[AV.rsc 1000 4 0 rows.length cap,.v (.int .i64 i),.sl 4 [r]][j]?=some c→vals[j]?=some u→RV w (ap w X (ae [.ar 4 rows]) ρ) ρ (ae [.ar 4 rows]) c u:=by
     intro j c u hc hu
     match j,hc with
     | 0,hc =>
      cases hc
      rw [h0] at hu
      cases hu
      exact .rsc 1000 4 0 _ cap a hp hn1 hb1 ha
     | j+1,hc=>exact hv (j+1) c u hc hu
    rcases Nat.lt_or_ge rows.length cap with hc | hc
    ·exact hR (Py rfl hlt hc hb) hn hi hr hs hv'
    ·obtain rfl:cap=rows.length:=by omega
     refine (hR (Px rfl hlt hb) hn hi hr hs hv').mono fun v w' ⟨ρ',q1,q2,q3⟩=>?_
     generalize rows.take i++r::rows.drop i=L at q1 q2 q3 ⊢
     have hd:=yi q1 (id:=1000) (k:=4) (rows:=rows) (by
      show (if 1000=n then _ else _)=_
      rw [if_neg (by omega)]
      rfl)
     have eq:upd (mat n (ae [.ar 4 rows]) (.osl 4 L)).2 1000 .dead=(mat n (ae [.dead]) (.osl 4 L)).2:=by
      show upd (upd (ae [.ar 4 rows]) n (.ar 4 L)) 1000 .dead=upd (ae [.dead]) n (.ar 4 L)
      rw [nn,nn]
      funext j
      unfold upd
      by_cases h1:j=1000
      ·rw [if_pos h1,if_neg (by omega),if_pos h1]
      ·rw [if_neg h1,if_neg h1,if_neg h1]
     rw [eq] at hd
     refine ⟨ρ',hd.1,q2.trans (hd.2.far rfl),hd.2.rvk q3 (.inr ?_)⟩
     show dI [(1000,false)] n none=false
     simp [dI]
     omega
  ·cases hz
 ·cases hz
theorem kB {w w':World} {X:Nat→Prop} {ρ:aT} (hr:Rel w X ρ (ae [])) (hb:Below w.heap.size w w'):Rel w' X ρ (ae [])∧Far false w ρ (ae []) w' ρ (ae []):=by
 have hl:∀ id sub,¬ live (ae []) id sub:=fun id sub=>by
  have hd:ae [] id=.dead:=by
   unfold ae
   split <;> simp
  cases sub with
  | none=>simp [live,hd]
  | some p=>simp [live,hd]
 refine ⟨⟨fun id sub _ _ h=>(hl id sub h).elim,fun id sub h=>(hl id sub h).elim,fun id=>?_,fun b hb'=>Nat.lt_of_lt_of_le (hr.xl b hb') hb.size⟩,hb.os,hb.tape,hb.output,hb.size,fun b h1 _=>hb.block b h1,fun b ⟨id,sub,h,_⟩=>(hl id sub h).elim,fun id _ h=>?_,fun h=>by cases h⟩
 ·have hd:ae [] id=.dead:=by
   unfold ae
   split <;> simp
  rw [hd]
  trivial
 ·exfalso
  apply h
  unfold ae
  split <;> simp
theorem Lg {w w':World} {X:Nat→Prop} {ρ:aT} {b:Nat} (h:ap w X (ae []) ρ b) (hb:Below w.heap.size w w'):ap w' X (ae []) ρ b∧w'.heap[b]?=w.heap[b]? :=
 ⟨⟨Nat.lt_of_lt_of_le h.1 hb.size,h.2.1,h.2.2⟩,hb.block b h.1⟩
theorem Rm {P:Program} {I:Inv} {ρ0:Ren} (L:Lays2.n15 P ρ0) (hf:ρ0.f 15=F.slices_Clone_int_int_) (he:∀ a w,(callFunc F.slices_Clone_int_int_ a).run P w=.ok (.enter F.slices_Clone_int_int_ a) w)
  (hR:eN P I false F.slices_Clone_int_int_ (R0 F.slices_Clone_int_int_)):eN P I false F.slices_Clone_int_int_ J8:=by
 intro args obs obs' res w X ρ vals n hz hn hi hr hs hv
 unfold J8 at hz
 split at hz
 ·cases hz
  obtain ⟨u0,h0⟩:=hH hs (i:=0) rfl
  have d0:=(hv 0 _ _ rfl h0).sl_inv
  obtain rfl:=Rh hs h0
  cases d0 with
  | sl _ _ a cap ad vs hc ha hk hv2 hl hr2 =>
   unfold Enters
   rw [he]
   have fin:∀ (w':World) (b:Option Addr) (c:Nat),Below w.heap.size w w'→∃ ρ',Rel w' X ρ' (mat n (ae []) (.sl 1 [])).2∧Far false w ρ (ae []) w' ρ' (mat n (ae []) (.sl 1 [])).2 ∧
     RV w' (ap w' X (mat n (ae []) (.sl 1 [])).2 ρ') ρ' (mat n (ae []) (.sl 1 [])).2 (mat n (ae []) (.sl 1 [])).1 (.slice b 0 c):=fun w' b c hb =>
    ⟨ρ,(kB hr hb).1,(kB hr hb).2,.dat (.sl 1 [] b c ad vs (Nat.zero_le _) (fun h=>absurd rfl h) (fun _ h=>by cases h) (fun i row j c h=>by simp at h) (fun _ h=>by cases h) (fun i row j c h=>by simp at h))⟩
   cases a with
   | none =>
    have key:=Any.slices_Clone_int_nil L 0 cap w
    rw [hf] at key
    refine Calls.mono key fun e w' hw=>?_
    obtain ⟨rfl,rfl⟩:=hw
    exact fin _ _ _ (Below.refl _ _)
   | some a0 =>
    have key:=Any.slices_Clone_int_zero L a0 cap w
    rw [hf] at key
    refine Calls.mono key fun e w' hw=>?_
    obtain ⟨v',rfl,⟨_,hown⟩,_,hb⟩:=hw
    rcases hown with ⟨rfl,_⟩ | ⟨g,c2,cur,rfl,_⟩
    ·exact fin _ _ _ hb
    ·exact fin _ _ _ hb
 ·rename_i r rs
  split at hz
  ·rename_i hb
   cases hz
   exact hR (Nq hb) hn hi hr hs hv
  ·cases hz
 ·cases hz
end Go.Ab
namespace Go.Ab
open Go Go.Proofs Go.RowKit
set_option maxRecDepth 100000
theorem RV.tup_inv {w:World} {A:Nat→Prop} {ρ:aT} {h:aa} {vs:List AV} {u:Value} (hv:RV w A ρ h (.tup vs) u):∃ us:Array Value,u=.tuple us∧us.size=vs.length∧∀ (i:Nat) (c:AV) (u:Value),vs[i]?=some c→us[i]?=some u→RV w A ρ h c u:=by
 cases hv with
 | dat hd=>cases hd
 | tup _ us hs hr=>exact ⟨us,rfl,hs,hr⟩
theorem xV {P:Program} {I:Inv} {f:FuncId} {g:List AV→List Ob→Option (AV × List Ob)} (hR:eN P I false f g) {args:List AV} {vals:Array Value} {w:World} {X:Nat→Prop} {ρ:aT} {res:AV}
  (he:(callFunc f vals).run P w=.ok (.enter f vals) w) (hz:g args []=some (res,[])) (hm:mat 2000 (ae []) res=(res,ae [])) (hi:I.p w X) (hr:Rel w X ρ (ae [])) (hs:vals.size=args.length)
  (hv:∀ (i:Nat) (c:AV) (u:Value),args[i]?=some c→vals[i]?=some u→RV w (ap w X (ae []) ρ) ρ (ae []) c u) :
  Calls P f vals w fun e w'=>(∃ v ρ',e=.returned v∧RV w' (ap w' X (ae []) ρ') ρ' (ae []) res v)∧Below w.heap.size w w':=by
 have key:=hR hz (Nat.le_refl 2000) hi hr hs hv
 unfold Enters at key
 rw [he] at key
 refine Calls.mono key fun e w' hw=>?_
 cases e with
 | returned v =>
  obtain ⟨ρ',r,far,rv⟩:=hw
  rw [hm] at rv far
  have hl:∀ id sub,¬ live (ae []) id sub:=fun id sub=>by
   have hd:ae [] id=.dead:=by
    unfold ae
    split <;> simp
   cases sub with
   | none=>simp [live,hd]
   | some p=>simp [live,hd]
  exact ⟨⟨v,ρ',rfl,rv⟩,far.os,far.tape,far.output,far.size,fun k hk=>far.old k hk fun ⟨id,sub,h,_⟩=>hl id sub h⟩
 | _=>exact hw.elim
theorem Nu (n:Bool) (e:Int) (he:e=0∨e=1):R0 F.dyadic_Valid [.agg [B n,.sl 1 [[U 1]],I e]] []=some (B true,[]):=by
 rcases he with rfl | rfl <;> cases n
 ·exact go [] 40 (F.dyadic_Valid,[.agg [B false,.sl 1 [[U 1]],I 0]],B true) bC (by kernel_rfl)
 ·exact go [] 40 (F.dyadic_Valid,[.agg [B true,.sl 1 [[U 1]],I 0]],B true) bC (by kernel_rfl)
 ·exact go [] 40 (F.dyadic_Valid,[.agg [B false,.sl 1 [[U 1]],I 1]],B true) bC (by kernel_rfl)
 ·exact go [] 40 (F.dyadic_Valid,[.agg [B true,.sl 1 [[U 1]],I 1]],B true) bC (by kernel_rfl)
theorem PE (e:Int) (he:e=0∨e=1):R0 F.strconv_Itoa [I e] []=some (S ⟨[if e=0 then (48:UInt8) else 49].toArray⟩,[]):=by
 rcases he with rfl | rfl
 ·exact go [] 40 (F.strconv_Itoa,[I 0],S ⟨[(48:UInt8)].toArray⟩) bC (by kernel_rfl)
 ·exact go [] 40 (F.strconv_Itoa,[I 1],S ⟨[(49:UInt8)].toArray⟩) bC (by kernel_rfl)
theorem Nv:R0 F.natural_Text [.sl 1 [[U 1]]] []=some (.tup [S ⟨[(49:UInt8)].toArray⟩,I 0],[]) :=
 go [] 60 (F.natural_Text,[.sl 1 [[U 1]]],.tup [S ⟨[(49:UInt8)].toArray⟩,I 0]) bC (by kernel_rfl)
theorem Y8 {vals:Array Value} {a b c:Value} (h:vals.size=3) (h0:vals[0]?=some a) (h1:vals[1]?=some b) (h2:vals[2]?=some c):vals=#[a,b,c]:=by
 apply Array.ext_getElem?
 intro i
 match i with
 | 0=>simpa using h0
 | 1=>simpa using h1
 | 2=>simpa using h2
 | i+3=>simp [h]
theorem Uw {I:Inv} (hV:eN Tryz.prog I false F.dyadic_Valid (R0 F.dyadic_Valid)) (hT:eN Tryz.prog I false F.natural_Text (R0 F.natural_Text)) (hI:eN Tryz.prog I false F.strconv_Itoa (R0 F.strconv_Itoa))
  (eV:∀ a w,(callFunc F.dyadic_Valid a).run Tryz.prog w=.ok (.enter F.dyadic_Valid a) w) (eT:∀ a w,(callFunc F.natural_Text a).run Tryz.prog w=.ok (.enter F.natural_Text a) w)
  (eI:∀ a w,(callFunc F.strconv_Itoa a).run Tryz.prog w=.ok (.enter F.strconv_Itoa a) w) (eD:∀ a w,(callFunc F.dyadic_Text a).run Tryz.prog w=.ok (.enter F.dyadic_Text a) w) :
  eN Tryz.prog I false F.dyadic_Text Qz:=by
 intro args obs obs' res w X ρ vals n hz hn hi hr hs hv
 unfold Qz at hz
 split at hz
 ·rename_i nb m e
  split at hz
  ·rename_i hc
   obtain ⟨rfl,he,rfl⟩:=hc
   cases hz
   obtain ⟨u0,h0⟩:=hH hs (i:=0) rfl
   obtain ⟨us,rfl,hsz,_,hr2⟩:=(hv 0 _ _ rfl h0).agg_inv
   obtain rfl:=Rh hs h0
   obtain ⟨v0,g0⟩:=hH (args:=[B nb,.sl 1 [[.v (.int .u32 1)]],.v (.int .i64 e)]) hsz (i:=0) rfl
   obtain ⟨v1,g1⟩:=hH (args:=[B nb,.sl 1 [[.v (.int .u32 1)]],.v (.int .i64 e)]) hsz (i:=1) rfl
   obtain ⟨v2,g2⟩:=hH (args:=[B nb,.sl 1 [[.v (.int .u32 1)]],.v (.int .i64 e)]) hsz (i:=2) rfl
   obtain ⟨rfl,_⟩:=(hr2 0 _ _ rfl g0).v_inv
   obtain ⟨rfl,_⟩:=(hr2 2 _ _ rfl g2).v_inv
   have d1:=(hr2 1 _ _ rfl g1).sl_inv
   obtain rfl:=Y8 hsz g0 g1 g2
   obtain ⟨a,l,cap,rfl⟩:∃ a l cap,v1=.slice a l cap:=by
    cases d1
    exact ⟨_,_,_,rfl⟩
   have hl:l=1:=by
    cases d1
    rfl
   subst hl
   have d1':∀ {w1:World},Below w.heap.size w w1→RD w1 (ap w1 X (ae []) ρ) (.sl 1 [[.v (.int .u32 1)]]) (.slice a 1 cap):=fun hb=>d1.mono fun b h=>Lg h hb
   have inv:∀ {w1:World},Below w.heap.size w w1→I.p w1 X:=fun hb=>I.stab hi fun b h=>hb.block b (hr.xl b h)
   unfold Enters
   rw [eD]
   refine Calls.mono (PB nb a 1 cap e [49] [if e=0 then 48 else 49] w (by decide) (by decide) (Nat.le_of_lt (by decide:1 < 1000)) (fun w1 hb=>?_) (fun w1 hb=>?_) fun w1 hb=>?_) fun ex w' hw=>?_
   ·refine Calls.mono (xV hV (eV _ _) (Nu nb e he) rfl (inv hb) (kB hr hb).1 rfl fun i c u hc hu=>?_) fun ex w2 hw=>?_
    ·match i,hc with
     | 0,hc =>
      cases hc
      cases hu
      refine .dat (.agg _ _ rfl (fun i u hu=>?_) fun i c u hc hu=>?_)
      ·match i,hu with
       | 0,hu=>cases hu; rfl
       | 1,hu=>cases hu; rfl
       | 2,hu=>cases hu; rfl
      ·match i,hc,hu with
       | 0,hc,hu=>cases hc; cases hu; exact .v _ rfl
       | 1,hc,hu=>cases hc; cases hu; exact d1' hb
       | 2,hc,hu=>cases hc; cases hu; exact .v _ rfl
    ·obtain ⟨⟨v,ρ',rfl,rv⟩,hb2⟩:=hw
     obtain ⟨rfl,_⟩:=rv.v_inv
     exact ⟨rfl,hb2⟩
   ·refine Calls.mono (xV hT (eT _ _) Nv rfl (inv hb) (kB hr hb).1 rfl fun i c u hc hu=>?_) fun ex w2 hw=>?_
    ·match i,hc with
     | 0,hc =>
      cases hc
      cases hu
      exact .dat (d1' hb)
    ·obtain ⟨⟨v,ρ',rfl,rv⟩,hb2⟩:=hw
     obtain ⟨us,rfl,h1,h2⟩:=rv.tup_inv
     obtain ⟨x0,q0⟩:=hH (args:=[S ⟨[(49:UInt8)].toArray⟩,.v (.int .i64 0)]) h1 (i:=0) rfl
     obtain ⟨x1,q1⟩:=hH (args:=[S ⟨[(49:UInt8)].toArray⟩,.v (.int .i64 0)]) h1 (i:=1) rfl
     obtain ⟨rfl,_⟩:=(h2 0 _ _ rfl q0).v_inv
     obtain ⟨rfl,_⟩:=(h2 1 _ _ rfl q1).v_inv
     obtain rfl:=Rj h1 q0 q1
     exact ⟨rfl,hb2⟩
   ·refine Calls.mono (xV hI (eI _ _) (PE e he) rfl (inv hb) (kB hr hb).1 rfl fun i c u hc hu=>?_) fun ex w2 hw=>?_
    ·match i,hc with
     | 0,hc =>
      cases hc
      cases hu
      exact .dat (.v _ rfl)
    ·obtain ⟨⟨v,ρ',rfl,rv⟩,hb2⟩:=hw
     obtain ⟨rfl,_⟩:=rv.v_inv
     exact ⟨rfl,hb2⟩
   ·obtain ⟨rfl,hb⟩:=hw
    refine ⟨ρ,(kB hr hb).1,(kB hr hb).2,?_⟩
    refine .tup _ _ rfl fun i c u hc hu=>?_
    match i,hc,hu with
    | 0,hc,hu=>cases hc; cases hu; exact .dat (.v _ rfl)
    | 1,hc,hu=>cases hc; cases hu; exact .dat (.v _ rfl)
  ·cases hz
 ·cases hz
abbrev TX (f:Nat) (fd:FD):Prop:=Text Go.Proofs.Tryz.prog f fd
theorem tx {f : Nat} {fd : FD} {fn : Func} (h : Go.Proofs.Tryz.prog.funcs[f]? = some fn) (h2 : (fn.body.bind fun c => dD Go.Proofs.Tryz.prog fn.ntmps c fd.body, sn Go.Proofs.Tryz.prog fn.results.toList, decide (fn.ntmps ≤ 1000), fn.name == "runtime.NumGoroutine") = (some fd.body, some fd.res, true, false)) : TX f fd := by
 simp only [Prod.mk.injEq,Option.bind_eq_some_iff,decide_eq_true_eq] at h2
 obtain ⟨⟨c,h3,h4⟩,h5,h6,h7⟩:=h2
 exact ⟨⟨fn,c,_,h,h3,rfl,h6,h4,h5,h7⟩⟩
theorem tn:∀ p ∈ ([]:List (Nat × FD)),TX p.1 p.2:=fun _ h=>by cases h
theorem tc {f:Nat} {fd:FD} {l:List (Nat × FD)} (h1:TX f fd) (h2:∀ p ∈ l,TX p.1 p.2):∀ p ∈ (f,fd)::l,TX p.1 p.2:=fun p hp=>by
 rcases List.mem_cons.1 hp with rfl | hp
 ·exact h1
 ·exact h2 p hp
open Go.Proofs.Tryz
theorem Y9:TX 3 gO:=tx func3 (by kernel_rfl)
theorem Za:TX 9 uG:=tx func9 (by kernel_rfl)
theorem Ux:TX 10 mP:=tx func10 (by kernel_rfl)
theorem Uy:TX 11 lD:=tx func11 (by kernel_rfl)
theorem Uz:TX 12 iU:=tx func12 (by kernel_rfl)
theorem UA:TX 13 lE:=tx func13 (by kernel_rfl)
theorem UB:TX 14 oE:=tx func14 (by kernel_rfl)
theorem UC:TX 15 wB:=tx func15 (by kernel_rfl)
theorem UD:TX 20 rt:=tx func20 (by kernel_rfl)
theorem UE:TX 25 eJ:=tx func25 (by kernel_rfl)
theorem UF:TX 26 dR:=tx func26 (by kernel_rfl)
theorem UG:TX 27 ru:=tx func27 (by kernel_rfl)
theorem UH:TX 30 jx:=tx func30 (by kernel_rfl)
theorem UI:TX 32 qw:=tx func32 (by kernel_rfl)
theorem UJ:TX 33 uH:=tx func33 (by kernel_rfl)
theorem UK:TX 34 bZ:=tx func34 (by kernel_rfl)
theorem UL:TX 35 fN:=tx func35 (by kernel_rfl)
theorem UM:TX 36 b7:=tx func36 (by kernel_rfl)
theorem UN:TX 37 fZ:=tx func37 (by kernel_rfl)
theorem UO:TX 38 iu:=tx func38 (by kernel_rfl)
theorem UP:TX 39 lP:=tx func39 (by kernel_rfl)
theorem UQ:TX 40 bN:=tx func40 (by kernel_rfl)
theorem UR:TX 41 bT:=tx func41 (by kernel_rfl)
theorem US:TX 42 bM:=tx func42 (by kernel_rfl)
theorem UT:TX 43 mR:=tx func43 (by kernel_rfl)
theorem UU:TX 44 kI:=tx func44 (by kernel_rfl)
theorem UV:TX 45 jp:=tx func45 (by kernel_rfl)
theorem UW:TX 46 gC:=tx func46 (by kernel_rfl)
theorem UX:TX 47 jy:=tx func47 (by kernel_rfl)
theorem UY:TX 48 sY:=tx func48 (by kernel_rfl)
theorem UZ:TX 49 dM:=tx func49 (by kernel_rfl)
theorem U0:TX 53 cE:=tx func53 (by kernel_rfl)
theorem U1:TX 54 ce:=tx func54 (by kernel_rfl)
theorem U2:TX 55 s0:=tx func55 (by kernel_rfl)
theorem U3:TX 59 gD:=tx func59 (by kernel_rfl)
theorem U4:TX 61 kJ:=tx func61 (by kernel_rfl)
theorem U5:TX 63 fI:=tx func63 (by kernel_rfl)
theorem U6:TX 64 eg:=tx func64 (by kernel_rfl)
theorem U7:TX 65 dE:=tx func65 (by kernel_rfl)
theorem U8:TX 66 gP:=tx func66 (by kernel_rfl)
theorem U9:TX 67 kL:=tx func67 (by kernel_rfl)
theorem Va:TX 68 jr:=tx func68 (by kernel_rfl)
theorem Vb:TX 69 pl:=tx func69 (by kernel_rfl)
theorem Vc:TX 74 eZ:=tx func74 (by kernel_rfl)
theorem Vd:TX 75 es:=tx func75 (by kernel_rfl)
theorem Ve:TX 76 rx:=tx func76 (by kernel_rfl)
theorem Vf:TX 77 wC:=tx func77 (by kernel_rfl)
theorem Vg:TX 79 qy:=tx func79 (by kernel_rfl)
theorem Vh:TX 80 cB:=tx func80 (by kernel_rfl)
theorem Vi:TX 81 cC:=tx func81 (by kernel_rfl)
theorem Vj:TX 82 bA:=tx func82 (by kernel_rfl)
theorem Vk:TX 83 bd:=tx func83 (by kernel_rfl)
theorem Vl:TX 84 dW:=tx func84 (by kernel_rfl)
theorem Vm:TX 85 aH:=tx func85 (by kernel_rfl)
theorem Vn:TX 86 kM:=tx func86 (by kernel_rfl)
theorem Vo:TX 87 bO:=tx func87 (by kernel_rfl)
theorem Vp:TX 88 cF:=tx func88 (by kernel_rfl)
theorem Vq:TX 89 kN:=tx func89 (by kernel_rfl)
theorem Vr:TX 90 ry:=tx func90 (by kernel_rfl)
theorem Vs:TX 91 fp:=tx func91 (by kernel_rfl)
theorem Vt:TX 92 dX:=tx func92 (by kernel_rfl)
theorem Vu:TX 93 iv:=tx func93 (by kernel_rfl)
theorem Vv:TX 96 cw:=tx func96 (by kernel_rfl)
theorem Vw:TX 97 lG:=tx func97 (by kernel_rfl)
theorem Vx:TX 98 oF:=tx func98 (by kernel_rfl)
theorem Vy:TX 99 dp:=tx func99 (by kernel_rfl)
theorem Rn:TX 100 gQ:=tx func100 (by kernel_rfl)
theorem Ro:TX 101 ei:=tx func101 (by kernel_rfl)
theorem Rq:TX 102 df:=tx func102 (by kernel_rfl)
theorem Rr:TX 103 cf:=tx func103 (by kernel_rfl)
theorem Rs:TX 106 fq:=tx func106 (by kernel_rfl)
theorem Ru:TX 107 wD:=tx func107 (by kernel_rfl)
theorem Rw:TX 108 rz:=tx func108 (by kernel_rfl)
theorem Rx:TX 109 qz:=tx func109 (by kernel_rfl)
theorem Ry:TX 111 gS:=tx func111 (by kernel_rfl)
theorem Rz:TX 112 jT:=tx func112 (by kernel_rfl)
theorem RA:TX 113 kq:=tx func113 (by kernel_rfl)
theorem RB:TX 115 gr:=tx func115 (by kernel_rfl)
theorem RE:TX 116 gT:=tx func116 (by kernel_rfl)
theorem RF:TX 117 jU:=tx func117 (by kernel_rfl)
theorem RG:TX 118 gU:=tx func118 (by kernel_rfl)
theorem RH:TX 119 rB:=tx func119 (by kernel_rfl)
theorem RI:TX 120 jV:=tx func120 (by kernel_rfl)
theorem RJ:TX 121 ij:=tx func121 (by kernel_rfl)
theorem RK:TX 122 lR:=tx func122 (by kernel_rfl)
theorem RL:TX 123 fO:=tx func123 (by kernel_rfl)
theorem RM:TX 124 cO:=tx func124 (by kernel_rfl)
theorem RN:TX 126 om:=tx func126 (by kernel_rfl)
theorem RP:TX 127 mZ:=tx func127 (by kernel_rfl)
theorem RQ:TX 128 kr:=tx func128 (by kernel_rfl)
theorem RR:TX 129 gE:=tx func129 (by kernel_rfl)
theorem RU:TX 130 ik:=tx func130 (by kernel_rfl)
theorem RW:TX 131 ix:=tx func131 (by kernel_rfl)
theorem RX:TX 132 fP:=tx func132 (by kernel_rfl)
theorem RY:TX 133 fQ:=tx func133 (by kernel_rfl)
theorem RZ:TX 134 oo:=tx func134 (by kernel_rfl)
theorem R1:TX 135 oq:=tx func135 (by kernel_rfl)
theorem R2:TX 136 iy:=tx func136 (by kernel_rfl)
theorem R4:TX 137 m5:=tx func137 (by kernel_rfl)
theorem R5:TX 138 il:=tx func138 (by kernel_rfl)
theorem R6:TX 139 uL:=tx func139 (by kernel_rfl)
theorem R7:TX 140 p5:=tx func140 (by kernel_rfl)
theorem R8:TX 141 mq:=tx func141 (by kernel_rfl)
theorem R9:TX 142 o8:=tx func142 (by kernel_rfl)
theorem Sa:TX 143 ge:=tx func143 (by kernel_rfl)
theorem Sb:TX 144 qA:=tx func144 (by kernel_rfl)
theorem Sc:TX 145 iz:=tx func145 (by kernel_rfl)
theorem Sd:TX 146 hP:=tx func146 (by kernel_rfl)
theorem Se:TX 147 gV:=tx func147 (by kernel_rfl)
theorem Sf:TX 148 fe:=tx func148 (by kernel_rfl)
theorem Sg:TX 149 ch:=tx func149 (by kernel_rfl)
theorem Si:TX 150 im:=tx func150 (by kernel_rfl)
theorem Sj:TX 152 iA:=tx func152 (by kernel_rfl)
theorem Sk:TX 153 ej:=tx func153 (by kernel_rfl)
theorem Sl:TX 154 iB:=tx func154 (by kernel_rfl)
theorem Sm:TX 155 kP:=tx func155 (by kernel_rfl)
theorem Sn:TX 156 m6:=tx func156 (by kernel_rfl)
theorem So:TX 157 ti:=tx func157 (by kernel_rfl)
theorem Sp:TX 158 gW:=tx func158 (by kernel_rfl)
theorem Sq:TX 159 wG:=tx func159 (by kernel_rfl)
theorem Sr:TX 160 m7:=tx func160 (by kernel_rfl)
theorem Ss:TX 161 k9:=tx func161 (by kernel_rfl)
theorem Su:TX 162 lI:=tx func162 (by kernel_rfl)
theorem Sv:TX 164 jX:=tx func164 (by kernel_rfl)
theorem Sw:TX 165 hU:=tx func165 (by kernel_rfl)
theorem Sx:TX 166 gj:=tx func166 (by kernel_rfl)
theorem Sy:TX 167 gX:=tx func167 (by kernel_rfl)
theorem Sz:TX 168 eK:=tx func168 (by kernel_rfl)
theorem SA:TX 169 cS:=tx func169 (by kernel_rfl)
theorem SB:TX 170 kS:=tx func170 (by kernel_rfl)
theorem SC:TX 171 lV:=tx func171 (by kernel_rfl)
theorem SD:TX 172 lW:=tx func172 (by kernel_rfl)
theorem SE:TX 173 fJ:=tx func173 (by kernel_rfl)
theorem SF:TX 174 tk:=tx func174 (by kernel_rfl)
theorem SG:TX 175 tl:=tx func175 (by kernel_rfl)
theorem SH:TX 176 fK:=tx func176 (by kernel_rfl)
theorem SI:TX 177 lg:=tx func177 (by kernel_rfl)
theorem SJ:TX 178 ia:=tx func178 (by kernel_rfl)
theorem SK:TX 179 tp:=tx func179 (by kernel_rfl)
theorem SL:TX 180 gY:=tx func180 (by kernel_rfl)
theorem SM:TX 181 gk:=tx func181 (by kernel_rfl)
theorem SN:TX 182 mr:=tx func182 (by kernel_rfl)
theorem SO:TX 185 lh:=tx func185 (by kernel_rfl)
set_option maxRecDepth 100000 in
theorem FF:∀ p ∈ NH,TX p.1 p.2:=tc Y9 (tc Za (tc Ux (tc Uy (tc Uz (tc UA (tc UB (tc UC (tc UD (tc UE (tc UF (tc UG (tc UH (tc UI (tc UJ (tc UK (tc UL (tc UM (tc UN (tc UO (tc UP (tc UQ (tc UR (tc US (tc UT (tc UU (tc UV (tc UW (tc UX (tc UY (tc UZ (tc U0 (tc U1 (tc U2 (tc U3 (tc U4 (tc U5 (tc U6 (tc U7 (tc U8 (tc U9 (tc Va (tc Vb (tc Vc (tc Vd (tc Ve (tc Vf (tc Vg (tc Vh (tc Vi (tc Vj (tc Vk (tc Vl (tc Vm (tc Vn (tc Vo (tc Vp (tc Vq (tc Vr (tc Vs (tc Vt (tc Vu (tc Vv (tc Vw (tc Vx (tc Vy (tc Rn (tc Ro (tc Rq (tc Rr (tc Rs (tc Ru (tc Rw (tc Rx (tc Ry (tc Rz (tc RA (tc RB (tc RE (tc RF (tc RG (tc RH (tc RI (tc RJ (tc RK (tc RL (tc RM (tc RN (tc RP (tc RQ (tc RR (tc RU (tc RW (tc RX (tc RY (tc RZ (tc R1 (tc R2 (tc R4 (tc R5 (tc R6 (tc R7 (tc R8 (tc R9 (tc Sa (tc Sb (tc Sc (tc Sd (tc Se (tc Sf (tc Sg (tc Si (tc Sj (tc Sk (tc Sl (tc Sm (tc Sn (tc So (tc Sp (tc Sq (tc Sr (tc Ss (tc Su (tc Sv (tc Sw (tc Sx (tc Sy (tc Sz (tc SA (tc SB (tc SC (tc SD (tc SE (tc SF (tc SG (tc SH (tc SI (tc SJ (tc SK (tc SL (tc SM (tc SN (tc SO (tn)))))))))))))))))))))))))))))))))))))))))))))))))))))))))))))))))))))))))))))))))))))))))))))))))))))))))))))))))))))))))))))))))))))))))))))))
end Go.Ab
