/-
  The statement BoundLinear holds of the given program: its card, with the tied table of bits.TrailingZeros32; no further conditions. Part D1.
-/
import Derived.Test.YtlfcbamejofhkaaGreatDoorC3
open Nat renaming reduceEqDiff → alS, reduceAdd → alT, reduceMul → alU, reduceLeDiff → alV, reduceLT → alW, reduceBEq → alX, reduceSub → al1, reduceMod → al3
open Int renaming reduceLT → alY, reduceToNat → alZ, reduceEq → al0, reduceLE → al2
namespace Go.Ab
open Go Go.IntWalk
set_option maxRecDepth 4000
set_option maxHeartbeats 1000000
def rR (a:Rp):Int:=if vp a=true then (match a.terms.getLast? with | none => -1 | some t=>bl t.exps) else -1
theorem qQ {a:Rp} (h:vp a=true):0≤a.vars∧a.vars≤8∧a.terms.length≤500∧nh a.vars none a.terms=true:=by
 simp only [vp,Bool.and_eq_true,decide_eq_true_eq] at h
 exact ⟨h.1,h.2.1,h.2.2.1,h.2.2.2⟩
theorem lM {a:Rp} (h:vp a=true) {t:Rt} (ht:t ∈ a.terms):sm t.exps∧(t.exps.length:Int)=a.vars∧vd t.c=true∧t.c.m.length ≠ 0∧bl t.exps≤32:=by
 obtain ⟨v1,v2,v3,v4⟩:=qQ h
 obtain ⟨c1,c2,c3,c4,c5⟩:=xq (V2 _ _ v4 t ht)
 exact ⟨⟨by omega,o7 c4⟩,c1,c2,c3,c5⟩
theorem Q6 {a:Rp} (ok:OkP a):R F.poly_Degree [a8 a] []=some (I (rR a),[]):=by
 refine aB FW FV (zM false) rfl ?_
 have hv:=xr ok
 unfold rR
 simp only [a8] at hv
 cases hb:vp a with
 | false =>
  rw [hb] at hv
  rw [if_neg Bool.false_ne_true]
  simp only [fX,mu,a8,go_sem,↓reduceIte,alS,alU,alT,alV,hv]
 | true =>
  rw [hb] at hv
  rw [if_pos rfl]
  obtain ⟨v1,v2,v3,v4⟩:=qQ hb
  by_cases h0:a.terms.length=0
  ·have e1:((a.terms.length:Int)=0)=True:=tt (by omega)
   have e4:a.terms.getLast?=none:=by
    rw [List.length_eq_zero_iff.1 h0]
    rfl
   rw [e4]
   simp only [fX,mu,a8,go_sem,↓reduceIte,alS,alU,alT,alV,hv,e1]
  ·have e1:((a.terms.length:Int)=0)=False:=ff (by omega)
   have e2:IntKind.i64.wrap ((a.terms.length:Int) - 1)=((a.terms.length - 1:Nat):Int):=by rw [i64_in] <;> omega
   have hlt:a.terms.length - 1 < a.terms.length:=by omega
   have e3:aN (cW a.terms) ((a.terms.length - 1:Nat):Int)=some (.ipt (cV a.terms[a.terms.length - 1])):=iM rfl (List.getElem?_eq_getElem hlt)
   have e4:a.terms.getLast?=some a.terms[a.terms.length - 1]:=by rw [List.getLast?_eq_getElem?,List.getElem?_eq_getElem hlt]
   obtain ⟨c1,c2,c3,c4,c5⟩:=lM hb (List.getElem_mem hlt)
   rw [e4]
   generalize a.terms[a.terms.length - 1]=t at e3 c1 c2 c3 c4 c5 ⊢
   have hd:=pV c1
   simp only [cV] at e3
   simp only [fX,mu,a8,go_sem,↓reduceIte,alS,alU,alT,alV,hv,e1,e2,e3,hd]
def jr (x:Int):List Int→Nat→Int
 | [],_ => -1
 | y::l,i=>if x=y then i else jr x l (i+1)
theorem Tx {l:List Int} (h2:l.length≤100000) (x:Int):∀ (k i:Nat),i+k=l.length→∀ (s:aj) (h:ac),s 0 = .sl 1 (dp l)→s 1=I x→s 7=I l.length→s 8=I i →
  ∃ hh,bm (au 0 [] (aq (ak R (ae false) bM) [0,1,7,8] [] s h)) (ak R (ae false) (.seq (.ops [4] [co 4 (.mv (.c (I (-1))))]) (.ret)))=some (.ret,⟨upd (fun _ => .any) 4 (I (jr x (l.drop i) i)),hh⟩):=by
 intro k
 induction k with
 | zero =>
  intro i hi s h h0 h1 h7 h8
  have e1:((i:Int) < l.length)=False:=ff (by omega)
  rw [List.drop_eq_nil_of_le (by omega),ao]
  refine ⟨?hh0,?_⟩
  rotate_left
  ·simp only [bM,jr,go_sem,↓reduceIte,alS,h0,h1,h7,h8,e1]
   rfl
 | succ k ih =>
  intro i hi s h h0 h1 h7 h8
  have hlt:i < l.length:=by omega
  have e1:((i:Int) < l.length)=True:=tt (by omega)
  have e2:aN (dp l) (i:Int)=some (.ipt [I l[i]]):=jP rfl (List.getElem?_eq_getElem hlt)
  have e5:IntKind.i64.wrap ((i:Int)+1)=((i+1:Nat):Int):=wi (by omega) (by omega)
  have ih':=ih (i+1) (by omega)
  rw [List.drop_eq_getElem_cons hlt,ao]
  unfold jr
  generalize aq _ _ _=L at ih' ⊢
  generalize l[i]=y at e2 ⊢
  by_cases hxy:x=y
  ·have e3:(x=y)=True:=tt hxy
   rw [if_pos hxy]
   refine ⟨?hh1,?_⟩
   rotate_left
   ·simp only [bM,go_sem,↓reduceIte,alS,h0,h1,h7,h8,e1,e2,e3]
    rfl
  ·have e3:(x=y)=False:=ff hxy
   rw [if_neg hxy]
   simp only [bM,go_sem,↓reduceIte,alS,h0,h1,h7,h8,e1,e2,e3,e5] at ih' ⊢
   exact ih' _ _ rfl rfl rfl rfl
theorem Ty {l:List Int} (h2:l.length≤100000) {x:Int}:R F.slices_Index_int_int_ [.sl 1 (dp l),I x] []=some (I (jr x l 0),[]):=by
 refine aB rX rW (qi false) rfl ?_
 have h:=Tx h2 x l.length 0 (Nat.zero_add _)
 simp only [List.drop_zero,Int.natCast_zero] at h
 have h':∀ (S:aj) (H:ac) (X:Option (Ex × St)),bm (au 0 [] (aq (ak R (ae false) bM) [0,1,7,8] [] S H)) (ak R (ae false) (.seq (.ops [4] [co 4 (.mv (.c (I (-1))))]) (.ret)))=X→S 0 = .sl 1 (dp l)→S 1=I x→S 7=I l.length→S 8=I 0→∃ hh,X=some (.ret,⟨upd (fun _ => .any) 4 (I (jr x l 0)),hh⟩):=fun S H X hX=>by
  rw [← hX]
  exact h S H
 simp only [d7,lN,go_sem,↓reduceIte,alS]
 generalize hB:bm (au 0 [] (aq _ _ _ _ _)) _=X
 obtain ⟨hh,h3⟩:=h' _ _ _ hB rfl rfl rfl rfl
 rw [h3]
 simp only [go_sem,↓reduceIte]
end Go.Ab
namespace Go.Ab
open Go Go.IntWalk
set_option maxRecDepth 4000
set_option maxHeartbeats 1000000
def Fu:Option Rd→List AV
 | none=>[B false,.emp,I 0]
 | some d=>am d
def kQ (l:List (Option Rd)):List (List AV):=l.map Fu
@[go_sem] theorem ai2 (l:List (Option Rd)):(kQ l).length=l.length:=by simp [kQ]
theorem Mj {l:List (Option Rd)} {i:Nat} {o:Option Rd} (h:l[i]?=some o):(kQ l)[i]?=some (Fu o):=by simp [kQ,h]
theorem Mk (l:List (Option Rd)) (i:Nat) (d:Rd):(kQ l).set i (am d)=kQ (l.set i (some d)):=by simp [kQ,List.map_set,Fu]
theorem Ml (n:Nat):List.replicate n [B false,.emp,I 0]=kQ (List.replicate n none):=by simp [kQ,Fu]
def Fv (l:List (Option Rd)):List Rd:=l.map fun o=>o.getD aH
theorem Mm (l:List (Option Rd)):(kQ l).map (b9 [.o 0 [],.o 2 [],.o 0 []])=iT (Fv l):=by
 simp only [kQ,Fv,iT,List.map_map]
 refine List.map_congr_left fun o _ => ?_
 cases o with
 | none=>simp only [Function.comp,Fu,am,aH,Option.getD,go_sem]
 | some d=>simp only [Function.comp,Fu,am,Option.getD,go_sem]
theorem Mn (o:Option Rd) (d:Rd):(((Fu o).set 0 (B d.neg)).set 1 (lm d.m)).set 2 (I d.e)=am d∧(3≤(Fu o).length)=True:=by
 cases o <;> exact ⟨rfl,tt (Nat.le_refl 3)⟩
def kR:List Rt→List (Option Rd)→List (Option Rd)
 | [],o=>o
 | t::l,o=>kR l (o.set (jr 1 t.exps 0+1).toNat (some t.c))
theorem Mo (x:Int):∀ (l:List Int) (i:Nat),-1≤jr x l i∧jr x l i < l.length+i
 | [],i=>by
  unfold jr
  simp only [List.length_nil]
  omega
 | y::l,i=>by
  unfold jr
  have:=Mo x l (i+1)
  simp only [List.length_cons]
  split <;> omega
theorem Tz {a:Rp} (hv:∀ t ∈ a.terms,(t.exps.length:Int)=a.vars) (h8:a.vars≤8) (h5:a.terms.length≤500):∀ (k i:Nat),i+k=a.terms.length→∀ (o:List (Option Rd)),(o.length:Int)=a.vars+1→∀ (s:aj) (h:ac),
  s 4 = .rsl 18 none 3 0 o.length→s 20 = .sl 4 (cW a.terms)→s 21=I a.terms.length→s 22=I i→h 1 = .bx [I a.vars,.sl 4 (cW a.terms)]  → h 18 = .ar 3 (kQ o) →
  ∃ hh,au 0 [4] (aq (ak R (ae false) fF) [4,20,21,22] [1,18] s h)=some (.normal,⟨upd (fun _ => .any) 4 (.rsl 18 none 3 0 o.length),hh⟩)∧hh 18 = .ar 3 (kQ (kR (a.terms.drop i) o)):=by
 intro k
 induction k with
 | zero =>
  intro i hi o ho s h h4 h20 h21 h22 k1 k18
  have e1:((i:Int) < a.terms.length)=False:=ff (by omega)
  rw [List.drop_eq_nil_of_le (by omega),ao]
  refine ⟨?hh0,?_,?_⟩
  rotate_left
  ·simp only [fF,go_sem,↓reduceIte,alS,alX,h4,h20,h21,h22,k1,k18,e1]
   rfl
  ·rfl
 | succ k ih =>
  intro i hi o ho s h h4 h20 h21 h22 k1 k18
  have hlt:i < a.terms.length:=by omega
  have e1:((i:Int) < a.terms.length)=True:=tt (by omega)
  have e2:aN (cW a.terms) (i:Int)=some (.ipt (cV a.terms[i])):=iM rfl (List.getElem?_eq_getElem hlt)
  have e5:IntKind.i64.wrap ((i:Int)+1)=((i+1:Nat):Int):=wi (by omega) (by omega)
  have c1:=hv a.terms[i] (List.getElem_mem hlt)
  rw [List.drop_eq_getElem_cons hlt,ao]
  have ih':=ih (i+1) (by omega)
  unfold kR
  generalize a.terms[i]=t at e2 c1 ⊢
  have hx:=Ty (l:=t.exps) (x:=1) (by omega)
  obtain ⟨x1,x2⟩:=Mo 1 t.exps 0
  have e6:IntKind.i64.wrap (jr 1 t.exps 0+1)=((jr 1 t.exps 0+1).toNat:Int):=by rw [i64_in] <;> omega
  generalize hn:(jr 1 t.exps 0+1).toNat=n at e6 ⊢
  have hn2:n < o.length:=by omega
  have e7:(0≤(n:Int))=True:=tt (by omega)
  have e8:((n:Int) < (o.length:Int))=True:=tt (by omega)
  have e9:=Mj (List.getElem?_eq_getElem hn2)
  obtain ⟨e10,e11⟩:=Mn o[n] t.c
  have ih2:=ih' (o.set n (some t.c)) (by rw [List.length_set]; exact ho)
  rw [List.length_set] at ih2
  generalize aq _ _ _=L at ih2 ⊢
  simp only [cV] at e2
  simp only [fF,go_sem,↓reduceIte,alS,alU,alT,alV,alW,alX,h4,h20,h21,h22,k1,k18,e1,e2,hx,e6,e7,e8,e9,e10,e11,e5,Mk,Int.toNat_natCast,Nat.zero_add]
  exact ih2 _ _ rfl rfl rfl rfl rfl rfl
theorem uW:∀ (l:List Rt) (o:List (Option Rd)),(kR l o).length=o.length
 | [],o=>rfl
 | t::l,o=>by
  unfold kR
  rw [uW l,List.length_set]
def oE (a:Rp):Bool:=vp a && decide (rR a≤1)
def kS (a:Rp):List Rd:=Fv (kR a.terms (List.replicate (a.vars.toNat+1) none))
def D8 (a:Rp):AV:=if oE a=true then .tup [bG (kS a),B true] else .tup [bG [],B false]
theorem Fw {a:Rp} (ok:OkP a):R F.bound_Linear [a8 a] []=some (D8 a,[]):=by
 refine aB Df De (yn false) rfl ?_
 have hv:=xr ok
 have hd:=Q6 ok
 unfold D8 oE
 simp only [a8] at hv hd
 cases hb:vp a with
 | false =>
  rw [hb] at hv
  rw [Bool.false_and,if_neg Bool.false_ne_true]
  simp only [fk,lg,a8,go_sem,↓reduceIte,alS,alU,alT,alV,hv,bG,iT]
 | true =>
  rw [hb] at hv
  rw [Bool.true_and]
  generalize hg:rR a=g at hd ⊢
  by_cases h1:g≤1
  ·have e1:(1 < g)=False:=ff (by omega)
   rw [if_pos (decide_eq_true h1)]
   obtain ⟨v1,v2,v3,v4⟩:=qQ hb
   have hl:=Tz (a:=a) (fun t ht=>(lM hb ht).2.1) v2 v3 a.terms.length 0 (Nat.zero_add _) (List.replicate (a.vars.toNat+1) none) (by rw [List.length_replicate]; omega)
   simp only [List.drop_zero,Int.natCast_zero,List.length_replicate] at hl
   have hl2:=uW a.terms (List.replicate (a.vars.toNat+1) none)
   have hn:=Mm (kR a.terms (List.replicate (a.vars.toNat+1) none))
   unfold kS
   generalize kR a.terms (List.replicate (a.vars.toNat+1) none)=O at hl hl2 hn ⊢
   rw [List.length_replicate] at hl2
   generalize hN:a.vars.toNat+1=N at hl hl2 ⊢
   have e2:IntKind.i64.wrap (a.vars+1)=(N:Int):=by rw [i64_in] <;> omega
   have e3:=fU (i:=(N:Int)) (j:=(N:Int)) (l:=N) (c:=N) rfl rfl (Nat.le_refl _) (by omega)
   have e4:(N*40≤140737488355328)=True:=tt (by omega)
   have e5:(0+N≤O.length)=True:=tt (by omega)
   have e6:(N=O.length)=True:=tt hl2.symm
   have h':∀ (S:aj) (H:ac) (X:Option (Ex × St)),au 0 [4] (aq (ak R (ae false) fF) [4,20,21,22] [1,18] S H)=X→S 4 = .rsl 18 none 3 0 N→S 20 = .sl 4 (cW a.terms)→S 21=I a.terms.length→S 22=I 0→H 1 = .bx [I a.vars,.sl 4 (cW a.terms)]→H 18 = .ar 3 (kQ (List.replicate N none)) →
     ∃ hh,X=some (.normal,⟨upd (fun _ => .any) 4 (.rsl 18 none 3 0 N),hh⟩)∧hh 18 = .ar 3 (kQ O):=fun S H X hX=>by
    rw [← hX]
    exact hl S H
   simp only [fk,lg,a8,go_sem,↓reduceIte,alS,alU,alT,alV,hv,hd,e1,e2,e3,e4,Ml]
   generalize hB:au 0 [4] (aq _ _ _ _ _)=X
   obtain ⟨hh,g0,g1⟩:=h' _ _ _ hB rfl rfl rfl rfl rfl rfl
   rw [g0]
   simp only [go_sem,↓reduceIte,alS,alV,alW,g1,e5,e6,hn,bG]
  ·have e1:(1 < g)=True:=tt (by omega)
   rw [if_neg (fun h=>h1 (of_decide_eq_true h))]
   simp only [fk,lg,a8,go_sem,↓reduceIte,alS,alU,alT,alV,hv,hd,e1,bG,iT]
end Go.Ab
namespace Go.Ab
open Go Go.IntWalk
set_option maxRecDepth 4000
set_option maxHeartbeats 1000000
def aY (a b:Rd):Rd × Int:=if (vd a && vd b)=true then dj (bL (zI a*zI b) (-32768)) else (aH,1)
def bC (a b:Rd):Rd × Int:=if (vd a && vd b)=true then dj (bL (zI a+zI b) (-16384)) else (aH,1)
theorem Mp {z f:Int}:vd (dj (bL z f)).1=true∧Ok0 (dj (bL z f)).1:=by
 unfold dj bL
 by_cases h:iS (af (ab (aV (decide (z < 0)) z.natAbs f).m)) (aV (decide (z < 0)) z.natAbs f).e=true
 ·rw [if_pos h]
  have hv:=x6 h
  have hb:=o4 (decide (z < 0)) z.natAbs f
  exact ⟨hv,hb,Nat.lt_of_le_of_lt (tL hv hb) (by decide)⟩
 ·rw [if_neg h]
  exact fe
theorem ni (a b:Rd):vd (aY a b).1=true∧Ok0 (aY a b).1:=by
 unfold aY
 split
 ·exact Mp
 ·exact fe
theorem tN (a b:Rd):vd (bC a b).1=true∧Ok0 (bC a b).1:=by
 unfold bC
 split
 ·exact Mp
 ·exact fe
theorem Mq {d:Rd} (h:vd d=true) (h0:d.m.length ≠ 0):ab d.m % 2=1:=by
 obtain ⟨h1,h2,h3,h4⟩:=pR h h0
 cases hm:d.m with
 | nil=>rw [hm] at h0; exact absurd rfl h0
 | cons x l =>
  rw [hm] at h2
  have h2':x % 2=1:=h2
  show (x+4294967296*ab l) % 2=1
  omega
theorem Jx {x y:Nat} (hx:x ≠ 0) (hy:y ≠ 0):af x+af y - 2 < af (x*y):=by
 have h1:=cS hx
 have h2:=cS hy
 have h3:2 ^ (af x - 1)≤x:=iK.1 (by omega)
 have h4:2 ^ (af y - 1)≤y:=iK.1 (by omega)
 rw [iK,show af x+af y - 2=(af x - 1)+(af y - 1) by omega,Nat.pow_add]
 exact Nat.mul_le_mul h3 h4
theorem Wf {a b:Rd} (oa:Ok0 a) (ob:Ok0 b):G8 a b=rV (aY a b):=by
 unfold G8 aY
 by_cases hv:vd a=true∧vd b=true
 ·obtain ⟨va,vb⟩:=hv
  rw [if_pos ⟨va,vb⟩,va,vb,Bool.true_and,if_pos rfl,← xw oa ob va vb]
  by_cases h0:a.m.length=0∨b.m.length=0
  ·rw [if_pos h0]
   have:ab a.m*ab b.m=0:=by
    rcases h0 with h0 | h0
    ·rw [List.length_eq_zero_iff.1 h0]
     exact Nat.zero_mul _
    ·rw [List.length_eq_zero_iff.1 h0]
     exact Nat.mul_zero _
   rw [this,cC]
   rfl
  ·rw [if_neg h0]
   have a0:a.m.length ≠ 0:=fun h=>h0 (.inl h)
   have b0:b.m.length ≠ 0:=fun h=>h0 (.inr h)
   have x0:=cU va a0
   have y0:=cU vb b0
   by_cases hb:4096 < af (ab a.m)+af (ab b.m) - 1
   ·rw [if_pos hb]
    have h1:=Jx x0 y0
    have ho:ab a.m*ab b.m % 2=1:=by rw [Nat.mul_mod,Mq va a0,Mq vb b0]
    have ht:=Yd ho 0
    rw [Nat.pow_zero,Nat.mul_one] at ht
    obtain ⟨g1,g2,g3,g4⟩:=o6 (neg:=a.neg != b.neg) (e:=a.e+b.e) (Nat.mul_ne_zero x0 y0)
    unfold dj
    rw [if_neg]
    ·rfl
    ·intro h2
     rw [g1,ht,Nat.pow_zero,Nat.div_one] at h2
     have h3:=(x4 h2 (by omega)).1
     omega
   ·rw [if_neg hb]
    exact DZ _
 ·rw [if_neg hv,if_neg]
  ·rfl
  ·intro h
   rw [Bool.and_eq_true] at h
   exact hv h
theorem Mr {a b:Rd} (oa:Ok0 a) (ob:Ok0 b):R F.dyadic_Mul [ai a,ai b] []=some (rV (aY a b),[]):=by
 rw [← Wf oa ob]
 exact VP oa ob
def Ms (m:Rd) (x:Ri):Rd:=if bU m < 0 then x.hi else x.lo
def Mt (m:Rd) (x:Ri):Rd:=if bU m < 0 then x.lo else x.hi
def OA (c:Rd) (a b:Rd × Int) (p:Int):Ri:=if a.2=0∧b.2=0 then uT (kL c a.1 p false) (kL c b.1 p true) else qr
def x7 (c m:Rd) (x:Ri) (p:Int):Ri:=OA c (aY m (Ms m x)) (aY m (Mt m x)) p
theorem Wg {c m:Rd} {x:Ri} (oc:Ok0 c) (om:Ok0 m) (vm:vd m=true) (ox:OkI x) {p:Int}:R F.bound_line [ai c,ai m,bv x,I p] []=some (bv (x7 c m x p),[]):=by
 refine aB It Is (BZ false) rfl ?_
 have hs:=AG om vm
 have hw:=Tl
 unfold x7 OA uT
 simp only [ai,am] at hs
 simp only [bv,bu,qr] at hw
 have key:∀ lo hi:Rd,lo=Ms m x→hi=Mt m x→Ok0 lo→Ok0 hi→iY false ch.rs ch.res 0 (ak R (ae false) ch.body (re [ai c,ai m,bv x,I p]) fun _ => .dead)=some (bv (if (aY m lo).2=0∧(aY m hi).2=0 then (if (kL c (aY m lo).1 p false).2=0∧(kL c (aY m hi).1 p true).2=0 then ⟨(kL c (aY m lo).1 p false).1,(kL c (aY m hi).1 p true).1,false⟩ else qr) else qr),[]):=by
  intro lo hi e1 e2 ol oh
  have h1:=Mr om ol
  have h2:=Mr om oh
  have o1:=(ni m lo).2
  have o2:=(ni m hi).2
  generalize aY m lo=A at h1 o1 ⊢
  generalize aY m hi=D at h2 o2 ⊢
  have h3:=Og oc o1 (p:=p)
  have h4:=Tf oc o2 (p:=p)
  generalize kL c A.1 p false=Y at h3 ⊢
  generalize kL c D.1 p true=Z at h4 ⊢
  obtain ⟨A1,A2⟩:=A
  obtain ⟨D1,D2⟩:=D
  obtain ⟨Y1,Y2⟩:=Y
  obtain ⟨Z1,Z2⟩:=Z
  unfold Ms at e1
  unfold Mt at e2
  simp only [rV,ai,am] at h1 h2 h3 h4
  have hc:((bU m < 0)=True∧lo=x.hi∧hi=x.lo)∨((bU m < 0)=False∧lo=x.lo∧hi=x.hi):=by
   by_cases hm:bU m < 0
   ·rw [if_pos hm] at e1 e2
    exact .inl ⟨tt hm,e1,e2⟩
   ·rw [if_neg hm] at e1 e2
    exact .inr ⟨ff hm,e1,e2⟩
  clear e1 e2
  rcases hc with ⟨e0,rfl,rfl⟩ | ⟨e0,rfl,rfl⟩
  all_goals
   by_cases a1:A2=0
   ·have f1:(A2=0)=True:=tt a1
    by_cases a2:D2=0
    ·have f2:(D2=0)=True:=tt a2
     rw [if_pos ⟨a1,a2⟩]
     by_cases a3:Y2=0
     ·have f3:(Y2=0)=True:=tt a3
      by_cases a4:Z2=0
      ·have f4:(Z2=0)=True:=tt a4
       rw [if_pos ⟨a3,a4⟩]
       simp only [ch,iv,ai,am,bv,bu,go_sem,↓reduceIte,alS,alU,alT,alV,alW,alX,hs,e0,h1,h2,h3,h4,f1,f2,f3,f4]
      ·have f4:(Z2=0)=False:=ff a4
       rw [if_neg (fun h=>a4 h.2)]
       simp only [ch,iv,ai,am,bv,bu,qr,go_sem,↓reduceIte,alS,alU,alT,alV,alW,alX,hs,e0,h1,h2,h3,h4,f1,f2,f3,f4,hw]
     ·have f3:(Y2=0)=False:=ff a3
      rw [if_neg (fun h=>a3 h.1)]
      simp only [ch,iv,ai,am,bv,bu,qr,go_sem,↓reduceIte,alS,alU,alT,alV,alW,alX,hs,e0,h1,h2,h3,h4,f1,f2,f3,hw]
    ·have f2:(D2=0)=False:=ff a2
     rw [if_neg (fun h=>a2 h.2)]
     simp only [ch,iv,ai,am,bv,bu,qr,go_sem,↓reduceIte,alS,alU,alT,alV,alW,alX,hs,e0,h1,h2,f1,f2,hw]
   ·have f1:(A2=0)=False:=ff a1
    rw [if_neg (fun h=>a1 h.1)]
    simp only [ch,iv,ai,am,bv,bu,qr,go_sem,↓reduceIte,alS,alU,alT,alV,alW,alX,hs,e0,h1,h2,f1,hw]
 by_cases hm:bU m < 0
 ·exact key _ _ rfl rfl (by unfold Ms; rw [if_pos hm]; exact ox.hi) (by unfold Mt; rw [if_pos hm]; exact ox.lo)
 ·exact key _ _ rfl rfl (by unfold Ms; rw [if_neg hm]; exact ox.lo) (by unfold Mt; rw [if_neg hm]; exact ox.hi)
end Go.Ab
namespace Go.Ab
open Go Go.IntWalk
set_option maxRecDepth 4000
set_option maxHeartbeats 1000000
theorem Mu:∀ (l:List Rt) (o:List (Option Rd)),(∀ t ∈ l,vd t.c=true∧Ok0 t.c)→(∀ x ∈ o,∀ d,x=some d→vd d=true∧Ok0 d)→∀ x ∈ kR l o,∀ d,x=some d→vd d=true∧Ok0 d
 | [],o,_,ho=>ho
 | t::l,o,hl,ho=>by
  unfold kR
  refine Mu l _ (fun u hu=>hl u (List.mem_cons_of_mem _ hu)) fun x hx d hd => ?_
  rcases List.mem_or_eq_of_mem_set hx with h | h
  ·exact ho x h d hd
  ·rw [h] at hd
   obtain rfl:=Option.some.inj hd
   exact hl t (List.mem_cons_self ..)
theorem Mv {a:Rp} (oa:OkP a) (hv:vp a=true):(∀ d ∈ kS a,vd d=true∧Ok0 d)∧(kS a).length=a.vars.toNat+1:=by
 constructor
 ·intro d hd
  simp only [kS,Fv,List.mem_map] at hd
  obtain ⟨o,ho,rfl⟩:=hd
  have:=Mu a.terms (List.replicate (a.vars.toNat+1) none) (fun t ht=>⟨(lM hv ht).2.2.1,(oa.t t ht).c⟩) (fun x hx d hd=>by
   rw [List.eq_of_mem_replicate hx] at hd
   exact nomatch hd) o ho
  cases o with
  | none=>exact fe
  | some d=>exact this d rfl
 ·simp [kS,Fv,uW]
theorem xz (a l):aN (a::l) 0=some (.ipt a):=by simp [aN]
theorem Jy (a b l):aN (a::b::l) 1=some (.ipt b):=by simp [aN]
theorem TA {a:Rp} {dom:List Ri} (oa:OkP a) (od:∀ x ∈ dom,OkI x) {p:Int} (hf:(rQ a dom && kM p)=true) (hl:oE a=true) (h1:a.vars=1) {c m:Rd} {x:Ri} (hlin:kS a=[c,m]) (hdom:dom=[x]) :
  R F.bound_Bernstein [a8 a,.sl 7 (dB dom),I p] []=some (bv (x7 c m x p),[]):=by
 refine aB yq yp (uH false) rfl ?_
 have h2:dom.length≤100000:=by rw [hdom]; exact (by decide:1≤100000)
 have hf1:=V1 oa od h2 (p:=p)
 rw [hf] at hf1
 have hL:=Fw oa
 unfold D8 at hL
 rw [if_pos hl,hlin] at hL
 have hv:vp a=true:=by
  simp only [oE,Bool.and_eq_true] at hl
  exact hl.1
 obtain ⟨k1,k2⟩:=Mv oa hv
 rw [hlin] at k1
 have kc:=k1 c (List.mem_cons_self ..)
 have km:=k1 m (List.mem_cons_of_mem _ (List.mem_cons_self ..))
 have hn:=Wg kc.2 km.2 km.1 (od x (by rw [hdom]; exact List.mem_cons_self ..)) (p:=p)
 generalize x7 c m x p=z at hn ⊢
 subst hdom
 have e1:(a.vars=1)=True:=tt h1
 simp only [a8,dB,List.map_cons,List.map_nil,bu] at hf1 hL
 simp only [bG,iT,List.map_cons,List.map_nil,am] at hL
 simp only [ai,am,bv,bu] at hn
 simp only [gQ,qm,a8,dB,List.map_cons,List.map_nil,bv,bu,go_sem,↓reduceIte,alS,alU,alT,alV,alW,hf1,hL,hn,e1,xz,Jy]
end Go.Ab
namespace Go.Ab
open Go Go.IntWalk
set_option maxRecDepth 4000
def jF (x:Rd):Nat→Rd→Option Rd
 | 0,c=>some c
 | n+1,c=>if (aY c x).2=0 then jF x n (aY c x).1 else none
def ip:List Int→List Rd→Rd→Option Rd
 | e::es,x::xs,c=>(jF x e.toNat c).bind fun d=>ip es xs d
 | _,_,c=>some c
def fR (xs:List Rd):List Rt→Rd→Rd × Int
 | [],s=>(s,0)
 | t::l,s=>match ip t.exps xs t.c with
  | none=>(aH,9)
  | some d=>if (bC s d).2=0 then fR xs l (bC s d).1 else (aH,9)
def TB (a:Rp) (xs:List Rd):Bool:=vp a && (decide ((xs.length:Int)=a.vars) && xs.all vd)
def fS (a:Rp) (xs:List Rd):Rd × Int:=if TB a xs=true then fR xs a.terms aH else (aH,1)
theorem Mw {z:Int} {j:Nat} (h:(dj (bL z (-16384 - j))).2=0):zI (dj (bL z (-16384 - j))).1*2 ^ j=z:=by
 unfold dj at h ⊢
 by_cases hr:iS (af (ab (bL z (-16384 - j)).m)) (bL z (-16384 - j)).e=true
 ·rw [if_pos hr]
  show zI (bL z (-16384 - j))*2 ^ j=z
  unfold bL at hr ⊢
  by_cases h0:z.natAbs=0
  ·rw [h0,cC]
   have:z=0:=by omega
   rw [this,iL rfl,Int.zero_mul]
  ·obtain ⟨g1,g2,g3,g4⟩:=o6 (neg:=decide (z < 0)) (e := -16384 - (j:Int)) h0
   obtain ⟨t1,t2⟩:=m9 h0
   have hp:af (ab (aV (decide (z < 0)) z.natAbs (-16384 - j)).m) ≠ 0:=by
    rw [g1]
    exact Nat.pos_iff_ne_zero.1 (cS (by omega))
   have he:=x4 hr hp
   rw [g2] at he
   rw [fB h0]
   unfold zI mg
   rw [aD]
   have ht:(-16384 - (j:Int)+(tz z.natAbs:Nat)+16384).toNat+j=tz z.natAbs:=by omega
   generalize (-16384 - (j:Int)+(tz z.natAbs:Nat)+16384).toNat=k at ht ⊢
   have hm:(((z.natAbs / 2 ^ tz z.natAbs*2 ^ k:Nat):Int))*2 ^ j=z.natAbs:=by
    have:z.natAbs / 2 ^ tz z.natAbs*2 ^ k*2 ^ j=z.natAbs:=by
     rw [Nat.mul_assoc,← Nat.pow_add,ht,Nat.mul_comm]
     exact t1.symm
    have h3:=congrArg (Nat.cast (R:=Int)) this
    rw [Int.natCast_mul,Int.natCast_pow] at h3
    exact h3
   show (if decide (z < 0)=true then -(((z.natAbs / 2 ^ tz z.natAbs*2 ^ k:Nat):Int)) else ((z.natAbs / 2 ^ tz z.natAbs*2 ^ k:Nat):Int))*2 ^ j=z
   by_cases hz:z < 0
   ·rw [decide_eq_true hz,if_pos rfl,Int.neg_mul,hm]
    omega
   ·rw [decide_eq_false hz,if_neg Bool.false_ne_true,hm]
    omega
 ·rw [if_neg hr] at h
  exact absurd h (show ((9:Int)=0)→False by decide)
theorem D9 {a b:Rd} (h:(bC a b).2=0):zI (bC a b).1=zI a+zI b:=by
 unfold bC at h ⊢
 split at h
 ·rename_i h1
  rw [if_pos h1]
  have:=Mw (z:=zI a+zI b) (j:=0) h
  rw [Int.pow_zero,Int.mul_one] at this
  exact this
 ·exact absurd h (show ((1:Int)=0)→False by decide)
theorem Mx {a b:Rd} (h:(aY a b).2=0):zI (aY a b).1*2 ^ 16384=zI a*zI b:=by
 unfold aY at h ⊢
 split at h
 ·rename_i h1
  rw [if_pos h1]
  exact Mw (z:=zI a*zI b) (j:=16384) h
 ·exact absurd h (show ((1:Int)=0)→False by decide)
theorem Fx {c a:Rd} (vc:vd c=true) (va:vd a=true) {p:Int} (hp:kM p=true) {up:Bool} (h:(bC c a).2=0):kL c a p up=qk (bC c a).1 p up:=by
 have hz:=D9 h
 have hv:=(tN c a).1
 generalize bC c a=s at hz hv ⊢
 have hp2:8≤p∧p≤512:=by
  simp only [kM,Bool.and_eq_true,decide_eq_true_eq] at hp
  exact hp
 unfold kL qk bj
 simp only [List.all_cons,List.all_nil,vc,va,hv,Bool.and_true,if_pos,if_pos hp2,hz]
def rS (x:Ri) (p:Int):Ri:=if (kM p && kI x)=true then uT (qk x.lo p false) (qk x.hi p true) else qr
def Jz (a b:Rd):Ri:=if 0 < bw (zI a) (zI b) then ⟨b,a,false⟩ else ⟨a,b,false⟩
theorem OB {a b:Rd} (va:vd a=true) (vb:vd b=true) (h:zI a≤zI b):kI ⟨a,b,false⟩=true:=by
 simp [kI,vi,va,vb,h]
theorem OC {c m:Rd} {x:Ri} (vc:vd c=true) (vm:vd m=true) (kx:kI x=true) {p:Int} (hp:kM p=true) (h0:(aY m x.lo).2=0) (h1:(aY m x.hi).2=0) (g0:(bC c (aY m x.lo).1).2=0) (g1:(bC c (aY m x.hi).1).2=0) :
  x7 c m x p=rS (Jz (bC c (aY m x.lo).1).1 (bC c (aY m x.hi).1).1) p:=by
 have hx:zI x.lo≤zI x.hi:=by
  simp only [kI,vi,Bool.and_eq_true,Bool.not_eq_true'] at kx
  rw [kx.1] at kx
  simp at kx
  exact kx.2.2
 have z0:=Mx h0
 have z1:=Mx h1
 have y0:=D9 g0
 have y1:=D9 g1
 obtain ⟨v0,o0⟩:=ni m x.lo
 obtain ⟨v1,o1⟩:=ni m x.hi
 obtain ⟨w0,q0⟩:=tN c (aY m x.lo).1
 obtain ⟨w1,q1⟩:=tN c (aY m x.hi).1
 have r0:=fun up=>Fx (p:=p) (up:=up) vc v0 hp g0
 have r1:=fun up=>Fx (p:=p) (up:=up) vc v1 hp g1
 have hpow:(0:Int) < 2 ^ 16384:=Int.pow_pos (by decide)
 generalize (2:Int) ^ 16384=T at z0 z1 hpow
 unfold x7 OA rS Jz Ms Mt bw
 rw [hp,Bool.true_and]
 by_cases hm:bU m < 0
 ·rw [if_pos hm,if_pos hm,if_pos ⟨h1,h0⟩,r0,r1]
  have hz:zI m < 0:=(Q1 vm).2.1 hm
  have hle:zI (aY m x.hi).1≤zI (aY m x.lo).1:=by
   have h2:zI m*zI x.hi≤zI m*zI x.lo:=Int.mul_le_mul_of_nonpos_left (by omega) hx
   rw [← z0,← z1] at h2
   exact Int.le_of_mul_le_mul_right h2 hpow
  generalize bC c (aY m x.lo).1=s0 at g0 y0 w0 q0 ⊢
  generalize bC c (aY m x.hi).1=s1 at g1 y1 w1 q1 ⊢
  by_cases he:zI s1.1 < zI s0.1
  ·rw [if_pos (show (0:Int) < if zI s0.1 < zI s1.1 then -1 else if zI s1.1 < zI s0.1 then 1 else 0 by
    rw [if_neg (by omega),if_pos he]
    decide),if_pos (OB w1 w0 (by omega))]
  ·have hs:s1.1=s0.1:=Yh q1 q0 w1 w0 (by omega)
   rw [hs,if_neg (Int.lt_irrefl _),if_neg (Int.lt_irrefl _),if_neg (Int.lt_irrefl _),if_pos (OB w0 w0 (Int.le_refl _))]
 ·rw [if_neg hm,if_neg hm,if_pos ⟨h0,h1⟩,r0,r1]
  have hz:0≤zI m:=Int.not_lt.1 fun h=>hm ((Q1 vm).2.2 h)
  have hle:zI (aY m x.lo).1≤zI (aY m x.hi).1:=by
   have h2:zI m*zI x.lo≤zI m*zI x.hi:=Int.mul_le_mul_of_nonneg_left hx hz
   rw [← z0,← z1] at h2
   exact Int.le_of_mul_le_mul_right h2 hpow
  generalize bC c (aY m x.lo).1=s0 at g0 y0 w0 q0 ⊢
  generalize bC c (aY m x.hi).1=s1 at g1 y1 w1 q1 ⊢
  rw [if_neg (show ¬ (0:Int) < if zI s0.1 < zI s1.1 then -1 else if zI s1.1 < zI s0.1 then 1 else 0 from fun h=>by
   rw [if_neg (show ¬ zI s1.1 < zI s0.1 by omega)] at h
   split at h
   ·exact absurd h (by decide)
   ·exact absurd h (by decide)),if_pos (OB w0 w1 (by omega))]
theorem pW {c:Rd} (oc:Ok0 c) (vc:vd c=true):bC aH c=(c,0)∧bC c aH=(c,0):=by
 have hr:iS (af (ab c.m)) c.e=true:=by
  by_cases h0:c.m.length=0
  ·rw [qU vc h0]
   decide
  ·exact (pR vc h0).2.2.2
 have h1:dj (bL (zI c) (-16384))=(c,0):=by
  rw [qX oc vc]
  unfold dj
  rw [if_pos hr]
 have hz:zI aH=0:=iL rfl
 unfold bC
 rw [vc,fe.1,hz,Int.zero_add,Int.add_zero,h1]
 exact ⟨rfl,rfl⟩
theorem Fy {y:Rd} (vy:vd y=true):aY aH y=(aH,0):=by
 unfold aY
 rw [vy,fe.1,iL (d:=aH) rfl,Int.zero_mul]
 show dj (bL 0 (-32768))=_
 unfold bL
 rw [show (0:Int).natAbs=0 from rfl,cC]
 rfl
theorem Yk {q t:List Int} (h:jp q t < 0):bl q≤bl t:=by
 unfold jp bw at h
 by_cases h1:bl q < bl t
 ·omega
 ·by_cases h2:bl t < bl q
  ·rw [if_neg h1,if_pos h2,if_neg (by decide)] at h
   exact absurd h (by decide)
  ·omega
theorem My {v:Int}:∀ (l:List Rt) (pr:Option Rt),nh v pr l=true→∀ u ∈ l.getLast?,∀ t ∈ l,bl t.exps≤bl u.exps
 | [],_,_,u,hu,_,_=>nomatch hu
 | [t],_,_,u,hu,w,hw=>by
  rw [List.mem_singleton.1 hw]
  have:t=u:=by simpa using hu
  rw [this]
  exact Int.le_refl _
 | t::s::l,pr,h,u,hu,w,hw=>by
  have h2:nh v (some t) (s::l)=true:=by
   unfold nh at h
   simp only [Bool.and_eq_true] at h
   exact h.2.2
  have hu2:u ∈ (s::l).getLast?:=by simpa using hu
  have ih:=My (s::l) (some t) h2 u hu2
  rcases List.mem_cons.1 hw with h3 | h3
  ·rw [h3]
   unfold nh at h2
   simp only [Bool.and_eq_true] at h2
   have h4:jp t.exps s.exps < 0:=of_decide_eq_true h2.2.1
   exact Int.le_trans (Yk h4) (ih s (List.mem_cons_self ..))
  ·exact ih w h3
theorem Ea {a:Rp} (h:oE a=true):vp a=true∧∀ t ∈ a.terms,bl t.exps≤1:=by
 simp only [oE,Bool.and_eq_true,decide_eq_true_eq] at h
 refine ⟨h.1,fun t ht => ?_⟩
 have h2:=h.2
 unfold rR at h2
 rw [if_pos h.1] at h2
 cases hl:a.terms.getLast? with
 | none=>rw [List.getLast?_eq_none_iff.1 hl] at ht; exact nomatch ht
 | some u =>
  rw [hl] at h2
  exact Int.le_trans (My a.terms none (qQ h.1).2.2.2 u (by rw [hl]; rfl) t ht) h2
theorem Wh {t:Rt} (h:(t.exps.length:Int)=1):∃ e,t.exps=[e]:=by
 match t.exps,h with
 | [e],_=>exact ⟨e,rfl⟩
 | [],h=>exact absurd h (by decide)
 | _::_::l,h=>simp only [List.length_cons] at h; omega
theorem AR {e:Int} {y c:Rd}:ip [e] [y] c=jF y e.toNat c:=by
 unfold ip
 cases jF y e.toNat c with
 | none=>rfl
 | some d=>rfl
theorem JA {a:Rp} (oa:OkP a) (hl:oE a=true) (h1:a.vars=1) {c m:Rd} (hlin:kS a=[c,m]) {y:Rd} (vy:vd y=true) (_oy:Ok0 y):fS a [y]=if (aY m y).2=0 then bC c (aY m y).1 else (aH,9):=by
 obtain ⟨hv,hd⟩:=Ea hl
 obtain ⟨v1,v2,v3,v4⟩:=qQ hv
 have hx:∀ t ∈ a.terms,∃ e,t.exps=[e]∧(e=0∨e=1):=fun t ht=>by
  obtain ⟨s1,s2,s3,s4,s5⟩:=lM hv ht
  obtain ⟨e,he⟩:=Wh (s2.trans h1)
  have h2:=hd t ht
  have h3:=s1.2 e (by rw [he]; exact List.mem_cons_self ..)
  rw [he] at h2
  have h4:bl [e]=e:=by simp [bl]
  exact ⟨e,he,by omega⟩
 have hc:∀ t ∈ a.terms,vd t.c=true∧Ok0 t.c:=fun t ht=>⟨(lM hv ht).2.2.1,(oa.t t ht).c⟩
 unfold fS TB
 rw [hv,h1,Bool.true_and,if_pos (by simp [vy])]
 unfold kS at hlin
 rw [h1] at hlin
 have lt1:∀ {e f:Int},jp [e] [f] < 0→(e=0∨e=1)→(f=0∨f=1)→e=0∧f=1:=by
  intro e f h he hf
  rcases he with rfl | rfl <;> rcases hf with rfl | rfl
  ·exact absurd h (by decide)
  ·exact ⟨rfl,rfl⟩
  ·exact absurd h (by decide)
  ·exact absurd h (by decide)
 have i0:jr 1 [0] 0 = -1:=by decide
 have i1:jr 1 [1] 0=0:=by decide
 have hm:∀ d:Rd,(aY d y).2 ≠ 0→aY d y=aY d y:=fun _ _=>rfl
 match ht:a.terms with
 | [] =>
  rw [ht] at hlin
  have h2:([aH,aH]:List Rd)=[c,m]:=hlin
  injection h2 with h2 h3
  injection h3 with h3
  subst h2
  subst h3
  rw [Fy vy,if_pos rfl]
  show (aH,(0:Int))=bC aH aH
  rw [(pW fe.2 fe.1).1]
 | [t] =>
  rw [ht] at hlin hx hc
  obtain ⟨e,he,h01⟩:=hx t (List.mem_cons_self ..)
  obtain ⟨vt,ot⟩:=hc t (List.mem_cons_self ..)
  unfold fR
  rw [he,AR]
  rcases h01 with rfl | rfl
  ·have h2:([t.c,aH]:List Rd)=[c,m]:=by
    rw [← hlin]
    simp [kR,he,i0,Fv]
   injection h2 with h2 h3
   injection h3 with h3
   subst h2
   subst h3
   rw [Fy vy,if_pos rfl,(pW ot vt).2]
   show (if (bC aH t.c).2=0 then fR [y] [] (bC aH t.c).1 else (aH,9))=_
   rw [(pW ot vt).1,if_pos rfl]
   rfl
  ·have h2:([aH,t.c]:List Rd)=[c,m]:=by
    rw [← hlin]
    simp [kR,he,i1,Fv]
   injection h2 with h2 h3
   injection h3 with h3
   subst h2
   subst h3
   obtain ⟨vm,om⟩:=ni t.c y
   show (match (if (aY t.c y).2=0 then some (aY t.c y).1 else none) with | none=>(aH,(9:Int)) | some d=>if (bC aH d).2=0 then fR [y] [] (bC aH d).1 else (aH,9))=_
   by_cases h4:(aY t.c y).2=0
   ·rw [if_pos h4,if_pos h4]
    show (if (bC aH (aY t.c y).1).2=0 then fR [y] [] (bC aH (aY t.c y).1).1 else (aH,9))=_
    rw [(pW om vm).1,if_pos rfl]
    rfl
   ·rw [if_neg h4,if_neg h4]
 | [t,u] =>
  rw [ht] at hlin hx hc v4
  obtain ⟨e,he,h01⟩:=hx t (List.mem_cons_self ..)
  obtain ⟨f,hf,h02⟩:=hx u (List.mem_cons_of_mem _ (List.mem_cons_self ..))
  obtain ⟨vt,ot⟩:=hc t (List.mem_cons_self ..)
  obtain ⟨vu,ou⟩:=hc u (List.mem_cons_of_mem _ (List.mem_cons_self ..))
  have ho:jp [e] [f] < 0:=by
   unfold nh at v4
   simp only [Bool.and_eq_true] at v4
   have h2:=v4.2.2
   unfold nh at h2
   simp only [Bool.and_eq_true] at h2
   have h3:jp t.exps u.exps < 0:=of_decide_eq_true h2.2.1
   rw [he,hf] at h3
   exact h3
  obtain ⟨rfl,rfl⟩:=lt1 ho h01 h02
  have h2:([t.c,u.c]:List Rd)=[c,m]:=by
   rw [← hlin]
   simp [kR,he,hf,i0,i1,Fv]
  injection h2 with h2 h3
  injection h3 with h3
  subst h2
  subst h3
  unfold fR
  rw [he,AR]
  show (if (bC aH t.c).2=0 then fR [y] [u] (bC aH t.c).1 else (aH,9))=_
  rw [(pW ot vt).1,if_pos rfl]
  unfold fR
  rw [hf,AR]
  show (match (if (aY u.c y).2=0 then some (aY u.c y).1 else none) with | none=>(aH,(9:Int)) | some d=>if (bC t.c d).2=0 then fR [y] [] (bC t.c d).1 else (aH,9))=_
  by_cases h4:(aY u.c y).2=0
  ·rw [if_pos h4,if_pos h4]
   show (if (bC t.c (aY u.c y).1).2=0 then ((bC t.c (aY u.c y).1).1,(0:Int)) else (aH,9))=_
   by_cases h5:(bC t.c (aY u.c y).1).2=0
   ·rw [if_pos h5]
    exact Prod.ext rfl h5.symm
   ·rw [if_neg h5]
    obtain ⟨vm,om⟩:=ni u.c y
    unfold bC at h5 ⊢
    rw [vt,vm,Bool.true_and,if_pos rfl] at h5 ⊢
    unfold dj at h5 ⊢
    split
    ·rename_i h6
     rw [if_pos h6] at h5
     exact absurd rfl h5
    ·rfl
  ·rw [if_neg h4,if_neg h4]
 | t::u::w::l =>
  exfalso
  rw [ht] at hx v4
  obtain ⟨e,he,h01⟩:=hx t (List.mem_cons_self ..)
  obtain ⟨f,hf,h02⟩:=hx u (List.mem_cons_of_mem _ (List.mem_cons_self ..))
  obtain ⟨g,hg,h03⟩:=hx w (List.mem_cons_of_mem _ (List.mem_cons_of_mem _ (List.mem_cons_self ..)))
  unfold nh at v4
  simp only [Bool.and_eq_true] at v4
  have h2:=v4.2.2
  unfold nh at h2
  simp only [Bool.and_eq_true] at h2
  have h3:jp t.exps u.exps < 0:=of_decide_eq_true h2.2.1
  have h4:=h2.2.2
  unfold nh at h4
  simp only [Bool.and_eq_true] at h4
  have h5:jp u.exps w.exps < 0:=of_decide_eq_true h4.2.1
  rw [he,hf] at h3
  rw [hf,hg] at h5
  have h6:=lt1 h3 h01 h02
  have h7:=lt1 h5 h02 h03
  omega
end Go.Ab
namespace Go.Ab
open Go Go.IntWalk
set_option maxRecDepth 4000
set_option maxHeartbeats 1000000
theorem zk {d:Rd} (ok:Ok0 d):R F.r02_Checked [ai d] []=some (rV (if vd d=true then (d,0) else (aH,9)),[]):=by
 refine aB Gj Gi (zV false) rfl ?_
 have hv:=fg ok
 simp only [ai,am] at hv
 cases hb:vd d with
 | false =>
  rw [hb] at hv
  rw [if_neg Bool.false_ne_true]
  simp only [iy,p9,rV,ai,am,aH,go_sem,↓reduceIte,alS,alU,alT,alV,hv]
 | true =>
  rw [hb] at hv
  rw [if_pos rfl]
  simp only [iy,p9,rV,ai,am,go_sem,↓reduceIte,alS,alU,alT,alV,hv]
theorem JB (z f:Int):(if vd (bL z f)=true then (bL z f,(0:Int)) else (aH,9))=dj (bL z f):=by
 unfold dj
 by_cases h:iS (af (ab (bL z f).m)) (bL z f).e=true
 ·rw [if_pos h,if_pos (show vd (bL z f)=true from x6 h)]
 ·rw [if_neg h,if_neg]
  intro h2
  by_cases h0:(bL z f).m.length=0
  ·rw [qU h2 h0] at h
   exact h (by decide)
  ·exact h (pR h2 h0).2.2.2
theorem Wi {z f:Int} {k:Nat} (h:af z.natAbs≤32*k) (hk:k≤100000):Ok0 (bL z f) :=
 ⟨o4 _ _ _,Nat.lt_of_le_of_lt (rM (k:=k) h) (by omega)⟩
theorem Wj {a b:Rd} (oa:Ok0 a) (ob:Ok0 b):R F.r02_Mul [ai a,ai b] []=some (rV (aY a b),[]):=by
 refine aB P4 P3 (IC false) rfl ?_
 have ha:=fg oa
 have hb:=fg ob
 unfold aY
 simp only [ai,am] at ha hb
 cases va:vd a with
 | false =>
  rw [va] at ha
  rw [Bool.false_and,if_neg Bool.false_ne_true]
  simp only [lu,sk,rV,ai,am,aH,go_sem,↓reduceIte,alS,alU,alT,alV,ha]
 | true =>
  rw [va] at ha
  cases vb:vd b with
  | false =>
   rw [vb] at hb
   rw [Bool.true_and,if_neg Bool.false_ne_true]
   simp only [lu,sk,rV,ai,am,aH,go_sem,↓reduceIte,alS,alU,alT,alV,ha,hb]
  | true =>
   rw [vb] at hb
   rw [Bool.true_and,if_pos rfl]
   have hp:=Ly oa ob va vb
   rw [xw oa ob va vb] at hp
   have hl:Ok0 (bL (zI a*zI b) (-32768)):=by
    rw [← xw oa ob va vb]
    have h1:=rL (ab a.m) (ab b.m)
    obtain ⟨_,_,_,h2⟩:=dS va oa.lb
    obtain ⟨_,_,_,h3⟩:=dS vb ob.lb
    exact ⟨o4 _ _ _,Nat.lt_of_le_of_lt (rM (k:=256) (by omega)) (by decide)⟩
   have hc:=zk hl
   rw [JB] at hc
   generalize dj (bL (zI a*zI b) (-32768))=r at hc ⊢
   generalize bL (zI a*zI b) (-32768)=d at hp hc
   simp only [rV,ai,am] at hp hc
   simp only [lu,sk,rV,ai,am,go_sem,↓reduceIte,alS,alU,alT,alV,ha,hb,hp,hc]
theorem Wk {a b:Rd} (oa:Ok0 a) (ob:Ok0 b):R F.r02_Add [ai a,ai b] []=some (rV (bC a b),[]):=by
 refine aB PY PX (Iu false) rfl ?_
 have ha:=fg oa
 have hb:=fg ob
 unfold bC
 simp only [ai,am] at ha hb
 cases va:vd a with
 | false =>
  rw [va] at ha
  rw [Bool.false_and,if_neg Bool.false_ne_true]
  simp only [lk,sf,rV,ai,am,aH,go_sem,↓reduceIte,alS,alU,alT,alV,ha]
 | true =>
  rw [va] at ha
  cases vb:vd b with
  | false =>
   rw [vb] at hb
   rw [Bool.true_and,if_neg Bool.false_ne_true]
   simp only [lk,sf,rV,ai,am,aH,go_sem,↓reduceIte,alS,alU,alT,alV,ha,hb]
  | true =>
   rw [vb] at hb
   rw [Bool.true_and,if_pos rfl]
   have hp:=Mg oa ob va vb
   have hl:Ok0 (bL (zI a+zI b) (-16384)):=Wi (k:=2000) (Nat.le_trans (Ci (Mi oa va) (Mi ob vb)) (by decide)) (by decide)
   have hc:=zk hl
   rw [JB] at hc
   generalize dj (bL (zI a+zI b) (-16384))=r at hc ⊢
   generalize bL (zI a+zI b) (-16384)=d at hp hc
   simp only [rV,ai,am] at hp hc
   simp only [lk,sf,rV,ai,am,go_sem,↓reduceIte,alS,alU,alT,alV,ha,hb,hp,hc]
theorem TC {a b:Rd} (h:(aY a b).2 ≠ 0):(aY a b).1=aH:=by
 unfold aY dj at h ⊢
 split
 ·rename_i h1
  rw [if_pos h1] at h
  split
  ·rename_i h2
   rw [if_pos h2] at h
   exact absurd rfl h
  ·rfl
 ·rfl
def mo (x:Rd) (n:Nat) (c:Rd):Rd × Bool:=match jF x n c with
 | some d=>(d,true)
 | none=>(aH,false)
theorem OD {x:Rd} (ox:Ok0 x):∀ (n:Nat),n≤100000→∀ (c:Rd),Ok0 c→∀ (s:aj) (h:ac),s 2=I n→s 3 = .ref 3 none 0 0 0→s 4 = .ref 4 none 0 0 0→s 6 = .ref 6 none 0 0 0→h 3 = .bx (am c)→h 4 = .bx (am x)→h 6 = .bx [B false,.emp,I 0] →
  ∃ hh,bm (au 0 [3,6] (aq (ak R (ae false) fY) [2,3,4,6] [3,4,6] s h)) (ak R (ae false) (.seq (.ops [6,7] [la 22 3 3,sr 3 (.t 6) (.t 22),co 7 (.mv (.c (B true)))]) (.ret)))=some (.ret,⟨upd (upd (fun _ => .any) 7 (B (mo x n c).2)) 6 (.ref 6 none 0 0 0),hh⟩)∧hh 6 = .bx (am (mo x n c).1):=by
 intro n
 induction n with
 | zero =>
  intro _ c oc s h h2 h3 h4 h6 k3 k4 k6
  have e1:(0 < ((0:Nat):Int))=False:=ff (by omega)
  rw [ao]
  simp only [am] at k3 k4
  refine ⟨?hh0,?_,?_⟩
  rotate_left
  ·simp only [fY,mo,jF,go_sem,↓reduceIte,alS,alU,alT,alV,alX,h2,h3,h4,h6,k3,k4,k6,e1]
   rfl
  ·rfl
 | succ n ih =>
  intro hn c oc s h h2 h3 h4 h6 k3 k4 k6
  have e1:(0 < ((n+1:Nat):Int))=True:=tt (by omega)
  have e5:IntKind.i64.wrap (((n+1:Nat):Int) - 1)=(n:Int):=by rw [i64_in] <;> omega
  have hm:=Wj oc ox
  have he:=TC (a:=c) (b:=x)
  have om:=(ni c x).2
  rw [ao]
  unfold mo jF
  by_cases h0:(aY c x).2=0
  ·have ih':=ih (by omega) (aY c x).1 om
   rw [if_pos h0]
   unfold mo at ih'
   generalize aq _ _ _=L at ih' ⊢
   generalize aY c x=r at hm h0 ih' ⊢
   obtain ⟨r1,r2⟩:=r
   have e2:(r2=0)=True:=tt h0
   simp only [rV,ai,am] at hm k3 k4
   simp only [fY,go_sem,↓reduceIte,alS,alU,alT,alV,alX,h2,h3,h4,h6,k3,k4,k6,e1,e5,hm,e2] at ih' ⊢
   exact ih' _ _ rfl rfl rfl rfl rfl rfl rfl
  ·rw [if_neg h0]
   replace he:=he h0
   generalize aq _ _ _=L
   generalize aY c x=r at hm h0 he ⊢
   obtain ⟨r1,r2⟩:=r
   have e2:(r2=0)=False:=ff h0
   replace he:r1=aH:=he
   subst he
   simp only [rV,ai,am] at hm k3 k4
   refine ⟨?hh1,?_,?_⟩
   rotate_left
   ·simp only [fY,go_sem,↓reduceIte,alS,alU,alT,alV,alX,h2,h3,h4,h6,k3,k4,k6,e1,hm,e2]
    rfl
   ·rfl
theorem OE {c x:Rd} (oc:Ok0 c) (ox:Ok0 x) {n:Nat} (hn:n≤100000):R F.r23_times [ai c,ai x,I n] []=some (.tup [ai (mo x n c).1,B (mo x n c).2],[]):=by
 refine aB K9 K8 (Dt false) rfl ?_
 have h:=OD ox n hn c oc
 have h':∀ (S:aj) (H:ac) (X:Option (Ex × St)),bm (au 0 [3,6] (aq (ak R (ae false) fY) [2,3,4,6] [3,4,6] S H)) (ak R (ae false) (.seq (.ops [6,7] [la 22 3 3,sr 3 (.t 6) (.t 22),co 7 (.mv (.c (B true)))]) (.ret)))=X→S 2=I n→S 3 = .ref 3 none 0 0 0→S 4 = .ref 4 none 0 0 0→S 6 = .ref 6 none 0 0 0→H 3 = .bx (am c)→H 4 = .bx (am x)→H 6 = .bx [B false,.emp,I 0] →
   ∃ hh,X=some (.ret,⟨upd (upd (fun _ => .any) 7 (B (mo x n c).2)) 6 (.ref 6 none 0 0 0),hh⟩)∧hh 6 = .bx (am (mo x n c).1):=fun S H X hX=>by
  rw [← hX]
  exact h S H
 clear h
 simp only [nL,y3,ai,am,go_sem,↓reduceIte,alS,alT]
 generalize hB:bm (au 0 [3,6] (aq _ _ _ _ _)) _=X
 obtain ⟨hh,g1,g2⟩:=h' _ _ _ hB rfl rfl rfl rfl rfl rfl rfl
 rw [g1]
 simp only [am] at g2
 simp only [go_sem,↓reduceIte,alS,alU,alT,alV,g2]
theorem Fz {x:Rd}:∀ (n:Nat) (c d:Rd),Ok0 c→jF x n c=some d→Ok0 d
 | 0,c,d,oc,h=>by
  unfold jF at h
  obtain rfl:=Option.some.inj h
  exact oc
 | n+1,c,d,oc,h=>by
  unfold jF at h
  split at h
  ·exact Fz n _ d (ni c x).2 h
  ·exact nomatch h
end Go.Ab
namespace Go.Ab
open Go Go.IntWalk
set_option maxRecDepth 4000
set_option maxHeartbeats 1000000
abbrev zb:List AV:=[B false,.emp,I 0]
theorem Yl {a:Rp} {xs:List Rd} (ox:∀ d ∈ xs,Ok0 d) (h2:xs.length≤100000):∀ (k i:Nat),i+k=xs.length→∀ (s:aj) (h:ac),s 1=bG xs→s 2 = .ref 2 none 0 0 0→s 4 = .ref 4 none 0 0 0→s 6=I i→h 2 = .bx [I a.vars,.sl 4 (cW a.terms)]→h 4 = .bx zb →
  ∃ hh,hh 4 = .bx zb∧(((xs.drop i).all vd=true∧hh 2 = .bx [I a.vars,.sl 4 (cW a.terms)]∧(∀ a,a ≠ 2→a ≠ 4→hh a = .dead)∧au 0 [1,2,4] (aq (ak R (ae false) eg) [1,2,4,6] [2,4] s h)=some (.normal,⟨upd (upd (upd (fun _ => .any) 4 (.ref 4 none 0 0 0)) 2 (.ref 2 none 0 0 0)) 1 (bG xs),hh⟩)) ∨
   ((xs.drop i).all vd=false∧au 0 [1,2,4] (aq (ak R (ae false) eg) [1,2,4,6] [2,4] s h)=some (.ret,⟨upd (upd (fun _ => .any) 5 (I 1)) 4 (.ref 4 none 0 0 0),hh⟩))):=by
 intro k
 induction k with
 | zero =>
  intro i hi s h h1 h2 h4 h6 k2 k4
  have e1:((i:Int) < xs.length)=False:=ff (by omega)
  rw [List.drop_eq_nil_of_le (by omega),ao]
  unfold bG at h1
  refine ⟨?hh0,?_,.inl ⟨rfl,?_,?_,?_⟩⟩
  rotate_left 4
  ·simp only [eg,bG,go_sem,↓reduceIte,alS,alX,h1,h2,h4,h6,k2,k4,e1]
   rfl
  ·rfl
  ·rfl
  ·exact fun a h1 h2=>by simp only [upd,if_neg h1,if_neg h2]
 | succ k ih =>
  intro i hi s h h1 h2 h4 h6 k2 k4
  have hlt:i < xs.length:=by omega
  have e1:((i:Int) < xs.length)=True:=tt (by omega)
  have e2:aN (iT xs) (i:Int)=some (.ipt (am xs[i])):=x5 rfl (List.getElem?_eq_getElem hlt)
  have e5:IntKind.i64.wrap ((i:Int)+1)=((i+1:Nat):Int):=wi (by omega) (by omega)
  have od:=ox xs[i] (List.getElem_mem hlt)
  have ih':=ih (i+1) (by omega)
  rw [List.drop_eq_getElem_cons hlt,ao]
  generalize aq _ _ _=L at ih' ⊢
  generalize xs[i]=d at e2 od ⊢
  have hv:=fg od
  unfold bG at h1 ih' ⊢
  simp only [ai,am] at hv e2
  cases hb:vd d with
  | true =>
   rw [hb] at hv
   rw [show (d::xs.drop (i+1)).all vd=(xs.drop (i+1)).all vd by rw [List.all_cons,hb,Bool.true_and]]
   generalize (xs.drop (i+1)).all vd=al at ih' ⊢
   simp only [eg,go_sem,↓reduceIte,alS,alU,alT,alV,alX,h1,h2,h4,h6,k2,k4,e1,e2,e5,hv]
   exact ih' _ _ rfl rfl rfl rfl rfl rfl
  | false =>
   rw [hb] at hv
   rw [show (d::xs.drop (i+1)).all vd=false by rw [List.all_cons,hb,Bool.false_and]]
   refine ⟨?hh1,?_,.inr ⟨rfl,?_⟩⟩
   rotate_left 2
   ·simp only [eg,go_sem,↓reduceIte,alS,alU,alT,alV,alX,h1,h2,h4,h6,k2,k4,e1,e2,hv]
    rfl
   ·rfl
theorem OF {es:List Int} {xs:List Rd} {c:Rd} {i:Nat} (h1:i < es.length) (h2:i < xs.length):ip (es.drop i) (xs.drop i) c=(jF xs[i] es[i].toNat c).bind fun d=>ip (es.drop (i+1)) (xs.drop (i+1)) d:=by
 rw [List.drop_eq_getElem_cons h1,List.drop_eq_getElem_cons h2]
 rfl
theorem aaR {a:Rp} {xs:List Rd} {t:Rt} {j:Nat} {c7:List AV} (h7c:c7.all (cZ [2,4,7,9])=true) (ox:∀ d ∈ xs,Ok0 d) (hx:(xs.length:Int)=a.vars) (hv:a.vars≤8) (he:t.exps.length=xs.length) (hr:∀ e ∈ t.exps,0≤e∧e≤32) (ht:a.terms[j]?=some t):∀ (k i:Nat),i+k=xs.length→∀ (c:Rd),Ok0 c→∀ (s:aj) (h:ac),s 1=bG xs→s 2 = .ref 2 none 0 0 0→s 4 = .ref 4 none 0 0 0→s 7 = .ref 7 none 0 0 0→s 8=I j→s 9 = .ref 9 none 0 0 0→s 10=I i →
  h 2 = .bx [I a.vars,.sl 4 (cW a.terms)]→h 4 = .bx zb→h 7 = .bx c7→h 9 = .bx (am c) →
  ∃ hh,hh 4 = .bx zb∧((∃ d,ip (t.exps.drop i) (xs.drop i) c=some d∧Ok0 d∧hh 9 = .bx (am d)∧hh 2 = .bx [I a.vars,.sl 4 (cW a.terms)]∧hh 7 = .bx c7∧(∀ a,a ≠ 2→a ≠ 4→a ≠ 7→a ≠ 9→hh a = .dead) ∧
    au 4 [1,2,4,7,8,9] (aq (ak R (ae false) ef) [1,2,4,7,8,9,10] [2,4,7,9] s h)=some (.normal,⟨upd (upd (upd (upd (upd (upd (fun _ => .any) 9 (.ref 9 none 0 0 0)) 8 (I j)) 7 (.ref 7 none 0 0 0)) 4 (.ref 4 none 0 0 0)) 2 (.ref 2 none 0 0 0)) 1 (bG xs),hh⟩)) ∨
   (ip (t.exps.drop i) (xs.drop i) c=none∧au 4 [1,2,4,7,8,9] (aq (ak R (ae false) ef) [1,2,4,7,8,9,10] [2,4,7,9] s h)=some (.ret,⟨upd (upd (fun _ => .any) 5 (I 9)) 4 (.ref 4 none 0 0 0),hh⟩))):=by
 intro k
 induction k with
 | zero =>
  intro i hi c oc s h h1 h2 h4 h7 h8 h9 h10 k2 k4 k7 k9
  have e1:((i:Int) < a.vars)=False:=ff (by omega)
  rw [List.drop_eq_nil_of_le (show xs.length≤i by omega),List.drop_eq_nil_of_le (show t.exps.length≤i by omega),ao]
  unfold bG at h1
  simp only [am] at k9
  refine ⟨?hh0,?_,.inl ⟨c,rfl,oc,?_,?_,?_,?_,?_⟩⟩
  rotate_left 6
  ·simp only [ef,bG,go_sem,↓reduceIte,alS,alU,alT,alX,h1,h2,h4,h7,h8,h9,h10,k2,k4,k7,k9,h7c,e1]
   rfl
  ·rfl
  ·rfl
  ·rfl
  ·rfl
  ·exact fun a h1 h2 h3 h4=>by simp only [upd,if_neg h1,if_neg h2,if_neg h3,if_neg h4]
 | succ k ih =>
  intro i hi c oc s h h1 h2 h4 h7 h8 h9 h10 k2 k4 k7 k9
  have hlt:i < xs.length:=by omega
  have hlt2:i < t.exps.length:=by omega
  have e1:((i:Int) < a.vars)=True:=tt (by omega)
  have e2:aN (iT xs) (i:Int)=some (.ipt (am xs[i])):=x5 rfl (List.getElem?_eq_getElem hlt)
  have e3:aN (cW a.terms) (j:Int)=some (.ipt (cV t)):=iM rfl ht
  have e4:aN (dp t.exps) (i:Int)=some (.ipt [I t.exps[i]]):=jP rfl (List.getElem?_eq_getElem hlt2)
  have e5:IntKind.i64.wrap ((i:Int)+1)=((i+1:Nat):Int):=wi (by omega) (by omega)
  have od:=ox xs[i] (List.getElem_mem hlt)
  obtain ⟨r1,r2⟩:=hr t.exps[i] (List.getElem_mem hlt2)
  have ih':=ih (i+1) (by omega)
  rw [OF hlt2 hlt,ao]
  generalize aq _ _ _=L at ih' ⊢
  generalize t.exps[i]=e at e4 r1 r2 ⊢
  obtain ⟨n,rfl⟩:=Int.eq_ofNat_of_zero_le r1
  rw [Int.toNat_natCast]
  generalize xs[i]=x at e2 od ⊢
  have hm:=OE oc od (n:=n) (by omega)
  have hok:=Fz (x:=x) n c
  unfold mo at hm
  unfold bG at h1 ih' ⊢
  simp only [cV] at e3
  cases hT:jF x n c with
  | some d =>
   have oc2:=hok d oc hT
   rw [hT] at hm
   simp only [ai,am] at hm e2 k9
   replace ih':=ih' d oc2
   rw [Option.bind_some]
   generalize ip (t.exps.drop (i+1)) (xs.drop (i+1)) d=PE at ih' ⊢
   simp only [ef,go_sem,↓reduceIte,alS,alU,alT,alV,alW,alX,h1,h2,h4,h7,h8,h9,h10,k2,k4,k7,k9,h7c,e1,e2,e3,e4,e5,hm]
   exact ih' _ _ rfl rfl rfl rfl rfl rfl rfl rfl rfl rfl rfl
  | none =>
   rw [hT] at hm
   simp only [ai,am,aH] at hm e2 k9
   refine ⟨?hh1,?_,.inr ⟨rfl,?_⟩⟩
   rotate_left 2
   ·simp only [ef,go_sem,↓reduceIte,alS,alU,alT,alV,alW,alX,h1,h2,h4,h7,h8,h9,h10,k2,k4,k7,k9,h7c,e1,e2,e3,e4,hm]
    rfl
   ·rfl
end Go.Ab
namespace Go.Ab
open Go Go.IntWalk
set_option maxRecDepth 4000
set_option maxHeartbeats 1000000
theorem FA {xs:List Rd} {t:Rt} {l:List Rt} {q d:Rd} (h:ip t.exps xs t.c=some d):fR xs (t::l) q=if (bC q d).2=0 then fR xs l (bC q d).1 else (aH,9):=by
 rw [show fR xs (t::l) q=(match ip t.exps xs t.c with | none=>(aH,(9:Int)) | some d=>if (bC q d).2=0 then fR xs l (bC q d).1 else (aH,9)) from rfl,h]
theorem FB {xs:List Rd} {t:Rt} {l:List Rt} {q:Rd} (h:ip t.exps xs t.c=none):fR xs (t::l) q=(aH,9):=by
 rw [show fR xs (t::l) q=(match ip t.exps xs t.c with | none=>(aH,(9:Int)) | some d=>if (bC q d).2=0 then fR xs l (bC q d).1 else (aH,9)) from rfl,h]
theorem Ym {a:Rp} {xs:List Rd} (ox:∀ d ∈ xs,Ok0 d) (oa:OkP a) (hv:vp a=true) (hx:(xs.length:Int)=a.vars):∀ (k i:Nat),i+k=a.terms.length→∀ (q:Rd),Ok0 q→∀ (c7:List AV),(c7=am q∨(c7=zb∧q=aH))→∀ (s:aj) (h:ac),s 1=bG xs→s 2 = .ref 2 none 0 0 0→s 4 = .ref 4 none 0 0 0→s 7 = .ref 7 none 0 0 0→s 8=I i →
  h 2 = .bx [I a.vars,.sl 4 (cW a.terms)]→h 4 = .bx zb→h 7 = .bx c7 →
  ∃ hh,hh 4 = .bx zb∧((∃ d c8,fR xs (a.terms.drop i) q=(d,0)∧hh 7 = .bx c8∧(c8=am d∨(c8=zb∧d=aH))∧au 2 [4,7] (aq (ak R (ae false) fw) [1,2,4,7,8] [2,4,7] s h)=some (.normal,⟨upd (upd (fun _ => .any) 7 (.ref 7 none 0 0 0)) 4 (.ref 4 none 0 0 0),hh⟩)) ∨
   (fR xs (a.terms.drop i) q=(aH,9)∧au 2 [4,7] (aq (ak R (ae false) fw) [1,2,4,7,8] [2,4,7] s h)=some (.ret,⟨upd (upd (fun _ => .any) 5 (I 9)) 4 (.ref 4 none 0 0 0),hh⟩))):=by
 obtain ⟨v1,v2,v3,v4⟩:=qQ hv
 intro k
 induction k with
 | zero =>
  intro i hi q oq c7 hq s h h1 h2 h4 h7 h8 k2 k4 k7
  have e1:((i:Int) < a.terms.length)=False:=ff (by omega)
  rw [List.drop_eq_nil_of_le (by omega),ao]
  unfold bG at h1
  have h7c:c7.all (cZ [2,4,7])=true:=by rcases hq with rfl | ⟨rfl,rfl⟩ <;> rfl
  refine ⟨?hh0,?_,.inl ⟨q,c7,rfl,?_,hq,?_⟩⟩
  rotate_left 3
  ·simp only [fw,go_sem,↓reduceIte,alS,alU,alT,alX,h1,h2,h4,h7,h8,k2,k4,k7,h7c,e1]
   rfl
  ·rfl
  ·rfl
 | succ k ih =>
  intro i hi q oq c7 hq s h h1 h2 h4 h7 h8 k2 k4 k7
  have hlt:i < a.terms.length:=by omega
  have e1:((i:Int) < a.terms.length)=True:=tt (by omega)
  have ht:=List.getElem?_eq_getElem hlt
  have e5:IntKind.i64.wrap ((i:Int)+1)=((i+1:Nat):Int):=wi (by omega) (by omega)
  have okt:=oa.t a.terms[i] (List.getElem_mem hlt)
  obtain ⟨c1,c2,c3,c4,c5⟩:=lM hv (List.getElem_mem hlt)
  have ih':=ih (i+1) (by omega)
  rw [List.drop_eq_getElem_cons hlt,ao]
  generalize a.terms[i]=t at ht okt c1 c2 c3 c4 c5 ⊢
  have e2:aN (cW a.terms) (i:Int)=some (.ipt (cV t)):=iM rfl ht
  have h7c:c7.all (cZ [2,4,7])=true:=by rcases hq with rfl | ⟨rfl,rfl⟩ <;> rfl
  have h7d:c7.all (cZ [2,4,7,9])=true:=by rcases hq with rfl | ⟨rfl,rfl⟩ <;> rfl
  have hin:=aaR h7d ox hx v2 (by omega) c1.2 ht xs.length 0 (Nat.zero_add _) t.c okt.c
  simp only [List.drop_zero,Int.natCast_zero] at hin
  generalize hL0:aq (ak R (ae false) ef) [1,2,4,7,8,9,10] [2,4,7,9]=L0 at hin
  have hX:∀ s h,ak R (ae false) (.loop [1,2,4,7,8,9,10] [2,4,7,9] ef) s h=L0 s h:=fun s h=>by rw [← hL0]; rfl
  clear hL0
  have hin2:∀ (S:aj) (H:ac) (X:Option (Ex × St)),au 4 [1,2,4,7,8,9] (L0 S H)=X→S 1=bG xs→S 2 = .ref 2 none 0 0 0→S 4 = .ref 4 none 0 0 0→S 7 = .ref 7 none 0 0 0→S 8=I i→S 9 = .ref 9 none 0 0 0→S 10=I 0 →
    H 2 = .bx [I a.vars,.sl 4 (cW a.terms)]→H 4 = .bx zb→H 7 = .bx c7→H 9 = .bx (am t.c) →
    ∃ hh,hh 4 = .bx zb∧((∃ d,ip t.exps xs t.c=some d∧Ok0 d∧hh 9 = .bx (am d)∧hh 2 = .bx [I a.vars,.sl 4 (cW a.terms)]∧hh 7 = .bx c7∧(∀ a,a ≠ 2→a ≠ 4→a ≠ 7→a ≠ 9→hh a = .dead) ∧
      X=some (.normal,⟨upd (upd (upd (upd (upd (upd (fun _ => .any) 9 (.ref 9 none 0 0 0)) 8 (I i)) 7 (.ref 7 none 0 0 0)) 4 (.ref 4 none 0 0 0)) 2 (.ref 2 none 0 0 0)) 1 (bG xs),hh⟩)) ∨
     (ip t.exps xs t.c=none∧X=some (.ret,⟨upd (upd (fun _ => .any) 5 (I 9)) 4 (.ref 4 none 0 0 0),hh⟩))):=fun S H X hX=>by
   rw [← hX]
   exact hin S H
  clear hin
  generalize aq _ _ _=L at ih' ⊢
  unfold bG at h1 ih' hin2
  simp only [cV] at e2
  simp only [am] at hin2
  simp only [fw,hX,go_sem,↓reduceIte,alS,alU,alT,alV,alX,h1,h2,h4,h7,h8,k2,k4,k7,h7c,e1,e2]
  generalize hB:au 4 [1,2,4,7,8,9] (L0 _ _)=X
  obtain ⟨hh,g4,hd⟩:=hin2 _ _ _ hB rfl rfl rfl rfl rfl rfl rfl rfl rfl rfl rfl
  clear hB hin2
  rcases hd with ⟨d,p1,od,g9,g2,g7,gd,rfl⟩ | ⟨p1,rfl⟩
  ·have hm:=Wk oq od
   have om:=(tN q d).2
   have ih2:=ih' (bC q d).1 om (am (bC q d).1) (.inl rfl)
   rw [FA p1]
   generalize bC q d=r at hm om ih2 ⊢
   obtain ⟨r1,r2⟩:=r
   simp only [rV,ai,am] at hm ih2
   have hg:(c7=[B q.neg,lm q.m,I q.e])∨(c7=zb∧q=aH):=hq
   clear hq h7c h7d k7
   rcases hg with rfl | ⟨rfl,rfl⟩
   all_goals try simp only [aH] at hm
   all_goals
    by_cases h0:r2=0
    ·have e3:(r2=0)=True:=tt h0
     rw [if_pos h0]
     generalize fR xs (a.terms.drop (i+1)) r1=Z at ih2 ⊢
     simp only [am,go_sem,↓reduceIte,alS,alU,alT,alV,g4,g7,g9,gd,hm,ne_eq,not_false_eq_true,e5,e3]
     refine ih2 _ _ ?_ ?_ ?_ ?_ ?_ ?_ ?_ ?_
     all_goals first | rfl | exact g2 | exact g4
    ·have e3:(r2=0)=False:=ff h0
     rw [if_neg h0]
     refine ⟨?_,?_,.inr ⟨rfl,?_⟩⟩
     rotate_left 2
     ·simp only [go_sem,↓reduceIte,alS,alU,alT,alV,g4,g7,g9,gd,hm,ne_eq,not_false_eq_true,e3]
      rfl
     ·rfl
  ·rw [FB p1]
   refine ⟨hh,g4,.inr ⟨rfl,?_⟩⟩
   simp only [go_sem]
theorem FC {a:Rp} {xs:List Rd} (oa:OkP a) (ox:∀ d ∈ xs,Ok0 d) (h2:xs.length≤100000):R F.r23_Eval [a8 a,bG xs] []=some (rV (fS a xs),[]):=by
 refine aB NC NB (FT false) rfl ?_
 have hv:=qP oa
 unfold fS TB
 simp only [a8] at hv
 cases hb:vp a with
 | false =>
  rw [hb] at hv
  rw [Bool.false_and,if_neg Bool.false_ne_true]
  simp only [jH,qC,rV,ai,am,aH,a8,bG,go_sem,↓reduceIte,alS,alU,alT,alV,hv]
 | true =>
  rw [hb] at hv
  rw [Bool.true_and]
  by_cases hx:(xs.length:Int)=a.vars
  ·have e1:((xs.length:Int)=a.vars)=True:=tt hx
   rw [decide_eq_true hx,Bool.true_and]
   have hc:=Yl (a:=a) ox h2 xs.length 0 (Nat.zero_add _)
   have ho:=Ym ox oa hb hx a.terms.length 0 (Nat.zero_add _) aH fe.2 zb (.inr ⟨rfl,rfl⟩)
   simp only [List.drop_zero,Int.natCast_zero] at hc ho
   generalize hL2:aq (ak R (ae false) eg) [1,2,4,6] [2,4]=L2 at hc
   have hX2:∀ s h,ak R (ae false) (.loop [1,2,4,6] [2,4] eg) s h=L2 s h:=fun s h=>by rw [← hL2]; rfl
   clear hL2
   generalize hL1:aq (ak R (ae false) fw) [1,2,4,7,8] [2,4,7]=L1 at ho
   have hX1:∀ s h,ak R (ae false) (.loop [1,2,4,7,8] [2,4,7] fw) s h=L1 s h:=fun s h=>by rw [← hL1]; rfl
   clear hL1
   have hc2:∀ (S:aj) (H:ac) (X:Option (Ex × St)),au 0 [1,2,4] (L2 S H)=X→S 1=bG xs→S 2 = .ref 2 none 0 0 0→S 4 = .ref 4 none 0 0 0→S 6=I 0→H 2 = .bx [I a.vars,.sl 4 (cW a.terms)]→H 4 = .bx zb →
     ∃ hh,hh 4 = .bx zb∧((xs.all vd=true∧hh 2 = .bx [I a.vars,.sl 4 (cW a.terms)]∧(∀ a,a ≠ 2→a ≠ 4→hh a = .dead)∧X=some (.normal,⟨upd (upd (upd (fun _ => .any) 4 (.ref 4 none 0 0 0)) 2 (.ref 2 none 0 0 0)) 1 (bG xs),hh⟩)) ∨
      (xs.all vd=false∧X=some (.ret,⟨upd (upd (fun _ => .any) 5 (I 1)) 4 (.ref 4 none 0 0 0),hh⟩))):=fun S H X hX=>by
    rw [← hX]
    exact hc S H
   have ho2:∀ (S:aj) (H:ac) (X:Option (Ex × St)),au 2 [4,7] (L1 S H)=X→S 1=bG xs→S 2 = .ref 2 none 0 0 0→S 4 = .ref 4 none 0 0 0→S 7 = .ref 7 none 0 0 0→S 8=I 0 →
     H 2 = .bx [I a.vars,.sl 4 (cW a.terms)]→H 4 = .bx zb→H 7 = .bx zb →
     ∃ hh,hh 4 = .bx zb∧((∃ d c8,fR xs a.terms aH=(d,0)∧hh 7 = .bx c8∧(c8=am d∨(c8=zb∧d=aH))∧X=some (.normal,⟨upd (upd (fun _ => .any) 7 (.ref 7 none 0 0 0)) 4 (.ref 4 none 0 0 0),hh⟩)) ∨
      (fR xs a.terms aH=(aH,9)∧X=some (.ret,⟨upd (upd (fun _ => .any) 5 (I 9)) 4 (.ref 4 none 0 0 0),hh⟩))):=fun S H X hX=>by
    rw [← hX]
    exact ho S H
   clear hc ho
   unfold bG at hc2 ho2
   simp only [jH,qC,hX2,a8,bG,go_sem,↓reduceIte,alS,alU,alT,alV,hv,e1]
   generalize hB:au 0 [1,2,4] (L2 _ _)=X
   obtain ⟨hh,g4,hd⟩:=hc2 _ _ _ hB rfl rfl rfl rfl rfl rfl
   clear hB hc2
   rcases hd with ⟨q1,g2,gd,rfl⟩ | ⟨q1,rfl⟩
   ·rw [q1,if_pos rfl]
    simp only [hX1,go_sem,↓reduceIte,alS,gd,ne_eq,not_false_eq_true]
    generalize hB:au 2 [4,7] (L1 _ _)=X
    obtain ⟨hh2,f4,hd⟩:=ho2 _ _ _ hB rfl rfl rfl rfl rfl g2 g4 rfl
    clear hB ho2
    rcases hd with ⟨d,c8,q1,f7,hq,rfl⟩ | ⟨q1,rfl⟩
    ·rw [q1]
     rcases hq with rfl | ⟨rfl,rfl⟩
     ·simp only [am] at f7
      simp only [rV,ai,am,go_sem,↓reduceIte,alS,alU,alT,alV,f4,f7]
     ·simp only [rV,ai,am,aH,go_sem,↓reduceIte,alS,alU,alT,alV,f4,f7]
    ·rw [q1]
     simp only [rV,ai,am,aH,go_sem,↓reduceIte,alS,alU,alT,alV,f4]
   ·rw [q1,if_neg Bool.false_ne_true]
    simp only [rV,ai,am,aH,go_sem,↓reduceIte,alS,alU,alT,alV,g4]
  ·have e1:((xs.length:Int)=a.vars)=False:=ff hx
   rw [decide_eq_false hx,Bool.false_and,if_neg Bool.false_ne_true]
   simp only [jH,qC,rV,ai,am,aH,a8,bG,go_sem,↓reduceIte,alS,alU,alT,alV,hv,e1]
end Go.Ab
namespace Go.Ab
open Go Go.IntWalk
set_option maxRecDepth 4000
set_option maxHeartbeats 1000000
theorem Lz {a:Rp} (ok:OkP a):R F.r23_Degree [a8 a] []=some (I (rR a),[]):=by
 refine aB Im Il (BX false) rfl ?_
 have hv:=qP ok
 unfold rR
 simp only [a8] at hv
 cases hb:vp a with
 | false =>
  rw [hb] at hv
  rw [if_neg Bool.false_ne_true]
  simp only [gF,nE,a8,go_sem,↓reduceIte,alS,alU,alT,alV,hv]
 | true =>
  rw [hb] at hv
  rw [if_pos rfl]
  obtain ⟨v1,v2,v3,v4⟩:=qQ hb
  by_cases h0:a.terms.length=0
  ·have e1:((a.terms.length:Int)=0)=True:=tt (by omega)
   have e4:a.terms.getLast?=none:=by
    rw [List.length_eq_zero_iff.1 h0]
    rfl
   rw [e4]
   simp only [gF,nE,a8,go_sem,↓reduceIte,alS,alU,alT,alV,hv,e1]
  ·have e1:((a.terms.length:Int)=0)=False:=ff (by omega)
   have e2:IntKind.i64.wrap ((a.terms.length:Int) - 1)=((a.terms.length - 1:Nat):Int):=by rw [i64_in] <;> omega
   have hlt:a.terms.length - 1 < a.terms.length:=by omega
   have e3:aN (cW a.terms) ((a.terms.length - 1:Nat):Int)=some (.ipt (cV a.terms[a.terms.length - 1])):=iM rfl (List.getElem?_eq_getElem hlt)
   have e4:a.terms.getLast?=some a.terms[a.terms.length - 1]:=by rw [List.getLast?_eq_getElem?,List.getElem?_eq_getElem hlt]
   obtain ⟨c1,c2,c3,c4,c5⟩:=lM hb (List.getElem_mem hlt)
   rw [e4]
   generalize a.terms[a.terms.length - 1]=t at e3 c1 c2 c3 c4 c5 ⊢
   have hd:=AP c1
   simp only [cV] at e3
   simp only [gF,nE,a8,go_sem,↓reduceIte,alS,alU,alT,alV,hv,e1,e2,e3,hd]
def tO:List Int→Nat→Nat→Nat
 | [],_,a=>a
 | e::l,k,a=>tO l (k+1) (if 0 < e then k+1 else a)
theorem JC:∀ {l:List Int},(∀ e ∈ l,0≤e)→0≤bl l
 | [],_=>Int.le_refl _
 | e::l,h=>by
  have h1:=h e (List.mem_cons_self ..)
  have h2:=JC fun x hx=>h x (List.mem_cons_of_mem e hx)
  have h3:bl (e::l)=e+bl l:=rfl
  omega
theorem Mz:∀ (l:List Int) (k a:Nat),(∀ e ∈ l,0≤e)→bl l≤0→tO l k a=a
 | [],k,a,_,_=>rfl
 | e::l,k,a,h,hs=>by
  have h1:=h e (List.mem_cons_self ..)
  have h2:=JC (fun x hx=>h x (List.mem_cons_of_mem _ hx))
  have h3:bl (e::l)=e+bl l:=rfl
  unfold tO
  rw [if_neg (by omega)]
  exact Mz l (k+1) a (fun x hx=>h x (List.mem_cons_of_mem _ hx)) (by omega)
theorem Q7:∀ (l:List Int) (k:Nat),(∀ e ∈ l,0≤e)→bl l≤1→(tO l k 0:Int)=jr 1 l k+1
 | [],k,_,_=>rfl
 | e::l,k,h,hs=>by
  have h1:=h e (List.mem_cons_self ..)
  have h2:=JC (fun x hx=>h x (List.mem_cons_of_mem _ hx))
  have h3:bl (e::l)=e+bl l:=rfl
  unfold tO jr
  by_cases he:e=1
  ·rw [if_pos (by omega),if_pos he.symm,Mz l (k+1) (k+1) (fun x hx=>h x (List.mem_cons_of_mem _ hx)) (by omega)]
   omega
  ·rw [if_neg (by omega),if_neg (fun h=>he h.symm)]
   exact Q7 l (k+1) (fun x hx=>h x (List.mem_cons_of_mem _ hx)) (by omega)
theorem UD:∀ (l:List Int) (k a:Nat),a≤k→tO l k a≤k+l.length
 | [],k,a,h=>h
 | e::l,k,a,h=>by
  unfold tO
  have:=UD l (k+1) (if 0 < e then k+1 else a) (by split <;> omega)
  rw [List.length_cons]
  omega
theorem TD {a:Rp} {t:Rt} {i:Nat} {o:List (Option Rd)} (hv:a.vars≤8) (he:(t.exps.length:Int)=a.vars) (ht:a.terms[i]?=some t):∀ (k j:Nat),j+k=t.exps.length→∀ (q:Nat),∀ (s:aj) (h:ac),s 1 = .ref 1 none 0 0 0→s 4 = .rsl 19 none 3 0 o.length→s 5=I i→s 6=I q→s 7=I j →
  h 1 = .bx [I a.vars,.sl 4 (cW a.terms)]→h 19 = .ar 3 (kQ o) →
  ∃ hh,au 2 [1,4,5,6] (aq (ak R (ae false) dZ) [1,4,5,6,7] [1,19] s h)=some (.normal,⟨upd (upd (upd (upd (fun _ => .any) 6 (I (tO (t.exps.drop j) j q))) 5 (I i)) 4 (.rsl 19 none 3 0 o.length)) 1 (.ref 1 none 0 0 0),hh⟩)∧hh 1 = .bx [I a.vars,.sl 4 (cW a.terms)]∧hh 19 = .ar 3 (kQ o):=by
 intro k
 induction k with
 | zero =>
  intro j hj q s h h1 h4 h5 h6 h7 k1 k19
  have e1:((j:Int) < a.vars)=False:=ff (by omega)
  rw [List.drop_eq_nil_of_le (by omega),ao]
  refine ⟨?hh0,?_,?_,?_⟩
  rotate_left
  ·simp only [dZ,tO,go_sem,↓reduceIte,alS,alU,alT,alX,h1,h4,h5,h6,h7,k1,k19,e1]
   rfl
  ·rfl
  ·rfl
 | succ k ih =>
  intro j hj q s h h1 h4 h5 h6 h7 k1 k19
  have hlt:j < t.exps.length:=by omega
  have e1:((j:Int) < a.vars)=True:=tt (by omega)
  have e3:aN (cW a.terms) (i:Int)=some (.ipt (cV t)):=iM rfl ht
  have e4:aN (dp t.exps) (j:Int)=some (.ipt [I t.exps[j]]):=jP rfl (List.getElem?_eq_getElem hlt)
  have e5:IntKind.i64.wrap ((j:Int)+1)=((j+1:Nat):Int):=wi (by omega) (by omega)
  have ih':=ih (j+1) (by omega)
  rw [List.drop_eq_getElem_cons hlt,ao]
  unfold tO
  generalize aq _ _ _=L at ih' ⊢
  generalize t.exps[j]=e at e4 ⊢
  simp only [cV] at e3
  by_cases h0:0 < e
  ·have e6:(0 < e)=True:=tt h0
   rw [if_pos h0]
   simp only [dZ,go_sem,↓reduceIte,alS,alU,alT,alX,h1,h4,h5,h6,h7,k1,k19,e1,e3,e4,e5,e6]
   exact ih' _ _ _ rfl rfl rfl rfl rfl rfl rfl
  ·have e6:(0 < e)=False:=ff h0
   rw [if_neg h0]
   simp only [dZ,go_sem,↓reduceIte,alS,alU,alT,alX,h1,h4,h5,h6,h7,k1,k19,e1,e3,e4,e5,e6]
   exact ih' _ _ _ rfl rfl rfl rfl rfl rfl rfl
def JD:List Rt→List (Option Rd)→List (Option Rd)
 | [],o=>o
 | t::l,o=>JD l (o.set (tO t.exps 0 0) (some t.c))
theorem Q8 {a:Rp} (hv:a.vars≤8) (h5:a.terms.length≤500) (he:∀ t ∈ a.terms,(t.exps.length:Int)=a.vars):∀ (k i:Nat),i+k=a.terms.length→∀ (o:List (Option Rd)),(o.length:Int)=a.vars+1→∀ (s:aj) (h:ac),
  s 1 = .ref 1 none 0 0 0→s 4 = .rsl 19 none 3 0 o.length→s 5=I i→h 1 = .bx [I a.vars,.sl 4 (cW a.terms)]→h 19 = .ar 3 (kQ o) →
  ∃ hh,au 0 [4] (aq (ak R (ae false) gO) [1,4,5] [1,19] s h)=some (.normal,⟨upd (fun _ => .any) 4 (.rsl 19 none 3 0 o.length),hh⟩)∧hh 19 = .ar 3 (kQ (JD (a.terms.drop i) o)):=by
 intro k
 induction k with
 | zero =>
  intro i hi o ho s h h1 h4 h5 k1 k19
  have e1:((i:Int) < a.terms.length)=False:=ff (by omega)
  rw [List.drop_eq_nil_of_le (by omega),ao]
  refine ⟨?hh0,?_,?_⟩
  rotate_left
  ·simp only [gO,go_sem,↓reduceIte,alS,alU,alT,alX,h1,h4,h5,k1,k19,e1]
   rfl
  ·rfl
 | succ k ih =>
  intro i hi o ho s h h1 h4 h5 k1 k19
  have hlt:i < a.terms.length:=by omega
  have e1:((i:Int) < a.terms.length)=True:=tt (by omega)
  have ht:=List.getElem?_eq_getElem hlt
  have e5:IntKind.i64.wrap ((i:Int)+1)=((i+1:Nat):Int):=wi (by omega) (by omega)
  have c1:=he a.terms[i] (List.getElem_mem hlt)
  have ih':=ih (i+1) (by omega)
  rw [List.drop_eq_getElem_cons hlt,ao]
  unfold JD
  generalize a.terms[i]=t at ht c1 ⊢
  have e3:aN (cW a.terms) (i:Int)=some (.ipt (cV t)):=iM rfl ht
  have hin:=TD (o:=o) hv c1 ht t.exps.length 0 (Nat.zero_add _) 0
  simp only [List.drop_zero,Int.natCast_zero] at hin
  have hq:=UD t.exps 0 0 (Nat.le_refl _)
  generalize tO t.exps 0 0=q at hin hq ⊢
  have hn2:q < o.length:=by omega
  have e7:(0≤(q:Int))=True:=tt (by omega)
  have e8:((q:Int) < (o.length:Int))=True:=tt (by omega)
  have e9:=Mj (List.getElem?_eq_getElem hn2)
  obtain ⟨e10,e11⟩:=Mn o[q] t.c
  have ih2:=ih' (o.set q (some t.c)) (by rw [List.length_set]; exact ho)
  rw [List.length_set] at ih2
  generalize hL0:aq (ak R (ae false) dZ) [1,4,5,6,7] [1,19]=L0 at hin
  have hX:∀ s h,ak R (ae false) (.loop [1,4,5,6,7] [1,19] dZ) s h=L0 s h:=fun s h=>by rw [← hL0]; rfl
  clear hL0
  have hin2:∀ (S:aj) (H:ac) (X:Option (Ex × St)),au 2 [1,4,5,6] (L0 S H)=X→S 1 = .ref 1 none 0 0 0→S 4 = .rsl 19 none 3 0 o.length→S 5=I i→S 6=I 0→S 7=I 0→H 1 = .bx [I a.vars,.sl 4 (cW a.terms)]→H 19 = .ar 3 (kQ o) →
    ∃ hh,X=some (.normal,⟨upd (upd (upd (upd (fun _ => .any) 6 (I q)) 5 (I i)) 4 (.rsl 19 none 3 0 o.length)) 1 (.ref 1 none 0 0 0),hh⟩)∧hh 1 = .bx [I a.vars,.sl 4 (cW a.terms)]∧hh 19 = .ar 3 (kQ o):=fun S H X hX=>by
   rw [← hX]
   exact hin S H
  clear hin
  generalize aq _ _ _=L at ih2 ⊢
  simp only [cV] at e3
  simp only [gO,hX,go_sem,↓reduceIte,alS,alU,alT,alX,h1,h4,h5,k1,k19,e1]
  generalize hB:au 2 [1,4,5,6] (L0 _ _)=X
  obtain ⟨hh,rfl,g1,g19⟩:=hin2 _ _ _ hB rfl rfl rfl rfl rfl rfl rfl
  simp only [go_sem,↓reduceIte,alS,alU,alT,alV,g1,g19,e3,e7,e8,e9,e10,e11,e5,Mk,Int.toNat_natCast,Nat.zero_add]
  refine ih2 _ _ ?_ ?_ ?_ ?_ ?_
  all_goals first | rfl | exact g1
theorem Q9:∀ (l:List Rt) (o:List (Option Rd)),(∀ t ∈ l,(∀ e ∈ t.exps,0≤e)∧bl t.exps≤1)→JD l o=kR l o
 | [],o,_=>rfl
 | t::l,o,h=>by
  obtain ⟨h1,h2⟩:=h t (List.mem_cons_self ..)
  have h3:=Q7 t.exps 0 h1 h2
  unfold JD kR
  rw [show (jr 1 t.exps 0+1).toNat=tO t.exps 0 0 by omega]
  exact Q9 l _ fun u hu=>h u (List.mem_cons_of_mem _ hu)
theorem LA {a:Rp} (ok:OkP a):R F.r24_Linear [a8 a] []=some (D8 a,[]):=by
 refine aB Ib Ia (BT false) rfl ?_
 have hv:=qP ok
 have hd:=Lz ok
 unfold D8
 simp only [a8] at hv hd
 by_cases hl:oE a=true
 ·rw [if_pos hl]
  obtain ⟨hb,hs⟩:=Ea hl
  rw [hb] at hv
  have h1:rR a≤1:=by
   simp only [oE,Bool.and_eq_true,decide_eq_true_eq] at hl
   exact hl.2
  generalize rR a=g at hd h1
  have e1:(1 < g)=False:=ff (by omega)
  obtain ⟨v1,v2,v3,v4⟩:=qQ hb
  have ho:=Q8 (a:=a) v2 v3 (fun t ht=>(lM hb ht).2.1) a.terms.length 0 (Nat.zero_add _) (List.replicate (a.vars.toNat+1) none) (by rw [List.length_replicate]; omega)
  simp only [List.drop_zero,Int.natCast_zero,List.length_replicate] at ho
  rw [Q9 a.terms _ fun t ht=>⟨fun e he=>((lM hb ht).1.2 e he).1,hs t ht⟩] at ho
  have hl2:=uW a.terms (List.replicate (a.vars.toNat+1) none)
  have hn:=Mm (kR a.terms (List.replicate (a.vars.toNat+1) none))
  unfold kS
  generalize kR a.terms (List.replicate (a.vars.toNat+1) none)=O at ho hl2 hn ⊢
  rw [List.length_replicate] at hl2
  generalize hN:a.vars.toNat+1=N at ho hl2 ⊢
  have e2:IntKind.i64.wrap (a.vars+1)=(N:Int):=by rw [i64_in] <;> omega
  have e3:=fU (i:=(N:Int)) (j:=(N:Int)) (l:=N) (c:=N) rfl rfl (Nat.le_refl _) (by omega)
  have e4:(N*40≤140737488355328)=True:=tt (by omega)
  have e5:(0+N≤O.length)=True:=tt (by omega)
  have e6:(N=O.length)=True:=tt hl2.symm
  have h':∀ (S:aj) (H:ac) (X:Option (Ex × St)),au 0 [4] (aq (ak R (ae false) gO) [1,4,5] [1,19] S H)=X→S 1 = .ref 1 none 0 0 0→S 4 = .rsl 19 none 3 0 N→S 5=I 0→H 1 = .bx [I a.vars,.sl 4 (cW a.terms)]→H 19 = .ar 3 (kQ (List.replicate N none)) →
    ∃ hh,X=some (.normal,⟨upd (fun _ => .any) 4 (.rsl 19 none 3 0 N),hh⟩)∧hh 19 = .ar 3 (kQ O):=fun S H X hX=>by
   rw [← hX]
   exact ho S H
  simp only [gE,nC,a8,go_sem,↓reduceIte,alS,alU,alT,alV,hv,hd,e1,e2,e3,e4,Ml]
  generalize hB:au 0 [4] (aq _ _ _ _ _)=X
  obtain ⟨hh,rfl,g1⟩:=h' _ _ _ hB rfl rfl rfl rfl rfl
  simp only [go_sem,↓reduceIte,alS,alV,alW,g1,e5,e6,hn,bG]
 ·rw [if_neg hl]
  cases hb:vp a with
  | false =>
   rw [hb] at hv
   simp only [gE,nC,a8,go_sem,↓reduceIte,alS,alU,alT,alV,hv,bG,iT]
  | true =>
   rw [hb] at hv
   have h1 : ¬ rR a≤1:=fun h=>hl (by simp [oE,hb,h])
   generalize rR a=g at hd h1
   have e1:(1 < g)=True:=tt (by omega)
   simp only [gE,nC,a8,go_sem,↓reduceIte,alS,alU,alT,alV,hv,hd,e1,bG,iT]
end Go.Ab
namespace Go.Ab
open Go Go.IntWalk
set_option maxRecDepth 4000
set_option maxHeartbeats 1000000
theorem OG {x:Ri}:R F.r24_Corner [.sl 7 (dB [x]),I 0] []=some (bG [x.lo],[]):=by
 refine aB wU wT (sp false) rfl ?_
 have e1:cd .shr (I 0) (I 0)=some (I 0):=rfl
 have e2:cd .and (I 0) (I 1)=some (I 0):=rfl
 have e3:IntKind.i64.wrap (0+1)=1:=by decide
 have n1:((1:Nat):Int)=1:=rfl
 simp only [jw,rp,dB,List.map_cons,List.map_nil,bu,bG,iT,am,go_sem,↓reduceIte,alS]
 rw [ao]
 simp only [nG,e1,e2,e3,n1,xz,go_sem,↓reduceIte,alS,alU,alT,alV,alW,alY,al0]
 rw [ao]
 simp only [n1,go_sem,↓reduceIte,alS,alT,alV,alW,alY,alX]
theorem OH {x:Ri}:R F.r24_Corner [.sl 7 (dB [x]),I 1] []=some (bG [x.hi],[]):=by
 refine aB wU wT (sp false) rfl ?_
 have e1:cd .shr (I 1) (I 0)=some (I 1):=rfl
 have e2:cd .and (I 1) (I 1)=some (I 1):=rfl
 have e3:IntKind.i64.wrap (0+1)=1:=by decide
 have n1:((1:Nat):Int)=1:=rfl
 simp only [jw,rp,dB,List.map_cons,List.map_nil,bu,bG,iT,am,go_sem,↓reduceIte,alS]
 rw [ao]
 simp only [nG,e1,e2,e3,n1,xz,go_sem,↓reduceIte,alS,alU,alT,alV,alW,alY]
 rw [ao]
 simp only [n1,go_sem,↓reduceIte,alS,alT,alV,alW,alY,alX]
theorem Ra {x:Ri} (ok:OkI x) {p:Int}:R F.r05_Round [bv x,I p] []=some (bv (rS x p),[]):=by
 refine aB KP KO (Dh false) rfl ?_
 have hp:=Tq (p:=p)
 have hk:=Q0 ok
 have hw:=Ft
 unfold rS
 simp only [bv,bu] at hk hw
 cases h1:kM p with
 | false =>
  rw [h1] at hp
  rw [Bool.false_and,if_neg Bool.false_ne_true]
  simp only [it,pj,bv,bu,go_sem,↓reduceIte,alS,alU,alT,alV,hp,hw]
 | true =>
  rw [h1] at hp
  rw [Bool.true_and]
  cases h2:kI x with
  | false =>
   rw [h2] at hk
   rw [if_neg Bool.false_ne_true]
   simp only [it,pj,bv,bu,go_sem,↓reduceIte,alS,alU,alT,alV,hp,hk,hw]
  | true =>
   rw [h2] at hk
   rw [if_pos rfl]
   have ha:=Fq ok.lo (p:=p) (up:=false)
   have hb:=Fq ok.hi (p:=p) (up:=true)
   generalize qk x.lo p false=A at ha ⊢
   generalize qk x.hi p true=D at hb ⊢
   obtain ⟨A1,A2⟩:=A
   obtain ⟨D1,D2⟩:=D
   have hm:=Ts (a:=A1) (b:=D1) (e:=A2) (f:=D2)
   generalize uT (A1,A2) (D1,D2)=z at hm ⊢
   simp only [rV,ai,am,bv,bu] at ha hb hm
   simp only [it,pj,bv,bu,go_sem,↓reduceIte,alS,alU,alT,alV,hp,hk,ha,hb,hm]
theorem Wl {d:Rd} (hb:Lb d.m) (hl:d.m.length≤100000):R F.l24_same [ai d,ai d] []=some (B true,[]):=by
 refine aB Ny Nx (FP false) rfl ?_
 have h:=xv hb hl
 simp only [ai,am] at h
 simp only [pi,Bz,ai,am,go_sem,↓reduceIte,alS,alU,alT,alV,h]
theorem TE {l:List Rd} (hl:∀ d ∈ l,Lb d.m∧d.m.length≤100000) (h2:l.length≤100000):∀ (k i:Nat),i+k=l.length→∀ (s:aj) (h:ac),s 1=bG l→s 2 = .fn F.l24_same [] []→s 15=bG l→s 16=I l.length→s 17=I i →
  ∃ hh,au 0 [] (aq (ak R (ae false) aI) [1,2,15,16,17] [] s h)=some (.normal,⟨fun _ => .any,hh⟩):=by
 intro k
 induction k with
 | zero =>
  intro i hi s h h1 h2 h15 h16 h17
  have e1:((i:Int) < l.length)=False:=ff (by omega)
  rw [ao]
  unfold bG at h1 h15
  refine ⟨?hh0,?_⟩
  rotate_left
  ·simp only [aI,go_sem,↓reduceIte,alS,h1,h2,h15,h16,h17,e1]
   rfl
 | succ k ih =>
  intro i hi s h h1 h2 h15 h16 h17
  have hlt:i < l.length:=by omega
  have e1:((i:Int) < l.length)=True:=tt (by omega)
  have e2:aN (iT l) (i:Int)=some (.ipt (am l[i])):=x5 rfl (List.getElem?_eq_getElem hlt)
  have e5:IntKind.i64.wrap ((i:Int)+1)=((i+1:Nat):Int):=wi (by omega) (by omega)
  obtain ⟨o1,o2⟩:=hl l[i] (List.getElem_mem hlt)
  have ih':=ih (i+1) (by omega)
  rw [ao]
  generalize aq _ _ _=L at ih' ⊢
  generalize l[i]=d at e2 o1 o2 ⊢
  have hs:=Wl o1 o2
  unfold bG at h1 h15 ih'
  simp only [ai,am] at hs e2
  simp only [aI,go_sem,↓reduceIte,alS,alU,alT,alV,h1,h2,h15,h16,h17,e1,e2,e5,hs]
  exact ih' _ _ rfl rfl rfl rfl rfl
theorem Rb {l:List Rd} (hl:∀ d ∈ l,Lb d.m∧d.m.length≤100000) (h2:l.length≤100000):R F.slices_EqualFunc_api_Dyadic_Sapi_Dyadic_api_Dyadic_api_Dyadic_ [bG l,bG l,.fn F.l24_same [] []] []=some (B true,[]):=by
 refine aB dL dK (dq false) rfl ?_
 have h:=TE hl h2 l.length 0 (Nat.zero_add _)
 simp only [Int.natCast_zero] at h
 have h':∀ (S:aj) (H:ac) (X:Option (Ex × St)),au 0 [] (aq (ak R (ae false) aI) [1,2,15,16,17] [] S H)=X→S 1=bG l→S 2 = .fn F.l24_same [] []→S 15=bG l→S 16=I l.length→S 17=I 0→∃ hh,X=some (.normal,⟨fun _ => .any,hh⟩):=fun S H X hX=>by
  rw [← hX]
  exact h S H
 clear h
 unfold bG at h' ⊢
 simp only [aP,bH,go_sem,↓reduceIte,alS]
 generalize hB:au 0 [] (aq _ _ _ _ _)=X
 obtain ⟨hh,rfl⟩:=h' _ _ _ hB rfl rfl rfl rfl rfl
 simp only [go_sem,↓reduceIte]
end Go.Ab
namespace Go.Ab
open Go Go.IntWalk
set_option maxRecDepth 4000
set_option maxHeartbeats 1000000
@[go_sem] theorem ai3 (l:List Rd):(iT l).map (b9 [.o 0 [],.o 2 [],.o 0 []])=iT l:=by
 refine xn fun x hx => ?_
 simp only [iT,List.mem_map] at hx
 obtain ⟨t,ht,rfl⟩:=hx
 simp only [am,go_sem]
theorem MA {xs:List Rd}:∀ (l:List Rt) (s:Rd),vd s=true∧Ok0 s→vd (fR xs l s).1=true∧Ok0 (fR xs l s).1
 | [],s,h=>h
 | t::l,s,h=>by
  cases hp:ip t.exps xs t.c with
  | none=>rw [FB hp]; exact fe
  | some d =>
   rw [FA hp]
   split
   ·exact MA l _ (tN s d)
   ·exact fe
theorem JE (a:Rp) (xs:List Rd):vd (fS a xs).1=true∧Ok0 (fS a xs).1:=by
 unfold fS
 split
 ·exact MA _ _ fe
 ·exact fe
def OI (r s:Rd × Int):AV:=if r.2=0 then (if s.2=0 then .tup [bG [r.1,s.1],I 0] else .tup [bG [],I s.2]) else .tup [bG [],I r.2]
theorem LB {a:Rp} {x:Ri} (oa:OkP a) (ox:OkI x) (hd:rQ a [x]=true):R F.r24_Corners [a8 a,.sl 7 (dB [x])] []=some (OI (fS a [x.lo]) (fS a [x.hi]),[]):=by
 refine aB FS FR (zL false) rfl ?_
 have hD:=zj oa (dom:=[x]) (fun y hy=>by rw [List.mem_singleton.1 hy]; exact ox) (by exact (by decide:1≤100000))
 rw [hd] at hD
 have c0:=OG (x:=x)
 have c1:=OH (x:=x)
 have e0:=FC oa (xs:=[x.lo]) (fun y hy=>by rw [List.mem_singleton.1 hy]; exact ox.lo) (by exact (by decide:1≤100000))
 have e1:=FC oa (xs:=[x.hi]) (fun y hy=>by rw [List.mem_singleton.1 hy]; exact ox.hi) (by exact (by decide:1≤100000))
 unfold OI
 generalize fS a [x.lo]=E0 at e0 ⊢
 generalize fS a [x.hi]=E1 at e1 ⊢
 obtain ⟨A,i⟩:=E0
 obtain ⟨D,j⟩:=E1
 have n1:((1:Nat):Int)=1:=rfl
 have s1:cd .shl (I 1) (I 1)=some (I 2):=rfl
 have w1:IntKind.i64.wrap (0+1)=1:=by decide
 have w2:IntKind.i64.wrap (1+1)=2:=by decide
 simp only [a8,dB,List.map_cons,List.map_nil,bu] at hD c0 c1
 simp only [rV,a8,bG,iT,List.map_cons,List.map_nil,ai,am] at e0 e1 c0 c1
 simp only [lh,u9,a8,dB,List.map_cons,List.map_nil,bu,bG,iT,am,go_sem,↓reduceIte,alS,alU,alT,alV,hD]
 rw [ao]
 by_cases hi:i=0
 ·have f1:(i=0)=True:=tt hi
  rw [if_pos hi]
  simp only [gk,n1,s1,w1,c0,e0,f1,go_sem,↓reduceIte,alS,alU,alT,alV,alW,alY,alX]
  rw [ao]
  by_cases hj:j=0
  ·have f2:(j=0)=True:=tt hj
   rw [if_pos hj]
   simp only [n1,s1,w2,c1,e1,f2,true_or,go_sem,↓reduceIte,alS,alU,alT,alV,alW,alY,alX]
   rw [ao]
   simp only [n1,s1,go_sem,↓reduceIte,alS,alT,alV,alW,alY,alX]
  ·have f2:(j=0)=False:=ff hj
   rw [if_neg hj]
   simp only [n1,s1,c1,e1,f2,go_sem,↓reduceIte,alS,alU,alT,alV,alW,alY,alX]
 ·have f1:(i=0)=False:=ff hi
  rw [if_neg hi]
  simp only [gk,n1,s1,c0,e0,f1,go_sem,↓reduceIte,alS,alU,alT,alV,alW,alY,alX]
theorem xA:(true != true)=false:=rfl
theorem MB {d:Rd} {p:Int} {up:Bool}:vd (qk d p up).1=true∧Ok0 (qk d p up).1:=by
 unfold qk
 split
 ·exact Yb
 ·exact fe
theorem Rc {x:Ri} {p:Int}:VI (rS x p):=by
 unfold rS
 split
 ·unfold uT
  split
  ·exact ⟨MB,MB⟩
  ·exact Yj
 ·exact Yj
theorem Wm {a:Rp} {dom:List Ri} {p:Int} (haw:R F.l24_awake [] []=some (B true,[])) (oc:∀ t ∈ a.terms,Ok0 t.c) (od:∀ x ∈ dom,OkI x):R F.l24_BoundLinear [a8 a,.sl 7 (dB dom),I p] []=some (B true,[]):=by
 refine aB ym yl (uG false) rfl ?_
 have hf:=Yi (a:=a)
 have hn:=We (l:=dom)
 simp only [a8] at hf
 cases h1:Oy a with
 | false =>
  rw [h1] at hf
  simp only [aX,bp,a8,go_sem,↓reduceIte,alS,alU,alT,alV,haw,hf]
 | true =>
 rw [h1] at hf
 cases h2:G9 dom with
 | false =>
  rw [h2] at hn
  simp only [aX,bp,a8,go_sem,↓reduceIte,alS,alU,alT,alV,haw,hf,hn]
 | true =>
 rw [h2] at hn
 by_cases h3:200 < p
 ·have e3:(200 < p)=True:=tt h3
  simp only [aX,bp,a8,go_sem,↓reduceIte,alS,alU,alT,alV,haw,hf,hn,e3]
 have e3:(200 < p)=False:=ff h3
 unfold Oy at h1
 unfold G9 at h2
 simp only [Bool.and_eq_true,decide_eq_true_eq,Bool.not_eq_true'] at h1 h2
 have oa:OkP a:=⟨fun t ht=>⟨oc t ht,by
  have:=List.any_eq_false.1 h1.2.2 t ht
  unfold uV at this
  simp only [Bool.or_eq_true,decide_eq_true_eq,not_or] at this
  omega⟩⟩
 have l1:=Fw oa
 have l2:=LA oa
 unfold D8 at l1 l2
 by_cases hl:oE a=true
 ·rw [if_pos hl] at l1 l2
  obtain ⟨hv,hs⟩:=Ea hl
  obtain ⟨k1,k2⟩:=Mv oa hv
  have hE:=Rb (l:=kS a) (fun d hd=>⟨(k1 d hd).2.lb,Nat.le_trans (tL (k1 d hd).1 (k1 d hd).2.lb) (by decide)⟩) (by rw [k2]; have:=(qQ hv).2.1; omega)
  by_cases c1:a.vars=1
  ·have f1:(a.vars=1)=True:=tt c1
   have hD:=zj oa od (by omega)
   have hP:=Jt (p:=p)
   cases hd:rQ a dom with
   | false =>
    rw [hd] at hD
    generalize kS a=l at l1 l2 hE
    simp only [a8,bG] at l1 l2 hE hD
    simp only [aX,bp,a8,go_sem,↓reduceIte,alS,alU,alT,alV,haw,hf,hn,e3,l1,l2,hE,xu,xA,f1,hD]
   | true =>
   rw [hd] at hD
   cases hp:kM p with
   | false =>
    rw [hp] at hP
    generalize kS a=l at l1 l2 hE
    simp only [a8,bG] at l1 l2 hE hD
    simp only [aX,bp,a8,go_sem,↓reduceIte,alS,alU,alT,alV,haw,hf,hn,e3,l1,l2,hE,xu,xA,f1,hD,hP]
   | true =>
   rw [hp] at hP
   obtain ⟨x,hx⟩:∃ x,dom=[x]:=by
    have:(dom.length:Int)=a.vars:=by
     simp only [rQ,Bool.and_eq_true,decide_eq_true_eq] at hd
     exact hd.2.1
    match dom,this with
    | [x],_=>exact ⟨x,rfl⟩
    | [],h=>simp only [List.length_nil] at h; omega
    | _::_::_,h=>simp only [List.length_cons] at h; omega
   obtain ⟨c,m,hlin⟩:∃ c m,kS a=[c,m]:=by
    have hk:(kS a).length=2:=by rw [k2,c1]; rfl
    match kS a,hk with
    | [c,m],_=>exact ⟨c,m,rfl⟩
   have kc:=k1 c (by rw [hlin]; exact List.mem_cons_self ..)
   have km:=k1 m (by rw [hlin]; exact List.mem_cons_of_mem _ (List.mem_cons_self ..))
   have hB:=TA oa od (p:=p) (by rw [hd,hp]; rfl) hl c1 hlin hx
   have kx:kI x=true:=by
    simp only [rQ,Bool.and_eq_true,Bool.not_eq_true'] at hd
    have h8:=List.any_eq_false.1 hd.2.2 x (by rw [hx]; exact List.mem_cons_self ..)
    simpa using h8
   have vx:vd x.lo=true∧vd x.hi=true:=by
    have k3:=kx
    simp only [kI,vi,Bool.and_eq_true,Bool.not_eq_true'] at k3
    rw [k3.1] at k3
    simp at k3
    exact ⟨k3.1,k3.2.1⟩
   have ox:=od x (by rw [hx]; exact List.mem_cons_self ..)
   have q0:=JA oa hl c1 hlin vx.1 ox.lo
   have q1:=JA oa hl c1 hlin vx.2 ox.hi
   rw [hlin] at l1 l2 hE
   subst hx
   have hC:=LB oa ox hd
   unfold OI at hC
   obtain ⟨w0,y0⟩:=JE a [x.lo]
   obtain ⟨w1,y1⟩:=JE a [x.hi]
   by_cases g0:(fS a [x.lo]).2=0
   ·rw [if_pos g0] at hC
    by_cases g1:(fS a [x.hi]).2=0
    ·rw [if_pos g1] at hC
     have m0:(aY m x.lo).2=0:=by
      rw [q0] at g0
      split at g0
      ·assumption
      ·exact absurd g0 (show ((9:Int)=0)→False by decide)
     have m1:(aY m x.hi).2=0:=by
      rw [q1] at g1
      split at g1
      ·assumption
      ·exact absurd g1 (show ((9:Int)=0)→False by decide)
     rw [if_pos m0] at q0
     rw [if_pos m1] at q1
     have hr:=OC kc.1 km.1 kx hp m0 m1 (by rw [← q0]; exact g0) (by rw [← q1]; exact g1)
     rw [← q0,← q1] at hr
     rw [hr] at hB
     generalize (fS a [x.lo]).1=A at hC hB w0 y0
     generalize (fS a [x.hi]).1=D at hC hB w1 y1
     have hcm:=Mh y0 y1 w0 w1
     have hex:OkI (Jz A D):=by
      unfold Jz
      split
      ·exact ⟨y1,y0⟩
      ·exact ⟨y0,y1⟩
     have hR:=Ra hex (p:=p)
     have hq:=Oz (Rc (x:=Jz A D) (p:=p)).len
     generalize rS (Jz A D) p=z at hB hR hq
     unfold Jz at hR
     generalize bw (zI A) (zI D)=cm at hcm hR
     simp only [a8,bG,iT,dB,List.map_cons,List.map_nil,bu,am,ai] at l1 l2 hE hD hC hB hcm hn
     by_cases h5:0 < cm
     ·have f5:(0 < cm)=True:=tt h5
      rw [if_pos h5] at hR
      simp only [bv,bu] at hB hR hq
      simp only [aX,bp,a8,dB,List.map_cons,List.map_nil,bu,go_sem,↓reduceIte,alS,alU,alT,alV,alW,alX,xz,Jy,haw,hf,hn,e3,l1,l2,hE,xu,xA,f1,hD,hP,hC,hB,hcm,hR,hq,f5]
     ·have f5:(0 < cm)=False:=ff h5
      rw [if_neg h5] at hR
      simp only [bv,bu] at hB hR hq
      simp only [aX,bp,a8,dB,List.map_cons,List.map_nil,bu,go_sem,↓reduceIte,alS,alU,alT,alV,alW,alX,xz,Jy,haw,hf,hn,e3,l1,l2,hE,xu,xA,f1,hD,hP,hC,hB,hcm,hR,hq,f5]
    ·rw [if_neg g1] at hC
     have f4:((fS a [x.hi]).2=0)=False:=ff g1
     generalize (fS a [x.hi]).2=ee at hC f4
     simp only [a8,bG,iT,dB,List.map_cons,List.map_nil,bu,am] at l1 l2 hE hD hC hn
     simp only [aX,bp,a8,dB,List.map_cons,List.map_nil,bu,go_sem,↓reduceIte,alS,alU,alT,alV,haw,hf,hn,e3,l1,l2,hE,xu,xA,f1,hD,hP,hC,f4]
   ·rw [if_neg g0] at hC
    have f4:((fS a [x.lo]).2=0)=False:=ff g0
    generalize (fS a [x.lo]).2=ee at hC f4
    simp only [a8,bG,iT,dB,List.map_cons,List.map_nil,bu,am] at l1 l2 hE hD hC hn
    simp only [aX,bp,a8,dB,List.map_cons,List.map_nil,bu,go_sem,↓reduceIte,alS,alU,alT,alV,haw,hf,hn,e3,l1,l2,hE,xu,xA,f1,hD,hP,hC,f4]
  ·have f1:(a.vars=1)=False:=ff c1
   generalize kS a=l at l1 l2 hE
   simp only [a8,bG] at l1 l2 hE
   simp only [aX,bp,a8,go_sem,↓reduceIte,alS,alU,alT,alV,haw,hf,hn,e3,l1,l2,hE,xu,xA,f1]
 ·rw [if_neg hl] at l1 l2
  have hE:=Rb (l:=[]) (fun d hd=>nomatch hd) (by decide)
  simp only [a8,bG] at l1 l2 hE
  simp only [aX,bp,a8,go_sem,↓reduceIte,alS,alU,alT,alV,haw,hf,hn,e3,l1,l2,hE,Ye,xA]
end Go.Ab
