/-
  A law of tapes on models holds at every input that the statement speaks of, under the conditions that its card names. Part E1.
-/
import Derived.Test.YtoaheljbgnbicaaGreatDoorD1
open Nat renaming add_mul → avP, add_zero → av1, div_add_mod → awi, le_of_ble_eq_true → avW, le_refl → avt, le_trans → avx, lt_of_le_of_lt → awl, lt_of_lt_of_le → awn, min_eq_left → awm, mod_eq_of_lt → awh, mod_lt → av3, mul_assoc → avT, mul_comm → avM, mul_le_mul_left → awq, mul_le_mul_right → avA, pow_add → avG, pow_le_pow_right → av8, pow_succ → awb, reduceMod → av0, reduceSub → avV, two_pow_pos → avJ, zero_add → avs, zero_le → av6
open Int renaming lt_irrefl → awf, natCast_zero → av7, reduceEq → avX, reduceLE → avZ, reduceLT → avO, reduceToNat → avU, toNat_natCast → avy
open Bool renaming and_eq_true → avv, and_self → awa, false_and → avC, false_eq_true → awo, false_ne_true → avD, not_eq_true' → awu, true_and → avz
open List renaming all_cons → avQ, all_eq_true → avK, append_assoc → awe, append_nil → avE, cons_append → avS, drop_eq_getElem_cons → avI, drop_eq_nil_of_le → avH, getElem_mem → avN, length_append → awj, length_cons → av2, length_drop → aws, length_map → awk, length_nil → awd, length_replicate → awr, length_take → avF, map_congr_left → avR, map_cons → avY, map_id' → av5, map_nil → av4, mem_map → awc, nil_append → avB, replicate → avr, take_of_length_le → avL
open Option renaming bind_eq_some_iff → avq, bind_some → avw, map_eq_some_iff → avu, map_some → av9
open Rat renaming mul_le_mul_of_nonneg_right → awg
set_option linter.all false
namespace Go.Ab
open Go Go.IntWalk
set_option maxRecDepth 4000
set_option maxHeartbeats 8000000
def QW:Option Rd->List AV
 |none=>[B false,.emp,I 0]
 |some d=>aj d
def Ef(l:List (Option Rd)):List (List AV):=l.map QW
@[go_sem] theorem as8(l:List (Option Rd)):(Ef l).length=l.length:=by simp[Ef]
theorem ahk{l:List (Option Rd)}{i:Nat}{o:Option Rd}(h:l[i]?=some o):(Ef l)[i]?=some (QW o):=by grind[Ef]
theorem ahl(l:List (Option Rd))(i:Nat)(d:Rd):(Ef l).set i (aj d)=Ef (l.set i (some d)):=by simp[Ef,List.map_set,QW]
theorem ahm(n:Nat):avr n [B false,.emp,I 0]=Ef (avr n none):=by simp[Ef,QW]
def XJ(l:List (Option Rd)):List Rd:=l.map fun o=>o.getD aI
theorem ahn(l:List (Option Rd)):(Ef l).map (dU [.o 0 [],.o 2 [],.o 0 []])=D8 (XJ l):=by
 simp only[Ef,XJ,D8,List.map_map];refine avR fun o _=>?_;cases o with
 |none=>simp only[Function.comp,QW,aj,aI,Option.getD,go_sem]
 |some d=>simp only[Function.comp,QW,aj,Option.getD,go_sem]
theorem aho(o:Option Rd)(d:Rd):(((QW o).set 0 (B d.neg)).set 1 (lm d.m)).set 2 (I d.e)=aj d/\(3<=(QW o).length)=True:=by
 cases o<;>exact⟨rfl,tt (avt 3)⟩
def A7:List Rt->List (Option Rd)->List (Option Rd)
 |[],o=>o
 |t::l,o=>A7 l (o.set (wC 1 t.exps 0+1).toNat (some t.c))
theorem XK(x:Int):∀ (l:List Int) (i:Nat),-1<=wC x l i/\wC x l i<l.length+i
 |[],i=>by
  grind[wC,awd]
 |y::l,i=>by
  unfold wC;have:=XK x l (i+1);grind
theorem aeT{a:Rp}(hv:∀t∈a.terms,(t.exps.length:Int)=a.vars)(h8:a.vars<=8)(h5:a.terms.length<=500):∀ (k i:Nat),i+k=a.terms.length->∀ (o:List (Option Rd)),(o.length:Int)=a.vars+1->∀ (s:ak) (h:ac),
  s 4=.rsl 18 none 3 0 o.length->s 20=.sl 4 (aH a.terms)->s 21=I a.terms.length->s 22=I i->h 1=.bx [I a.vars,.sl 4 (aH a.terms)]->h 18=.ar 3 (Ef o)->
  ∃hh,ah 0 [4] (av (ai R (ax false) lP) [4,20,21,22] [1,18] s h)=some (.normal,⟨upd (fun _=>.any) 4 (.rsl 18 none 3 0 o.length),hh⟩)/\hh 18=.ar 3 (Ef (A7 (a.terms.drop i) o)):=by
 intro k;induction k with
 |zero=>
  intro i hi o ho s h h4 h20 h21 h22 k1 k18;have e1:((i:Int)<a.terms.length)=False:=ff;rw[avH ω,ag];refine⟨?hh0,?_,?_⟩;rotate_left
  ·simp only[lP,go_sem,avV,avO,avZ,avX,avU,av0,h4,h20,h21,h22,k1,k18,e1];rfl
  ·rfl
 |succ k ih=>
  intro i hi o ho s h h4 h20 h21 h22 k1 k18;have hlt:i<a.terms.length:=ω
  have e1:((i:Int)<a.terms.length)=True:=tt;have e2:bp (aH a.terms) (i:Int)=some (.ipt (cx a.terms[i])):=iX rfl (List.getElem?_eq_getElem hlt);have e5:IntKind.i64.wrap ((i:Int)+1)=((i+1:Nat):Int):=wi;have c1:=hv a.terms[i] (avN hlt);rw[avI hlt,ag];have ih':=ih (i+1) ω;unfold A7;generalize a.terms[i]=t at e2 c1⊢;have hx:=aeS (l:=t.exps) (x:=1) ω;obtain⟨x1,x2⟩:=XK 1 t.exps 0;have e6:IntKind.i64.wrap (wC 1 t.exps 0+1)=((wC 1 t.exps 0+1).toNat:Int):=by grind[i64_in]
  generalize hn:(wC 1 t.exps 0+1).toNat=n at e6⊢;have hn2:n<o.length:=ω
  have e7:(0<=(n:Int))=True:=tt;have e8:((n:Int)< (o.length:Int))=True:=tt;have e9:=ahk (List.getElem?_eq_getElem hn2);obtain⟨e10,e11⟩:=aho o[n] t.c;have ih2:=ih' (o.set n (some t.c)) γ;rw[List.length_set]at ih2;simp only[cx]at e2;simp only[lP,go_sem,avV,avO,avZ,avX,avU,av0,h4,h20,h21,h22,k1,k18,e1,e2,hx,e6,e7,e8,e9,e10,e11,e5,ahl,avy,avs];exact ih2 _ _ rfl rfl rfl rfl rfl rfl
theorem Mi:∀ (l:List Rt) (o:List (Option Rd)),(A7 l o).length=o.length
 |[],o=>rfl
 |t::l,o=>by
  unfold A7;rw[Mi l,List.length_set]
def E2(a:Rp):Bool:=vp a&&decide (iI a<=1)
def Ho(a:Rp):List Rd:=XJ (A7 a.terms (avr (a.vars.toNat+1) none))
def U9(a:Rp):AV:=if E2 a=true then .tup [BW (Ho a),B true]else .tup [BW [],B false]
theorem QX{a:Rp}(ok:OkP a):R F.bound_Linear [aZ a] []=some (U9 a,[]):=by
 refine aB Pa rfl ?_;have hv:=uS ok;have hd:=EZ ok;unfold U9 E2;simp only[aZ]at hv hd;cases hb:vp a with
 |false=>
  rw[hb]at hv;simp only[oV,vG,aZ,go_sem,avV,avO,avZ,avX,avU,av0,hv,BW,D8]
 |true=>
  rw[hb]at hv;rw[avz];generalize hg:iI a=g at hd⊢;by_cases h1:g<=1
  ·have e1:(1<g)=False:=ff;rw[if_pos (decide_eq_true h1)];obtain⟨v1,v2,v3,v4⟩:=SJ hb;have hl:=aeT (a:=a) (fun t ht=>(Kb hb ht).2.1) v2 v3 a.terms.length 0 (avs _) (avr (a.vars.toNat+1) none) γ;simp only[List.drop_zero,av7,awr]at hl;have hl2:=Mi a.terms (avr (a.vars.toNat+1) none);have hn:=ahn (A7 a.terms (avr (a.vars.toNat+1) none));unfold Ho;generalize A7 a.terms (avr (a.vars.toNat+1) none)=O at hl hl2 hn⊢;rw[awr]at hl2;generalize hN:a.vars.toNat+1=N at hl hl2⊢;have e2:IntKind.i64.wrap (a.vars+1)=(N:Int):=by grind[i64_in]
   have e3:=uK (i:=(N:Int)) (j:=(N:Int)) (l:=N) (c:=N) rfl rfl (avt _) ω;have e4:(N*40<=140737488355328)=True:=tt;have e5:(0+N<=O.length)=True:=tt;have e6:(N=O.length)=True:=tt hl2.symm;have h':∀ (S:ak) (H:ac) (X:Option (Ex×St)),ah 0 [4] (av (ai R (ax false) lP) [4,20,21,22] [1,18] S H)=X->S 4=.rsl 18 none 3 0 N->S 20=.sl 4 (aH a.terms)->S 21=I a.terms.length->S 22=I 0->H 1=.bx [I a.vars,.sl 4 (aH a.terms)]->H 18=.ar 3 (Ef (avr N none))->
     ∃hh,X=some (.normal,⟨upd (fun _=>.any) 4 (.rsl 18 none 3 0 N),hh⟩)/\hh 18=.ar 3 (Ef O):=fun S H X hX=>by
    rw[←hX];exact hl S H
   simp only[oV,vG,aZ,go_sem,avV,avO,avZ,avX,avU,av0,hv,hd,e1,e2,e3,e4,ahm];generalize hB:ah 0 [4] (av _ _ _ _ _)=X;obtain⟨hh,g0,g1⟩:=h' _ _ _ hB rfl rfl rfl rfl rfl rfl;rw[g0];simp only[go_sem,avV,avO,avZ,avX,avU,av0,g1,e5,e6,hn,BW]
  ·have e1:(1<g)=True:=tt;rw[if_neg (fun h=>h1 (of_decide_eq_true h))];simp only[oV,vG,aZ,go_sem,avV,avO,avZ,avX,avU,av0,hv,hd,e1,BW,D8]
def fV(a b:Rd):Rd×Int:=if(vd a&&vd b)=true then cX (eK (zI a*zI b) (-32768))else(aI,1)
def ns(a b:Rd):Rd×Int:=if(vd a&&vd b)=true then cX (eK (zI a+zI b) (-16384))else(aI,1)
theorem A8{z f:Int}:vd (cX (eK z f)).1=true/\Ok0 (cX (eK z f)).1:=by
 unfold cX eK;by_cases h:qU (ae (ab (bF (decide (z<0)) z.natAbs f).m)) (bF (decide (z<0)) z.natAbs f).e=true
 ·rw[if_pos h];have hv:=J6 h;have hb:=AP (decide (z<0)) z.natAbs f;exact⟨hv,hb,awl (zN hv hb) δ⟩
 simp_all[if_neg,bh]
theorem Kc(a b:Rd):vd (fV a b).1=true/\Ok0 (fV a b).1:=by
 grind[fV,A8,bh]
theorem ahp(a b:Rd):vd (ns a b).1=true/\Ok0 (ns a b).1:=by
 grind[ns,A8,bh]
theorem Gg{d:Rd}(h:vd d=true)(h0:d.m.length≠0):ab d.m%2=1:=by
 obtain⟨h1,h2,h3,h4⟩:=BU h h0;cases hm:d.m with
 |nil=>grind
 |cons x l=>
  grind[ab]
theorem Va{x y:Nat}(hx:x≠0)(hy:y≠0):ae x+ae y-2<ae (x*y):=by
 have h1:=gZ hx;have h2:=gZ hy;have h3:2^ (ae x-1)<=x:=jN.1 ω;have h4:2^ (ae y-1)<=y:=jN.1 ω;rw[jN,show ae x+ae y-2=(ae x-1)+(ae y-1)by omega,avG];exact Nat.mul_le_mul h3 h4
theorem ahq{a b:Rd}(oa:Ok0 a)(ob:Ok0 b):SH a b=rV (fV a b):=by
 unfold SH fV;by_cases hv:vd a=true/\vd b=true
 ·obtain⟨va,vb⟩:=hv;rw[if_pos ⟨va,vb⟩,va,vb,avz,if_pos rfl,←acp oa ob va vb];by_cases h0:a.m.length=0\/b.m.length=0
  ·rw[if_pos h0];have:ab a.m*ab b.m=0:=by
    rcases h0 with h0|h0
    ·rw[List.length_eq_zero_iff.1 h0];exact Nat.zero_mul _
    ·rw[List.length_eq_zero_iff.1 h0];exact Nat.mul_zero _
   rw[this,mA];rfl
  ·rw[if_neg h0];have a0:a.m.length≠0:=fun h=>h0 (.inl h);have b0:b.m.length≠0:=fun h=>h0 (.inr h);have x0:=dJ va a0;have y0:=dJ vb b0;by_cases hb:4096<ae (ab a.m)+ae (ab b.m)-1
   ·rw[if_pos hb];have h1:=Va x0 y0;have ho:ab a.m*ab b.m%2=1:=by grind[Nat.mul_mod,Gg]
    have ht:=aco ho 0;rw[Nat.pow_zero,Nat.mul_one]at ht;obtain⟨g1,g2,g3,g4⟩:=xK (neg:=a.neg !=b.neg) (e:=a.e+b.e) (Nat.mul_ne_zero x0 y0);unfold cX;rw[if_neg]
    ·rfl
    ·intro h2;rw[g1,ht,Nat.pow_zero,Nat.div_one]at h2;have h3:=(AN h2 ω).1;omega
   simp_all[if_neg,J3]
 ·rw[if_neg hv,if_neg]
  ·rfl
  grind
theorem PC{a b:Rd}(oa:Ok0 a)(ob:Ok0 b):R F.dyadic_Mul [af a,af b] []=some (rV (fV a b),[]):=by
 grind[ahq,ag5]
def QY(m:Rd)(x:Ri):Rd:=if gb m<0 then x.hi else x.lo
def QZ(m:Rd)(x:Ri):Rd:=if gb m<0 then x.lo else x.hi
def aan(c:Rd)(a b:Rd×Int)(p:Int):Ri:=if a.2=0/\b.2=0 then tT (dt c a.1 p false) (dt c b.1 p true)else dy
def Hp(c m:Rd)(x:Ri)(p:Int):Ri:=aan c (fV m (QY m x)) (fV m (QZ m x)) p
theorem ahr{c m:Rd}{x:Ri}(oc:Ok0 c)(om:Ok0 m)(vm:vd m=true)(ox:OkI x){p:Int}:R F.bound_line [af c,af m,am x,I p] []=some (am (Hp c m x p),[]):=by
 refine aB Ur rfl ?_;have hs:=D6 om vm;have hw:=Hm;unfold Hp aan tT;simp only[af,aj]at hs;simp only[am,aq,dy]at hw;have key:∀lo hi:Rd,lo=QY m x->hi=QZ m x->Ok0 lo->Ok0 hi->jV false gx.rs gx.res 0 (ai R (ax false) gx.body (te [af c,af m,am x,I p]) fun _=>.dead)=some (am (if(fV m lo).2=0/\(fV m hi).2=0 then(if(dt c (fV m lo).1 p false).2=0/\(dt c (fV m hi).1 p true).2=0 then⟨(dt c (fV m lo).1 p false).1,(dt c (fV m hi).1 p true).1,false⟩else dy)else dy),[]):=by
  intro lo hi e1 e2 ol oh;have h1:=PC om ol;have h2:=PC om oh;have o1:=(Kc m lo).2;have o2:=(Kc m hi).2;generalize fV m lo=A at h1 o1⊢;generalize fV m hi=D at h2 o2⊢;have h3:=Hk oc o1 (p:=p);have h4:=UY oc o2 (p:=p);generalize dt c A.1 p false=Y at h3⊢;generalize dt c D.1 p true=Z at h4⊢;obtain⟨A1,A2⟩:=A;obtain⟨D1,D2⟩:=D;obtain⟨Y1,Y2⟩:=Y;obtain⟨Z1,Z2⟩:=Z;unfold QY at e1;unfold QZ at e2;simp only[rV,af,aj]at h1 h2 h3 h4;have hc:((gb m<0)=True/\lo=x.hi/\hi=x.lo)\/((gb m<0)=False/\lo=x.lo/\hi=x.hi):=by
   grind
  clear e1 e2;rcases hc with⟨e0,rfl,rfl⟩| ⟨e0,rfl,rfl⟩
  all_goals
   by_cases a1:A2=0
   ·have f1:(A2=0)=True:=tt a1;by_cases a2:D2=0
    ·have f2:(D2=0)=True:=tt a2;rw[if_pos ⟨a1,a2⟩];by_cases a3:Y2=0
     ·have f3:(Y2=0)=True:=tt a3;by_cases a4:Z2=0
      ·have f4:(Z2=0)=True:=tt a4;rw[if_pos ⟨a3,a4⟩];simp only[gx,qy,af,aj,am,aq,dy,go_sem,avV,avO,avZ,avX,avU,av0,hs,e0,h1,h2,h3,h4,f1,f2,f3,f4]
      ·have f4:(Z2=0)=False:=ff a4;rw[if_neg (fun h=>a4 h.2)];simp only[gx,qy,af,aj,am,aq,dy,go_sem,avV,avO,avZ,avX,avU,av0,hs,e0,h1,h2,h3,h4,f1,f2,f3,f4,hw]
     ·have f3:(Y2=0)=False:=ff a3;rw[if_neg (fun h=>a3 h.1)];simp only[gx,qy,af,aj,am,aq,dy,go_sem,avV,avO,avZ,avX,avU,av0,hs,e0,h1,h2,h3,h4,f1,f2,f3,hw]
    ·have f2:(D2=0)=False:=ff a2;rw[if_neg (fun h=>a2 h.2)];simp only[gx,qy,af,aj,am,aq,dy,go_sem,avV,avO,avZ,avX,avU,av0,hs,e0,h1,h2,h3,h4,f1,f2,hw]
   ·have f1:(A2=0)=False:=ff a1;rw[if_neg (fun h=>a1 h.1)];simp only[gx,qy,af,aj,am,aq,dy,go_sem,avV,avO,avZ,avX,avU,av0,hs,e0,h1,h2,h3,h4,f1,hw]
 by_cases hm:gb m<0
 ·exact key _ _ rfl rfl (by unfold QY;rw[if_pos hm];exact ox.hi) (by unfold QZ;rw[if_pos hm];exact ox.lo)
 ·exact key _ _ rfl rfl (by unfold QY;rw[if_neg hm];exact ox.lo) (by unfold QZ;rw[if_neg hm];exact ox.hi)
theorem XL:∀ (l:List Rt) (o:List (Option Rd)),(∀t∈l,vd t.c=true/\Ok0 t.c)->(∀x∈o,∀d,x=some d->vd d=true/\Ok0 d)->∀x∈A7 l o,∀d,x=some d->vd d=true/\Ok0 d
 |[],o,_,ho=>ho
 |t::l,o,hl,ho=>by
  unfold A7;refine XL l _ (fun u hu=>hl u (List.mem_cons_of_mem _ hu)) fun x hx d hd=>?_;rcases List.mem_or_eq_of_mem_set hx with h|h
  ·exact ho x h d hd
  ·rw[h]at hd;obtain rfl:=Option.some.inj hd;exact hl t (List.mem_cons_self ..)
theorem XM{a:Rp}(oa:OkP a)(hv:vp a=true):(∀d∈Ho a,vd d=true/\Ok0 d)/\(Ho a).length=a.vars.toNat+1:=by
 constructor
 ·intro d hd;simp only[Ho,XJ,awc]at hd;obtain⟨o,ho,rfl⟩:=hd;have:=XL a.terms (avr (a.vars.toNat+1) none) (fun t ht=>⟨(Kb hv ht).2.2.1,(oa.t t ht).c⟩) (fun x hx d hd=>by
   rw[List.eq_of_mem_replicate hx]at hd;exact nomatch hd) o ho
  cases o with
  |none=>exact bh
  |some d=>exact this d rfl
 ·simp[Ho,XJ,Mi]
theorem aj5(a l):bp (a::l) 0=some (.ipt a):=by simp[bp]
theorem aj6(a b l):bp (a::b::l) 1=some (.ipt b):=by simp[bp]
theorem aeU{a:Rp}{dom:List Ri}(oa:OkP a)(od:∀x∈dom,OkI x){p:Int}(hf:(nP a dom&&bQ p)=true)(hl:E2 a=true)(h1:a.vars=1){c m:Rd}{x:Ri}(hlin:Ho a=[c,m])(hdom:dom=[x]):
  R F.bound_Bernstein [aZ a,.sl 7 (bc dom),I p] []=some (am (Hp c m x p),[]):=by
 refine aB jM rfl ?_;have h2:dom.length<=100000:=by rw[hdom];exact(by decide:1<=100000)
 have hf1:=J7 oa od h2 (p:=p);rw[hf]at hf1;have hL:=QX oa;unfold U9 at hL;rw[if_pos hl,hlin]at hL;have hv:vp a=true:=by
  simp only[E2,avv]at hl;exact hl.1
 obtain⟨k1,k2⟩:=XM oa hv;rw[hlin]at k1;have kc:=k1 c (List.mem_cons_self ..);have km:=k1 m (List.mem_cons_of_mem _ (List.mem_cons_self ..));have hn:=ahr kc.2 km.2 km.1 (od x (by rw[hdom];exact List.mem_cons_self ..)) (p:=p);generalize Hp c m x p=z at hn⊢;subst hdom;have e1:(a.vars=1)=True:=tt h1;simp only[aZ,bc,avY,av4,aq]at hf1 hL;simp only[BW,D8,avY,av4,aj]at hL;simp only[af,aj,am,aq]at hn;simp only[go,jJ,aZ,bc,avY,av4,am,aq,go_sem,avV,avO,avZ,avX,avU,av0,hf1,hL,hn,e1,aj5,aj6]
theorem Kd{z:Int}{j:Nat}(h:(cX (eK z (-16384-j))).2=0):zI (cX (eK z (-16384-j))).1*2^j=z:=by
 unfold cX at h⊢;by_cases hr:qU (ae (ab (eK z (-16384-j)).m)) (eK z (-16384-j)).e=true
 ·rw[if_pos hr];unfold eK at hr⊢;by_cases h0:z.natAbs=0
  ·have:z=0:=ω
   rw[this,du rfl,Int.zero_mul]
  ·obtain⟨g1,g2,g3,g4⟩:=xK (neg:=decide (z<0)) (e:=-16384- (j:Int)) h0;obtain⟨t1,t2⟩:=AG h0;have hp:ae (ab (bF (decide (z<0)) z.natAbs (-16384-j)).m)≠0:=by
    grind[gZ]
   have he:=AN hr hp;rw[nj h0];unfold zI mg;rw[br];have ht:(-16384- (j:Int)+(tz z.natAbs:Nat)+16384).toNat+j=tz z.natAbs:=ω
   generalize(-16384- (j:Int)+(tz z.natAbs:Nat)+16384).toNat=k at ht⊢;have hm:(((z.natAbs/2^tz z.natAbs*2^k:Nat):Int))*2^j=z.natAbs:=by
    have:z.natAbs/2^tz z.natAbs*2^k*2^j=z.natAbs:=by
     grind[avT,avG,avM]
    grind
   grind
 grind
theorem ahs{a b:Rd}(h:(ns a b).2=0):zI (ns a b).1=zI a+zI b:=by
 unfold ns at h⊢;split at h
 ·have:=Kd (z:=zI a+zI b) (j:=0) h;grind
 omega
theorem aht{a b:Rd}(h:(fV a b).2=0):zI (fV a b).1*2^16384=zI a*zI b:=by
 unfold fV at h⊢;split at h
 ·rename_i h1;rw[if_pos h1];exact Kd (z:=zI a*zI b) (j:=16384) h
 omega
theorem aj7{q t:List Int}(h:cw q t<0):bt q<=bt t:=by
 unfold cw eJ at h;omega
theorem XN{v:Int}:∀ (l:List Rt) (pr:Option Rt),BY v pr l=true->∀u∈l.getLast?,∀t∈l,bt t.exps<=bt u.exps
 |[],_,_,u,hu,_,_=>nomatch hu
 |[t],_,_,u,hu,w,hw=>by
  grind
 |t::s::l,pr,h,u,hu,w,hw=>by
  have h2:BY v (some t) (s::l)=true:=by
   simp_all[BY,avv]
  have hu2:u∈ (s::l).getLast?:=γ
  have ih:=XN (s::l) (some t) h2 u hu2;rcases List.mem_cons.1 hw with h3|h3
  ·rw[h3];unfold BY at h2;simp only[avv]at h2;have h4:cw t.exps s.exps<0:=of_decide_eq_true h2.2.1;exact Int.le_trans (aj7 h4) (ih s (List.mem_cons_self ..))
  grind
theorem ahu{a:Rp}(h:E2 a=true):vp a=true/\∀t∈a.terms,bt t.exps<=1:=by
 simp only[E2,avv,decide_eq_true_eq]at h;refine⟨h.1,fun t ht=>?_⟩;have h2:=h.2;unfold iI at h2;rw[if_pos h.1]at h2;cases hl:a.terms.getLast? with
 |none=>grind
 |some u=>
  rw[hl]at h2;exact Int.le_trans (XN a.terms none (SJ h.1).2.2.2 u ω t ht) h2
theorem ahv{t:Rt}(h:(t.exps.length:Int)=1):∃e,t.exps=[e]:=by
 match t.exps,h with
 |[e],_=>grind
 |[],h=>grind
 |_::_::l,h=>grind
abbrev zb:List AV:=[B false,.emp,I 0]
@[go_sem] theorem as9(l:List Rd):(D8 l).map (dU [.o 0 [],.o 2 [],.o 0 []])=D8 l:=by
 refine qV fun x hx=>?_;simp only[D8,awc]at hx;obtain⟨t,ht,rfl⟩:=hx;simp only[aj,go_sem]
theorem Hq{d:Rd}(h:vd d=true):cX d=(d,0):=by
 unfold cX;by_cases h0:d.m.length=0
 ·rw[C7 h h0];rfl
 simp_all[if_pos,BU]
theorem Jj{d:Rd}(ok:Ok0 d)(h:vd d=true):bF d.neg (ab d.m) d.e=d:=by
 have h1:=Ka ok h;obtain⟨g1,g2,g3,g4⟩:=eY h ok.lb;have hz:zI d=cp d.neg (mg d):=rfl;rw[hz,←A6]at h1;grind[mg,kK]
theorem XO{N k:Nat}{neg:Bool}(ho:N%2=1)(hb:4096<ae N):cX (bF neg (N*2^k) (-16384))=(aI,9):=by
 have h0:N≠0:=ω
 rw[kK];obtain⟨g1,g2,g3,g4⟩:=xK (neg:=neg) (e:=-16384+(k:Int)) h0;have ht:=aco ho 0;rw[Nat.pow_zero,Nat.mul_one]at ht;unfold cX;rw[if_neg];intro h2;rw[g1,ht,Nat.pow_zero,Nat.div_one]at h2;have h3:=(AN h2 ω).1;omega
theorem Vb{a b:Rd}(oa:Ok0 a)(ob:Ok0 b)(va:vd a=true)(vb:vd b=true)(na:a.m.length≠0)(nb:b.m.length≠0){e:Int}(he:e=if b.e<a.e then b.e else a.e)(h:4097<aV a-e)(hg:1<aV a-aV b):
  cX (eK (zI a+zI b) (-16384))=(aI,9)/\cX (eK (zI b+zI a) (-16384))=(aI,9):=by
 obtain⟨a1,a2,a3,a4⟩:=eY va oa.lb;obtain⟨b1,b2,b3,b4⟩:=eY vb ob.lb;have e1:=jF va na;have e2:=jF vb nb;have he1:-16384<=e/\e<=a.e/\e<=b.e/\(e=a.e\/e=b.e):=by
  omega
 have hne:a.e≠b.e:=ω
 have z1:zI a=cp a.neg (ab a.m*2^ (a.e-e).toNat*2^ (e+16384).toNat):=by
  grind[zI,cp,mg,AO]
 have z2:zI b=cp b.neg (ab b.m*2^ (b.e-e).toNat*2^ (e+16384).toNat):=by
  rw[show zI b=cp b.neg (mg b)from rfl,AO he1.1 he1.2.2.1]
 have bx:(ae (ab a.m*2^ (a.e-e).toNat):Int)=aV a-e:=by
  grind[dW,dJ]
 have by':(ae (ab b.m*2^ (b.e-e).toNat):Int)=aV b-e:=by
  grind
 have oX:=Gg va na;have oY:=Gg vb nb;have odd:(ab a.m*2^ (a.e-e).toNat+ab b.m*2^ (b.e-e).toNat) %2=1:=by
  rcases he1.2.2.2 with h1|h1
  ·omega
  ·obtain⟨k,hk⟩:∃k,(a.e-e).toNat=k+1:=⟨(a.e-e).toNat-1,by omega⟩;rw[show(b.e-e).toNat=0 by omega,hk,Nat.pow_zero,Nat.mul_one,awb,←avT];omega
 rw[Int.add_comm (zI b),and_self,z1,z2];generalize ab a.m*2^ (a.e-e).toNat=x at bx odd⊢;generalize ab b.m*2^ (b.e-e).toNat=y at by' odd⊢;generalize(e+16384).toNat=k;have hx:2^ (ae x-1)<=x:=jN.1 ω;have hy:y<2^ (ae x-2):=by
  have h3:y<2^ae y:=bV.1 (avt _);grind[awn,av8]
 have hp:2^ (ae x-1)=2^ (ae x-2)*2:=by
  rw[←awb];grind
 have hbig:∀N:Nat,x-y<=N->4096<ae N:=fun N hN=>by
  have h5:ae x-2<ae N:=jN.2 ω;omega
 have hsum:∀ (n:Bool) (z:Nat),eK (cp n (z*2^k)) (-16384)=bF n (z*2^k) (-16384):=fun n z=>A6.symm;by_cases hs:a.neg=b.neg
 ·have hz:cp a.neg (x*2^k)+cp b.neg (y*2^k)=cp a.neg ((x+y)*2^k):=by
   rw[←hs,avP];cases a.neg
   all_goals grind[rP,tQ]
  grind[XO]
 ·have hbn:b.neg=!a.neg:=by
   grind
  have hz:cp a.neg (x*2^k)+cp b.neg (y*2^k)=cp a.neg ((x-y)*2^k):=by
   grind[Bool.not_true,rP,tQ]
  rw[hz,hsum];exact XO ω (hbig _ (avt _))
noncomputable def qL:Cmd:=.seq (.dops [2,3,4,6,9,10] [fa 65 1 2,ld 66 1 65,fa 67 2 2,ld 68 1 67,cm 69 6,b2 70 .sub 68 69,ca 71 F.dyadic_shifted [.t 66,.t 70],fa 72 1 3,ld 73 1 72,fa 74 2 3,ld 75 1 74,cm 76 6,b2 77 .sub 75 76,ca 78 F.dyadic_shifted [.t 73,.t 77],cm 9 71,cm 10 78] [(6,8),(6,10)]) (.seq (.seq (.ops [2,3,4,6,9,10,83] [fa 79 0 2,ld 80 1 79,fa 81 0 3,ld 82 1 81,co 83 (.eqc false 0 (.t 80) (.t 82))]) (.cond (.t 83) (.seq (.ops [2,4,6,11] [cm 85 9,cm 86 10,ca 87 F.natural_Add [.t 85,.t 86],cm 84 87,co 88 (.ext 0 (.t 84)),co 89 (.ext 1 (.t 84)),cm 11 88,cm 12 89]) (.seq (.ops [4,5] [fa 90 0 2,ld 91 1 90,cm 92 11,cm 93 6,ca 94 F.dyadic_canonical [.t 91,.t 92,.t 93],ca 95 F.dyadic_checked [.t 94],co 96 (.ext 0 (.t 95)),co 97 (.ext 1 (.t 95)),sr 3 (.t 4) (.t 96),cm 5 97]) (.ret))) (.skip))) (.seq (.seq (.ops [2,3,4,6,9,10,101] [cm 98 9,cm 99 10,ca 100 F.natural_Cmp [.t 98,.t 99],co 101 (.bin .lss (.t 100) (.c (I 0)))]) (.cond (.t 101) (.ops [2,4,6,9,10] [la 102 3 3,cm 103 10,cm 104 9,sr 3 (.t 2) (.t 102),cm 9 103,cm 10 104]) (.skip))) (.seq (.ops [2,4,6,13] [cm 106 9,cm 107 10,ca 108 F.natural_Sub [.t 106,.t 107],cm 105 108,co 109 (.ext 0 (.t 105)),co 110 (.ext 1 (.t 105)),cm 13 109,cm 14 110]) (.seq (.ops [4,5] [fa 111 0 2,ld 112 1 111,cm 113 13,cm 114 6,ca 115 F.dyadic_canonical [.t 112,.t 113,.t 114],ca 116 F.dyadic_checked [.t 115],co 117 (.ext 0 (.t 116)),co 118 (.ext 1 (.t 116)),sr 3 (.t 4) (.t 117),cm 5 118]) (.ret)))))
theorem tr:zo=.seq (.ops [2,3,4] [bx 2 3 (.t 0),bx 3 3 (.t 1),al 4 [B false,.emp,I 0],co 5 (.mv (.c (I 0)))]) (.seq (.seq (.ops [2,3,4,24] [fa 15 1 2,ld 16 1 15,co 17 (.len false (.t 16)),co 18 (.bin .eql (.t 17) (.c (I 0))),cm 19 18,cg 20 19 false (.fadr 1 (.t 3)),⟨(some 21),(some (19,false)),.load 1 false (.t 20)⟩,cg 22 19 false (.len false (.t 21)),cg 23 19 false (.bin .eql (.t 22) (.c (I 0))),co 24 (.pick (.t 19) (.c (B true)) (.t 23))]) (.cond (.t 24) (.seq (.seq (.ops [2,3,4,28] [fa 25 1 2,ld 26 1 25,co 27 (.len false (.t 26)),co 28 (.bin .eql (.t 27) (.c (I 0)))]) (.cond (.t 28) (.ops [2,4] [la 29 3 3,sr 3 (.t 2) (.t 29)]) (.skip))) (.seq (.ops [4,5] [fa 30 0 2,ld 31 1 30,fa 32 1 2,ld 33 1 32,fa 34 2 2,ld 35 1 34,ca 36 F.dyadic_canonical [.t 31,.t 33,.t 35],sr 3 (.t 4) (.t 36),co 5 (.mv (.c (I 0)))]) (.ret))) (.skip))) (.seq (.ops [2,3,4,6] [fa 37 2 2,ld 38 1 37,fa 39 2 3,ld 40 1 39,co 41 (.mnx true (.t 38) [.t 40]),cm 6 41]) (.seq (.dops [2,3,4,6,7,8] [la 42 3 2,ca 43 F.dyadic_Top [.t 42],la 44 3 3,ca 45 F.dyadic_Top [.t 44],cm 7 43,cm 8 45] [(1,2)]) (.seq (.seq (.ops [2,3,4,6,63] [cm 46 7,cm 47 8,co 48 (.mnx false (.t 46) [.t 47]),cm 49 6,b2 50 .sub 48 49,co 51 (.bin .gtr (.t 50) (.c (I 4097))),cm 52 51,cg 53 52 true (.mv (.t 7)),cg 54 52 true (.mv (.t 8)),cg 55 52 true (.bin .sub (.t 53) (.t 54)),cg 56 52 true (.bin .gtr (.t 55) (.c (I 1))),cg 57 52 true (.mv (.t 56)),cg 58 57 false (.mv (.t 8)),cg 59 57 false (.mv (.t 7)),cg 60 57 false (.bin .sub (.t 58) (.t 59)),cg 61 57 false (.bin .gtr (.t 60) (.c (I 1))),cg 62 52 true (.pick (.t 57) (.c (B true)) (.t 61)),co 63 (.pick (.t 52) (.t 62) (.c (B false)))]) (.cond (.t 63) (.seq (.ops [4,5] [co 64 (.build [B false,.emp,I 0] []),sr 3 (.t 4) (.t 64),co 5 (.mv (.c (I 9)))]) (.ret)) (.skip))) qL)))):=rfl
theorem acr{a b:Rd}(oa:Ok0 a)(ob:Ok0 b)(va:vd a=true)(vb:vd b=true)(na:a.m.length≠0)(nb:b.m.length≠0){e:Int}(he1:-16384<=e/\e<=a.e/\e<=b.e)(hX:aV a-e<=5000)(hY:aV b-e<=5000)(s:ak)
  (h2:s 2=.ref 2 none 0 0 0) (h3:s 3=.ref 3 none 0 0 0) (h4:s 4=.ref 4 none 0 0 0) (h6:s 6=I e):
  jV false [[.o 0 [],.o 2 [],.o 0 []],[]] [.cell 4 3 true,.t 5] 0 (ai R (ax false) qL s (upd (upd (upd (fun _=>.dead) 2 (.bx (aj a))) 3 (.bx (aj b))) 4 (.bx [B false,.emp,I 0])))=some (rV (cX (eK (zI a+zI b) (-16384))),[]):=by
 obtain⟨a1,a2,a3,a4⟩:=eY va oa.lb;obtain⟨b1,b2,b3,b4⟩:=eY vb ob.lb;have e1:=jF va na;have e2:=jF vb nb;have w1:IntKind.i64.wrap (a.e-e)=(((a.e-e).toNat:Nat):Int):=wi;have w2:IntKind.i64.wrap (b.e-e)=(((b.e-e).toNat:Nat):Int):=wi;have z1:zI a=cp a.neg (ab a.m*2^ (a.e-e).toNat*2^ (e+16384).toNat):=by
  grind[zI,cp,mg,AO]
 have z2:zI b=cp b.neg (ab b.m*2^ (b.e-e).toNat*2^ (e+16384).toNat):=by
  rw[show zI b=cp b.neg (mg b)from rfl,AO he1.1 he1.2.2]
 have bx:ae (ab a.m*2^ (a.e-e).toNat)<=5000:=by
  grind[dW,dJ]
 have by':ae (ab b.m*2^ (b.e-e).toNat)<=5000:=by
  grind[dW,dJ]
 have l1:=C0 oa.lb a1 (k:=(a.e-e).toNat) ω (avx (bg (k:=157) ω) δ);have l2:=C0 ob.lb b1 (k:=(b.e-e).toNat) ω (avx (bg (k:=157) ω) δ);rw[z1,z2];generalize ab a.m*2^ (a.e-e).toNat=x at l1 bx⊢;generalize ab b.m*2^ (b.e-e).toNat=y at l2 by'⊢;have hsum:∀ (n:Bool) (z:Nat),bF n z e=eK (cp n (z*2^ (e+16384).toNat)) (-16384):=fun n z=>by
  rw[←A6,kK,show-16384+(((e+16384).toNat:Nat):Int)=e by omega]
 have lx:(au x).length<=157:=bg ω;have ly:(au y).length<=157:=bg ω;have hq:Exq e:=⟨by omega,by omega⟩;have hcp:=zL (bH x) (bH y) ω ω;rw[br,br]at hcp;have chk:∀ (n:Bool) (z:Nat),ae z<=5001->R F.dyadic_canonical [B n,lm (au z),I e] []=some (af (bF n z e),[])/\R F.dyadic_checked [af (bF n z e)] []=some (rV (cX (bF n z e)),[]):=fun n z hz=>by
  have hl:(au z).length<=157:=bg ω;have c1:=ni (neg:=n) (m:=au z) (e:=e) (bH z) ω hq;rw[br]at c1;refine⟨c1,?_⟩;rw[CZ (AP n z e) (avx (D7 (k:=157) ω) δ)];exact congrArg (fun v=>some (v,[])) (J3 _)
 by_cases hs:a.neg=b.neg
 ·have p1:=Xy (x:=x) (y:=y) bx by';obtain⟨c1,c2⟩:=chk a.neg (x+y) (Hh bx by');have hz:cp a.neg (x*2^ (e+16384).toNat)+cp b.neg (y*2^ (e+16384).toNat)=cp a.neg ((x+y)*2^ (e+16384).toNat):=by
   rw[←hs,avP];cases a.neg
   all_goals grind[rP,tQ]
  rw[hz,←hsum];generalize bF a.neg (x+y) e=r at c1 c2⊢;generalize cX r=q at c2⊢;obtain⟨q1,q2⟩:=q;have hs2:(a.neg==b.neg)=true:=γ
  have hs3:(false != (a.neg==b.neg))=true:=γ
  simp only[rV,af,aj]at c1 c2;simp only[qL,rV,af,aj,go_sem,h2,h3,h4,h6,w1,w2,l1,l2,hs3,p1,c1,c2]
 ·have hs2:(a.neg==b.neg)=false:=by
   grind
  have hs3:(false != (a.neg==b.neg))=false:=γ
  have hbn:b.neg=!a.neg:=by
   grind
  have hb1:∀u v:Nat,ae u<=5000->ae (u-v)<=5001:=fun u v hu=>yb (Nat.sub_le u v) (avx hu δ);by_cases hlt:x<y
  ·have e5:(dV x y<0)=True:=tt (by simp_all[dV,if_pos]);have m1:=J4 (x:=y) (y:=x) by' bx ω;obtain⟨c1,c2⟩:=chk b.neg (y-x) (hb1 _ _ by');have hz:cp a.neg (x*2^ (e+16384).toNat)+cp b.neg (y*2^ (e+16384).toNat)=cp b.neg ((y-x)*2^ (e+16384).toNat):=by
    grind[Bool.not_true,rP,tQ]
   rw[hz,←hsum];generalize bF b.neg (y-x) e=r at c1 c2⊢;generalize cX r=q at c2⊢;obtain⟨q1,q2⟩:=q;simp only[rV,af,aj]at c1 c2;simp only[qL,rV,af,aj,go_sem,h2,h3,h4,h6,w1,w2,l1,l2,hs3,hcp,e5,m1,c1,c2]
  ·have e5:(dV x y<0)=False:=ff (by unfold dV;omega);have m1:=J4 (x:=x) (y:=y) bx by' ω;obtain⟨c1,c2⟩:=chk a.neg (x-y) (hb1 _ _ bx);have hz:cp a.neg (x*2^ (e+16384).toNat)+cp b.neg (y*2^ (e+16384).toNat)=cp a.neg ((x-y)*2^ (e+16384).toNat):=by
    grind[Bool.not_true,rP,tQ]
   rw[hz,←hsum];generalize bF a.neg (x-y) e=r at c1 c2⊢;generalize cX r=q at c2⊢;obtain⟨q1,q2⟩:=q;simp only[rV,af,aj]at c1 c2;simp only[qL,rV,af,aj,go_sem,h2,h3,h4,h6,w1,w2,l1,l2,hs3,hcp,e5,m1,c1,c2]
theorem XP{a b:Rd}(oa:Ok0 a)(ob:Ok0 b)(va:vd a=true)(vb:vd b=true):R F.dyadic_sum [af a,af b] []=some (rV (cX (eK (zI a+zI b) (-16384))),[]):=by
 refine aB Us rfl ?_;by_cases a0:a.m.length=0
 ·have e1:((a.m.length:Int)=0)=True:=tt;have hz:=C7 va a0;obtain⟨b1,b2,b3,b4⟩:=eY vb ob.lb;have c1:=ni (neg:=b.neg) (m:=b.m) (e:=b.e) ob.lb ω ⟨by omega,by omega⟩;have hr:bF b.neg (ab b.m) b.e=b:=Jj ob vb;have hk:cX (eK (zI a+zI b) (-16384))=(b,0):=by
   simp_all[du,Int.zero_add,Ka,Hq]
  rw[hr]at c1;rw[hk];simp only[af,aj]at c1;simp only[lI,zo,rV,af,aj,go_sem,e1,c1]
 have e1:((a.m.length:Int)=0)=False:=ff;obtain⟨a1,a2,a3,a4⟩:=eY va oa.lb;by_cases b0:b.m.length=0
 ·have e2:((b.m.length:Int)=0)=True:=tt;have c1:=ni (neg:=a.neg) (m:=a.m) (e:=a.e) oa.lb ω ⟨by omega,by omega⟩;have hr:bF a.neg (ab a.m) a.e=a:=Jj oa va;have hk:cX (eK (zI a+zI b) (-16384))=(a,0):=by
   simp_all[du,Int.add_zero,Ka,Hq]
  rw[hr]at c1;rw[hk];simp only[af,aj]at c1;simp only[lI,zo,rV,af,aj,go_sem,e1,e2,c1]
 have e2:((b.m.length:Int)=0)=False:=ff;obtain⟨b1,b2,b3,b4⟩:=eY vb ob.lb;have ta:=BV oa;have tb:=BV ob;have q1:=jF va a0;have q2:=jF vb b0;have p1:=gZ (dJ va a0);have p2:=gZ (dJ vb b0);simp only[af,aj]at ta tb;have g1:=fun h2 h3=>(Vb oa ob va vb a0 b0 rfl h2 h3).1;have g2:=fun h2 h3=>(Vb ob oa vb va b0 a0 rfl h2 h3).2;obtain⟨e,he⟩:∃e,(if b.e<a.e then b.e else a.e)=e:=⟨_,rfl⟩;have he2:(if a.e<b.e then a.e else b.e)=e:=by
  omega
 rw[he]at g1;rw[he2]at g2;have he1:-16384<=e/\e<=a.e/\e<=b.e:=by
  omega
 obtain⟨M,hM⟩:∃M,(if aV a<aV b then aV b else aV a)=M:=⟨_,rfl⟩;have w1:IntKind.i64.wrap (M-e)=M-e:=i64_in _ ⟨by omega,by omega⟩;have w2:IntKind.i64.wrap (aV a-aV b)=aV a-aV b:=i64_in _ ⟨by omega,by omega⟩;have w3:IntKind.i64.wrap (aV b-aV a)=aV b-aV a:=i64_in _ ⟨by omega,by omega⟩;by_cases h1:4097<M-e
 ·have f1:(4097<M-e)=True:=tt h1;by_cases h2:1<aV a-aV b
  ·have f2:(1<aV a-aV b)=True:=tt h2;rw[g1 ω h2];simp only[lI,tr,rV,aI,af,aj,go_sem,e1,e2,he,ta,tb,hM,w1,w2,f1,f2]
  ·have f2:(1<aV a-aV b)=False:=ff h2;by_cases h3:1<aV b-aV a
   ·have f3:(1<aV b-aV a)=True:=tt h3;rw[g2 ω h3];simp only[lI,tr,rV,aI,af,aj,go_sem,e1,e2,he,ta,tb,hM,w1,w2,w3,f1,f2,f3]
   omega
 ·have f1:(4097<M-e)=False:=ff h1;simp only[lI,tr,rV,af,aj,go_sem,e1,e2,he,ta,tb,hM,w1,f1];exact acr oa ob va vb a0 b0 he1 ω ω _ rfl rfl rfl rfl
theorem ahw{a b:Rd}(oa:Ok0 a)(ob:Ok0 b):R F.dyadic_Add [af a,af b] []=some (rV (ns a b),[]):=by
 refine aB Um rfl ?_;have v1:=eE oa;have v2:=eE ob;simp only[af,aj]at v1 v2;unfold ns;cases va:vd a with
 |false=>
  rw[va]at v1;simp only[sz,y7,rV,aI,af,aj,go_sem,v1]
 |true=>
  rw[va]at v1;cases vb:vd b with
  |false=>
   rw[vb]at v2;simp only[sz,y7,rV,aI,af,aj,go_sem,v1,v2]
  |true=>
   rw[vb]at v2;have hs:=XP oa ob va vb;simp only[rV,af,aj]at hs;simp only[sz,y7,rV,af,aj,go_sem,v1,v2,hs]
theorem Q0:∀a:List Int,lK a a=0
 |[]=>rfl
 |x::a=>by
  unfold lK;rw[if_pos (by unfold eJ;simp),Q0 a]
theorem XQ:∀ {a b:List Int},a.length=b.length->lK a b=0->a=b
 |[],[],_,_=>rfl
 |x::a,y::b,h,h2=>by
  unfold lK at h2;rcases nI x y with⟨g,e⟩| ⟨g,e⟩| ⟨g,e⟩<;>rw[e]at h2
  ·omega
  ·rw[g,XQ (by simpa using h) h2]
  omega
 |[],_::_,h,_=>by grind
 |_::_,[],h,_=>by grind
theorem Q1:∀ {a b:List Int},a.length=b.length->lK b a=-lK a b
 |[],[],_=>rfl
 |x::a,y::b,h=>by
  unfold lK;rcases nI x y with⟨g,e⟩| ⟨g,e⟩| ⟨g,e⟩<;>rcases nI y x with⟨g',e'⟩| ⟨g',e'⟩| ⟨g',e'⟩<;>rw[e,e']<;>first|omega| (simp;done)|skip
  exact Q1 (by simpa using h)
 |[],_::_,h=>by grind
 |_::_,[],h=>by grind
theorem XR:∀ {a b c:List Int},a.length=b.length->b.length=c.length->(lK a b<=0->lK b c<0->lK a c<0)/\(lK a b<0->lK b c<=0->lK a c<0)
 |[],[],[],_,_=>⟨fun _ h=>by omega,fun h _=>by omega⟩
 |x::a,y::b,z::c,h,h'=>by
  have ih:=XR (a:=a) (b:=b) (c:=c) γ γ;unfold lK;rcases nI x y with⟨g,e⟩| ⟨g,e⟩| ⟨g,e⟩<;>rcases nI y z with⟨g',e'⟩| ⟨g',e'⟩| ⟨g',e'⟩<;>rcases nI x z with⟨g2,e2⟩| ⟨g2,e2⟩| ⟨g2,e2⟩<;>rw[e,e',e2]<;>first|omega|skip
  all_goals first|exact ih|omega
 |[],[],_::_,_,h=>by grind
 |[],_::_,_,h,_=>by grind
 |_::_,[],_,h,_=>by grind
 |_::_,_::_,[],_,h=>by grind
theorem Q2(a:List Int):cw a a=0:=by
 simp_all[cw,if_pos,eJ,Q0]
theorem ahx{a b:List Int}(h:a.length=b.length)(h2:cw a b=0):a=b:=by
 unfold cw at h2;rcases nI (bt a) (bt b)with⟨g,e⟩| ⟨g,e⟩| ⟨g,e⟩<;>rw[e]at h2
 ·omega
 ·grind[XQ]
 omega
theorem Jk{a b:List Int}(h:a.length=b.length):cw b a=-cw a b:=by
 unfold cw;rcases nI (bt a) (bt b)with⟨g,e⟩| ⟨g,e⟩| ⟨g,e⟩<;>rcases nI (bt b) (bt a)with⟨g',e'⟩| ⟨g',e'⟩| ⟨g',e'⟩<;>rw[e,e']<;>first|omega| (simp;done)|skip
 grind[Q1]
theorem PD{a b c:List Int}(h:a.length=b.length)(h':b.length=c.length):(cw a b<=0->cw b c<0->cw a c<0)/\(cw a b<0->cw b c<=0->cw a c<0):=by
 have ih:=XR (a:=c) (b:=b) (c:=a) h'.symm h.symm;unfold cw;rcases nI (bt a) (bt b)with⟨g,e⟩| ⟨g,e⟩| ⟨g,e⟩<;>rcases nI (bt b) (bt c)with⟨g',e'⟩| ⟨g',e'⟩| ⟨g',e'⟩<;>rcases nI (bt a) (bt c)with⟨g2,e2⟩| ⟨g2,e2⟩| ⟨g2,e2⟩<;>rw[e,e',e2]<;>first|omega|skip
 all_goals first|exact⟨fun x y=>ih.2 y x,fun x y=>ih.1 y x⟩|omega
structure VT (v:Int) (t:Rt):Prop where
 c:Ok0 t.c
 len:(t.exps.length:Int)=v
 v8:v<=8
 vc:vd t.c=true
 nz:t.c.m.length≠0
 b:∀e∈t.exps,0<=e/\e<=32
 d:bt t.exps<=32
theorem VT.sm{v:Int}{t:Rt}(h:VT v t):sm t.exps:=⟨by have:=h.len;have:=h.v8;omega,h.b⟩
theorem VT.ok{v:Int}{t:Rt}(h:VT v t):OkT t:=⟨h.c,by have:=h.len;have:=h.v8;omega⟩
theorem VT.l2{v:Int}{t q:Rt}(h:VT v t)(h2:VT v q):t.exps.length=q.exps.length:=by have:=h.len;have:=h2.len;omega
structure Cl (v:Int) (l:List Rt):Prop where
 t:∀t∈l,VT v t
 s:l.Pairwise fun a b=>cw a.exps b.exps<0
theorem Cl.nil(v:Int):Cl v []:=⟨(fun _ h=>nomatch h),List.Pairwise.nil⟩
theorem Cl.cons{v:Int}{q:Rt}{l:List Rt}(h:Cl v (q::l)):VT v q/\(∀t∈l,cw q.exps t.exps<0)/\Cl v l:=
 ⟨h.t q σ,(List.pairwise_cons.1 h.s).1,fun t ht=>h.t t γ,(List.pairwise_cons.1 h.s).2⟩
theorem Cl.mk'{v:Int}{q:Rt}{l:List Rt}(h1:VT v q)(h2:∀t∈l,cw q.exps t.exps<0)(h3:Cl v l):Cl v (q::l):=
 ⟨fun t ht=>(List.mem_cons.1 ht).elim (fun e=>e▸h1) (h3.t t),List.pairwise_cons.2 ⟨h2,h3.s⟩⟩
theorem acs{v:Int}(hv:v<=8):∀ (l:List Rt) (pr:Option Rt),(∀t∈l,OkT t)->BY v pr l=true->Cl v l/\∀q,pr=some q->(q.exps.length:Int)=v->∀t∈l,cw q.exps t.exps<0
 |[],pr,_,_=>⟨Cl.nil v,fun _ _ _ t ht=>by grind⟩
 |t::l,pr,ok,h=>by
  unfold BY at h;simp only[avv]at h;obtain⟨h1,h2,h3⟩:=h;obtain⟨g1,g2⟩:=acs hv l (some t) (fun x hx=>ok x γ) h3;obtain⟨k1,k2,k3,k4,k5⟩:=Ee h1;have vt:VT v t:=⟨(ok t σ).c,k1,hv,k2,k3,AW k4,k5⟩;have gt:=g2 t rfl k1;refine⟨Cl.mk' vt gt g1,fun q hq hl x hx=>?_⟩;subst hq;have h4:=of_decide_eq_true h2;rcases List.mem_cons.1 hx with rfl|hx
  ·omega
  ·exact(PD ω (vt.l2 (g1.t x hx))).1 ω (gt x hx)
theorem lv{a:Rp}(oa:OkP a)(h:vp a=true):Cl a.vars a.terms/\0<=a.vars/\a.vars<=8/\a.terms.length<=500:=by
 unfold vp at h;simp only[avv,decide_eq_true_eq]at h;exact⟨(acs h.2.1 _ none oa.t h.2.2.2).1,h.1,h.2.1,h.2.2.1⟩
theorem act{v:Int}:∀ (l:List Rt) (pr:Option Rt),Cl v l->(∀q,pr=some q->∀t∈l,cw q.exps t.exps<0)->BY v pr l=true
 |[],pr,_,_=>by grind[BY]
 |t::l,pr,c,h=>by
  obtain⟨c1,c2,c3⟩:=c.cons;unfold BY;simp only[avv];refine⟨?_,?_,act l (some t) c3 fun q hq=>by grind⟩
  ·unfold NV;simp only[avv,decide_eq_true_eq];refine⟨c1.len,c1.vc,c1.nz,?_,c1.d⟩;rw[awu,List.any_eq_false];intro e he;have:=c1.b e he;grind[Ed]
  ·unfold aaj;grind
theorem SK{v:Int}{l:List Rt}(h:Cl v l)(h0:0<=v)(h8:v<=8)(hl:l.length<=500):vp ⟨v,l⟩=true:=by
 simp_all[vp,avv,decide_eq_true_eq,act]
theorem qM{v:Int}{l:List Rt}(h:Cl v l):OkP ⟨v,l⟩:=⟨fun t ht=>(h.t t ht).ok⟩
def cJ:List Rt->List Int->Nat
 |[],_=>0
 |q::l,x=>if cw q.exps x<0 then cJ l x+1 else 0
def wD:List Rt->Rt->Option (List Rt)
 |[],t=>some [t]
 |q::l,t=>if cw q.exps t.exps<0 then(wD l t).map (q::·)else if cw q.exps t.exps=0 then(if(ns q.c t.c).2=0 then some (if(ns q.c t.c).1.m.length=0 then l else⟨q.exps,(ns q.c t.c).1⟩::l)else none)else some (t::q::l)
theorem PE:∀ (l:List Rt) (x:List Int),cJ l x<=l.length
 |[],x=>avt _
 |q::l,x=>by
  unfold cJ;split
  all_goals simp_all[Nat.succ_le_succ,PE,av6]
theorem XS:∀ {l:List Rt} {x:List Int} {i:Nat} {q:Rt},i<cJ l x->l[i]?=some q->cw q.exps x<0
 |[],x,i,q,h,_=>by grind
 |p::l,x,i,q,h,hq=>by
  unfold cJ at h;split at h
  ·cases i with
   |zero=>grind
   |succ i=>exact XS (l:=l) (i:=i) ω γ
  omega
theorem PF:∀ {l:List Rt} {x:List Int} {q:Rt},l[cJ l x]?=some q->0<=cw q.exps x
 |[],x,q,h=>by grind
 |p::l,x,q,h=>by
  unfold cJ at h;split at h
  ·exact PF (l:=l) γ
  grind
theorem ahy{v:Int}{l:List Rt}{x:List Int}(c:Cl v l)(hx:(x.length:Int)=v){i:Nat}{q:Rt}(hi:cJ l x<i)(h:l[i]?=some q):0<cw q.exps x:=by
 have hlt:=(List.getElem?_eq_some_iff.1 h).1;have h1:l[cJ l x]?=some l[cJ l x]:=List.getElem?_eq_getElem ω;have h2:=PF h1;have h3:=(List.getElem?_eq_some_iff.1 h).2;have h4:cw (l[cJ l x]).exps q.exps<0:=by
  rw[←h3];exact List.pairwise_iff_getElem.1 c.s _ _ ω hlt hi
 have v1:=c.t _ (avN (by omega:cJ l x<l.length));have v2:=c.t q (List.mem_of_getElem? h);generalize l[cJ l x]=p at*
 have l1:x.length=p.exps.length:=by have:=v1.len;omega
 have h5:=(PD l1 (v1.l2 v2)).1 (by grind[Jk]) h4;rw[Jk (by have:=v2.len;omega:x.length=q.exps.length)];omega
theorem XT:∀ (l:List Rt) (t:Rt),wD l t=match l[cJ l t.exps]? with
  |none=>some (l.take (cJ l t.exps)++t::l.drop (cJ l t.exps))
  |some q=>if cw q.exps t.exps=0 then(if(ns q.c t.c).2=0 then some (if(ns q.c t.c).1.m.length=0 then l.take (cJ l t.exps)++l.drop (cJ l t.exps+1)else l.set (cJ l t.exps) ⟨q.exps,(ns q.c t.c).1⟩)else none)else some (l.take (cJ l t.exps)++t::l.drop (cJ l t.exps))
 |[],t=>rfl
 |q::l,t=>by
  unfold wD cJ;by_cases h:cw q.exps t.exps<0
  ·simp only[if_pos h,List.getElem?_cons_succ];rw[XT l t];cases l[cJ l t.exps]? with
   |none=>rfl
   |some p=>
    simp only[];split
    ·split
     ·split<;>rfl
     ·rfl
    ·rfl
  grind
theorem PG{v:Int}:∀ {l l':List Rt} {t:Rt},Cl v l->VT v t->wD l t=some l'->Cl v l'/\∀q:List Int,(q.length:Int)=v->(∀x∈l,cw q x.exps<0)->cw q t.exps<0->∀x∈l',cw q x.exps<0
 |[],l',t,c,vt,h=>by
  cases h;grind[Cl.mk']
 |p::l,l',t,c,vt,h=>by
  obtain⟨c1,c2,c3⟩:=c.cons;unfold wD at h;split at h
  ·rename_i h1;rw[avu]at h;obtain⟨l2,h2,rfl⟩:=h;obtain⟨g1,g2⟩:=PG c3 vt h2;refine⟨Cl.mk' c1 (g2 p.exps c1.len c2 h1) g1,fun q hq k1 k2 x hx=>?_⟩;grind
  ·split at h
   ·split at h
    ·cases h;split
     ·grind
     ·rename_i h4;obtain⟨a1,a2⟩:=ahp p.c t.c;refine⟨Cl.mk' ⟨a2,c1.len,c1.v8,a1,h4,c1.b,c1.d⟩ c2 c3,fun q hq k1 k2 x hx=>?_⟩;grind
    grind
   ·cases h;have h3:cw t.exps p.exps<0:=by
     rw[Jk (c1.l2 vt)];omega
    refine⟨Cl.mk' vt (fun x hx=>?_) c,fun q hq k1 k2 x hx=>?_⟩
    ·rcases List.mem_cons.1 hx with rfl|hx
     ·omega
     ·exact(PD (vt.l2 c1) (c1.l2 (c3.t x hx))).1 ω (c2 x hx)
    grind
theorem Mj:∀ {l l':List Rt} {t:Rt},wD l t=some l'->l'.length<=l.length+1
 |[],l',t,h=>by cases h;simp
 |p::l,l',t,h=>by
  unfold wD at h;split at h
  ·rw[avu]at h;obtain⟨l2,h2,rfl⟩:=h;simpa using Mj h2
  grind
theorem Vc:∀ {l:List Rt} {t:Rt},(∀q∈l,cw q.exps t.exps<0)->wD l t=some (l++[t])
 |[],t,_=>rfl
 |p::l,t,h=>by
  unfold wD;rw[if_pos (h p σ),Vc fun q hq=>h q (by simp[hq])];rfl
def qN:List Rt->List Rt->Option (List Rt)
 |l,[]=>some l
 |l,t::ts=>(wD l t).bind fun l'=>qN l' ts
theorem Vd:∀ (ts us:List Rt) (l:List Rt),qN l (ts++us)=(qN l ts).bind fun l'=>qN l' us
 |[],us,l=>rfl
 |t::ts,us,l=>by
  show(wD l t).bind _=((wD l t).bind _).bind _;cases wD l t with
  |none=>rfl
  |some l'=>exact Vd ts us l'
theorem Ke{v:Int}:∀ {ts l l':List Rt},Cl v l->(∀t∈ts,VT v t)->qN l ts=some l'->Cl v l'/\l'.length<=l.length+ts.length
 |[],l,l',c,_,h=>by cases h;grind
 |t::ts,l,l',c,vt,h=>by
  unfold qN at h;rw[avq]at h;obtain⟨l2,h2,h3⟩:=h;obtain⟨g1,g2⟩:=Ke (PG c (vt t σ) h2).1 (fun x hx=>vt x γ) h3;have:=Mj h2;grind
section
variable {call:ic} {md:Mode} {s:ak} {h:ac}
@[go_sem] theorem ata(d k x y rest):aF call md (⟨some d,none,.cpy k x y⟩::rest) s h=bq (dC md.nm s (some d) (OA h k (ev s x) (ev s y))) (aF call md rest):=θ _
@[go_sem] theorem aqO(d k x lo hi rest):aF call md (⟨some d,none,.slcM k x lo hi⟩::rest) s h=bq (dC md.nm s (some d) (JN h k (ev s x) (evo s lo) (evo s hi))) (aF call md rest):=θ _
@[go_sem] theorem atb(d k z x rest):aF call md (⟨d,none,.clr k z x⟩::rest) s h=bq (dC md.nm s d (OB h k z (ev s x))) (aF call md rest):=θ _
@[go_sem] theorem aqP(d k b z x n rest):aF call md (⟨some d,none,.appz k b z x n⟩::rest) s h=bq (dC md.nm s (some d) (Et h d k b z (ev s x) (ev s n))) (aF call md rest):=θ _
@[go_sem] theorem aqQ(d x rest):aF call md (⟨some d,none,.take x⟩::rest) s h=bq (dC md.nm s (some d) (MG h d (ev s x))) (aF call md rest):=θ _
@[go_sem] theorem ao1(d f zas rest):aF call md (⟨some d,none,.callC f zas⟩::rest) s h=bq (dC md.nm s (some d) ((bv call md h d (zas.map (ev s)) (ev s f)).bind (yy d))) (aF call md rest):=θ _
@[go_sem] theorem amV(d k z n ps rest):aF call md (⟨some d,none,.buildC k z n ps⟩::rest) s h=bq (dC md.nm s (some d) (((eU k h (avr n z) (ps.map fun p=>(p.1,ev s p.2))).bind fun q=>df q.2.1 d k q.1 n q.2.2).bind Ew)) (aF call md rest):=θ _
@[go_sem] theorem alS(d k z n ps):step call md d (.buildC k z n ps) s h=((eU k h (avr n z) (ps.map fun p=>(p.1,ev s p.2))).bind fun q=>df q.2.1 d k q.1 n q.2.2).bind Ew:=θ _
@[go_sem] theorem alT(ps acc d k z n qs rest):dh call md ps acc (⟨some d,none,.buildC k z n qs⟩::rest) s h=je call md ps acc rest s (some d) (fun _=>if(qs.all fun p=>dat (ev s p.2))=true then some ([],[dF d])else none) (((eU k h (avr n z) (qs.map fun p=>(p.1,ev s p.2))).bind fun q=>df q.2.1 d k q.1 n q.2.2).bind Ew):=eM _ _ _ _ rfl
@[go_sem] theorem ao2(d k z n qs h'):gD d (.buildC k z n qs) s h h'=if(qs.all fun p=>dat (ev s p.2))=true then some ([],[dF d])else none:=θ _
@[go_sem] theorem ao3(id k lo n h ks):Ew (.rsl id none k lo n,h,ks)=(mN h id k lo n (h id)).map (fun q=>(q.1,q.2.1,ks++q.2.2)):=θ _
@[go_sem] theorem aqR(ps acc d k x y rest):dh call md ps acc (⟨some d,none,.cpy k x y⟩::rest) s h=je call md ps acc rest s (some d) (fun _=>none) (OA h k (ev s x) (ev s y)):=eM _ _ _ _ rfl
@[go_sem] theorem aqS(ps acc d k b x y rest):dh call md ps acc (⟨some d,none,.app k b x y⟩::rest) s h=je call md ps acc rest s (some d) (fun _=>none) (Lo h d k b (ev s x) (ev s y)):=eM _ _ _ _ rfl
@[go_sem] theorem amW(ps acc d f zas rest):dh call md ps acc (⟨some d,none,.callC f zas⟩::rest) s h=je call md ps acc rest s (some d) (fun _=>Ig d h (oj (zas.map (ev s)) (ev s f))) ((bv call md h d (zas.map (ev s)) (ev s f)).bind (yy d)):=eM _ _ _ _ rfl
@[go_sem] theorem ao4(d h l):Ig d h l=if l.all dat=true then some ([],[2000+8*d])else none:=θ _
@[go_sem] theorem atc(d k r h ks):yy d (.sl k r,h,ks)=some (.sl k r,h,ks):=θ _
@[go_sem] theorem aqT(d h ks):yy d (.emp,h,ks)=some (.emp,h,ks):=θ _
@[go_sem] theorem aqU(d id k lo n h ks):yy d (.rsl id none k lo n,h,ks)=if id=2000+8*d then(mN h id k lo n (h id)).map (fun q=>(q.1,q.2.1,ks++q.2.2))else none:=θ _
@[go_sem] theorem atd(h k id k' lo n y):OA h k (.rsl id none k' lo n) y=(S0 y).bind fun l=>(uY h k (SZ n y)).bind fun ys=>S1 h id k k' lo n l ys (h id):=θ _
@[go_sem] theorem ate(k r):S0 (.sl k r)=some r.length:=θ _
@[go_sem] theorem aqV(id sub k lo n):S0 (.rsl id sub k lo n)=some n:=θ _
@[go_sem] theorem atf(m k r):SZ m (.sl k r)=.sl k (r.take m):=θ _
@[go_sem] theorem aqW(m id sub k lo n):SZ m (.rsl id sub k lo n)=.rsl id sub k lo (min m n):=θ _
@[go_sem] theorem atg(h id k lo n l ys r):S1 h id k k lo n l ys (.ar k r)=if lo<=r.length/\ys.length=min l n then some (.v (.int .i64 ys.length),upd h id (.ar k (r.take lo++ys++r.drop (lo+ys.length))),[])else none:=by simp[S1]
@[go_sem] theorem aqX(h k id l0 n lo hi):JN h k (.rsl id none k l0 n) lo hi=ME h k id l0 lo hi (h id):=by simp[JN]
@[go_sem] theorem aqY(h k id l0 lo hi r):ME h k id l0 lo hi (.ar k r)=if hi.isSome=true/\l0<=r.length then(kf (r.length-l0) lo hi none).map fun p=>(.rsl id none k (l0+p.1) (p.2-p.1),h,[])else none:=by simp[ME]
@[go_sem] theorem ath(h k z id lo n):OB h k z (.rsl id none k lo n)=S2 h k id lo n z (h id):=by simp[OB]
@[go_sem] theorem ati(h k id lo n z r):S2 h k id lo n z (.ar k r)=if lo+n<=r.length then some (.tup [],upd h id (.ar k (r.take lo++avr n z++r.drop (lo+n))),[])else none:=by simp[S2]
@[go_sem] theorem aqZ(h d k b z id i c m):Et h d k b z (.rsc id k 0 i c) (.v (.int .i64 m))=if 0<m/\c<i+m.toNat then MF h d k b id i m.toNat z (h id)else none:=by simp[Et]
@[go_sem] theorem aq0(h d k b id i m z r):MF h d k b id i m z (.ar k r)=if i<=r.length/\(i+m)*b<=140737488355328 then df h d k (r.take i++avr m z) (i+m) []else none:=by simp[MF]
@[go_sem] theorem atj(id k lo n c):pU false (.rsc id k lo n c)=some (I n):=θ _
@[go_sem] theorem atk(id k lo n c):Ow (.rsc id k lo n c)=some (I c):=θ _
@[go_sem] theorem atl(k id l0 n c lo hi mx):eS k (.rsc id k l0 n c) lo hi mx=SU k id l0 n c lo hi mx:=by simp[eS]
@[go_sem] theorem atn(k id l0 n c x):SU k id l0 n c none (some x) none=(jY n c (some x)).map fun r=>.rsc id k l0 r c:=θ _
@[go_sem] theorem ato(k id l0 n c x hi):SU k id l0 n c (some x) hi none=(kf n (some x) hi none).map fun p=>.rsl id none k (l0+p.1) (p.2-p.1):=θ _
@[go_sem] theorem atp(ks id k lo n c):tv ks (.rsc id k lo n c)=if jj ks id none=true then .any else .rsc id k lo n c:=θ _
@[go_sem] theorem aq1(h d id k i j):MG h d (.ref id none k i j)=Sz h d id (i*k+j) (h id):=θ _
@[go_sem] theorem aq2(h d id p cs):Sz h d id p (.bx cs)=JO h d id p cs cs[p]?:=θ _
@[go_sem] theorem ao5(h d id p cs k r):JO h d id p cs (some (.osl k r))=df (upd h id (.bx (cs.set p .any))) d k r r.length [(id,true)]:=θ _
@[go_sem] theorem ao6(h d id p cs):JO h d id p cs (some .emp)=some (.emp,h,[]):=θ _
@[go_sem] theorem aq3(nm)(s h):Ag nm [] s h=some ⟨s,h⟩:=θ _
@[go_sem] theorem ao7(nm)(i l s h):Ag nm (i::l) s h=if 200000<=i then(OF (i-200000) s h (s (i-200000))).bind (fun r=>if rg nm r.2.2 then Ag nm l r.1 r.2.1 else none)else if 100000<=i then Ag nm l s (GA h (s (i-100000)))else(OE i s h (s i)).bind fun r=>if rg nm r.2.2 then Ag nm l r.1 r.2.1 else none:=θ _
@[go_sem] theorem amX(ks):rg false ks=true:=θ _
@[go_sem] theorem atq(i s h id k lo n):OF i s h (.rsl id none k lo n)=Ih i s h id k lo n (h id):=θ _
@[go_sem] theorem atr(i s h id k lo n c):OF i s h (.rsc id k lo n c)=Ih i s h id k lo n (h id):=θ _
@[go_sem] theorem ats(i s h id k lo n r):Ih i s h id k lo n (.ar k r)=if lo=0/\bj i=false/\bL (h i)=true then some (upd (kg [(id,false)] s) i (.rsl i none k 0 n),upd (upd h id .dead) i (.ar k r),[(id,false)])else none:=by simp[Ih]
@[go_sem] theorem aq4(h id k lo n):GA h (.rsl id none k lo n)=(match h id with| .ar k rows=>upd h id (.ar k (rows.take (lo+n)))|_=>h):=θ _
@[go_sem] theorem att(nm)(s h):tw nm 0 s h=some ⟨s,h⟩:=θ _
@[go_sem] theorem atu(nm)(i s h):tw nm (i+1) s h=(Qg i s h (s i)).bind fun r=>if rg nm r.2.2 then some ⟨r.1,r.2.1⟩else none:=θ _
@[go_sem] theorem atv(i s h):Qg i s h .emp=some (s,h,[]):=θ _
@[go_sem] theorem atw(i s h id p k lo n):Qg i s h (.rsl id (some p) k lo n)=if bj i=false then WS i s h id p k lo n (h id)else none:=θ _
@[go_sem] theorem auT(i s h id p k lo n cs):WS i s h id p k lo n (.bx cs)=ML i s h id p k lo n cs cs[p]?:=θ _
@[go_sem] theorem atx(i s h id p k lo n cs r):ML i s h id p k lo n cs (some (.osl k r))=if lo=0/\n=r.length/\bL (h i)=true then some (upd (kg [(id,true)] s) i (.rsl i none k 0 n),upd (upd h id (.bx (cs.set p .any))) i (.ar k r),[(id,true)])else none:=by simp[ML]
@[go_sem] theorem aty(m g ps l):aeh call md m g ps l s h=bq (dh call md ps [] (l.take m) s h) fun s h=>bq (tw md.nm g s h) (aF call md (l.drop m)):=θ _
end
theorem XU{t:Rt}{x:List Int}(ht:sm t.exps)(hx:sm x)(hl:t.exps.length=x.length):R F.poly_collector_add_1 [.agg (cx t),.sl 1 (aO x)] []=some (I (cw t.exps x),[]):=by
 refine aB Fy rfl ?_;have ho:=U6 ht hx hl;simp only[nN,wM,cx,go_sem,ho]
theorem ahz{v:Int}{l:List Rt}{x:List Int}(c:Cl v l)(hx:sm x)(hl:(x.length:Int)=v)(h2:l.length<=1000000):∀ (k i j:Nat),j-i<=k->i<=cJ l x->cJ l x<=j->j<=l.length->∀ (s:ak) (h:ac),s 0=.sl 4 (aH l)->s 1=.sl 1 (aO x)->s 2=.fn F.poly_collector_add_1 [] []->s 8=I l.length->s 9=I i->s 10=I j->
  ah 0 [0,1,2,8,9] (av (ai R (ax false) bN) [0,1,2,8,9,10] [] s h)=some (.normal,⟨upd (upd (upd (upd (upd (fun _=>.any) 9 (I (cJ l x))) 8 (I l.length)) 2 (.fn F.poly_collector_add_1 [] [])) 1 (.sl 1 (aO x))) 0 (.sl 4 (aH l)),fun _=>.dead⟩):=by
 intro k;induction k with
 |zero=>
  intro i j hk hi hj hn s h h0 h1 h2' h8 h9 h10;have e1:((i:Int)< (j:Int))=False:=ff;obtain rfl:i=cJ l x:=ω
  rw[ag];simp only[bN,go_sem,h0,h1,h2',h8,h9,h10,e1]
 |succ k ih=>
  intro i j hk hi hj hn s h h0 h1 h2' h8 h9 h10;by_cases hij:i<j
  ·have e1:((i:Int)< (j:Int))=True:=tt;have e2:IntKind.i64.wrap ((i:Int)+(j:Int))=((i+j:Nat):Int):=wi;have hlt:(i+j)/2<l.length:=ω
   have g1:IntKind.u64.wrap (((i+j:Nat)):Int)=((i+j:Nat):Int):=iG rfl ω;have g2:((1:Int)<0)=False:=ff δ;have g3:Int.fdiv ((i+j:Nat):Int) (2^ (min (Int.toNat 1) 64))=(((i+j)/2:Nat):Int):=by
    grind
   have g4:IntKind.i64.wrap (((i+j)/2:Nat):Int)=(((i+j)/2:Nat):Int):=wi;have e3:bp (aH l) (((i+j)/2:Nat):Int)=some (.ipt (cx l[(i+j)/2])):=iX rfl (List.getElem?_eq_getElem hlt);have q:=c.t _ (avN hlt);have hc:=XU q.sm hx (by have:=q.len;omega);have p1:cw (l[(i+j)/2]).exps x<0->(i+j)/2<cJ l x:=fun ho=>by
    rcases Nat.lt_trichotomy ((i+j)/2) (cJ l x)with h|h|h
    ·omega
    ·have:=PF (l:=l) (x:=x) (q:=l[(i+j)/2]) γ;omega
    ·have:=ahy c hl h (List.getElem?_eq_getElem hlt);omega
   have p2:¬cw (l[(i+j)/2]).exps x<0->cJ l x<=(i+j)/2:=fun ho=>by
    grind[absurd,XS]
   have i1:=ih ((i+j)/2+1) j ω;have i2:=ih i ((i+j)/2) ω hi;generalize l[(i+j)/2]=t at e3 q hc p1 p2;rw[ag];generalize av _ _ _=L at i1 i2⊢;simp only[cx]at hc e3;by_cases ho:cw t.exps x<0
   ·have e4:(cw t.exps x<0)=True:=tt ho;have e5:IntKind.i64.wrap ((((i+j)/2:Nat):Int)+1)=(((i+j)/2+1:Nat):Int):=wi;have:=p1 ho;simp only[bN,go_sem,h0,h1,h2',h8,h9,h10,e1,e2,g1,g2,g3,g4,e3,hc,e4,e5];exact i1 ω hj hn _ _ rfl rfl rfl rfl rfl rfl
   ·have e4:(cw t.exps x<0)=False:=ff ho;have:=p2 ho;simp only[bN,go_sem,h0,h1,h2',h8,h9,h10,e1,e2,g1,g2,g3,g4,e3,hc,e4];exact i2 this ω _ _ rfl rfl rfl rfl rfl rfl
  grind
def Jl(l:List Rt)(x:List Int):Bool:=match l[cJ l x]? with
 |some q=>decide (cw q.exps x=0)
 |none=>false
theorem aao{v:Int}{l:List Rt}{x:List Int}(c:Cl v l)(hx:sm x)(hl:(x.length:Int)=v)(h2:l.length<=1000000):R F.slices_BinarySearchFunc_api_Term_api_Term_Sint_ [.sl 4 (aH l),.sl 1 (aO x),.fn F.poly_collector_add_1 [] []] []=some (.tup [I (cJ l x),B (Jl l x)],[]):=by
 refine Pj mL mK (fF false) rfl ?_;have h3:=ahz c hx hl h2 l.length 0 l.length ω (av6 _) (PE l x) (avt _);simp only[dw,fY,go_sem];rw[h3 _ _ rfl rfl rfl rfl rfl rfl];unfold Jl;cases hq:l[cJ l x]? with
 |none=>
  have:l.length<=cJ l x:=List.getElem?_eq_none_iff.1 hq;have e1:((cJ l x:Int)< (l.length:Int))=False:=ff;simp only[go_sem,e1]
 |some q=>
  have hlt:=(List.getElem?_eq_some_iff.1 hq).1;have e1:((cJ l x:Int)< (l.length:Int))=True:=tt;have vq:=c.t q (List.mem_of_getElem? hq);have hc:=XU vq.sm hx (by have:=vq.len;omega);have e3:bp (aH l) (cJ l x:Int)=some (.ipt (cx q)):=iX rfl hq;simp only[cx]at hc e3;by_cases ho:cw q.exps x=0
  ·have e4:(cw q.exps x=0)=True:=tt ho;simp only[go_sem,e1,e3,hc,e4,decide_true]
  ·have e4:(cw q.exps x=0)=False:=ff ho;simp only[go_sem,e1,e3,hc,e4,decide_false]
theorem Q3{d:Rd}(hn:d.m.length≠0)(h1:d.m.length<=100000):R F.poly_copied [af d] []=some (af d,[]):=by
 refine aB Se rfl ?_;have hc:=He (m:=d.m) (fun h=>hn γ) h1;simp only[At,HP,af,aj,go_sem,hc]
theorem XV{h:ac}{d id p n:Nat}{cs:List AV}{rows:List (List AV)}{x:AV}(hh:h id=.bx cs)(hp:cs[p]?=some (.osl 4 rows))(hn:n=rows.length)(hx:∃r,x=.sl 1 r):
  bv R (ax false) h d [.rsl id (some p) 4 0 n,x,.fn F.poly_collector_add_1 [] []] (.fn F.slices_BinarySearchFunc_api_Term_api_Term_Sint_ [] [])=(R F.slices_BinarySearchFunc_api_Term_api_Term_Sint_ (bm [[.o 5 [.o 2 [],.o 0 [],.o 2 [],.o 0 []]],[.o 2 []],[]] [.sl 4 rows,x,.fn F.poly_collector_add_1 [] []]) []).bind (S3 h):=by
 obtain⟨r,rfl⟩:=hx;unfold bv
 simp_all[if_pos,jn,fZ,MH,MI,OD,YO,yv,kh,xi,iS,avB,avE,fO]
theorem Ve(o:Ob):ao [o]=upd (fun _=>.dead) 1000 o:=by
 unfold ao upd;grind
theorem rR{f:FuncId}{fd:FD}{args:List AV}{o:Ob}{r:AV×List Ob}(hE:cG.E f=none)(hC:cG.C f=some fd)(hk:cG.md.keep f=false)(h1:args.length=fd.np)
  (hz:jV false fd.rs fd.res 1 (ai R (ax false) fd.body (te args) (upd (fun _=>.dead) 1000 o))=some r):R f args [o]=some r:=by
 grind[IZ,Ve]
theorem SL{f:FuncId}{g:List AV->List Ob->Option (AV×List Ob)}{args:List AV}{hs:List Ob}(hE:cG.E f=some g):R f args hs=g args hs:=GT hE
theorem Q4:R F.slices_Clone_int_int_ [.sl 1 []] []=some (.sl 1 [],[]):=by
 rw[SL (g:=clF) κ];rfl
theorem Q5{x:Int}{l:List Int}(h:l.length<=1000000):R F.slices_Clone_int_int_ [.sl 1 (aO (x::l))] []=some (.osl 1 (aO (x::l)),[]):=by
 rw[SL (g:=clF) κ];show(if(((aO l).length+1)*8<=140737488355328)then _ else _)=_;rw[if_pos (by grind[AU])];rfl
def lX(c:AV)(l:List Rt):Prop:=c=.osl 4 (aH l)\/(c=.emp/\l=[])
def t3(v:Int)(c:AV)(e:Int):Ob:=.bx [I v,c,I e]
theorem Gh{h:ac}{v e:Int}{c:AV}{l:List Rt}(hc:lX c l)(hh:h 1000=t3 v c e):pX [] 1 h []=some (.tup [],[t3 v c e]):=by
 have hp:cF 1=[1000]:=rfl;have h2:az [1000] (t3 v c e)=true:=by
  rcases hc with rfl| ⟨rfl,_⟩<;>rfl
 grind[pX,jq,rk,tC,bm]
theorem Vf{v e:Int}{c x:AV}{d:Rd}{l:List Rt}(hc:lX c l)(he:e≠0):R F.poly_collector_add [.ref 1000 none 0 0 0,x,af d] [t3 v c e]=some (.tup [],[t3 v c e]):=by
 refine rR aS.2.1 aS.2.2 (aS.1.2.2.2 false) rfl ?_;have e1:(e=0)=False:=ff he;simp only[fX,jz,t3,af,aj,go_sem,e1];exact Gh hc rfl
theorem Kf(h:ac)(i:Int)(b:Bool):S3 h (.tup [I i,B b],[])=some (.tup [I i,B b],h,[]):=rfl
theorem vS{h:ac}{id p id2 k n:Nat}{rows:List (List AV)}{cs:List AV}(h1:h id2=.ar k rows)(hn:n=rows.length)(h2:h id=.bx cs)(hne:id≠id2)(hp:p<cs.length):
  rX h id p 1 [.rsl id2 none k 0 n]=some (upd (upd h id2 .dead) id (.bx (cs.set p (.osl k rows))),(id2,false)::(if cs[p]?.any bB then [(id,true)]else [])):=by
 simp_all[upd,if_neg,rX,HC,Qf,Ll,CM]
theorem aj8{l:List Rt}{t:Rt}{n i:Nat}(hn:n=l.length)(hi:i<=n)(h2:n<=1000000):R F.slices_Insert_api_Term_api_Term_ [.rsl 1000 none 4 0 n,I i,.sl 4 [cx t]] [.ar 4 (aH l)]=some (.osl 4 (aH (l.take i++t::l.drop i)),[.dead]):=by
 rw[SL (g:=T7 4 64) κ];show(if(4:Nat)=4/\(4:Nat)=4/\(4:Nat)=4/\n=(aH l).length/\(0:Int)<=(i:Int)/\(i:Int)<=(n:Int)/\(n+1)*64<=140737488355328 then some (AV.osl 4 ((aH l).take (i:Int).toNat++cx t::(aH l).drop (i:Int).toNat),[Ob.dead])else none)=_;rw[if_pos ⟨rfl,rfl,rfl,by rw[n9,hn],by omega,by omega,by omega⟩,avy];simp[aH,List.map_take,List.map_drop]
theorem ahA{t:Rt}:R F.slices_Insert_api_Term_api_Term_ [.emp,I 0,.sl 4 [cx t]] []=some (.osl 4 (aH [t]),[]):=by
 rw[SL (g:=T7 4 64) κ];rfl
theorem acu(t:Rt):nrmV [.o 5 [.o 2 [],.o 0 [],.o 2 [],.o 0 []]] (.sl 4 [cx t])=.sl 4 [cx t]:=by
 have:=Gf [t];simp only[aH,avY,av4]at this;simp only[nrmV,List.headD_cons,nrmL,avY,av4,this]
theorem aeV{l:List Rt}{t:Rt}{h:ac}{d a b n i:Nat}(ha:h a=.ar 4 (aH l))(hb:h b=.ar 4 [cx t])(hab:a≠b)(_hda:2000+8*d≠a)(hdb:2000+8*d≠b)(hd:h (2000+8*d)=.dead)(hn:n=l.length)(hi:i<=n)(h2:n<=1000000):
  bv R (ax false) h d [.rsl a none 4 0 n,.v (.int .i64 i),.rsl b none 4 0 1] (.fn F.slices_Insert_api_Term_api_Term_ [] [])=
   some (.rsl (2000+8*d) none 4 0 (l.length+1),upd (upd (upd h b (.fz 4 [cx t])) a .dead) (2000+8*d) (.ar 4 (aH (l.take i++t::l.drop i))),[(a,true),(a,false)]):=by
 have hm:=lV false;have hs:=lq false;have hk:=kD false;have hf:=aj8 (t:=t) hn hi h2;have hb':jn (ax false) [.rsl a none 4 0 n,.v (.int .i64 i),.rsl b none 4 0 1] (.fn F.slices_Insert_api_Term_api_Term_ [] [])=false:=by
  grind[jn]
 have h1:bO h [2,0,0] [.rsl a none 4 0 n,.v (.int .i64 i),.rsl b none 4 0 1]=some ([.rsl a none 4 0 n,.v (.int .i64 i),.sl 4 [cx t]],upd h b (.fz 4 [cx t]),[]):=by
  simp_all[bO,dE,vT,fQ,aD,adR,mN,pp]
 have g1:upd h b (.fz 4 [cx t]) a=.ar 4 (aH l):=by
  simp_all[upd,if_neg]
 have g2:upd h b (.fz 4 [cx t]) (2000+8*d)=.dead:=by
  simp_all[upd,if_neg]
 have hr:bX (upd h b (.fz 4 [cx t])) 40 [a] 0=[a]:=by
  grind[bX,nM,bu]
 have hp:bu [] ([AV.rsl a none 4 0 n,.v (.int .i64 i),.sl 4 [cx t]].flatMap bZ)=[a]:=by
  simp[bZ,fC,bu]
 have h3:aW [a] a=1000:=by simp[aW]
 have hnr:cu (.osl 4 (aH (l.take i++t::l.drop i)))=1:=rfl;have hlen:(aH (l.take i++t::l.drop i)).length=l.length+1:=by
  grind[n9,awj,avF,av2,aws]
 have hnm:bm [[],[],[.o 5 [.o 2 [],.o 0 [],.o 2 [],.o 0 []]]] [.rsl a none 4 0 n,.v (.int .i64 i),.sl 4 [cx t]]=[.rsl a none 4 0 n,.v (.int .i64 i),.sl 4 [cx t]]:=by
  simp only[bm,acu];rfl
 unfold bv;simp only[dH,hm,avB,avE,h1,avw,hp,hr,hs,hnm];simp[jd,aX,bo,g1,az,bL,dB,jk,h3,dG,hf,dX,hnr,bY,g2,cO,bf,kG,yw,re,fC,jl,fE,Eu,dS,mat,dO,fG,hk,Fd,hm,hlen]
 simp_all[dK,if_neg,FN]
theorem aeW{h:ac}{d:Nat}{r:List (List AV)}{i:Int}{b:Bool}(hR:R F.slices_BinarySearchFunc_api_Term_api_Term_Sint_ [.sl 4 [],nrmV [.o 2 []] (.sl 1 r),.fn F.poly_collector_add_1 [] []] []=some (.tup [I i,B b],[]))(h0:h (2000+8*d)=.dead)(h1:h (2000+8*d+1)=.dead):
  bv R (ax false) h d [.emp,.sl 1 r,.fn F.poly_collector_add_1 [] []] (.fn F.slices_BinarySearchFunc_api_Term_api_Term_Sint_ [] [])=some (.tup [I i,B b],h,[]):=by
 have hm:=fZ false;have hs:=fO false;have hk:=fF false;have hb':jn (ax false) [.emp,.sl 1 r,.fn F.poly_collector_add_1 [] []] (.fn F.slices_BinarySearchFunc_api_Term_api_Term_Sint_ [] [])=false:=by
  grind[jn,MH]
 have h3:bO h [3,0,0] [.emp,.sl 1 r,.fn F.poly_collector_add_1 [] []]=some ([.emp,.sl 1 r,.fn F.poly_collector_add_1 [] []],h,[]):=by
  simp[bO,dE,vT,fQ,aD]
 have hp:bu [] ([AV.emp,.sl 1 r,.fn F.poly_collector_add_1 [] []].flatMap bZ)=[]:=by
  simp[bZ,fC,bu]
 have hnm:bm [[.o 5 [.o 2 [],.o 0 [],.o 2 [],.o 0 []]],[.o 2 []],[]] [.emp,.sl 1 r,.fn F.poly_collector_add_1 [] []]=[.sl 4 [],nrmV [.o 2 []] (.sl 1 r),.fn F.poly_collector_add_1 [] []]:=by
  rfl
 obtain⟨q,hq⟩:∃q,nrmV [.o 2 []] (.sl 1 r)=.sl 1 q:=⟨_,rfl⟩;rw[hq]at hR hnm;have hr:∀n,bX h n [] 0=[]:=fun n=>by cases n<;>rfl
 unfold bv;rw[if_neg γ];simp only[dH,hm,avB,avE,h3,avw,hp,hr,hs,hnm];simp[jd,aX,bo,dB,jk,hR,dX,cu,bY,h0,h1,bL,cO,kG,yw,re,jl,fE,Eu,dS,mat,cV,dO,fG,hk,Fd,hm]
theorem acv{t:Rt}{h:ac}{d b:Nat}(hb:h b=.ar 4 [cx t])(hdb:2000+8*d≠b)(hd:h (2000+8*d)=.dead):
  bv R (ax false) h d [.emp,.v (.int .i64 0),.rsl b none 4 0 1] (.fn F.slices_Insert_api_Term_api_Term_ [] [])=some (.rsl (2000+8*d) none 4 0 1,upd (upd h b (.fz 4 [cx t])) (2000+8*d) (.ar 4 (aH [t])),[]):=by
 have hm:=lV false;have hs:=lq false;have hk:=kD false;have hf:=ahA (t:=t);have hb':jn (ax false) [.emp,.v (.int .i64 0),.rsl b none 4 0 1] (.fn F.slices_Insert_api_Term_api_Term_ [] [])=false:=by
  grind[jn]
 have h1:bO h [2,0,0] [.emp,.v (.int .i64 0),.rsl b none 4 0 1]=some ([.emp,.v (.int .i64 0),.sl 4 [cx t]],upd h b (.fz 4 [cx t]),[]):=by
  simp[bO,dE,vT,fQ,aD,hb,mN,pp]
 have g2:upd h b (.fz 4 [cx t]) (2000+8*d)=.dead:=by
  simp_all[upd,if_neg]
 have hp:bu [] ([AV.emp,.v (.int .i64 0),.sl 4 [cx t]].flatMap bZ)=[]:=by
  simp[bZ,fC,bu]
 have hnr:cu (.osl 4 (aH [t]))=1:=rfl;have hnm:bm [[],[],[.o 5 [.o 2 [],.o 0 [],.o 2 [],.o 0 []]]] [.emp,.v (.int .i64 0),.sl 4 [cx t]]=[.emp,.v (.int .i64 0),.sl 4 [cx t]]:=by
  simp only[bm,acu];rfl
 have hr:∀ (h:ac) n,bX h n [] 0=[]:=fun h n=>by cases n<;>rfl
 have hlen:(aH [t]).length=1:=rfl;unfold bv;simp only[dH,hm,avB,avE,h1,avw,hp,hr,hs,hnm];simp[jd,aX,bo,dB,jk,hf,dX,hnr,bY,g2,bL,cO,kG,yw,re,fC,jl,fE,Eu,dS,mat,dO,fG,hk,Fd,hm,hlen]
 simp_all[dK,if_neg]
def ClE(x:List Int):Prop:=R F.slices_Clone_int_int_ [.sl 1 (aO x)] []=some (.osl 1 (aO x),[])\/R F.slices_Clone_int_int_ [.sl 1 (aO x)] []=some (.sl 1 (aO x),[])
theorem acw:∀ {x:List Int},x.length<=100000->ClE x
 |[],_=>.inr Q4
 |x::l,h=>.inl (Q5 γ)
theorem Vg{v v':Int}{l:List Rt}{t:Rt}(c:Cl v l)(vt:VT v t)(hl:l.length<=1000000)(hf:Jl l t.exps=false):
  R F.poly_collector_add [.ref 1000 none 0 0 0,.sl 1 (aO t.exps),af t.c] [t3 v' (.osl 4 (aH l)) 0]=some (.tup [],[t3 v' (.osl 4 (aH (l.take (cJ l t.exps)++t::l.drop (cJ l t.exps)))) 0]):=by
 refine rR aS.2.1 aS.2.2 (aS.1.2.2.2 false) rfl ?_;have hbs:=aao c vt.sm vt.len hl;rw[hf]at hbs;have hcp:=Q3 vt.nz (avx (zN vt.vc vt.c.lb) δ);simp only[af,aj]at hcp;have k1:(aO t.exps).take t.exps.length=aO t.exps:=avL (by simp_all[AU,avt]);have hlen:(l.take (cJ l t.exps)++t::l.drop (cJ l t.exps)).length=l.length+1:=by
  grind
 have hp:=PE l t.exps;simp only[fX,jz,t3,af,aj,go_sem];rw[XV rfl rfl (n9 l).symm ⟨_,rfl⟩];rcases acw vt.ok.len with hcv|hcv
 all_goals
  simp only[go_sem,hbs,Kf,hcv,hcp,avs,avt,k1];rw[aeV rfl rfl δ δ δ rfl rfl hp hl];generalize l.take (cJ l t.exps)++t::l.drop (cJ l t.exps)=L at hlen⊢;simp only[go_sem];rw[if_pos (by rfl),vS rfl (by rw[n9,hlen]) rfl δ (awn δ (avt 3))];simp only[go_sem];exact Gh (.inl rfl) rfl
theorem Mk{v':Int}{v:Int}{t:Rt}(vt:VT v t):
  R F.poly_collector_add [.ref 1000 none 0 0 0,.sl 1 (aO t.exps),af t.c] [t3 v' .emp 0]=some (.tup [],[t3 v' (.osl 4 (aH [t])) 0]):=by
 refine rR aS.2.1 aS.2.2 (aS.1.2.2.2 false) rfl ?_;have hbs:=aao (l:=[]) (Cl.nil v) vt.sm vt.len (av6 _);rw[show cJ [] t.exps=0 from rfl,show Jl [] t.exps=false from rfl,av7]at hbs;have hcp:=Q3 vt.nz (avx (zN vt.vc vt.c.lb) δ);simp only[af,aj]at hcp;have k1:(aO t.exps).take t.exps.length=aO t.exps:=avL (by simp_all[AU,avt]);have k2:nrmV [.o 2 []] (.sl 1 (aO t.exps))=.sl 1 (aO t.exps):=by
  simp only[go_sem]
 simp only[fX,jz,t3,af,aj,go_sem];rw[aeW (by rw[k2];exact hbs) rfl rfl];rcases acw vt.ok.len with hcv|hcv
 all_goals
  simp only[go_sem,hcv,hcp,avs,avt,k1];rw[acv rfl δ rfl];simp only[go_sem];rw[if_pos (by rfl),vS rfl (show 1=(aH [t]).length from rfl) rfl δ (awn δ (avt 3))];simp only[go_sem];exact Gh (.inl rfl) rfl
theorem Jm{d n i:Nat}(h:i<=n):jY d n (some (I i))=some i:=by
 simp_all[jY,if_pos]
theorem aj9{h:ac}{j k n:Nat}{rows:List (List AV)}(hj:bj j=false)(hh:h j=.ar k rows)(hn:n=rows.length)(hc:az [1000] (h 1000)=true):pX [[]] 1 h [.rsl j none k 0 n]=some (.osl k rows,[h 1000]):=by
 simp_all[cF,pX,if_pos,rk,pW,lB,Ah,tC,bm,nrmV,nrmL,jq,bZ,fC]
theorem aka{rows:List (List AV)}{n i:Nat}(hn:n=rows.length)(hi:i<n)(h2:n<=1000000):R F.slices_Delete_api_Term_api_Term_ [.rsl 1000 none 4 0 n,I i,I ((i+1:Nat):Int)] [.ar 4 rows]=some (.osl 4 (rows.take i++rows.drop (i+1)),[.dead]):=by
 refine rR ww wv (kE false) rfl ?_;subst hn;have b1:jY rows.length rows.length (some (I rows.length))=some rows.length:=Jm (avt _);have b2:∀d,jY d rows.length (some (I ((i+1:Nat):Int)))=some (i+1):=fun d=>Jm ω;have b3:∀d,jY d (i+1) (some (I i))=some i:=fun d=>Jm ω;have b4:∀d,jY d rows.length (some (I i))=some i:=fun d=>Jm ω;have e1:((i:Int)=((i+1:Nat):Int))=False:=ff;have s1:eS 4 (.rsl 1000 none 4 0 rows.length) (some (I i)) (some (I ((i+1:Nat):Int))) (some (I rows.length))=some .any:=by
  simp_all[eS,if_true,kf,b2,avw,av9,Option.isNone_some,if_neg,avD]
 have s2:eS 4 (.rsl 1000 none 4 0 rows.length) none (some (I i)) none=some (.rsl 1000 none 4 0 i):=by
  simp_all[eS,if_true,kf,L4,avw,av9,Option.isNone_none,Nat.sub_zero,av1]
 have s3:eS 4 (.rsl 1000 none 4 0 rows.length) (some (I ((i+1:Nat):Int))) none none=some (.rsl 1000 none 4 (i+1) (rows.length- (i+1))):=by
  simp only[eS,if_true,kf,b2,L4,avw,av9,Option.isNone_none,avs]
 have t1:(rows.drop (i+1)).take (rows.length- (i+1))=rows.drop (i+1):=avL γ;have t2:(i+1+(rows.length- (i+1))<=rows.length)=True:=tt;obtain⟨m,hm⟩:∃m,i+(rows.length- (i+1))=m:=⟨_,rfl⟩;obtain⟨D,hD⟩:∃D,rows.take i++rows.drop (i+1)=D:=⟨_,rfl⟩;have d1:D.length=m:=by
  grind
 obtain⟨A,hA⟩:∃A,D++rows.drop m=A:=⟨_,rfl⟩;have a1:A.length=rows.length:=by
  grind
 have a2:A.take m=D:=γ
 have e5:∀h,Ln h 26 4 64 1000 4 0 i (rows.drop (i+1)) 4 rows=some (.rsl 1000 none 4 0 m,upd h 1000 (.ar 4 A),[]):=fun h=>by
  unfold Ln;grind
 have e7:(i=rows.length)=False:=ff;have b5:kf rows.length (some (I m)) (some (I rows.length)) none=some (m,rows.length):=by
  simp only[kf,b1,avw];rw[Jm ω];rfl
 have c1:(m+(rows.length-m)<=rows.length)=True:=tt;have c2:∀z,(D++avr (rows.length-m) z++A.drop (m+(rows.length-m))).take m=D:=fun z=>by
  rw[awe,List.take_append_of_le_length ω,avL ω]
 rw[hD];simp only[gF,lO,go_sem,s1,s2,s3,e1,t1,t2,e5,e7,false_and,and_false,a1,a2,b5,c1,c2,Nat.sub_zero,avs,av6,avV,decide_false];exact aj9 (by rfl) (by rfl) d1.symm (by rfl)
theorem aeX{l:List Rt}{h:ac}{d a n i:Nat}(ha:h a=.ar 4 (aH l))(_hda:2000+8*d≠a)(hd:h (2000+8*d)=.dead)(hn:n=l.length)(hi:i<n)(h2:n<=1000000):
  bv R (ax false) h d [.rsl a none 4 0 n,.v (.int .i64 i),.v (.int .i64 ((i+1:Nat):Int))] (.fn F.slices_Delete_api_Term_api_Term_ [] [])=
   some (.rsl (2000+8*d) none 4 0 (l.length-1),upd (upd h a .dead) (2000+8*d) (.ar 4 (aH (l.take i++l.drop (i+1)))),[(a,true),(a,false)]):=by
 have hm:=wx false;have hs:=vP false;have hk:=kE false;have hf:=aka (rows:=aH l) (n:=n) (i:=i) (by rw[n9,hn]) hi h2;have e1:(aH l).take i++(aH l).drop (i+1)=aH (l.take i++l.drop (i+1)):=by simp[aH,List.map_take,List.map_drop]
 rw[e1]at hf;have hb':jn (ax false) [.rsl a none 4 0 n,.v (.int .i64 i),.v (.int .i64 ((i+1:Nat):Int))] (.fn F.slices_Delete_api_Term_api_Term_ [] [])=false:=by
  grind[jn]
 have h1:bO h [2,0,0] [.rsl a none 4 0 n,.v (.int .i64 i),.v (.int .i64 ((i+1:Nat):Int))]=some ([.rsl a none 4 0 n,.v (.int .i64 i),.v (.int .i64 ((i+1:Nat):Int))],h,[]):=by
  simp[bO,dE,vT,fQ,aD,ha,adR]
 have hr:bX h 40 [a] 0=[a]:=by
  grind[bX,nM,bu]
 have hp:bu [] ([AV.rsl a none 4 0 n,.v (.int .i64 i),.v (.int .i64 ((i+1:Nat):Int))].flatMap bZ)=[a]:=by
  simp[bZ,fC,bu]
 have h3:aW [a] a=1000:=by simp[aW]
 have hnr:cu (.osl 4 (aH (l.take i++l.drop (i+1))))=1:=rfl;have hlen:(aH (l.take i++l.drop (i+1))).length=l.length-1:=by
  grind[n9,awj,avF,aws]
 unfold bv;simp only[dH,hm,avB,avE,h1,avw,hp,hr,hs];simp only[Int.natCast_add,Int.natCast_one]at hf;simp[jd,bm,aX,bo,ha,az,bL,dB,jk,h3,dG,hf,dX,hnr,bY,hd,cO,bf,kG,yw,re,fC,jl,fE,Eu,dS,mat,dO,fG,hk,Fd,hm,hlen]
 simp_all[dK,if_neg,FN]
theorem ahB(h:ac)(i:Nat)(xs:List AV)(a b:AV)(r:List (List AV)):Es h 3 1000 1 4 i 1 xs [] (.bx [a,.osl 4 r,b])=(qZ 3 4 i 1 xs 4 r).map fun q=>(.und,upd h 1000 (.bx [a,.osl 4 q,b]),[]):=rfl
theorem Jn(a b:AV)(k:Nat)(r:List (List AV)):kh 1 (.bx [a,.osl k r,b])=some (k,r):=rfl
theorem PH(h:ac)(n:Nat)(g:Bool)(i j:Nat)(r:List (List AV)):og h n g 4 i j (some (4,r))=(r[i]?).bind fun row=>(kF n g row j).map fun a=>(a,h,[]):=rfl
theorem aeY{v v':Int}{l:List Rt}{t q:Rt}(c:Cl v l)(vt:VT v t)(hl:l.length<=1000000)(hq:l[cJ l t.exps]?=some q)(ho:cw q.exps t.exps=0):
  R F.poly_collector_add [.ref 1000 none 0 0 0,.sl 1 (aO t.exps),af t.c] [t3 v' (.osl 4 (aH l)) 0]=some (.tup [],[if(ns q.c t.c).2=0 then(if(ns q.c t.c).1.m.length=0 then t3 v' (.osl 4 (aH (l.take (cJ l t.exps)++l.drop (cJ l t.exps+1)))) 0 else t3 v' (.osl 4 (aH (l.set (cJ l t.exps) ⟨q.exps,(ns q.c t.c).1⟩))) 0)else t3 v' (.osl 4 (aH l)) 9]):=by
 refine rR aS.2.1 aS.2.2 (aS.1.2.2.2 false) rfl ?_;have hbs:=aao c vt.sm vt.len hl;have hf:Jl l t.exps=true:=by
  grind[Jl,decide_eq_true]
 rw[hf]at hbs;have vq:=c.t q (List.mem_of_getElem? hq);have hadd:=ahw vq.c vt.c;have hlt:=(List.getElem?_eq_some_iff.1 hq).1;have hrow:(aH l)[cJ l t.exps]?=some (cx q):=by grind[aH]
 have hi0:(0<=(cJ l t.exps:Int)/\(cJ l t.exps:Int)< (l.length:Int))=True:=eq_true ⟨by omega,by omega⟩;have hw:IntKind.i64.wrap ((cJ l t.exps:Int)+1)=((cJ l t.exps+1:Nat):Int):=wi;generalize ns q.c t.c=r at hadd⊢;obtain⟨s,e⟩:=r;simp only[rV,af,aj]at hadd;simp only[cx]at hrow;simp only[fX,jz,t3,af,aj,go_sem];rw[XV rfl rfl (n9 l).symm ⟨_,rfl⟩];by_cases he:e=0
 ·subst he;by_cases hs:s.m.length=0
  ·have e1:((s.m.length:Int)=0)=True:=tt;have hlen:(l.take (cJ l t.exps)++l.drop (cJ l t.exps+1)).length=l.length-1:=by
    grind
   simp only[go_sem,hbs,Kf,hi0,hrow,hadd,hs,avy,av7,avs,Jn,PH,hw];rw[aeX rfl δ rfl rfl hlt hl];generalize l.take (cJ l t.exps)++l.drop (cJ l t.exps+1)=L at hlen⊢;simp only[go_sem];rw[vS rfl (by rw[n9,hlen]) rfl δ (awn δ (avt 3))];simp only[go_sem];exact Gh (.inl rfl) rfl
  ·have e1:((s.m.length:Int)=0)=False:=ff;have hset:(aH l).set (cJ l t.exps) [.sl 1 (aO q.exps),B s.neg,lm s.m,I s.e]=aH (l.set (cJ l t.exps) ⟨q.exps,s⟩):=by
    unfold aH;rw[List.map_set];rfl
   simp only[go_sem,hbs,Kf,hi0,hrow,hadd,hs,e1,avy,avs,Jn,PH,hw,ahB,hset];exact Gh (.inl rfl) rfl
 ·have e1:(e=0)=False:=ff he;simp only[go_sem,hbs,Kf,hi0,hrow,hadd,e1,avy,avs,Jn,PH,hw];exact Gh (.inl rfl) rfl
theorem PI{v v':Int}{l:List Rt}{t:Rt}{cell:AV}(c:Cl v l)(vt:VT v t)(hl:l.length<=1000000)(hc:lX cell l):
  ∃cell' l' e',R F.poly_collector_add [.ref 1000 none 0 0 0,.sl 1 (aO t.exps),af t.c] [t3 v' cell 0]=some (.tup [],[t3 v' cell' e'])/\lX cell' l'/\((e'=0/\wD l t=some l')\/(e'=9/\wD l t=none/\l'=l)):=by
 rcases hc with rfl| ⟨rfl,rfl⟩
 ·rw[XT];cases hq:l[cJ l t.exps]? with
  |none=>
   exact⟨_,_,_,Vg c vt hl (by grind[Jl]),.inl rfl,.inl ⟨rfl,rfl⟩⟩
  |some q=>
   by_cases ho:cw q.exps t.exps=0
   ·have h1:=aeY (v':=v') c vt hl hq ho;simp only[if_pos ho];by_cases he:(ns q.c t.c).2=0
    ·rw[if_pos he]at h1⊢;by_cases hs:(ns q.c t.c).1.m.length=0
     ·rw[if_pos hs]at h1⊢;exact⟨_,_,_,h1,.inl rfl,.inl ⟨rfl,rfl⟩⟩
     ·rw[if_neg hs]at h1⊢;exact⟨_,_,_,h1,.inl rfl,.inl ⟨rfl,rfl⟩⟩
    ·rw[if_neg he]at h1⊢;exact⟨_,_,_,h1,.inl rfl,.inr ⟨rfl,rfl,rfl⟩⟩
   ·simp only[if_neg ho];exact⟨_,_,_,Vg c vt hl (by grind[Jl,decide_eq_false]),.inl rfl,.inl ⟨rfl,rfl⟩⟩
 ·exact⟨_,_,_,Mk vt,.inl rfl,.inl ⟨rfl,rfl⟩⟩
theorem VT.zn{v:Int}{t:Rt}(h:VT v t):zI t.c≠0:=by
 rcases Mc t.c h.vc with⟨_,_,h2⟩| ⟨_,h1,h2,_⟩| ⟨_,h1,h2,_⟩
 ·exact absurd h2 h.nz
 all_goals omega
theorem Q6{a b:List Int}(h:cw a b<0):b≠a:=by
 grind[Q2]
def p0:Rp:=⟨0,[]⟩
def pV(r:Rp×Int):AV:=.tup [aZ r.1,I r.2]
def tu(v:Int):Option (List Rt)->Rp×Int
 |none=>(p0,9)
 |some l=>if 500<l.length then(p0,5)else(⟨v,l⟩,0)
def xg(a b:Rp):Bool:=vp a&& (vp b&&decide (a.vars=b.vars))
def aap(a b:Rp):Rp×Int:=if xg a b=true then tu a.vars (qN [] (a.terms++b.terms))else(p0,1)
def xL(t:Rt):Rt:=⟨t.exps,⟨!t.c.neg,t.c.m,t.c.e⟩⟩
def Eg(a b:Rp):Rp×Int:=if xg a b=true then tu a.vars (qN [] (a.terms++b.terms.map xL))else(p0,1)
def mj(a b:List Int):List Int:=List.zipWith (·+·) a b
def Kg(s t:Rt):Option Rt:=if(fV s.c t.c).2=0 then some ⟨mj s.exps t.exps,(fV s.c t.c).1⟩else none
def pk(s:Rt):List Rt->Option (List Rt)
 |[]=>some []
 |t::ts=>(Kg s t).bind fun x=>(pk s ts).map (x::·)
def nu:List Rt->List Rt->Option (List Rt)
 |[],_=>some []
 |s::ss,ts=>(pk s ts).bind fun r=>(nu ss ts).map (r++·)
def FE(a b:Rp):Rp×Int:=if xg a b=true then(if a.terms.length≠0/\b.terms.length≠0/\32<iI a+iI b then(p0,5)else tu a.vars ((nu a.terms b.terms).bind (qN [])))else(p0,1)
theorem acx:∃K:Int,K≠0/\∀a b:Rd,(fV a b).2=0->zI (fV a b).1*K=zI a*zI b:=by
 refine⟨2^16384,?_,fun a b h=>?_⟩
 ·grind[Int.pow_ne_zero]
 ·unfold fV at h⊢;split at h
  ·rename_i hc;rw[if_pos hc];exact Kd (j:=16384) h
  omega
noncomputable def KK:Int:=Classical.choose acx
theorem ahC{a b:Rd}(h:(fV a b).2=0):zI (fV a b).1*KK=zI a*zI b:=(Classical.choose_spec acx).2 a b h
theorem Vh:∀ {a b:List Int},a.length=b.length->bt (mj a b)=bt a+bt b
 |[],[],_=>rfl
 |x::a,y::b,h=>by
  show x+y+bt (mj a b)=x+bt a+(y+bt b);rw[Vh (by simpa using h)];omega
 |[],_::_,h=>by grind
 |_::_,[],h=>by grind
theorem Kh:∀ {l:List Int},(∀x∈l,0<=x)->0<=bt l/\∀x∈l,x<=bt l
 |[],_=>⟨Int.le_refl _,fun _ h=>by grind⟩
 |y::l,h=>by
  obtain⟨h1,h2⟩:=Kh fun x hx=>h x (List.mem_cons_of_mem _ hx);have h3:=h y σ;grind[bt]
theorem Vi:∀ {a b:List Int},(∀x∈a,0<=x)->(∀x∈b,0<=x)->∀x∈mj a b,0<=x
 |[],b,_,_,x,hx=>by simp_all[mj]
 |_::_,[],_,_,x,hx=>by simp_all[mj]
 |y::a,z::b,h1,h2,x,hx=>by
  have hx':x∈ (y+z)::mj a b:=hx;rcases List.mem_cons.1 hx' with rfl|hx'
  ·have:=h1 y σ;have:=h2 z σ;omega
  ·exact Vi (fun x hx=>h1 x γ) (fun x hx=>h2 x γ) x hx'
theorem xM{a b:List Int}(h:a.length=b.length):(mj a b).length=a.length:=by
 grind[mj,List.length_zipWith]
theorem Vj{v:Int}{s t x:Rt}(vs:VT v s)(vt:VT v t)(hd:bt s.exps+bt t.exps<=32)(h:Kg s t=some x):VT v x:=by
 unfold Kg at h;split at h
 ·rename_i h0;cases h;have hl:=vs.l2 vt;have hp:=Vi (fun x hx=>(vs.b x hx).1) (fun x hx=>(vt.b x hx).1);have hs:=Vh hl;obtain⟨q1,q2⟩:vd (fV s.c t.c).1=true/\Ok0 (fV s.c t.c).1:=by
   grind[fV,A8,bh]
  refine⟨q2,by rw[xM hl];exact vs.len,vs.v8,q1,fun h=>?_,fun e he=>⟨hp e he,?_⟩,by grind⟩
  ·have h1:=ahC h0;rw[du h,Int.zero_mul]at h1;rcases Int.mul_eq_zero.1 h1.symm with h2|h2
   ·exact vs.zn h2
   ·exact vt.zn h2
  ·have:=(Kh hp).2 e he;omega
 grind
theorem Jo{v:Int}{s:Rt}(vs:VT v s):∀ {ts r:List Rt},(∀t∈ts,VT v t/\bt s.exps+bt t.exps<=32)->pk s ts=some r->(∀x∈r,VT v x)/\r.length=ts.length
 |[],r,_,h=>by cases h;grind
 |t::ts,r,ht,h=>by
  unfold pk at h;rw[avq]at h;obtain⟨x,h1,h2⟩:=h;rw[avu]at h2;obtain⟨r2,h3,rfl⟩:=h2;obtain⟨g1,g2⟩:=Jo vs (fun y hy=>ht y γ) h3;have vx:=Vj vs (ht t σ).1 (ht t σ).2 h1;grind
theorem Q7{v:Int}:∀ {ss ts r:List Rt},(∀s∈ss,VT v s)->(∀t∈ts,VT v t)->(∀s∈ss,∀t∈ts,bt s.exps+bt t.exps<=32)->nu ss ts=some r->(∀x∈r,VT v x)/\r.length=ss.length*ts.length
 |[],ts,r,_,_,_,h=>by cases h;grind
 |s::ss,ts,r,vs,vt,hd,h=>by
  unfold nu at h;rw[avq]at h;obtain⟨x,h1,h2⟩:=h;rw[avu]at h2;obtain⟨r2,h3,rfl⟩:=h2;obtain⟨g1,g2⟩:=Jo (vs s σ) (fun t ht=>⟨vt t ht,hd s σ t ht⟩) h1;obtain⟨k1,k2⟩:=Q7 (fun y hy=>vs y γ) vt (fun y hy t ht=>hd y γ t ht) h3;grind
theorem ahD{a b:List Int}(h:cw a b<0):bt a<=bt b:=by
 unfold cw at h;rcases nI (bt a) (bt b)with⟨g,e⟩| ⟨g,e⟩| ⟨g,e⟩<;>rw[e]at h
 all_goals omega
theorem Ml{v:Int}:∀ {l:List Rt} {t q:Rt},Cl v l->l.getLast?=some q->t∈l->bt t.exps<=bt q.exps
 |[],t,q,_,h,_=>by grind
 |[x],t,q,_,h,ht=>by
  grind
 |x::y::l,t,q,c,h,ht=>by
  obtain⟨c1,c2,c3⟩:=c.cons;rcases List.mem_cons.1 ht with rfl|ht
  ·have h1:=ahD (c2 y σ);have h2:=Ml c3 h (t:=y) σ;omega
  ·exact Ml c3 h ht
theorem XW{a:Rp}(oa:OkP a)(h:vp a=true):∀t∈a.terms,bt t.exps<=iI a:=by
 intro t ht;unfold iI;rw[if_pos h];cases hg:a.terms.getLast? with
 |none=>
  grind
 |some q=>exact Ml (lv oa h).1 hg ht
theorem uT{a b:Rp}:xg a b=true↔vp a=true/\vp b=true/\a.vars=b.vars:=by
 grind[xg]
theorem XX{v:Int}{t:Rt}(h:VT v t):VT v (xL t):=by
 refine⟨⟨h.c.1,h.c.2⟩,h.len,h.v8,?_,h.nz,h.b,h.d⟩;have h1:=h.vc;have h2:=h.nz
 simp_all[vd,if_neg,xL]
structure Pv (v:Int) (a:Rp):Prop where
 v:a.vars=v
 p:vp a=true
 o:OkP a
theorem Pv.cl{v:Int}{a:Rp}(h:Pv v a):Cl v a.terms:=by
 have:=(lv h.o h.p).1;rw[h.v]at this;omega
theorem Vk{a b:Rp}(oa:OkP a)(ob:OkP b)(va:vp a=true)(vb:vp b=true)(h:¬ (a.terms.length≠0/\b.terms.length≠0/\32<iI a+iI b)):∀s∈a.terms,∀t∈b.terms,bt s.exps+bt t.exps<=32:=by
 intro s hs t ht;have h1:=XW oa va s hs;have h2:=XW ob vb t ht;grind
theorem SM:OkP p0:=⟨fun _ h=>by cases h⟩
theorem Vl{v:Int}{o:Option (List Rt)}(h:∀l,o=some l->Cl v l):OkP (tu v o).1:=by
 unfold tu;grind[SM,qM]
theorem aeZ{a b:Rp}(oa:OkP a)(ob:OkP b):OkP (Eg a b).1:=by
 unfold Eg;split
 ·rename_i hp;obtain⟨va,vb,hv⟩:=uT.1 hp;obtain⟨ca,_⟩:=lv oa va;obtain⟨cb,_⟩:=lv ob vb;rw[←hv]at cb;exact Vl fun l hl=>(Ke (Cl.nil _) (fun t ht=>by
   rcases List.mem_append.1 ht with ht|ht
   ·exact ca.t t ht
   ·obtain⟨q,hq,rfl⟩:=List.mem_map.1 ht;exact XX (cb.t q hq)) hl).1
 ·exact SM
theorem ae0{a b:Rp}(oa:OkP a)(ob:OkP b):OkP (FE a b).1:=by
 unfold FE;split
 ·rename_i hp;obtain⟨va,vb,hv⟩:=uT.1 hp;split
  ·exact SM
  ·rename_i hd;have hf:=Vk oa ob va vb hd;obtain⟨ca,_⟩:=lv oa va;obtain⟨cb,_⟩:=lv ob vb;rw[←hv]at cb;refine Vl fun l hl=>?_;rw[avq]at hl;obtain⟨r,hr,hl⟩:=hl;exact(Ke (Cl.nil _) (Q7 ca.t cb.t hf hr).1 hl).1
 ·exact SM
theorem Vm{a:AV}(h:aD a=true):fC a=[]:=by cases a<;>simp[aD]at h<;>rfl
theorem XY{a:AV}(h:aD a=true)(l:List Nat):bo l a=true:=by cases a<;>simp[aD]at h<;>simp[bo,h]
theorem Vn{a:AV}(h:aD a=true)(g:Nat->Nat):jk g a=a:=by cases a<;>simp[aD]at h<;>rfl
theorem xN{α β:Type}{f:α->List β}:∀ {l:List α},(∀x∈l,f x=[])->l.flatMap f=[]
 |[],_=>rfl
 |x::l,h=>by
  simp_all
theorem Dc{a:AV}(h:dat a=true):bZ a=[]:=by
 cases a<;>simp only[dat]at h<;>first|exact Vm h|skip
 ·exact xN fun x hx=>Vm (List.all_eq_true.1 h x hx)
 ·simp[aD]at h;obtain⟨rfl,rfl⟩:=h;rfl
theorem Gi{a:AV}(h:dat a=true)(l:List Nat):aX l a=true:=by
 cases a<;>simp only[dat]at h<;>first|exact XY h l|skip
 all_goals grind[aX,avK,XY,aD]
theorem Dd{a:AV}(h:dat a=true)(g:Nat->Nat):dB g a=a:=by
 cases a<;>simp only[dat]at h<;>first|exact Vn h g|skip
 ·rename_i cs;show AV.agg (cs.map (jk g))=_;rw[(avR (g:=fun c=>c) fun x hx=>Vn (List.all_eq_true.1 h x hx) g).trans (av5 cs)]
 ·simp[aD]at h;obtain⟨rfl,rfl⟩:=h;rfl
theorem Jp{a:AV}(h:dat a=true)(hp:ac):dE hp 0 a=some (a,hp,[]):=by
 by_cases hagg:∃cs,a=.agg cs
 ·grind[dat,dE,vT,mu]
 ·have h2:aD a=true:=by cases a<;>first|exact h|exact absurd ⟨_,rfl⟩ hagg
  cases a<;>first| (simp[aD]at h2;done)|rfl|skip
theorem Ki(hp:ac):∀ {l:List AV},l.all dat=true->bO hp [] l=some (l,hp,[])
 |[],_=>rfl
 |a::l,h=>by
  simp only[avQ,avv]at h;simp only[bO,List.headD_nil,Jp h.1,avw,List.tail_nil,Ki hp h.2,avE]
structure OC (o:Ob):Prop where
 cl:∀l,az l o=true
 ids:nM o=[]
 ren:∀g,dG g o=o
 nd:bL o=false
structure RT (r:AV):Prop where
 ren:∀g,Fd g r=r
 mat:∀n h,mat n h r=(r,h)
 ok:∀l,jl l r=true
theorem akb(z:Int):RT (I z):=⟨fun _=>rfl,fun _ _=>rfl,fun _=>rfl⟩
theorem aaq(b:Bool):RT (B b):=⟨fun _=>rfl,fun _ _=>rfl,fun _=>rfl⟩
theorem qO:∀l:List AV,re [] l=[]
 |[]=>rfl
 |a::l=>by
  show(if(0:Nat)=2 then _ else [])++re [] l=[];rw[qO l];rfl
theorem Hr{f:FuncId}{h:ac}{d id:Nat}{zas as':List AV}{o o':Ob}{res:AV}(hm:(ax false).m f=[])(hk:(ax false).keep f=false)(hn:bm ((ax false).sh f) (.ref id none 0 0 0::zas)=.ref id none 0 0 0::as')(hd:zas.all dat=true)(hd':as'.all dat=true)
  (hh:h id=o) (ho:OC o) (ho':OC o') (hb:bf o=true->bf o'=true) (hR:R f (.ref 1000 none 0 0 0::as') [o]=some (res,[o'])) (hr:RT res) (h8:cu res<=8) (hfr:bY h (2000+8*d) (cu res)=true):
  bv R (ax false) h d (.ref id none 0 0 0::zas) (.fn f [] [])=some (res,upd h id o',[(id,true)]):=by
 have h1:bO h [] (.ref id none 0 0 0::zas)=some (.ref id none 0 0 0::zas,h,[]):=by
  simp only[bO,dE,avw,List.tail_nil,Ki h hd,avE]
 have hp:bu [] ((AV.ref id none 0 0 0::zas).flatMap bZ)=[id]:=by
  rw[List.flatMap_cons,xN fun x hx=>Dc (List.all_eq_true.1 hd x hx)];rfl
 have hre:bX h 40 [id] 0=[id]:=by
  simp[bX,hh,ho.ids,bu]
 have h3:aW [id] id=1000:=by simp[aW]
 have hall:(AV.ref id none 0 0 0::as').all (aX [id])=true:=by
  grind[aX,bo,Gi]
 have hmap:(AV.ref id none 0 0 0::as').map (dB (aW [id]))=.ref 1000 none 0 0 0::as':=by
  rw[avY,(avR (g:=fun c=>c) fun x hx=>Dd (List.all_eq_true.1 hd' x hx) _).trans (av5 as')];grind[dB,jk]
 have hob:([id].map fun a=>dG (aW [id]) (h a))=[o]:=by simp[hh,ho.ren]
 have hids:([id].all fun a=>az [id] (h a)&&!bL (h a))=true:=by simp[hh,ho.cl,ho.nd]
 unfold bv;rw[if_neg (by grind[jn])];simp only[dH,hm,avB,avE,h1,avw,hp,hre,hn];unfold jd;rw[hall,hids,hmap,hob,hR,awa,if_pos rfl,avw,hk,hm,qO];unfold dX;have hbf:cO h [] [id] [o']=true:=by
  have:=ho'.nd;grind[bf,cO]
 have hend:kG h [id] [] (res,[o'])=true:=by
  simp[kG,yw,hr.ok,ho'.cl]
 rw[if_pos ⟨rfl,by simp,h8,hfr,hbf,hend⟩];simp[dS,fG,hr.mat,hr.ren,ho'.ren]
theorem dA{f:FuncId}{h:ac}{d id:Nat}{zas:List AV}{r:Option R3}(hm:(ax false).m f=[])(hd:zas.all dat=true)(hc:bv R (ax false) h d (.ref id none 0 0 0::zas) (.fn f [] [])=r):GU R (ax false) d f (.ref id none 0 0 0::zas,h,[])=r:=by
 have h1:bO h [] (.ref id none 0 0 0::zas)=some (.ref id none 0 0 0::zas,h,[]):=by
  simp only[bO,dE,avw,List.tail_nil,Ki h hd,avE]
 rw[GV d hm,h1]at hc;exact hc
theorem kO{v e:Int}{c:AV}{l:List Rt}(hc:lX c l):OC (t3 v c e):=by
 rcases hc with rfl| ⟨rfl,_⟩
 ·exact⟨fun l=>rfl,rfl,fun g=>rfl,rfl⟩
 ·exact⟨fun l=>rfl,rfl,fun g=>rfl,rfl⟩
theorem ae1:RT (.tup []):=⟨fun _=>rfl,fun _ _=>rfl,fun _=>rfl⟩
theorem pn{v e e':Int}{c c':AV}{l l':List Rt}{h:ac}{d id:Nat}{x:List Int}{q:Rd}(hh:h id=t3 v c e)(hc:lX c l)(hc':lX c' l')(hR:R F.poly_collector_add [.ref 1000 none 0 0 0,.sl 1 (aO x),af q] [t3 v c e]=some (.tup [],[t3 v c' e'])):
  bv R (ax false) h d [.ref id none 0 0 0,.sl 1 (aO x),af q] (.fn F.poly_collector_add [] [])=some (.tup [],upd h id (t3 v c' e'),[(id,true)]):=
 Hr (aS.1.2.1 false) (aS.1.2.2.2 false) (as':=[.sl 1 (aO x),af q]) (by simp only[af,aj,go_sem]) rfl rfl hh (kO hc) (kO hc') (fun _=>rfl) hR ae1 δ rfl
theorem A9{v:Int}:R F.poly_empty [I v] []=some (.obx [I v,.emp,I 0],[]):=by
 refine aB Uh rfl ?_;rfl
theorem amY(r:Rp×Int):RT (pV r):=⟨fun _=>rfl,fun _ _=>rfl,fun _=>rfl⟩
theorem nJ{h:ac}{o:Ob}{rs:List (List Sh)}{vs us:List AV}{r:AV}(h0:((vs.flatMap bZ).filter fun i=>!bj i)=[])(h1:h 1000=o)(ho:az [1000] o=true)(h2:rk h vs=some us)(h3:tC (bm rs us)=r):pX rs 1 h vs=some (r,[o]):=by
 have hp:cF 1=[1000]:=rfl;unfold pX;rw[h0,hp,h2,if_pos (by grind[jq])];grind
theorem wS(x:Value):lA (.v x)=.v x:=rfl
theorem uU(k:Nat)(r:List (List AV)):lA (.osl k r)=.sl k r:=rfl
theorem Ba:lA .emp=.emp:=rfl
theorem akc{v e:Int}{l:List Rt}:tC (bm [[.o 0 [],.o 5 [.o 2 [],.o 0 [],.o 2 [],.o 0 []]],[]] [.agg [I v,.sl 4 (aH l)],I e])=pV (⟨v,l⟩,e):=by
 have h:=Gf l;show AV.tup [.agg [I v,.sl 4 ((aH l).map _)],I e]=_;rw[h];rfl
theorem ae2{v e:Int}{c:AV}{l:List Rt}(hc:lX c l)(he:e≠0):R F.poly_collector_done [.ref 1000 none 0 0 0] [t3 v c e]=some (pV (p0,e),[t3 v c e]):=by
 refine rR bA.2.1 bA.2.2 (bA.1.2.2.2 false) rfl ?_;have e1:(e=0)=False:=ff he;simp only[fH,iU,t3,go_sem,e1];exact nJ rfl (by rfl) ((kO hc).cl _) (by rfl) (by rfl)
theorem ae3{v:Int}{l:List Rt}:R F.poly_collector_done [.ref 1000 none 0 0 0] [t3 v (.osl 4 (aH l)) 0]=some (pV (tu v (some l)),[if 500<l.length then t3 v (.osl 4 (aH l)) 0 else .bx [I v,.sl 4 (aH l),I 0]]):=by
 refine rR bA.2.1 bA.2.2 (bA.1.2.2.2 false) rfl ?_;unfold tu;by_cases h:500<l.length
 ·have e1:(500< (l.length:Int))=True:=tt;simp only[if_pos h];simp only[fH,iU,t3,go_sem,e1];exact nJ rfl (by rfl) rfl (by rfl) (by rfl)
 ·have e1:(500< (l.length:Int))=False:=ff;simp only[if_neg h];simp only[fH,iU,t3,go_sem,e1,wS,uU];exact nJ rfl (by rfl) rfl (by rfl) akc
theorem ae4{v:Int}:R F.poly_collector_done [.ref 1000 none 0 0 0] [t3 v .emp 0]=some (pV (tu v (some [])),[t3 v .emp 0]):=by
 refine rR bA.2.1 bA.2.2 (bA.1.2.2.2 false) rfl ?_;have e1:((500:Int)<0)=False:=ff δ;simp only[fH,iU,t3,go_sem,e1];exact nJ rfl (by rfl) rfl (by rfl) (by rfl)
theorem BZ{v e:Int}{c:AV}{l:List Rt}{h:ac}{d id:Nat}(hh:h id=t3 v c e)(hc:lX c l)(hf:bY h (2000+8*d) 2=true):
  ∃o,bv R (ax false) h d [.ref id none 0 0 0] (.fn F.poly_collector_done [] [])=some (pV (if e=0 then tu v (some l)else(p0,e)),upd h id o,[(id,true)]):=by
 have key:∃o,OC o/\bf o=true/\R F.poly_collector_done [.ref 1000 none 0 0 0] [t3 v c e]=some (pV (if e=0 then tu v (some l)else(p0,e)),[o]):=by
  by_cases he:e=0
  ·subst he;rcases hc with rfl| ⟨rfl,rfl⟩
   ·refine⟨_,?_,?_,ae3⟩
    ·split
     ·exact kO (.inl rfl)
     ·exact⟨fun l=>rfl,rfl,fun g=>rfl,rfl⟩
    ·split<;>rfl
   ·exact⟨_,kO (.inr ⟨rfl,rfl⟩),rfl,ae4⟩
  ·rw[if_neg he];exact⟨_,kO hc,rfl,ae2 hc he⟩
 obtain⟨o,h1,h2,h3⟩:=key;exact⟨o,Hr (bA.1.2.1 false) (bA.1.2.2.2 false) (as':=[]) (by rfl) rfl rfl hh (kO hc) h1 (fun _=>h2) h3 (amY _) (by show 2<=8;decide) hf⟩
theorem PJ{a b:Rp}(oa:OkP a)(ob:OkP b):R F.poly_pair [aZ a,aZ b] []=some (B (xg a b),[]):=by
 refine aB WH rfl ?_;have h1:=uS oa;have h2:=uS ob;simp only[aZ]at h1 h2;unfold xg;cases ha:vp a with
 |false=>
  rw[ha]at h1;simp only[uD,By,aZ,go_sem,h1]
 |true=>
  rw[ha]at h1;cases hb:vp b with
  |false=>
   rw[hb]at h2;simp only[uD,By,aZ,go_sem,h1,h2]
  |true=>
   rw[hb]at h2;simp only[uD,By,aZ,go_sem,h1,h2]
structure ColE (v:Int) (l ts:List Rt) (e:Int) (c':AV) (l':List Rt) (e':Int):Prop where
 c:lX c' l'
 r:(e'=0/\e=0/\qN l ts=some l')\/(e'=9/\(e=0->qN l ts=none))
theorem ColE.fin{v:Int}{ts:List Rt}{c':AV}{l':List Rt}{e':Int}(h:ColE v [] ts 0 c' l' e'):(if e'=0 then tu v (some l')else(p0,e'))=tu v (qN [] ts):=by
 rcases h.r with⟨h1,_,h2⟩| ⟨h1,h2⟩
 ·rw[if_pos h1,h2]
 ·rw[h1,if_neg δ,h2 rfl];rfl
theorem ColE.step{v:Int}{l ts:List Rt}{t:Rt}{c:AV}(hc:lX c l){e:Int}(he:e=0\/e=9)(hC:e=0->Cl v l/\l.length+ts.length+1<=1000000)(vt:VT v t){v':Int}:
  ∃c1 l1 e1,R F.poly_collector_add [.ref 1000 none 0 0 0,.sl 1 (aO t.exps),af t.c] [t3 v' c e]=some (.tup [],[t3 v' c1 e1])/\lX c1 l1/\(e1=0\/e1=9)/\(e1=0->Cl v l1/\l1.length+ts.length<=1000000)/\∀c' l' e',ColE v l1 ts e1 c' l' e'->ColE v l (t::ts) e c' l' e':=by
 rcases he with rfl|rfl
 ·obtain⟨h1,h2⟩:=hC rfl;obtain⟨c1,l1,e1,g1,g2,g3⟩:=PI (v':=v') h1 vt ω hc;refine⟨c1,l1,e1,g1,g2,?_,fun h0=>?_,fun c' l' e' h=>⟨h.c,?_⟩⟩
  ·omega
  ·rcases g3 with⟨_,g⟩| ⟨g,_⟩
   ·have:=Mj g;exact⟨(PG h1 vt g).1,by omega⟩
   omega
  ·rcases g3 with⟨g,k⟩| ⟨g,k,_⟩
   ·rcases h.r with⟨q1,_,q2⟩| ⟨q1,q2⟩
    ·unfold qN;grind
    ·unfold qN;grind
   ·rcases h.r with⟨_,q1,_⟩| ⟨q1,_⟩
    ·omega
    ·unfold qN;grind
 ·refine⟨c,l,9,Vf hc δ,hc,.inr rfl,fun h=>by omega,fun c' l' e' h=>⟨h.c,?_⟩⟩;rcases h.r with⟨_,q1,_⟩| ⟨q1,_⟩
  all_goals omega
theorem acy{v v':Int}{T:List Rt}(hT:∀t∈T,VT v t)(hn:T.length<=100000):∀ (k i:Nat),i+k=T.length->∀ (c:AV) (l:List Rt) (e:Int),lX c l->(e=0\/e=9)->(e=0->Cl v l/\l.length+k<=1000000)->
  ∀ (s:ak) (h:ac),s 4=.ref 4 none 0 0 0->s 6=.ref 2128 none 0 0 0->s 22=.sl 4 (aH T)->s 23=I T.length->s 24=I i->h 4=.bx [I 0,.emp]->h 2128=t3 v' c e->
  ∃hh c' l' e',ah 0 [4,6] (av (ai R (ax false) sB) [4,6,22,23,24] [4,2128] s h)=some (.normal,⟨upd (upd (fun _=>.any) 6 (.ref 2128 none 0 0 0)) 4 (.ref 4 none 0 0 0),hh⟩)/\
   hh 4=.bx [I 0,.emp]/\hh 2128=t3 v' c' e'/\(∀a,a≠4->a≠2128->hh a=.dead)/\ColE v l (T.drop i) e c' l' e':=by
 intro k;induction k with
 |zero=>
  intro i hi c l e hc he hC s h h4 h6 h22 h23 h24 k4 k6;have e1:((i:Int)<T.length)=False:=ff;have ho:=(kO (v:=v') (e:=e) hc).cl [4,2128];rw[ag];refine⟨?hh0,c,l,e,?_,?_,?_,?_,?_⟩;rotate_left
  ·simp only[sB,go_sem,h4,h6,h22,h23,h24,k4,k6,ho,e1];rfl
  ·rfl
  ·rfl
  ·simp_all[cU,if_false]
  ·rw[avH ω];refine⟨hc,?_⟩;rcases he with rfl|rfl
   ·exact .inl ⟨rfl,rfl,rfl⟩
   omega
 |succ k ih=>
  intro i hi c l e hc he hC s h h4 h6 h22 h23 h24 k4 k6;have hlt:i<T.length:=ω
  have e1:((i:Int)<T.length)=True:=tt;have e2:bp (aH T) (i:Int)=some (.ipt (cx T[i])):=iX rfl (List.getElem?_eq_getElem hlt);have e5:IntKind.i64.wrap ((i:Int)+1)=((i+1:Nat):Int):=wi;have ho:=(kO (v:=v') (e:=e) hc).cl [4,2128];have hdl:(T.drop (i+1)).length=k:=γ
  obtain⟨c1,l1,ee,g1,g2,g3,g4,g5⟩:=ColE.step (ts:=T.drop (i+1)) hc he (fun h=>by grind) (hT _ (avN hlt)) (v':=v');rw[hdl]at g4;have ih':=ih (i+1) ω c1 l1 ee g2 g3 g4;rw[avI hlt,ag];have hcall:=fun(h:ac) (hh:h 2128=t3 v' c e) (d:Nat)=>dA (aS.1.2.1 false) rfl (pn (d:=d) hh hc g2 g1);simp only[af,aj]at hcall;simp only[cx]at e2;simp only[sB,go_sem,h4,h6,h22,h23,h24,k4,k6,ho,e1,e2];rw[hcall _ rfl];simp only[go_sem,e5];refine(ih' _ _ ?_ ?_ ?_ ?_ ?_ ?_ ?_).imp fun hh ⟨c',l',e',q1,q2,q3,q4,q5⟩=>⟨c',l',e',q1,q2,q3,q4,g5 _ _ _ q5⟩
  all_goals rfl
theorem X1:Ow .emp=some (I 0):=rfl
theorem Vo(h:ac):GA h .emp=h:=rfl
theorem aar:eS 4 .emp none (some (I 0)) none=some .emp:=rfl
theorem ae5{h:ac}{d:Nat}{z:List AV}{n:Nat}(h0:0<n)(h1:n<=1000000):Et h d 4 64 z .emp (I n)=df h d 4 (avr n z) n []:=by
 simp only[Et];grind
theorem ae6:R F.slices_Grow_api_Term_api_Term_ [.emp,I 0] []=some (.emp,[]):=by
 refine aB nc rfl ?_;have e1:((0:Int)<0)=False:=ff δ;have w1:IntKind.i64.wrap ((0:Int)-0)=0:=δ
 simp only[fg,acZ,go_sem,e1,w1,X1,Vo]
theorem ae7{n:Nat}(h0:0<n)(h1:n<=1000000):R F.slices_Grow_api_Term_api_Term_ [.emp,I n] []=some (.osl 4 [],[]):=by
 refine aB nc rfl ?_;have e1:((n:Int)<0)=False:=ff;have e2:(0< (n:Int))=True:=tt;have w0:IntKind.i64.wrap ((0:Int)-0)=0:=δ
 have w1:IntKind.i64.wrap ((n:Int)-0)=(n:Int):=wi;have e5:eS 4 (.rsl 22 none 4 0 n) none (some (I 0)) none=some (.rsl 22 none 4 0 0):=by
  simp[eS,kf,jY]
 have e4:=fun h d z=>ae5 (h:=h) (d:=d) (z:=z) h0 h1;simp only[fg,acZ,go_sem,e1,e2,e4,w0,w1,X1,Vo,aar,e5,List.take_zero]
 done
theorem acz{a b:List Rt}(ha:a.length<=100000)(hb:b.length<=100000):R F.slices_Concat_api_Term_api_Term_ [.sl 1 [[.sl 4 (aH a)],[.sl 4 (aH b)]]] []=some (.sl 4 (aH (a++b)),[]):=by
 refine aB wz rfl ?_;have w1:IntKind.i64.wrap ((0:Int)+(a.length:Int))=(a.length:Int):=wi;have w2:IntKind.i64.wrap ((a.length:Int)+(b.length:Int))=((a.length+b.length:Nat):Int):=wi;have e1:((a.length:Int)<0)=False:=ff;have e2:(((a.length+b.length:Nat):Int)<0)=False:=ff;have c1:((0:Int)< ((0+1+1:Nat):Int))=True:=tt δ;have c2:((1:Int)< ((0+1+1:Nat):Int))=True:=tt δ;have c3:((2:Int)< ((0+1+1:Nat):Int))=False:=ff δ;have r0:bp [[AV.sl 4 (aH a)],[.sl 4 (aH b)]] 0=some (.ipt [.sl 4 (aH a)]):=rfl;have r1:bp [[AV.sl 4 (aH a)],[.sl 4 (aH b)]] 1=some (.ipt [.sl 4 (aH b)]):=rfl;have i1:IntKind.i64.wrap ((0:Int)+1)=1:=δ
 have i2:IntKind.i64.wrap ((1:Int)+1)=2:=δ
 simp only[gH,lS,go_sem,av2,awd];rw[ag];simp only[kC,go_sem,c1,r0,w1,e1,i1];rw[ag];simp only[go_sem,c2,r1,w2,e2,i2];rw[ag];simp only[go_sem,c3];by_cases hz:a.length+b.length=0
 ·have ea:a=[]:=List.length_eq_zero_iff.1 ω;have eb:b=[]:=List.length_eq_zero_iff.1 ω;subst ea eb;have hg:=ae6;have a0:∀h d,Lo h d 4 64 .emp (.sl 4 [])=some (.emp,h,[]):=fun h d=>rfl;have hcr:kY (fun _=>.dead) 24 (some (.emp,[]))=some (.emp,fun _=>.dead,[]):=rfl;rw[show aH []=[]from rfl]at*
  simp only[go_sem,hg,hcr,awd,av1,av7];rw[ag];simp only[fT,go_sem,c1,r0,i1,a0];rw[ag];simp only[go_sem,c2,r1,i2,a0];rw[ag];rfl
 ·have hg:=ae7 (n:=a.length+b.length) ω ω;have b1:(a.length*64<=140737488355328)=True:=tt;have b2:((a.length+b.length)*64<=140737488355328)=True:=tt;simp only[go_sem,hg,awd];rw[ag];simp only[fT,go_sem,c1,r0,i1,b1,or_true,avs,avB,awd];rw[ag];simp only[go_sem,c2,r1,i2,b2,or_true];rw[ag];simp only[go_sem,c3,avs];have hl:(aH a++aH b).length=a.length+b.length:=by grind[awj,n9]
  have hab:aH a++aH b=aH (a++b):=by simp[aH]
  rw[hl,if_pos (avt _),if_pos rfl,hab];have h:=Gf (a++b);show some (AV.sl 4 ((aH (a++b)).map _),[])=_;rw[h]
theorem po(h:ac)(d:Nat)(v:Int):kY h d (some (.obx [I v,.emp,I 0],[]))=if bL (h (2000+8*d))=true then some (.ref (2000+8*d) none 0 0 0,upd h (2000+8*d) (.bx [I v,.emp,I 0]),[])else none:=by
 simp[kY,cu,bY,jl,fE,lY,aD,bB,mat,dO]
theorem akd{v v':Int}{T:List Rt}(hT:∀t∈T,VT v t)(hn:T.length<=100000)(s:ak)(h:ac)(X:Option (Ex×St))(hX:ah 0 [4,6] (av (ai R (ax false) sB) [4,6,22,23,24] [4,2128] s h)=X)(h4:s 4=.ref 4 none 0 0 0)(h6:s 6=.ref 2128 none 0 0 0)(h22:s 22=.sl 4 (aH T))(h23:s 23=I T.length)(h24:s 24=I 0)(k4:h 4=.bx [I 0,.emp])(k6:h 2128=t3 v' .emp 0):
  ∃hh c' l' e',X=some (.normal,⟨upd (upd (fun _=>.any) 6 (.ref 2128 none 0 0 0)) 4 (.ref 4 none 0 0 0),hh⟩)/\
   hh 4=.bx [I 0,.emp]/\hh 2128=t3 v' c' e'/\(∀a,a≠4->a≠2128->hh a=.dead)/\ColE v [] T 0 c' l' e':=by
 subst hX;exact acy hT hn T.length 0 (avs _) .emp [] 0 (.inr ⟨rfl,rfl⟩) (.inl rfl) (fun _=>⟨Cl.nil _,by grind⟩) s h h4 h6 h22 h23 h24 k4 k6
theorem ahE{a b:Rp}(oa:OkP a)(ob:OkP b):R F.poly_Add [aZ a,aZ b] []=some (pV (aap a b),[]):=by
 refine aB ZV rfl ?_;have hp:=PJ oa ob;simp only[aZ]at hp;unfold aap;cases hb:xg a b with
 |false=>
  rw[hb]at hp;simp only[Bv,G0,aZ,go_sem,hp];rfl
 |true=>
  rw[hb]at hp;obtain⟨va,vb,hv⟩:=uT.1 hb;obtain⟨ca,a0,a8,al⟩:=lv oa va;obtain⟨cb,b0,b8,bl⟩:=lv ob vb;rw[←hv]at cb;have hT:∀t∈a.terms++b.terms,VT a.vars t:=fun t ht=>by
   rcases List.mem_append.1 ht with ht|ht
   ·exact ca.t t ht
   ·exact cb.t t ht
  have hemp:=A9 (v:=a.vars);have hcat:=acz (a:=a.terms) (b:=b.terms) ω ω;have hl:=akd (v':=a.vars) hT γ;simp only[Bv,G0,aZ,go_sem,hp,hemp,po,hcat,av2,awd];generalize hX:ah 0 [4,6] _=X;obtain⟨hh,c',l',e',rfl,q2,q3,q4,q5⟩:=hl _ _ _ hX rfl rfl rfl rfl rfl rfl rfl;obtain⟨o,hd⟩:=BZ (d:=36) q3 q5.c (by grind[bY,bL]);have hd':=dA (bA.1.2.1 false) rfl hd;rw[q5.fin]at hd';simp only[pV,aZ,go_sem,q2,hd']
theorem ahF{v:Int}{t:Rt}(vt:VT v t):R F.dyadic_Neg [af t.c] []=some (af (xL t).c,[]):=by
 have h:=D5 vt.c;have hvc:=vt.vc;rw[if_neg (by rw[hvc];exact fun h=>h.elim (fun h=>by cases h) vt.nz)]at h;exact h
def t2(v:Int)(c:AV):Ob:=.bx [I v,c]
theorem ago{v:Int}{c:AV}{l:List Rt}(hc:lX c l)(ids:List Nat):az ids (t2 v c)=true:=by
 rcases hc with rfl| ⟨rfl,_⟩<;>rfl
theorem acA{v v':Int}{a:Rp}{T:List Rt}(hT:∀t∈T,VT v t)(hn:T.length<=100000){o3:Ob}(ho3:az [2,3,4,6] o3=true):∀ (k i:Nat),i+k=T.length->∀ (c:AV),lX c ((T.take i).map xL)->
  ∀ (s:ak) (h:ac),s 2=.ref 2 none 0 0 0->s 4=.ref 4 none 0 0 0->s 6=.ref 6 none 0 0 0->s 18=.sl 4 (aH T)->s 19=I T.length->s 20=I i->h 2=.bx [I a.vars,.sl 4 (aH a.terms)]->h 3=o3->h 4=.bx [I 0,.emp]->h 6=t2 v' c->
  ∃hh c',ah 0 [2,4,6] (av (ai R (ax false) nX) [2,4,6,18,19,20] [2,3,4,6] s h)=some (.normal,⟨upd (upd (upd (fun _=>.any) 6 (.ref 6 none 0 0 0)) 4 (.ref 4 none 0 0 0)) 2 (.ref 2 none 0 0 0),hh⟩)/\
   hh 2=.bx [I a.vars,.sl 4 (aH a.terms)]/\hh 4=.bx [I 0,.emp]/\hh 6=t2 v' c'/\(∀a,a≠2->a≠3->a≠4->a≠6->hh a=.dead)/\lX c' (T.map xL):=by
 intro k;induction k with
 |zero=>
  intro i hi c hc s h h2 h4 h6 h18 h19 h20 k2 k3 k4 k6;have e1:((i:Int)<T.length)=False:=ff;rw[avL ω]at hc;have ho:=ago (v:=v') hc [2,3,4,6];rw[ag];refine⟨?hh0,c,?_,?_,?_,?_,?_,hc⟩;rotate_left
  ·simp only[nX,go_sem,h2,h4,h6,h18,h19,h20,k2,k3,k4,k6,ho,ho3,e1];rfl
  ·rfl
  ·rfl
  ·rfl
  ·intro a a1 a2 a3 a4;simp only[cU,a1,a2,a3,a4,if_false]
 |succ k ih=>
  intro i hi c hc s h h2 h4 h6 h18 h19 h20 k2 k3 k4 k6;have hlt:i<T.length:=ω
  have e1:((i:Int)<T.length)=True:=tt;have e2:bp (aH T) (i:Int)=some (.ipt (cx T[i])):=iX rfl (List.getElem?_eq_getElem hlt);have e5:IntKind.i64.wrap ((i:Int)+1)=((i+1:Nat):Int):=wi;have hng:=ahF (hT _ (avN hlt));have ho:=ago (v:=v') hc [2,3,4,6];have ih':=ih (i+1) ω;rw[List.take_succ_eq_append_getElem hlt,List.map_append,List.map_singleton]at ih';have hlen:((T.take i).map xL).length=i:=by rw[awk,avF];omega
  generalize T[i]=t at e2 hng ih';generalize(T.take i).map xL=l at hc ih' hlen;rw[ag];generalize av _ _ _=L at ih'⊢;simp only[af,aj,xL]at hng;simp only[cx]at e2;rcases hc with rfl| ⟨rfl,rfl⟩
  ·simp only[t2]at k6;have b1:((l.length+1)*64<=140737488355328)=True:=tt;simp only[nX,go_sem,h2,h4,h6,h18,h19,h20,k2,k3,k4,k6,ho3,e1,e2,hng,b1,true_or];rw[if_pos (by rfl),vS rfl (by rw[awj,n9];rfl) rfl δ (by show 1<2;decide)];simp only[go_sem,e5];refine(ih' (.osl 4 (aH l++[[.sl 1 (aO t.exps),B (!t.c.neg),lm t.c.m,I t.c.e]])) (.inl ?_) _ _ ?_ ?_ ?_ ?_ ?_ ?_ ?_ ?_ ?_ ?_).imp fun hh ⟨c',q⟩=>⟨c',q⟩
   ·simp[aH,cx,xL]
   all_goals rfl
  ·simp only[t2]at k6;simp only[nX,go_sem,h2,h4,h6,h18,h19,h20,k2,k3,k4,k6,ho3,e1,e2,hng];rw[if_pos (by rfl),vS rfl (show 1=List.length [[AV.sl 1 (aO t.exps),B (!t.c.neg),lm t.c.m,I t.c.e]]from rfl) rfl δ (by show 1<2;decide)];simp only[go_sem,e5];refine(ih' (.osl 4 [[.sl 1 (aO t.exps),B (!t.c.neg),lm t.c.m,I t.c.e]]) (.inl ?_) _ _ ?_ ?_ ?_ ?_ ?_ ?_ ?_ ?_ ?_ ?_).imp fun hh ⟨c',q⟩=>⟨c',q⟩
   all_goals rfl
theorem ake{v v':Int}{a:Rp}{T:List Rt}(hT:∀t∈T,VT v t)(hn:T.length<=100000){o3:Ob}(ho3:az [2,3,4,6] o3=true)(s:ak)(h:ac)(X:Option (Ex×St))(hX:ah 0 [2,4,6] (av (ai R (ax false) nX) [2,4,6,18,19,20] [2,3,4,6] s h)=X)
  (h2:s 2=.ref 2 none 0 0 0) (h4:s 4=.ref 4 none 0 0 0) (h6:s 6=.ref 6 none 0 0 0) (h18:s 18=.sl 4 (aH T)) (h19:s 19=I T.length) (h20:s 20=I 0) (k2:h 2=.bx [I a.vars,.sl 4 (aH a.terms)]) (k3:h 3=o3) (k4:h 4=.bx [I 0,.emp]) (k6:h 6=.bx [I v',.emp]):
  ∃hh c',X=some (.normal,⟨upd (upd (upd (fun _=>.any) 6 (.ref 6 none 0 0 0)) 4 (.ref 4 none 0 0 0)) 2 (.ref 2 none 0 0 0),hh⟩)/\
   hh 2=.bx [I a.vars,.sl 4 (aH a.terms)]/\hh 4=.bx [I 0,.emp]/\hh 6=t2 v' c'/\(∀a,a≠2->a≠3->a≠4->a≠6->hh a=.dead)/\lX c' (T.map xL):=by
 subst hX;exact acA hT hn ho3 T.length 0 (avs _) .emp (.inr ⟨rfl,rfl⟩) s h h2 h4 h6 h18 h19 h20 k2 k3 k4 k6
theorem ahG{a b:Rp}(_oa:OkP a)(ob:OkP b)(h:xg a b=true):OkP ⟨b.vars,b.terms.map xL⟩/\aap a ⟨b.vars,b.terms.map xL⟩=Eg a b:=by
 obtain⟨va,vb,hv⟩:=uT.1 h;obtain⟨cb,b0,b8,bl⟩:=lv ob vb;have hp:∀l:List Rt,Cl b.vars l->Cl b.vars (l.map xL):=by
  intro l;induction l with
  |nil=>exact fun c=>c
  |cons t l ih=>
   intro c;obtain⟨c1,c2,c3⟩:=c.cons;refine Cl.mk' (XX c1) (fun x hx=>?_) (ih c3);obtain⟨q,hq,rfl⟩:=List.mem_map.1 hx;exact c2 q hq
 have hn:=hp _ cb;refine⟨qM hn,?_⟩;have h2:xg a ⟨b.vars,b.terms.map xL⟩=true:=uT.2 ⟨va,SK hn b0 b8 (by rw[awk];exact bl),hv⟩;unfold aap Eg;rw[if_pos h2,if_pos h]
theorem ahH{a b:Rp}(oa:OkP a)(ob:OkP b):R F.poly_Sub [aZ a,aZ b] []=some (pV (Eg a b),[]):=by
 refine aB ZW rfl ?_;have hp:=PJ oa ob;simp only[aZ]at hp;cases hb:xg a b with
 |false=>
  rw[hb]at hp;unfold Eg;rw[hb,if_neg avD];simp only[Bw,G1,aZ,go_sem,hp];rfl
 |true=>
  rw[hb]at hp;obtain⟨va,vb,hv⟩:=uT.1 hb;obtain⟨cb,b0,b8,bl⟩:=lv ob vb;obtain⟨on,e1⟩:=ahG oa ob hb;have hadd:=ahE oa on;rw[e1]at hadd;have hl:=ake (v':=b.vars) (a:=a) (T:=b.terms) cb.t ω (o3:=.bx [I b.vars,.sl 4 (aH b.terms)]) rfl;simp only[Bw,G1,aZ,go_sem,hp];generalize hX:ah 0 [2,4,6] _=X;obtain⟨hh,c',rfl,q2,q3,q4,q5,q6⟩:=hl _ _ _ hX rfl rfl rfl rfl rfl rfl rfl rfl rfl rfl;have d1:hh 2304=.dead:=q5 _ δ δ δ δ;have d2:hh 2305=.dead:=q5 _ δ δ δ δ;generalize Eg a b=r at hadd⊢;obtain⟨r1,r2⟩:=r;simp only[pV,aZ]at hadd;rcases q6 with rfl| ⟨rfl,q6⟩
  ·simp only[t2]at q4;simp only[pV,aZ,go_sem,q2,q3,q4,d1,d2,wS,uU,hadd]
  ·simp only[t2]at q4;rw[q6]at hadd;rw[show aH []=[]from rfl]at hadd;simp only[pV,aZ,go_sem,q2,q3,q4,d1,d2,hadd]
theorem ae8{v:Int}{q t:Rt}(vq:VT v q)(vt:VT v t):R F.r23_Compare [.sl 1 (aO q.exps),.sl 1 (aO t.exps)] []=some (I (cw q.exps t.exps),[]):=U8 vq.sm vt.sm (vq.l2 vt)
def qQ:List Nat->List Nat->Bool
 |[],[]=>true
 |x::xs,y::ys=>decide (x=y)&&qQ xs ys
 |_,_=>false
theorem PK:∀ {a b:List Nat},qQ a b=true↔a=b
 |[],[]=>by simp[qQ]
 |x::a,y::b=>by simp[qQ,PK]
 |[],_::_=>by simp[qQ]
 |_::_,[]=>by simp[qQ]
theorem ae9{x y:Rd}(hl:x.m.length=y.m.length)(h2:x.m.length<=100000):∀ (k i:Nat),i+k=x.m.length->∀ (s:ak) (h:ac),s 2=.ref 2 none 0 0 0->s 3=.ref 3 none 0 0 0->s 5=I i->h 2=.bx (aj x)->h 3=.bx (aj y)->
  ∃hh,ah 0 [] (av (ai R (ax false) lg) [2,3,5] [2,3] s h)=if qQ (x.m.drop i) (y.m.drop i)=true then some (.normal,⟨fun _=>.any,hh⟩)else some (.ret,⟨upd (fun _=>.any) 4 (B false),hh⟩):=by
 intro k;induction k with
 |zero=>
  intro i hi s h g2 g3 g5 k2 k3;have e1:((i:Int)<x.m.length)=False:=ff;rw[avH ω,avH ω,ag];simp only[aj]at k2 k3;refine⟨?hh0,?_⟩;rotate_left
  ·simp only[lg,qQ,go_sem,g2,g3,g5,k2,k3,e1];rfl
 |succ k ih=>
  intro i hi s h g2 g3 g5 k2 k3;have hlt:i<x.m.length:=ω
  have hlt2:i<y.m.length:=ω
  have e1:((i:Int)<x.m.length)=True:=tt;have e2:bp (aG x.m) (i:Int)=some (.ipt [U (x.m.getD i 0:Nat)]):=cQ rfl hlt;have e3:bp (aG y.m) (i:Int)=some (.ipt [U (y.m.getD i 0:Nat)]):=cQ rfl hlt2;have e5:IntKind.i64.wrap ((i:Int)+1)=((i+1:Nat):Int):=wi;have ih':=ih (i+1) ω;rw[avI hlt,avI hlt2,ag];have v1:x.m.getD i 0=x.m[i]:=by simp[List.getD,hlt]
  have v2:y.m.getD i 0=y.m[i]:=by simp[List.getD,hlt2]
  rw[v1]at e2;rw[v2]at e3;generalize x.m[i]=p at e2⊢;generalize y.m[i]=q at e3⊢;generalize av _ _ _=L at ih'⊢;unfold qQ;simp only[aj]at k2 k3;by_cases hpq:p=q
  ·have e4:((p:Int)=(q:Int))=True:=tt;rw[decide_eq_true hpq,avz];simp only[lg,go_sem,g2,g3,g5,k2,k3,e1,e2,e3,e4,e5];exact ih' _ _ rfl rfl rfl rfl rfl
  ·have e4:((p:Int)=(q:Int))=False:=ff;rw[decide_eq_false hpq,avC];simp only[if_neg avD];refine⟨?hh1,?_⟩;rotate_left
   ·simp only[lg,go_sem,g2,g3,g5,k2,k3,e1,e2,e3,e4];rfl
theorem amZ{x y:Rd}(hl:x.m.length=y.m.length)(h2:x.m.length<=100000)(s:ak)(h:ac)(X:Option (Ex×St))(hX:ah 0 [] (av (ai R (ax false) lg) [2,3,5] [2,3] s h)=X)(g2:s 2=.ref 2 none 0 0 0)(g3:s 3=.ref 3 none 0 0 0)(g5:s 5=I 0)(k2:h 2=.bx [B x.neg,lm x.m,I x.e])(k3:h 3=.bx [B y.neg,lm y.m,I y.e]):
  ∃hh,X=if qQ x.m y.m=true then some (.normal,⟨fun _=>.any,hh⟩)else some (.ret,⟨upd (fun _=>.any) 4 (B false),hh⟩):=by
 subst hX;exact ae9 hl h2 x.m.length 0 (avs _) s h g2 g3 g5 k2 k3
def PL(x y:Rd):Bool:=(x.neg==y.neg)&& (decide (x.e=y.e)&&qQ x.m y.m)
theorem ahI{x y:Rd}:PL x y=true↔x=y:=by
 unfold PL;rw[avv,avv,PK,beq_iff_eq,decide_eq_true_eq];constructor
 ·rintro⟨h1,h2,h3⟩
  cases x;cases y;cases h1;cases h2;cases h3;rfl
 ·rintro rfl
  exact⟨rfl,rfl,rfl⟩
theorem Mm:∀ {a b:List Nat},a.length≠b.length->qQ a b=false
 |[],[],h=>absurd rfl h
 |x::a,y::b,h=>by
  unfold qQ;rw[Mm (fun e=>h (by simp[e])),Bool.and_false]
 |[],_::_,_=>rfl
 |_::_,[],_=>rfl
theorem acB{x y:Rd}(hx:x.m.length<=100000):R F.r23_number [af x,af y] []=some (B (PL x y),[]):=by
 refine aB Ue rfl ?_;unfold PL;cases h1:(x.neg==y.neg)with
 |false=>
  have h4:(true != (x.neg==y.neg))=true:=by rw[h1];rfl
  rw[avC];simp only[nU,uv,af,aj,go_sem,h4]
 |true=>
  have h4:(true != (x.neg==y.neg))=false:=by rw[h1];rfl
  rw[avz];by_cases h2:x.e=y.e
  ·have e2:(x.e=y.e)=True:=eq_true h2;rw[decide_eq_true h2,avz];by_cases h3:x.m.length=y.m.length
   ·have e3:((x.m.length:Int)=(y.m.length:Int))=True:=tt;have hl:=amZ (x:=x) (y:=y) h3 hx;simp only[nU,uv,af,aj,go_sem,h4,e2,e3];generalize hX:ah 0 [] _=X;obtain⟨hh,rfl⟩:=hl _ _ _ hX rfl rfl rfl rfl rfl;cases qQ x.m y.m with
    |true=>
     simp only[go_sem]
    |false=>
     simp only[go_sem]
   ·have e3:((x.m.length:Int)=(y.m.length:Int))=False:=ff;rw[Mm h3];simp only[nU,uv,af,aj,go_sem,h4,e2,e3]
  ·have e2:(x.e=y.e)=False:=eq_false h2;rw[decide_eq_false h2,avC];simp only[nU,uv,af,aj,go_sem,h4,e2]
def tU:List Rt->List Rt->Bool
 |[],[]=>true
 |x::xs,y::ys=>(decide (cw x.exps y.exps=0)&&PL x.c y.c)&&tU xs ys
 |_,_=>false
theorem Q8:∀ {a b:List Rt},a.length≠b.length->tU a b=false
 |[],[],h=>absurd rfl h
 |x::a,y::b,h=>by
  unfold tU;rw[Q8 (fun e=>h (by simp[e])),Bool.and_false]
 |[],_::_,_=>rfl
 |_::_,[],_=>rfl
theorem Vp{v:Int}:∀ {a b:List Rt},(∀t∈a,VT v t)->(∀t∈b,VT v t)->(tU a b=true↔a=b)
 |[],[],_,_=>by simp[tU]
 |x::a,y::b,ha,hb=>by
  have ih:=Vp (a:=a) (b:=b) (fun t ht=>ha t (by simp[ht])) (fun t ht=>hb t (by simp[ht]));have vx:=ha x σ;have vy:=hb y σ;unfold tU;rw[avv,avv,decide_eq_true_eq,ahI,ih];constructor
  ·rintro⟨⟨h1,h2⟩,rfl⟩
   have h3:=ahx (vx.l2 vy) h1;cases x;cases y;cases h3;cases h2;rfl
  ·intro h;cases h;exact⟨⟨Q2 _,rfl⟩,rfl⟩
 |[],_::_,_,_=>by simp[tU]
 |_::_,[],_,_=>by simp[tU]
theorem acC{v:Int}{a b:Rp}(ha:∀t∈a.terms,VT v t)(hb:∀t∈b.terms,VT v t)(hl:a.terms.length=b.terms.length)(h2:a.terms.length<=100000):∀ (k i:Nat),i+k=a.terms.length->∀ (s:ak) (h:ac),s 2=.ref 2 none 0 0 0->s 3=.ref 3 none 0 0 0->s 5=I i->h 2=.bx [I a.vars,.sl 4 (aH a.terms)]->h 3=.bx [I b.vars,.sl 4 (aH b.terms)]->
  ∃hh,ah 0 [] (av (ai R (ax false) lF) [2,3,5] [2,3] s h)=if tU (a.terms.drop i) (b.terms.drop i)=true then some (.normal,⟨fun _=>.any,hh⟩)else some (.ret,⟨upd (fun _=>.any) 4 (B false),hh⟩):=by
 intro k;induction k with
 |zero=>
  intro i hi s h g2 g3 g5 k2 k3;have e1:((i:Int)<a.terms.length)=False:=ff;rw[avH ω,avH ω,ag];refine⟨?hh0,?_⟩;rotate_left
  ·simp only[lF,tU,go_sem,g2,g3,g5,k2,k3,e1];rfl
 |succ k ih=>
  intro i hi s h g2 g3 g5 k2 k3;have hlt:i<a.terms.length:=ω
  have hlt2:i<b.terms.length:=ω
  have e1:((i:Int)<a.terms.length)=True:=tt;have e2:bp (aH a.terms) (i:Int)=some (.ipt (cx a.terms[i])):=iX rfl (List.getElem?_eq_getElem hlt);have e3:bp (aH b.terms) (i:Int)=some (.ipt (cx b.terms[i])):=iX rfl (List.getElem?_eq_getElem hlt2);have e5:IntKind.i64.wrap ((i:Int)+1)=((i+1:Nat):Int):=wi;have ih':=ih (i+1) ω;have vx:=ha _ (avN hlt);have vy:=hb _ (avN hlt2);rw[avI hlt,avI hlt2,ag];generalize a.terms[i]=x at e2 vx⊢;generalize b.terms[i]=y at e3 vy⊢;generalize av _ _ _=L at ih'⊢;have hc:=ae8 vx vy;have hnum:=acB (x:=x.c) (y:=y.c) (avx (zN vx.vc vx.c.lb) δ);have hle:((x.exps.length:Int)=(y.exps.length:Int))=True:=tt (by have:=vx.l2 vy;omega);unfold tU;simp only[cx]at e2 e3;simp only[af,aj]at hnum;by_cases ho:cw x.exps y.exps=0
  ·have e4:(cw x.exps y.exps=0)=True:=eq_true ho;rw[decide_eq_true ho,avz];cases hn:PL x.c y.c with
   |true=>
    rw[hn]at hnum;rw[avz];simp only[lF,go_sem,g2,g3,g5,k2,k3,e1,e2,e3,hle,hc,e4,hnum,e5];exact ih' _ _ rfl rfl rfl rfl rfl
   |false=>
    rw[hn]at hnum;rw[avC];simp only[if_neg avD];refine⟨?hh1,?_⟩;rotate_left
    ·simp only[lF,go_sem,g2,g3,g5,k2,k3,e1,e2,e3,hle,hc,e4,hnum];rfl
  ·have e4:(cw x.exps y.exps=0)=False:=eq_false ho;rw[decide_eq_false ho,avC,avC];simp only[if_neg avD];refine⟨?hh2,?_⟩;rotate_left
   ·simp only[lF,go_sem,g2,g3,g5,k2,k3,e1,e2,e3,hle,hc,e4];rfl
theorem akf{v:Int}{a b:Rp}(ha:∀t∈a.terms,VT v t)(hb:∀t∈b.terms,VT v t)(hl:a.terms.length=b.terms.length)(h2:a.terms.length<=100000)(s:ak)(h:ac)(X:Option (Ex×St))(hX:ah 0 [] (av (ai R (ax false) lF) [2,3,5] [2,3] s h)=X)
  (g2:s 2=.ref 2 none 0 0 0) (g3:s 3=.ref 3 none 0 0 0) (g5:s 5=I 0) (k2:h 2=.bx [I a.vars,.sl 4 (aH a.terms)]) (k3:h 3=.bx [I b.vars,.sl 4 (aH b.terms)]):
  ∃hh,X=if tU a.terms b.terms=true then some (.normal,⟨fun _=>.any,hh⟩)else some (.ret,⟨upd (fun _=>.any) 4 (B false),hh⟩):=by
 subst hX;exact acC ha hb hl h2 a.terms.length 0 (avs _) s h g2 g3 g5 k2 k3
def SN(a b:Rp):Bool:=decide (a.vars=b.vars)&&tU a.terms b.terms
theorem ahJ{a b:Rp}(ha:Cl a.vars a.terms)(hb:Cl b.vars b.terms)(h2:a.terms.length<=100000):R F.r23_Same [aZ a,aZ b] []=some (B (SN a b),[]):=by
 refine aB ZR rfl ?_;unfold SN;by_cases hv:a.vars=b.vars
 ·have e1:(a.vars=b.vars)=True:=eq_true hv;rw[decide_eq_true hv,avz];by_cases h3:a.terms.length=b.terms.length
  ·have e3:((a.terms.length:Int)=(b.terms.length:Int))=True:=tt;have hbt:=hb.t;rw[←hv]at hbt;have hl:=akf (a:=a) (b:=b) ha.t hbt h3 h2;simp only[wJ,CS,aZ,go_sem,e1,e3];generalize hX:ah 0 [] _=X;obtain⟨hh,rfl⟩:=hl _ _ _ hX rfl rfl rfl rfl rfl;cases tU a.terms b.terms with
   |true=>simp only[go_sem]
   |false=>simp only[go_sem]
  ·have e3:((a.terms.length:Int)=(b.terms.length:Int))=False:=ff;rw[Q8 h3];simp only[wJ,CS,aZ,go_sem,e1,e3]
 ·have e1:(a.vars=b.vars)=False:=eq_false hv;rw[decide_eq_false hv,avC];simp only[wJ,CS,aZ,go_sem,e1]
theorem lmB(m:List Nat):(aG m).map (fun r=>match r with|[.v (.int _ x)]=>x.toNat|_=>0)=m:=by
 grind[aG,List.map_map,avR,av5]
theorem izB(m:List Int):(aO m).map (fun r=>match r with|[.v (.int _ x)]=>x|_=>0)=m:=by
 grind[aO,List.map_map,avR,av5]
def tmB:List AV->Rt
 |[.sl _ m1,.v (.bool n2),.sl _ m2,.v (.int _ e2)]=>⟨m1.map (fun r=>match r with|[.v (.int _ x)]=>x|_=>0),⟨n2,m2.map (fun r=>match r with|[.v (.int _ x)]=>x.toNat|_=>0),e2⟩⟩
 |_=>⟨[],aI⟩
theorem am0(t:Rt):tmB (cx t)=t:=by
 show(⟨(aO t.exps).map _,⟨t.c.neg,(aG t.c.m).map _,t.c.e⟩⟩:Rt)=t;rw[lmB,izB]
def plC(a:Rp):List AV:=[I a.vars,.sl 4 (aH a.terms)]
def plR(l:List Rp):List (List AV):=l.map plC
@[go_sem] theorem atz(l:List Rp):(plR l).length=l.length:=by simp[plR]
@[go_sem] theorem aq5(l:List Rt):(aH l).map (dU [.o 2 [],.o 0 [],.o 0 [],.o 0 []])=aH l:=by
 refine qV fun x hx=>?_;simp only[aH,awc]at hx;obtain⟨t,ht,rfl⟩:=hx;simp only[cx,go_sem]
@[go_sem] theorem atA(l:List Rp):(plR l).map (dU [.o 0 [],.o 5 [.o 2 [],.o 0 [],.o 0 [],.o 0 []]])=plR l:=by
 refine qV fun x hx=>?_;simp only[plR,awc]at hx;obtain⟨t,ht,rfl⟩:=hx;simp only[plC,go_sem]
structure Res (r:Rp×Int):Prop where
 cl:Cl r.1.vars r.1.terms
 len:r.1.terms.length<=100000
 z:r.2=0\/r.1=p0
theorem aas{a:Rp}(h:Cl a.vars a.terms):SN a a=true:=by
 unfold SN;rw[decide_eq_true rfl,avz,(Vp h.t h.t).2 rfl]
theorem X3(l:List Int)(n:Nat)(x:Int):(aO l).set n [I x]=aO (l.set n x):=by simp[aO,List.map_set]
theorem afa{a b:List Int}{i:Nat}{x y:Int}(hx:a[i]?=some x)(hy:b[i]?=some y):(mj a b)[i]?=some (x+y):=by
 unfold mj;rw[List.getElem?_zipWith,hx,hy]
def H3(a b:List Int)(i:Nat):List Int:=(mj a b).take i++a.drop i
theorem ahK{a b:List Int}(h:a.length=b.length){i:Nat}{x:Int}(hx:a[i]?=some x):(H3 a b i)[i]?=some x:=by
 have hlt:=(List.getElem?_eq_some_iff.1 hx).1;unfold H3;rw[List.getElem?_append_right (by rw[avF,xM h];omega),avF,xM h,List.getElem?_drop,show i+(i-min i a.length)=i by omega];exact hx
theorem ahL{a b:List Int}(h:a.length=b.length){i:Nat}{x y:Int}(hx:a[i]?=some x)(hy:b[i]?=some y):(H3 a b i).set i (x+y)=H3 a b (i+1):=by
 have hlt:=(List.getElem?_eq_some_iff.1 hx).1;have hg:=afa hx hy;have hlen:=xM h;unfold H3;have ht:((mj a b).take i).length=i:=by rw[avF];omega
 rw[List.set_append_right _ _ ω,ht,Nat.sub_self,avI hlt,List.set_cons_zero,List.take_succ_eq_append_getElem (by omega:i< (mj a b).length),awe];have:=(List.getElem?_eq_some_iff.1 hg).2;rw[this];rfl
theorem ahM{a b:List Int}(h:a.length=b.length){i:Nat}(hi:a.length<=i):H3 a b i=mj a b:=by
 unfold H3;rw[avL (by rw[xM h];omega),avH hi,avE]
theorem acE{v:Int}{p q:Rt}(vp:VT v p)(vq:VT v q){A Bt:List Rt}{nA iA nB iB:Int}{o2 o3 o4 o8 o10 o11 o2352:Ob}(c2:az [2,3,4,8,10,11,2352,2576] o2=true)(c3:az [2,3,4,8,10,11,2352,2576] o3=true)(c4:az [2,3,4,8,10,11,2352,2576] o4=true)(c8:az [2,3,4,8,10,11,2352,2576] o8=true)(c10:az [2,3,4,8,10,11,2352,2576] o10=true)(c11:az [2,3,4,8,10,11,2352,2576] o11=true)(cc:az [2,3,4,8,10,11,2352,2576] o2352=true):
  ∀ (k i:Nat),i+k=p.exps.length->∀ (s:ak) (h:ac),s 3=.ref 3 none 0 0 0->s 4=.ref 4 none 0 0 0->s 6=.ref 2352 none 0 0 0->s 8=.ref 8 none 0 0 0->s 11=.ref 11 none 0 0 0->s 13=.rsl 2576 none 1 0 p.exps.length->s 46=.sl 4 (aH A)->s 47=I nA->s 48=I iA->s 53=.sl 4 (aH Bt)->s 54=I nB->s 55=I iB->s 74=.sl 1 (aO q.exps)->s 75=I q.exps.length->s 76=I i->h 2=o2->h 3=o3->h 4=o4->h 8=o8->h 10=o10->h 11=o11->h 2352=o2352->h 2576=.ar 1 (aO (H3 p.exps q.exps i))->
  ∃hh,ah 5 [3,4,6,8,11,13,46,47,48,53,54,55] (av (ai R (ax false) jQ) [3,4,6,8,11,13,46,47,48,53,54,55,74,75,76] [2,3,4,8,10,11,2352,2576] s h)=some (.normal,⟨upd (upd (upd (upd (upd (upd (upd (upd (upd (upd (upd (upd (fun _=>.any) 55 (I iB)) 54 (I nB)) 53 (.sl 4 (aH Bt))) 48 (I iA)) 47 (I nA)) 46 (.sl 4 (aH A))) 13 (.rsl 2576 none 1 0 p.exps.length)) 11 (.ref 11 none 0 0 0)) 8 (.ref 8 none 0 0 0)) 6 (.ref 2352 none 0 0 0)) 4 (.ref 4 none 0 0 0)) 3 (.ref 3 none 0 0 0),hh⟩)/\
   hh 2=o2/\hh 3=o3/\hh 4=o4/\hh 8=o8/\hh 10=o10/\hh 11=o11/\hh 2352=o2352/\hh 2576=.ar 1 (aO (mj p.exps q.exps))/\∀a,a≠2->a≠3->a≠4->a≠8->a≠10->a≠11->a≠2352->a≠2576->hh a=.dead:=by
 have hl:=vp.l2 vq;have hs:=vp.ok.len;intro k;induction k with
 |zero=>
  intro i hi s h g3 g4 g6 g8 g11 g13 g46 g47 g48 g53 g54 g55 g74 g75 g76 k2 k3 k4 k8 k10 k11 k2352 k2576;have e1:((i:Int)< (q.exps.length:Int))=False:=ff;rw[ahM hl ω]at k2576;rw[ag];refine⟨?hh0,?_,?_,?_,?_,?_,?_,?_,?_,?_,?_⟩;rotate_left
  ·simp only[jQ,go_sem,g3,g4,g6,g8,g11,g13,g46,g47,g48,g53,g54,g55,g74,g75,g76,k2,k3,k4,k8,k10,k11,k2352,k2576,c2,c3,c4,c8,c10,c11,cc,e1];rfl
  all_goals first|rfl| (intro a a1 a2 a3 a4 a5 a6 a7 a8;simp only[cU,a1,a2,a3,a4,a5,a6,a7,a8,if_false])
 |succ k ih=>
  intro i hi s h g3 g4 g6 g8 g11 g13 g46 g47 g48 g53 g54 g55 g74 g75 g76 k2 k3 k4 k8 k10 k11 k2352 k2576;have hlt:i<p.exps.length:=ω
  have hlt2:i<q.exps.length:=ω
  have e1:((i:Int)< (q.exps.length:Int))=True:=tt;have hq:q.exps[i]?=some q.exps[i]:=List.getElem?_eq_getElem hlt2;have hp:p.exps[i]?=some p.exps[i]:=List.getElem?_eq_getElem hlt;have e2:bp (aO q.exps) (i:Int)=some (.ipt [I q.exps[i]]):=qK rfl hq;have e3:=ahK hl hp (b:=q.exps);have e3':(aO (H3 p.exps q.exps i))[i]?=some [I p.exps[i]]:=by simp[aO,e3]
  have e4:=ahL hl hp hq;have b1:=vp.b _ (avN hlt);have b2:=vq.b _ (avN hlt2);have e5:IntKind.i64.wrap ((i:Int)+1)=((i+1:Nat):Int):=wi;have e6:(0<=(i:Int)/\(i:Int)< (p.exps.length:Int))=True:=eq_true ⟨by omega,by omega⟩;have e7:IntKind.i64.wrap (p.exps[i]+q.exps[i])=p.exps[i]+q.exps[i]:=i64_in _ ⟨by omega,by omega⟩;have ih':=ih (i+1) ω;rw[←e4,←X3]at ih';generalize p.exps[i]=x at e3' e7 ih';generalize q.exps[i]=y at e2 e7 ih';rw[ag];generalize av _ _ _=L at ih'⊢;simp only[jQ,go_sem,g3,g4,g6,g8,g11,g13,g46,g47,g48,g53,g54,g55,g74,g75,g76,k2,k3,k4,k8,k10,k11,k2352,k2576,c2,c3,c4,c8,c10,c11,cc,e1,e2,e3',e5,e6,e7,avy,avs];exact ih' _ _ rfl rfl rfl rfl rfl rfl rfl rfl rfl rfl rfl rfl rfl rfl rfl rfl rfl rfl rfl rfl rfl rfl rfl
theorem akh{v:Int}{p q:Rt}(vp:VT v p)(vq:VT v q){A Bt:List Rt}{nA iA nB iB:Int}{o2 o3 o4 o8 o10 o11 o2352:Ob}(s:ak)(h:ac)(X:Option (Ex×St))(hX:ah 5 [3,4,6,8,11,13,46,47,48,53,54,55] (av (ai R (ax false) jQ) [3,4,6,8,11,13,46,47,48,53,54,55,74,75,76] [2,3,4,8,10,11,2352,2576] s h)=X)
  (g3:s 3=.ref 3 none 0 0 0) (g4:s 4=.ref 4 none 0 0 0) (g6:s 6=.ref 2352 none 0 0 0) (g8:s 8=.ref 8 none 0 0 0) (g11:s 11=.ref 11 none 0 0 0) (g13:s 13=.rsl 2576 none 1 0 p.exps.length) (g46:s 46=.sl 4 (aH A)) (g47:s 47=I nA) (g48:s 48=I iA) (g53:s 53=.sl 4 (aH Bt)) (g54:s 54=I nB) (g55:s 55=I iB) (g74:s 74=.sl 1 (aO q.exps)) (g75:s 75=I q.exps.length) (g76:s 76=I 0) (k2:h 2=o2) (k3:h 3=o3) (k4:h 4=o4) (k8:h 8=o8) (k10:h 10=o10) (k11:h 11=o11) (k2352:h 2352=o2352) (k2576:h 2576=.ar 1 (aO p.exps)) (c2:az [2,3,4,8,10,11,2352,2576] o2=true) (c3:az [2,3,4,8,10,11,2352,2576] o3=true) (c4:az [2,3,4,8,10,11,2352,2576] o4=true) (c8:az [2,3,4,8,10,11,2352,2576] o8=true) (c10:az [2,3,4,8,10,11,2352,2576] o10=true) (c11:az [2,3,4,8,10,11,2352,2576] o11=true) (c2352:az [2,3,4,8,10,11,2352,2576] o2352=true):
  ∃hh,X=some (.normal,⟨upd (upd (upd (upd (upd (upd (upd (upd (upd (upd (upd (upd (fun _=>.any) 55 (I iB)) 54 (I nB)) 53 (.sl 4 (aH Bt))) 48 (I iA)) 47 (I nA)) 46 (.sl 4 (aH A))) 13 (.rsl 2576 none 1 0 p.exps.length)) 11 (.ref 11 none 0 0 0)) 8 (.ref 8 none 0 0 0)) 6 (.ref 2352 none 0 0 0)) 4 (.ref 4 none 0 0 0)) 3 (.ref 3 none 0 0 0),hh⟩)/\hh 2=o2/\hh 3=o3/\hh 4=o4/\hh 8=o8/\hh 10=o10/\hh 11=o11/\hh 2352=o2352/\hh 2576=.ar 1 (aO (mj p.exps q.exps))/\∀a,a≠2->a≠3->a≠4->a≠8->a≠10->a≠11->a≠2352->a≠2576->hh a=.dead:=by
 subst hX;have hc:H3 p.exps q.exps 0=p.exps:=by simp[H3]
 rw[←hc]at k2576;exact acE vp vq c2 c3 c4 c8 c10 c11 c2352 p.exps.length 0 (avs _) s h g3 g4 g6 g8 g11 g13 g46 g47 g48 g53 g54 g55 g74 g75 g76 k2 k3 k4 k8 k10 k11 k2352 k2576
theorem ColE.stepN{v:Int}{l:List Rt}{t:Rt}{c:AV}(hc:lX c l){e:Int}(he:e=0\/e=9)(N:Nat)(hC:e=0->Cl v l/\l.length+N+1<=1000000)(vt:VT v t){v':Int}:
  ∃c1 l1 e1,R F.poly_collector_add [.ref 1000 none 0 0 0,.sl 1 (aO t.exps),af t.c] [t3 v' c e]=some (.tup [],[t3 v' c1 e1])/\lX c1 l1/\(e1=0\/e1=9)/\(e1=0->Cl v l1/\l1.length+N<=1000000)/\∀ts c' l' e',ColE v l1 ts e1 c' l' e'->ColE v l (t::ts) e c' l' e':=by
 obtain⟨c1,l1,e1,g1,g2,g3,g4,_⟩:=ColE.step (ts:=avr N t) hc he (by rw[awr];exact hC) vt (v':=v');rw[awr]at g4;refine⟨c1,l1,e1,g1,g2,g3,g4,fun ts c' l' e' h=>?_⟩;rcases he with rfl|rfl
 ·obtain⟨h1,h2⟩:=hC rfl;obtain⟨c2,l2,e2,k1,k2,k3⟩:=PI (v':=v') h1 vt ω hc;rw[k1]at g1;simp only[Option.some.injEq,Prod.mk.injEq,List.cons.injEq,and_true,true_and,t3,Ob.bx.injEq,AV.v.injEq,Value.int.injEq]at g1;obtain⟨rfl,rfl⟩:=g1;have hl:l2=l1:=by
   rcases k2 with rfl| ⟨rfl,rfl⟩
   ·rcases g2 with g2| ⟨g2,_⟩
    ·simp only[AV.osl.injEq,true_and]at g2;have:=congrArg (List.map tmB) g2;unfold aH at this;rw[List.map_map,List.map_map]at this;have hid:∀l:List Rt,l.map (tmB∘cx)=l:=fun l=>(avR (g:=fun c=>c) fun x _=>am0 x).trans (av5 l);rw[hid,hid]at this;exact this
    ·cases g2
   ·rcases g2 with g2| ⟨_,g2⟩
    ·cases g2
    ·exact g2.symm
  subst hl;refine⟨h.c,?_⟩;rcases k3 with⟨g,k⟩| ⟨g,k,_⟩
  ·subst g;rcases h.r with⟨q1,_,q2⟩| ⟨q1,q2⟩
   ·refine .inl ⟨q1,rfl,?_⟩;unfold qN;rw[k];exact q2
   ·refine .inr ⟨q1,fun _=>?_⟩;unfold qN;rw[k];exact q2 rfl
  ·subst g;rcases h.r with⟨_,q1,_⟩| ⟨q1,_⟩
   ·omega
   ·refine .inr ⟨q1,fun _=>?_⟩;unfold qN;rw[k];rfl
 ·refine⟨h.c,?_⟩;have:=Vf (v:=v') (x:=.sl 1 (aO t.exps)) (d:=t.c) hc (by decide:(9:Int)≠0);rw[this]at g1;simp only[Option.some.injEq,Prod.mk.injEq,List.cons.injEq,and_true,true_and,t3,Ob.bx.injEq,AV.v.injEq,Value.int.injEq]at g1;obtain⟨_,rfl⟩:=g1;rcases h.r with⟨_,q1,_⟩| ⟨q1,_⟩
  ·omega
  ·exact .inr ⟨q1,fun h=>by omega⟩
def Hs(blk:Option (Ex×St))(S:ak)(o2 o3:Ob)(v v':Int)(l:List Rt)(e:Int):Option (List Rt)->Prop
 |some r=>∃hh c' l' e',blk=some (.normal,⟨S,hh⟩)/\hh 2=o2/\hh 3=o3/\hh 4=.bx [I 0,.emp]/\hh 2352=t3 v' c' e'/\(∀a,a≠2->a≠3->a≠4->a≠8->a≠2352->hh a=.dead)/\ColE v l r e c' l' e'
 |none=>∃hh,blk=some (.ret,⟨upd (upd (fun _=>.any) 5 (I 9)) 4 (.ref 4 none 0 0 0),hh⟩)/\hh 4=.bx [I 0,.emp]
theorem acF{v v':Int}{p:Rt}(vp:VT v p){A Bt:List Rt}(hB:∀q∈Bt,VT v q/\bt p.exps+bt q.exps<=32)(hn:Bt.length<=100000){nA iA:Int}{o2:Ob}(c2:∀ids,az ids o2=true){vb:Int}:
  ∀ (k i:Nat),i+k=Bt.length->∀ (c:AV) (l:List Rt) (e:Int),lX c l->(e=0\/e=9)->(e=0->Cl v l/\l.length+k<=1000000)->∀ (s:ak) (h:ac),s 3=.ref 3 none 0 0 0->s 4=.ref 4 none 0 0 0->s 6=.ref 2352 none 0 0 0->s 8=.ref 8 none 0 0 0->s 46=.sl 4 (aH A)->s 47=I nA->s 48=I iA->s 53=.sl 4 (aH Bt)->s 54=I Bt.length->s 55=I i->h 2=o2->h 3=.bx [I vb,.sl 4 (aH Bt)]->h 4=.bx [I 0,.emp]->h 8=.bx (cx p)->h 2352=t3 v' c e->
  Hs (ah 3 [3,4,6,46,47,48] (av (ai R (ax false) jR) [3,4,6,8,46,47,48,53,54,55] [2,3,4,8,2352] s h)) (upd (upd (upd (upd (upd (upd (fun _=>.any) 48 (I iA)) 47 (I nA)) 46 (.sl 4 (aH A))) 6 (.ref 2352 none 0 0 0)) 4 (.ref 4 none 0 0 0)) 3 (.ref 3 none 0 0 0)) o2 (.bx [I vb,.sl 4 (aH Bt)]) v v' l e (pk p (Bt.drop i)):=by
 intro k;induction k with
 |zero=>
  intro i hi c l e hc he hC s h g3 g4 g6 g8 g46 g47 g48 g53 g54 g55 k2 k3 k4 k8 k2352;have e1:((i:Int)< (Bt.length:Int))=False:=ff;have ho:=(kO (v:=v') (e:=e) hc).cl [2,3,4,8,2352];have ho2:=c2 [2,3,4,8,2352];rw[avH ω,ag];simp only[cx]at k8;refine⟨?hh0,c,l,e,?_,?_,?_,?_,?_,?_,⟨hc,?_⟩⟩;rotate_left
  ·simp only[jR,go_sem,g3,g4,g6,g8,g46,g47,g48,g53,g54,g55,k2,k3,k4,k8,k2352,ho,ho2,e1];rfl
  ·rfl
  ·rfl
  ·rfl
  ·rfl
  ·intro a a1 a2 a3 a4 a5;simp only[cU,a1,a2,a3,a4,a5,if_false]
  ·rcases he with rfl|rfl
   ·exact .inl ⟨rfl,rfl,rfl⟩
   ·exact .inr ⟨rfl,fun h=>by omega⟩
 |succ k ih=>
  intro i hi c l e hc he hC s h g3 g4 g6 g8 g46 g47 g48 g53 g54 g55 k2 k3 k4 k8 k2352;have hlt:i<Bt.length:=ω
  have e1:((i:Int)< (Bt.length:Int))=True:=tt;have e2:bp (aH Bt) (i:Int)=some (.ipt (cx Bt[i])):=iX rfl (List.getElem?_eq_getElem hlt);have e5:IntKind.i64.wrap ((i:Int)+1)=((i+1:Nat):Int):=wi;have ho:=(kO (v:=v') (e:=e) hc).cl;obtain⟨vq,hd⟩:=hB _ (avN hlt);have hmul:=PC vp.c vq.c;have hdl:(Bt.drop (i+1)).length=k:=by rw[aws];omega
  rw[avI hlt];have ih':=ih (i+1) ω;have hrow:∀q ts,pk p (q::ts)=(Kg p q).bind fun x=>(pk p ts).map (x::·):=fun q ts=>rfl;rw[hrow];generalize hqq:Bt[i]=q at e2 vq hd hmul⊢;have hVT:=fun x=>Vj (x:=x) vp vq hd;rw[ag];generalize av _ _ _=L at ih'⊢;unfold Kg at hVT⊢;have ho1:=ho [2,3,4,8,2352];have ho2:=c2 [2,3,4,8,2352];have hle:=vp.l2 vq;simp only[cx]at k8 e2;generalize fV p.c q.c=m at hmul hVT⊢;obtain⟨m,em⟩:=m;simp only[rV,af,aj]at hmul;by_cases hm:em=0
  ·subst hm;simp only[if_true,avw]at hVT⊢;have vx:=hVT _ rfl;obtain⟨c1,l1,e1',s1,s2,s3,s4,s5⟩:=ColE.stepN (t:=⟨mj p.exps q.exps,m⟩) hc he k (fun h=>by have:=hC h;exact⟨this.1,by omega⟩) vx (v':=v');have ih2:=ih' c1 l1 e1' s2 s3 s4;have hcall:=fun(h:ac) (hh:h 2352=t3 v' c e) (d:Nat)=>dA (aS.1.2.1 false) rfl (pn (d:=d) hh hc s2 s1);simp only[af,aj]at hcall;have hpush:∀ (S:ak) (H:ac),Hs (ah 3 [3,4,6,46,47,48] (L S H)) (upd (upd (upd (upd (upd (upd (fun _=>.any) 48 (I iA)) 47 (I nA)) 46 (.sl 4 (aH A))) 6 (.ref 2352 none 0 0 0)) 4 (.ref 4 none 0 0 0)) 3 (.ref 3 none 0 0 0)) o2 (.bx [I vb,.sl 4 (aH Bt)]) v v' l1 e1' (pk p (Bt.drop (i+1)))->Hs (ah 3 [3,4,6,46,47,48] (L S H)) (upd (upd (upd (upd (upd (upd (fun _=>.any) 48 (I iA)) 47 (I nA)) 46 (.sl 4 (aH A))) 6 (.ref 2352 none 0 0 0)) 4 (.ref 4 none 0 0 0)) 3 (.ref 3 none 0 0 0)) o2 (.bx [I vb,.sl 4 (aH Bt)]) v v' l e ((pk p (Bt.drop (i+1))).map (⟨mj p.exps q.exps,m⟩::·)):=fun S H h=>by
    cases hr:pk p (Bt.drop (i+1))with
    |none=>rw[hr]at h;exact h
    |some r=>
     rw[hr]at h;obtain⟨hh,c',l',e',q1,q2,q3,q4,q5,q6,q7⟩:=h;exact⟨hh,c',l',e',q1,q2,q3,q4,q5,q6,s5 _ _ _ _ q7⟩
   cases hx:p.exps with
   |nil=>
    have hcl:R F.slices_Clone_int_int_ [lm []] []=some (lm [],[]):=Q4;have hq0:q.exps=[]:=List.length_eq_zero_iff.1 (by rw[←hle,hx];rfl);rw[hx]at hpush;rw[hx,hq0]at hcall;rw[hx]at k8;rw[hq0]at e2;have i0:aO []=[]:=rfl;have a0:mj [] []=[]:=rfl;have z0:((0:Int)<0)=False:=ff δ;have ho2':=c2 [2,3,4,8,10,11,2352,2576];have ho1':=ho [2,3,4,8,10,11,2352,2576];rw[i0]at k8 e2;rw[a0,i0,ajM]at hcall;simp only[jR,go_sem,g3,g4,g6,g8,g46,g47,g48,g53,g54,g55,k2,k3,k4,k8,k2352,ho1,ho2,e1,e2,hmul,hcl,awd,av7];rw[ag];simp only[jQ,go_sem,ho1',ho2',z0];rw[hcall _ rfl];simp only[go_sem,e5];refine hpush _ _ (ih2 _ _ rfl rfl rfl rfl rfl rfl rfl rfl rfl rfl rfl rfl rfl ?_ rfl);simp only[cx,hx];rfl
   |cons x xs=>
    have hcl:R F.slices_Clone_int_int_ [.sl 1 (aO p.exps)] []=some (.osl 1 (aO p.exps),[]):=by
     rw[hx];exact Q5 (by have:=vp.ok.len;rw[hx]at this;simp at this;omega)
    rw[←hx];have hX0:=akh vp vq (A:=A) (Bt:=Bt) (nA:=nA) (iA:=iA) (nB:=(Bt.length:Int)) (iB:=(i:Int)) (o2:=o2) (o3:=.bx [I vb,.sl 4 (aH Bt)]) (o4:=.bx [I 0,.emp]) (o8:=.bx [.sl 1 (aO p.exps),B p.c.neg,lm p.c.m,I p.c.e]) (o10:=.bx [.sl 1 (aO q.exps),B q.c.neg,lm q.c.m,I q.c.e]) (o11:=.bx [B m.neg,lm m.m,I m.e]) (o2352:=t3 v' c e);have k9:(aO (mj p.exps q.exps)).take p.exps.length=aO (mj p.exps q.exps):=avL (by rw[AU,xM hle];exact avt _);have k8l:(mj p.exps q.exps).length=p.exps.length:=xM hle;simp only[jR,go_sem,g3,g4,g6,g8,g46,g47,g48,g53,g54,g55,k2,k3,k4,k8,k2352,ho1,ho2,e1,e2,hmul,hcl];generalize hXX:ah 5 _ _=X;obtain⟨hh,rfl,q2,q3,q4,q8,q10,q11,qc,q25,qd⟩:=hX0 _ _ _ hXX rfl rfl rfl rfl rfl rfl rfl rfl rfl rfl rfl rfl rfl rfl rfl rfl rfl rfl rfl rfl rfl rfl rfl (c2 _) rfl rfl rfl rfl rfl (ho _);simp only[go_sem,q11,q25,k9,k8l,avs,avt];rw[hcall (upd hh 2576 (.fz 1 (aO (mj p.exps q.exps)))) (by rw[cU,if_neg δ];exact qc)];simp only[go_sem,e5];refine hpush _ _ (ih2 _ _ ?_ ?_ ?_ ?_ ?_ ?_ ?_ ?_ ?_ ?_ ?_ ?_ ?_ ?_ ?_)
    all_goals first|rfl| (simp only[cU,Nat.reduceEqDiff,↓reduceIte,q2,q3,q4,q8];done)| (simp only[cU,Nat.reduceEqDiff,↓reduceIte,q8];rfl)
  ·have f1:(em=0)=False:=ff hm;simp only[if_neg hm,Option.bind_none];refine⟨?hh1,?_,?_⟩;rotate_left
   ·simp only[jR,go_sem,g3,g4,g6,g8,g46,g47,g48,g53,g54,g55,k2,k3,k4,k8,k2352,ho1,ho2,e1,e2,hmul,f1];rfl
   ·rfl
theorem aki{v v':Int}{p:Rt}(vp:VT v p){A Bt:List Rt}(hB:∀q∈Bt,VT v q/\bt p.exps+bt q.exps<=32)(hn:Bt.length<=100000){nA iA:Int}{o2:Ob}(c2:∀ids,az ids o2=true){vb:Int}
  {c:AV} {l:List Rt} {e:Int} (hc:lX c l) (he:e=0\/e=9) (hC:e=0->Cl v l/\l.length+Bt.length<=1000000) (s:ak) (h:ac) (X:Option (Ex×St)) (hX:ah 3 [3,4,6,46,47,48] (av (ai R (ax false) jR) [3,4,6,8,46,47,48,53,54,55] [2,3,4,8,2352] s h)=X)
  (g3:s 3=.ref 3 none 0 0 0) (g4:s 4=.ref 4 none 0 0 0) (g6:s 6=.ref 2352 none 0 0 0) (g8:s 8=.ref 8 none 0 0 0) (g46:s 46=.sl 4 (aH A)) (g47:s 47=I nA) (g48:s 48=I iA) (g53:s 53=.sl 4 (aH Bt)) (g54:s 54=I Bt.length) (g55:s 55=I 0) (k2:h 2=o2) (k3:h 3=.bx [I vb,.sl 4 (aH Bt)]) (k4:h 4=.bx [I 0,.emp]) (k8:h 8=.bx [.sl 1 (aO p.exps),B p.c.neg,lm p.c.m,I p.c.e]) (k2352:h 2352=t3 v' c e):
  Hs X (upd (upd (upd (upd (upd (upd (fun _=>.any) 48 (I iA)) 47 (I nA)) 46 (.sl 4 (aH A))) 6 (.ref 2352 none 0 0 0)) 4 (.ref 4 none 0 0 0)) 3 (.ref 3 none 0 0 0)) o2 (.bx [I vb,.sl 4 (aH Bt)]) v v' l e (pk p Bt):=by
 subst hX;exact acF vp hB hn c2 Bt.length 0 (avs _) c l e hc he hC s h g3 g4 g6 g8 g46 g47 g48 g53 g54 g55 k2 k3 k4 k8 k2352
theorem ColE.app{v:Int}{l r r2:List Rt}{e:Int}{c1:AV}{l1:List Rt}{e1:Int}{c':AV}{l':List Rt}{e':Int}(h1:ColE v l r e c1 l1 e1)(h2:ColE v l1 r2 e1 c' l' e'):ColE v l (r++r2) e c' l' e':=by
 refine⟨h2.c,?_⟩;rw[Vd];rcases h1.r with⟨a1,a2,a3⟩| ⟨a1,a2⟩
 ·rw[a3];rcases h2.r with⟨b1,b2,b3⟩| ⟨b1,b2⟩
  ·exact .inl ⟨b1,a2,b3⟩
  ·exact .inr ⟨b1,fun _=>b2 a1⟩
 ·rcases h2.r with⟨b1,b2,b3⟩| ⟨b1,b2⟩
  ·omega
  ·exact .inr ⟨b1,fun h=>by rw[a2 h];rfl⟩
theorem ColE.nx{v:Int}{l r:List Rt}{e:Int}{c1:AV}{l1:List Rt}{e1:Int}(h:ColE v l r e c1 l1 e1)(hC:e=0->Cl v l)(hr:∀t∈r,VT v t):(e1=0\/e1=9)/\(e1=0->e=0/\Cl v l1/\l1.length<=l.length+r.length):=by
 rcases h.r with⟨a1,a2,a3⟩| ⟨a1,a2⟩
 ·exact⟨.inl a1,fun _=>⟨a2,Ke (hC a2) hr a3⟩⟩
 ·exact⟨.inr a1,fun h=>by omega⟩
theorem acG{v v':Int}{A Bt:List Rt}(hA:∀p∈A,VT v p)(hB:∀q∈Bt,VT v q)(hd:∀p∈A,∀q∈Bt,bt p.exps+bt q.exps<=32)(hn:Bt.length<=1000)(hm:A.length<=1000){o2:Ob}(c2:∀ids,az ids o2=true){vb:Int}:
  ∀ (k i:Nat),i+k=A.length->∀ (c:AV) (l:List Rt) (e:Int),lX c l->(e=0\/e=9)->(e=0->Cl v l/\l.length+k*Bt.length<=1000000)->∀ (s:ak) (h:ac),s 3=.ref 3 none 0 0 0->s 4=.ref 4 none 0 0 0->s 6=.ref 2352 none 0 0 0->s 46=.sl 4 (aH A)->s 47=I A.length->s 48=I i->h 2=o2->h 3=.bx [I vb,.sl 4 (aH Bt)]->h 4=.bx [I 0,.emp]->h 2352=t3 v' c e->
  Hs (ah 1 [4,6] (av (ai R (ax false) sC) [3,4,6,46,47,48] [2,3,4,2352] s h)) (upd (upd (fun _=>.any) 6 (.ref 2352 none 0 0 0)) 4 (.ref 4 none 0 0 0)) o2 (.bx [I vb,.sl 4 (aH Bt)]) v v' l e (nu (A.drop i) Bt):=by
 intro k;induction k with
 |zero=>
  intro i hi c l e hc he hC s h g3 g4 g6 g46 g47 g48 k2 k3 k4 k2352;have e1:((i:Int)< (A.length:Int))=False:=ff;have ho:=(kO (v:=v') (e:=e) hc).cl [2,3,4,2352];have ho2:=c2 [2,3,4,2352];rw[avH ω,ag];refine⟨?hh0,c,l,e,?_,?_,?_,?_,?_,?_,⟨hc,?_⟩⟩;rotate_left
  ·simp only[sC,go_sem,g3,g4,g6,g46,g47,g48,k2,k3,k4,k2352,ho,ho2,e1];rfl
  ·rfl
  ·rfl
  ·rfl
  ·rfl
  ·intro a a1 a2 a3 a4 a5;simp only[cU,a1,a2,a3,a5,if_false]
  ·rcases he with rfl|rfl
   ·exact .inl ⟨rfl,rfl,rfl⟩
   ·exact .inr ⟨rfl,fun h=>by omega⟩
 |succ k ih=>
  intro i hi c l e hc he hC s h g3 g4 g6 g46 g47 g48 k2 k3 k4 k2352;have hlt:i<A.length:=ω
  have e1:((i:Int)< (A.length:Int))=True:=tt;have e2:bp (aH A) (i:Int)=some (.ipt (cx A[i])):=iX rfl (List.getElem?_eq_getElem hlt);have e5:IntKind.i64.wrap ((i:Int)+1)=((i+1:Nat):Int):=wi;have ho:=(kO (v:=v') (e:=e) hc).cl;have vp:=hA _ (avN hlt);have hdp:=hd _ (avN hlt);rw[avI hlt];have ih':=ih (i+1) ω;have hall:∀q ts,nu (q::ts) Bt=(pk q Bt).bind fun r=>(nu ts Bt).map (r++·):=fun q ts=>rfl;rw[hall];generalize A[i]=p at e2 vp hdp⊢;have hl1:=aki vp (A:=A) (Bt:=Bt) (nA:=(A.length:Int)) (iA:=(i:Int)) (fun q hq=>⟨hB q hq,hdp q hq⟩) ω c2 (vb:=vb) (v':=v') hc he (fun h=>by have:=hC h;rw[Nat.succ_mul]at this;exact⟨this.1,by omega⟩);have hRV:=fun r=>Jo (r:=r) vp (fun q hq=>⟨hB q hq,hdp q hq⟩);rw[ag];generalize av _ _ _=L at ih'⊢;have ho1:=ho [2,3,4,2352];have ho2:=c2 [2,3,4,2352];simp only[cx]at e2;simp only[sC,go_sem,g3,g4,g6,g46,g47,g48,k2,k3,k4,k2352,ho1,ho2,e1,e2];generalize hXX:ah 3 _ _=X;have hM:=hl1 _ _ _ hXX rfl rfl rfl rfl rfl rfl rfl rfl rfl rfl rfl rfl rfl rfl rfl;cases hr:pk p Bt with
  |none=>
   rw[hr]at hM;obtain⟨hh,rfl,q4⟩:=hM;refine⟨hh,?_,q4⟩;simp only[go_sem]
  |some r=>
   rw[hr]at hM;obtain⟨hh,c1,l1,e1',rfl,q2,q3,q4,qc,qd,qe⟩:=hM;obtain⟨w1,w2⟩:=hRV r hr;obtain⟨n1,n2⟩:=qe.nx (fun h=>(hC h).1) w1;have ih2:=ih' c1 l1 e1' qe.c n1 (fun h=>by
    obtain⟨m1,m2,m3⟩:=n2 h;have:=(hC m1).2;rw[Nat.succ_mul]at this;exact⟨m2,by omega⟩)
   simp only[avw];have hpush:∀ (S:ak) (H:ac),Hs (ah 1 [4,6] (L S H)) (upd (upd (fun _=>.any) 6 (.ref 2352 none 0 0 0)) 4 (.ref 4 none 0 0 0)) o2 (.bx [I vb,.sl 4 (aH Bt)]) v v' l1 e1' (nu (A.drop (i+1)) Bt)->Hs (ah 1 [4,6] (L S H)) (upd (upd (fun _=>.any) 6 (.ref 2352 none 0 0 0)) 4 (.ref 4 none 0 0 0)) o2 (.bx [I vb,.sl 4 (aH Bt)]) v v' l e ((nu (A.drop (i+1)) Bt).map (r++·)):=fun S H h=>by
    cases hr2:nu (A.drop (i+1)) Bt with
    |none=>rw[hr2]at h;exact h
    |some r2=>
     rw[hr2]at h;obtain⟨hh,c',l',e',q1,q2,q3,q4,q5,q6,q7⟩:=h;exact⟨hh,c',l',e',q1,q2,q3,q4,q5,q6,qe.app q7⟩
   simp only[go_sem,e5];refine hpush _ _ (ih2 _ _ ?_ ?_ ?_ ?_ ?_ ?_ ?_ ?_ ?_ ?_)
   all_goals first|rfl|assumption
theorem akj{v v':Int}{A Bt:List Rt}(hA:∀p∈A,VT v p)(hB:∀q∈Bt,VT v q)(hd:∀p∈A,∀q∈Bt,bt p.exps+bt q.exps<=32)(hn:Bt.length<=500)(hm:A.length<=500){o2:Ob}(c2:∀ids,az ids o2=true){vb:Int}
  (s:ak) (h:ac) (X:Option (Ex×St)) (hX:ah 1 [4,6] (av (ai R (ax false) sC) [3,4,6,46,47,48] [2,3,4,2352] s h)=X) (g3:s 3=.ref 3 none 0 0 0) (g4:s 4=.ref 4 none 0 0 0) (g6:s 6=.ref 2352 none 0 0 0) (g46:s 46=.sl 4 (aH A)) (g47:s 47=I A.length) (g48:s 48=I 0) (k2:h 2=o2) (k3:h 3=.bx [I vb,.sl 4 (aH Bt)]) (k4:h 4=.bx [I 0,.emp]) (k2352:h 2352=.bx [I v',.emp,I 0]):
  Hs X (upd (upd (fun _=>.any) 6 (.ref 2352 none 0 0 0)) 4 (.ref 4 none 0 0 0)) o2 (.bx [I vb,.sl 4 (aH Bt)]) v v' [] 0 (nu A Bt):=by
 subst hX;exact acG hA hB hd ω ω c2 A.length 0 (avs _) .emp [] 0 (.inr ⟨rfl,rfl⟩) (.inl rfl) (fun _=>⟨Cl.nil _,by
  have:A.length*Bt.length<=500*500:=Nat.mul_le_mul hm hn;show 0+_<=_;omega⟩) s h g3 g4 g6 g46 g47 g48 k2 k3 k4 k2352
theorem akk{v:Int}{t:Rt}(h:VT v t):0<=bt t.exps:=(Kh fun x hx=>(h.b x hx).1).1
theorem X4{a:Rp}(oa:OkP a):-1<=iI a/\iI a<=32:=by
 unfold iI;split
 ·rename_i h;cases hg:a.terms.getLast? with
  |none=>simp
  |some t=>
   have vt:=(lv oa h).1.t t (List.mem_of_getLast? hg);have:=akk vt;have:=vt.d;simp only[];omega
 ·omega
theorem ahN{a b:Rp}(oa:OkP a)(ob:OkP b):R F.poly_Mul [aZ a,aZ b] []=some (pV (FE a b),[]):=by
 refine aB ZX rfl ?_;have hp:=PJ oa ob;have hda:=EZ oa;have hdb:=EZ ob;have bda:=X4 oa;have bdb:=X4 ob;simp only[aZ]at hp hda hdb;unfold FE;cases hb:xg a b with
 |false=>
  rw[hb]at hp;rw[if_neg avD];simp only[px,vo,aZ,go_sem,hp];rfl
 |true=>
  rw[hb]at hp;rw[if_pos rfl];obtain⟨va,vb,hv⟩:=uT.1 hb;obtain⟨ka,a0,a8,al⟩:=lv oa va;obtain⟨kb,b0,b8,bl⟩:=lv ob vb;rw[←hv]at kb;have w1:IntKind.i64.wrap (iI a+iI b)=iI a+iI b:=i64_in _ ⟨by omega,by omega⟩;by_cases hd:a.terms.length≠0/\b.terms.length≠0/\32<iI a+iI b
  ·rw[if_pos hd];have e1:(0< (a.terms.length:Int))=True:=tt;have e2:(0< (b.terms.length:Int))=True:=tt;have e3:(32<iI a+iI b)=True:=eq_true hd.2.2;simp only[px,vo,aZ,go_sem,hp,hda,hdb,w1,e1,e2,e3];rfl
  ·rw[if_neg hd];have hf:=Vk oa ob va vb hd;have hemp:=A9 (v:=a.vars);have hl:=akj (v':=a.vars) (A:=a.terms) (Bt:=b.terms) ka.t kb.t hf ω ω (o2:=.bx [I a.vars,.sl 4 (aH a.terms)]) (fun _=>rfl) (vb:=b.vars);have fin:∀X:Option (Ex×St),Hs X (upd (upd (fun _=>.any) 6 (.ref 2352 none 0 0 0)) 4 (.ref 4 none 0 0 0)) (.bx [I a.vars,.sl 4 (aH a.terms)]) (.bx [I b.vars,.sl 4 (aH b.terms)]) a.vars a.vars [] 0 (nu a.terms b.terms)->
     jV false [[.o 0 [],.o 5 [.o 2 [],.o 0 [],.o 2 [],.o 0 []]],[]] [.cell 4 2 true,.t 5] 0 (cS X (ai R (ax false) (.seq (.ops [4,5] [cm 95 6,ca 96 F.poly_collector_done [.t 95],co 97 (.ext 0 (.t 96)),co 98 (.ext 1 (.t 96)),sr 2 (.t 4) (.t 97),cm 5 98]) .ret)))=some (pV (tu a.vars ((nu a.terms b.terms).bind (qN []))),[]):=by
    intro X hM;cases hr:nu a.terms b.terms with
    |none=>
     rw[hr]at hM;obtain⟨hh,rfl,q4⟩:=hM;simp only[Option.bind_none,tu,pV,p0,aZ,go_sem,q4];rfl
    |some r=>
     rw[hr]at hM;obtain⟨hh,c',l',e',rfl,q2,q3,q4,qc,qd,qe⟩:=hM;obtain⟨o,hdn⟩:=BZ (d:=96) qc qe.c (by simp[bY,qd,bL]);have hd':=dA (bA.1.2.1 false) rfl hdn;rw[qe.fin]at hd';rw[avw];generalize tu a.vars (qN [] r)=z at hd'⊢;obtain⟨z1,z2⟩:=z;simp only[pV,aZ]at hd';simp only[pV,aZ,go_sem,q4,hd']
   by_cases h1:a.terms.length=0
   ·have e1:(0< (a.terms.length:Int))=False:=ff;simp only[px,vo,aZ,go_sem,hp,e1,hemp,po];generalize hX:ah 1 _ _=X;exact fin X (hl _ _ _ hX rfl rfl rfl rfl rfl rfl rfl rfl rfl rfl)
   ·have e1:(0< (a.terms.length:Int))=True:=tt;by_cases h2:b.terms.length=0
    ·have e2:(0< (b.terms.length:Int))=False:=ff;simp only[px,vo,aZ,go_sem,hp,e1,e2,hemp,po];generalize hX:ah 1 _ _=X;exact fin X (hl _ _ _ hX rfl rfl rfl rfl rfl rfl rfl rfl rfl rfl)
    ·have e2:(0< (b.terms.length:Int))=True:=tt;have e3:(32<iI a+iI b)=False:=eq_false fun h=>hd ⟨h1,h2,h⟩;simp only[px,vo,aZ,go_sem,hp,hda,hdb,w1,e1,e2,e3,hemp,po];generalize hX:ah 1 _ _=X;exact fin X (hl _ _ _ hX rfl rfl rfl rfl rfl rfl rfl rfl rfl rfl)
def IsL(x:AV)(l:List Rt):Prop:=x=.sl 4 (aH l)\/(x=.emp/\l=[])
theorem IsL.keep{x:AV}{l:List Rt}(h:IsL x l)(hs:List Nat):gE hs x=x:=by
 rcases h with rfl| ⟨rfl,_⟩<;>rfl
def IsD(c:List AV)(q:Rd):Prop:=c=[B q.neg,lm q.m,I q.e]\/(c=zb/\q=aI)
theorem IsD.cl{c:List AV}{q:Rd}(h:IsD c q)(l:List Nat):c.all (jI l)=true:=by
 rcases h with rfl| ⟨rfl,_⟩<;>rfl
theorem afb{a b:List Nat}(hl:a.length=b.length)(h2:a.length<4611686018427387904):∀ (k i:Nat),i+k=a.length->∀ (s:ak) (h:ac),s 0=.sl 1 (aG a)->s 1=.sl 1 (aG b)->s 12=I a.length->s 13=I i->
  ∃hh,ah 0 [] (av (ai R (ax false) cW) [0,1,12,13] [] s h)=if qQ (a.drop i) (b.drop i)=true then some (.normal,⟨fun _=>.any,hh⟩)else some (.ret,⟨upd (fun _=>.any) 4 (B false),hh⟩):=by
 intro k;induction k with
 |zero=>
  intro i hi s h g0 g1 g12 g13;have e1:((i:Int)<a.length)=False:=ff;rw[avH ω,avH ω,ag];refine⟨?hh0,?_⟩;rotate_left
  ·simp only[cW,qQ,go_sem,g0,g1,g12,g13,e1];rfl
 |succ k ih=>
  intro i hi s h g0 g1 g12 g13;have hlt:i<a.length:=ω
  have hlt2:i<b.length:=ω
  have e1:((i:Int)<a.length)=True:=tt;have e2:bp (aG a) (i:Int)=some (.ipt [U (a.getD i 0:Nat)]):=cQ rfl hlt;have e3:bp (aG b) (i:Int)=some (.ipt [U (b.getD i 0:Nat)]):=cQ rfl hlt2;have v1:a.getD i 0=a[i]:=by simp[List.getD,hlt]
  have v2:b.getD i 0=b[i]:=by simp[List.getD,hlt2]
  rw[v1]at e2;rw[v2]at e3;have e5:IntKind.i64.wrap ((i:Int)+1)=((i+1:Nat):Int):=wi;have ih':=ih (i+1) ω;rw[avI hlt,avI hlt2,ag];generalize a[i]=p at e2⊢;generalize b[i]=q at e3⊢;generalize av _ _ _=L at ih'⊢;unfold qQ;by_cases hpq:p=q
  ·have e4:((p:Int)=(q:Int))=True:=tt;rw[decide_eq_true hpq,avz];simp only[cW,go_sem,g0,g1,g12,g13,e1,e2,e3,e4,e5];exact ih' _ _ rfl rfl rfl rfl
  ·have e4:((p:Int)=(q:Int))=False:=ff;rw[decide_eq_false hpq,avC];simp only[if_neg avD];refine⟨?hh1,?_⟩;rotate_left
   ·simp only[cW,go_sem,g0,g1,g12,g13,e1,e2,e3,e4];rfl
theorem am1{a b:List Nat}(hl:a.length=b.length)(h2:a.length<4611686018427387904)(s:ak)(h:ac)(X:Option (Ex×St))(hX:ah 0 [] (av (ai R (ax false) cW) [0,1,12,13] [] s h)=X)(g0:s 0=.sl 1 (aG a))(g1:s 1=.sl 1 (aG b))(g12:s 12=I a.length)(g13:s 13=I 0):
  ∃hh,X=if qQ a b=true then some (.normal,⟨fun _=>.any,hh⟩)else some (.ret,⟨upd (fun _=>.any) 4 (B false),hh⟩):=by
 subst hX;exact afb hl h2 a.length 0 (avs _) s h g0 g1 g12 g13
theorem akl{a b:List Nat}(h2:a.length<4611686018427387904):R F.slices_Equal_uint32_uint32_ [lm a,lm b] []=some (B (qQ a b),[]):=by
 refine aB zT rfl ?_;by_cases h3:a.length=b.length
 ·have e3:((a.length:Int)=(b.length:Int))=True:=tt;have hl:=am1 (a:=a) (b:=b) h3 h2;simp only[fM,jW,go_sem,e3];generalize hX:ah 0 [] _=X;obtain⟨hh,rfl⟩:=hl _ _ _ hX rfl rfl rfl rfl;cases qQ a b with
  |true=>simp only[go_sem]
  |false=>simp only[go_sem]
 ·have e3:((a.length:Int)=(b.length:Int))=False:=ff;rw[Mm h3];simp only[fM,jW,go_sem,e3]
theorem B0{f:FuncId}{fd:FD}{args:List AV}{o:Ob}{r:AV×List Ob}(hE:cG.E f=none)(hC:cG.C f=some fd)(hk:cG.md.keep f=true)(h1:args.length=fd.np)
  (hz:jV true fd.rs fd.res 1 (ai R (ax true) fd.body (te args) (upd (fun _=>.dead) 1000 o))=some r):R f args [o]=some r:=by
 refine IZ true hE hC hk h1 σ ?_;rw[Ve];exact hz
theorem Jq{f:FuncId}{h:ac}{d id:Nat}{zas as':List AV}{o o':Ob}{res:AV}(hm:(ax false).m f=[])(hk:(ax false).keep f=true)(hn:bm ((ax false).sh f) (zas++[.ref id none 0 0 0])=as'++[.ref id none 0 0 0])(hd:zas.all dat=true)(hd':as'.all dat=true)
  (hh:h id=o) (ho:OC o) (ho':OC o') (hb:bf o=true->bf o'=true) (hR:R f (as'++[.ref 1000 none 0 0 0]) [o]=some (res,[o'])) (hr:RT res) (h8:cu res<=8) (hfr:bY h (2000+8*d) (cu res)=true):
  bv R (ax false) h d zas (.fn f [] [.ref id none 0 0 0])=some (res,upd h id o',[]):=by
 have hin:∀l:List AV,l.all dat=true->bO h [] (l++[.ref id none 0 0 0])=some (l++[.ref id none 0 0 0],h,[]):=by
  intro l;induction l with
  |nil=>intro _;rfl
  |cons x l ih=>
   intro h2;simp only[avQ,avv]at h2;simp only[avS,bO,List.headD_nil,Jp h2.1,avw,List.tail_nil,ih h2.2,avE]
 have h1:=hin zas hd;have hp:bu [] ((zas++[AV.ref id none 0 0 0]).flatMap bZ)=[id]:=by
  rw[List.flatMap_append,xN fun x hx=>Dc (List.all_eq_true.1 hd x hx)];rfl
 have hre:bX h 40 [id] 0=[id]:=by
  simp[bX,hh,ho.ids,bu]
 have h3:aW [id] id=1000:=by simp[aW]
 have hall:(as'++[AV.ref id none 0 0 0]).all (aX [id])=true:=by
  rw[List.all_append,avv];exact⟨List.all_eq_true.2 fun x hx=>Gi (List.all_eq_true.1 hd' x hx) _,by simp[aX,bo]⟩
 have hmap:(as'++[AV.ref id none 0 0 0]).map (dB (aW [id]))=as'++[.ref 1000 none 0 0 0]:=by
  rw[List.map_append,(avR (g:=fun c=>c) fun x hx=>Dd (List.all_eq_true.1 hd' x hx) _).trans (av5 as')];simp[dB,jk,h3]
 have hob:([id].map fun a=>dG (aW [id]) (h a))=[o]:=by simp[hh,ho.ren]
 have hids:([id].all fun a=>az [id] (h a)&&!bL (h a))=true:=by simp[hh,ho.cl,ho.nd]
 unfold bv;rw[if_neg (by simp[jn,hm])];simp only[dH,hm,avB,h1,avw,hp,hre,hn];unfold jd;rw[hall,hids,hmap,hob,hR,awa,if_pos rfl,avw,hk,hm,qO];unfold dX;have hbf:cO h [] [id] [o']=true:=by
  have:=ho'.nd;cases h5:bf o with
  |false=>simp[cO,hh,h5,this]
  |true=>simp[cO,hh,h5,hb h5,this]
 have hend:kG h [id] [] (res,[o'])=true:=by
  simp[kG,yw,hr.ok,ho'.cl]
 rw[if_pos ⟨rfl,by simp,h8,hfr,hbf,hend⟩];simp[dS,fG,hr.mat,hr.ren,ho'.ren]
theorem Bb{f g:FuncId}{h:ac}{d id:Nat}{zas as':List AV}{o o':Ob}{res:AV}(hm:(ax false).m f=[])(hk:(ax false).keep f=false)(hn:bm ((ax false).sh f) (zas++[.fn g [] [.ref id none 0 0 0]])=as'++[.fn g [] [.ref id none 0 0 0]])(hd:zas.all dat=true)(hd':as'.all dat=true)
  (hh:h id=o) (ho:OC o) (ho':OC o') (hb:bf o=true->bf o'=true) (hR:R f (as'++[.fn g [] [.ref 1000 none 0 0 0]]) [o]=some (res,[o'])) (hr:RT res) (h8:cu res<=8) (hfr:bY h (2000+8*d) (cu res)=true):
  bv R (ax false) h d (zas++[.fn g [] [.ref id none 0 0 0]]) (.fn f [] [])=some (res,upd h id o',[(id,true)]):=by
 have hin:∀l:List AV,l.all dat=true->bO h [] (l++[.fn g [] [.ref id none 0 0 0]])=some (l++[.fn g [] [.ref id none 0 0 0]],h,[]):=by
  intro l;induction l with
  |nil=>intro _;rfl
  |cons x l ih=>
   intro h2;simp only[avQ,avv]at h2;simp only[avS,bO,List.headD_nil,Jp h2.1,avw,List.tail_nil,ih h2.2,avE]
 have h1:=hin zas hd;have hp:bu [] ((zas++[AV.fn g [] [.ref id none 0 0 0]]).flatMap bZ)=[id]:=by
  rw[List.flatMap_append,xN fun x hx=>Dc (List.all_eq_true.1 hd x hx)];rfl
 have hre:bX h 40 [id] 0=[id]:=by
  simp[bX,hh,ho.ids,bu]
 have h3:aW [id] id=1000:=by simp[aW]
 have hall:(as'++[AV.fn g [] [.ref id none 0 0 0]]).all (aX [id])=true:=by
  rw[List.all_append,avv];exact⟨List.all_eq_true.2 fun x hx=>Gi (List.all_eq_true.1 hd' x hx) _,by simp[aX,bo]⟩
 have hmap:(as'++[AV.fn g [] [.ref id none 0 0 0]]).map (dB (aW [id]))=as'++[.fn g [] [.ref 1000 none 0 0 0]]:=by
  rw[List.map_append,(avR (g:=fun c=>c) fun x hx=>Dd (List.all_eq_true.1 hd' x hx) _).trans (av5 as')];simp[dB,jk,h3]
 have hob:([id].map fun a=>dG (aW [id]) (h a))=[o]:=by simp[hh,ho.ren]
 have hids:([id].all fun a=>az [id] (h a)&&!bL (h a))=true:=by simp[hh,ho.cl,ho.nd]
 unfold bv;rw[if_neg (by simp[jn,hm])];simp only[dH,hm,avB,avE,h1,avw,hp,hre,hn];unfold jd;rw[hall,hids,hmap,hob,hR,awa,if_pos rfl,avw,hk,hm,qO];unfold dX;have hbf:cO h [] [id] [o']=true:=by
  have:=ho'.nd;cases h5:bf o with
  |false=>simp[cO,hh,h5,this]
  |true=>simp[cO,hh,h5,hb h5,this]
 have hend:kG h [id] [] (res,[o'])=true:=by
  simp[kG,yw,hr.ok,ho'.cl]
 rw[if_pos ⟨rfl,by simp,h8,hfr,hbf,hend⟩];simp[dS,fG,hr.mat,hr.ren,ho'.ren]
theorem afc(x:Ri):OC (.bx (aq x)):=⟨fun _=>rfl,rfl,fun _=>rfl,rfl⟩
section
variable {α:Type} {Frow:α→List AV} {l:List α} {q:α→Bool}
def akm(f:FuncId)(o:Ob)(k:Nat)(g:Bool)(Frow:α->List AV)(l:List α)(q:α->Bool):Prop:=
 ∀x∈l,∃a a',kF k g (Frow x) 0=some a/\dat a=true/\dat a'=true/\bm ((ax false).sh f) [a,.ref 1000 none 0 0 0]=[a',.ref 1000 none 0 0 0]/\R f [a',.ref 1000 none 0 0 0] [o]=some (B (q x),[o])
def akn(f:FuncId)(k:Nat)(g:Bool)(Frow:α->List AV)(l:List α)(q:α->Bool):Prop:=
 ∀x∈l,∃a,kF k g (Frow x) 0=some a/\dat a=true/\R f (bm ((ax false).sh f) [a]) []=some (B (q x),[])
theorem Q9{k:Nat}{g:Bool}{f:FuncId}{o:Ob}{cap:List AV}(hc:cap=[]/\o=.dead/\(ax false).m f=[]/\akn f k g Frow l q\/cap=[.ref 1000 none 0 0 0]/\OC o/\(ax false).m f=[]/\(ax false).keep f=true/\akm f o k g Frow l q)(hl:l.length<4611686018427387904):∀ (rest:List α) (n:Nat),l.drop n=rest->n<=l.length->
  ∀ (s:ak) (h:ac),s 0=.sl k (l.map Frow)->s 1=.fn f [] cap->s 7=I l.length->s 8=I n->h 1000=o->
   ∃hh,cS (ah 0 [] (av (ai R (ax false) (n8 k g)) [0,1,7,8] [1000] s h)) (ai R (ax false) lu)=some (.ret,⟨upd (fun _=>.any) 4 (I (wA q rest n)),hh⟩)/\hh 1000=o:=by
 have hcl:∀ids,az ids o=true:=by
  rcases hc with⟨_,rfl,_⟩| ⟨_,h,_⟩
  ·exact fun _=>rfl
  ·exact h.cl
 have hcap:cap=[]\/cap=[.ref 1000 none 0 0 0]:=hc.imp (·.1) (·.1);intro rest;induction rest with
 |nil=>
  intro n hd hn s h h0 h1 h7 h8 h9;have e:n=l.length:=by
   have:=congrArg List.length hd;grind
  subst e;rw[ag];refine⟨?hh0,?_,?_⟩;rotate_left
  ·rcases hcap with rfl|rfl<;> (simp only[n8,lu,go_sem,h0,h1,h7,h8,h9,hcl,awf,wA];try rfl)
  ·rfl
 |cons x rest ih=>
  intro n hd hn s h h0 h1 h7 h8 h9;have hlt:n<l.length:=by
   grind
  have hr:l[n]?=some x:=by
   have:=congrArg (·[0]?) hd;grind
  have ih':=ih (n+1) (by rw[←List.drop_drop,hd];rfl) hlt;have e1:((n:Int)< (l.length:Int))=True:=tt;have e2:bp (l.map Frow) (n:Int)=some (.ipt (Frow x)):=by simp[bp,hr]
  have e3:IntKind.i64.wrap ((n:Int)+1)=((n+1:Nat):Int):=by grind[i64_in]
  rw[ag];generalize av _ _ _=L at ih'⊢;simp only[wA];rcases hc with⟨rfl,rfl,hm,hf⟩| ⟨rfl,ho,hm,hk,hf⟩
  ·obtain⟨a,ha,hda,hc⟩:=hf x (List.mem_of_getElem? hr);simp only[n8,go_sem,h0,h1,h7,h8,h9,e1,e2,ha,xY _ hm,hda,hc];cases hp:q x with
   |true=>exact⟨_,by simp only[lu,go_sem];rfl,rfl⟩
   |false=>
    simp only[go_sem,e3,avD];exact ih' _ _ rfl rfl rfl rfl rfl
  ·obtain⟨a,a',ha,hda,hda',hn2,hc⟩:=hf x (List.mem_of_getElem? hr);have hcc:=fun(h:ac) (d:Nat) (hh:h 1000=o) (hf:h (2000+8*d)=.dead)=>Jq (f:=f) (h:=h) (d:=d) (id:=1000) (zas:=[a]) (as':=[a']) hm hk (by simpa using hn2) (by simp[hda]) (by simp[hda']) hh ho ho (fun h=>h) hc (aaq _) (avW rfl) (by simp[bY,cu,hf,bL]);simp only[n8,go_sem,h0,h1,h7,h8,h9,hcl,e1,e2,ha];rw[hcc _ _ rfl rfl];cases hp:q x with
   |true=>
    simp only[lu,go_sem];exact⟨_,rfl,rfl⟩
   |false=>
    simp only[go_sem,e3,avD];exact ih' _ _ rfl rfl rfl rfl rfl
noncomputable abbrev ako (k:Nat) (g:Bool):FD:=⟨2,[[]],[.t 4],.seq (.ops [0,1] [co 4 (.mv (.c (.v (.int .i64 0))))]) (.seq (.seq (.ops [0,1,7,8] [cm 6 0,co 7 (.len false (.t 6)),co 8 (.mv (.c (.v (.int .i64 0))))]) (.block 0 [] (.loop [0,1,7,8] [1000] (n8 k g)))) lu)⟩
variable {ci fi:FuncId} {fd fc:FD} {k:Nat} {g:Bool} {cs:List Sh}
structure Src (ci fi:FuncId) (k:Nat) (g:Bool) (cs:List Sh):Prop where
 iE:cG.E fi=none
 iC:cG.C fi=some (ako k g)
 ik:cG.md.keep fi=false
 im:(ax false).m fi=[]
 ik':(ax false).keep fi=false
 ish:(ax false).sh fi=[[.o (k+1) cs],[]]
 cE:cG.E ci=none
 cC:cG.C ci=some (I5 fi)
 ck:cG.md.keep ci=false
theorem PM(S:Src ci fi k g cs){f:FuncId}{o:Ob}(ho:OC o)(hm:(ax false).m f=[])(hk:(ax false).keep f=true)(hl:l.length<4611686018427387904)(hr:(l.map Frow).map (dU cs)=l.map Frow)(hf:akm f o k g Frow l q):
  R ci [.sl k (l.map Frow),.fn f [] [.ref 1000 none 0 0 0]] [o]=some (B (l.any q),[o]):=by
 have h:R fi [.sl k (l.map Frow),.fn f [] [.ref 1000 none 0 0 0]] [o]=some (I (wA q l 0),[o]):=by
  refine rR S.iE S.iC S.ik rfl ?_;have hL:=Q9 (Frow:=Frow) (q:=q) (k:=k) (g:=g) (Or.inr ⟨rfl,ho,hm,hk,hf⟩) hl l 0 rfl (av6 _);simp only[go_sem,ZJ];have hL2:∀ (S:ak) (H:ac) (X:Option (Ex×St)),cS (ah 0 [] (av (ai R (ax false) (n8 k g)) [0,1,7,8] [1000] S H)) (ai R (ax false) lu)=X->S 0=.sl k (l.map Frow)->S 1=.fn f [] [.ref 1000 none 0 0 0]->S 7=I l.length->S 8=I (0:Nat)->H 1000=o->
    ∃hh,X=some (.ret,⟨upd (fun _=>.any) 4 (I (wA q l 0)),hh⟩)/\hh 1000=o:=fun S H X hX a b c d e=>by
   rw[←hX];exact hL S H a b c d e
  generalize hX:cS (ah 0 [] (av _ _ [1000] _ _)) (ai R (ax false) lu)=X;obtain⟨hh,e,e9⟩:=hL2 _ _ _ hX rfl rfl (by simp only[go_sem,awk]) rfl rfl;rw[e];simp only[go_sem];exact nJ rfl e9 (ho.cl _) rfl rfl
 refine rR S.cE S.cC S.ck rfl ?_;have ha:=G9 q l 0;have hc:=fun(h':ac) (d:Nat) (hh:h' 1000=o) (hf:h' (2000+8*d)=.dead)=>Bb (f:=fi) (g:=f) (h:=h') (d:=d) (id:=1000) (zas:=[.sl k (l.map Frow)]) (as':=[.sl k (l.map Frow)]) S.im S.ik'
  (by rw[S.ish];simp only[go_sem,hr,avS,avB]) rfl rfl hh ho ho (fun h=>h) h (akb _) (avW rfl) (by simp[bY,cu,hf,bL])
 simp only[avS,avB]at hc;simp only[I5,go_sem];rw[hc _ _ rfl rfl];simp only[go_sem,ha];exact nJ rfl rfl (ho.cl _) rfl rfl
theorem PN(S:Src ci fi k g cs){f:FuncId}(hm:(ax false).m f=[])(hl:l.length<4611686018427387904)(hr:(l.map Frow).map (dU cs)=l.map Frow)(hf:akn f k g Frow l q):
  R ci [.sl k (l.map Frow),.fn f [] []] []=some (B (l.any q),[]):=by
 have h:R fi [.sl k (l.map Frow),.fn f [] []] []=some (I (wA q l 0),[]):=by
  refine Pj S.iE S.iC S.ik rfl ?_;have hL:=Q9 (Frow:=Frow) (q:=q) (k:=k) (g:=g) (Or.inl ⟨rfl,rfl,hm,hf⟩) hl l 0 rfl (av6 _);simp only[go_sem,ZJ];have hL2:∀ (S:ak) (H:ac) (X:Option (Ex×St)),cS (ah 0 [] (av (ai R (ax false) (n8 k g)) [0,1,7,8] [1000] S H)) (ai R (ax false) lu)=X->S 0=.sl k (l.map Frow)->S 1=.fn f [] []->S 7=I l.length->S 8=I (0:Nat)->H 1000=.dead->
    ∃hh,X=some (.ret,⟨upd (fun _=>.any) 4 (I (wA q l 0)),hh⟩)/\hh 1000=.dead:=fun S H X hX a b c d e=>by
   rw[←hX];exact hL S H a b c d e
  generalize hX:cS (ah 0 [] (av _ _ [1000] _ _)) (ai R (ax false) lu)=X;obtain⟨hh,e,e9⟩:=hL2 _ _ _ hX rfl rfl (by simp only[go_sem,awk]) rfl rfl;rw[e];simp only[go_sem]
 have ha:=G9 q l 0;refine Pj S.cE S.cC S.ck rfl ?_;simp only[I5,go_sem,S.im,xY _ S.im,S.ish,hr,h,ha]
end
theorem Jr{q:Nat}{u:Int}(hu:-16384<=u)(h:(cX (bF false q u)).2=0):zI (cX (bF false q u)).1=((q*2^ (u+16384).toNat:Nat):Int):=by
 have e1:bF false q u=eK ((q*2^ (u+16384).toNat:Nat):Int) (-16384- (0:Nat)):=by
  unfold eK;rw[decide_eq_false ω,Int.natAbs_natCast,kK];grind
 rw[e1]at h⊢;have:=Kd (j:=0) h;omega
theorem PO{q:Nat}{n:Nat}(h:n<ae q):2^n<=q:=by
 refine Nat.le_of_not_lt fun h1=>?_;have:=bV.2 h1;omega
theorem Ht{M:Nat}{p f:Int}{s t:Nat}{more w:Bool}(h0:M≠0)(hp:8<=p/\p<=512)(hf:f+16384=(s:Int)-t)(hm:more=true->p< (ae M:Nat))(h:(cR M f more p w).2=0):
  ∃n:Nat,zI (cR M f more p w).1=(n:Int)/\(w=true->(M+more.toNat)*2^s<=n*2^t)/\(w=false->n*2^t<=M*2^s):=by
 obtain⟨u,hu⟩:∃u,fA M f p=u:=⟨_,rfl⟩;have hu1:-16384<=u/\f+(ae M:Nat)-p<=u/\(u=-16384\/u=f+(ae M:Nat)-p):=by
  grind[fA]
 unfold cR at h⊢;rw[hu]at h⊢;obtain⟨q,hq⟩:∃q,my w (qI M f more u)=q:=⟨_,rfl⟩;rw[hq]at h⊢;have hT:(w=true->(M+more.toNat)*2^s<=q*2^ ((u+16384).toNat+t))/\(w=false->q*2^ ((u+16384).toNat+t)<=M*2^s):=by
  unfold qI at hq;by_cases h1:u<=f
  ·have hmf:more=false:=by
    grind
   subst hmf;have hq2:q=M*2^ (f-u).toNat:=by
    grind[my]
   rw[hq2,avT,←avG,show(f-u).toNat+((u+16384).toNat+t)=s by omega];grind
  ·rw[if_neg h1]at hq;obtain⟨d,hd⟩:∃d,(u-f).toNat=d:=⟨_,rfl⟩;rw[hd]at hq;rw[show(u+16384).toNat+t=d+s by omega,avG,←avT];have hd:=awi M (2^d);have hm:=av3 M (avJ d);unfold my at hq;constructor
   ·intro hw;subst hw;refine avA _ ?_;by_cases hz:(more||decide (M%2^d≠0))=true
    ·rw[hz,Bool.and_true,if_pos rfl]at hq;subst hq;have:=Bool.toNat_le more;grind
    grind
   ·intro hw;subst hw;subst hq;refine avA _ ?_;grind
 obtain⟨h1,h2⟩:=hT;unfold tq at h⊢;by_cases hb:16384< (ae q:Int)+u
 ·rw[if_pos hb]at h⊢;cases w with
  |true=>grind
  |false=>
   refine⟨_,Jr ω h,fun hw=>absurd hw avD,fun _=>?_⟩;have h3:=h2 rfl;have h4:2^ (32768+t)<=M*2^s:=by
    by_cases hb0:ae q=0
    ·have hbm:=gZ h0;have h5:=PO (show ae M-1<ae M by omega);refine avx ?_ (avA _ h5);rw[←avG];exact av8 δ ω
    ·have h5:=PO (show ae q-1<ae q by omega);refine avx ?_ (avx (avA _ h5) h3);rw[←avG];exact av8 δ ω
   have h7:(2^p.toNat-1)*2^ (16384-p+16384).toNat*2^t<=2^ (32768+t):=by
    rw[avT,←avG];refine avx (avA _ (Nat.sub_le _ 1)) ?_;rw[←avG];exact av8 δ ω
   omega
 ·rw[if_neg hb]at h⊢;refine⟨_,Jr hu1.1 h,fun hw=>?_,fun hw=>?_⟩
  all_goals grind
theorem PP{M:Nat}{f p:Int}{more w:Bool}:vd (cR M f more p w).1=true:=by
 have hc:∀ (q:Nat) (u:Int),vd (cX (bF false q u)).1=true:=fun q u=>by
  have:=(A8 (z:=(q:Int)) (f:=u)).1;grind[eK,decide_eq_false,Int.natAbs_natCast]
 grind[cR,tq,vd,aI]
theorem Kj{z p:Int}{j:Nat}{up:Bool}(hp:8<=p/\p<=512)(h:(jG z (-16384- (j:Int)) p up).2=0):(up=true->z<=zI (jG z (-16384- (j:Int)) p up).1*2^j)/\(up=false->zI (jG z (-16384- (j:Int)) p up).1*2^j<=z):=by
 unfold jG at h⊢;by_cases h0:z=0
 ·rw[if_pos h0,du rfl,Int.zero_mul,h0];omega
 ·unfold hH at h⊢;have key:∀w:Bool,(cR z.natAbs (-16384- (j:Int)) false p w).2=0->∃n:Nat,zI (cR z.natAbs (-16384- (j:Int)) false p w).1=(n:Int)/\(w=true->(z.natAbs:Int)<=(n:Int)*2^j)/\(w=false->(n:Int)*2^j<=(z.natAbs:Int)):=fun w hc=>by
   obtain⟨n,g1,g2,g3⟩:=Ht (s:=0) (t:=j) ω hp ω (fun h=>absurd h avD) hc;refine⟨n,g1,fun hw=>?_,fun hw=>?_⟩
   all_goals grind
  by_cases hn:z<0
  ·grind[AZ,PP,Int.neg_mul]
  grind
theorem ahO{c:Rd}{p:Int}(vc:vd c=true)(hp:bQ p=true)(h:(cz c p false).2=0):zI (cz c p false).1<=zI c:=by
 have hp2:8<=p/\p<=512:=by
  simp_all[bQ,avv,decide_eq_true_eq]
 have hf:aY p [c]=0:=by grind[aY]
 unfold cz at h⊢;rw[if_pos hf]at h⊢;have:=(Kj (j:=0) hp2 h).2 rfl;grind
theorem ahP{c:Rd}{p:Int}(vc:vd c=true)(hp:bQ p=true)(h:(cz c p true).2=0):zI c<=zI (cz c p true).1:=by
 have hp2:8<=p/\p<=512:=by
  simp_all[bQ,avv,decide_eq_true_eq]
 have hf:aY p [c]=0:=by grind[aY]
 unfold cz at h⊢;rw[if_pos hf]at h⊢;have:=(Kj (j:=0) hp2 h).1 rfl;grind
def vY(T V:Nat):Nat:=min 4294967295 (T/V)
theorem afd{T L V2 M v w k W V:Nat}(hW:W=T*4294967296^k+L)(hV:V=V2*4294967296^k+M)(hL:L<4294967296^k)(hM:M<4294967296^k)(h2:V2=v*4294967296+w)(hv:2147483648<=v)(hlt:W<4294967296*V):
  W/V<=vY T V2/\vY T V2<=W/V+1:=by
 generalize 4294967296^k=b at*
 have hV2:9223372036854775808<=V2:=ω
 have hVp:0<V:=by
  omega
 have hV2p:0<V2:=ω
 constructor
 ·refine Nat.le_min.2 ⟨?_,?_⟩
  ·have:=(Nat.div_lt_iff_lt_mul hVp).2 hlt;omega
  ·rw[Nat.le_div_iff_mul_le hV2p];have h1:W/V*V<=W:=Nat.div_mul_le_self W V;have h3:W/V*V2*b<=W/V*V:=by
    simp_all[avT,awq]
   have h4:W/V*V2*b< (T+1)*b:=by
    grind
   have:=Nat.lt_of_mul_lt_mul_right h4;omega
 ·have hg:vY T V2*V2<=T:=by
   refine avx (avA V2 (Nat.min_le_right _ _)) (Nat.div_mul_le_self T V2)
  have hg2:vY T V2<=4294967295:=Nat.min_le_left _ _;generalize vY T V2=g at*
  have h1:g*V=g*V2*b+g*M:=γ
  have h2':g*V2*b<=T*b:=avA b hg;have h3:g*M<=4294967295*b:=Nat.mul_le_mul hg2 (Nat.le_of_lt hM);have h4:9223372036854775808*b<=V2*b:=avA b hV2;have h5:g*V<W+V:=ω
  cases g with
  |zero=>grind
  |succ g=>
   rw[avP,Nat.one_mul]at h5;exact Nat.succ_le_succ ((Nat.le_div_iff_mul_le hVp).2 ω)
theorem Vq{q rest third v w T V:Nat}(hT:T=(q*v+rest)*4294967296+third)(hV:V=v*4294967296+w)(hVp:0<V)(hw:w<4294967296)(hq:q<=4294967296):
  (rest<4294967296/\rest*4294967296+third<q*w->T/V<q)/\(¬ (rest<4294967296/\rest*4294967296+third<q*w)->q<=T/V):=by
 have e1:q*V=q*v*4294967296+q*w:=γ
 constructor
 ·rw[Nat.div_lt_iff_lt_mul hVp];omega
 ·rw[Nat.le_div_iff_mul_le hVp];by_cases h1:rest<4294967296
  ·omega
  ·have:q*w<=4294967296*4294967296:=Nat.mul_le_mul hq (Nat.le_of_lt hw);omega
theorem WM{top next third v w:Nat}(hv:0<v)(hvb:v<4294967296)(ht:top<=v)(hn:next<4294967296)(h3:third<4294967296):
  min (if v<=top then 4294967295 else(top*4294967296+next)/v) (((top*4294967296+next)*4294967296+third)/ (v*4294967296+w))=vY ((top*4294967296+next)*4294967296+third) (v*4294967296+w):=by
 unfold vY;by_cases h:v<=top
 ·rw[if_pos h]
 ·rw[if_neg h];have h1:((top*4294967296+next)*4294967296+third)/ (v*4294967296+w)<=(top*4294967296+next)/v:=by
   rw[Nat.le_div_iff_mul_le hv];have h2:=Nat.div_mul_le_self ((top*4294967296+next)*4294967296+third) (v*4294967296+w);grind
  have h2:(top*4294967296+next)/v<4294967296:=by
   rw[Nat.div_lt_iff_lt_mul hv];omega
  omega
def sP(q:Nat):List Nat->List Nat->Nat->Nat->List Nat×Nat×Nat
 |u::us,y::vs,c,b=>(((u+18446744073709551616- (q*y+c) %4294967296-b) %18446744073709551616%4294967296)::(sP q us vs ((q*y+c)/4294967296) ((u+18446744073709551616- (q*y+c) %4294967296-b) %18446744073709551616/9223372036854775808)).1,(sP q us vs ((q*y+c)/4294967296) ((u+18446744073709551616- (q*y+c) %4294967296-b) %18446744073709551616/9223372036854775808)).2)
 |_,_,c,b=>([],c,b)
theorem PQ{u s b:Nat}(hu:u<4294967296)(hs:s<4294967296)(hb:b<=1):
  (u+18446744073709551616-s-b) %18446744073709551616/9223372036854775808<=1/\(u+18446744073709551616-s-b) %18446744073709551616%4294967296+s+b=u+4294967296*((u+18446744073709551616-s-b) %18446744073709551616/9223372036854775808):=by
 omega
theorem Vr{q:Nat}(hq:q<4294967296):∀ {us vs:List Nat} {c b:Nat},Lb us->Lb vs->us.length=vs.length->c<4294967296->b<=1->
  ab us+4294967296^vs.length*((sP q us vs c b).2.1+(sP q us vs c b).2.2)=ab (sP q us vs c b).1+q*ab vs+c+b/\(sP q us vs c b).2.1<4294967296/\(sP q us vs c b).2.2<=1/\Lb (sP q us vs c b).1/\(sP q us vs c b).1.length=vs.length
 |[],[],c,b,_,_,_,hc,hb=>by
  refine⟨?_,hc,hb,fun x hx=>(nomatch hx),rfl⟩;show 0+4294967296^0*(c+b)=0+q*0+c+b;omega
 |u::us,y::vs,c,b,hu,hv,hl,hc,hb=>by
  have hu0:=hu u σ;have hy0:=hv y σ;have hp:q*y+c<4294967296*4294967296:=by
   have h1:q*y<=4294967295*4294967295:=Nat.mul_le_mul ω ω;omega
  have hs:=av3 (q*y+c) (by decide:0<4294967296);have hd:=awi (q*y+c) 4294967296;have hc2:(q*y+c)/4294967296<4294967296:=by
   omega
  obtain⟨k1,k2⟩:=PQ (b:=b) hu0 hs hb;have ih:=Vr hq (us:=us) (vs:=vs) (c:=(q*y+c)/4294967296) (b:=(u+18446744073709551616- (q*y+c) %4294967296-b) %18446744073709551616/9223372036854775808) (fun x hx=>hu x γ) (fun x hx=>hv x γ) γ hc2 k1;obtain⟨i1,i2,i3,i4,i5⟩:=ih;unfold sP;generalize(u+18446744073709551616- (q*y+c) %4294967296-b) %18446744073709551616/9223372036854775808=b2 at*
  generalize(q*y+c)/4294967296=c2 at*
  generalize sP q us vs c2 b2=r at*
  refine⟨?_,i2,i3,fun x hx=>?_,by grind⟩
  ·grind[ab,awb,avM,avT,Nat.mul_add,Nat.mul_left_comm]
  ·rcases List.mem_cons.1 hx with rfl|hx
   ·omega
   ·exact i4 x hx
 |[],_::_,_,_,_,_,h,_,_=>by grind
 |_::_,[],_,_,_,_,h,_,_=>by grind
def nv(q top:Nat)(us vs:List Nat):List Nat×Nat×Bool:=
 ((sP q us vs 0 0).1,(top+18446744073709551616- (sP q us vs 0 0).2.1- (sP q us vs 0 0).2.2) %18446744073709551616%4294967296,decide ((top+18446744073709551616- (sP q us vs 0 0).2.1- (sP q us vs 0 0).2.2) %18446744073709551616/9223372036854775808=1))
theorem PR{q top:Nat}{us vs:List Nat}(hq:q<4294967296)(ht:top<4294967296)(hu:Lb us)(hv:Lb vs)(hl:us.length=vs.length):
  (ab us+4294967296^vs.length*top+(if(nv q top us vs).2.2=true then 4294967296^vs.length*4294967296 else 0)=ab (nv q top us vs).1+4294967296^vs.length*(nv q top us vs).2.1+q*ab vs)/\(nv q top us vs).2.1<4294967296/\Lb (nv q top us vs).1/\(nv q top us vs).1.length=vs.length:=by
 obtain⟨h1,h2,h3,h4,h5⟩:=Vr hq hu hv hl (c:=0) (b:=0) δ δ;unfold nv;generalize sP q us vs 0 0=r at*
 obtain⟨r1,c,b⟩:=r;refine⟨?_,av3 _ δ,h4,h5⟩;obtain⟨k1,k2⟩:=PQ (u:=top) (s:=c) (b:=b) ht h2 h3;generalize(top+18446744073709551616-c-b) %18446744073709551616/9223372036854775808=f at*
 generalize(top+18446744073709551616-c-b) %18446744073709551616%4294967296=t2 at*
 have e1:4294967296^vs.length*(c+b)+4294967296^vs.length*t2=4294967296^vs.length*top+4294967296^vs.length*4294967296*f:=by
  grind
 grind
def Ae(top:Nat)(us:List Nat):Nat:=(top*4294967296+us.getD (us.length-1) 0)*4294967296+us.getD (us.length-2) 0
def yj(vs:List Nat):Nat:=vs.getD (vs.length-1) 0*4294967296+vs.getD (vs.length-2) 0
def wT(top:Nat)(us vs:List Nat):List Nat×Nat×Nat:=
 if(nv (vY (Ae top us) (yj vs)) top us vs).2.2=true then
  (eX (nv (vY (Ae top us) (yj vs)) top us vs).1 vs vs.length,((nv (vY (Ae top us) (yj vs)) top us vs).2.1+iW (nv (vY (Ae top us) (yj vs)) top us vs).1 vs vs.length) %4294967296,vY (Ae top us) (yj vs)-1)
 else((nv (vY (Ae top us) (yj vs)) top us vs).1,(nv (vY (Ae top us) (yj vs)) top us vs).2.1,vY (Ae top us) (yj vs))
theorem Vs{l:List Nat}{k:Nat}(h:l.length=k+2):ab l=(l.getD (k+1) 0*4294967296+l.getD k 0)*4294967296^k+ab (l.take k):=by
 have h1:=gu l (k+1);have h2:=gu l k;grind
theorem acH{top:Nat}{us vs:List Nat}{k:Nat}(ht:top<4294967296)(hu:Lb us)(hv:Lb vs)(hul:us.length=k+2)(hvl:vs.length=k+2)(hn:2147483648<=vs.getD (k+1) 0)(hlt:ab us+4294967296^ (k+2)*top<4294967296*ab vs):
  ab (wT top us vs).1+4294967296^ (k+2)*(wT top us vs).2.1=(ab us+4294967296^ (k+2)*top) %ab vs/\(wT top us vs).2.2=(ab us+4294967296^ (k+2)*top)/ab vs/\Lb (wT top us vs).1/\(wT top us vs).1.length=k+2/\(wT top us vs).2.1<4294967296:=by
 obtain⟨W,hW⟩:∃W,ab us+4294967296^ (k+2)*top=W:=⟨_,rfl⟩;obtain⟨V,hV⟩:∃V,ab vs=V:=⟨_,rfl⟩;have a1:=Vs hul;have a2:=Vs hvl;have l1:=eu (gI hu k);have l2:=eu (gI hv k);rw[avF,awm ω]at l1 l2;have hT:W=Ae top us*4294967296^k+ab (us.take k):=by
  unfold Ae;grind
 have hV2:V=yj vs*4294967296^k+ab (vs.take k):=by
  grind[yj]
 rw[hW]at hlt⊢;rw[hV]at hlt⊢;obtain⟨g1,g2⟩:=afd hT hV2 l1 l2 (show yj vs=vs.getD (k+1) 0*4294967296+vs.getD k 0 by grind[yj]) hn hlt;have hgb:vY (Ae top us) (yj vs)<4294967296:=by
  grind[vY,Ae,yj,Nat.min_le_left]
 unfold wT;generalize vY (Ae top us) (yj vs)=g at*
 obtain⟨t1,t2,t3,t4⟩:=PR (q:=g) hgb ht hu hv ω;generalize nv g top us vs=r at*
 obtain⟨r1,r2,f⟩:=r;simp only at t1 t2 t3 t4⊢;rw[hvl,hW,hV]at t1;rw[hvl]at t4;have hVp:0<V:=by
  omega
 have hdm:=awi W V;have hml:=av3 W hVp;have hVb:V<4294967296^ (k+2):=by grind[eu]
 have hrb:ab r1<4294967296^ (k+2):=by grind[eu]
 generalize hB:4294967296^ (k+2)=b at*
 cases f with
 |false=>
  simp only[awo,if_false,av1]at t1⊢;have h1:g<=W/V:=(Nat.le_div_iff_mul_le hVp).2 ω;have h2:g=W/V:=Nat.le_antisymm h1 g1;refine⟨?_,h2,t3,t4,t2⟩;rw[h2,avM (W/V) V]at t1;omega
 |true=>
  simp only[if_true]at t1⊢;have hbr:b*r2+ab r1<b*4294967296:=by
   have h1:b*(r2+1)<=b*4294967296:=awq b ω;rw[Nat.mul_add,Nat.mul_one]at h1;omega
  have h1:¬g<=W/V:=fun h=>by
   have:=(Nat.le_div_iff_mul_le hVp).1 h;omega
  have h2:g=W/V+1:=ω
  have s1:=L6 r1 vs (k+2);rw[hB,avL ω,avL ω,hV]at s1;have s2:=Xm r1 vs (k+2);have s3:(eX r1 vs (k+2)).length=k+2:=by unfold eX;rw[awk,List.length_range]
  have s4:ab (eX r1 vs (k+2))<b:=by
   have:=eu s2;rw[s3,hB]at this;exact this
  rw[hvl];refine⟨?_,by show g-1=W/V;rw[h2,Nat.add_sub_cancel],s2,s3,av3 _ δ⟩;rw[h2,avP,Nat.one_mul,avM (W/V) V]at t1;have e1:ab (eX r1 vs (k+2))+b*(iW r1 vs (k+2)+r2)=b*4294967296+W%V:=by
   rw[Nat.mul_add];omega
  have hc:iW r1 vs (k+2)+r2=4294967296:=by
   have h3:¬iW r1 vs (k+2)+r2<4294967296:=fun h=>by
    have h4:b*(iW r1 vs (k+2)+r2+1)<=b*4294967296:=awq b h;rw[Nat.mul_add b _ 1,Nat.mul_one]at h4;omega
   have h5:¬4294967296<iW r1 vs (k+2)+r2:=fun h=>by
    have h4:b*(4294967296+1)<=b*(iW r1 vs (k+2)+r2):=awq b h;omega
   omega
  rw[hc]at e1;rw[Nat.add_comm r2,hc,Nat.mod_self,Nat.mul_zero];omega
def nQ(u:List Nat)(j:Nat)(us:List Nat)(top:Nat):List Nat:=u.take j++(us++top::u.drop (j+us.length+1))
def yk(vs:List Nat):Nat->List Nat->List Nat×List Nat
 |0,u=>(u,[])
 |j+1,u=>((yk vs j (nQ u j (wT (u.getD (j+vs.length) 0) ((u.drop j).take vs.length) vs).1 (wT (u.getD (j+vs.length) 0) ((u.drop j).take vs.length) vs).2.1)).1,
   (yk vs j (nQ u j (wT (u.getD (j+vs.length) 0) ((u.drop j).take vs.length) vs).1 (wT (u.getD (j+vs.length) 0) ((u.drop j).take vs.length) vs).2.1)).2++[(wT (u.getD (j+vs.length) 0) ((u.drop j).take vs.length) vs).2.2])
theorem E3(l:List Nat)(i:Nat)(h:i<=l.length):ab l=ab (l.take i)+4294967296^i*ab (l.drop i):=by
 grind[eP,List.take_append_drop,avF,awm]
theorem afe(l:List Nat)(x:Nat):ab (l++[x])=ab l+4294967296^l.length*x:=by
 rw[eP];show _+_*(x+4294967296*0)=_;grind
theorem X5{u:List Nat}{j n V:Nat}(hu:Lb u)(hl:j+n<u.length)(hV:V<4294967296^n)(h:ab (u.drop (j+1))<V):
  ab ((u.drop j).take n)+4294967296^n*u.getD (j+n) 0=ab (u.drop j)/\ab (u.drop (j+n+1))=0/\ab (u.drop j)<4294967296*V:=by
 have h0:=gB u j;have hj:=cY hu j;have h1:=E3 (u.drop j) (n+1) γ;rw[List.drop_drop,gu]at h1;have h2:(u.drop j).getD n 0=u.getD (j+n) 0:=by
  grind
 rw[h2,show j+(n+1)=j+n+1 by omega]at h1;have h4:ab (u.drop (j+n+1))=0:=by
  refine Nat.eq_zero_of_not_pos fun hp=>?_;have:4294967296^ (n+1)*1<=4294967296^ (n+1)*ab (u.drop (j+n+1)):=awq _ hp;omega
 grind
theorem Eh{u us:List Nat}{j top:Nat}(h:j+us.length<u.length):(nQ u j us top).length=u.length:=by
 grind[nQ,awj,av2,avF,aws]
theorem PS{u us:List Nat}{j top:Nat}(hu:Lb u)(hs:Lb us)(ht:top<4294967296):Lb (nQ u j us top):=by
 grind[nQ,qT,jL,gI,nZ]
theorem Js{u us:List Nat}{j top:Nat}(h:j<=u.length):(nQ u j us top).drop j=us++top::u.drop (j+us.length+1):=by
 unfold nQ;rw[List.drop_append_of_le_length (by rw[avF];omega),List.drop_of_length_le (by rw[avF];omega),avB]
theorem acI{u us:List Nat}{j top:Nat}(h:j<=u.length):(nQ u j us top).take j=u.take j:=by
 unfold nQ;rw[List.take_append_of_le_length (by rw[avF];omega),List.take_take,Nat.min_self]
theorem w2'{u:List Nat}{j n s2:Nat}(h:ab (u.drop (j+n+1))=0):ab (s2::u.drop (j+n+1))=s2:=by
 simp_all[ab,Nat.mul_zero,av1]
theorem acJ{vs:List Nat}{k:Nat}(hv:Lb vs)(hvl:vs.length=k+2)(hn:2147483648<=vs.getD (k+1) 0):
  ∀ (j:Nat) (u:List Nat),Lb u->j+(k+2)<=u.length->ab (u.drop j)<ab vs->ab u=ab (yk vs j u).1+ab vs*ab (yk vs j u).2/\ab (yk vs j u).1<ab vs/\(yk vs j u).2.length=j/\(yk vs j u).1.length=u.length/\Lb (yk vs j u).1/\Lb (yk vs j u).2
 |0,u,hu,_,h=>by
  refine⟨?_,h,rfl,rfl,hu,fun x hx=>(nomatch hx)⟩;show ab u=ab u+ab vs*0;omega
 |j+1,u,hu,hl,h=>by
  have hVb:ab vs<4294967296^ (k+2):=by grind[eu]
  obtain⟨w1,w2,w3⟩:=X5 (n:=k+2) hu ω hVb h;have hlen:((u.drop j).take (k+2)).length=k+2:=γ
  have hs:=acH (top:=u.getD (j+(k+2)) 0) (cY hu _) (gI (nZ hu j) (k+2)) hv hlen hvl hn ω;rw[w1]at hs;unfold yk;rw[hvl];generalize wT (u.getD (j+(k+2)) 0) ((u.drop j).take (k+2)) vs=s at*
  obtain⟨s1,s2,s3⟩:=s;obtain⟨d1,d2,d3,d4,d5⟩:=hs;simp only at d1 d2 d3 d4 d5⊢;have hd:ab ((nQ u j s1 s2).drop j)=ab (u.drop j) %ab vs:=by
   grind[Js,eP,w2']
  have hVp:0<ab vs:=ω
  have ih:=acJ hv hvl hn j (nQ u j s1 s2) (PS hu d3 d5) (by grind[Eh]) (by simp_all[av3]);obtain⟨i1,i2,i3,i4,i5,i6⟩:=ih;have hval:=E3 (nQ u j s1 s2) j (by grind[Eh]);rw[acI ω,hd]at hval;have hval2:=E3 u j ω;generalize yk vs j (nQ u j s1 s2)=r at*
  obtain⟨r1,r2⟩:=r;refine⟨?_,i2,by grind,by rw[i4,Eh ω],i5,?_⟩
  ·grind[afe,Nat.mul_add,awi,ab,Nat.mul_left_comm,Nat.add_comm]
  ·rw[qT];refine⟨i6,fun x hx=>?_⟩
   simp_all[Nat.div_lt_iff_lt_mul]
attribute [-go_sem] M9 J0 in
theorem aat{third v w T V:Nat}(hV:V=v*4294967296+w)(hv:2147483648<=v)(hvb:v<4294967296)(hw:w<4294967296)(h3:third<4294967296):
  ∀ (k q rest:Nat),4294967296<=rest+k*2147483648->q<=4294967295->rest<8589934592->T=(q*v+rest)*4294967296+third->∀ (s:ak) (h:ac),s 0=W q->s 1=W rest->s 2=U third->s 3=U v->s 4=U w->
  ∃hh,ah 0 [0] (av (ai R (ax false) gp) [0,1,2,3,4] [] s h)=some (.normal,⟨upd (fun _=>.any) 0 (W (min q (T/V):Nat)),hh⟩):=by
 intro k;induction k with
 |zero=>
  intro q rest hk hq hr hT s h g0 g1 g2 g3 g4;have hs:=(Vq (q:=q) hT hV ω hw ω).2 (fun h=>by omega);have e1:((rest:Int)<4294967296)=False:=ff;rw[awm hs,ag];refine⟨fun _=>.dead,?_⟩;simp only[gp,go_sem,g0,g1,g2,g3,g4,e1]
 |succ k ih=>
  intro q rest hk hq hr hT s h g0 g1 g2 g3 g4;have hd:=Vq (q:=q) hT hV ω hw ω;by_cases hlt:rest<4294967296
  ·have e1:((rest:Int)<4294967296)=True:=tt;have hqw:q*w<=4294967295*4294967295:=Nat.mul_le_mul hq ω;have e2:IntKind.u64.wrap ((q:Int)*(w:Int))=((q*w:Nat):Int):=iG σ ω;have e3:=J2 (n:=rest) (k:=32) (i:=(rest:Int)) (kk:=.u64) (j:=32) rfl rfl δ ω;have e4:=UO (m:=rest*2^32) (n:=third) (i:=((rest*2^32:Nat):Int)) (j:=(third:Int)) rfl rfl ω ω;rw[I8 (x:=rest) (c:=third) (k:=32) ω]at e4;have e5:IntKind.u64.wrap (third:Int)=third:=iG rfl ω;have e6:IntKind.u64.wrap (w:Int)=w:=iG rfl ω;have e7:IntKind.u64.wrap (v:Int)=v:=iG rfl ω;by_cases hc:rest*4294967296+third<q*w
   ·have e8:(((rest*2^32+third:Nat):Int)< ((q*w:Nat):Int))=True:=tt;have hq1:1<=q:=Nat.pos_of_ne_zero fun h0=>by grind
    have e9:IntKind.u64.wrap ((q:Int)-1)=((q-1:Nat):Int):=iG ω ω;have e10:IntKind.u64.wrap ((rest:Int)+(v:Int))=((rest+v:Nat):Int):=iG σ ω;have hT2:T=((q-1)*v+(rest+v))*4294967296+third:=by
     rw[hT,Nat.sub_mul,Nat.one_mul];have:v<=q*v:=Nat.le_mul_of_pos_left v hq1;omega
    have ih':=ih (q-1) (rest+v) ω ω ω hT2;have hm:min q (T/V)=min (q-1) (T/V):=ω
    rw[hm,ag];simp only[gp,go_sem,g0,g1,g2,g3,g4,e1,e2,e3,e4,e5,e6,e7,e8,e9,e10];exact ih' _ _ rfl rfl rfl rfl rfl
   ·have e8:(((rest*2^32+third:Nat):Int)< ((q*w:Nat):Int))=False:=ff;have hs:=hd.2 (fun h=>hc h.2);rw[awm hs,ag];refine⟨fun _=>.dead,?_⟩;simp only[gp,go_sem,g0,g1,g2,g3,g4,e1,e2,e3,e4,e5,e6,e8]
  ·have hs:=hd.2 (fun h=>hlt h.1);have e1:((rest:Int)<4294967296)=False:=ff;rw[awm hs,ag];refine⟨fun _=>.dead,?_⟩;simp only[gp,go_sem,g0,g1,g2,g3,g4,e1]
theorem ahQ{q rest third v w T V:Nat}(hV:V=v*4294967296+w)(hv:2147483648<=v)(hvb:v<4294967296)(hw:w<4294967296)(h3:third<4294967296)(hq:q<=4294967295)(hr:rest<8589934592)(hT:T=(q*v+rest)*4294967296+third)(s:ak)(h:ac)(X:Option (Ex×St))(hX:ah 0 [0] (av (ai R (ax false) gp) [0,1,2,3,4] [] s h)=X)(g0:s 0=W q)(g1:s 1=W rest)(g2:s 2=U third)(g3:s 3=U v)(g4:s 4=U w):
  ∃hh,X=some (.normal,⟨upd (fun _=>.any) 0 (W (min q (T/V):Nat)),hh⟩):=by
 subst hX;exact aat hV hv hvb hw h3 2 q rest ω hq hr hT s h g0 g1 g2 g3 g4
theorem Vt{q rest third v w T V:Nat}(hV:V=v*4294967296+w)(hv:2147483648<=v)(hvb:v<4294967296)(hw:w<4294967296)(h3:third<4294967296)(hq:q<=4294967295)(hr:rest<8589934592)(hT:T=(q*v+rest)*4294967296+third):
  R F.natural_digit [W q,W rest,U third,U v,U w] []=some (W (min q (T/V):Nat),[]):=by
 refine aB NJ rfl ?_;have hl:=ahQ hV hv hvb hw h3 hq hr hT;simp only[xG,ER,go_sem];generalize hX:ah 0 _ _=X;obtain⟨hh,rfl⟩:=hl _ _ _ hX rfl rfl rfl rfl rfl;simp only[go_sem]
attribute [-go_sem] M9 J0 in
theorem aff{top next third v w:Nat}(hv:2147483648<=v)(hvb:v<4294967296)(ht:top<=v)(hn:next<4294967296)(h3:third<4294967296)(hw:w<4294967296):
  R F.natural_guess [U top,U next,U third,U v,U w] []=some (W (vY ((top*4294967296+next)*4294967296+third) (v*4294967296+w):Nat),[]):=by
 refine aB NH rfl ?_;rw[←WM ω hvb ht hn h3];have c1:IntKind.u64.wrap (next:Int)=next:=iG rfl ω
 have c2:IntKind.u64.wrap (v:Int)=v:=iG rfl ω;have c3:IntKind.u64.wrap (top:Int)=top:=iG rfl ω;by_cases h:v<=top
 ·have e1:((v:Int)<=(top:Int))=True:=tt;rw[if_pos h];have e2:IntKind.u32.wrap ((top:Int)- (v:Int))=0:=by
   rw[show(top:Int)- (v:Int)=0 by omega];rfl
  have e3:IntKind.u64.wrap 0=0:=rfl;have e4:=J2 (n:=0) (k:=32) (i:=0) (kk:=.u64) (j:=32) rfl rfl δ δ;have e5:IntKind.u64.wrap (0+(next:Int))=next:=iG ω ω
  have e6:IntKind.u64.wrap ((next:Int)+(v:Int))=((next+v:Nat):Int):=iG σ ω;have hd:=Vt (q:=4294967295) (rest:=next+v) (third:=third) (v:=v) (w:=w) (T:=(top*4294967296+next)*4294967296+third) rfl hv hvb hw h3 δ ω (by
   omega)
  have e7:(((4294967295:Nat):Int))=4294967295:=rfl;rw[e7]at hd;rw[Nat.zero_mul]at e4;simp only[av7]at e4;simp only[rL,zD,go_sem,e1,e2,e3,e4,e5,e6,c1,c2,hd]
 ·have e1:((v:Int)<=(top:Int))=False:=ff;rw[if_neg h];have e4:=J2 (n:=top) (k:=32) (i:=(top:Int)) (kk:=.u64) (j:=32) rfl rfl δ ω;have e5:=UO (m:=top*2^32) (n:=next) (i:=((top*2^32:Nat):Int)) (j:=(next:Int)) rfl rfl ω ω;rw[I8 (x:=top) (c:=next) (k:=32) ω,show top*2^32+next=top*4294967296+next from rfl]at e5;obtain⟨N,hN⟩:∃N,top*4294967296+next=N:=⟨_,rfl⟩
  rw[hN]at e5⊢;have hNb:N<18446744073709551616:=ω
  have e6:eA .quo (W N) (W v)=some (W (N/v:Nat)):=by
   rw[OL,if_neg ω,Int.tdiv_eq_ediv_of_nonneg ω];have:N/v<=N:=Nat.div_le_self _ _;grind[iG]
  have e7:eA .rem (W N) (W v)=some (W (N%v:Nat)):=by
   rw[JZ,if_neg ω,Int.tmod_eq_emod_of_nonneg ω];rfl
  have hm:=av3 N (show 0<v by omega);have hq:N/v<=4294967295:=by
   have:N/v<4294967296:=by
    rw[Nat.div_lt_iff_lt_mul ω];omega
   omega
  have hd:=Vt (q:=N/v) (rest:=N%v) (third:=third) (v:=v) (w:=w) (T:=N*4294967296+third) rfl hv hvb hw h3 hq ω (by
   rw[avM (N/v) v,awi])
  simp only[rL,zD,go_sem,e1,e4,e5,e6,e7,c1,c2,c3,hd]
attribute [-go_sem] M9 J0 in
theorem afg{a b y:Nat}(hay:a<y)(hy:y<4294967296)(hb:b<4294967296):
  R F.bits_Div32 [U a,U b,U y] []=some (.tup [U ((a*4294967296+b)/y:Nat),U ((a*4294967296+b) %y:Nat)],[]):=by
 refine aB UC rfl ?_;have e1:((y:Int)=0)=False:=ff;have e2:((y:Int)<=(a:Int))=False:=ff;have c1:IntKind.u64.wrap (a:Int)=a:=iG rfl ω;have c2:IntKind.u64.wrap (b:Int)=b:=iG rfl ω;have c3:IntKind.u64.wrap (y:Int)=y:=iG rfl ω;have e4:=J2 (n:=a) (k:=32) (i:=(a:Int)) (kk:=.u64) (j:=32) rfl rfl δ ω;have e5:=UO (m:=a*2^32) (n:=b) (i:=((a*2^32:Nat):Int)) (j:=(b:Int)) rfl rfl ω ω;rw[I8 (x:=a) (c:=b) (k:=32) ω,show a*2^32+b=a*4294967296+b from rfl]at e5;rw[show a*2^32=a*4294967296 from rfl]at e4 e5;obtain⟨N,hN⟩:∃N,a*4294967296+b=N:=⟨_,rfl⟩;rw[hN]at e5⊢;have e6:eA .quo (W N) (W y)=some (W (N/y:Nat)):=by
  rw[OL,if_neg ω,Int.tdiv_eq_ediv_of_nonneg ω];have:N/y<=N:=Nat.div_le_self _ _;rw[iG (n:=N/y) σ ω]
 have e7:eA .rem (W N) (W y)=some (W (N%y:Nat)):=by
  rw[JZ,if_neg ω,Int.tmod_eq_emod_of_nonneg ω];rfl
 have hm:=av3 N (show 0<y by omega);have hq:N/y<4294967296:=by
  rw[Nat.div_lt_iff_lt_mul ω];have h3:(a+1)*4294967296<=y*4294967296:=avA _ ω;rw[avM 4294967296 y];omega
 have w1:IntKind.u32.wrap ((N/y:Nat):Int)=((N/y:Nat):Int):=QQ rfl hq;have w2:IntKind.u32.wrap ((N%y:Nat):Int)=((N%y:Nat):Int):=QQ rfl ω;simp only[Cs,IW,go_sem,e1,e2,e4,e5,e6,e7,c1,c2,c3,w1,w2]
def fB(y:Nat):List Nat->List Nat×Nat
 |[]=>([],0)
 |x::l=>(((fB y l).2*4294967296+x)/y::(fB y l).1,((fB y l).2*4294967296+x) %y)
theorem De{y:Nat}(hy:0<y):∀ {l:List Nat},Lb l->ab l=ab (fB y l).1*y+(fB y l).2/\(fB y l).2<y/\(fB y l).1.length=l.length
 |[],_=>⟨by simp[fB,ab],hy,rfl⟩
 |x::l,hl=>by
  obtain⟨h1,h2,h3⟩:=De hy (l:=l) fun z hz=>hl z (by simp[hz]);unfold fB;refine⟨?_,av3 _ hy,by simp[h3]⟩;show x+4294967296*ab l=(((fB y l).2*4294967296+x)/y+4294967296*ab (fB y l).1)*y+((fB y l).2*4294967296+x) %y;have hm:=awi ((fB y l).2*4294967296+x) y;rw[avM]at hm;rw[avP,avT];generalize((fB y l).2*4294967296+x)/y*y=A at*
  omega
theorem X6{y:Nat}(hy:0<y)(hyb:y<4294967296):∀ {l:List Nat},Lb l->Lb (fB y l).1
 |[],_=>fun x hx=>(nomatch hx)
 |x::l,hl=>by
  have hl':Lb l:=fun z hz=>hl z (by simp[hz]);have h2:=(De hy hl').2.1;have hx:=hl x σ;intro z hz;rcases List.mem_cons.1 hz with h|h
  ·rw[h];show((fB y l).2*4294967296+x)/y<4294967296;rw[Nat.div_lt_iff_lt_mul hy];have h3:((fB y l).2+1)*4294967296<=y*4294967296:=avA _ ω;rw[avM 4294967296 y];omega
  ·exact X6 hy hyb hl' z h
theorem afh{a:List Nat}(ha:Lb a){y:Nat}(hy:0<y)(hyb:y<4294967296)(h1:a.length<=100000):
  ∀ (m:Nat),m<=a.length->∀ (s:ak) (h:ac),s 0=lm a->s 1=U y->s 6=.rsl 11 none 1 0 a.length->s 7=U ((fB y (a.drop m)).2:Nat)->s 8=I ((m:Int)-1)->h 11=.ar 1 (aG (avr m 0++(fB y (a.drop m)).1))->
  ∃hh,ah 0 [6,7] (av (ai R (ax false) kU) [0,1,6,7,8] [11] s h)=some (.normal,⟨upd (upd (fun _=>.any) 7 (U ((fB y a).2:Nat))) 6 (.rsl 11 none 1 0 a.length),hh⟩)/\hh 11=.ar 1 (aG (fB y a).1)/\(∀x,x≠11->hh x=.dead):=by
 intro m;induction m with
 |zero=>
  intro hm s h g0 g1 g6 g7 g8 k11;have e1:(0<=(((0:Nat):Int)-1))=False:=ff;rw[ag];refine⟨?hh0,?_,?_,?_⟩;rotate_left
  ·simp only[kU,go_sem,g0,g1,g6,g7,g8,k11,e1];rfl
  all_goals simp_all[cU,if_false]
 |succ m ih=>
  intro hm s h g0 g1 g6 g7 g8 k11;have hlt:m<a.length:=ω
  have hd:a.drop m=a.getD m 0::a.drop (m+1):=by
   simp_all
  have ha':Lb (a.drop (m+1)):=nZ ha _;obtain⟨q1,q2,q3⟩:=De hy ha';have e0:(((m+1:Nat):Int)-1)=(m:Int):=ω
  rw[e0]at g8;have e1:(0<=(m:Int))=True:=tt;have e2:bp (aG a) (m:Int)=some (.ipt [U (a.getD m 0:Nat)]):=cQ rfl ω;have e3:IntKind.i64.wrap ((m:Int)-1)=(m:Int)-1:=i64_in _ ⟨by omega,by omega⟩;have e5:((m:Int)< (a.length:Int))=True:=tt;have e6:=afg (a:=(fB y (a.drop (m+1))).2) (b:=a.getD m 0) q2 hyb (cY ha m);have ih':=ih ω;rw[hd]at ih';have hs1:(fB y (a.getD m 0::a.drop (m+1))).1=((fB y (a.drop (m+1))).2*4294967296+a.getD m 0)/y::(fB y (a.drop (m+1))).1:=rfl;have hs2:(fB y (a.getD m 0::a.drop (m+1))).2=((fB y (a.drop (m+1))).2*4294967296+a.getD m 0) %y:=rfl;rw[hs1,hs2]at ih';generalize((fB y (a.drop (m+1))).2*4294967296+a.getD m 0)/y=qd at*
  have e7:(aG (avr (m+1) 0++(fB y (a.drop (m+1))).1))[m]?=some [U (0:Nat)]:=by
   rw[kv γ,List.getD_eq_getElem?_getD,List.getElem?_append_left σ,List.getElem?_replicate,if_pos ω];rfl
  have e8:(aG (avr (m+1) 0++(fB y (a.drop (m+1))).1)).set m [U (qd:Nat)]=aG (avr m 0++qd::(fB y (a.drop (m+1))).1):=by
   rw[n7];rw[List.replicate_succ',awe,List.set_append_right _ _ σ];simp
  rw[ag];simp only[kU,go_sem,g0,g1,g6,g7,g8,k11,e1,e2,e3,e5,e6,e7,e8,avy,avs];exact ih' _ _ rfl rfl rfl rfl rfl rfl
theorem am2{a:List Nat}(ha:Lb a){y:Nat}(hy:0<y)(hyb:y<4294967296)(h1:a.length<=100000)(s:ak)(h:ac)(X:Option (Ex×St))(hX:ah 0 [6,7] (av (ai R (ax false) kU) [0,1,6,7,8] [11] s h)=X)
  (g0:s 0=lm a) (g1:s 1=U y) (g6:s 6=.rsl 11 none 1 0 a.length) (g7:s 7=U 0) (g8:s 8=I ((a.length:Int)-1)) (k11:h 11=.ar 1 (aG (avr a.length 0))):
  ∃hh,X=some (.normal,⟨upd (upd (fun _=>.any) 7 (U ((fB y a).2:Nat))) 6 (.rsl 11 none 1 0 a.length),hh⟩)/\hh 11=.ar 1 (aG (fB y a).1)/\(∀x,x≠11->hh x=.dead):=by
 subst hX;have hn:a.drop a.length=[]:=List.drop_of_length_le (avt _);refine afh ha hy hyb h1 a.length (avt _) s h g0 g1 g6 ?_ g8 ?_
 ·rw[hn];exact g7
 ·rw[hn];show h 11=.ar 1 (aG (avr a.length 0++[]));grind
theorem afi{a:List Nat}(ha:Lb a){y:Nat}(hy:0<y)(hyb:y<4294967296)(h1:a.length<=100000):R F.natural_short [lm a,U y] []=some (.tup [lm (fB y a).1,U ((fB y a).2:Nat)],[]):=by
 refine aB NG rfl ?_;have hl:=am2 ha hy hyb h1;have e3:IntKind.i64.wrap ((a.length:Int)-1)=(a.length:Int)-1:=i64_in _ ⟨by omega,by omega⟩;have e4:=uK (i:=(a.length:Int)) (j:=(a.length:Int)) rfl rfl (avt _) ω;have e5:(a.length*4<=140737488355328)=True:=tt;simp only[xF,EO,go_sem,e3,e4,e5,C6];generalize hX:ah 0 _ _=X;obtain⟨hh,rfl,q11,qd⟩:=hl _ _ _ hX rfl rfl rfl rfl rfl rfl;have hlen:=(De hy ha).2.2;simp only[go_sem,q11,hlen,avs,avt]
theorem Vu{u s b:Nat}(hu:u<4294967296)(hs:s<4294967296)(hb:b<4294967296):IntKind.u64.wrap (IntKind.u64.wrap ((u:Int)- (s:Int))- (b:Int))=(((u+18446744073709551616-s-b) %18446744073709551616:Nat):Int):=by
 grind[IntKind.wrap,IntKind.bits,IntKind.signed]
attribute [-go_sem] Xe FO in
theorem acK{V Z:List Nat}{q lo:Nat}(hV:Lb V)(hq:q<4294967296)(hn:V.length<=100000)(hlo:lo<=100000):
  ∀ (vs us P:List Nat) (i c b:Nat),i+vs.length=V.length->V.drop i=vs->us.length=vs.length->P.length=lo+i->Lb us->c<4294967296->b<=1->∀ (s:ak) (h:ac),s 0=.rsl 1000 none 1 lo (V.length+1)->s 1=lm V->s 2=W q->s 7=W c->s 8=W b->s 14=lm V->s 15=I V.length->s 16=I i->h 1000=.ar 1 (aG (P++(us++Z)))->
  ∃hh,ah 0 [0,1,7,8] (av (ai R (ax false) lU) [0,1,2,7,8,14,15,16] [1000] s h)=some (.normal,⟨upd (upd (upd (upd (fun _=>.any) 8 (W ((sP q us vs c b).2.2:Nat))) 7 (W ((sP q us vs c b).2.1:Nat))) 1 (lm V)) 0 (.rsl 1000 none 1 lo (V.length+1)),hh⟩)/\hh 1000=.ar 1 (aG (P++((sP q us vs c b).1++Z))):=by
 intro vs;induction vs with
 |nil=>
  intro us P i c b hi hd hl hP hu hc hb s h g0 g1 g2 g7 g8 g14 g15 g16 k;have hus:us=[]:=List.length_eq_zero_iff.1 hl;subst hus;have hi':i=V.length:=ω
  subst hi';rw[ag];refine⟨?hh0,?_,?_⟩;rotate_left
  ·simp only[lU,go_sem,g0,g1,g2,g7,g8,g14,g15,g16,k,awf];rfl
  ·rfl
 |cons y vs ih=>
  intro us P i c b hi hd hl hP hu hc hb s h g0 g1 g2 g7 g8 g14 g15 g16 k;obtain⟨u,us,rfl⟩:∃u us',us=u::us':=by
   cases us with
   |nil=>grind
   |cons u us=>grind
  have hi2:i<V.length:=γ
  have hy:V.getD i 0=y/\V.drop (i+1)=vs:=by
   grind[avI]
  have hyb:y<4294967296:=by grind[cY]
  have hub:=hu u σ;have hqy:q*y<=4294967295*4294967295:=Nat.mul_le_mul ω ω;have e1:((i:Int)< (V.length:Int))=True:=tt;have e2:bp (aG V) (i:Int)=some (.ipt [U (y:Nat)]):=by
   grind[cQ]
  have e3:IntKind.i64.wrap ((i:Int)+1)=((i+1:Nat):Int):=wi;have e4:(0<=(i:Int))=True:=tt;have e5:((i:Int)< ((V.length+1:Nat):Int))=True:=tt;have c1:IntKind.u64.wrap (y:Int)=y:=iG rfl ω;have c2:IntKind.u64.wrap ((q:Int)*(y:Int))=((q*y:Nat):Int):=iG σ ω;have c3:IntKind.u64.wrap (((q*y:Nat):Int)+(c:Int))=((q*y+c:Nat):Int):=iG σ ω;have c4:=Bz (n:=q*y+c) (k:=32) (i:=((q*y+c:Nat):Int)) (kk:=.u64) (j:=32) rfl rfl ω;rw[show(2:Nat)^32=4294967296 from rfl]at c4;have c5:IntKind.u64.wrap (u:Int)=u:=iG rfl ω;have c6:=acn (n:=q*y+c) (i:=((q*y+c:Nat):Int)) rfl ω;have hs:=av3 (q*y+c) (by decide:0<4294967296);have hc2:(q*y+c)/4294967296<4294967296:=by
   omega
  have c7:=Vu (b:=b) hub hs ω;obtain⟨k1,_⟩:=PQ (b:=b) hub hs hb;have ih':=ih us (P++[(u+18446744073709551616- (q*y+c) %4294967296-b) %18446744073709551616%4294967296]) (i+1) ((q*y+c)/4294967296) ((u+18446744073709551616- (q*y+c) %4294967296-b) %18446744073709551616/9223372036854775808) γ hy.2 γ γ (fun x hx=>hu x (by simp[hx])) hc2 k1;unfold sP;generalize(u+18446744073709551616- (q*y+c) %4294967296-b) %18446744073709551616=x at*
  have c8:IntKind.u32.wrap (x:Int)=((x%4294967296:Nat):Int):=Ha rfl;have c9:=Bz (n:=x) (k:=63) (i:=(x:Int)) (kk:=.u64) (j:=63) rfl rfl ω;rw[show(2:Nat)^63=9223372036854775808 from rfl]at c9;have e7:(aG (P++(u::us++Z)))[lo+i]?=some [U (u:Nat)]:=by
   rw[kv (by simp[hP]),List.getD_eq_getElem?_getD,List.getElem?_append_right ω,hP,Nat.sub_self];rfl
  have e8:(aG (P++(u::us++Z))).set (lo+i) [U ((x%4294967296:Nat):Int)]=aG (P++[x%4294967296]++(us++Z)):=by
   rw[n7,←hP,List.set_append_right _ _ (avt _),Nat.sub_self,awe];rfl
  simp only[awe,avS,avB]at ih' e7 e8 k⊢;rw[ag];generalize av _ _ _=L at ih'⊢;simp only[lU,go_sem,g0,g1,g2,g7,g8,g14,g15,g16,k,e1,e2,e3,e4,e5,e7,e8,c1,c2,c3,c4,c5,c6,c7,c8,c9,avy];exact ih' _ _ rfl rfl rfl rfl rfl rfl rfl rfl rfl
theorem akq{V Z us P:List Nat}{q lo:Nat}(hV:Lb V)(hq:q<4294967296)(hn:V.length<=100000)(hlo:lo<=100000)(hl:us.length=V.length)(hP:P.length=lo)(hu:Lb us)(s:ak)(h:ac)(X:Option (Ex×St))(hX:ah 0 [0,1,7,8] (av (ai R (ax false) lU) [0,1,2,7,8,14,15,16] [1000] s h)=X)
  (g0:s 0=.rsl 1000 none 1 lo (V.length+1)) (g1:s 1=lm V) (g2:s 2=W q) (g7:s 7=W 0) (g8:s 8=W 0) (g14:s 14=lm V) (g15:s 15=I V.length) (g16:s 16=I 0) (k:h 1000=.ar 1 (aG (P++(us++Z)))):
  ∃hh,X=some (.normal,⟨upd (upd (upd (upd (fun _=>.any) 8 (W ((sP q us V 0 0).2.2:Nat))) 7 (W ((sP q us V 0 0).2.1:Nat))) 1 (lm V)) 0 (.rsl 1000 none 1 lo (V.length+1)),hh⟩)/\hh 1000=.ar 1 (aG (P++((sP q us V 0 0).1++Z))):=by
 subst hX
 simp_all[acK]
attribute [-go_sem] FO in
theorem ahR{V us P Q:List Nat}{q lo top:Nat}(hV:Lb V)(hq:q<4294967296)(hn:V.length<=100000)(hlo:lo<=100000)(hl:us.length=V.length)(hP:P.length=lo)(hu:Lb us)(ht:top<4294967296):
  R F.natural_take [.rsl 1000 none 1 lo (V.length+1),lm V,W q] [.ar 1 (aG (P++(us++top::Q)))]=some (B (nv q top us V).2.2,[.ar 1 (aG (P++((nv q top us V).1++(nv q top us V).2.1::Q)))]):=by
 refine rR Pf Pe (CK false) rfl ?_;have hx:=akq (Z:=top::Q) hV hq hn hlo hl hP hu;obtain⟨t1,t2,t3,t4,t5⟩:=Vr hq hu hV hl (c:=0) (b:=0) δ δ;unfold nv;have e4:(0<=(V.length:Int))=True:=tt;have e5:((V.length:Int)< ((V.length+1:Nat):Int))=True:=tt;simp only[zE,F5,go_sem];generalize hX:ah 0 _ _=X;obtain⟨hh,rfl,q1⟩:=hx _ _ _ hX rfl rfl rfl rfl rfl rfl rfl rfl rfl;generalize sP q us V 0 0=r at*
 obtain⟨r1,c,b⟩:=r;simp only at t2 t3 t4 t5 q1⊢;have c5:IntKind.u64.wrap (top:Int)=top:=iG rfl ω;have c7:=Vu (u:=top) (s:=c) (b:=b) ht t2 ω;generalize(top+18446744073709551616-c-b) %18446744073709551616=x at*
 have c8:IntKind.u32.wrap (x:Int)=((x%4294967296:Nat):Int):=Ha rfl;have c9:=Bz (n:=x) (k:=63) (i:=(x:Int)) (kk:=.u64) (j:=63) rfl rfl ω;have e7:(aG (P++(r1++top::Q)))[lo+V.length]?=some [U (top:Nat)]:=by
  simp_all[kv,Nat.add_sub_cancel_left,Nat.sub_self]
 have e8:(aG (P++(r1++top::Q))).set (lo+V.length) [U ((x%4294967296:Nat):Int)]=aG (P++(r1++x%4294967296::Q)):=by
  rw[n7,List.set_append_right _ _ ω,List.set_append_right _ _ ω,hP,t5,Nat.add_sub_cancel_left,Nat.sub_self];rfl
 have e9:(((x/9223372036854775808:Nat):Int)=1)=(x/9223372036854775808=1):=by
  grind
 simp only[go_sem,q1,e4,e5,e7,e8,c5,c7,c8,c9,e9,avy];rfl
theorem acL{V us P Q:List Nat}{q lo top:Nat}(hV:Lb V)(hq:q<4294967296)(hn:V.length<=100000)(hlo:lo<=100000)(hl:us.length=V.length)(hP:P.length=lo)(hu:Lb us)(ht:top<4294967296){h:ac}{d id:Nat}(hh:h id=.ar 1 (aG (P++(us++top::Q))))(hd:h (2000+8*d)=.dead):
  bv R (ax false) h d [.rsl id none 1 lo (V.length+1),lm V,W q] (.fn F.natural_take [] [])=some (B (nv q top us V).2.2,upd h id (.ar 1 (aG (P++((nv q top us V).1++(nv q top us V).2.1::Q)))),[(id,true)]):=by
 have hm:=Pg false;have hs:=NI false;have hk:=CK false;have hf:=ahR (Q:=Q) hV hq hn hlo hl hP hu ht;have hb':jn (ax false) [.rsl id none 1 lo (V.length+1),lm V,W q] (.fn F.natural_take [] [])=false:=by
  grind[jn]
 have h1:bO h [1,0,0] [.rsl id none 1 lo (V.length+1),.sl 1 (aG V),W q]=some ([.rsl id none 1 lo (V.length+1),.sl 1 (aG V),W q],h,[]):=by
  simp[bO,dE,vT,fQ,aD]
 have hr:bX h 40 [id] 0=[id]:=by
  grind[bX,nM,bu]
 have hp:bu [] ([AV.rsl id none 1 lo (V.length+1),.sl 1 (aG V),W q].flatMap bZ)=[id]:=by
  simp[bZ,fC,bu]
 have h3:aW [id] id=1000:=by simp[aW]
 have hnr:cu (B (nv q top us V).2.2)=1:=rfl;have hnm:bm [[.o 2 []],[.o 2 []],[]] [.rsl id none 1 lo (V.length+1),.sl 1 (aG V),W q]=[.rsl id none 1 lo (V.length+1),.sl 1 (aG V),W q]:=by
  simp only[go_sem];rfl
 unfold bv;rw[if_neg γ];simp only[lm]at hf⊢;simp only[dH,hm,avB,avE,h1,avw,hp,hr,hs,hnm];simp[jd,aX,bo,hh,az,bL,dB,jk,h3,dG,hf,dX,hnr,bY,hd,cO,bf,kG,yw,re,fC,jl,fE,Eu,dS,mat,dO,fG,hk,Fd,hm]
theorem afj{V us P Z Qr:List Nat}{sh n j g:Int}{UL QL J:Nat}(hV:Lb V)(hu:Lb us)(hl:us.length=V.length)(hn:V.length<=100000)(hP:P.length=J)(hj:j=J)(hJ:J<=100000)(hUL:J+V.length<=UL):
  ∀ (k i:Nat),i+k=V.length->∀ (s:ak) (h:ac),s 8=I sh->s 9=.rsl 2408 none 1 0 UL->s 10=lm V->s 11=I n->s 12=.rsl 70 none 1 0 QL->s 13=I j->s 14=W g->s 15=U (iW us V i:Nat)->s 123=lm V->s 124=I V.length->s 125=I i->h 63=.dead->h 70=.ar 1 (aG Qr)->h 2408=.ar 1 (aG (P++(eX us V i++(us.drop i++Z))))->
  ∃hh,ah 4 [8,9,10,11,12,13,14,15] (av (ai R (ax false) iu) [8,9,10,11,12,13,14,15,123,124,125] [63,70,2408] s h)=some (.normal,⟨upd (upd (upd (upd (upd (upd (upd (upd (fun _=>.any) 15 (U (iW us V V.length:Nat))) 14 (W g)) 13 (I j)) 12 (.rsl 70 none 1 0 QL)) 11 (I n)) 10 (lm V)) 9 (.rsl 2408 none 1 0 UL)) 8 (I sh),hh⟩)/\hh 70=.ar 1 (aG Qr)/\hh 2408=.ar 1 (aG (P++(eX us V V.length++Z)))/\(∀a,a≠70->a≠2408->hh a=.dead):=by
 subst hj;intro k;induction k with
 |zero=>
  intro i hi s h g8 g9 g10 g11 g12 g13 g14 g15 g123 g124 g125 k63 k70 k2408;have hi':i=V.length:=ω
  subst hi';rw[List.drop_of_length_le ω,avB]at k2408;rw[ag];refine⟨?hh0,?_,?_,?_,?_⟩;rotate_left
  ·simp only[iu,go_sem,g8,g9,g10,g11,g12,g13,g14,g15,g123,g124,g125,k63,k70,k2408,awf];rfl
  all_goals simp_all[cU,if_false,ite_self]
 |succ k ih=>
  intro i hi s h g8 g9 g10 g11 g12 g13 g14 g15 g123 g124 g125 k63 k70 k2408;have hlt:i<V.length:=ω
  have hd:us.drop i=us.getD i 0::us.drop (i+1):=by
   simp_all
  have hsl:=pz us V i;rw[hd,avS]at k2408;have e1:((i:Int)< (V.length:Int))=True:=tt;have e2:bp (aG V) (i:Int)=some (.ipt [U (V.getD i 0:Nat)]):=cQ rfl ω;have e3:IntKind.i64.wrap ((i:Int)+1)=((i+1:Nat):Int):=wi;have e4:IntKind.i64.wrap ((J:Int)+(i:Int))=((J+i:Nat):Int):=wi;have e5:(0<=((J+i:Nat):Int))=True:=tt;have e6:(((J+i:Nat):Int)< (UL:Int))=True:=tt;have e9:=L5 (cY hu i) (cY hV i) (I6 hu hV i);have e7:(aG (P++(eX us V i++(us.getD i 0::(us.drop (i+1)++Z)))))[J+i]?=some [U (us.getD i 0:Nat)]:=by
   simp_all[kv,Nat.add_sub_cancel_left,Nat.sub_self]
  have e8:(aG (P++(eX us V i++(us.getD i 0::(us.drop (i+1)++Z))))).set (J+i) [U (((us.getD i 0+V.getD i 0+iW us V i) %4294967296:Nat):Int)]=aG (P++(eX us V (i+1)++(us.drop (i+1)++Z))):=by
   rw[n7,List.set_append_right _ _ ω,List.set_append_right _ _ ω,hP,hsl,Nat.add_sub_cancel_left,Nat.sub_self];simp[eX,List.range_succ,Pn]
  have ih':=ih (i+1) ω;have hc:iW us V (i+1)=(us.getD i 0+V.getD i 0+iW us V i)/4294967296:=rfl;rw[ag];simp only[iu,go_sem,g8,g9,g10,g11,g12,g13,g14,g15,g123,g124,g125,k63,k70,k2408,e1,e2,e3,e4,e5,e6,e7,e8,e9,avy,avs];exact ih' _ _ rfl rfl rfl rfl rfl rfl rfl rfl rfl rfl rfl rfl rfl rfl
theorem akr{U V:List Nat}{j k:Nat}(hU:Lb U)(hV:Lb V)(hvl:V.length=k+2)(h:ab (U.drop (j+1))<ab V):U.getD (j+(k+2)) 0<=V.getD (k+1) 0:=by
 have h1:ab V=ab (V.take (k+1))+4294967296^ (k+1)*V.getD (k+1) 0:=by
  rw[←gu,avL ω]
 have h2:=eu (gI hV (k+1));rw[avF,awm ω]at h2;have h3:4294967296^ (k+1)*U.getD (j+(k+2)) 0<=ab (U.drop (j+1)):=by
  by_cases hl:j+1+(k+1)<=U.length
  ·have h4:=E3 (U.drop (j+1)) (k+1) (by rw[aws];omega);rw[List.drop_drop]at h4;have h5:=gB U (j+1+(k+1));rw[show j+1+(k+1)=j+(k+2)by omega]at h4 h5;rw[h4,h5,Nat.mul_add];omega
  grind
 refine Nat.le_of_not_lt fun hc=>?_;have h6:4294967296^ (k+1)*(V.getD (k+1) 0+1)<=4294967296^ (k+1)*U.getD (j+(k+2)) 0:=awq _ hc;rw[Nat.mul_add,Nat.mul_one]at h6;omega
theorem acM{U:List Nat}{j n:Nat}(h:j+n<U.length):U=U.take j++((U.drop j).take n++U.getD (j+n) 0::U.drop (j+n+1)):=by
 grind[avI,List.drop_drop,List.take_append_drop]
theorem X7{U:List Nat}{j n i:Nat}(hi:i<n):((U.drop j).take n).getD i 0=U.getD (j+i) 0:=by
 rw[List.getD_eq_getElem?_getD,List.getD_eq_getElem?_getD,List.getElem?_take,if_pos hi,List.getElem?_drop]
theorem am3{V us P Z Qr:List Nat}{sh n j g:Int}{UL QL J:Nat}(hV:Lb V)(hu:Lb us)(hl:us.length=V.length)(hn:V.length<=100000)(hP:P.length=J)(hj:j=J)(hJ:J<=100000)(hUL:J+V.length<=UL)(s:ak)(h:ac)(X:Option (Ex×St))(hX:ah 4 [8,9,10,11,12,13,14,15] (av (ai R (ax false) iu) [8,9,10,11,12,13,14,15,123,124,125] [63,70,2408] s h)=X)
  (g8:s 8=I sh) (g9:s 9=.rsl 2408 none 1 0 UL) (g10:s 10=lm V) (g11:s 11=I n) (g12:s 12=.rsl 70 none 1 0 QL) (g13:s 13=I j) (g14:s 14=W g) (g15:s 15=U 0) (g123:s 123=lm V) (g124:s 124=I V.length) (g125:s 125=I 0) (k63:h 63=.dead) (k70:h 70=.ar 1 (aG Qr)) (k2408:h 2408=.ar 1 (aG (P++(us++Z)))):
  ∃hh,X=some (.normal,⟨upd (upd (upd (upd (upd (upd (upd (upd (fun _=>.any) 15 (U (iW us V V.length:Nat))) 14 (W g)) 13 (I j)) 12 (.rsl 70 none 1 0 QL)) 11 (I n)) 10 (lm V)) 9 (.rsl 2408 none 1 0 UL)) 8 (I sh),hh⟩)/\hh 70=.ar 1 (aG Qr)/\hh 2408=.ar 1 (aG (P++(eX us V V.length++Z)))/\(∀a,a≠70->a≠2408->hh a=.dead):=by
 subst hX;exact afj hV hu hl hn hP hj hJ hUL V.length 0 (avs _) s h g8 g9 g10 g11 g12 g13 g14 g15 g123 g124 g125 k63 k70 k2408
theorem aks{q top:Nat}{us vs:List Nat}(hq:q<4294967296)(ht:top<4294967296)(hu:Lb us)(hv:Lb vs)(hl:us.length=vs.length)(hf:(nv q top us vs).2.2=true):1<=q:=by
 obtain⟨t1,t2,t3,t4⟩:=PR hq ht hu hv hl;rw[if_pos hf]at t1;refine Nat.pos_of_ne_zero fun h0=>?_;rw[h0,Nat.zero_mul,av1]at t1;have h1:=eu t3;rw[h0]at t2 h1 t4;rw[t4]at h1;have h2:4294967296^vs.length*((nv 0 top us vs).2.1+1)<=4294967296^vs.length*4294967296:=awq _ ω;rw[Nat.mul_add,Nat.mul_one]at h2;omega
theorem acN{A r:List Nat}{j k t:Nat}(h:r.length=k+2):A.take j++(r++t::A.drop (j+(k+2)+1))=nQ A j r t:=by
 grind[nQ]
theorem afk{V:List Nat}{k:Nat}{sh:Int}{UL QL:Nat}(hV:Lb V)(hvl:V.length=k+2)(hn2:2147483648<=V.getD (k+1) 0)(hn:V.length<=100000)(hUL:UL<=100000):
  ∀ (m:Nat) (A Dn:List Nat),Lb A->A.length=UL->m+(k+2)<=UL->m+Dn.length=QL->ab (A.drop m)<ab V->∀ (s:ak) (h:ac),s 8=I sh->s 9=.rsl 2408 none 1 0 UL->s 10=lm V->s 11=I (k+2:Nat)->s 12=.rsl 70 none 1 0 QL->s 13=I ((m:Int)-1)->h 63=.dead->h 70=.ar 1 (aG (avr m 0++Dn))->h 2408=.ar 1 (aG A)->
  ∃hh,ah 2 [8,9,11,12] (av (ai R (ax false) j8) [8,9,10,11,12,13] [63,70,2408] s h)=some (.normal,⟨upd (upd (upd (upd (fun _=>.any) 12 (.rsl 70 none 1 0 QL)) 11 (I (k+2:Nat))) 9 (.rsl 2408 none 1 0 UL)) 8 (I sh),hh⟩)/\hh 70=.ar 1 (aG ((yk V m A).2++Dn))/\hh 2408=.ar 1 (aG (yk V m A).1)/\(∀a,a≠70->a≠2408->hh a=.dead):=by
 intro m;induction m with
 |zero=>
  intro A Dn hA hl hm hq hlt s h g8 g9 g10 g11 g12 g13 k63 k70 k2408;have e1:(0<=(((0:Nat):Int)-1))=False:=ff;rw[ag];refine⟨?hh0,?_,?_,?_,?_⟩;rotate_left
  ·simp only[j8,go_sem,g8,g9,g10,g11,g12,g13,k63,k70,k2408,e1];rfl
  ·rfl
  ·rfl
  simp_all[cU,if_false,ite_self]
 |succ j ih=>
  intro A Dn hA hl hm hq hlt s h g8 g9 g10 g11 g12 g13 k63 k70 k2408;have e0:(((j+1:Nat):Int)-1)=(j:Int):=ω
  rw[e0]at g13;have e1:(0<=(j:Int))=True:=tt;have w1:IntKind.i64.wrap ((j:Int)+((k+2:Nat):Int))=((j+(k+2):Nat):Int):=wi σ ω;have w2:IntKind.i64.wrap (((j+(k+2):Nat):Int)-1)=((j+(k+1):Nat):Int):=wi;have w3:IntKind.i64.wrap (((j+(k+2):Nat):Int)-2)=((j+k:Nat):Int):=wi;have w4:IntKind.i64.wrap (((k+2:Nat):Int)-1)=((k+1:Nat):Int):=wi;have w5:IntKind.i64.wrap (((k+2:Nat):Int)-2)=((k:Nat):Int):=wi;have w6:IntKind.i64.wrap (((j+(k+2):Nat):Int)+1)=((j+(k+2)+1:Nat):Int):=wi;have w7:IntKind.i64.wrap ((j:Int)-1)=(j:Int)-1:=i64_in _ ⟨by omega,by omega⟩;have r1:bp (aG V) ((k+1:Nat):Int)=some (.ipt [U (V.getD (k+1) 0:Nat)]):=cQ rfl ω;have r2:bp (aG V) ((k:Nat):Int)=some (.ipt [U (V.getD k 0:Nat)]):=cQ rfl ω;have b1:(0<=((j+(k+2):Nat):Int))=True:=tt;have b2:(0<=((j+(k+1):Nat):Int))=True:=tt;have b3:(0<=((j+k:Nat):Int))=True:=tt;have b4:(((j+(k+2):Nat):Int)< (UL:Int))=True:=tt;have b5:(((j+(k+1):Nat):Int)< (UL:Int))=True:=tt;have b6:(((j+k:Nat):Int)< (UL:Int))=True:=tt;have l1:(aG A)[j+(k+2)]?=some [U (A.getD (j+(k+2)) 0:Nat)]:=kv ω;have l2:(aG A)[j+(k+1)]?=some [U (A.getD (j+(k+1)) 0:Nat)]:=kv ω;have l3:(aG A)[j+k]?=some [U (A.getD (j+k) 0:Nat)]:=kv ω;have htop:=akr hA hV hvl hlt;have hg:=aff (top:=A.getD (j+(k+2)) 0) (next:=A.getD (j+(k+1)) 0) (third:=A.getD (j+k) 0) (v:=V.getD (k+1) 0) (w:=V.getD k 0) hn2 (cY hV _) htop (cY hA _) (cY hA _) (cY hV _);have hT:Ae (A.getD (j+(k+2)) 0) ((A.drop j).take (k+2))=(A.getD (j+(k+2)) 0*4294967296+A.getD (j+(k+1)) 0)*4294967296+A.getD (j+k) 0:=by
   unfold Ae;have h1:((A.drop j).take (k+2)).length=k+2:=γ
   rw[h1,show k+2-1=k+1 by omega,show k+2-2=k by omega,X7 ω,X7 ω]
  have hW:yj V=V.getD (k+1) 0*4294967296+V.getD k 0:=by
   grind[yj]
  rw[←hT,←hW]at hg;have hgb:vY (Ae (A.getD (j+(k+2)) 0) ((A.drop j).take (k+2))) (yj V)<4294967296:=by
   grind[vY,Ae,yj,Nat.min_le_left]
  obtain⟨G,hG⟩:∃G,vY (Ae (A.getD (j+(k+2)) 0) ((A.drop j).take (k+2))) (yj V)=G:=⟨_,rfl⟩;rw[hG]at hg hgb;have hsp:=acM (U:=A) (j:=j) (n:=k+2) ω;have hwl:((A.drop j).take (k+2)).length=V.length:=γ
  have hpl:(A.take j).length=j:=γ
  have htk:=fun(h:ac) (d:Nat) (hh:h 2408=.ar 1 (aG A)) (hd:h (2000+8*d)=.dead)=>acL (V:=V) (us:=(A.drop j).take (k+2)) (P:=A.take j) (Q:=A.drop (j+(k+2)+1)) (q:=G) (lo:=j) (top:=A.getD (j+(k+2)) 0) hV hgb hn ω hwl hpl (gI (nZ hA j) _) (cY hA _) (h:=h) (d:=d) (id:=2408) γ hd;rw[hvl]at htk;have sl:eS 1 (.rsl 2408 none 1 0 UL) (some (I (j:Int))) (some (I ((j+(k+2)+1:Nat):Int))) none=some (.rsl 2408 none 1 j (k+2+1)):=by
   have h1:jY UL UL (some (I ((j+(k+2)+1:Nat):Int)))=some (j+(k+2)+1):=AM rfl ω;have h2:jY 0 (j+(k+2)+1) (some (I (j:Int)))=some j:=AM rfl ω;have h3:j+(k+2)+1-j=k+2+1:=ω
   simp only[eS,kf,h1,h2,avw,av9,avs,h3,if_true,Option.isNone_none]
  rw[ag];generalize av _ _ _=L at ih⊢;simp only[j8,go_sem,g8,g9,g10,g11,g12,g13,k63,k70,k2408,e1,w1,w2,w3,w4,w5,w6,r1,r2,b1,b2,b3,b4,b5,b6,l1,l2,l3,hg,sl,avy,avs];rw[htk _ _ rfl rfl];have hpos:=aks (q:=G) (top:=A.getD (j+(k+2)) 0) (us:=(A.drop j).take (k+2)) (vs:=V) hgb (cY hA _) (gI (nZ hA j) _) hV hwl;obtain⟨q1,q2,q3,q4⟩:=PR (q:=G) (top:=A.getD (j+(k+2)) 0) (us:=(A.drop j).take (k+2)) (vs:=V) hgb (cY hA _) (gI (nZ hA j) _) hV hwl;have hVb:ab V<4294967296^ (k+2):=by grind[eu]
  obtain⟨x1,x2,x3⟩:=X5 (n:=k+2) hA ω hVb hlt;have hs:=acH (top:=A.getD (j+(k+2)) 0) (cY hA _) (gI (nZ hA j) (k+2)) hV (by rw[hwl,hvl]) hvl hn2 ω;have hdv:yk V (j+1) A=((yk V j (nQ A j (wT (A.getD (j+(k+2)) 0) ((A.drop j).take (k+2)) V).1 (wT (A.getD (j+(k+2)) 0) ((A.drop j).take (k+2)) V).2.1)).1,(yk V j (nQ A j (wT (A.getD (j+(k+2)) 0) ((A.drop j).take (k+2)) V).1 (wT (A.getD (j+(k+2)) 0) ((A.drop j).take (k+2)) V).2.1)).2++[(wT (A.getD (j+(k+2)) 0) ((A.drop j).take (k+2)) V).2.2]):=by
   rw[←hvl];rfl
  rw[x1]at hs;rw[hdv];have hds:wT (A.getD (j+(k+2)) 0) ((A.drop j).take (k+2)) V=if(nv G (A.getD (j+(k+2)) 0) ((A.drop j).take (k+2)) V).2.2=true then(eX (nv G (A.getD (j+(k+2)) 0) ((A.drop j).take (k+2)) V).1 V V.length,((nv G (A.getD (j+(k+2)) 0) ((A.drop j).take (k+2)) V).2.1+iW (nv G (A.getD (j+(k+2)) 0) ((A.drop j).take (k+2)) V).1 V V.length) %4294967296,G-1)else((nv G (A.getD (j+(k+2)) 0) ((A.drop j).take (k+2)) V).1,(nv G (A.getD (j+(k+2)) 0) ((A.drop j).take (k+2)) V).2.1,G):=by
   unfold wT;rw[hG]
  generalize nv G (A.getD (j+(k+2)) 0) ((A.drop j).take (k+2)) V=r at*
  obtain⟨ra,rt,rf⟩:=r;generalize wT (A.getD (j+(k+2)) 0) ((A.drop j).take (k+2)) V=sd at*
  have wg:IntKind.u32.wrap (G:Int)=G:=QQ rfl hgb;have o1:(aG (avr (j+1) 0++Dn))[j]?=some [U (0:Nat)]:=by
   rw[kv (by simp;omega),List.getD_eq_getElem?_getD,List.getElem?_append_left σ,List.getElem?_replicate,if_pos ω];rfl
  have o2:∀z:Nat,(aG (avr (j+1) 0++Dn)).set j [U (z:Int)]=aG (avr j 0++z::Dn):=fun z=>by
   rw[n7];congr 1;rw[List.replicate_succ',awe,List.set_append_right _ _ σ];simp
  have o3:((j:Int)< (QL:Int))=True:=tt;cases rf with
  |false=>
   simp only[awo,if_false]at hds;subst hds;simp only at hs⊢;obtain⟨d1,d2,d3,d4,d5⟩:=hs;rw[acN d4];have ih':=ih (nQ A j ra rt) (G::Dn) (PS hA d3 d5) (by rw[Eh ω];exact hl) ω (by simp;omega) (by
    rw[Js ω,eP,d4,w2' x2,d1];exact av3 _ ω)
   simp only[go_sem,w7,wg,o1,o2,o3,e1,avy,avs];rw[awe];exact ih' _ _ rfl rfl rfl rfl rfl rfl rfl rfl rfl
  |true=>
   simp only[if_true]at hds;subst hds;simp only at hs q2 q3 q4⊢;obtain⟨d1,d2,d3,d4,d5⟩:=hs;have hG1:1<=G:=hpos rfl;have wq:IntKind.u64.wrap ((G:Int)-1)=((G-1:Nat):Int):=iG ω ω;have wg1:IntKind.u32.wrap ((G-1:Nat):Int)=((G-1:Nat):Int):=QQ rfl ω;have hx:=am3 (V:=V) (us:=ra) (P:=A.take j) (Z:=rt::A.drop (j+(k+2)+1)) (Qr:=avr (j+1) 0++Dn) (sh:=sh) (n:=(k+2:Nat)) (j:=(j:Int)) (g:=((G-1:Nat):Int)) (UL:=UL) (QL:=QL) (J:=j) hV q3 q4 hn hpl rfl ω ω;simp only[go_sem,wq];generalize hX:ah 4 _ _=X;obtain⟨hh,rfl,y70,y2408,yd⟩:=hx _ _ _ hX rfl rfl rfl rfl rfl rfl rfl rfl rfl rfl rfl rfl rfl rfl;have y63:hh 63=.dead:=yd _ δ δ;have hsl:(eX ra V V.length).length=k+2:=by rw[pz,hvl]
   have wc:IntKind.u32.wrap ((rt:Int)+(iW ra V V.length:Int))=(((rt+iW ra V V.length) %4294967296:Nat):Int):=Ha σ;have z1:(aG (A.take j++(eX ra V V.length++rt::A.drop (j+(k+2)+1))))[j+(k+2)]?=some [U (rt:Nat)]:=by
    rw[kv (by simp[hpl,hsl]),List.getD_eq_getElem?_getD,List.getElem?_append_right ω,List.getElem?_append_right ω,hpl,hsl,Nat.add_sub_cancel_left,Nat.sub_self];rfl
   have z2:(aG (A.take j++(eX ra V V.length++rt::A.drop (j+(k+2)+1)))).set (j+(k+2)) [U (((rt+iW ra V V.length) %4294967296:Nat):Int)]=aG (nQ A j (eX ra V V.length) ((rt+iW ra V V.length) %4294967296)):=by
    rw[n7,List.set_append_right _ _ ω,List.set_append_right _ _ ω,hpl,hsl,Nat.add_sub_cancel_left,Nat.sub_self,←acN hsl];rfl
   have ih':=ih (nQ A j (eX ra V V.length) ((rt+iW ra V V.length) %4294967296)) ((G-1)::Dn) (PS hA d3 d5) (by rw[Eh ω];exact hl) ω (by simp;omega) (by
    rw[Js ω,eP,hsl,w2' x2,d1];exact av3 _ ω)
   generalize nQ A j (eX ra V V.length) ((rt+iW ra V V.length) %4294967296)=A2 at*
   generalize(rt+iW ra V V.length) %4294967296=rc at*
   simp only[go_sem,w1,w7,wg1,wc,z1,z2,o1,o2,o3,e1,b1,b4,y63,y70,y2408,avy,avs];rw[awe];exact ih' _ _ rfl rfl rfl rfl rfl rfl y63 rfl rfl
theorem ahS{x:Nat}(hx:x<4294967296):R F.bits_LeadingZeros32 [U x] []=some (I ((32-ae x:Nat):Int),[]):=by
 refine aB F9 rfl ?_;have hb:ae x<=32:=bV.2 hx;have hl:=UP hx;have w1:IntKind.i64.wrap (32- (ae x:Int))=((32-ae x:Nat):Int):=wi;simp only[py,xZ,go_sem,hl,w1]
theorem am4{V A:List Nat}{k:Nat}{sh:Int}{UL m:Nat}(hV:Lb V)(hvl:V.length=k+2)(hn2:2147483648<=V.getD (k+1) 0)(hn:V.length<=100000)(hUL:UL<=100000)(hA:Lb A)(hl:A.length=UL)(hm:m+(k+2)<=UL)(hlt:ab (A.drop m)<ab V)(s:ak)(h:ac)(X:Option (Ex×St))(hX:ah 2 [8,9,11,12] (av (ai R (ax false) j8) [8,9,10,11,12,13] [63,70,2408] s h)=X)
  (g8:s 8=I sh) (g9:s 9=.rsl 2408 none 1 0 UL) (g10:s 10=lm V) (g11:s 11=I (k+2:Nat)) (g12:s 12=.rsl 70 none 1 0 m) (g13:s 13=I ((m:Int)-1)) (k63:h 63=.dead) (k70:h 70=.ar 1 (aG (avr m 0))) (k2408:h 2408=.ar 1 (aG A)):
  ∃hh,X=some (.normal,⟨upd (upd (upd (upd (fun _=>.any) 12 (.rsl 70 none 1 0 m)) 11 (I (k+2:Nat))) 9 (.rsl 2408 none 1 0 UL)) 8 (I sh),hh⟩)/\hh 70=.ar 1 (aG (yk V m A).2)/\hh 2408=.ar 1 (aG (yk V m A).1)/\(∀a,a≠70->a≠2408->hh a=.dead):=by
 subst hX;have:=afk (sh:=sh) (QL:=m) hV hvl hn2 hn hUL m A [] hA hl hm σ hlt s h g8 g9 g10 g11 g12 g13 k63 (by rw[avE];exact k70) k2408;rw[avE]at this;exact this
theorem afl{b:List Nat}{k:Nat}(hb:Lb b)(hl:b.length=k+2)(ht:b.getD (k+1) 0≠0):2147483648*4294967296^ (k+1)<=ab b*2^ (32-ae (b.getD (k+1) 0))/\ab b*2^ (32-ae (b.getD (k+1) 0))<4294967296^ (k+2):=by
 have h1:ab b=ab (b.take (k+1))+4294967296^ (k+1)*b.getD (k+1) 0:=by
  rw[←gu,avL ω]
 have h2:=eu (gI hb (k+1));rw[avF,awm ω]at h2;have h3:=cY hb (k+1);generalize b.getD (k+1) 0=x at*
 have h4:ae x<=32:=bV.2 h3;have h5:0<ae x:=gZ ht;have h6:=dW (n:=x) (32-ae x) ht;have h7:2147483648<=x*2^ (32-ae x):=by
  refine Nat.le_of_not_lt fun hc=>?_;have:=bV.2 (show x*2^ (32-ae x)<2^31 from hc);omega
 have h8:(x+1)*2^ (32-ae x)<=4294967296:=by
  have h9:x<2^ae x:=bV.1 (avt _);have h10:(x+1)*2^ (32-ae x)<=2^ae x*2^ (32-ae x):=avA _ h9;rw[←avG,show ae x+(32-ae x)=32 by omega]at h10;exact h10
 rw[h1];have e:4294967296^ (k+2)=4294967296^ (k+1)*4294967296:=awb ..;rw[e];generalize 4294967296^ (k+1)=B at*
 generalize 2^ (32-ae x)=S at*
 have h11:B*2147483648<=B*(x*S):=awq _ h7;have h12:B*((x+1)*S)<=B*4294967296:=awq _ h8;have h13:(ab (b.take (k+1))+B*x)*S=ab (b.take (k+1))*S+B*(x*S):=by rw[avP,avT]
 rw[h13];constructor
 ·omega
 ·have hS:0<S:=by
   rcases Nat.eq_zero_or_pos S with h0|h0
   ·rw[h0]at h7;omega
   ·exact h0
  have h14:ab (b.take (k+1))*S<B*S:=Nat.mul_lt_mul_of_pos_right h2 hS;rw[avP,Nat.one_mul,Nat.mul_add]at h12;omega
theorem WN{a b:List Nat}(ha:Lb a)(hb:Lb b)(h1:a.length<=50000)(h2:b.length<=50000)(hl:(au (ab b)).length=1)(hge:ab b<=ab a):R F.natural_divide [lm a,lm b] []=some (.tup [lm (fB (ab b) (au (ab a))).1,lm [ab a%ab b]],[]):=by
 refine aB DZ rfl ?_;have t1:=dD ha ω;have t2:=dD hb ω;have la:=ey a ha;have hc:=zL (bH (ab a)) (bH (ab b)) ω ω;rw[br,br]at hc;have e1:(dV (ab a) (ab b)<0)=False:=by
  unfold dV;grind
 obtain⟨y,hy⟩:=List.length_eq_one_iff.1 hl;have hv:ab b=y:=by
  grind[br,ab]
 have hyb:y<4294967296:=by
  have:=bH (ab b);rw[hy]at this;exact this y σ
 have hy0:0<y:=by
  grind[gX]
 have hs:=afi (bH (ab a)) hy0 hyb ω;obtain⟨s1,s2,s3⟩:=De hy0 (bH (ab a));rw[br]at s1;have s4:(fB y (au (ab a))).2=ab a%y:=by
  grind[avM,Nat.mul_add_mod,awh]
 rw[hv]at hge⊢;rw[s4]at hs;rw[hy]at t2 hc;have e2:bp (aG [y]) 0=some (.ipt [U (y:Nat)]):=cQ (n:=0) rfl σ;have e3:(([y]:List Nat).length:Int)=1:=rfl;have e4:((1:Nat):Int)=1:=rfl;simp only[pO,xE,go_sem,t1,t2,hc,e1,e2,e3,e4,hs,decide_true];rfl
theorem WO{a b:List Nat}{k:Nat}(ha:Lb a)(hb:Lb b)(h1:a.length<=50000)(h2:b.length<=50000)(hl:(au (ab b)).length=k+2)(hge:ab b<=ab a):∃Q Rr,R F.natural_divide [lm a,lm b] []=some (.tup [lm Q,lm Rr],[])/\Lb Q/\Lb Rr/\ab Q=ab a/ab b/\ab Rr=ab a%ab b/\Q.length<=100000/\Rr.length<=100000:=by
 have t1:=dD ha ω;have t2:=dD hb ω;have la:=ey a ha;have lb:=ey b hb;have hc:=zL (bH (ab a)) (bH (ab b)) ω ω;rw[br,br]at hc;have e1:(dV (ab a) (ab b)<0)=False:=by
  unfold dV;grind
 have hvd:=br (ab b);have hLd:=bH (ab b);have hb0:ab b≠0:=fun h=>by
  rw[sW.2 h]at hl;grind
 have ht:(au (ab b)).getD (k+1) 0≠0:=by
  intro h0;have q1:ab (au (ab b))=ab ((au (ab b)).take (k+1))+4294967296^ (k+1)*(au (ab b)).getD (k+1) 0:=by
   rw[←gu,avL ω]
  have q2:=eu (gI hLd (k+1));have q3:=QO hb0;rw[avF,awm ω]at q2;rw[hl,show k+2-1=k+1 from rfl]at q3;rw[h0,Nat.mul_zero,hvd]at q1;omega
 obtain⟨n1,n2⟩:=afl hLd hl ht;rw[hvd]at n1 n2;have hy:=cY hLd (k+1);have hyl:bp (aG (au (ab b))) ((k+1:Nat):Int)=some (.ipt [U ((au (ab b)).getD (k+1) 0:Nat)]):=cQ (n:=k+1) rfl ω;generalize(au (ab b)).getD (k+1) 0=y at*
 have hlz:=ahS hy;have hbl:ae y<=32:=bV.2 hy;have hbp:0<ae y:=gZ ht;generalize hs:32-ae y=s at*
 have hs32:s<32:=ω
 have s1:=NN (bH (ab a)) (n:=s) ω ω;have s2:=NN hLd (n:=s) ω ω;rw[br,show s/32=0 by omega,avs]at s1 s2;have hsp:(2:Nat)^s<=2147483648:=av8 (n:=2) (i:=s) (j:=31) δ ω;have hAl:=gA (ab a);have hBl:=gA (ab b);have hle:k+2<=(au (ab a)).length:=by
  rw[←hl];refine Nat.le_of_not_lt fun hc=>?_;have:=CX hc;omega
 have hA2:ab a*2^s<4294967296^ ((au (ab a)).length+1):=by
  rw[awb];exact Nat.mul_lt_mul_of_lt_of_le hAl ω δ
 have hB2:ab b*2^s<4294967296^ ((au (ab b)).length+1):=by
  rw[awb];exact Nat.mul_lt_mul_of_lt_of_le hBl ω δ
 have t3:=dD (m:=eB ((au (ab b)).length+1) (ab b*2^s)) (s6 _ _) (by rw[dx];omega);rw[rN,awh hB2]at t3;have hVv:=br (ab b*2^s);have hVb:=bH (ab b*2^s);have hVl:(au (ab b*2^s)).length=k+2:=by
  have q1:=jT n2;have q2:=gA (ab b*2^s);refine Nat.le_antisymm q1 (Nat.le_of_not_lt fun hc=>?_);have q3:4294967296^ (au (ab b*2^s)).length<=4294967296^ (k+1):=av8 δ ω;omega
 have hVt:2147483648<=(au (ab b*2^s)).getD (k+1) 0:=by
  have q1:ab (au (ab b*2^s))=ab ((au (ab b*2^s)).take (k+1))+4294967296^ (k+1)*(au (ab b*2^s)).getD (k+1) 0:=by
   rw[←gu,avL ω]
  have q2:=eu (gI hVb (k+1));rw[avF,awm ω]at q2;refine Nat.le_of_not_lt fun hc=>?_;have q3:4294967296^ (k+1)*((au (ab b*2^s)).getD (k+1) 0+1)<=4294967296^ (k+1)*2147483648:=awq _ hc;rw[Nat.mul_add,Nat.mul_one]at q3;omega
 generalize au (ab b*2^s)=V at*
 obtain⟨m,hm⟩:∃m,(au (ab a)).length=m+(k+1):=⟨_,(Nat.sub_add_cancel ω).symm⟩;have hUv:ab (eB ((au (ab a)).length+1) (ab a*2^s))=ab a*2^s:=by rw[rN,awh hA2]
 have hUb:=s6 ((au (ab a)).length+1) (ab a*2^s);have hUl:=dx ((au (ab a)).length+1) (ab a*2^s);have hlt:ab ((eB ((au (ab a)).length+1) (ab a*2^s)).drop m)<ab V:=by
  rw[Hb hUb,hUv,hVv];refine awn (Nat.div_lt_of_lt_mul ?_) n1;rw[avM 2147483648,←avT,←avG,←hm];exact Nat.mul_lt_mul_of_lt_of_le hAl hsp δ
 generalize eB ((au (ab a)).length+1) (ab a*2^s)=A at*
 obtain⟨d1,d2,d3,d4,d5,d6⟩:=acJ hVb hVl hVt m A hUb ω hlt;have hdx:=am4 (sh:=(s:Int)) hVb hVl hVt ω (UL:=A.length) ω hUb rfl (m:=m) ω hlt;generalize(yk V m A).1=rr at*
 generalize(yk V m A).2=qq at*
 have hrt:ab (rr.take (k+2))=ab rr:=by
  have q1:=eP (rr.take (k+2)) (rr.drop (k+2));rw[List.take_append_drop]at q1;have q2:=Hb d5 (k+2);rw[Nat.div_eq_of_lt (Nat.lt_trans d2 (by rw[hVv];exact n2))]at q2;rw[q2]at q1;omega
 have s3:=ab1 (gI d5 (k+2)) (n:=s) (by rw[avF];omega) ω;rw[hrt,show s/32=0 by omega,Nat.sub_zero]at s3;have hrr:ab rr/2^s=ab a%ab b/\ab qq=ab a/ab b:=by
  rw[hUv,hVv]at d1;rw[hVv]at d2;have q0:0<2^s:=avJ s;have q1:ab rr%2^s=0:=by
   have:ab a*2^s%2^s=0:=Nat.mul_mod_left ..;rw[d1,avT,avM (ab b),avT,Nat.add_mul_mod_self_left]at this;exact this
  obtain⟨r,hr⟩:=Nat.dvd_of_mod_eq_zero q1;rw[hr,Nat.mul_div_cancel_left _ q0];rw[hr]at d1 d2;have q2:ab a=r+ab b*ab qq:=by
   refine Nat.eq_of_mul_eq_mul_right q0 ?_;rw[d1];grind
  have q3:r<ab b:=by
   refine Nat.lt_of_mul_lt_mul_right (a:=2^s) ?_;rw[avM r];exact d2
  rw[q2,Nat.add_mul_mod_self_left,awh q3,Nat.add_mul_div_left _ _ ω,Nat.div_eq_of_lt q3,avs];exact⟨rfl,rfl⟩
 refine⟨qq,eB (au (ab rr)).length (ab rr/2^s),?_,d6,s6 _ _,hrr.2,?_,by omega,?_⟩;rotate_left
 ·rw[rN,awh (awl (Nat.div_le_self _ _) (gA _))];exact hrr.1
 ·rw[dx];have:=ey rr d5;omega
 refine aB DZ rfl ?_;generalize eB ((au (ab b)).length+1) (ab b*2^s)=B2 at s2 t3;have tk:List.take B2.length (aG B2)=aG B2:=avL (by simp[aG]);have e2:(((au (ab b)).length:Int)=1)=False:=ff;have w1:IntKind.i64.wrap (((au (ab b)).length:Int)-1)=((k+1:Nat):Int):=wi;have e3:((A.length:Int)<=(au (ab a)).length)=False:=ff;have w2:IntKind.i64.wrap ((A.length:Int)-V.length)=((m:Nat):Int):=wi;have w3:IntKind.i64.wrap ((m:Int)-1)=(m:Int)-1:=i64_in _ ⟨by omega,by omega⟩;have z1:nE (.v (.int .i64 (m:Int))) (.v (.int .i64 (m:Int)))=some (m,m):=by
  simp only[nE];rw[if_pos ⟨by omega,by omega,by omega⟩];rfl
 have z2:(m*4<=140737488355328)=True:=tt;simp only[pO,xE,go_sem,t1,t2,hc,e1,e2,avs,avt,e3,w1,hyl,hlz,s1,s2,tk,t3];rw[ag];simp only[zY,go_sem,e3,w2,w3,z1,z2];generalize hX:ah 2 _ _=X;obtain⟨hh,rfl,q70,q2408,qd⟩:=hdx _ _ _ hX rfl rfl rfl (by rw[hVl];rfl) rfl rfl rfl (by simp[aG];rfl) rfl;have e4:∀n:Nat,n<=A.length->eS 1 (.rsl 2408 none 1 0 A.length) none (some (I (n:Int))) none=some (.rsl 2408 none 1 0 n):=fun n hn=>by simp[eS,kf,jY,hn]
 have e4:=e4 (k+2) ω;have e5:(0+(k+2)<=rr.length)=True:=tt;have e6:List.take (k+2) (aG rr)=aG (rr.take (k+2)):=(List.map_take ..).symm;simp only[go_sem,q70,q2408,qd 3336 δ δ,e4,e5,e6,s3];rw[d3,if_pos ω,if_pos rfl];simp only[go_sem]
theorem acO{a b:List Nat}(ha:Lb a)(hb:Lb b)(h1:a.length<=50000)(h2:b.length<=50000)(h0:ab b≠0)(hge:ab b<=ab a):∃Q Rr,R F.natural_divide [lm a,lm b] []=some (.tup [lm Q,lm Rr],[])/\Lb Q/\Lb Rr/\ab Q=ab a/ab b/\ab Rr=ab a%ab b/\Q.length<=100000/\Rr.length<=100000:=by
 have la:=ey a ha;have lb:=ey b hb;have hn:(au (ab b)).length≠0:=fun h=>h0 (sW.1 (List.length_eq_zero_iff.1 h));by_cases hl:(au (ab b)).length=1
 ·have:=WN ha hb h1 h2 hl hge;have hb1:=gA (ab b);rw[hl,Nat.pow_one]at hb1;obtain⟨s1,s2,s3⟩:=De (Nat.pos_of_ne_zero h0) (bH (ab a));rw[br]at s1;have s4:=X6 (Nat.pos_of_ne_zero h0) hb1 (bH (ab a));refine⟨_,_,this,s4,fun x hx=>?_,?_,?_,by omega,by simp⟩
  ·have:x=ab a%ab b:=by simpa using hx
   have:=av3 (ab a) (Nat.pos_of_ne_zero h0);omega
  ·generalize(fB (ab b) (au (ab a))).2=r at*
   generalize(fB (ab b) (au (ab a))).1=q at*
   rw[s1,avM,Nat.mul_add_div (Nat.pos_of_ne_zero h0),Nat.div_eq_of_lt s2,av1]
  ·simp[ab]
 ·obtain⟨k,hk⟩:∃k,(au (ab b)).length=k+2:=⟨(au (ab b)).length-2,by omega⟩;exact WO ha hb h1 h2 hk hge
theorem acP{a b:List Nat}(ha:Lb a)(hb:Lb b)(h1:a.length<=256)(h2:b.length<=256)(h0:ab b≠0)(hge:ab b<=ab a):R F.natural_DivMod [lm a,lm b] []=some (.tup [lm (au (ab a/ab b)),lm (au (ab a%ab b)),I 0],[]):=by
 refine aB LT rfl ?_;have e1:(256<a.length)=False:=ff;have e2:(256<b.length)=False:=ff;obtain⟨Q,Rr,hd,q1,q2,q3,q4,q5,q6⟩:=acO ha hb ω ω h0 hge;have t1:=dD q1 ω;have t2:=dD q2 ω;rw[q3]at t1;rw[q4]at t2;have e3:(((au (ab b)).length:Int)=0)=False:=eq_false fun h=>h0 (sW.1 (List.length_eq_zero_iff.1 ω));simp only[wn,DJ,go_sem,e1,e2,e3,uJ,dD hb ω,hd,t1,t2,Pm]
def wE(a b:Rd)(p:Int):Nat:=(p+3+ae (ab b.m)-ae (ab a.m)).toNat
def rS(a b:Rd)(p:Int)(up:Bool):Rd×Int:=if aY p [a,b]=0 then(if b.m.length=0 then(aI,10)else if a.m.length=0 then(aI,0)else
 hH (a.neg !=b.neg) (cR (ab a.m*2^wE a b p/ab b.m) (a.e-wE a b p-b.e) (decide (ab a.m*2^wE a b p%ab b.m≠0)) p (up != (a.neg !=b.neg))))else(aI,aY p [a,b])
theorem X8{a b:Rd}(oa:Ok0 a)(ob:Ok0 b){p:Int}{up:Bool}:R F.round_div [af a,af b,I p,B up] []=some (rV (rS a b p up),[]):=by
 refine aB WC rfl ?_;have hf:R F.round_fault [I p,.sl 3 [[B a.neg,lm a.m,I a.e],[B b.neg,lm b.m,I b.e]]] []=some (I (aY p [a,b]),[]):=AR (p:=p) (l:=[a,b]) (fun x hx=>by
  grind) (show 2<=100000 by decide)
 unfold rS;by_cases h0:aY p [a,b]=0
 ·obtain⟨v1,v2,v3⟩:=uM h0;have v4:vd a=true/\vd b=true:=γ
  obtain⟨va,vb⟩:=v4;obtain⟨a1,a2,a3,a4⟩:=eY va oa.lb;obtain⟨b1,b2,b3,b4⟩:=eY vb ob.lb;rw[if_pos h0];rw[h0]at hf;by_cases b0:b.m.length=0
  ·have e1:((b.m.length:Int)=0)=True:=tt;rw[if_pos b0];simp only[qt,wN,rV,af,aj,aI,go_sem,hf,e1]
  have e1:((b.m.length:Int)=0)=False:=ff;rw[if_neg b0];by_cases a0:a.m.length=0
  ·have e2:((a.m.length:Int)=0)=True:=tt;rw[if_pos a0];simp only[qt,wN,rV,af,aj,aI,go_sem,hf,e1,e2]
  have e2:((a.m.length:Int)=0)=False:=ff;rw[if_neg a0];have hA:=dJ va a0;have hB:=dJ vb b0;obtain⟨n,rfl⟩:=Int.eq_ofNat_of_zero_le (show 0<=p by omega);have d1:=Mb oa;have d2:=Mb ob;rw[if_pos va]at d1;rw[if_pos vb]at d2;have hk:wE a b (n:Nat)=((n:Int)+3+ae (ab b.m)-ae (ab a.m)).toNat:=rfl;generalize wE a b (n:Nat)=k at*
  have hm2:=dW k hA;have hl2:(au (ab a.m*2^k)).length<=256:=bg ω;have hs:=AQ oa.lb a1 (k:=k) ω hl2;have hge:ab b.m<=ab (au (ab a.m*2^k)):=by
   rw[br];refine Nat.le_of_not_lt fun hc=>?_;have:=yb (Nat.le_of_lt hc) (avt _);omega
  have hd:=acP (bH (ab a.m*2^k)) ob.lb hl2 b1 hB hge;rw[br]at hd;have hqb:ae (ab a.m*2^k/ab b.m)<=8192:=yb (Nat.div_le_self _ _) ω;have hrb:ae (ab a.m*2^k%ab b.m)<=8192:=yb (Nat.mod_le _ _) ω;have hbt:=Gc (bH (ab a.m*2^k%ab b.m)) (avx (bg (k:=256) ω) δ);rw[br]at hbt;have hsg:=EW (M:=au (ab a.m*2^k/ab b.m)) (e:=a.e-k-b.e) (n:=n) (more:=decide (ab a.m*2^k%ab b.m≠0)) (up:=up) (neg:=a.neg !=b.neg) (bH _) (bg ω) ⟨by omega,by omega⟩ ⟨by omega,by omega⟩;rw[br]at hsg;have hmr:decide (ab a.m*2^k%ab b.m≠0)=decide ((0:Int)< (ae (ab a.m*2^k%ab b.m):Nat)):=by
   grind[yc,decide_eq_true,gZ]
  rw[hmr]at hsg⊢;have w1:IntKind.i64.wrap ((n:Int)+3)=(n:Int)+3:=i64_in _ ⟨by omega,by omega⟩;have w2:IntKind.i64.wrap ((n:Int)+3+(ae (ab b.m):Nat))=(n:Int)+3+(ae (ab b.m):Nat):=i64_in _ ⟨by omega,by omega⟩;have w3:IntKind.i64.wrap ((n:Int)+3+(ae (ab b.m):Nat)- (ae (ab a.m):Nat))=(n:Int)+3+(ae (ab b.m):Nat)- (ae (ab a.m):Nat):=i64_in _ ⟨by omega,by omega⟩;have w4:IntKind.i64.wrap (a.e- (k:Int))=a.e-k:=i64_in _ ⟨by omega,by omega⟩;have w5:IntKind.i64.wrap (a.e- (k:Int)-b.e)=a.e-k-b.e:=i64_in _ ⟨by omega,by omega⟩;have em:(if(0:Int)< (n:Int)+3+(ae (ab b.m):Nat)- (ae (ab a.m):Nat)then(n:Int)+3+(ae (ab b.m):Nat)- (ae (ab a.m):Nat)else 0)=(k:Int):=ω
  simp only[rV,af,aj,wR]at hsg d1 d2;simp only[qt,wN,rV,af,aj,go_sem,hf,e1,e2,d1,d2,w1,w2,w3,w4,w5,em,hs,hd,hbt,aa3,hsg]
 ·have e1:(aY p [a,b]=0)=False:=ff h0;rw[if_neg h0];simp only[qt,wN,rV,af,aj,aI,go_sem,hf,e1]
theorem afm{a b:Rd}(oa:Ok0 a)(ob:Ok0 b){p:Int}:R F.round_DivUp [af a,af b,I p] []=some (rV (rS a b p true),[]):=by
 refine aB sK rfl ?_;have hr:=X8 oa ob (p:=p) (up:=true);simp only[rV,af,aj]at hr;simp only[Aq,HL,rV,af,aj,go_sem,hr]
theorem aau{a b:Rd}(oa:Ok0 a)(ob:Ok0 b){p:Int}:R F.round_DivDown [af a,af b,I p] []=some (rV (rS a b p false),[]):=by
 refine aB pf rfl ?_;have hr:=X8 oa ob (p:=p) (up:=false);simp only[rV,af,aj]at hr;simp only[xx,EI,rV,af,aj,go_sem,hr]
theorem Kk{a b:Rd}{p:Int}{up:Bool}:vd (rS a b p up).1=true/\Ok0 (rS a b p up).1:=by
 unfold rS;split
 ·split
  ·exact bh
  ·split
   ·exact bh
   ·exact acb
 ·exact bh
def PT(x y:Ri)(p:Int):Ri:=if(kI x&&kI y&&bQ p)=true then(if Jf y=0 then dy else H2 (pR (fun a b=>rS a b p false) (fun a b=>rS a b p true) (gw x y)))else dy
theorem X9{x y:Ri}(ox:OkI x)(oy:OkI y){p:Int}:R F.interval_Div [am x,am y,I p] []=some (am (PT x y p),[]):=by
 refine aB O5 rfl ?_;have hk:=EY ox oy;have hp:=uO (p:=p);have hw:=kw;have hs:=U0 oy;have hf:=XF ox oy (p:=p) (dn:=fun a b=>rS a b p false) (up:=fun a b=>rS a b p true) ⟨fun h1 h2=>aau h1 h2,Kk.2,pf.1.1,pf.1.2.1,pf.1.2.2.2,pf.1.2.2.1⟩ ⟨fun h1 h2=>afm h1 h2,Kk.2,sK.1.1,sK.1.2.1,sK.1.2.2.2,sK.1.2.2.1⟩;unfold PT;generalize H2 (pR (fun a b=>rS a b p false) (fun a b=>rS a b p true) (gw x y))=z at hf⊢;generalize Jf y=sg at*
 simp only[am,aq,dy,aI]at hw hf hs;cases h1:(kI x&&kI y)with
 |false=>
  rw[h1]at hk;rw[avC,if_neg avD];simp only[lk,qu,am,aq,dy,aI,go_sem,hk,hw]
 |true=>
  rw[h1]at hk;have hs:=hs ((avv _ _).mp h1).2;cases h2:bQ p with
  |false=>
   rw[h2]at hp;rw[avz,if_neg avD];simp only[lk,qu,am,aq,dy,aI,go_sem,hk,hp,hw]
  |true=>
   rw[h2]at hp;rw[avz,if_pos rfl];by_cases h3:sg=0
   ·have e3:(sg=0)=True:=eq_true h3;rw[if_pos h3];simp only[lk,qu,am,aq,dy,aI,go_sem,hk,hp,hw,hs,e3]
   ·have e3:(sg=0)=False:=eq_false h3;rw[if_neg h3];simp only[lk,qu,am,aq,dy,aI,go_sem,hk,hp,hf,hs,e3]
def FF(x:Ri):Ri:=if kI x=true then⟨hF x.hi,hF x.lo,false⟩else dy
theorem ahT{x:Ri}(ox:OkI x):OkI (FF x):=by
 unfold FF;split
 ·exact⟨yg ox.hi,yg ox.lo⟩
 ·exact⟨bh.2,bh.2⟩
theorem ahU{x:Ri}(ox:OkI x):R F.interval_Neg [am x] []=some (am (FF x),[]):=by
 refine aB O3 rfl ?_;have hk:=uP ox;have hw:=kw;have h1:R F.dyadic_Neg [af x.lo] []=some (af (hF x.lo),[]):=D5 ox.lo;have h2:R F.dyadic_Neg [af x.hi] []=some (af (hF x.hi),[]):=D5 ox.hi;unfold FF;simp only[am,aq,af,aj]at hw h1 h2;cases h0:kI x with
 |false=>
  rw[h0]at hk;simp only[tG,Ap,am,aq,go_sem,hk,hw]
 |true=>
  rw[h0]at hk;simp only[tG,Ap,am,aq,go_sem,hk,h1,h2]
def Jt(x y:Ri)(p:Int):Ri:=gJ x (FF y) p
theorem PU{x y:Ri}(ox:OkI x)(oy:OkI y){p:Int}:R F.interval_Sub [am x,am y,I p] []=some (am (Jt x y p),[]):=by
 refine aB OZ rfl ?_;have h1:=ahU oy;have h2:=ye ox (ahT oy) (p:=p);unfold Jt;simp only[am,aq]at h1 h2;simp only[yS,FR,am,aq,go_sem,h1,h2]
def Kl(x y:Ri):Ri:=if(kI x&&kI y)=true then⟨kL x.lo y.lo,kN x.hi y.hi,false⟩else dy
theorem afn{x y:Ri}(ox:OkI x)(oy:OkI y):R F.interval_Hull [am x,am y] []=some (am (Kl x y),[]):=by
 refine aB NC rfl ?_;have hk:=EY ox oy;have hw:=kw;have h1:=Pw ox.lo oy.lo;have h2:=Px ox.hi oy.hi;unfold Kl;simp only[am,aq,af,aj]at hw h1 h2;cases h0:(kI x&&kI y)with
 |false=>
  rw[h0]at hk;simp only[rH,zk,am,aq,go_sem,hk,hw]
 |true=>
  rw[h0]at hk;simp only[rH,zk,am,aq,go_sem,hk,h1,h2]
def NY:Ri:=⟨aI,aI,false⟩
def tV(x y:Ri):Ri×Bool:=if(vi x&&vi y)=true then(if x.all=true then(y,true)else if y.all=true then(x,true)else if fh (kN x.lo y.lo) (kL x.hi y.hi)<=0 then(⟨kN x.lo y.lo,kL x.hi y.hi,false⟩,true)else(NY,false))else(NY,false)
theorem afo{x y:Ri}(ox:OkI x)(oy:OkI y):R F.interval_Meet [am x,am y] []=some (.tup [am (tV x y).1,B (tV x y).2],[]):=by
 refine aB Nz rfl ?_;have hx:=pi ox;have hy:=pi oy;have h1:=Px ox.lo oy.lo;have h2:=Pw ox.hi oy.hi;have hc:=qH (U2 ox.lo oy.lo) (U1 ox.hi oy.hi);rw[show(if vd (kN x.lo y.lo)=true/\vd (kL x.hi y.hi)=true then eJ (zI (kN x.lo y.lo)) (zI (kL x.hi y.hi))else 0)=fh (kN x.lo y.lo) (kL x.hi y.hi)from rfl]at hc;unfold tV;generalize fh (kN x.lo y.lo) (kL x.hi y.hi)=cc at hc⊢;simp only[am,aq,af,aj]at hx hy h1 h2 hc;cases v1:vi x with
 |false=>
  rw[v1]at hx;simp only[gj,jB,am,aq,NY,aI,go_sem,hx]
  try rfl
 |true=>
  rw[v1]at hx;cases v2:vi y with
  |false=>
   rw[v2]at hy;simp only[gj,jB,am,aq,NY,aI,go_sem,hx,hy]
   try rfl
  |true=>
   rw[v2]at hy;cases a1:x.all with
   |true=>
    rw[a1]at hx;simp only[gj,jB,am,aq,go_sem,hx,hy,a1]
   |false=>
    rw[a1]at hx;cases a2:y.all with
    |true=>
     rw[a2]at hy;simp only[gj,jB,am,aq,go_sem,hx,hy,a1,a2]
    |false=>
     rw[a2]at hy;by_cases h3:cc<=0
     ·have e1:(0<cc)=False:=ff;rw[if_pos h3];simp only[gj,jB,am,aq,go_sem,hx,hy,a1,a2,h1,h2,hc,e1]
     ·have e1:(0<cc)=True:=tt;rw[if_neg h3];simp only[gj,jB,am,aq,NY,aI,go_sem,hx,hy,a1,a2,h1,h2,hc,e1]
      try rfl
abbrev G:=Nat->Rat
def pl(x:Rat)(v:G):Nat->Nat->Rat
 |_,0=>0
 |i,c+1=>v i+x*pl x v (i+1) c
def nw(t:Rat)(v:G):Nat->Nat->Rat
 |0,i=>v i
 |n+1,i=>nw t v n i+t*nw t v n (i+1)
def dc(t:Rat)(v:G):Nat->Nat->Rat
 |0,i=>v i
 |n+1,i=>(1-t)*dc t v n i+t*dc t v n (i+1)
def gs(g:G)(a:Nat)(x:Rat):G:=fun i=>if i=a then x else g i
def Lf(lo:Rat)(ad:Nat->Nat)(i:Nat):Nat->G->G
 |0,g=>g
 |k+1,g=>Lf lo ad i k (gs g (ad (i+k)) (g (ad (i+k))+lo*g (ad (i+k+1))))
def Lg(lo:Rat)(ad:Nat->Nat):Nat->Nat->G->G
 |0,_,g=>g
 |k+1,i,g=>Lg lo ad k (i+1) (Lf lo ad i (k+1) g)
def Ra(w:Rat)(ad:Nat->Nat):Nat->Nat->Rat->G->G
 |0,_,_,g=>g
 |k+1,j,b,g=>Ra w ad k (j+1) (b*w) (gs g (ad j) (g (ad j)*(b*w)))
def Lh(n:Nat)(ad:Nat->Nat):Nat->Nat->Rat->G->G
 |0,_,_,g=>g
 |k+1,j,b,g=>Lh n ad k (j+1) (b*((n:Rat)-j+1)/j) (gs g (ad j) (g (ad j)/ (b*((n:Rat)-j+1)/j)))
def NZ(ad:Nat->Nat)(j:Nat):Nat->G->G
 |0,g=>g
 |k+1,g=>NZ ad j k (gs g (ad (j+k+1)) (g (ad (j+k+1))+g (ad (j+k))))
def Rb(ad:Nat->Nat):Nat->Nat->G->G
 |0,_,g=>g
 |k+1,j,g=>Rb ad k (j+1) (NZ ad j (k+1) g)
def ip:Nat->Nat->Nat
 |_,0=>1
 |0,_+1=>0
 |n+1,k+1=>ip n k+ip n (k+1)
theorem akt{lo:Rat}{ad:Nat->Nat}(hi:∀a b,ad a=ad b↔a=b){i:Nat}:∀ (k:Nat) (g:G),(∀a,(∀m,i<=m->m<i+k->a≠ad m)->Lf lo ad i k g a=g a)/\(∀m,i<=m->m<i+k->Lf lo ad i k g (ad m)=g (ad m)+lo*Lf lo ad i k g (ad (m+1))):=by
 intro k;induction k with
 |zero=>exact fun g=>⟨fun _ _=>rfl,fun m h1 h2=>by omega⟩
 |succ k ih=>
  intro g;have e:Lf lo ad i (k+1) g=Lf lo ad i k (gs g (ad (i+k)) (g (ad (i+k))+lo*g (ad (i+k+1)))):=rfl;rw[e];obtain⟨h1,h2⟩:=ih (gs g (ad (i+k)) (g (ad (i+k))+lo*g (ad (i+k+1))));constructor
  ·intro a ha;rw[h1 a fun m hm hk=>ha m hm ω,gs,if_neg (ha _ ω ω)]
  ·intro m hm hk;by_cases hq:m=i+k
   ·grind[gs]
   ·rw[h2 m hm ω,gs,if_neg γ]
theorem aku{x u lo:Rat}(hx:x=lo+u){v w:G}:∀ (k i:Nat),(∀m,i<=m->m<i+k->w m=v m+lo*w (m+1))->w (i+k)=v (i+k)->pl x v i (k+1)=w i+u*pl x w (i+1) k:=by
 intro k;induction k with
 |zero=>grind[pl]
 |succ k ih=>
  intro i h1 h2;have h3:=ih (i+1) (fun m a b=>h1 m ω ω) γ;grind[pl]
theorem akv{x u lo:Rat}(hx:x=lo+u){ad:Nat->Nat}(hi:∀a b,ad a=ad b↔a=b):∀ (k i:Nat) (g:G),(∀a,(∀m,i<=m->m<i+k->a≠ad m)->Lg lo ad k i g a=g a)/\pl x (fun m=>g (ad m)) i (k+1)=pl u (fun m=>Lg lo ad k i g (ad m)) i (k+1):=by
 intro k;induction k with
 |zero=>simp_all[pl,Lg]
 |succ k ih=>
  intro i g;obtain⟨h1,h2⟩:=akt (lo:=lo) hi (i:=i) (k+1) g;have e:Lg lo ad (k+1) i g=Lg lo ad k (i+1) (Lf lo ad i (k+1) g):=rfl;rw[e];generalize Lf lo ad i (k+1) g=g1 at*
  obtain⟨h3,h4⟩:=ih (i+1) g1;constructor
  ·grind
  ·rw[aku hx (v:=fun m=>g (ad m)) (w:=fun m=>g1 (ad m)) (k+1) i h2 (h1 _ fun m _ hk=>by grind),h4];show _=Lg lo ad k (i+1) g1 (ad i)+u*_;grind
theorem akw{w:Rat}{ad:Nat->Nat}(hi:∀a b,ad a=ad b↔a=b):∀ (k j:Nat) (b:Rat) (g:G),(∀a,(∀m,j<=m->m<j+k->a≠ad m)->Ra w ad k j b g a=g a)/\(∀m,m<k->Ra w ad k j b g (ad (j+m))=g (ad (j+m))*(b*w^ (m+1))):=by
 intro k;induction k with
 |zero=>exact fun j b g=>⟨fun _ _=>rfl,fun m h=>by omega⟩
 |succ k ih=>
  intro j b g;have e:Ra w ad (k+1) j b g=Ra w ad k (j+1) (b*w) (gs g (ad j) (g (ad j)*(b*w))):=rfl;rw[e];obtain⟨h1,h2⟩:=ih (j+1) (b*w) (gs g (ad j) (g (ad j)*(b*w)));constructor
  ·intro a ha;rw[h1 a fun m hm hk=>ha m ω ω,gs,if_neg (ha _ ω ω)]
  ·intro m hm;cases m with
   |zero=>
    rw[h1 _ fun m hm hk=>by grind];simp[gs]
   |succ m=>
    have:=h2 m ω;rw[show j+1+m=j+(m+1)by omega]at this;rw[this,gs,if_neg γ,Rat.pow_succ w (m+1),Rat.pow_succ w m];grind
theorem akx{w t:Rat}{v z:G}:∀ (c i:Nat),(∀m,i<=m->m<i+c->z m=v m*w^m)->pl t z i c=w^i*pl (w*t) v i c:=by
 intro c;induction c with
 |zero=>grind[pl]
 |succ c ih=>
  grind[pl,Rat.pow_succ]
theorem Ei(n:Nat):ip n 0=1:=by cases n<;>rfl
theorem Gj:∀ (n k:Nat),n<k->ip n k=0
 |_,0,h=>by omega
 |0,_+1,_=>rfl
 |n+1,k+1,h=>by
  show ip n k+ip n (k+1)=0;rw[Gj n k ω,Gj n (k+1) ω]
theorem Km:∀n k:Nat,k<=n->(ip n (k+1):Int)*(k+1)=ip n k*((n:Int)-k)
 |0,k,h=>by
  have:k=0:=ω
  subst this;rfl
 |n+1,0,_=>by
  have:=Km n 0 ω;show((ip n 0+ip n 1:Nat):Int)*_=(ip (n+1) 0:Int)*_;simp only[Ei]at this⊢;simp at this⊢;omega
 |n+1,k+1,h=>by
  have h1:=Km n k ω;show((ip n (k+1)+ip n (k+1+1):Nat):Int)*_=((ip n k+ip n (k+1):Nat):Int)*_;by_cases hk:k+1<=n
  ·have h2:=Km n (k+1) hk;grind
  ·have:n=k:=ω
   subst this;rw[Gj n (n+1) ω,Gj n (n+1+1) ω];simp
theorem Ya:∀n k:Nat,k<=n->0<ip n k
 |n,0,_=>by grind[Ei]
 |n+1,k+1,h=>Nat.add_pos_left (Ya n k ω) _
theorem aky{n:Nat}{ad:Nat->Nat}(hi:∀a b,ad a=ad b↔a=b):∀ (k j:Nat) (b:Rat) (g:G),j+1+k=n+1->b=ip n j->(∀a,(∀m,j+1<=m->m<j+1+k->a≠ad m)->Lh n ad k (j+1) b g a=g a)/\(∀m,m<k->Lh n ad k (j+1) b g (ad (j+1+m))*ip n (j+1+m)=g (ad (j+1+m))):=by
 intro k;induction k with
 |zero=>exact fun j b g _ _=>⟨fun _ _=>rfl,fun m h=>by omega⟩
 |succ k ih=>
  intro j b g hk hb;have e:Lh n ad (k+1) (j+1) b g=Lh n ad k (j+1+1) (b*((n:Rat)- (j+1:Nat)+1)/ (j+1:Nat)) (gs g (ad (j+1)) (g (ad (j+1))/ (b*((n:Rat)- (j+1:Nat)+1)/ (j+1:Nat)))):=rfl;have hb2:b*((n:Rat)- (j+1:Nat)+1)/ (j+1:Nat)=ip n (j+1):=by
   have h1:=Km n j ω;have h2:((ip n (j+1):Rat))*(j+1)=ip n j*((n:Rat)-j):=by
    have:=congrArg (fun z:Int=>(z:Rat)) h1;simp only[Rat.intCast_mul,Rat.intCast_sub,Rat.intCast_add,Rat.intCast_natCast]at this;omega
   grind
  rw[e,hb2];have hp:(ip n (j+1):Rat)≠0:=by
   have:=Ya n (j+1) ω;intro h0
   simp_all
  obtain⟨h1,h2⟩:=ih (j+1) (ip n (j+1)) (gs g (ad (j+1)) (g (ad (j+1))/ip n (j+1))) ω rfl;constructor
  ·intro a ha;rw[h1 a fun m hm hk=>ha m ω ω,gs,if_neg (ha _ ω ω)]
  ·intro m hm;cases m with
   |zero=>
    rw[h1 _ fun m hm hk=>by grind];simp only[gs,av1,if_true];grind
   |succ m=>
    have:=h2 m ω;rw[show j+1+1+m=j+1+(m+1)by omega]at this
    simp_all[gs,if_neg]
theorem akz{t:Rat}{u v w:G}:∀ (c i:Nat),(∀m,i<=m->m<i+c->w m=u m+v m)->pl t w i c=pl t u i c+pl t v i c:=by
 intro c;induction c with
 |zero=>grind[pl]
 |succ c ih=>
  grind[pl]
theorem Mn{t:Rat}{v w:G}{d:Nat}:∀ (c i:Nat),(∀m,i<=m->m<i+c->w m=v (m+d))->pl t w i c=pl t v (i+d) c:=by
 intro c;induction c with
 |zero=>intro i _;rfl
 |succ c ih=>
  grind[pl]
theorem ahV{t:Rat}{v:G}:∀ (c i:Nat),v (i+c)=0->pl t v i (c+1)=pl t v i c:=by
 intro c;induction c with
 |zero=>grind[pl]
 |succ c ih=>
  grind[pl]
theorem am5{t:Rat}{v:G}:∀ (n i:Nat),nw t v n i=pl t (fun m=>ip n m*v (i+m)) 0 (n+1):=by
 intro n;induction n with
 |zero=>simp only[nw,pl,ip,av1];grind
 |succ n ih=>
  intro i;have e1:=ahV (t:=t) (v:=fun m=>(ip n m:Rat)*v (i+m)) (n+1) 0 (by simp_all[Gj]);have e2:pl t (fun m=>(ip n m:Rat)*v (i+m)) 0 (n+1+1)=(ip n 0:Rat)*v (i+0)+t*pl t (fun m=>(ip n m:Rat)*v (i+m)) (0+1) (n+1):=rfl;have e3:pl t (fun m=>(ip (n+1) m:Rat)*v (i+m)) 0 (n+1+1)=(ip (n+1) 0:Rat)*v (i+0)+t*pl t (fun m=>(ip (n+1) m:Rat)*v (i+m)) (0+1) (n+1):=rfl;have e4:=Mn (t:=t) (d:=1) (w:=fun m=>(ip n (m+1):Rat)*v (i+(m+1))) (v:=fun m=>(ip n m:Rat)*v (i+m)) (n+1) 0 (fun m _ _=>rfl);have e5:=Mn (t:=t) (d:=1) (w:=fun m=>(ip (n+1) (m+1):Rat)*v (i+(m+1))) (v:=fun m=>(ip (n+1) m:Rat)*v (i+m)) (n+1) 0 (fun m _ _=>rfl);have e6:=akz (t:=t) (w:=fun m=>(ip (n+1) (m+1):Rat)*v (i+(m+1))) (u:=fun m=>(ip n m:Rat)*v (i+1+m)) (v:=fun m=>(ip n (m+1):Rat)*v (i+(m+1))) (n+1) 0 (fun m _ _=>by
   have:ip (n+1) (m+1)=ip n m+ip n (m+1):=rfl;simp only[this,show i+1+m=i+(m+1)by omega,Rat.natCast_add];grind)
  grind[nw,Ei]
theorem akA{ad:Nat->Nat}(hi:∀a b,ad a=ad b↔a=b){j:Nat}:∀ (k:Nat) (g:G),(∀a,(∀m,j<=m->m<j+k->a≠ad (m+1))->NZ ad j k g a=g a)/\(∀m,j<=m->m<j+k->NZ ad j k g (ad (m+1))=g (ad (m+1))+g (ad m)):=by
 intro k;induction k with
 |zero=>exact fun g=>⟨fun _ _=>rfl,fun m h1 h2=>by omega⟩
 |succ k ih=>
  intro g;have e:NZ ad j (k+1) g=NZ ad j k (gs g (ad (j+k+1)) (g (ad (j+k+1))+g (ad (j+k)))):=rfl;rw[e];obtain⟨h1,h2⟩:=ih (gs g (ad (j+k+1)) (g (ad (j+k+1))+g (ad (j+k))));constructor
  ·intro a ha;rw[h1 a fun m hm hk=>ha m hm ω,gs,if_neg (ha _ ω ω)]
  ·intro m hm hk;by_cases hq:m=j+k
   ·subst hq;rw[h1 _ fun m hm hk=>by grind];simp[gs]
   ·rw[h2 m hm ω,gs,gs,if_neg γ,if_neg γ]
theorem akB{t:Rat}{v w:G}{j k:Nat}(h:∀m,j<=m->m<=j+k->w (m+1)=v (m+1)+v m):∀ (d m:Nat),j<=m->m+d<=j+k->nw t w d (m+1)=nw t v d (m+1)+nw t v d m:=by
 intro d;induction d with
 |zero=>exact fun m h1 h2=>h m h1 h2
 |succ d ih=>
  grind[nw]
theorem akC{t:Rat}{ad:Nat->Nat}(hi:∀a b,ad a=ad b↔a=b):∀ (k j:Nat) (g:G),(∀a,(∀m,j<=m->m<j+k->a≠ad (m+1))->Rb ad k j g a=g a)/\∀d,d<=k->dc t (fun m=>Rb ad k j g (ad m)) d j=nw t (fun m=>g (ad m)) d j:=by
 intro k;induction k with
 |zero=>
  intro j g;refine⟨fun _ _=>rfl,fun d hd=>?_⟩;have:d=0:=ω
  subst this;rfl
 |succ k ih=>
  intro j g;obtain⟨h1,h2⟩:=akA hi (j:=j) (k+1) g;have e:Rb ad (k+1) j g=Rb ad k (j+1) (NZ ad j (k+1) g):=rfl;rw[e];generalize NZ ad j (k+1) g=g1 at*
  obtain⟨h3,h4⟩:=ih (j+1) g1;refine⟨fun a ha=>by rw[h3 a fun m hm hk=>ha m ω ω,h1 a fun m hm hk=>ha m hm hk],fun d=>?_⟩;induction d with
  |zero=>
   intro _;show Rb ad k (j+1) g1 (ad j)=g (ad j);grind
  |succ d ihd=>
   intro hd;have q3:=akB (t:=t) (v:=fun m=>g (ad m)) (w:=fun m=>g1 (ad m)) (j:=j) (k:=k) (fun m a b=>h2 m a ω) d j (avt _) ω;grind[dc,nw]
def N0(lo w:Rat)(n:Nat)(ad:Nat->Nat)(g:G):G:=Ra w ad n 1 1 (Lg lo ad n 0 g)
def N1(n:Nat)(ad:Nat->Nat)(g:G):G:=Rb ad n 0 (Lh n ad n 1 1 g)
theorem akD{x t lo w:Rat}(hx:x=lo+w*t){ad:Nat->Nat}(hi:∀a b,ad a=ad b↔a=b)(n:Nat)(g:G):(∀a,(∀m,m<=n->a≠ad m)->N0 lo w n ad g a=g a)/\pl x (fun m=>g (ad m)) 0 (n+1)=pl t (fun m=>N0 lo w n ad g (ad m)) 0 (n+1):=by
 obtain⟨a1,a2⟩:=akv hx hi n 0 g;unfold N0;generalize Lg lo ad n 0 g=g1 at*
 obtain⟨b1,b2⟩:=akw (w:=w) hi n 1 1 g1;generalize Ra w ad n 1 1 g1=g2 at*
 rw[a2,akx (w:=w) (t:=t) (v:=fun m=>g1 (ad m)) (z:=fun m=>g2 (ad m)) (n+1) 0 (fun m _ hm=>by
  cases m with
  |zero=>
   grind
  |succ m=>
   grind),Rat.pow_zero]
 grind
theorem akE{t:Rat}{ad:Nat->Nat}(hi:∀a b,ad a=ad b↔a=b)(n:Nat)(g:G):(∀a,(∀m,m<=n->a≠ad m)->N1 n ad g a=g a)/\pl t (fun m=>g (ad m)) 0 (n+1)=dc t (fun m=>N1 n ad g (ad m)) n 0:=by
 obtain⟨c1,c2⟩:=aky (n:=n) hi n 0 1 g ω (by rw[Ei];rfl);unfold N1;generalize Lh n ad n 1 1 g=g3 at*
 obtain⟨d1,d2⟩:=akC (t:=t) hi n 0 g3;rw[d2 n (avt _),am5];have e:=Mn (t:=t) (d:=0) (v:=fun m=>g (ad m)) (w:=fun m=>(ip n m:Rat)*g3 (ad (0+m))) (n+1) 0 (fun m _ hm=>by
  cases m with
  |zero=>
   have q1:=c1 (ad 0) fun m h _=>by grind
   simp_all[av1,Ei]
  |succ m=>
   grind)
 grind
def pQ(n:Nat):Rat:=((2^n:Int):Rat)
def eQ(n:Nat):Rat:=1/pQ n
theorem acQ(n:Nat):0<pQ n:=by
 have:(0:Int)<2^n:=Int.pow_pos δ;unfold pQ;exact_mod_cast this
theorem Ju(n:Nat):eQ n*pQ n=1:=by
 grind[acQ,eQ]
theorem Vv(n:Nat):0<eQ n:=by
 have h:=Ju n;refine Rat.not_le.1 fun hn=>?_;have:=awg hn (Rat.le_of_lt (acQ n));grind
def EQ:Rat:=eQ 16384
theorem Gk:0<EQ:=Vv _
def qv(d:Rd):Rat:=(zI d:Rat)*EQ
theorem Gl{a b:Int}(h:a<=b):(a:Rat)<=b:=by exact_mod_cast h
theorem BB{a b:Rd}:qv a<=qv b↔zI a<=zI b:=by
 unfold qv;constructor
 ·intro h;refine Int.not_lt.1 fun hc=>?_;have h1:(zI b:Rat)<zI a:=by exact_mod_cast hc
  have:=Rat.mul_lt_mul_of_pos_right h1 Gk;grind
 grind[awg,Gl,Rat.le_of_lt,Gk]
theorem Jv:qv aI=0:=by
 unfold qv;rw[du rfl];grind
theorem Gm{d:Rd}(h:vd d=true):qv (hF d)=-qv d/\vd (hF d)=true:=by
 obtain⟨a,b⟩:=AZ h;unfold qv;rw[a,Rat.intCast_neg];grind
def In(q:Rat)(x:Ri):Prop:=x=dy\/x.all=false/\VI x/\qv x.lo<=q/\q<=qv x.hi
theorem In.vi{q:Rat}{x:Ri}(h:In q x):VI x:=by
 rcases h with rfl|h
 ·exact Hn
 grind
theorem In.ok{q:Rat}{x:Ri}(h:In q x):OkI x:=⟨h.vi.1.2,h.vi.2.2⟩
theorem In.k{q:Rat}{x:Ri}(h:In q x):x=dy/\kI x=false\/kI x=true/\qv x.lo<=q/\q<=qv x.hi:=by
 rcases h with rfl| ⟨h1,h2,h3,h4⟩
 ·exact Or.inl ⟨rfl,rfl⟩
 ·exact Or.inr ⟨amT h2.1.1 h2.2.1 (BB.1 (Rat.le_trans h3 h4)) h1,h3,h4⟩
theorem In.v{q:Rat}{x:Ri}(h:In q x):Ab.vi x=true:=by
 rcases h.k with⟨rfl,_⟩| ⟨h,_⟩
 ·rfl
 ·unfold kI at h;grind
theorem SO{q:Rat}{r s:Rd×Int}(vr:vd r.1=true/\Ok0 r.1)(vs:vd s.1=true/\Ok0 s.1)(h1:r.2=0->qv r.1<=q)(h2:s.2=0->q<=qv s.1):In q (tT r s):=by
 unfold tT;split
 ·next h=>exact Or.inr ⟨rfl,⟨vr,vs⟩,h1 h.1,h2 h.2⟩
 ·exact Or.inl rfl
theorem tW{d:Rd}(h:vd d=true)(ok:Ok0 d):In (qv d) ⟨d,d,false⟩:=Or.inr ⟨rfl,⟨⟨h,ok⟩,⟨h,ok⟩⟩,Rat.le_refl,Rat.le_refl⟩
theorem zO{p:Int}(hp:bQ p=true):8<=p/\p<=512:=by
 simp_all[bQ,avv,decide_eq_true_eq]
theorem N2{a b:Rd}{p:Int}(ha:vd a=true)(hb:vd b=true)(hp:bQ p=true):aY p [a,b]=0:=by
 grind[zO,aY]
theorem Vw{a b:Rd}{p:Int}{up:Bool}(ha:vd a=true)(hb:vd b=true)(hp:bQ p=true)(h:(dt a b p up).2=0):(up=true->qv a+qv b<=qv (dt a b p up).1)/\(up=false->qv (dt a b p up).1<=qv a+qv b):=by
 unfold dt at h⊢;rw[if_pos (N2 ha hb hp)]at h⊢;have hh:(up=true->zI a+zI b<=zI (jG (zI a+zI b) (-16384) p up).1*2^0)/\(up=false->zI (jG (zI a+zI b) (-16384) p up).1*2^0<=zI a+zI b):=Kj (j:=0) (zO hp) h;obtain⟨h1,h2⟩:=hh;simp only[Int.pow_zero,Int.mul_one]at h1 h2;have e:qv a+qv b=((zI a+zI b:Int):Rat)*EQ:=by unfold qv;grind
 rw[e];exact⟨fun hu=>awg (Gl (h1 hu)) (Rat.le_of_lt Gk),fun hu=>awg (Gl (h2 hu)) (Rat.le_of_lt Gk)⟩
theorem N3{z r:Int}(n:Nat):(z<=r*2^n->(z:Rat)*eQ n*eQ n<=r*eQ n)/\(r*2^n<=z->(r:Rat)*eQ n<=z*eQ n*eQ n):=by
 have e:(r:Rat)*eQ n=((r*2^n:Int):Rat)*eQ n*eQ n:=by
  rw[Rat.intCast_mul,show(((2:Int)^n:Int):Rat)=pQ n from rfl];grind[Ju]
 rw[e];have h0:=Rat.le_of_lt (Vv n);exact⟨fun h=>awg (awg (Gl h) h0) h0,fun h=>awg (awg (Gl h) h0) h0⟩
theorem N4{a b:Rd}{p:Int}{up:Bool}(ha:vd a=true)(hb:vd b=true)(hp:bQ p=true)(h:(fK a b p up).2=0):(up=true->qv a*qv b<=qv (fK a b p up).1)/\(up=false->qv (fK a b p up).1<=qv a*qv b):=by
 unfold fK at h⊢;rw[if_pos (N2 ha hb hp)]at h⊢;obtain⟨h1,h2⟩:=Kj (j:=16384) (zO hp) h;have e:qv a*qv b=((zI a*zI b:Int):Rat)*EQ*EQ:=by unfold qv;grind
 rw[e];exact⟨fun hu=>(N3 _).1 (h1 hu),fun hu=>(N3 _).2 (h2 hu)⟩
theorem Bc{x y:Ri}{a b:Rat}{p:Int}(hx:In a x)(hy:In b y):In (a+b) (gJ x y p):=by
 unfold gJ;split
 ·next h=>
  simp only[avv]at h;obtain⟨⟨kx,ky⟩,hp⟩:=h;rcases hx.k with⟨rfl,h⟩| ⟨_,x1,x2⟩
  ·grind
  rcases hy.k with⟨rfl,h⟩| ⟨_,y1,y2⟩
  ·grind
  have ok:∀ {a b:Rd} {up:Bool},vd (dt a b p up).1=true/\Ok0 (dt a b p up).1:=fun{a b up}=>by
   grind[dt,sN,bh]
  refine SO ok ok (fun h=>?_) (fun h=>?_)
  ·have:=(Vw hx.vi.1.1 hy.vi.1.1 hp h).2 rfl;grind
  ·have:=(Vw hx.vi.2.1 hy.vi.2.1 hp h).1 rfl;grind
 ·exact Or.inl rfl
theorem ahW{x:Ri}{a:Rat}(hx:In a x):In (-a) (FF x):=by
 unfold FF;split
 ·next h=>
  rcases hx.k with⟨rfl,h1⟩| ⟨_,x1,x2⟩
  ·grind
  have n1:=Gm hx.vi.1.1;have n2:=Gm hx.vi.2.1;exact Or.inr ⟨rfl,⟨⟨n2.2,yg hx.ok.hi⟩,⟨n1.2,yg hx.ok.lo⟩⟩,by grind,by grind⟩
 ·exact Or.inl rfl
theorem Yb{x y:Ri}{a b:Rat}{p:Int}(hx:In a x)(hy:In b y):In (a-b) (Jt x y p):=by
 have:=Bc (p:=p) hx (ahW hy);rw[show a+-b=a-b by grind]at this;exact this
theorem Jw{a b:Rd}(ha:vd a=true)(hb:vd b=true):(fh a b<0->qv a<=qv b)/\(¬fh a b<0->qv b<=qv a)/\(0<fh a b->qv b<=qv a)/\(¬0<fh a b->qv a<=qv b)/\(fh a b<=0↔qv a<=qv b)/\(0<=fh a b↔qv b<=qv a):=by
 unfold fh;grind[BB,eJ]
theorem PV{a b:Rd}(ha:vd a=true/\Ok0 a)(hb:vd b=true/\Ok0 b):qv (kL a b)<=qv a/\qv (kL a b)<=qv b/\vd (kL a b)=true/\Ok0 (kL a b)/\(∀q,q<=qv a->q<=qv b->q<=qv (kL a b)):=by
 obtain⟨c1,c2,c3,c4,c5,c6⟩:=Jw ha.1 hb.1;grind[kL,Rat.le_refl]
theorem PW{a b:Rd}(ha:vd a=true/\Ok0 a)(hb:vd b=true/\Ok0 b):qv a<=qv (kN a b)/\qv b<=qv (kN a b)/\vd (kN a b)=true/\Ok0 (kN a b)/\(∀q,qv a<=q->qv b<=q->qv (kN a b)<=q):=by
 obtain⟨c1,c2,c3,c4,c5,c6⟩:=Jw ha.1 hb.1;grind[kN,Rat.le_refl]
theorem Hu{x y:Ri}{a b:Rat}(hx:In a x)(hy:In b y):(In a (Kl x y)/\In b (Kl x y)):=by
 unfold Kl;split
 ·next h=>
  rcases hx.k with⟨rfl,h1⟩| ⟨_,x1,x2⟩
  ·grind
  rcases hy.k with⟨rfl,h1⟩| ⟨_,y1,y2⟩
  ·grind
  obtain⟨l1,l2,l3,l4,l5⟩:=PV hx.vi.1 hy.vi.1;obtain⟨m1,m2,m3,m4,m5⟩:=PW hx.vi.2 hy.vi.2;exact⟨Or.inr ⟨rfl,⟨⟨l3,l4⟩,⟨m3,m4⟩⟩,by grind,by grind⟩,Or.inr ⟨rfl,⟨⟨l3,l4⟩,⟨m3,m4⟩⟩,by grind,by grind⟩⟩
 ·exact⟨Or.inl rfl,Or.inl rfl⟩
theorem Mo{x y:Ri}{q:Rat}(hx:In q x)(hy:In q y):(tV x y).2=true/\In q (tV x y).1:=by
 unfold tV;rw[if_pos (by rw[hx.v,hy.v];rfl)];rcases hx with rfl| ⟨ha,hv,h1,h2⟩
 ·rw[if_pos (show dy.all=true from rfl)];grind
 ·rw[if_neg γ];rcases hy with rfl| ⟨hb,hw,h3,h4⟩
  ·exact⟨rfl,Or.inr ⟨ha,hv,h1,h2⟩⟩
  ·rw[if_neg γ];obtain⟨l1,l2,l3,l4,l5⟩:=PV hv.2 hw.2;obtain⟨m1,m2,m3,m4,m5⟩:=PW hv.1 hw.1;have a:=l5 q h2 h4;have b:=m5 q h1 h3;rw[if_pos ((Jw m3 l3).2.2.2.2.1.2 (Rat.le_trans b a))];exact⟨rfl,Or.inr ⟨rfl,⟨⟨m3,m4⟩,⟨l3,l4⟩⟩,b,a⟩⟩
theorem Yc{dn up:Rd->Rd->Rd×Int}{pr:Nat->Rd×Rd}(okd:∀a b,vd (dn a b).1=true/\Ok0 (dn a b).1)(oku:∀a b,vd (up a b).1=true/\Ok0 (up a b).1){v:Nat->Rat}
  (hd:∀i,i<4->(dn (pr i).1 (pr i).2).2=0->qv (dn (pr i).1 (pr i).2).1<=v i) (hu:∀i,i<4->(up (pr i).1 (pr i).2).2=0->v i<=qv (up (pr i).1 (pr i).2).1) {q:Rat} (hq:∀lo hi:Rat,(∀i,i<4->lo<=v i/\v i<=hi)->lo<=q/\q<=hi):In q (H2 (pR dn up pr)):=by
 have key:∀ (k i:Nat) (o:Rd×Rd),i+k=4->(vd o.1=true/\Ok0 o.1)->(vd o.2=true/\Ok0 o.2)->(∀j,j<i->qv o.1<=v j/\v j<=qv o.2)->In q (H2 (vR dn up pr k i o)):=by
  intro k;induction k with
  |zero=>
   intro i o hi v1 v2 h;have:=hq _ _ fun j hj=>h j ω;exact Or.inr ⟨rfl,⟨v1,v2⟩,this.1,this.2⟩
  |succ k ih=>
   intro i o hi v1 v2 h;unfold vR;split
   ·next he=>
    have od:=okd (pr i).1 (pr i).2;have ou:=oku (pr i).1 (pr i).2;obtain⟨c1,c2,_,_⟩:=Jw od.1 v1.1;obtain⟨_,_,c3,c4,_⟩:=Jw ou.1 v2.1;grind
   ·exact Or.inl rfl
 unfold pR;split
 ·grind
 ·exact Or.inl rfl
theorem ahX{xl xh x y lo hi:Rat}(h1:xl<=x)(h2:x<=xh)(a:lo<=xl*y/\xl*y<=hi)(b:lo<=xh*y/\xh*y<=hi):lo<=x*y/\x*y<=hi:=by
 by_cases h:0<=y
 ·have:=awg h1 h;have:=awg h2 h;grind
 ·have h:0≤-y:=γ
  have:=awg h1 h;have:=awg h2 h;grind
theorem Yd{xl xh x yl yh y lo hi:Rat}(h1:xl<=x)(h2:x<=xh)(h3:yl<=y)(h4:y<=yh)(a:lo<=xl*yl/\xl*yl<=hi)(b:lo<=xl*yh/\xl*yh<=hi)(c:lo<=xh*yl/\xh*yl<=hi)(d:lo<=xh*yh/\xh*yh<=hi):lo<=x*y/\x*y<=hi:=by
 grind[Rat.mul_comm,ahX]
theorem Be{x y:Ri}{a b:Rat}{p:Int}(hx:In a x)(hy:In b y):In (a*b) (iH x y p):=by
 unfold iH;split
 ·next h=>
  simp only[avv]at h;obtain⟨⟨kx,ky⟩,hp⟩:=h;rcases hx.k with⟨rfl,h⟩| ⟨_,x1,x2⟩
  ·grind
  rcases hy.k with⟨rfl,h⟩| ⟨_,y1,y2⟩
  ·grind
  have ok:∀ (up:Bool) (a b:Rd),vd (fK a b p up).1=true/\Ok0 (fK a b p up).1:=fun up a b=>by
   grind[fK,sN,bh]
  have hv:∀i,vd (gw x y i).1=true/\vd (gw x y i).2=true:=fun i=>by
   unfold gw;split
   ·exact⟨hx.vi.1.1,hy.vi.1.1⟩
   ·exact⟨hx.vi.1.1,hy.vi.2.1⟩
   ·exact⟨hx.vi.2.1,hy.vi.1.1⟩
   ·exact⟨hx.vi.2.1,hy.vi.2.1⟩
  refine Yc (v:=fun i=>qv (gw x y i).1*qv (gw x y i).2) (ok false) (ok true) (fun i _ h=>(N4 (hv i).1 (hv i).2 hp h).2 rfl) (fun i _ h=>(N4 (hv i).1 (hv i).2 hp h).1 rfl) fun lo hi h=>?_;exact Yd x1 x2 y1 y2 (h 0 δ) (h 1 δ) (h 2 δ) (h 3 δ)
 ·exact Or.inl rfl
end Go.Ab
