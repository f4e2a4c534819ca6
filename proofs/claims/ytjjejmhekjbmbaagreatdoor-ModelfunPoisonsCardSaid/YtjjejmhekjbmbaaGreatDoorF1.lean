/-
  A law of tapes on models holds at every input that the statement speaks of, under the conditions that its card names. Part F1.
-/
import Derived.Test.YtjjejmhekjbmbaaGreatDoorE1
open Nat renaming add_assoc → aCe, add_mul → aBG, add_zero → aBR, div_add_mod → aCb, le_of_ble_eq_true → aBI, le_refl → aBh, le_trans → aBq, lt_of_le_of_lt → aBU, lt_of_lt_of_le → aCf, min_eq_left → aCc, mod_eq_of_lt → aB8, mod_lt → aBW, mul_assoc → aBH, mul_comm → aBD, mul_le_mul_left → aCg, mul_le_mul_right → aBv, pow_add → aBx, pow_le_pow_right → aB4, pow_succ → aB6, reduceMod → aBY, reduceSub → aBP, two_pow_pos → aBA, zero_add → aBi, zero_le → aBB
open Int renaming eq_ofNat_of_zero_le → aCj, lt_irrefl → aCh, reduceEq → aBo, toNat_natCast → aBr
open Bool renaming and_eq_true → aBk, and_self → aB3, false_and → aBy, false_eq_true → aCa, false_ne_true → aBu, not_eq_true' → aCi, true_and → aBt
open List renaming all_cons → aBO, append_assoc → aCd, append_nil → aBz, cons_append → aBF, drop_eq_getElem_cons → aBJ, drop_eq_nil_of_le → aBQ, getD_eq_getElem?_getD → aCl, getElem?_eq_getElem → aBp, getElem?_map → aBS, getElem?_of_mem → aB5, getElem_mem → aBT, length_cons → aB0, length_nil → aB1, length_replicate → aCk, map_congr_left → aBK, map_cons → aBM, map_id' → aB2, map_nil → aBX, mem_map → aB7, mem_of_getElem? → aBs, nil_append → aBw, replicate → aBg, take_of_length_le → aBE
open Option renaming bind_eq_some_iff → aBf, bind_some → aBl, map_eq_some_iff → aBj, map_some → aBZ
open Rat renaming mul_le_mul_of_nonneg_right → aB9
set_option linter.all false
namespace Go.Ab
open Go Go.IntWalk
set_option maxRecDepth 4000
set_option maxHeartbeats 8000000
variable{M N f id j m n st:Nat}{cs:List Ri}{ds:List Int}{h:ah}{l y:Rat}{lo w x:Ri}{op:AOp}{p:Int}{r:R3}{s:aN}{α:Type}
theorem Th(h:0<y):0<y⁻¹:=by
 refine Rat.not_le.1 fun hn=>?_;have:=aB9 hn (Rat.le_of_lt h);grind
theorem abE{z:Rat}(h1:0<y)(h2:y<=z):z⁻¹<=y⁻¹:=by
 have a:=Th h1;have b:=Th (show 0<z by grind);have c:=aB9 (aB9 h2 (Rat.le_of_lt a)) (Rat.le_of_lt b);rw[show y*y⁻¹*z⁻¹=z⁻¹ by grind,show z*y⁻¹*z⁻¹=y⁻¹ by grind]at c;omega
theorem agw{z:Rat}(h:0<y/\y<=z\/y<=z/\z<0):z⁻¹<=y⁻¹:=by
 rcases h with⟨h1,h2⟩| ⟨h2,h1⟩
 ·grind[abE]
 ·have:=abE (y:=-z) (z:=-y) γ γ;grind
theorem wr{d}:(d.neg=true->zI d=-(mg d))/\(d.neg=false->zI d=mg d):=by
 simp_all[zI,aq]
theorem apA{a b}{p}{w}{N}(hN:N=16384)(oa:Ok0 a)(ob:Ok0 b)(va:vd a=true)(vb:vd b=true)(hp:8<=p/\p<=512)(a0:a.m.length≠0)(b0:b.m.length≠0)
  (h:(cO (ab a.m*2^y9 a b p/ab b.m) (a.e-y9 a b p-b.e) (decide (ab a.m*2^y9 a b p%ab b.m≠0)) p w).2=0):
  ∃n:Nat,zI (cO (ab a.m*2^y9 a b p/ab b.m) (a.e-y9 a b p-b.e) (decide (ab a.m*2^y9 a b p%ab b.m≠0)) p w).1=n/\(w=true->mg a*2^N<=n*mg b)/\(w=false->n*mg b<=mg a*2^N):=by
 obtain⟨a1,a2,a3,a4⟩:=fA va oa.lb;obtain⟨b1,b2,b3,b4⟩:=fA vb ob.lb;have hA:=ef va a0;have hB:=ef vb b0;have hk:y9 a b p=(p+3+ag (ab b.m)-ag (ab a.m)).toNat:=rfl;generalize y9 a b p=k at*
 have hm2:=ed k hA;have hbM:p< (ag (ab a.m*2^k/ab b.m)):=by
  have h1:2^ (ag (ab a.m*2^k)-1)<=ab a.m*2^k:=S8 ω;have h2:ab b.m<2^ag (ab b.m):=bT.1 (aBh _);have h3:2^p.toNat*ab b.m<=ab a.m*2^k:=by
   refine aBq (aCg _ (Nat.le_of_lt h2)) (aBq ?_ h1);rw[←aBx];exact aB4 δ ω
  have h4:=(Nat.le_div_iff_mul_le (Nat.pos_of_ne_zero hB)).2 h3;have h5:=lw.2 h4;omega
 have hdm:=aCb (ab a.m*2^k) (ab b.m);have hml:=aBW (ab a.m*2^k) (Nat.pos_of_ne_zero hB);generalize ab a.m*2^k/ab b.m=M at*
 generalize hR:ab a.m*2^k%ab b.m=R at*
 obtain⟨n,n1,n2,n3⟩:=Jq (s:=(a.e+16384).toNat+N) (t:=k+(b.e+16384).toNat) (fun h0=>by grind[AJ]) hp ω (fun _=>hbM) h;refine⟨n,n1,fun hw=>?_,fun hw=>?_⟩
 ·have g:=n2 hw;have h1:ab a.m*2^k<=(M+(decide (R≠0)).toNat)*ab b.m:=by
   rw[←hdm,aBG,aBD M];by_cases h0:R=0
   all_goals grind
  refine Nat.le_of_mul_le_mul_right ?_ (aBA k);have h2:=aBv (2^ ((a.e+16384).toNat+N)) h1;have h3:=aBv (ab b.m) g;unfold mg;grind
 ·have g:=n3 hw;have h1:M*ab b.m<=ab a.m*2^k:=by
   grind
  refine Nat.le_of_mul_le_mul_right ?_ (aBA k);have h2:=aBv (2^ ((a.e+16384).toNat+N)) h1;have h3:=aBv (ab b.m) g;unfold mg;grind
theorem Uw{A B:Nat}(k)(hB:0<B):(A*2^k<=n*B->A*(B:Rat)⁻¹<=n*eQ k)/\(n*B<=A*2^k->n*eQ k<=A*(B:Rat)⁻¹):=by
 have hb:(0:Rat)<B:=by exact_mod_cast hB
 have hi:=Th hb;have hk:=YA k;have hm:=Ia k;have e1:(A*2^k:Nat)=A*pQ k:=by
  simp_all[pQ,Rat.natCast_mul,Rat.natCast_pow,Rat.intCast_pow]
 have e2:((n*B:Nat):Rat)=n*B:=Rat.natCast_mul _ _;have r1:A*(B:Rat)⁻¹=A*pQ k*(eQ k*(B:Rat)⁻¹):=γ
 have r2:n*eQ k=n*B*(eQ k*(B:Rat)⁻¹):=γ
 have hc:=Rat.mul_nonneg (Rat.le_of_lt hk) (Rat.le_of_lt hi);rw[r1,r2,←e1,←e2];exact⟨fun h=>aB9 (by exact_mod_cast h) hc,fun h=>aB9 (by exact_mod_cast h) hc⟩
theorem agx{a b}{p}{up}(va:vd a=true/\Ok0 a)(vb:vd b=true/\Ok0 b)(hb:qv b≠0)(hp:bE p=true)(h:(uC a b p up).2=0):(up=true->qv a*(qv b)⁻¹<=qv (uC a b p up).1)/\(up=false->qv (uC a b p up).1<=qv a*(qv b)⁻¹):=by
 unfold uC at h⊢;rw[aq (QK va.1 vb.1 hp)]at h⊢;have b0:b.m.length≠0:=fun h0=>hb γ;rw[ax b0]at h⊢;by_cases a0:a.m.length=0
 ·rw[aq a0,Hm]
  simp_all[qv,cT]
 rw[ax a0]at h⊢;obtain⟨N,hN⟩:∃N,N=16384:=⟨_,rfl⟩;have hcut:=fun w hw=>apA (w:=w) hN va.2 vb.2 va.1 vb.1 (vo hp) a0 b0 hw;have hmb:=HY vb.1 b0;have hE:=Ib;generalize hc:cO (ab a.m*2^y9 a b p/ab b.m) (a.e-y9 a b p-b.e) (decide (ab a.m*2^y9 a b p%ab b.m≠0)) p=c at*
 have hvc:∀w,vd (c w).1=true:=fun w=>by rw[←hc];exact S9
 have hq:qv a*(qv b)⁻¹=if(a.neg !=b.neg)=true then-((mg a:Rat)*(mg b:Rat)⁻¹)else(mg a)*(mg b:Rat)⁻¹:=by
  unfold qv;have i1:(-(mg a:Int):Int)=-(mg a):=by rfl
  have i2:(-(mg b:Int):Int)=-(mg b):=by rfl
  have i3:(mg a:Int)=(mg a:Rat):=rfl;have i4:(mg b:Int)=(mg b:Rat):=rfl;cases ha:a.neg<;>cases hb:b.neg
  ·rw[wr.2 ha,wr.2 hb,i3,i4,ax δ];grind
  ·rw[wr.2 ha,wr.1 hb,i3,i2,aq δ];grind
  ·rw[wr.1 ha,wr.2 hb,i1,i4,aq δ];grind
  ·rw[wr.1 ha,wr.1 hb,i1,i2,ax δ];grind
 rw[hq];generalize(a.neg !=b.neg)=sg at*
 unfold iX at h⊢;cases sg with
 |true=>
  have h2:(c (up !=true)).2=0:=by
   grind
  rw[aq (show(c (up !=true)).2=0/\true=true from⟨h2,rfl⟩),aq (show true=true from rfl)];obtain⟨n,n1,n2,n3⟩:=hcut _ h2;rw[(Ie (hvc _)).1];have e:qv (c (up !=true)).1=n*eQ N:=by unfold qv;rw[n1,hN];rfl
  grind[Uw,mg]
 |false=>
  have hn:¬((c (up !=false)).2=0/\false=true):=fun h1=>aBu h1.2;rw[ax hn]at h;obtain⟨n,n1,n2,n3⟩:=hcut _ h;have e:qv (c (up !=false)).1=n*eQ N:=by unfold qv;rw[n1,hN];rfl
  grind[Uw,mg]
theorem Jt{d}(h:vd d=true):(0<kj d↔0<qv d)/\(kj d<0↔qv d<0):=by
 have hE:=Ib;unfold kj;by_cases h0:d.m.length=0
 ·simp_all[qv,cT,aq]
 ·have hm:=HY h h0;have hq:0< (mg d)*EQ:=Rat.mul_pos (by exact_mod_cast hm) hE;cases hn:d.neg with
  |true=>
   have:qv d=-((mg d)*EQ):=by unfold qv;rw[wr.1 hn,Rat.intCast_neg,Rat.intCast_natCast];grind
   grind
  |false=>
   have:qv d=(mg d)*EQ:=by unfold qv;rw[wr.2 hn];rfl
   grind
theorem If{x y}{a b}{p}(hx:In a x)(hy:In b y):In (a/b) (jY x y p):=by
 unfold jY;split
 ·next h=>
  simp only[aBk]at h;obtain⟨⟨kx,ky⟩,hp⟩:=h;rcases hx.k with⟨rfl,h⟩| ⟨_,x1,x2⟩
  ·grind
  rcases hy.k with⟨rfl,h⟩| ⟨_,y1,y2⟩
  ·grind
  split
  ·exact Or.inl rfl
  ·next hs=>
   have hpr:∀i,((gM x y i).1=x.lo\/(gM x y i).1=x.hi)/\((gM x y i).2=y.lo\/(gM x y i).2=y.hi):=fun i=>by
    unfold gM;grind
   have hsg:0<qv y.lo\/qv y.hi<0:=by
    unfold J2 at hs;by_cases g1:0<kj y.lo
    ·exact Or.inl ((Jt hy.vi.1.1).1.1 g1)
    ·by_cases g2:kj y.hi<0
     ·exact Or.inr ((Jt hy.vi.2.1).2.1 g2)
     omega
   have hv:∀i,(vd (gM x y i).1=true/\Ok0 (gM x y i).1)/\(vd (gM x y i).2=true/\Ok0 (gM x y i).2)/\qv (gM x y i).2≠0:=fun i=>by
    obtain⟨h1,h2⟩:=hpr i;refine⟨?_,?_,?_⟩
    ·rcases h1 with h1|h1<;>rw[h1]
     ·exact hx.vi.1
     ·exact hx.vi.2
    ·rcases h2 with h1|h1<;>rw[h1]
     ·exact hy.vi.1
     ·exact hy.vi.2
    grind
   refine aby (dn:=fun a b=>uC a b p false) (up:=fun a b=>uC a b p true) (v:=fun i=>qv (gM x y i).1*(qv (gM x y i).2)⁻¹) (fun _ _=>EO) (fun _ _=>EO) (fun i _ h=>(agx (hv i).1 (hv i).2.1 (hv i).2.2 hp h).2 rfl) (fun i _ h=>(agx (hv i).1 (hv i).2.1 (hv i).2.2 hp h).1 rfl) fun lo hi h=>?_;have i1:(qv y.hi)⁻¹<=b⁻¹:=agw γ;have i2:b⁻¹<=(qv y.lo)⁻¹:=agw γ;exact abz x1 x2 i1 i2 (h 1 δ) (h 0 δ) (h 3 δ) (h 2 δ)
 ·exact Or.inl rfl
theorem agy{z p}{up}(hp:8<=p/\p<=512)(hz:0<=z)(h:(iL z (-16384-j) p up).2=0):0<=zI (iL z (-16384-j) p up).1:=by
 unfold iL at h⊢;by_cases h0:z=0
 ·rw[aq h0,cT rfl];omega
 ·rw[ax h0,decide_eq_false ω]at h⊢;unfold iX at h⊢;rw[ax (fun h1=>aBu h1.2)]at h⊢;obtain⟨n,g1,_⟩:=Jq (s:=0) (t:=j) ω hp ω (fun h=>absurd h aBu) h;omega
theorem ad2{d}:0<=qv d↔0<=zI d:=by
 rw[←Hm,uD,cT rfl]
theorem apB{d}{p}{up}(v:vd d=true)(hp:bE p=true)(h:(cx d p up).2=0):(0<=qv d->0<=qv (cx d p up).1)/\(up=true->qv d<=qv (cx d p up).1)/\(up=false->qv (cx d p up).1<=qv d):=by
 refine⟨fun hd=>?_,?_,?_⟩
 ·rw[ad2]at hd⊢;have hp2:=vo hp;have hf:bh p [d]=0:=by grind[bh]
  unfold cx at h⊢;rw[aq hf]at h⊢;exact agy (j:=0) hp2 hd h
 ·rintro rfl
  exact uD.2 (amr v hp h)
 ·rintro rfl
  exact uD.2 (amq v hp h)
theorem amy{a b}{p}{up}(ha:vd a=true)(hb:vd b=true)(hp:bE p=true)(h1:0<=qv a)(h2:0<=qv b)(h:(eA a b p up).2=0):0<=qv (eA a b p up).1:=by
 rw[ad2]at*
 unfold eA at h⊢;rw[aq (QK ha hb hp)]at h⊢;exact agy (j:=16384) (vo hp) (Int.mul_nonneg h1 h2) h
theorem Lv{d}{p}{up}:vd (cx d p up).1=true/\Ok0 (cx d p up).1:=by
 grind[cx,vf,aO]
theorem FS{a b}{p}{up}:vd (eA a b p up).1=true/\Ok0 (eA a b p up).1:=by
 grind[eA,vf,aO]
theorem VQ{d}{p}{up}:∀k r,(vd r.1=true/\Ok0 r.1)->vd (pi d p up k r).1=true/\Ok0 (pi d p up k r).1
 |0,_,h=>h
 |k+1,r,h=>by
  unfold pi;split
  ·exact VQ k _ FS
  ·exact h
theorem akU{d}{p}{up}(v:vd d=true)(hp:bE p=true)(h0:0<=qv d):∀k m r,vd r.1=true->(r.2=0->0<=qv r.1/\(up=true->qv d^m<=qv r.1)/\(up=false->qv r.1<=qv d^m))->(pi d p up k r).2=0->
  (up=true->qv d^ (m+k)<=qv (pi d p up k r).1)/\(up=false->qv (pi d p up k r).1<=qv d^ (m+k))
 |0,m,r,_,h,he=>(h he).2
 |k+1,m,r,vr,h,he=>by
  unfold pi at he⊢;by_cases hr:r.2=0
  ·rw[aq hr]at he⊢;obtain⟨a,b,c⟩:=h hr;rw[show m+(k+1)=m+1+k by omega];refine akU v hp h0 k (m+1) _ FS.1 (fun hm=>⟨amy vr v hp a h0 hm,fun hu=>?_,fun hu=>?_⟩) he
   ·have h1:=(QN vr v hp hm).1 hu;have h2:=aB9 (b hu) h0;grind[Rat.pow_succ,Rat.le_trans]
   grind[QN,aB9,Rat.pow_succ,Rat.le_trans]
  grind
theorem apC{d}{p}{up}{n}(v:vd d=true)(hp:bE p=true)(h0:0<=qv d)(hn:1<=n)(he:(pw d n p up).2=0):(up=true->qv d^n<=qv (pw d n p up).1)/\(up=false->qv (pw d n p up).1<=qv d^n):=by
 have:=akU v hp h0 (n-1) 1 (cx d p up) Lv.1 (fun h=>by
  grind[apB,qv]) he
 rw[show 1+(n-1)=n by omega]at this;exact this
theorem Dg{x:Rat}:∀n:Nat,(-x)^ (2*n+1)=-(x^ (2*n+1))
 |0=>by grind
 |n+1=>by
  have:=Dg (x:=x) n;grind
theorem Lw{x:Rat}:∀n,(-x)^ (2*n)=x^ (2*n)
 |0=>by grind
 |n+1=>by
  have:=Lw (x:=x) n;grind
theorem QR{x:Rat}(h:0<=x):∀n:Nat,0<=x^n
 |0=>by grind
 |n+1=>by rw[Rat.pow_succ];exact Rat.mul_nonneg (QR h n) h
theorem Lx{x y:Rat}(h:0<=x)(h1:x<=y):∀n:Nat,x^n<=y^n
 |0=>by grind
 |n+1=>by
  rw[Rat.pow_succ,Rat.pow_succ];have a:=aB9 (Lx h h1 n) h;have b:=Rat.mul_le_mul_of_nonneg_left h1 (QR (Rat.le_trans h h1) n);exact Rat.le_trans a b
theorem ad3{x:Rat}(h1:x<=y)(n):x^ (2*n+1)<=y^ (2*n+1):=by
 by_cases hx:0<=x
 ·grind[Lx]
 ·by_cases hy:0<=y
  ·have a:=QR (show 0≤-x by grind) (2*n+1);grind[QR,Dg]
  ·have:=Lx (x:=-y) (y:=-x) γ γ (2*n+1);grind[Dg]
theorem apD{d}(v:vd d=true):sS d<0↔qv d<0:=by
 rw[← (Jt v).2];grind[sS,kj]
theorem QS{d}{p}{up}{n}(v:vd d=true)(hp:bE p=true)(hn:1<=n)(ho:n%2=1\/0<=qv d)(he:(tp d n p up).2=0):(up=true->qv d^n<=qv (tp d n p up).1)/\(up=false->qv (tp d n p up).1<=qv d^n):=by
 unfold tp at he⊢;by_cases hs:sS d<0
 ·rw[aq hs]at he⊢;have hq:=(apD v).1 hs;obtain⟨n1,n2⟩:=Ie v;have hodd:n=2*(n/2)+1:=by
   grind
  have hw:=apC n2 hp γ hn he;grind[vd,pw,fC,VQ,Lv,qv,Ie,Dg]
 ·rw[ax hs]at he⊢;exact apC v hp (Rat.not_lt.1 fun h=>hs ((apD v).2 h)) hn he
theorem agz{d}(v:vd d=true)(ok:Ok0 d):(vd (nP d)=true/\Ok0 (nP d))/\0<=qv (nP d)/\(qv (nP d)=qv d\/qv (nP d)=-qv d):=by
 unfold nP;by_cases h0:d.m.length=0
 ·rw[aq (Or.inr h0),Hm]
  simp_all[qv,cT,aO,Rat.le_refl]
 ·rw[ax γ];have hm:mg ⟨false,d.m,d.e⟩=mg d:=rfl;have h1:zI ⟨false,d.m,d.e⟩=mg d:=by rw[wr.2 rfl,hm]
  refine⟨⟨?_,ok.1,ok.2⟩,?_,?_⟩
  ·simp_all[vd,ax]
  ·grind[ad2]
  ·unfold qv;rw[h1];cases hn:d.neg with
   |true=>
    rw[wr.1 hn,Rat.intCast_neg];grind
   |false=>
    left;rw[wr.2 hn]
theorem amz{x}{a b}(hx:In a x)(hb:0<=b)(hab:b=a\/b=-a):In b (lK x)/\(kI x=true->0<=qv (lK x).lo/\(lK x).all=false):=by
 unfold lK;by_cases h:kI x=true
 ·rw[aq h];rcases hx.k with⟨rfl,h1⟩| ⟨_,x1,x2⟩
  ·grind
  obtain⟨l1,l2,l3⟩:=agz hx.vi.1.1 hx.vi.1.2;obtain⟨h1,h2,h3⟩:=agz hx.vi.2.1 hx.vi.2.2;obtain⟨m1,m2,m3,m4,m5⟩:=Tf l1 h1;obtain⟨n1,n2,n3,n4,n5⟩:=Te l1 h1;have hmag:b<=qv (vL x):=by
   grind[vL]
  have hmig:(vd (CJ x)=true/\Ok0 (CJ x))/\0<=qv (CJ x)/\qv (CJ x)<=b:=by
   unfold CJ;split
   ·grind[Hm,aO,Rat.le_refl]
   ·next hs=>
    have hsg:0<qv x.lo\/qv x.hi<0:=by
     unfold J2 at hs;by_cases g1:0<kj x.lo
     ·exact Or.inl ((Jt hx.vi.1.1).1.1 g1)
     ·by_cases g2:kj x.hi<0
      ·exact Or.inr ((Jt hx.vi.2.1).2.1 g2)
      omega
    grind
  exact⟨Or.inr ⟨rfl,⟨hmig.1,⟨m3,m4⟩⟩,hmig.2.2,hmag⟩,fun _=>⟨hmig.2.1,rfl⟩⟩
 ·rw[ax h];exact⟨Or.inl rfl,fun hk=>absurd hk h⟩
theorem xf:qv one=1:=by
 obtain⟨N,hN⟩:∃N,N=16384:=⟨_,rfl⟩;have hm:mg one=2^N:=by
  unfold mg;rw[show(one.e+16384).toNat=N by rw[hN];rfl];exact Nat.one_mul _
 unfold qv EQ;rw[wr.2 rfl,hm,←hN,show((2^N:Nat):Int)=pQ N by grind[pQ,Int.natCast_pow]];grind[Ia]
theorem QT{d}{p}{up}{n}:vd (tp d n p up).1=true/\Ok0 (tp d n p up).1:=by
 grind[tp,vd,pw,VQ,Lv,Ie,AK]
theorem CV{x}{a}{n}{p}(hx:In a x):In (a^n) (An x n p):=by
 unfold An;split
 ·next h=>
  simp only[aBk]at h;obtain⟨⟨kx,hp⟩,_⟩:=h;split
  ·next h0=>
   subst h0;rw[Rat.pow_zero,←xf];exact jC fg.1 fg.2
  ·next h0=>
   by_cases he:n%2=0
   ·rw[aq he];obtain⟨b,hb,hab⟩:∃b,0<=b/\(b=a\/b=-a):=by
     grind
    obtain⟨h1,h2⟩:=amz hx hb hab;obtain⟨g1,g2⟩:=h2 kx;have hpw:a^n=b^n:=by
     rcases hab with rfl|rfl
     ·rfl
     ·rw[show n=2*(n/2)by omega,Lw]
    rw[hpw];rcases h1 with hW| ⟨_,hv,y1,y2⟩
    ·rw[hW]at g2;exact absurd g2 δ
    refine VP QT QT (fun h=>?_) (fun h=>?_)
    ·exact Rat.le_trans ((QS hv.1.1 hp ω (Or.inr g1) h).2 rfl) (Lx g1 y1 n)
    ·exact Rat.le_trans (Lx (Rat.le_trans g1 y1) y2 n) ((QS hv.2.1 hp ω (Or.inr (Rat.le_trans g1 (Rat.le_trans y1 y2))) h).1 rfl)
   ·rw[ax he];rcases hx.k with⟨rfl,h1⟩| ⟨_,x1,x2⟩
    ·grind
    have ho:n=2*(n/2)+1:=ω
    have le:∀ {x y:Rat},x<=y->x^n<=y^n:=fun h=>by
     grind[ad3]
    refine VP QT QT (fun h=>?_) (fun h=>?_)
    ·exact Rat.le_trans ((QS hx.vi.1.1 hp ω (Or.inl ω) h).2 rfl) (le x1)
    ·exact Rat.le_trans (le x2) ((QS hx.vi.2.1 hp ω (Or.inl ω) h).1 rfl)
 ·exact Or.inl rfl
theorem abF{x:Rat}{m}:∀n:Nat,x^m*x^n=x^ (m+n)
 |0=>by grind
 |n+1=>by rw[Rat.pow_succ,←Rat.mul_assoc,abF n,←aCe,Rat.pow_succ]
theorem amA{x}{a}{n}{p}(hx:In a x):In (a^n) (CM x n p):=by
 unfold CM;split
 ·exact CV hx
 ·have:=jI (p:=p) (CV (n:=16) (p:=p) hx) (CV (n:=n-16) (p:=p) hx);grind[abF]
def InL:List Rat->List Ri->Prop
 |x::xs,d::ds=>In x d/\InL xs ds
 |[],[]=>True
 |_,_=>False
def xg(es:List Int):List Nat:=es.map Int.toNat
def fv(xs:List Rat):List Rt->Rat
 |[]=>0
 |t::l=>qv t.c*zF xs (xg t.exps)+fv xs l
theorem agB{p}:∀xs ds es x q,InL xs ds->ds.length=es.length->In q x->In (q*zF xs (xg es)) (J3 p ds es x)
 |[],[],[],x,q,_,_,h=>by
  show In (q*1) x;grind
 |y::xs,d::ds,e::es,x,q,hl,hd,h=>by
  show In (q*(y^e.toNat*zF xs (xg es))) (J3 p ds es (if 0<e then cU x (CM d e.toNat p) p else x));rw[←Rat.mul_assoc];refine agB xs ds es _ _ hl.2 γ ?_;split
  ·exact jI h (amA hl.1)
  ·rw[show e.toNat=0 by omega,Rat.pow_zero,Rat.mul_one];omega
 |[],_::_,_,_,_,hl,_,_=>hl.elim
 |_::_,[],_,_,_,hl,_,_=>hl.elim
 |_::_,_::_,[],_,_,_,hd,_=>by grind
 |[],[],_::_,_,_,_,hd,_=>by grind
theorem agC{p}{xs}{dom}(hl:InL xs dom):∀l s q,(∀t∈l,vd t.c=true/\Ok0 t.c/\dom.length=t.exps.length)->In q s->In (q+fv xs l) (Lf p dom l s)
 |[],s,q,_,h=>by
  show In (q+0) s;grind
 |t::l,s,q,ht,h=>by
  obtain⟨a,b,c⟩:=ht t σ;show In (q+(qv t.c*zF xs (xg t.exps)+fv xs l)) _;rw[←Rat.add_assoc];exact agC hl l _ _ (fun u hu=>ht u (by simp[hu])) (iq h (agB xs dom _ _ _ hl c (jC a b)))
theorem Ly{a}{dom}{xs}{p}(oa:OkP a)(hl:InL xs dom):In (fv xs a.terms) (oA a dom p):=by
 unfold oA;split
 ·next h=>
  unfold mW at h;simp only[aBk,decide_eq_true_eq]at h;obtain⟨⟨hv,hd,_⟩,_⟩:=h;unfold vp at hv;simp only[aBk,decide_eq_true_eq]at hv;have:=agC (p:=p) hl a.terms ⟨aG,aG,false⟩ 0 (fun t ht=>by
   have h1:=FM (Me _ _ hv.2.2.2 t ht);exact⟨h1.2.1,(oa.t t ht).c,by omega⟩) (by rw[←Hm];exact jC aO.1 aO.2)
  grind
 ·exact Or.inl rfl
def intD(e:Int):Rd:=bu false e.natAbs 0
theorem amB{e}(h1:1<=e)(h2:e<=32):Ok0 (intD e)/\vd (intD e)=true/\(intD e).m.length≠0:=by
 have hn:e.natAbs≠0:=ω
 have hb:ag e.natAbs<=6:=bT.2 (by
  omega)
 have hc:=FH (neg:=false) (M:=e.natAbs) (e:=0) ω δ ω;have ho:=yj (z:=e) (f:=0);have hcan:fj e 0=bu false e.natAbs 0:=by
  grind[fj,decide_eq_false]
 rw[hcan,hc]at ho;refine⟨ho.2,ho.1,fun h=>?_⟩;obtain⟨q1,_,q3,_⟩:=rH (neg:=false) (e:=0) hn;have h0:(bu false e.natAbs 0).m=[]:=List.length_eq_zero_iff.1 h;grind[ab]
def dec(l:List Int)(i:Nat):List Int:=l.set i (l.getD i 0-1)
theorem abG:∀ {l} {i},i<l.length->bO (dec l i)=bO l-1
 |x::l,0,_=>by
  show(x-1)+bO l=(x+bO l)-1;omega
 |x::l,i+1,h=>by
  have ih:=abG (l:=l) (i:=i) (by simpa using h);show x+bO (dec l i)=(x+bO l)-1;omega
theorem amC{x}(h1:0<=x)(h2:x<=32):R 57 [I x] []=some (ae (intD x),[]):=by
 have h:=DD (n:=x) ⟨by omega,by omega⟩;rw[decide_eq_false ω]at h;exact h
theorem ColE.nil{v}{l}{c}{e}(hc:oB c l)(he:e=0\/e=9):ColE v l [] e c l e:=by
 refine⟨hc,?_⟩;rcases he with rfl|rfl
 ·exact .inl ⟨rfl,rfl,rfl⟩
 ·exact .inr ⟨rfl,fun h=>by omega⟩
structure Bf (v:Int) (l A:List Rt):Prop where
 cl:Cl v l
 lt:∀q∈l,∀t∈A,cW q.exps t.exps<0
theorem Bf.nil{v}(A):Bf v [] A:=⟨Cl.nil _,fun q h=>by grind⟩
theorem Bf.drop{v}{l A}{t}(h:Bf v l (t::A)):Bf v l A:=⟨h.cl,fun q hq x hx=>h.lt q hq x γ⟩
theorem Cl.tail{v}{l}{t}(h:Cl v (t::l)):Cl v l:=⟨fun q hq=>h.t q γ,(List.pairwise_cons.1 h.s).2⟩
theorem Cl.head{v}{l}{t}(h:Cl v (t::l)):VT v t:=h.t t σ
theorem Bf.push{v}{l A}{t}{d}(h:Bf v l (t::A))(hA:Cl v (t::A))(vt:VT v ⟨t.exps,d⟩):Bf v (l++[⟨t.exps,d⟩]) A:=by
 refine⟨⟨fun q hq=>?_,?_⟩,fun q hq x hx=>?_⟩
 ·rcases List.mem_append.1 hq with h1|h1
  ·exact h.cl.t q h1
  grind
 ·rw[List.pairwise_append];refine⟨h.cl.s,List.pairwise_singleton _ _,fun q hq x hx=>?_⟩;rw[List.mem_singleton.1 hx];exact h.lt q hq t σ
 ·rcases List.mem_append.1 hq with h1|h1
  ·exact h.lt q h1 x γ
  ·rw[List.mem_singleton.1 h1];exact(List.pairwise_cons.1 hA.s).1 x hx
theorem Cl.dropN{v}:∀ {l} i,Cl v l->Cl v (l.drop i)
 |l,0,h=>h
 |[],_+1,h=>h
 |_::l,i+1,h=>Cl.dropN i h.tail
theorem FT{v v'}{l A}{t}{d}{c}(h:Bf v l (t::A))(vt:VT v ⟨t.exps,d⟩)(hl:l.length<=1000000)(hc:oB c l):
  ∃c1,R 80 [ac 1000,.sl 1 (aZ t.exps),ae d] [t3 v' c 0]=some (.tup [],[t3 v' c1 0])/\oB c1 (l++[⟨t.exps,d⟩]):=by
 obtain⟨c1,l1,e1,g1,g2,g3⟩:=SW (v':=v') h.cl vt hl hc;have he:mB l ⟨t.exps,d⟩=some (l++[⟨t.exps,d⟩]):=Yj fun q hq=>h.lt q hq t σ;grind
def Eg(o:Int)(t:Rt):Bool:=decide (bO t.exps<=o)
def Ch(o:Int)(t:Rt):Bool:=!decide (bO t.exps<=o)
def dH(a:Rp)(o:Int):Rp×Rp:=if vp a=true then(⟨a.vars,a.terms.filter (Eg o)⟩,⟨a.vars,a.terms.filter (Ch o)⟩)else(p0,p0)
def FU(blk:Option (Ex×St))(i1 i2:Nat)(S:aN)(v':Int)(l1 l2 r1 r2:List Rt):Prop:=
 ∃hh c1 c2,blk=some (.normal,⟨S,hh⟩)/\hh 4=.bx [I 0,.emp]/\hh 5=.bx [I 0,.emp]/\hh i1=t3 v' c1 0/\hh i2=t3 v' c2 0/\oB c1 (l1++r1)/\oB c2 (l2++r2)
theorem FU.p1{blk}{i1 i2}{S}{v'}{l1 l2 r1 r2}{t}(h:FU blk i1 i2 S v' (l1++[t]) l2 r1 r2):FU blk i1 i2 S v' l1 l2 (t::r1) r2:=by
 obtain⟨hh,c1,c2,h1,h2,h3,h4,h5,h6,h7⟩:=h;exact⟨hh,c1,c2,h1,h2,h3,h4,h5,by rwa[List.append_cons],h7⟩
theorem FU.p2{blk}{i1 i2}{S}{v'}{l1 l2 r1 r2}{t}(h:FU blk i1 i2 S v' l1 (l2++[t]) r1 r2):FU blk i1 i2 S v' l1 l2 r1 (t::r2):=by
 obtain⟨hh,c1,c2,h1,h2,h3,h4,h5,h6,h7⟩:=h;exact⟨hh,c1,c2,h1,h2,h3,h4,h5,h6,by rwa[List.append_cons]⟩
theorem ajD{v v' o}{A}(hA:Cl v A)(hn:A.length<=100000){o2}(k2c:∀ids,aE ids o2=true):
  ∀k i,i+k=A.length->∀c1 c2 l1 l2,oB c1 l1->oB c2 l2->Bf v l1 (A.drop i)->Bf v l2 (A.drop i)->l1.length+k<=1000000->l2.length+k<=1000000->∀s h,s 1=I o->s 4=ac 4->s 5=ac 5->s 6=ac 2136->s 7=ac 2160->s 22=.sl 4 (aT A)->s 23=I A.length->s 24=I i->h 2=o2->h 4=.bx [I 0,.emp]->h 5=.bx [I 0,.emp]->h 2136=t3 v' c1 0->h 2160=t3 v' c2 0->
  FU (ao 0 [4,5,6,7] (aD (ap R (aC false) ns) [1,4,5,6,7,22,23,24] [2,4,5,2136,2160] s h)) 2136 2160 (upd (upd (upd (upd cr 7 (ac 2160)) 6 (ac 2136)) 5 (ac 5)) 4 (ac 4)) v' l1 l2 ((A.drop i).filter (Eg o)) ((A.drop i).filter (Ch o)):=by
 intro k;induction k with
 |zero=>
  intro i hi c1 c2 l1 l2 hc1 hc2 _ _ _ _ s h g1 g4 g5 g6 g7 g22 g23 g24 k2 k4 k5 k2136 k2160;have e1:(i< (A.length:Int))=False:=ff;have ho1:=(mM (v:=v') (e:=0) hc1).cl [2,4,5,2136,2160];have ho2:=(mM (v:=v') (e:=0) hc2).cl [2,4,5,2136,2160];have ho3:=k2c [2,4,5,2136,2160];rw[aBQ ω,ai];refine⟨?hh0,c1,c2,?_,?_,?_,?_,?_,by grind,by grind⟩;rotate_left
  ·simp only[ns,go_sem,g1,g4,g5,g6,g7,g22,g23,g24,k2,k4,k5,k2136,k2160,ho1,ho2,ho3,e1];rfl
  ·rfl
  ·rfl
  ·rfl
  ·rfl
 |succ k ih=>
  intro i hi c1 c2 l1 l2 hc1 hc2 b1 b2 hl1 hl2 s h g1 g4 g5 g6 g7 g22 g23 g24 k2 k4 k5 k2136 k2160;have hlt:i<A.length:=ω
  have e1:(i< (A.length:Int))=True:=tt;have e2:=my rfl (aBp hlt);have e5:aS (i+1)=(i+1:Nat):=wi;have ho1:=(mM (v:=v') (e:=0) hc1).cl [2,4,5,2136,2160];have ho2:=(mM (v:=v') (e:=0) hc2).cl [2,4,5,2136,2160];have ho3:=k2c [2,4,5,2136,2160];have hAd:=hA.dropN i;rw[aBJ hlt]at b1 b2 hAd⊢;have ih':=ih (i+1) ω;have vt:=hAd.head;generalize A[i]=t at e2 vt b1 b2 hAd⊢;have hdeg:=AL vt.sm;rw[ai];generalize aD _ _ _=L at ih'⊢;simp only[dB]at e2;by_cases hd:bO t.exps<=o
  ·have e3:=eq_true hd;have f1:(Eg o t)=true:=decide_eq_true hd;have f2:¬ (Ch o t)=true:=by simp_all[Ch,decide_eq_true,aBu]
   rw[List.filter_cons_of_pos f1,List.filter_cons_of_neg f2];obtain⟨c3,s1,s2⟩:=FT (v':=v') b1 vt ω hc1;have hcall:=fun(h:ah) (hh:h 2136=t3 v' c1 0) d=>dQ (aV.1.2.1 false) rfl (ri (d:=d) hh hc1 s2 s1);have ih2:=ih' c3 c2 _ l2 s2 hc2 (b1.push hAd vt) b2.drop γ ω;refine FU.p1 ?_;simp only[ae,aj]at hcall;simp only[ns,go_sem,g1,g4,g5,g6,g7,g22,g23,g24,k2,k4,k5,k2136,k2160,ho1,ho2,ho3,e1,e2,hdeg,e3];rw[hcall _ rfl];simp only[go_sem,e5];refine ih2 _ _ ?_ ?_ ?_ ?_ ?_ ?_ ?_ ?_ ?_ ?_ ?_ ?_ ?_
   all_goals first|rfl|assumption
  ·have e3:=eq_false hd;have f1:¬ (Eg o t)=true:=by simp_all[Eg,decide_eq_false,aBu]
   have f2:(Ch o t)=true:=by grind[Ch,decide_eq_false]
   rw[List.filter_cons_of_neg f1,List.filter_cons_of_pos f2];obtain⟨c3,s1,s2⟩:=FT (v':=v') b2 vt ω hc2;have hcall:=fun(h:ah) (hh:h 2160=t3 v' c2 0) d=>dQ (aV.1.2.1 false) rfl (ri (d:=d) hh hc2 s2 s1);have ih2:=ih' c1 c3 l1 _ hc1 s2 b1.drop (b2.push hAd vt) ω γ;refine FU.p2 ?_;simp only[ae,aj]at hcall;simp only[ns,go_sem,g1,g4,g5,g6,g7,g22,g23,g24,k2,k4,k5,k2136,k2160,ho1,ho2,ho3,e1,e2,hdeg,e3];rw[hcall _ rfl];simp only[go_sem,e5];refine ih2 _ _ ?_ ?_ ?_ ?_ ?_ ?_ ?_ ?_ ?_ ?_ ?_ ?_ ?_
   all_goals first|rfl|assumption
theorem ask{v v' o}{A}(hA:Cl v A)(hn:A.length<=100000){o2}(k2c:∀ids,aE ids o2=true)(s)(h)(X)(hX:ao 0 [4,5,6,7] (aD (ap R (aC false) ns) [1,4,5,6,7,22,23,24] [2,4,5,2136,2160] s h)=X)
  (g1:s 1=I o) (g4:s 4=ac 4) (g5:s 5=ac 5) (g6:s 6=ac 2136) (g7:s 7=ac 2160) (g22:s 22=.sl 4 (aT A)) (g23:s 23=I A.length) (g24:s 24=I 0) (k2:h 2=o2) (k4:h 4=.bx [I 0,.emp]) (k5:h 5=.bx [I 0,.emp]) (k2136:h 2136=t3 v' .emp 0) (k2160:h 2160=t3 v' .emp 0):
  FU X 2136 2160 (upd (upd (upd (upd cr 7 (ac 2160)) 6 (ac 2136)) 5 (ac 5)) 4 (ac 4)) v' [] [] (A.filter (Eg o)) (A.filter (Ch o)):=by
 subst hX;exact ajD hA hn k2c A.length 0 (aBi _) .emp .emp [] [] (.inr ⟨rfl,rfl⟩) (.inr ⟨rfl,rfl⟩) (Bf.nil _) (Bf.nil _) γ γ s h g1 g4 g5 g6 g7 g22 g23 g24 k2 k4 k5 k2136 k2160
def ajE(id:Nat)(s:aN)(h:ah):Ob->Option (aN×ah×K)
 | .bx cs=>some (mf [(id,true)] s,upd h id (.bx (cs.map nG)),[(id,true)])
 |_=>none
theorem xi(i id x y z)(s)(h):Ry i s h (.ref id none x y z)=ajE id s h (h id):=by
 grind[Ry,ajE]
theorem AR(id)(s)(h)(cs):ajE id s h (.bx cs)=some (mf [(id,true)] s,upd h id (.bx (cs.map nG)),[(id,true)]):=rfl
def ppV(r:Rp×Rp):AV:=.tup [bo r.1,bo r.2]
theorem agD{a}{o}(oa:OkP a):R 182 [bo a,I o] []=some (ppV (dH a o),[]):=by
 refine az Xx rfl ?_;have v1:=xd oa;simp only[bo]at v1;unfold dH;cases va:vp a with
 |false=>
  rw[va]at v1;simp only[zN,Fj,bo,go_sem,v1];rfl
 |true=>
  rw[va]at v1;obtain⟨ka,a0,a8,al⟩:=gj oa va;have hemp:=CT (v:=a.vars);have hl:=ask (v:=a.vars) (v':=a.vars) (o:=o) ka ω (o2:=.bx [I a.vars,.sl 4 (aT a.terms)]) (fun _=>rfl);simp only[zN,Fj,bo,go_sem,v1,hemp,rk];generalize hX:ao 0 _ _=X;have hM:=hl _ _ _ hX Z Z Z Z Z Z Z Z Z Z Z Z Z;obtain⟨hh,c1,c2,rfl,q4,q5,q1,q2,i1,i2⟩:=hM;generalize a.terms.filter (Eg o)=r1 at i1⊢;generalize a.terms.filter (Ch o)=r2 at i2⊢;rcases i1 with rfl| ⟨rfl,rfl⟩
  ·rcases i2 with rfl| ⟨rfl,rfl⟩
   ·simp only[t3]at q1 q2;simp only[ppV,bo,go_sem,aBP,aBY,q4,q5,q1,q2,xi,AR,aBM,aBX,zD,xe]
   ·simp only[t3]at q1 q2;simp only[ppV,bo,go_sem,aBP,aBY,q4,q5,q1,q2,xi,AR,aBM,aBX,zD,xe,CU];rfl
  ·rcases i2 with rfl| ⟨rfl,rfl⟩
   ·simp only[t3]at q1 q2;simp only[ppV,bo,go_sem,aBP,aBY,q4,q5,q1,q2,xi,AR,aBM,aBX,zD,xe,CU];rfl
   ·simp only[t3]at q1 q2;simp only[ppV,bo,go_sem,aBP,aBY,q4,q5,q1,q2,xi,AR,aBM,aBX,zD,CU];rfl
def bV(ds:List Int)(cs:List Ri)(p:Int):Ob:=.bx [.osl 1 (aZ ds),.osl 7 (cB cs),I p]
def OY:List Int->Int->Int
 |[],n=>n
 |d::l,n=>OY l (n*(d+1))
theorem tJ(a b)(k)(r):mh 0 (.bx [.osl k r,a,b])=some (k,r):=rfl
theorem AS(h)(n)(g)(i j)(r):qH h n g 1 i j (some (1,r))=(r[i]?).bind fun row=>(mF n g row j).map fun a=>(a,h,[]):=rfl
theorem ajF{ds}{cs}{p}{m}(hm:m<=ds.length)(h8:m<=1000)(hb:∀d∈ds,0<=d/\d<=32):
  ∀ (k i:Nat),i+k=m->∀n,0<=n->n*33^k<=10000000000000->∀s h,s 5=I n->s 13=.rsl 1000 (some 0) 1 0 m->s 14=I m->s 15=I i->h 1000=bV ds cs p->
  ∃hh,ao 0 [5] (aD (ap R (aC true) kN) [5,13,14,15] [1000] s h)=some (.normal,⟨upd cr 5 (I (OY ((ds.take m).drop i) n)),hh⟩)/\hh 1000=bV ds cs p:=by
 intro k;induction k with
 |zero=>
  intro i hi n h0 hn s h g5 g13 g14 g15 k1000;have e1:(i< (m:Int))=False:=ff;rw[aBQ γ,ai];refine⟨?hh0,?_,?_⟩;rotate_left
  ·simp only[kN,bV,go_sem,g5,g13,g14,g15,k1000,e1];rfl
  ·rfl
 |succ k ih=>
  intro i hi n h0 hn s h g5 g13 g14 g15 k1000;have hlt2:i< (ds.take m).length:=γ
  have e1:(i< (m:Int))=True:=tt;have e2:(aZ ds)[i]?=some [I (ds.take m)[i]]:=by
   unfold aZ;rw[aBS,List.getElem_take,aBp ω];rfl
  have e5:aS (i+1)=(i+1:Nat):=wi;rw[aBJ hlt2];have hd:=hb (ds.take m)[i] (List.mem_of_mem_take (aBT hlt2));generalize(ds.take m)[i]=d at e2 hd⊢;have e6:(0<=(i:Int))=True:=tt;have e3:aS (d+1)=d+1:=i64_in _ ⟨by omega,by omega⟩;have hn2:n*(d+1)*33^k<=n*33^ (k+1):=by
   rw[Int.pow_succ,Int.mul_comm _ 33,←Int.mul_assoc];exact Int.mul_le_mul_of_nonneg_right (Int.mul_le_mul_of_nonneg_left ω h0) (Int.pow_nonneg δ)
  have hp1:=by
   have:=Int.pow_pos (n:=33) (m:=k) δ;omega
  have hn0:0<=n*(d+1):=Int.mul_nonneg h0 ω;have hn3:=by
   have:=Int.mul_le_mul_of_nonneg_left hp1 hn0;omega
  have e4:aS (n*(d+1))=n*(d+1):=i64_in _ ⟨by omega,by omega⟩;have ih':=ih (i+1) ω (n*(d+1)) hn0 ω;rw[ai];simp only[bV]at k1000;simp only[kN,go_sem,g5,g13,g14,g15,k1000,e1,e2,e3,e4,e5,e6,aBr,aBi,tJ,AS];apply ih'<;>rfl
theorem asl{ds}{cs}{p}{m}(hm:m<=ds.length)(h8:m<=8)(hb:∀d∈ds,0<=d/\d<=32)(s)(h)(X)(hX:ao 0 [5] (aD (ap R (aC true) kN) [5,13,14,15] [1000] s h)=X)(g5:s 5=I 1)(g13:s 13=.rsl 1000 (some 0) 1 0 m)(g14:s 14=I m)(g15:s 15=I 0)(k1000:h 1000=bV ds cs p):
  ∃hh,X=some (.normal,⟨upd cr 5 (I (OY (ds.take m) 1)),hh⟩)/\hh 1000=bV ds cs p:=by
 subst hX;exact ajF hm ω hb m 0 (aBi _) 1 δ (by
  have:(33:Int)^m<=33^8:=by
   have h1:33^m<=33^8:=aB4 δ h8;grind
  omega) s h g5 g13 g14 g15 k1000
theorem CW(ds):(aZ ds).length=ds.length:=by simp[aZ]
theorem amD{ds}{cs}{p}(hm:m<=ds.length)(h8:m<=8)(hb:∀d∈ds,0<=d/\d<=32):R 240 [ac 1000,I m] [bV ds cs p]=some (I (OY (ds.take m) 1),[bV ds cs p]):=by
 refine B3 M9 M8 (BR false) rfl ?_;have hl:=asl (ds:=ds) (cs:=cs) (p:=p) hm h8 hb;have e1:fm 1 (.rsl 1000 (some 0) 1 0 ds.length) none (some (I m)) none=some (.rsl 1000 (some 0) 1 0 m):=by
  grind[fm,me,lQ]
 simp only[wO,Ed,go_sem,bV,CW,e1];generalize hX:ao 0 [5] _=X;obtain⟨hh,rfl,q⟩:=hl _ _ _ hX Z Z Z Z Z;exact lP rfl q rfl (by rfl) (by rfl)
def J5(c1 c2:jJ):Prop:=∀f a hs r,c1 f a hs=some r->c2 f a hs=some r
section
variable {c1 c2:jJ} {md:Mode}
theorem aag(hc:J5 c1 c2){d:Nat}{zas:List AV}{f:AV}(hz:dZ c1 md h d zas f=some r):dZ c2 md h d zas f=some r:=by
 cases f<;>simp only[dZ]at hz⊢ <;>try (cases hz;done)
 simp only[aBf]at hz⊢;obtain⟨p,e1,e2⟩:=hz;unfold ke at e2⊢;split at e2
 ·rename_i hcc;simp only[aBf]at e2;obtain⟨q,e3,e4⟩:=e2;refine⟨p,e1,?_⟩;rw[aq hcc];simp only[aBf];exact⟨q,hc _ _ _ _ e3,e4⟩
 ·cases e2
theorem QU(hc:J5 c1 c2){d:Nat}{zas:List AV}{f:AV}(hz:bB c1 md h d zas f=some r):bB c2 md h d zas f=some r:=by
 unfold bB at hz⊢;split at hz
 ·rename_i hb;rw[aq hb];cases f<;>simp only[Pg]at hz⊢ <;>try (cases hz;done)
  simp only[aBf]at hz⊢;obtain⟨p,e1,q,e3,e4⟩:=hz;exact⟨p,e1,q,hc _ _ _ _ e3,e4⟩
 ·rename_i hb;rw[ax hb];exact aag hc hz
theorem Ux(hc:J5 c1 c2){d:Nat}(hz:step c1 md d op s h=some r):step c2 md d op s h=some r:=by
 cases op with
 |call f zas=>exact QU hc hz
 |callC f zas=>
  simp only[step,aBf]at hz⊢;obtain⟨q,e1,e2⟩:=hz;exact⟨q,QU hc e1,e2⟩
 |_=>exact hz
theorem Uy(hc:J5 c1 c2){d:Option Nat}{t:St}(hz:dT md.nm s d (step c1 md (d.getD 0) op s h)=some t):dT md.nm s d (step c2 md (d.getD 0) op s h)=some t:=by
 cases hs:step c1 md (d.getD 0) op s h with
 |none=>rw[hs]at hz;cases hz
 |some r=>
  rw[hs]at hz;rw[Ux hc hs];exact hz
theorem ad4(hc:J5 c1 c2){o:COp}{t:St}(hz:oF c1 md o s h=some t):oF c2 md o s h=some t:=by
 unfold oF at hz⊢;cases hg:o.g with
 |none=>rw[hg]at hz;exact Uy hc hz
 |some g=>
  rw[hg]at hz;simp only at hz⊢;unfold mZ at hz⊢;split at hz
  ·split at hz
   ·rename_i hb;simp only[aq hb];exact Uy hc hz
   ·rename_i hb;simp only[ax hb];exact hz
  ·exact hz
  ·cases hz
theorem FV(hc:J5 c1 c2):∀ {l:List COp} {s:aN} {h:ah} {t:St},aJ c1 md l s h=some t->aJ c2 md l s h=some t
 |[],s,h,t,hz=>hz
 |o::l,s,h,t,hz=>by
  simp only[aJ,bA]at hz;split at hz
  ·cases hz
  ·rename_i t1 ht1;simp only[aJ,bA,ad4 hc ht1,FV hc hz]
theorem QV(hc:J5 c1 c2){d:Option Nat}{f:ah->Fp}{t:St×Fp}(hz:qp s d f (step c1 md (d.getD 0) op s h)=some t):qp s d f (step c2 md (d.getD 0) op s h)=some t:=by
 cases hs:step c1 md (d.getD 0) op s h with
 |none=>rw[hs]at hz;cases hz
 |some r=>
  rw[hs]at hz;rw[Ux hc hs];exact hz
theorem ad5(hc:J5 c1 c2){o:COp}{t:St×Fp}(hz:fL c1 md o s h=some t):fL c2 md o s h=some t:=by
 unfold fL at hz⊢;cases hg:o.g with
 |none=>rw[hg]at hz;exact QV hc hz
 |some g=>
  rw[hg]at hz;simp only at hz⊢;unfold tU at hz⊢;split at hz
  ·split at hz
   ·rename_i hb;simp only[aq hb];exact QV hc hz
   ·rename_i hb;simp only[ax hb];exact hz
  ·exact hz
  ·cases hz
theorem Lz(hc:J5 c1 c2):∀ {l:List COp} {s:aN} {h:ah} {t:St×List Fp},jL c1 md l s h=some t->jL c2 md l s h=some t
 |[],s,h,t,hz=>hz
 |o::l,s,h,t,hz=>by
  simp only[jL,aBf]at hz;obtain⟨r,e1,q,e2,e3⟩:=hz;simp only[jL,ad5 hc e1,Lz hc e2,aBl,e3]
theorem ad6(hc:J5 c1 c2){l:List COp}{ps:List (Nat×Nat)}{t:St}(hz:tV c1 md l ps s h=some t):tV c2 md l ps s h=some t:=by
 unfold tV at hz⊢;cases hb:C9 ps with
 |none=>
  rw[hb]at hz;simp only[Dj,aBf]at hz;obtain⟨q,e1,e2⟩:=hz;simp only[Dj,Lz hc e1,aBl,e2]
 |some b=>
  rw[hb]at hz;simp only[Ip,aBf]at hz;obtain⟨q,e1,e2⟩:=hz;split at e2
  ·rename_i hps;simp only[bA]at e2;split at e2
   ·cases e2
   ·rename_i t1 ht1;simp only[Ip,Lz hc e1,aBl,aq hps,ht1,bA,FV hc e2]
  ·cases e2
theorem LA{b1 b2:aN->ah->Option (Ex×St)}{ks hs:List Nat}(ih:∀ {s:aN} {h:ah} {r:Ex×St},b1 s h=some r->b2 s h=some r):
  ∀ (m:Nat) {j:Nat},m<=j->∀ {s:aN} {h:ah} {r:Ex×St},vF b1 ks hs m s h=some r->vF b2 ks hs j s h=some r
 |0,j,hj,s,h,r,hz=>by simp[vF]at hz
 |m+1,j,hj,s,h,r,hz=>by
  obtain⟨j,rfl⟩:∃j',j=j'+1:=⟨j-1,by omega⟩;simp only[vF]at hz⊢;split at hz
  ·rename_i hc;rw[aq hc];cases hb:b1 (mk .any (fun i=>iS hs (s i)) ks) (mk .dead h hs)with
   |none=>rw[hb]at hz;cases hz
   |some q=>
    rw[hb]at hz;rw[ih hb];obtain⟨ex,t⟩:=q;cases ex with
    |normal=>exact LA ih m ω hz
    |exit id=>exact hz
    |ret=>exact hz
  ·cases hz
theorem lG(hc:J5 c1 c2){lf lf':Nat}(hl:lf<=lf'):∀ (c:Cmd) {s:aN} {h:ah} {r:Ex×St},cZ c1 md lf c s h=some r->cZ c2 md lf' c s h=some r
 | .skip,s,h,r,hz=>hz
 | .ops ks l,s,h,r,hz=>by
  simp only[cZ,bA]at hz;split at hz
  ·cases hz
  ·rename_i t1 ht1;simp only[cZ,FV hc ht1,bA];exact hz
 | .dops ks l ps,s,h,r,hz=>by
  simp only[cZ,bA]at hz;split at hz
  ·cases hz
  ·rename_i t1 ht1;simp only[cZ,ad6 hc ht1,bA];exact hz
 | .seq a b,s,h,r,hz=>by
  simp only[cZ,dD]at hz;split at hz
  ·cases hz
  ·rename_i t1 ht1;simp only[cZ,dD,lG hc hl a ht1,lG hc hl b hz]
  ·rename_i i t1 ht1;simp only[cZ,dD,lG hc hl a ht1];exact hz
  ·rename_i t1 ht1;simp only[cZ,dD,lG hc hl a ht1];exact hz
 | .cond c a b,s,h,r,hz=>by
  simp only[cZ,tW]at hz;split at hz
  ·rename_i t ht;cases t with
   |true=>simp only[cZ,tW,ht,if_true];exact lG hc hl a hz
   |false=>simp only[cZ,tW,ht,aCa,if_false];exact lG hc hl b hz
  ·cases hz
 | .block id ks a,s,h,r,hz=>by
  simp only[cZ,ao]at hz;split at hz
  ·cases hz
  ·rename_i t1 ht1;simp only[cZ,ao,lG hc hl a ht1];exact hz
  ·rename_i i t1 ht1;simp only[cZ,ao,lG hc hl a ht1];exact hz
  ·rename_i t1 ht1;simp only[cZ,ao,lG hc hl a ht1];exact hz
 | .loop ks hs a,s,h,r,hz=>by
  simp only[cZ]at hz⊢;exact LA (fun hh=>lG hc hl a hh) lf hl hz
 | .exit id,s,h,r,hz=>hz
 | .ret,s,h,r,hz=>hz
 | .frz is a,s,h,r,hz=>by
  simp only[cZ,bA]at hz;split at hz
  ·cases hz
  ·rename_i t1 ht1;simp only[cZ,bA,ht1];exact lG hc hl a hz
end
theorem apE:Option.any bH (some AV.emp)=false:=rfl
def kU(v:Nat):List Int:=aBg v 0
theorem apF{h}{id id2 k n}{rows}{a}{z}(h1:h id2=.ar k rows)(hn:n=rows.length)(h2:h id=.bx [.any,.any,.any])(hne:id≠id2):
  NH id 0 [.rsl id2 none k 0 n,.emp,I z] (a,h,[])=some (a,upd (upd (upd (upd h id2 .dead) id (.bx [.osl k rows,.any,.any])) id (.bx [.osl k rows,.emp,.any])) id (.bx [.osl k rows,.emp,I z]),[(id2,false)]):=by
 have h3:upd h id2 .dead id=.bx [.any,.any,.any]:=by
  simp_all[upd,ax]
 have e1:∀ (g:ah) o,upd g id o id=o:=fun g o=>by simp_all[upd,aq]
 have k1:∀K,vP K .emp=.emp:=fun K=>rfl;have k2:∀K,vP K (I z)=I z:=fun K=>rfl
 simp_all[bH,aH,I,NH,uF,JK,TI,NG,Ei]
def EA:List Int->Int->Option Int
 |[],n=>some n
 |d::l,n=>if 400<n*(d+1)then none else EA l (n*(d+1))
def Gr2(blk:Option (Ex×St))(o2 g:Ob):Option Int->Prop
 |some n=>∃hh,blk=some (.normal,⟨upd (upd (upd cr 11 (I n)) 6 (ac 24)) 2 (ac 2),hh⟩)/\hh 2=o2/\hh 24=g/\(∀a,a≠2->a≠24->hh a=.dead)
 |none=>∃hh,blk=some (.ret,⟨upd (upd cr 5 (B false)) 4 (.v (.pointer none)),hh⟩)
theorem ajG{ds}{p}{m}(hm:m=ds.length)(h8:m<=1000)(hb:∀d∈ds,0<=d/\d<=32){o2}(c2:∀l,aE l o2=true):
  ∀ (k i:Nat),i+k=m->∀n,0<=n->n<=400->∀s h,s 2=ac 2->s 6=ac 24->s 11=I n->s 60=.rsl 24 (some 0) 1 0 m->s 61=I m->s 62=I i->h 2=o2->h 21=.dead->h 24=.bx [.osl 1 (aZ ds),.emp,I p]->h 2624=.dead->
  Gr2 (ao 4 [2,6,11] (aD (ap R (aC false) jq) [2,6,11,60,61,62] [2,21,24,2624] s h)) o2 (.bx [.osl 1 (aZ ds),.emp,I p]) (EA (ds.drop i) n):=by
 intro k;induction k with
 |zero=>
  intro i hi n h0 hn s h g2 g6 g11 g60 g61 g62 k2 k21 k24 k2624;have e1:(i< (m:Int))=False:=ff;have hc:=c2 [2,21,24,2624];rw[aBQ ω,ai];refine⟨?hh0,?_,?_,?_,?_⟩;rotate_left
  ·simp only[jq,go_sem,g2,g6,g11,g60,g61,g62,k2,k21,k24,k2624,hc,e1];rfl
  all_goals simp_all[dv,if_false,ite_self]
 |succ k ih=>
  intro i hi n h0 hn s h g2 g6 g11 g60 g61 g62 k2 k21 k24 k2624;have hlt:i<ds.length:=ω
  have e1:(i< (m:Int))=True:=tt;have e2:(aZ ds)[i]?=some [I ds[i]]:=by
   grind[aZ]
  have e5:aS (i+1)=(i+1:Nat):=wi;have hc:=c2 [2,21,24,2624];rw[aBJ hlt];have hd:=hb ds[i] (aBT hlt);generalize ds[i]=d at e2 hd⊢;have e6:(0<=(i:Int))=True:=tt;have e3:aS (d+1)=d+1:=i64_in _ ⟨by omega,by omega⟩;have hn0:0<=n*(d+1):=Int.mul_nonneg h0 ω;have hn3:n*(d+1)<=400*33:=Int.mul_le_mul hn ω ω δ;have e4:aS (n*(d+1))=n*(d+1):=i64_in _ ⟨by omega,by omega⟩;have ih':=ih (i+1) ω (n*(d+1)) hn0;have hrow:EA (d::ds.drop (i+1)) n=if 400<n*(d+1)then none else EA (ds.drop (i+1)) (n*(d+1)):=rfl
  rw[hrow,ai];by_cases hq:400<n*(d+1)
  ·have e7:=eq_true hq;rw[aq hq];refine⟨?hh1,?_⟩;rotate_left
   ·simp only[jq,go_sem,g2,g6,g11,g60,g61,g62,k2,k21,k24,k2624,hc,e1,e2,e3,e4,e6,e7,aBr,aBi,tJ,AS];rfl
  ·have e7:=eq_false hq;simp only[jq,go_sem,g2,g6,g11,g60,g61,g62,k2,k21,k24,k2624,hc,e1,e2,e3,e4,e5,e6,e7,aBr,aBi,tJ,AS];refine ih' ω _ _ ?_ ?_ ?_ ?_ ?_ ?_ ?_ ?_ ?_ ?_
   all_goals first|rfl|assumption
theorem asm{ds}{p}{m}(hm:m=ds.length)(h8:m<=1000)(hb:∀d∈ds,0<=d/\d<=32){o2}(c2:∀l,aE l o2=true)(s)(h)(X)(hX:ao 4 [2,6,11] (aD (ap R (aC false) jq) [2,6,11,60,61,62] [2,21,24,2624] s h)=X)(g2:s 2=ac 2)(g6:s 6=ac 24)(g11:s 11=I 1)(g60:s 60=.rsl 24 (some 0) 1 0 m)(g61:s 61=I m)(g62:s 62=I 0)(k2:h 2=o2)(k21:h 21=.dead)(k24:h 24=.bx [.osl 1 (aZ ds),.emp,I p])(k2624:h 2624=.dead):
  Gr2 X o2 (.bx [.osl 1 (aZ ds),.emp,I p]) (EA ds 1):=by
 subst hX;exact ajG hm h8 hb c2 m 0 (aBi _) 1 δ δ s h g2 g6 g11 g60 g61 g62 k2 k21 k24 k2624
theorem YE(v):aBg v [I 0]=aZ (kU v):=by
 grind[aZ,kU,List.map_replicate]
theorem akW{v}:∀d∈kU v,0<=d/\d<=32:=fun d hd=>by
 rw[List.eq_of_mem_replicate hd];decide
theorem amE(h)(i)(xs)(a b)(r):Gg h 1 24 0 1 i 0 xs [] (.bx [.osl 1 r,a,b])=(tP 1 1 i 0 xs 1 r).map fun q=>(.und,upd h 24 (.bx [.osl 1 q,a,b]),[]):=rfl
theorem LB{f}{h}{d id}{zas as'}{o o'}{res}(hm:(aC false).m f=[])(hk:(aC false).keep f=true)(hn:bv ((aC false).sh f) (ac id::zas)=ac id::as')(hd:zas.all dat=true)(hd':as'.all dat=true)
  (hh:h id=o) (ho:OC o) (ho':OC o') (hb:bf o=true->bf o'=true) (hR:R f (ac 1000::as') [o]=some (res,[o'])) (hr:RT res) (h8:cM res<=8) (hfr:cj h (2000+8*d) (cM res)=true):
  bB R (aC false) h d (ac id::zas) (.fn f [] [])=some (res,upd h id o',[]):=by
 have h1:ce h [] (ac id::zas)=some (ac id::zas,h,[]):=by
  simp only[ce,dV,aBl,List.tail_nil,Mo h hd,aBz]
 have hp:bC [] ((ac id::zas).flatMap cH)=[id]:=by
  rw[List.flatMap_cons,Aq fun x hx=>EL (List.all_eq_true.1 hd x hx)];rfl
 have hre:bU h 40 [id] 0=[id]:=by
  simp[bU,hh,ho.ids,bC]
 have h3:bg [id] id=1000:=by simp[bg]
 have hall:(ac id::as').all (be [id])=true:=by
  grind[be,bw,H7]
 have hmap:(ac id::as').map (dS (bg [id]))=ac 1000::as':=by
  rw[aBM,(aBK (g:=fun c=>c) fun x hx=>EM (List.all_eq_true.1 hd' x hx) _).trans (aB2 as')];grind[dS,ko]
 have hob:([id].map fun a=>dY (bg [id]) (h a))=[o]:=by simp[hh,ho.ren]
 have hids:([id].all fun a=>aE [id] (h a)&&!bX (h a))=true:=by simp[hh,ho.cl,ho.nd]
 unfold bB;rw[ax (by grind[kC])];simp only[dZ,aBw,aBz,aBl, *];unfold ke;rw[hall,hids,hmap,hob,hR,aB3,aq rfl,aBl,hk,hm,tw];unfold eJ;have hbf:cY h [] [id] [o']=true:=by
  have:=ho'.nd;grind[bf,cY]
 have hend:mG h [id] [] (res,[o'])=true:=by
  simp[mG,A7,hr.ok,ho'.cl]
 rw[aq ⟨rfl,by simp,h8,hfr,hbf,hend⟩];simp[eB,gD,hr.mat,hr.ren,ho'.ren]
theorem cK(ds)(cs)(p):OC (bV ds cs p):=⟨fun _=>rfl,rfl,fun _=>rfl,rfl⟩
theorem LC{ds}{cs}{p}(hm:m<=ds.length)(h8:m<=8)(hb:∀d∈ds,0<=d/\d<=32){h}{d id}(hh:h id=bV ds cs p)(hd:h (2000+8*d)=.dead):
  bB R (aC false) h d [ac id,I m] (.fn 240 [] [])=some (I (OY (ds.take m) 1),upd h id (bV ds cs p),[]):=
 LB (oj false) (BR false) (as':=[I m]) (by simp only[go_sem]) Z Z hh (cK _ _ _) (cK _ _ _) (fun _=>rfl) (amD hm h8 hb) (ao7 _) (aBI rfl) (by grind[cj,cM,bX])
theorem AT(a b)(k)(r):mh 1 (.bx [a,.osl k r,b])=some (k,r):=rfl
theorem asn{f}{fd}{args}{os}{r}(hE:cQ.E f=none)(hC:cQ.C f=some fd)(hk:cQ.md.keep f=false)(h1:args.length=fd.np)(h2:os.length<=1000)
  (hz:lI false fd.rs fd.res os.length (ap R (aC false) fd.body (vH args) (au os))=some r):R f args os=some r:=
 KV false hE hC hk h1 h2 hz
theorem YF(a b c d e):au [a,b,c,d,e]=upd (upd (upd (upd (upd (fun _=>.dead) 1004 e) 1003 d) 1002 c) 1001 b) 1000 a:=by
 funext i;unfold au upd;by_cases h0:i=1000
 ·simp_all
 by_cases h1:i=1001
 ·simp_all
 by_cases h2:i=1002
 ·simp_all
 by_cases h3:i=1003
 ·simp_all
 by_cases h4:i=1004
 ·simp_all
 simp only[if_false, *];by_cases h5:1000<=i
 ·rw[aq h5,List.getElem?_eq_none (by simp;omega)];rfl
 grind
theorem YG(a b c):au [a,b,c]=upd (upd (upd (fun _=>.dead) 1002 c) 1001 b) 1000 a:=by
 funext i;unfold au upd;by_cases h0:i=1000
 ·simp_all
 by_cases h1:i=1001
 ·simp_all
 by_cases h2:i=1002
 ·simp_all
 simp only[if_false, *];by_cases h5:1000<=i
 ·rw[aq h5,List.getElem?_eq_none γ];rfl
 grind
def je(x:Ri):Ob:=.bx [B x.lo.neg,lm x.lo.m,I x.lo.e,B x.hi.neg,lm x.hi.m,I x.hi.e,B x.all]
theorem iu(x):OC (je x):=⟨fun _=>rfl,rfl,fun _=>rfl,rfl⟩
theorem ad7{l st n}{lo w}{ds}{cs cs'}{p}(hR:R 242 [I l,I st,ac 1000,ac 1001,ac 1002,ac 1003] [.bx [I n],.bx [ac 1004],je lo,je w,bV ds cs p]=some (.tup [],[.bx [I n],.bx [ac 1004],je lo,je w,bV ds cs' p])){h}{d}(h0:h 1000=bV ds cs p)(h1:h 1001=.bx [I n])(h2:h 1002=.bx [ac 1000])(h3:h 1003=je lo)(h4:h 1004=je w)(hf:h (2000+8*d)=.dead):
  bB R (aC false) h d [I l,I st] (.fn 242 [] [ac 1001,ac 1002,ac 1003,ac 1004])=some (.tup [],upd (upd (upd (upd (upd h 1001 (.bx [I n])) 1002 (.bx [ac 1000])) 1003 (je lo)) 1004 (je w)) 1000 (bV ds cs' p),[(1001,true),(1002,true),(1003,true),(1004,true),(1000,true)]):=by
 have hre:bU h 40 [1001,1002,1003,1004] 0=[1001,1002,1003,1004,1000]:=by
  have i0:=(cK ds cs p).ids;have i1:lH (.bx [I n])=[]:=rfl;have i2:lH (.bx [ac 1000])=[1000]:=rfl;have i3:=(iu lo).ids;have i4:=(iu w).ids
  simp_all[bU,bC]
 unfold bB;rw[ax (by simp[kC,fJ.1.2.1])];have hin:ce h [] [I l,I st,ac 1001,ac 1002,ac 1003,ac 1004]=some ([I l,I st,ac 1001,ac 1002,ac 1003,ac 1004],h,[]):=rfl;have hids:bC [] ([I l,I st,ac 1001,ac 1002,ac 1003,ac 1004].flatMap cH)=[1001,1002,1003,1004]:=rfl;simp only[dZ,fJ.1.2.1,aBw,aBF,aBl,fJ.1.1, *];have hn:bv [] [I l,I st,ac 1001,ac 1002,ac 1003,ac 1004]=[I l,I st,ac 1001,ac 1002,ac 1003,ac 1004]:=rfl;rw[hn];unfold ke;have hob:([1001,1002,1003,1004,1000].map fun a=>dY (bg [1001,1002,1003,1004,1000]) (h a))=[.bx [I n],.bx [ac 1004],je lo,je w,bV ds cs p]:=by
  simp only[List.map, *];rfl
 have hcl:([1001,1002,1003,1004,1000].all fun a=>aE [1001,1002,1003,1004,1000] (h a)&&!bX (h a))=true:=by
  simp only[aBO,List.all_nil, *];rfl
 rw[hob,hcl,aq (by rfl)];rw[show [I l,I st,ac 1001,ac 1002,ac 1003,ac 1004].map (dS (bg [1001,1002,1003,1004,1000]))=[I l,I st,ac 1000,ac 1001,ac 1002,ac 1003]from rfl,hR,aBl,fJ.1.2.2.2,fJ.1.2.1,tw];unfold eJ;rw[aq ⟨rfl,aBI rfl,aBI rfl,by simp[cj,cM],by grind[cY,je,bV,bf,bX],rfl⟩];rfl
theorem ad8{l st n}{ds}{cs cs'}{p}(hR:R 245 [I l,I st,ac 1000,ac 1001] [.bx [I n],.bx [ac 1002],bV ds cs p]=some (.tup [],[.bx [I n],.bx [ac 1002],bV ds cs' p])){h}{d}(h0:h 1000=bV ds cs p)(h1:h 1001=.bx [I n])(h2:h 1002=.bx [ac 1000])(hf:h (2000+8*d)=.dead):
  bB R (aC false) h d [I l,I st] (.fn 245 [] [ac 1001,ac 1002])=some (.tup [],upd (upd (upd h 1001 (.bx [I n])) 1002 (.bx [ac 1000])) 1000 (bV ds cs' p),[(1001,true),(1002,true),(1000,true)]):=by
 have hre:bU h 40 [1001,1002] 0=[1001,1002,1000]:=by
  have i0:=(cK ds cs p).ids;have i1:lH (.bx [I n])=[]:=rfl;have i2:lH (.bx [ac 1000])=[1000]:=rfl
  simp_all[bU,bC]
 unfold bB;rw[ax (by simp[kC,dA.1.2.1])];have hin:ce h [] [I l,I st,ac 1001,ac 1002]=some ([I l,I st,ac 1001,ac 1002],h,[]):=rfl;have hids:bC [] ([I l,I st,ac 1001,ac 1002].flatMap cH)=[1001,1002]:=rfl;simp only[dZ,dA.1.2.1,aBw,aBF,aBl,dA.1.1, *];have hn:bv [] [I l,I st,ac 1001,ac 1002]=[I l,I st,ac 1001,ac 1002]:=rfl;rw[hn];unfold ke;have hob:([1001,1002,1000].map fun a=>dY (bg [1001,1002,1000]) (h a))=[.bx [I n],.bx [ac 1002],bV ds cs p]:=by
  simp only[List.map, *];rfl
 have hcl:([1001,1002,1000].all fun a=>aE [1001,1002,1000] (h a)&&!bX (h a))=true:=by
  simp only[aBO,List.all_nil, *];rfl
 rw[hob,hcl,aq (by rfl)];rw[show [I l,I st,ac 1001,ac 1002].map (dS (bg [1001,1002,1000]))=[I l,I st,ac 1000,ac 1001]from rfl,hR,aBl,dA.1.2.2.2,dA.1.2.1,tw];unfold eJ;rw[aq ⟨rfl,aBI rfl,aBI rfl,by simp[cj,cM],by grind[cY,bV,bf,bX],rfl⟩];rfl
theorem YH{f}{h}{d}{zas as'}{r}(hm:(aC false).m f=[])(hd:ce h [] zas=some (as',h,[]))(hc:bB R (aC false) h d zas (.fn f [] [])=r):IH R (aC false) d f (as',h,[])=r:=by
 grind[II]
theorem QW{i:Nat}{m}{lo w}{ds}{cs cs'}{p}(hR:R 241 [ac 1000,I i,.fn 242 [] [ac 1001,ac 1002,ac 1003,ac 1004]] [bV ds cs p,.bx [I m],.bx [ac 1000],je lo,je w]=some (.tup [],[bV ds cs' p,.bx [I m],.bx [ac 1000],je lo,je w])){h}{d}(h0:h 1000=bV ds cs p)(h1:h 8=.bx [I m])(h2:h 3=.bx [ac 1000])(h3:h 6=je lo)(h4:h 7=je w)(hf:h (2000+8*d)=.dead):
  bB R (aC false) h d [ac 1000,I i,.fn 242 [] [ac 8,ac 3,ac 6,ac 7]] (.fn 241 [] [])=some (.tup [],upd (upd (upd (upd (upd h 1000 (bV ds cs' p)) 8 (.bx [I m])) 3 (.bx [ac 1000])) 6 (je lo)) 7 (je w),[(1000,true),(8,true),(3,true),(6,true),(7,true)]):=by
 have hre:bU h 40 [1000,8,3,6,7] 0=[1000,8,3,6,7]:=by
  have i0:lH (bV ds cs p)=[]:=(cK _ _ p).ids;have i1:lH (.bx [I m])=[]:=rfl;have i2:lH (.bx [ac 1000])=[1000]:=rfl;have i3:=(iu lo).ids;have i4:=(iu w).ids
  simp_all[bU,bC]
 unfold bB;rw[ax (by simp[kC,bL.1.2.1])];have hin:ce h [] [ac 1000,I i,.fn 242 [] [ac 8,ac 3,ac 6,ac 7]]=some ([ac 1000,I i,.fn 242 [] [ac 8,ac 3,ac 6,ac 7]],h,[]):=rfl;have hids:bC [] ([ac 1000,I i,.fn 242 [] [ac 8,ac 3,ac 6,ac 7]].flatMap cH)=[1000,8,3,6,7]:=rfl;simp only[dZ,bL.1.2.1,aBw,aBz,aBl,bL.1.1, *];have hn:bv [] [ac 1000,I i,.fn 242 [] [ac 8,ac 3,ac 6,ac 7]]=[ac 1000,I i,.fn 242 [] [ac 8,ac 3,ac 6,ac 7]]:=rfl;rw[hn];unfold ke;have hob:([1000,8,3,6,7].map fun a=>dY (bg [1000,8,3,6,7]) (h a))=[bV ds cs p,.bx [I m],.bx [ac 1000],je lo,je w]:=by
  simp only[List.map, *];rfl
 have hcl:([1000,8,3,6,7].all fun a=>aE [1000,8,3,6,7] (h a)&&!bX (h a))=true:=by
  simp only[aBO,List.all_nil, *];rfl
 rw[hob,hcl,aq (by rfl)];rw[show [ac 1000,I i,.fn 242 [] [ac 8,ac 3,ac 6,ac 7]].map (dS (bg [1000,8,3,6,7]))=[ac 1000,I i,.fn 242 [] [ac 1001,ac 1002,ac 1003,ac 1004]]from rfl,hR,aBl,bL.1.2.2.2,bL.1.2.1,tw];unfold eJ;rw[aq ⟨rfl,aBI rfl,aBI rfl,by simp[cj,cM],by grind[cY,je,bV,bf,bX],rfl⟩];rfl
theorem QX{i:Nat}{m}{ds}{cs cs'}{p}(hR:R 241 [ac 1000,I i,.fn 245 [] [ac 1001,ac 1002]] [bV ds cs p,.bx [I m],.bx [ac 1000]]=some (.tup [],[bV ds cs' p,.bx [I m],.bx [ac 1000]])){h}{d}(h0:h 1000=bV ds cs p)(h1:h 4=.bx [I m])(h2:h 2=.bx [ac 1000])(hf:h (2000+8*d)=.dead):
  bB R (aC false) h d [ac 1000,I i,.fn 245 [] [ac 4,ac 2]] (.fn 241 [] [])=some (.tup [],upd (upd (upd h 1000 (bV ds cs' p)) 4 (.bx [I m])) 2 (.bx [ac 1000]),[(1000,true),(4,true),(2,true)]):=by
 have hre:bU h 40 [1000,4,2] 0=[1000,4,2]:=by
  have i0:lH (bV ds cs p)=[]:=(cK _ _ p).ids;have i1:lH (.bx [I m])=[]:=rfl;have i2:lH (.bx [ac 1000])=[1000]:=rfl
  simp_all[bU,bC]
 unfold bB;rw[ax (by simp[kC,bL.1.2.1])];have hin:ce h [] [ac 1000,I i,.fn 245 [] [ac 4,ac 2]]=some ([ac 1000,I i,.fn 245 [] [ac 4,ac 2]],h,[]):=rfl;have hids:bC [] ([ac 1000,I i,.fn 245 [] [ac 4,ac 2]].flatMap cH)=[1000,4,2]:=rfl;simp only[dZ,bL.1.2.1,aBw,aBz,aBl,bL.1.1, *];have hn:bv [] [ac 1000,I i,.fn 245 [] [ac 4,ac 2]]=[ac 1000,I i,.fn 245 [] [ac 4,ac 2]]:=rfl;rw[hn];unfold ke;have hob:([1000,4,2].map fun a=>dY (bg [1000,4,2]) (h a))=[bV ds cs p,.bx [I m],.bx [ac 1000]]:=by
  simp only[List.map, *];rfl
 have hcl:([1000,4,2].all fun a=>aE [1000,4,2] (h a)&&!bX (h a))=true:=by
  simp only[aBO,List.all_nil, *];rfl
 rw[hob,hcl,aq (by rfl)];rw[show [ac 1000,I i,.fn 245 [] [ac 4,ac 2]].map (dS (bg [1000,4,2]))=[ac 1000,I i,.fn 245 [] [ac 1001,ac 1002]]from rfl,hR,aBl,bL.1.2.2.2,bL.1.2.1,tw];unfold eJ;rw[aq ⟨rfl,aBI rfl,aBI rfl,by simp[cj,cM],by grind[cY,bV,bf,bX],rfl⟩];rfl
theorem agE{h}{id id2}{cs}{a}(h1:h id2=.bx cs)(h2:h id=.bx [.any]):NH id 0 [ac id2] (a,h,[])=some (a,upd h id (.bx [ac id2]),[]):=by
 simp_all[bH,NH,uF,JK,inP,NG,Ei]
def FW(v:Nat)(c:Rd):List Rt:=if c.m.length=0 then []else [⟨kU v,c⟩]
def B5(v:Nat)(c:Rd):Rp:=⟨v,FW v c⟩
theorem Ti:∀v,bO (kU v)=0
 |0=>rfl
 |v+1=>by
  have:=Ti v;show bO (0::kU v)=0;simp[bO]at this⊢;exact this
theorem agF{v:Nat}{c}(h8:v<=8)(oc:Ok0 c)(vc:vd c=true)(h0:c.m.length≠0):VT v ⟨kU v,c⟩:=
 ⟨oc,by simp[kU],by omega,vc,h0,akW,by grind[Ti]⟩
theorem agG{call}{md}{s}{h}(ps acc d k z b l c rest):dy call md ps acc (⟨some d,none,.mkSl k z b l c⟩::rest) s h=kf call md ps acc rest s (some d) (fun _=>some ([],[di d])) ((qk (ev s l) (ev s c)).bind fun p=>if p.2*b<=140737488355328 then dw h d k (aBg p.1 z) p.1 []else none):=fG _ _ _ _ rfl
theorem ajH{v:Nat}{c}(h8:v<=8)(oc:Ok0 c)(vc:vd c=true):R 120 [I v,ae c] []=some (pV (B5 v c,0),[]):=by
 refine az Xq rfl ?_;have hv:=eG oc;rw[vc]at hv;have he:=CT (v:=v);have z1:qk (.v (.int .i64 v)) (.v (.int .i64 v))=some (v,v):=by
  simp only[qk];grind
 have z2:(v*8<=140737488355328)=True:=tt;have e1:((v:Int)<0)=False:=ff;have e2:(8< (v:Int))=False:=ff;simp only[ae,aj]at hv;by_cases h0:c.m.length=0
 ·have e3:(0< (c.m.length:Int))=False:=ff;simp only[B5,FW,aq h0];simp only[zL,ae,aj,go_sem,e1,e2,e3,hv,he,rk];obtain⟨o,hdn⟩:=DI (v:=v) (e:=0) (c:=.emp) (l:=[]) (d:=32) (id:=2168) (h:=upd (upd (upd (fun _=>.dead) 3 (.bx [B c.neg,lm c.m,I c.e])) 4 (.bx [I 0,.emp])) 2168 (.bx [I v,.emp,I 0])) rfl (.inr ⟨rfl,rfl⟩) rfl;have hd':=dQ (bG.1.2.1 false) rfl hdn;rw[hd'];have e4:pZ v (some [])=(⟨v,[]⟩,0):=rfl;rw[e4];simp only[pV,bo,go_sem]
 ·have e3:(0< (c.m.length:Int))=True:=tt;simp only[B5,FW,ax h0];simp only[zL,ae,aj,go_sem,e1,e2,e3,hv,he,rk,agG,z1,z2,YE];have k1:(0+v<=(kU v).length)=True:=eq_true (by simp[kU]);have k2:(aZ (kU v)).take v=aZ (kU v):=aBE (by grind[CW,kU]);simp only[↓reduceIte, *];have hadd:=dQ (aV.1.2.1 false) rfl (ri (d:=30) (id:=2168) (v:=v) (e:=0) (e':=0) (c:=.emp) (l:=[]) (x:=kU v) (q:=c) (h:=upd (upd (upd (upd (upd (fun _=>.dead) 3 (.bx [B c.neg,lm c.m,I c.e])) 4 (.bx [I 0,.emp])) 2168 (.bx [I v,.emp,I 0])) 28 (.ar 1 (aZ (kU v)))) 28 (.fz 1 (aZ (kU v)))) rfl (.inr ⟨rfl,rfl⟩) (.inl rfl) (OQ (agF h8 oc vc h0)));simp only[ae,aj,t3]at hadd;simp only[hadd,go_sem];rw[aq (by rfl)];obtain⟨o,hdn⟩:=DI (v:=v) (e:=0) (c:=.osl 4 (aT [⟨kU v,c⟩])) (l:=[⟨kU v,c⟩]) (d:=32) (id:=2168) (h:=upd (upd (upd (upd (upd (upd (fun _=>.dead) 3 (.bx [B c.neg,lm c.m,I c.e])) 4 (.bx [I 0,.emp])) 2168 (.bx [I v,.emp,I 0])) 28 (.ar 1 (aZ (kU v)))) 28 (.fz 1 (aZ (kU v)))) 2168 (.bx [I v,.osl 4 (aT [⟨kU v,c⟩]),I 0])) rfl (.inl rfl) rfl;have hd':=dQ (bG.1.2.1 false) rfl hdn;rw[hd'];have e4:pZ v (some [⟨kU v,c⟩])=(⟨v,[⟨kU v,c⟩]⟩,0):=rfl;have e5:=H2 [⟨kU v,c⟩];rw[e4];simp only[pV,bo,e5,go_sem]
theorem agH:vd aG=true:=δ
theorem ajI{c}{p}:bh p [aG,c]=bh p [c]:=by
 simp_all[bh,aBO,agH,aBt]
theorem agI:zI aG=0:=cT rfl
theorem agJ{c}{p}{up}:dq aG c p up=cx c p up:=by
 simp[dq,cx,ajI,agI,Int.zero_add]
theorem YI{p}(hp:bE p=true){up}:cx aG p up=(aG,0):=by
 simp_all[bE,aBk,decide_eq_true_eq,cx,bh,aBO,List.all_nil,agH,aq,agI,iL]
theorem ad9(h)(d)(r q)(p)(b):m9 h d (some (.tup [.obx [.osl 1 r,.osl 7 q,I p],B b],[]))=if bX (h (2000+8*d))&&bX (h (2000+8*d+1))then some (.tup [.ref (2000+8*d) none 0 0 0,B b],upd h (2000+8*d) (.bx [.osl 1 r,.osl 7 q,I p]),[])else none:=by
 simp[m9,cM,ku,gr,oE,aH,bH,be,bw,cj,mat,dp,ez]
theorem EP(h)(n)(g)(i j)(r):qH h n g 7 i j (some (7,r))=(r[i]?).bind fun row=>(mF n g row j).map fun a=>(a,h,[]):=rfl
theorem amF{y:Ri}(ox:OkI x)(oy:OkI y):R 243 [ac 1000,af x,af y] [bV ds cs p]=some (af (dk x y p),[bV ds cs p]):=by
 refine B3 Oo On (Cd false) rfl ?_;have h:=te ox oy (p:=p);generalize dk x y p=z at*
 simp only[af,am]at h;simp only[yM,af,am,bV,go_sem,h];exact lP Z Z Z (by rfl) (by simp only[go_sem])
theorem amG{y:Ri}(ox:OkI x)(oy:OkI y):R 244 [ac 1000,af x,af y] [bV ds cs p]=some (af (cU x y p),[bV ds cs p]):=by
 refine B3 Ot Oq (Ce false) rfl ?_;have h:=vE ox oy (p:=p);generalize cU x y p=z at*
 simp only[af,am]at h;simp only[yN,af,am,bV,go_sem,h];exact lP Z Z Z (by rfl) (by simp only[go_sem])
theorem VR(x:Ri):RT (af x):=⟨fun _=>rfl,fun _ _=>rfl,fun _=>rfl⟩
theorem Uz{y:Ri}(ox:OkI x)(oy:OkI y){d:Nat}(hh:h id=bV ds cs p)(hd:h (2000+8*d)=.dead):
  IH R (aC false) d 243 ([ac id,af x,af y],h,[])=some (af (dk x y p),upd h id (bV ds cs p),[]):=
 dQ (Ai false) rfl (LB (Ai false) (Cd false) (as':=[af x,af y]) (by rw[Na];simp only[af,am,go_sem]) Z Z hh (cK _ _ _) (cK _ _ _) (fun _=>rfl) (amF ox oy) (VR _) (aBI rfl) (by simp[cj,af,cM,hd,bX]))
theorem GM{y:Ri}(ox:OkI x)(oy:OkI y){d:Nat}(hh:h id=bV ds cs p)(hd:h (2000+8*d)=.dead):
  IH R (aC false) d 244 ([ac id,af x,af y],h,[])=some (af (cU x y p),upd h id (bV ds cs p),[]):=
 dQ (Aj false) rfl (LB (Aj false) (Ce false) (as':=[af x,af y]) (by rw[Nb];simp only[af,am,go_sem]) Z Z hh (cK _ _ _) (cK _ _ _) (fun _=>rfl) (amG ox oy) (VR _) (aBI rfl) (by simp[cj,af,cM,hd,bX]))
theorem Mw{α:Type}{f:α->List AV}(h:∀x,B8 (f x) (f x)=true):∀l:List α,JL (l.map f) (l.map f)=true
 |[]=>rfl
 |a::l=>by simp only[List.map,JL,h,Mw h l,aBt]
theorem aso(z:Int):B8 [I z] [I z]=true:=by simp[B8,Wc,Wb]
theorem apG(x:Ri):B8 (am x) (am x)=true:=by
 have h:∀m:List Nat,JL (aK m) (aK m)=true:=Mw fun x=>by simp[B8,Wc,Wb]
 simp[am,B8,Wc,Wb,lm,h]
theorem apH(ds:List Int)(cs:List Ri)(p:Int):LT (bV ds cs p) (bV ds cs p)=true:=by
 have h1:JL (aZ ds) (aZ ds)=true:=Mw aso ds;have h2:JL (cB cs) (cB cs)=true:=Mw apG cs;simp[bV,LT,B8,Wc,Wb,h1,h2]
theorem aea{h':ah}{d:Nat}{y:Ri}(hi:id<2000)(hh:h id=bV ds cs p)(hh':h' id=bV ds cs p):gu h d [ac id,af x,af y] h'=some ([id],[2000+8*d]):=by
 have hre:bU h 40 [id] 0=[id]:=by simp[bU,hh,(cK ds cs p).ids,bC]
 have hc:Di h h' [id]=[]:=by simp[Di,hh,hh',apH]
 show(if _ then _ else if _ then some ((bU h 40 [id] 0).map di,(Di h h' (bU h 40 [id] 0)).map di++[2000+8*d])else none)=_;rw[hre,hc,ax (by simp[dat,aH]),aq (by rfl)];simp[di,hi]
def kV(N:Nat)(cs:List Ri)(g:G):Prop:=cs.length=N/\∀k x,cs[k]?=some x->In (g k) x
theorem kV.get{g:G}(h:kV N cs g){k:Nat}(hk:k<N):∃x,cs[k]?=some x/\In (g k) x:=by
 have:k<cs.length:=by rw[h.1];exact hk
 exact⟨cs[k],aBp this,h.2 k _ (aBp this)⟩
theorem kV.set{N:Nat}{cs:List Ri}{g:G}(h:kV N cs g){k:Nat}{x:Ri}{y:Rat}(hx:In y x):kV N (cs.set k x) (gs g k y):=by
 refine⟨by rw[List.length_set];exact h.1,fun j z hz=>?_⟩;rw[List.getElem?_set]at hz;unfold gs;by_cases hj:k=j
 ·subst hj;rw[aq rfl]at hz;rw[aq rfl];split at hz
  ·cases hz;exact hx
  ·exact nomatch hz
 ·rw[ax hj]at hz;rw[ax fun h=>hj h.symm];exact h.2 j z hz
def unO(n:Nat)(lo w:Ri)(ds:List Int)(cs:List Ri)(p:Int)(h:ah):Prop:=h 1000=.bx [I n]/\h 1001=.bx [ac 1004]/\h 1002=je lo/\h 1003=je w/\h 1004=bV ds cs p
theorem Ig(id:Nat)(h:ah)(i:Nat)(xs:List AV)(a b:AV)(r:List (List AV)):Gg h 7 id 1 7 i 0 xs [] (.bx [a,.osl 7 r,b])=(tP 7 7 i 0 xs 7 r).map fun q=>(.und,upd h id (.bx [a,.osl 7 q,b]),[]):=rfl
theorem Ih{k:Nat}{u:Ri}(hk:k<cs.length):tP 7 7 k 0 (am u) 7 (cB cs)=some (cB (cs.set k u)):=by
 have h1:(cB cs)[k]?=some (am cs[k]):=by unfold cB;rw[aBS,aBp hk];rfl
 unfold tP;rw[aq rfl,h1];simp[setRow,am,cB,List.map_set]
attribute [-go_sem] tF in
theorem amH{ds:List Int}{p:Int}{i:Nat}{w:Ri}(hl:In l lo)(hN:f+n*st<N)(hN4:N<=400)(hn:n<=400):∀ (k:Nat),i+k<=n->∀ (cs:List Ri) (g:G),kV N cs g->∀ (s:aN) (h:ah) (X:Option (Ex×St)),ao 2 [0,1,2,3,4,5,13,14] (aD (ap R (aC false) jN) [0,1,2,3,4,5,8,9,13,14] [1000,1001,1002,1003,1004] s h)=X->
  s 0=I f->s 1=I st->s 2=ac 1000->s 3=ac 1001->s 4=ac 1002->s 5=ac 1003->s 8=I i->s 9=I ((i:Int)+k-1)->s 13=I n->s 14=I i->unO n lo w ds cs p h->
  ∃hh cs',X=some (.normal,⟨upd (upd (upd (upd (upd (upd (upd (upd cr 14 (I i)) 13 (I n)) 5 (ac 1003)) 4 (ac 1002)) 3 (ac 1001)) 2 (ac 1000)) 1 (I st)) 0 (I f),hh⟩)/\unO n lo w ds cs' p hh/\kV N cs' (ND l (fun j=>f+j*st) i k g):=by
 intro k;induction k with
 |zero=>
  intro hk cs g he s h X hX g0 g1 g2 g3 g4 g5 g8 g9 g13 g14 ho;subst hX;obtain⟨k0,k1,k2,k3,k4⟩:=ho;have e1:((i:Int)<=(i:Int)+((0:Nat):Int)-1)=False:=ff;have hg:=(cK ds cs p).cl [1000,1001,1002,1003,1004];have hlo:=(iu lo).cl [1000,1001,1002,1003,1004];have hw:=(iu w).cl [1000,1001,1002,1003,1004];rw[ai];refine⟨?hh0,cs,?_,?_,he⟩;rotate_left
  ·simp only[jN,go_sem,g0,g1,g2,g3,g4,g5,g8,g9,g13,g14,k0,k1,k2,k3,k4,hg,hlo,hw,e1];rfl
  ·exact⟨rfl,rfl,rfl,rfl,rfl⟩
 |succ k ih=>
  intro hk cs g he s h X hX g0 g1 g2 g3 g4 g5 g8 g9 g13 g14 ho;subst hX;obtain⟨k0,k1,k2,k3,k4⟩:=ho;have hm1:(i+k)*st<=n*st:=aBv _ ω;have hm2:(i+k+1)*st<=n*st:=aBv _ ω;have hs2:(i+k+1)*st=(i+k)*st+st:=by rw[aBG,Nat.one_mul]
  have e1:((i:Int)<=(i:Int)+((k+1:Nat):Int)-1)=True:=tt;have w1:IntKind.i64.wrap (((i:Int)+((k+1:Nat):Int)-1)*st)=(((i+k)*st:Nat):Int):=by
   rw[show((i:Int)+((k+1:Nat):Int)-1)=((i+k:Nat):Int)by omega,←Int.natCast_mul];exact i64_in _ ⟨by omega,by omega⟩
  have w2:aS ((f:Int)+(((i+k)*st:Nat):Int))=((f+(i+k)*st:Nat):Int):=wi;have w3:aS (((f+(i+k)*st:Nat):Int)+(st:Int))=((f+(i+k+1)*st:Nat):Int):=wi;have w4:IntKind.i64.wrap ((i:Int)+((k+1:Nat):Int)-1-1)=(i:Int)+(k:Int)-1:=by rw[i64_in _ ⟨by omega,by omega⟩];omega
  obtain⟨x,x1,x2⟩:=he.get (k:=f+(i+k)*st) ω;obtain⟨y,y1,y2⟩:=he.get (k:=f+(i+k+1)*st) ω;have hg:=(cK ds cs p).cl [1000,1001,1002,1003,1004];have hlo:=(iu lo).cl [1000,1001,1002,1003,1004];have hw:=(iu w).cl [1000,1001,1002,1003,1004];have cm:=fun(h:ah) (d:Nat) hh hd=>GM (ds:=ds) (cs:=cs) (p:=p) (h:=h) (d:=d) (id:=1004) hl.ok y2.ok hh hd;have pm:=jI (p:=p) hl y2;have ca:=fun(h:ah) (d:Nat) hh hd=>Uz (ds:=ds) (cs:=cs) (p:=p) (h:=h) (d:=d) (id:=1004) x2.ok pm.ok hh hd;have pa:=iq (p:=p) x2 pm;have q1:(cB cs)[f+(i+k)*st]?=some (am x):=by unfold cB;rw[aBS,x1];rfl
  have q2:(cB cs)[f+(i+k+1)*st]?=some (am y):=by unfold cB;rw[aBS,y1];rfl
  have i1:(0<=((f+(i+k)*st:Nat):Int))=True:=tt;have i2:(0<=((f+(i+k+1)*st:Nat):Int))=True:=tt;have i3:(((f+(i+k)*st:Nat):Int)< (cs.length:Int))=True:=eq_true (by rw[he.1];omega);have i4:(((f+(i+k+1)*st:Nat):Int)< (cs.length:Int))=True:=eq_true (by rw[he.1];omega);have sr1:∀u:Ri,tP 7 7 (f+(i+k)*st) 0 (am u) 7 (cB cs)=some (cB (cs.set (f+(i+k)*st) u)):=fun u=>Ih (by rw[he.1];omega);have ih':=ih ω _ _ (he.set (k:=f+(i+k)*st) pa);rw[ai];generalize aD _ _ _=L at ih'⊢;generalize cU lo y p=z at*
  generalize dk x z p=u at*
  simp only[bV,af,am]at cm ca;simp only[am]at q1 q2 sr1;simp only[bV]at k4 hg;simp only[je]at k2 k3 hlo hw;simp only[jN,go_sem,g0,g1,g2,g3,g4,g5,g8,g9,g13,g14,k0,k1,k2,k3,k4,hg,hlo,hw,e1,w1,w2,w3,w4,i1,i2,i3,i4,AT,EP,aBr,aBi,q1,q2];rw[cm _ _ Z Z];have fp:=fun(h h':ah) (d:Nat) (x y:Ri)=>aea (h:=h) (h':=h') (d:=d) (id:=1004) (ds:=ds) (cs:=cs) (p:=p) (x:=x) (y:=y) δ;simp only[bV,af,am]at fp;simp only[go_sem,fp];rw[ca _ _ Z Z];simp only[go_sem,fp,i1,i3,aBr,aBi,Ig,sr1,w4];exact ih' _ _ _ Z Z Z Z Z Z Z Z Z Z Z ⟨rfl,rfl,rfl,rfl,rfl⟩
theorem amI{ds:List Int}{p:Int}{w:Ri}(hl:In l lo)(hN:f+n*st<N)(hN4:N<=400)(hn:n<=400):∀ (k i:Nat),i+k=n->∀ (cs:List Ri) (g:G),kV N cs g->∀ (s:aN) (h:ah) (X:Option (Ex×St)),ao 0 [0,1,2,3,5] (aD (ap R (aC false) mH) [0,1,2,3,4,5,13,14] [1000,1001,1002,1003,1004] s h)=X->
  s 0=I f->s 1=I st->s 2=ac 1000->s 3=ac 1001->s 4=ac 1002->s 5=ac 1003->s 13=I n->s 14=I i->unO n lo w ds cs p h->
  ∃hh cs',X=some (.normal,⟨upd (upd (upd (upd (upd cr 5 (ac 1003)) 3 (ac 1001)) 2 (ac 1000)) 1 (I st)) 0 (I f),hh⟩)/\unO n lo w ds cs' p hh/\(∀a,a≠1000->a≠1001->a≠1002->a≠1003->a≠1004->hh a=.dead)/\kV N cs' (NE l (fun j=>f+j*st) k i g):=by
 intro k;induction k with
 |zero=>
  intro i hk cs g he s h X hX g0 g1 g2 g3 g4 g5 g13 g14 ho;subst hX;obtain⟨k0,k1,k2,k3,k4⟩:=ho;have e1:((i:Int)<n)=False:=ff;have hg:=(cK ds cs p).cl [1000,1001,1002,1003,1004];have hlo:=(iu lo).cl [1000,1001,1002,1003,1004];have hw:=(iu w).cl [1000,1001,1002,1003,1004];rw[ai];refine⟨?hh0,cs,?_,?_,?_,he⟩;rotate_left
  ·simp only[mH,go_sem,g0,g1,g2,g3,g4,g5,g13,g14,k0,k1,k2,k3,k4,hg,hlo,hw,e1];rfl
  ·exact⟨rfl,rfl,rfl,rfl,rfl⟩
  ·intro a a1 a2 a3 a4 a5;simp only[dv,a1,a2,a3,a4,a5,if_false]
 |succ k ih=>
  intro i hk cs g he s h X hX g0 g1 g2 g3 g4 g5 g13 g14 ho;subst hX;have ho':=ho;obtain⟨k0,k1,k2,k3,k4⟩:=ho;have e1:((i:Int)<n)=True:=tt;have w1:IntKind.i64.wrap ((n:Int)-1)=(i:Int)+((k+1:Nat):Int)-1:=by rw[i64_in _ ⟨by omega,by omega⟩];omega
  have w2:aS ((i:Int)+1)=((i+1:Nat):Int):=wi;have hg:=(cK ds cs p).cl [1000,1001,1002,1003,1004];have hlo:=(iu lo).cl [1000,1001,1002,1003,1004];have hw:=(iu w).cl [1000,1001,1002,1003,1004];have hu:=amH (ds:=ds) (p:=p) (w:=w) hl hN hN4 hn (i:=i) (k+1) ω cs g he;have ih':=ih (i+1) ω;rw[ai];generalize aD _ _ _=L at ih'⊢;simp only[mH,go_sem,g0,g1,g2,g3,g4,g5,g13,g14,k0,k1,k2,k3,k4,hg,hlo,hw,e1,w1];generalize hX:ao 2 _ _=X;obtain⟨hh,cs',rfl,ho2,he2⟩:=hu _ _ _ hX Z Z Z Z Z Z Z Z Z Z ⟨rfl,rfl,rfl,rfl,rfl⟩;simp only[go_sem,w2];exact ih' cs' _ he2 _ _ _ Z Z Z Z Z Z Z Z Z ho2
attribute [-go_sem] tF in
theorem amJ{ds:List Int}{p:Int}{lo:Ri}{u:Rat}(hw:In u w)(hN:f+n*st<N)(hN4:N<=400)(hn:n<=400):∀ (k j:Nat),j+k=n+1->∀ (cs:List Ri) (g:G),kV N cs g->∀ (sc:Ri) (b:Rat),In b sc->∀ (s:aN) (h:ah) (X:Option (Ex×St)),ao 4 [] (aD (ap R (aC false) jM) [0,1,2,3,5,11,12] [11,1000,1001,1002,1003,1004] s h)=X->
  s 0=I f->s 1=I st->s 2=ac 1000->s 3=ac 1001->s 5=ac 1003->s 11=ac 11->s 12=I j->h 11=je sc->unO n lo w ds cs p h->
  ∃hh cs',X=some (.normal,⟨fun _=>.any,hh⟩)/\unO n lo w ds cs' p hh/\kV N cs' (Uu u (fun j=>f+j*st) k j b g):=by
 intro k;induction k with
 |zero=>
  intro j hk cs g he sc b hb s h X hX g0 g1 g2 g3 g5 g11 g12 k11 ho;subst hX;obtain⟨k0,k1,k2,k3,k4⟩:=ho;have e1:((j:Int)<=n)=False:=ff;have hg:=(cK ds cs p).cl [11,1000,1001,1002,1003,1004];have hlo:=(iu lo).cl [11,1000,1001,1002,1003,1004];have hw:=(iu w).cl [11,1000,1001,1002,1003,1004];have hs:=(iu sc).cl [11,1000,1001,1002,1003,1004];rw[ai];refine⟨?hh0,cs,?_,?_,he⟩;rotate_left
  ·simp only[jM,go_sem,g0,g1,g2,g3,g5,g11,g12,k0,k1,k2,k3,k4,k11,hg,hlo,hw,hs,e1];rfl
  ·exact⟨rfl,rfl,rfl,rfl,rfl⟩
 |succ k ih=>
  intro j hk cs g he sc b hb s h X hX g0 g1 g2 g3 g5 g11 g12 k11 ho;subst hX;obtain⟨k0,k1,k2,k3,k4⟩:=ho;have hm1:j*st<=n*st:=aBv _ ω;have e1:((j:Int)<=n)=True:=tt;have w1:aS ((j:Int)*st)=((j*st:Nat):Int):=wi (Int.natCast_mul ..).symm ω;have w2:aS ((f:Int)+((j*st:Nat):Int))=((f+j*st:Nat):Int):=wi;have w4:aS ((j:Int)+1)=((j+1:Nat):Int):=wi;obtain⟨x,x1,x2⟩:=he.get (k:=f+j*st) ω;have hg:=(cK ds cs p).cl [11,1000,1001,1002,1003,1004];have hlo:=(iu lo).cl [11,1000,1001,1002,1003,1004];have hwo:=(iu w).cl [11,1000,1001,1002,1003,1004];have hs:=(iu sc).cl [11,1000,1001,1002,1003,1004];have cm:=fun(h:ah) (d:Nat) hh hd=>GM (ds:=ds) (cs:=cs) (p:=p) (h:=h) (d:=d) (id:=1004) hb.ok hw.ok hh hd;have pm:=jI (p:=p) hb hw;have ca:=fun(h:ah) (d:Nat) hh hd=>GM (ds:=ds) (cs:=cs) (p:=p) (h:=h) (d:=d) (id:=1004) x2.ok pm.ok hh hd;have pa:=jI (p:=p) x2 pm;have q1:(cB cs)[f+j*st]?=some (am x):=by unfold cB;rw[aBS,x1];rfl
  have i1:(0<=((f+j*st:Nat):Int))=True:=tt;have i3:(((f+j*st:Nat):Int)< (cs.length:Int))=True:=eq_true (by rw[he.1];omega);have sr1:∀u:Ri,tP 7 7 (f+j*st) 0 (am u) 7 (cB cs)=some (cB (cs.set (f+j*st) u)):=fun u=>Ih (by rw[he.1];omega);have ih':=ih (j+1) ω _ _ (he.set (k:=f+j*st) pa) _ _ pm;rw[ai];generalize aD _ _ _=L at ih'⊢;generalize cU sc w p=z at*
  generalize cU x z p=v at*
  simp only[bV,af,am]at cm ca;simp only[am]at q1 sr1;simp only[bV]at k4 hg;simp only[je]at k2 k3 k11 hlo hwo hs;simp only[jM,go_sem,g0,g1,g2,g3,g5,g11,g12,k0,k1,k2,k3,k4,k11,hg,hlo,hwo,hs,e1];rw[cm _ _ Z Z];have fp:=fun(h h':ah) (d:Nat) (x y:Ri)=>aea (h:=h) (h':=h') (d:=d) (id:=1004) (ds:=ds) (cs:=cs) (p:=p) (x:=x) (y:=y) δ;simp only[bV,af,am]at fp;simp only[go_sem,w1,w2,i1,i3,AT,EP,aBr,aBi,q1];rw[ca _ _ Z Z];simp only[go_sem,fp,i1,i3,aBr,aBi,Ig,sr1,w4];exact ih' _ _ _ Z Z Z Z Z Z Z Z Z ⟨rfl,rfl,rfl,rfl,rfl⟩
theorem QY{os:List Ob}(hm:(dx n).map h=os)(hc:(os.all fun o=>aE (dx n) o)=true):vG [] n h []=some (.tup [],os):=by
 have h1:((dx n).all fun i=>aE (dx n) (h i))=true:=by
  rw[←hm,List.all_map]at hc;exact hc
 unfold vG;rw[h1,hm];rfl
theorem My{f:FuncId}{fd:FD}{args:List AV}{os:List Ob}{r:α->AV×List Ob}{P:α->Prop}(hE:cQ.E f=none)(hC:cQ.C f=some fd)(hk:cQ.md.keep f=false)(h1:args.length=fd.np)(h2:os.length<=1000)
  (hz:∃a,lI false fd.rs fd.res os.length (ap R (aC false) fd.body (vH args) (au os))=some (r a)/\P a):∃a,R f args os=some (r a)/\P a:=by
 obtain⟨a,h3,h4⟩:=hz;exact⟨a,asn hE hC hk h1 h2 h3,h4⟩
theorem ajJ{ds:List Int}{p:Int}{u:Rat}{g:G}(hl:In l lo)(hw:In u w)(he:kV N cs g)(hN:f+n*st<N)(hN4:N<=400)(hn:n<=400):
  ∃cs',R 242 [I f,I st,ac 1000,ac 1001,ac 1002,ac 1003] [.bx [I n],.bx [ac 1004],je lo,je w,bV ds cs p]=some (.tup [],[.bx [I n],.bx [ac 1004],je lo,je w,bV ds cs' p])/\kV N cs' (QI l u n (fun j=>f+j*st) g):=by
 have h2:=amI (ds:=ds) (p:=p) (w:=w) hl hN hN4 hn n 0 (aBi _) cs g he;have h3:=fun(cs:List Ri) (g:G) he=>amJ (ds:=ds) (p:=p) (lo:=lo) (n:=n) (st:=st) (f:=f) hw hN hN4 hn n 1 (Nat.add_comm _ _) cs g he ⟨one,one,false⟩ 1 (by rw[←xf];exact jC fg.1 fg.2);have hi:=Le;have hp:=gR fg.2 fg.1;refine My fJ.2.1 fJ.2.2 (fJ.1.2.2.2 false) rfl (aBI rfl) ?_;have hgo:=(cK ds cs p).cl [1000,1001,1002,1003,1004];have hlo:=(iu lo).cl [1000,1001,1002,1003,1004];have hwo:=(iu w).cl [1000,1001,1002,1003,1004];simp only[ae,aj,af,am]at hi hp;simp only[uu,Cb,YF,go_sem];generalize hX:ao 0 _ _=X;obtain⟨hh,cs1,rfl,ho,hd,he1⟩:=h2 _ _ _ hX Z Z Z Z Z Z Z Z ⟨rfl,rfl,rfl,rfl,rfl⟩;obtain⟨k0,k1,k2,k3,k4⟩:=ho;have d1:=hd 2456 δ δ δ δ δ;have d2:=hd 2464 δ δ δ δ δ;have d3:=hd 11 δ δ δ δ δ;simp only[go_sem,hi,hp,d1,d2,d3];generalize hX:ao 4 _ _=X;obtain⟨hh2,cs2,rfl,ho,he2⟩:=h3 cs1 _ he1 _ _ _ hX Z Z Z Z Z Z Z Z ⟨k0,k1,k2,k3,k4⟩;obtain⟨k0,k1,k2,k3,k4⟩:=ho;refine⟨cs2,?_,he2⟩;simp only[go_sem];have hp5:dx 5=[1000,1001,1002,1003,1004]:=rfl;refine QY (by rw[hp5];simp only[List.map,k0,k1,k2,k3,k4]) ?_;simp only[hp5,aBO,List.all_nil,(cK ds cs2 p).cl,hlo,hwo];rfl
def CX(n:Nat):Rd:=bu false n 0
theorem abJ{n}(hn:n<=1000):(vd (CX n)=true/\Ok0 (CX n))/\qv (CX n)=n:=by
 have hr:s9 (ag (ab (CX n).m)) (CX n).e=true:=by
  unfold CX;by_cases h0:n=0
  ·subst h0;rfl
  ·obtain⟨g1,g2,g3,g4⟩:=rH (neg:=false) (e:=0) h0;have hb:ag n<=10:=bT.2 ω;rw[g1,g2];unfold s9;simp only[Bool.or_eq_true,aBk,decide_eq_true_eq];omega
 have hv:=HZ hr;have hb:=ye false n 0;refine⟨⟨hv,hb,aBU (wZ hv hb) δ⟩,?_⟩;have hc:cS (CX n)=(CX n,0):=by
  simp_all[cS,aq]
 have hz:zI (cS (CX n)).1=_:=Lr (q:=n) (u:=0) δ (by grind[cS,CX]);rw[hc]at hz;obtain⟨N,hN⟩:∃N,N=16384:=⟨_,rfl⟩;rw[show((0:Int)+16384).toNat=N by omega]at hz;unfold qv EQ;rw[hz,←hN,show((n*2^N:Nat):Int)=n*pQ N by rw[Int.natCast_mul,Int.natCast_pow,Rat.intCast_mul];rfl];grind[Ia]
theorem agK(hn:n<=1000):R 57 [I n] []=some (ae (CX n),[]):=by
 have:=DD (n:=n) (by grind[GD]);exact this
def beO(n:Nat)(ds:List Int)(cs:List Ri)(p:Int)(h:ah):Prop:=h 1000=.bx [I n]/\h 1001=.bx [ac 1002]/\h 1002=bV ds cs p/\h 1003=.dead
theorem gA{h h'}{d}{l}(hl:l.all dat=true):gu h d l h'=some ([],[2000+8*d]):=by
 rw[tF,aq hl]
attribute [-go_sem] tF in
theorem amK{ds:List Int}{p:Int}(hN:f+n*st<N)(hN4:N<=400)(hn:n<=400):∀ (k j:Nat),j+k=n->∀ (cs:List Ri) (g:G),kV N cs g->∀ (sc:Ri) (b:Rat),In b sc->∀ (s:aN) (h:ah) (X:Option (Ex×St)),ao 0 [0,1,2,3] (aD (ap R (aC false) jB) [0,1,2,3,6,7] [6,1000,1001,1002,1003] s h)=X->
  s 0=I f->s 1=I st->s 2=ac 1000->s 3=ac 1001->s 6=ac 6->s 7=I (j+1:Nat)->h 6=je sc->beO n ds cs p h->
  ∃hh cs',X=some (.normal,⟨upd (upd (upd (upd cr 3 (ac 1001)) 2 (ac 1000)) 1 (I st)) 0 (I f),hh⟩)/\beO n ds cs' p hh/\kV N cs' (NF n (fun j=>f+j*st) k (j+1) b g):=by
 intro k;induction k with
 |zero=>
  intro j hk cs g he sc b hb s h X hX g0 g1 g2 g3 g6 g7 k6 ho;subst hX;obtain⟨k0,k1,k2,k3⟩:=ho;have e1:(((j+1:Nat):Int)<=n)=False:=ff;have hg:=(cK ds cs p).cl [6,1000,1001,1002,1003];have hs:=(iu sc).cl [6,1000,1001,1002,1003];rw[ai];refine⟨?hh0,cs,?_,?_,he⟩;rotate_left
  ·simp only[jB,go_sem,g0,g1,g2,g3,g6,g7,k0,k1,k2,k3,k6,hg,hs,e1];rfl
  ·exact⟨rfl,rfl,rfl,rfl⟩
 |succ k ih=>
  intro j hk cs g he sc b hb s h X hX g0 g1 g2 g3 g6 g7 k6 ho;subst hX;obtain⟨k0,k1,k2,k3⟩:=ho;have hm1:(j+1)*st<=n*st:=aBv _ ω;have e1:(((j+1:Nat):Int)<=n)=True:=tt;have w0:aS ((n:Int)- ((j+1:Nat):Int))=(k:Int):=wi;have w5:aS ((k:Int)+1)=((k+1:Nat):Int):=wi;have w1:aS (((j+1:Nat):Int)*st)=(((j+1)*st:Nat):Int):=wi (Int.natCast_mul ..).symm ω;have w2:aS ((f:Int)+(((j+1)*st:Nat):Int))=((f+(j+1)*st:Nat):Int):=wi;have w4:aS (((j+1:Nat):Int)+1)=((j+1+1:Nat):Int):=wi;obtain⟨x,x1,x2⟩:=he.get (k:=f+(j+1)*st) ω;have hg:=(cK ds cs p).cl [6,1000,1001,1002,1003];have hs:=(iu sc).cl [6,1000,1001,1002,1003];obtain⟨t1,t2⟩:=abJ (n:=k+1) ω;obtain⟨u1,u2⟩:=abJ (n:=j+1) ω;have ci1:=agK (n:=k+1) ω;have ci2:=agK (n:=j+1) ω;have cp1:=gR t1.2 t1.1;have cp2:=gR u1.2 u1.1;have ip1:=jC t1.1 t1.2;have ip2:=jC u1.1 u1.2;rw[t2]at ip1;rw[u2]at ip2;have cm:=fun(h:ah) (d:Nat) hh hd=>GM (ds:=ds) (cs:=cs) (p:=p) (h:=h) (d:=d) (id:=1002) hb.ok ip1.ok hh hd;have pm:=jI (p:=p) hb ip1;have cd:=H8 pm.ok ip2.ok (p:=p);have pd:=If (p:=p) pm ip2;have cd2:=H8 x2.ok pd.ok (p:=p);have pd2:=If (p:=p) x2 pd;have hbe:b*((n:Rat)- (j+1:Nat)+1)/ (j+1:Nat)=b*((k+1:Nat):Rat)/ ((j+1:Nat):Rat):=by
   have:(n:Rat)=(j+(k+1):Nat):=by rw[hk]
   grind
  have q1:(cB cs)[f+(j+1)*st]?=some (am x):=by grind[cB]
  have i1:(0<=((f+(j+1)*st:Nat):Int))=True:=tt;have i3:(((f+(j+1)*st:Nat):Int)< (cs.length:Int))=True:=eq_true γ;have sr1:∀u:Ri,tP 7 7 (f+(j+1)*st) 0 (am u) 7 (cB cs)=some (cB (cs.set (f+(j+1)*st) u)):=fun u=>Ih γ;have ih':=ih (j+1) ω _ _ (he.set (k:=f+(j+1)*st) pd2) _ _ pd;have hdv:NF n (fun j=>f+j*st) (k+1) (j+1) b g=NF n (fun j=>f+j*st) k (j+1+1) (b*((k+1:Nat):Rat)/ ((j+1:Nat):Rat)) (gs g (f+(j+1)*st) (g (f+(j+1)*st)/ (b*((k+1:Nat):Rat)/ ((j+1:Nat):Rat)))):=by
   rw[←hbe];rfl
  rw[hdv,ai];generalize aD _ _ _=L at ih'⊢;generalize CX (k+1)=c1 at*
  generalize CX (j+1)=c2 at*
  generalize cU sc ⟨c1,c1,false⟩ p=z at*
  generalize jY z ⟨c2,c2,false⟩ p=v at*
  generalize jY x v p=y at*
  simp only[bV,af,am]at cm;simp only[ae,aj,af,am]at ci1 ci2 cp1 cp2 cd cd2;simp only[am]at q1 sr1;simp only[bV]at k2 hg;simp only[je]at k6 hs;simp only[jB,go_sem,g0,g1,g2,g3,g6,g7,k0,k1,k2,k3,k6,hg,hs,e1,w0,w5,ci1,cp1];have fp:=fun(h h':ah) (d:Nat) (x y:Ri)=>aea (h:=h) (h':=h') (d:=d) (id:=1002) (ds:=ds) (cs:=cs) (p:=p) (x:=x) (y:=y) δ;simp only[bV,af,am]at fp;have fp1:=fun(h h':ah) (d:Nat)=>fp h h' d sc ⟨c1,c1,false⟩;rw[cm _ _ Z Z];simp only[go_sem,fp1,gA,ci2,cp2,cd,w1,w2,i1,i3,AT,EP,aBr,aBi,q1,cd2,Ig,sr1,w4];exact ih' _ _ _ Z Z Z Z Z Z Z Z ⟨rfl,rfl,rfl,rfl⟩
attribute [-go_sem] tF in
theorem amL{ds:List Int}{p:Int}{j:Nat}(hN:f+n*st<N)(hN4:N<=400)(hn:n<=400):∀ (k:Nat),j+k<=n->∀ (cs:List Ri) (g:G),kV N cs g->∀ (s:aN) (h:ah) (X:Option (Ex×St)),ao 4 [0,1,2,3,8] (aD (ap R (aC false) fX) [0,1,2,3,8,9] [1000,1001,1002,1003] s h)=X->
  s 0=I f->s 1=I st->s 2=ac 1000->s 3=ac 1001->s 8=I (j+1:Nat)->s 9=I (j+k:Nat)->beO n ds cs p h->
  ∃hh cs',X=some (.normal,⟨upd (upd (upd (upd (upd cr 8 (I (j+1:Nat))) 3 (ac 1001)) 2 (ac 1000)) 1 (I st)) 0 (I f),hh⟩)/\beO n ds cs' p hh/\kV N cs' (QH (fun j=>f+j*st) j k g):=by
 intro k;induction k with
 |zero=>
  intro hk cs g he s h X hX g0 g1 g2 g3 g8 g9 ho;subst hX;obtain⟨k0,k1,k2,k3⟩:=ho;have e1:(((j+1:Nat):Int)<=((j+0:Nat):Int))=False:=ff;have hg:=(cK ds cs p).cl [1000,1001,1002,1003];rw[ai];refine⟨?hh0,cs,?_,?_,he⟩;rotate_left
  ·simp only[fX,go_sem,g0,g1,g2,g3,g8,g9,k0,k1,k2,k3,hg,e1];rfl
  ·exact⟨rfl,rfl,rfl,rfl⟩
 |succ k ih=>
  intro hk cs g he s h X hX g0 g1 g2 g3 g8 g9 ho;subst hX;obtain⟨k0,k1,k2,k3⟩:=ho;have hm1:(j+k+1)*st<=n*st:=aBv _ ω;have hs2:(j+k+1)*st=(j+k)*st+st:=γ
  have e1:(((j+1:Nat):Int)<=((j+(k+1):Nat):Int))=True:=tt;have w0:aS (((j+(k+1):Nat):Int)-1)=((j+k:Nat):Int):=wi;have w1:aS (((j+(k+1):Nat):Int)*st)=(((j+k+1)*st:Nat):Int):=wi (Int.natCast_mul ..).symm ω;have w2:aS ((f:Int)+(((j+k+1)*st:Nat):Int))=((f+(j+k+1)*st:Nat):Int):=wi;have w3:aS (((j+k:Nat):Int)*st)=(((j+k)*st:Nat):Int):=wi (Int.natCast_mul ..).symm ω;have w4:aS ((f:Int)+(((j+k)*st:Nat):Int))=((f+(j+k)*st:Nat):Int):=wi;obtain⟨x,x1,x2⟩:=he.get (k:=f+(j+k+1)*st) ω;obtain⟨y,y1,y2⟩:=he.get (k:=f+(j+k)*st) ω;have hg:=(cK ds cs p).cl [1000,1001,1002,1003];have ca:=fun(h:ah) (d:Nat) hh hd=>Uz (ds:=ds) (cs:=cs) (p:=p) (h:=h) (d:=d) (id:=1002) x2.ok y2.ok hh hd;have pa:=iq (p:=p) x2 y2;have q1:(cB cs)[f+(j+k+1)*st]?=some (am x):=by grind[cB]
  have q2:(cB cs)[f+(j+k)*st]?=some (am y):=by grind[cB]
  have i1:(0<=((f+(j+k+1)*st:Nat):Int))=True:=tt;have i2:(0<=((f+(j+k)*st:Nat):Int))=True:=tt;have i3:(((f+(j+k+1)*st:Nat):Int)< (cs.length:Int))=True:=eq_true γ;have i4:(((f+(j+k)*st:Nat):Int)< (cs.length:Int))=True:=eq_true γ;have sr1:∀u:Ri,tP 7 7 (f+(j+k+1)*st) 0 (am u) 7 (cB cs)=some (cB (cs.set (f+(j+k+1)*st) u)):=fun u=>Ih γ;have ih':=ih ω _ _ (he.set (k:=f+(j+k+1)*st) pa);have fp:=fun(h h':ah) (d:Nat) (x y:Ri)=>aea (h:=h) (h':=h') (d:=d) (id:=1002) (ds:=ds) (cs:=cs) (p:=p) (x:=x) (y:=y) δ;simp only[bV,af,am]at fp;rw[ai];generalize aD _ _ _=L at ih'⊢;generalize dk x y p=z at*
  simp only[bV,af,am]at ca;simp only[am]at q1 q2 sr1;simp only[bV]at k2 hg;simp only[fX,go_sem,g0,g1,g2,g3,g8,g9,k0,k1,k2,k3,hg,e1,w0,w1,w2,w3,w4,i1,i2,i3,i4,AT,EP,aBr,aBi,q1,q2];rw[ca _ _ Z Z];simp only[go_sem,fp,w0,i1,i3,aBr,aBi,Ig,sr1];exact ih' _ _ _ Z Z Z Z Z Z Z ⟨rfl,rfl,rfl,rfl⟩
theorem amM{ds}{p}(hN:f+n*st<N)(hN4:N<=400)(hn:n<=400):∀k j,j+k=n->∀cs g,kV N cs g->∀s h X,ao 2 [] (aD (ap R (aC false) jA) [0,1,2,3,8] [1000,1001,1002,1003] s h)=X->
  s 0=I f->s 1=I st->s 2=ac 1000->s 3=ac 1001->s 8=I (j+1:Nat)->beO n ds cs p h->
  ∃hh cs',X=some (.normal,⟨fun _=>.any,hh⟩)/\beO n ds cs' p hh/\kV N cs' (Uv (fun j=>f+j*st) k j g):=by
 intro k;induction k with
 |zero=>
  intro j hk cs g he s h X hX g0 g1 g2 g3 g8 ho;subst hX;obtain⟨k0,k1,k2,k3⟩:=ho;have e1:(((j+1:Nat):Int)<=n)=False:=ff;have hg:=(cK ds cs p).cl [1000,1001,1002,1003];rw[ai];refine⟨?hh0,cs,?_,?_,he⟩;rotate_left
  ·simp only[jA,go_sem,g0,g1,g2,g3,g8,k0,k1,k2,k3,hg,e1];rfl
  ·exact⟨rfl,rfl,rfl,rfl⟩
 |succ k ih=>
  intro j hk cs g he s h X hX g0 g1 g2 g3 g8 ho;subst hX;obtain⟨k0,k1,k2,k3⟩:=ho;have e1:(((j+1:Nat):Int)<=n)=True:=tt;have w2:aS ((j+1:Nat)+1)=(j+1+1:Nat):=wi;have hg:=(cK ds cs p).cl [1000,1001,1002,1003];have hu:=amL (ds:=ds) (p:=p) hN hN4 hn (j:=j) (k+1) ω cs g he;have ih':=ih (j+1) ω;rw[ai];simp only[jA,go_sem,g0,g1,g2,g3,g8,k0,k1,k2,k3,hg,e1];generalize hX:ao 4 _ _=X;obtain⟨hh,cs',rfl,ho2,he2⟩:=hu _ _ _ hX Z Z Z Z Z (by rw[hk];rfl) ⟨rfl,rfl,rfl,rfl⟩;simp only[go_sem,w2];exact ih' cs' _ he2 _ _ _ Z Z Z Z Z Z ho2
theorem ajK{ds}{cs}{p}{N f st n}{g}(he:kV N cs g)(hN:f+n*st<N)(hN4:N<=400)(hn:n<=400):
  ∃cs',R 245 [I f,I st,ac 1000,ac 1001] [.bx [I n],.bx [ac 1002],bV ds cs p]=some (.tup [],[.bx [I n],.bx [ac 1002],bV ds cs' p])/\kV N cs' (QJ n (fun j=>f+j*st) g):=by
 have h2:=amK (ds:=ds) (p:=p) hN hN4 hn n 0 (aBi _) cs g he ⟨one,one,false⟩ 1 (by rw[←xf];exact jC fg.1 fg.2);have h3:=fun cs g he=>amM (ds:=ds) (p:=p) (n:=n) (st:=st) (f:=f) hN hN4 hn n 0 (aBi _) cs g he;have hi:=Le;have hp:=gR fg.2 fg.1;refine My dA.2.1 dA.2.2 (dA.1.2.2.2 false) rfl (aBI rfl) ?_;simp only[ae,aj,af,am]at hi hp;simp only[oS,wR,YG,go_sem,hi,hp];generalize hX:ao 0 _ _=X;obtain⟨hh,cs1,rfl,ho,he1⟩:=h2 _ _ _ hX Z Z Z Z Z Z Z ⟨rfl,rfl,rfl,rfl⟩;obtain⟨k0,k1,k2,k3⟩:=ho;simp only[go_sem];generalize hX:ao 2 _ _=X;obtain⟨hh2,cs2,rfl,ho,he2⟩:=h3 cs1 _ he1 _ _ _ hX Z Z Z Z Z ⟨k0,k1,k2,k3⟩;obtain⟨k0,k1,k2,k3⟩:=ho;refine⟨cs2,?_,he2⟩;have hp3:dx 3=[1000,1001,1002]:=rfl;refine QY γ ?_;rfl
noncomputable def DJ:Cmd:=.ops [0,1,2,6,15,16] [cm 32 2,cm 33 7,cm 34 6,⟨(some 35),none,.call (.t 32) [.t 33,.t 34]⟩]
theorem FX:sQ=.seq (.ops [0,1,2,6,15,16,17] [b2 17 .lss 16 15]) (.seq (.cond (.t 17) (.skip) (.exit 0)) (.seq (.block 1 [0,1,2,6,15,16] (.seq (.ops [0,1,2,6,7,15,16] [cm 18 16,cm 7 18]) (.seq (.dops [0,1,2,6,7,15,16,31] [cm 19 7,cm 20 6,b2 21 .quo 19 20,cm 22 0,nk 23 22,fa 24 0 23,ld 25 1 24,cm 26 1,co 27 (.iadrS 1 (.t 25) (.t 26)),ld 28 1 27,co 29 (.bin .add (.t 28) (.c (I 1))),b2 30 .rem 21 29,co 31 (.bin .eql (.t 30) (.c (I 0)))] []) (.cond (.t 31) DJ (.skip))))) (.ops [0,1,2,6,15,16] [co 36 (.bin .add (.t 16) (.c (I 1))),cm 16 36]))):=rfl
structure LnO (cl:AV) (ds:List Int) (p:Int) (N k st n:Nat) (op:Nat->G->G) (o1 o2 o3 o4:Ob):Prop where
 c1:aE [1000,1001,1002,1003,1004] o1=true
 c2:aE [1000,1001,1002,1003,1004] o2=true
 c3:aE [1000,1001,1002,1003,1004] o3=true
 c4:aE [1000,1001,1002,1003,1004] o4=true
 c5:iS [1000,1001,1002,1003,1004] cl=cl
 run:∀ (f:Nat) (cs:List Ri) (g:G),kV N cs g->f<N->f/st% (n+1)=0->∀ (s:aN) (h:ah) (X:Option (Ex×St)),ap R (aC false) DJ s h=X->s 0=ac 1000->s 1=I k->s 2=cl->s 6=I st->s 7=I f->s 15=I N->s 16=I f->h 1000=bV ds cs p->h 1001=o1->h 1002=o2->h 1003=o3->h 1004=o4->h 2280=.dead->
  ∃cs' hh,X=some (.normal,⟨upd (upd (upd (upd (upd (upd cr 16 (I f)) 15 (I N)) 6 (I st)) 2 cl) 1 (I k)) 0 (ac 1000),hh⟩)/\hh 1000=bV ds cs' p/\hh 1001=o1/\hh 1002=o2/\hh 1003=o3/\hh 1004=o4/\kV N cs' (op f g)
theorem QZ{cl}{ds}{p}{N k st n}{op}{o1 o2 o3 o4}(L:LnO cl ds p N k st n op o1 o2 o3 o4)(hN4:N<=400)(hs:0<st)(hst:st<=400)(hn:n<=400)(hk:ds[k]?=some (n:Int)):
  ∀m i,i+m=N->∀cs g,kV N cs g->∀s h X,ao 0 [] (aD (ap R (aC false) sQ) [0,1,2,6,15,16] [1000,1001,1002,1003,1004] s h)=X->
  s 0=ac 1000->s 1=I k->s 2=cl->s 6=I st->s 15=I N->s 16=I i->h 1000=bV ds cs p->h 1001=o1->h 1002=o2->h 1003=o3->h 1004=o4->
  ∃cs' hh,X=some (.normal,⟨fun _=>.any,hh⟩)/\hh 1000=bV ds cs' p/\hh 1001=o1/\hh 1002=o2/\hh 1003=o3/\hh 1004=o4/\kV N cs' (ps op st n m i g):=by
 obtain⟨c1,c2,c3,c4,c5,lr⟩:=L;intro m;induction m with
 |zero=>
  intro i hm cs g he s h X hX g0 g1 g2 g6 g15 g16 k0 k1 k2 k3 k4;subst hX;have e1:((i:Int)<N)=False:=ff;have hg:=(cK ds cs p).cl [1000,1001,1002,1003,1004];rw[ai];refine⟨cs,?hh0,?_,?_,?_,?_,?_,?_,he⟩;rotate_left
  ·simp only[FX,go_sem,g0,g1,g2,g6,g15,g16,k0,k1,k2,k3,k4,hg,c1,c2,c3,c4,c5,e1];rfl
  all_goals rfl
 |succ m ih=>
  intro i hm cs g he s h X hX g0 g1 g2 g6 g15 g16 k0 k1 k2 k3 k4;subst hX;have e1:((i:Int)<N)=True:=tt;have hg:=(cK ds cs p).cl [1000,1001,1002,1003,1004];have w1:IntKind.i64.wrap (Int.tdiv i st)=(i/st:Nat):=by
   have:=Nat.div_le_self i st;grind[wi]
  have w2:aS (n+1)=(n+1:Nat):=wi;have w4:aS (i+1)=(i+1:Nat):=wi;have d1:((st:Int)=0)=False:=ff;have d2:(((n+1:Nat):Int)=0)=False:=ff;have hr:=lr i cs g he ω;have ih':=ih (i+1) ω;have hps:ps op st n (m+1) i g=ps op st n m (i+1) (if i/st% (n+1)=0 then op i g else g):=rfl;rw[hps,ai];generalize aD _ _ _=L at ih'⊢;have hkl:=(List.getElem?_eq_some_iff.1 hk).1;have i1:(0<=(k:Int))=True:=tt;have i2:((k:Int)< (ds.length:Int))=True:=tt;have q1:(aZ ds)[k]?=some [I n]:=by grind[aZ]
  by_cases h0:i/st% (n+1)=0
  ·have e2:(Int.tmod ((i/st:Nat):Int) ((n+1:Nat):Int)=0)=True:=eq_true γ;rw[aq h0];have hr:=hr h0;simp only[bV]at k0 hg;simp only[FX,go_sem,g0,g1,g2,g6,g15,g16,k0,k1,k2,k3,k4,hg,c1,c2,c3,c4,c5,e1,e2,w1,w2,d1,d2,tJ,AS,q1,i1,i2,aBr,aBi];generalize hX:ap R (aC false) DJ _ _=X;obtain⟨cs',hh,rfl,r0,r1,r2,r3,r4,he2⟩:=hr _ _ _ hX Z Z Z Z Z Z Z Z Z Z Z Z Z;simp only[go_sem,w4,c5];exact ih' cs' _ he2 _ _ _ Z Z Z Z Z Z Z r0 r1 r2 r3 r4
  ·have e2:(Int.tmod ((i/st:Nat):Int) ((n+1:Nat):Int)=0)=False:=eq_false γ;rw[ax h0];simp only[bV]at k0 hg;simp only[FX,go_sem,g0,g1,g2,g6,g15,g16,k0,k1,k2,k3,k4,hg,c1,c2,c3,c4,c5,e1,e2,w1,w2,w4,d1,d2,tJ,AS,q1,i1,i2,aBr,aBi];exact ih' cs g he _ _ _ Z Z Z Z Z Z Z Z Z Z Z Z
def dI(l:List Nat):List Int:=l.map Int.ofNat
def bS:List Nat->Nat->Nat
 |[],n=>n
 |d::l,n=>bS l (n*(d+1))
theorem Mz:∀ds (n:Nat),OY (dI ds) n=(bS ds n)
 |[],_=>rfl
 |d::ds,n=>by
  show OY (dI ds) (n*(Int.ofNat d+1))=(bS ds (n*(d+1)));rw[←Mz ds (n*(d+1)),Int.natCast_mul];rfl
theorem qh:∀ds n,0<n->n<=bS ds n
 |[],_,_=>aBh _
 |d::ds,n,h=>aBq (Nat.le_mul_of_pos_right n (Nat.succ_pos d)) (qh ds _ (Nat.mul_pos h (Nat.succ_pos d)))
theorem OZ:∀ds n,bS ds n=n*bS ds 1
 |[],n=>(Nat.mul_one n).symm
 |d::ds,n=>by
  show bS ds (n*(d+1))=n*bS ds (1*(d+1));rw[OZ ds (n*(d+1)),OZ ds (1*(d+1)),Nat.one_mul,aBH]
theorem Ju:∀ds k n d,ds[k]?=some d->bS ds n=bS (ds.take k) n*(d+1)*bS (ds.drop (k+1)) 1
 |d'::ds,0,n,d,h=>by
  have:d'=d:=γ
  subst this;exact OZ ds _
 |d'::ds,k+1,n,d,h=>Ju ds k (n*(d'+1)) d γ
 |[],_,_,_,h=>by grind
theorem abL{N st n H f}(hN:N=st*(n+1)*H)(hs:0<st)(hf:f<N)(h0:f/st% (n+1)=0):f+n*st<N:=by
 have h1:=aCb f st;have h2:=aBW f hs;have h3:=aCb (f/st) (n+1);rw[h0,aBR]at h3;generalize f/st/ (n+1)=q at*
 have h4:q<H:=by
  refine Nat.lt_of_mul_lt_mul_left (a:=st*(n+1)) ?_;rw[←hN,aBH,h3];omega
 have h5:st*(n+1)*(q+1)<=N:=by
  rw[hN];exact aCg _ h4
 rw[←h3]at h1;grind
theorem agL{dn}{cs}{p}{k:Nat}{lo w}{l u}{g}(hl:In l lo)(hw:In u w)(hk:dn[k]?=some n)(h8:dn.length<=8)(hb:∀d∈dn,d<=32)(hN4:bS dn 1<=400)(he:kV (bS dn 1) cs g):
  ∃cs',R 241 [ac 1000,I k,.fn 242 [] [ac 1001,ac 1002,ac 1003,ac 1004]] [bV (dI dn) cs p,.bx [I n],.bx [ac 1000],je lo,je w]=some (.tup [],[bV (dI dn) cs' p,.bx [I n],.bx [ac 1000],je lo,je w])/\
   kV (bS dn 1) cs' (ps (fun f=>QI l u n (fun j=>f+j*bS (dn.take k) 1)) (bS (dn.take k) 1) n (bS dn 1) 0 g):=by
 have hkl:=(List.getElem?_eq_some_iff.1 hk).1;have hn:=hb n (aBs hk);have hbI:∀d∈dI dn,0<=d/\d<=32:=fun d hd=>by
  obtain⟨x,hx,rfl⟩:=List.mem_map.1 hd;grind
 have hsp:=Ju dn k 1 n hk;have hs0:=qh (dn.take k) 1 δ;have hst:bS (dn.take k) 1<=400:=by
  refine aBq ?_ hN4;rw[hsp,aBH];exact Nat.le_mul_of_pos_right _ (Nat.mul_pos (Nat.succ_pos n) (qh _ 1 δ))
 have hstep:=fun(h:ah) d (hh:h 1000=bV (dI dn) cs p) hd=>dQ (oj false) rfl (LC (m:=k) (by grind[dI]) ω hbI (d:=d) hh hd);rw[show(dI dn).take k=dI (dn.take k)from(List.map_take ..).symm,show 1=((1:Nat):Int)from rfl,Mz]at hstep;generalize bS (dn.take k) 1=st at*
 generalize bS dn 1=N at*
 have L:LnO (.fn 242 [] [ac 1001,ac 1002,ac 1003,ac 1004]) (dI dn) p N k st n (fun f=>QI l u n (fun j=>f+j*st)) (.bx [I n]) (.bx [ac 1000]) (je lo) (je w):=by
  refine⟨rfl,rfl,(iu lo).cl _,(iu w).cl _,rfl,?_⟩;intro f cs g he hf h0 s h X hX g0 g1 g2 g6 g7 g15 g16 k0 k1 k2 k3 k4 kd;subst hX;obtain⟨cs',hR,he'⟩:=ajJ (ds:=dI dn) (p:=p) hl hw he (abL hsp ω hf h0) hN4 ω;have hc:=ad7 hR (d:=35) k0 k1 k2 k3 k4 kd;refine⟨cs',?hh0,?_,?_,?_,?_,?_,?_,he'⟩;rotate_left
  ·simp only[DJ,go_sem,g0,g1,g2,g6,g7,g15,g16,hc];rfl
  all_goals rfl
 refine My bL.2.1 bL.2.2 (bL.1.2.2.2 false) rfl (aBI rfl) ?_;have hll:=QZ L hN4 ω hst ω (by grind[dI]) N 0 (aBi _) cs g he;simp only[qw,wQ,YF,go_sem];rw[hstep _ _ Z Z];have hlen:cs.length=N:=by rw[he.1]
 have hgo:=(cK (dI dn) cs p).cl [1000,1001,1002,1003,1004];simp only[bV]at hgo⊢;simp only[go_sem,hlen,hgo,(iu lo).cl,(iu w).cl];generalize hX:ao 0 _ _=X;obtain⟨cs',hh,rfl,k0,k1,k2,k3,k4,he2⟩:=hll _ _ _ hX Z Z Z Z Z Z Z Z Z Z Z;refine⟨cs',?_,he2⟩;have hp5:dx 5=[1000,1001,1002,1003,1004]:=rfl;refine QY (by grind[List.map,bV]) ?_;rfl
theorem agM{dn}{cs}{p}{k:Nat}{g}(hk:dn[k]?=some n)(h8:dn.length<=8)(hb:∀d∈dn,d<=32)(hN4:bS dn 1<=400)(he:kV (bS dn 1) cs g):
  ∃cs',R 241 [ac 1000,I k,.fn 245 [] [ac 1001,ac 1002]] [bV (dI dn) cs p,.bx [I n],.bx [ac 1000]]=some (.tup [],[bV (dI dn) cs' p,.bx [I n],.bx [ac 1000]])/\
   kV (bS dn 1) cs' (ps (fun f=>QJ n (fun j=>f+j*bS (dn.take k) 1)) (bS (dn.take k) 1) n (bS dn 1) 0 g):=by
 have hkl:=(List.getElem?_eq_some_iff.1 hk).1;have hn:=hb n (aBs hk);have hbI:∀d∈dI dn,0<=d/\d<=32:=fun d hd=>by
  obtain⟨x,hx,rfl⟩:=List.mem_map.1 hd;grind
 have hsp:=Ju dn k 1 n hk;have hs0:=qh (dn.take k) 1 δ;have hst:bS (dn.take k) 1<=400:=by
  refine aBq ?_ hN4;rw[hsp,aBH];exact Nat.le_mul_of_pos_right _ (Nat.mul_pos (Nat.succ_pos n) (qh _ 1 δ))
 have hstep:=fun(h:ah) d (hh:h 1000=bV (dI dn) cs p) hd=>dQ (oj false) rfl (LC (m:=k) (by grind[dI]) ω hbI (d:=d) hh hd);rw[show(dI dn).take k=dI (dn.take k)from(List.map_take ..).symm,show 1=((1:Nat):Int)from rfl,Mz]at hstep;generalize bS (dn.take k) 1=st at*
 generalize bS dn 1=N at*
 have L:LnO (.fn 245 [] [ac 1001,ac 1002]) (dI dn) p N k st n (fun f=>QJ n (fun j=>f+j*st)) (.bx [I n]) (.bx [ac 1000]) .dead .dead:=by
  refine⟨rfl,rfl,rfl,rfl,rfl,?_⟩;intro f cs g he hf h0 s h X hX g0 g1 g2 g6 g7 g15 g16 k0 k1 k2 k3 k4 kd;subst hX;obtain⟨cs',hR,he'⟩:=ajK (ds:=dI dn) (p:=p) he (abL hsp ω hf h0) hN4 ω;have hc:=ad8 hR (d:=35) k0 k1 k2 kd;refine⟨cs',?hh0,?_,?_,?_,?_,?_,?_,he'⟩;rotate_left
  ·simp only[DJ,go_sem,g0,g1,g2,g6,g7,g15,g16,hc];rfl
  all_goals first|rfl|assumption
 refine My bL.2.1 bL.2.2 (bL.1.2.2.2 false) rfl (aBI rfl) ?_;have hll:=QZ L hN4 ω hst ω (by grind[dI]) N 0 (aBi _) cs g he;simp only[qw,wQ,YG,go_sem];rw[hstep _ _ Z Z];have hlen:cs.length=N:=by rw[he.1]
 have hgo:=(cK (dI dn) cs p).cl [1000,1001,1002,1003,1004];simp only[bV]at hgo⊢;simp only[go_sem,hlen,hgo];generalize hX:ao 0 _ _=X;obtain⟨cs',hh,rfl,k0,k1,k2,k3,k4,he2⟩:=hll _ _ _ hX Z Z Z Z Z Z Z Z Z Z Z;refine⟨cs',?_,he2⟩;have hp5:dx 3=[1000,1001,1002]:=rfl;refine QY (by grind[List.map,bV]) ?_;rfl
theorem amN{dn}{cs}{p}{k:Nat}{g}(hk:dn[k]?=some n)(h8:dn.length<=8)(hb:∀d∈dn,d<=32)(hN4:bS dn 1<=400)(he:kV (bS dn 1) cs g):
  ∃cs',R 208 [ac 1000,I k] [bV (dI dn) cs p]=some (.tup [],[bV (dI dn) cs' p])/\kV (bS dn 1) cs' (ps (fun f=>QJ n (fun j=>f+j*bS (dn.take k) 1)) (bS (dn.take k) 1) n (bS dn 1) 0 g):=by
 obtain⟨cs',hR,he'⟩:=agM (p:=p) hk h8 hb hN4 he;refine⟨cs',rh fy.2.1 fy.2.2 (fy.1.2.2.2 false) rfl ?_,he'⟩;have e3:(aZ (dI dn))[k]?=some [I n]:=by grind[aZ,dI]
 have e7:(0<=(k:Int))=True:=tt;have e8:(k< ((dI dn).length:Int))=True:=eq_true (by grind[dI]);have hl:=fun h d h0 h1 h2 hf=>YH (bL.1.2.1 false) rfl (QX hR (h:=h) (d:=d) h0 h1 h2 hf);simp only[bV]at hl⊢;simp only[qz,go_sem,aBi];rw[agE (cs:=[.osl 1 (aZ (dI dn)),.osl 7 (cB cs),I p]) Z Z];simp only[go_sem,e3,e7,e8,CW,aBr,aBi,tJ,AS];rw[hl _ _ Z Z Z Z];rfl
theorem amO{dn}{cs}{p}{k:Nat}{b}{g}(vl:vd b.lo=true/\Ok0 b.lo)(vh:vd b.hi=true/\Ok0 b.hi)(hk:dn[k]?=some n)(h8:dn.length<=8)(hb:∀d∈dn,d<=32)(hN4:bS dn 1<=400)(he:kV (bS dn 1) cs g):
  ∃cs',R 207 [ac 1000,I k,af b] [bV (dI dn) cs p]=some (.tup [],[bV (dI dn) cs' p])/\kV (bS dn 1) cs' (ps (fun f=>QI (qv b.lo) (qv b.hi-qv b.lo) n (fun j=>f+j*bS (dn.take k) 1)) (bS (dn.take k) 1) n (bS dn 1) 0 g):=by
 have i1:=jC vl.1 vl.2;have i2:=jC vh.1 vh.2;have i3:=AP (p:=p) i2 i1;obtain⟨cs',hR,he'⟩:=agL (p:=p) i1 i3 hk h8 hb hN4 he;refine⟨cs',rh jt.2.1 jt.2.2 (jt.1.2.2.2 false) rfl ?_,he'⟩;have e3:(aZ (dI dn))[k]?=some [I n]:=by grind[aZ,dI]
 have e7:(0<=(k:Int))=True:=tt;have e8:(k< ((dI dn).length:Int))=True:=eq_true (by grind[dI]);have hl:=fun h d h0 h1 h2 h3 h4 hf=>YH (bL.1.2.1 false) rfl (QW hR (h:=h) (d:=d) h0 h1 h2 h3 h4 hf);have p1:=gR vl.2 vl.1;have p2:=gR vh.2 vh.1;have p3:=Ms i2.ok i1.ok (p:=p);simp only[bV,je]at hl⊢;simp only[ae,aj,af,am]at p1 p2 p3;simp only[wK,af,am,go_sem,aBi];rw[agE (cs:=[.osl 1 (aZ (dI dn)),.osl 7 (cB cs),I p]) Z Z];simp only[go_sem,e3,e7,e8,CW,aBr,aBi,tJ,AS,p1,p2,p3];rw[hl _ _ Z Z Z Z Z Z];rfl
theorem ajL(hn:n<=400):R 278 [W 1,W n] []=some (.tup [W 0,W n],[]):=by
 refine az XI rfl ?_;have a1:eN .and (W 1) (W 4294967295)=some (W 1):=rfl;have a2:eN .and (W n) (W 4294967295)=some (W n):=by
  rw[Lg rfl ω,aB8 ω]
 have s1:eN .shr (W 1) (W 32)=some (W 0):=rfl;have s2:eN .shr (W n) (W 32)=some (W 0):=(yb (i:=n) (j:=32) (k:=32) Z Z δ).trans γ;have s3:eN .shr (W 0) (W 32)=some (W 0):=rfl;have a3:eN .and (W 0) (W 4294967295)=some (W 0):=rfl;have w1:IntKind.u64.wrap (1*n)=n:=ip ω ω;have w2:IntKind.u64.wrap (0*n)=0:=by rw[Int.zero_mul];rfl
 have w3:IntKind.u64.wrap (0+0)=0:=rfl;have w4:IntKind.u64.wrap (1*0)=0:=rfl;have w5:IntKind.u64.wrap (0*0)=0:=rfl;simp only[D4,go_sem,a1,a2,a3,s1,s2,s3,w1,w2,w3,w4,w5]
theorem amP(hn:n<=400):R 270 [W 1,W n] []=some (.tup [W 0,W n],[]):=by
 refine az adC rfl ?_;have h:=ajL hn;simp only[Hf,go_sem,h]
theorem ajM{X Z}{N}(hN:N<=400)(c:List Bool):∀k m,N-m<=k->1<=m->m<=N->∀s h Y,ao 0 [7] (aD (ap R (aC false) dm) [7,8] [30] s h)=Y->
  s 7=.rsl 30 none 7 0 N->s 8=I m->h 30=.ar 7 (aBg m X++aBg (N-m) Z)->
  ∃hh,Y=some (.normal,⟨upd cr 7 (.rsl 30 none 7 0 N),hh⟩)/\hh 30=.ar 7 (aBg N X):=by
 intro k;induction k with
 |zero=>
  intro m hk h1 hm s h Y hY g7 g8 k30;subst hY;have e:m=N:=ω
  subst e;have e1:((m:Int)<m)=False:=ff;rw[Nat.sub_self,List.replicate_zero,aBz]at k30;rw[ai];refine⟨?hh0,?_,?_⟩;rotate_left
  ·simp only[dm,go_sem,g7,g8,k30,e1];rfl
  ·rfl
 |succ k ih=>
  intro m hk h1 hm s h Y hY g7 g8 k30;by_cases hq:m=N
  ·exact ih m ω h1 hm s h Y hY g7 g8 k30
  subst hY;have e1:((m:Int)<N)=True:=tt;have e2:fm 7 (.rsl 30 none 7 0 N) (some (I m)) none none=some (.rsl 30 none 7 m (N-m)):=by grind[fm,me,lQ]
  have e3:fm 7 (.rsl 30 none 7 0 N) none (some (I m)) none=some (.rsl 30 none 7 0 m):=by grind[fm,me,lQ]
  obtain⟨q,hq2⟩:∃q,min (N-m) m=q:=⟨_,rfl⟩;have hq3:min m (N-m)=q:=ω
  have ih':=ih (m+q) ω ω ω;have hl:(aBg m X++aBg (N-m) Z).length=N:=γ
  have t1:List.take q (aBg m X++aBg (N-m) Z)=aBg q X:=by
   grind
  have t2:List.take m (aBg m X++aBg (N-m) Z)=aBg m X:=by
   grind
  have t3:List.drop (m+q) (aBg m X++aBg (N-m) Z)=aBg (N- (m+q)) Z:=by
   rw[List.drop_append,aBQ σ,aCk,aBw,List.drop_replicate];grind
  have t4:aBg m X++aBg q X=aBg (m+q) X:=List.replicate_append_replicate;have e4:(0+q<=N)=True:=tt;have e5:=eq_true hm;have w1:aS (m+q)=(m+q:Nat):=wi;rw[ai];simp only[dm,go_sem,g7,g8,k30,e1,e2,e3,hq2,hq3,hl,t1,t2,t3,t4,e4,e5,aCk,w1];apply ih'<;>rfl
theorem agN{x}(h1:1<=n)(hn:n<=400):R 239 [.sl 7 [am x],I n] []=some (.osl 7 (cB (aBg n x)),[]):=by
 refine az sU rfl ?_;have hm:=amP hn;have w1:IntKind.u64.wrap 1=1:=δ
 have w2:(0+1:Nat)=1:=rfl;have w3:IntKind.u64.wrap n=n:=ip rfl ω;have w4:aS n=n:=wi rfl ω;have e1:((0:Int)<0)=False:=ff δ;have e2:((n:Int)<0)=False:=ff;have e3:(9223372036854775807< (n:Int))=False:=ff;have z1:qk (.v (.int .i64 n)) (.v (.int .i64 n))=some (n,n):=by
  simp only[qk];grind
 have z2:(n*88<=140737488355328)=True:=tt;have tk:∀A:List AV,List.take n [A]=[A]:=fun A=>aBE ω;have hmin:=aCc h1;have dr:List.drop 1 (aBg n [B false,.emp,I 0,B false,.emp,I 0,B false])=aBg (n-1) [B false,.emp,I 0,B false,.emp,I 0,B false]:=List.drop_replicate;have hl:=ajM (X:=am x) (Z:=[B false,.emp,I 0,B false,.emp,I 0,B false]) hn [] n 1 ω (aBh _) h1;simp only[fF,j6,am,go_sem,aB0,aB1,w1,w2,w3,w4,hm,e1,e2,e3,z1,z2,tk,hmin,dr,aBB,aCk,true_and,Int.natCast_one];generalize hX:ao 0 _ _=X;obtain⟨hh,rfl,q⟩:=hl _ _ _ hX rfl rfl rfl;simp only[go_sem,q,aCk,aBi,aBh,if_true,aBl,aBZ];grind[cB,List.map_replicate]
theorem YJ{l}{i}(h:i<l.length):(dI l)[i]?=some ((l.getD i 0):Int):=by
 grind[dI]
theorem apI{l}{i}(h:i<l.length):(aZ (dI l))[i]?=some [I (l.getD i 0)]:=by
 grind[aZ,YJ]
theorem Ii(l):(dI l).length=l.length:=by simp[dI]
def Mx(dn dn' es:List Nat)(i:Nat):Prop:=dn'.length=dn.length/\(∀d∈dn',d<=32)/\(∀j,dn.getD j 0<=dn'.getD j 0)/\∀j,i<=j->es.getD j 0<=dn'.getD j 0
theorem amQ{v}{p}(h8:v<=8){es}(hes:es.length=v)(he32:∀e∈es,e<=32){o2 o8}(c2:∀l,aE l o2=true)(c8:∀l,aE l o8=true){A}{nA iA}:
  ∀ (k i:Nat),i+k=v->∀dn,dn.length=v->(∀d∈dn,d<=32)->∀s h X,ao 2 [2,6,26,27,28] (aD (ap R (aC false) n7) [2,6,26,27,28,33,34,35] [2,8,21,24,2624] s h)=X->s 2=ac 2->s 6=ac 24->s 26=.sl 4 (aT A)->s 27=I nA->s 28=I iA->s 33=.sl 1 (aZ (dI es))->s 34=I v->s 35=I i->h 2=o2->h 8=o8->h 21=.dead->h 24=.bx [.osl 1 (aZ (dI dn)),.emp,I p]->h 2624=.dead->
  ∃hh dn',X=some (.normal,⟨upd (upd (upd (upd (upd cr 28 (I iA)) 27 (I nA)) 26 (.sl 4 (aT A))) 6 (ac 24)) 2 (ac 2),hh⟩)/\hh 2=o2/\hh 24=.bx [.osl 1 (aZ (dI dn')),.emp,I p]/\hh 21=.dead/\hh 2624=.dead/\Mx dn dn' es i:=by
 intro k;induction k with
 |zero=>
  intro i hi dn hd hb s h X hX g2 g6 g26 g27 g28 g33 g34 g35 k2 k8 k21 k24 k2624;subst hX;have e1:(i< (v:Int))=False:=ff;have hc:=c2 [2,8,21,24,2624];have hc8:=c8 [2,8,21,24,2624];rw[ai];refine⟨?hh0,dn,?_,?_,?_,?_,?_,rfl,hb,fun _=>aBh _,fun j hj=>?_⟩;rotate_left
  ·simp only[n7,go_sem,g2,g6,g26,g27,g28,g33,g34,g35,k2,k8,k21,k24,k2624,hc,hc8,e1];rfl
  ·rfl
  ·rfl
  ·rfl
  ·rfl
  grind
 |succ k ih=>
  intro i hi dn hd hb s h X hX g2 g6 g26 g27 g28 g33 g34 g35 k2 k8 k21 k24 k2624;subst hX;have hlt:=ω
  have e1:(i< (v:Int))=True:=tt;have e2:=apI (l:=dn) (i:=i) ω;have e3:dX (aZ (dI es)) i=some (.ipt [I (es.getD i 0)]):=yf rfl (YJ ω);have e5:aS (i+1)=(i+1:Nat):=wi;have e6:(0<=(i:Int))=True:=tt;have e7:(i< ((dI dn).length:Int))=True:=eq_true (by grind[Ii]);have hc:=c2 [2,8,21,24,2624];have hc8:=c8 [2,8,21,24,2624];obtain⟨m,hm⟩:∃m,max (dn.getD i 0) (es.getD i 0)=m:=⟨_,rfl⟩;have em:(if(dn.getD i 0:Nat)< ((es.getD i 0):Int)then((es.getD i 0):Int)else(dn.getD i 0:Nat))=m:=by
   omega
  have e4:tP 1 1 i 0 [I m] 1 (aZ (dI dn))=some (aZ (dI (dn.set i m))):=by
   simp_all[tP,aq,setRow,aZ,dI,List.map_set]
  have hms:∀d∈dn.set i m,d<=32:=fun d hd2=>by
   rcases List.mem_or_eq_of_mem_set hd2 with h|h
   ·exact hb d h
   ·subst h;have h1:dn.getD i 0<=32:=by
     rw[aCl,aBp ω];exact hb _ (aBT _)
    have h2:es.getD i 0<=32:=by
     rw[aCl,aBp ω];exact he32 _ (aBT _)
    omega
  have ih':=ih (i+1) ω (dn.set i m) (by rw[List.length_set];exact hd) hms;rw[ai];generalize aD _ _ _=L at ih'⊢;simp only[n7,go_sem,g2,g6,g26,g27,g28,g33,g34,g35,k2,k8,k21,k24,k2624,hc,hc8,e1,e2,e3,e5,e6,e7,aBr,aBi,tJ,AS,amE,em,e4];generalize hX:ao 2 _ _=X;obtain⟨hh,dn',q1,q2,q3,q4,q5,m1,m2,m3,m4⟩:=ih' _ _ _ hX Z Z Z Z Z Z Z Z Z Z Z Z Z;refine⟨hh,dn',q1,q2,q3,q4,q5,by rw[m1,List.length_set],m2,fun j=>?_,fun j hj=>?_⟩
  all_goals grind
def Nt(v:Nat)(t:Rt)(es:List Nat):Prop:=t.exps=dI es/\es.length=v/\∀e∈es,e<=32
theorem amR{v}{p}(h8:v<=8){A}{E:List (List Nat)}(hA:A.length=E.length)(h5:A.length<=500)(hn:∀ (i:Nat) t es,A[i]?=some t->E[i]?=some es->Nt v t es){o2}(c2:∀l,aE l o2=true):
  ∀ (k i:Nat),i+k=A.length->∀dn,dn.length=v->(∀d∈dn,d<=32)->∀s h X,ao 0 [2,6] (aD (ap R (aC false) rW) [2,6,26,27,28] [2,21,24,2624] s h)=X->s 2=ac 2->s 6=ac 24->s 26=.sl 4 (aT A)->s 27=I A.length->s 28=I i->h 2=o2->h 21=.dead->h 24=.bx [.osl 1 (aZ (dI dn)),.emp,I p]->h 2624=.dead->
  ∃hh dn',X=some (.normal,⟨upd (upd cr 6 (ac 24)) 2 (ac 2),hh⟩)/\hh 2=o2/\hh 24=.bx [.osl 1 (aZ (dI dn')),.emp,I p]/\hh 21=.dead/\hh 2624=.dead/\dn'.length=v/\(∀d∈dn',d<=32)/\(∀j,dn.getD j 0<=dn'.getD j 0)/\∀a es,i<=a->E[a]?=some es->∀j,es.getD j 0<=dn'.getD j 0:=by
 intro k;induction k with
 |zero=>
  intro i hi dn hd hb s h X hX g2 g6 g26 g27 g28 k2 k21 k24 k2624;subst hX;have e1:(i< (A.length:Int))=False:=ff;have hc:=c2 [2,21,24,2624];rw[ai];refine⟨?hh0,dn,?_,?_,?_,?_,?_,hd,hb,fun _=>aBh _,fun a es ha he=>?_⟩;rotate_left
  ·simp only[rW,go_sem,g2,g6,g26,g27,g28,k2,k21,k24,k2624,hc,e1];rfl
  ·rfl
  ·rfl
  ·rfl
  ·rfl
  grind
 |succ k ih=>
  intro i hi dn hd hb s h X hX g2 g6 g26 g27 g28 k2 k21 k24 k2624;subst hX;have e1:(i< (A.length:Int))=True:=tt;obtain⟨t,ht⟩:∃t,A[i]?=some t:=⟨_,aBp ω⟩;obtain⟨es,hes⟩:∃es,E[i]?=some es:=⟨_,aBp ω⟩;obtain⟨n1,n2,n3⟩:=hn i t es ht hes;have e2:=my rfl ht;have e5:aS (i+1)=(i+1:Nat):=wi;have hc:=c2 [2,21,24,2624];have hg:=amQ (p:=p) h8 n2 n3 c2 (o8:=.bx [.sl 1 (aZ (dI es)),B t.c.neg,lm t.c.m,I t.c.e]) (fun _=>rfl) (A:=A) (nA:=A.length) (iA:=i) v 0 (aBi _) dn hd hb;have e3:(aZ (dI es)).length=v:=by rw[CW,Ii,n2]
  rw[dB,n1]at e2;have ih':=ih (i+1) ω;rw[ai];simp only[rW,go_sem,g2,g6,g26,g27,g28,k2,k21,k24,k2624,hc,e1,e2,e3];generalize hX:ao 2 _ _=X;obtain⟨hh,dn',rfl,q2,q24,q21,q2624,m1,m2,m3,m4⟩:=hg _ _ _ hX Z Z Z Z Z Z Z Z Z Z Z Z Z;simp only[go_sem,e5];generalize hX:ao 0 _ _=X;obtain⟨hh2,dn2,r1,r2,r3,r4,r5,u1,u2,u3,u4⟩:=ih' dn' ω m2 _ _ _ hX Z Z Z Z Z q2 q21 q24 q2624;grind
theorem UA:∀l d n,bS (l++[d]) n=bS l n*(d+1)
 |[],_,_=>rfl
 |a::l,d,n=>UA l d (n*(a+1))
theorem agO{dn:List Nat}{i}(h:i<dn.length):bS (dn.take (i+1)) 1=bS (dn.take i) 1*(dn.getD i 0+1):=by
 grind[List.take_add_one,UA]
theorem ajN{dn es:List Nat}{i s}(h:i<dn.length)(h2:i<es.length):pos (dn.drop i) (es.drop i) s=es.getD i 0*s+pos (dn.drop (i+1)) (es.drop (i+1)) (s*(dn.getD i 0+1)):=by
 rw[aBJ h,aBJ h2,aCl,aCl,aBp h,aBp h2];rfl
theorem amS{dn es}{cs}{p}{v}(h8:v<=8)(hd:dn.length=v)(hb:∀d∈dn,d<=32)(hN4:bS dn 1<=400)(hes:es.length=v)(he32:∀e∈es,e<=32){o2 o15}(c2:∀l,aE l o2=true)(c15:∀l,aE l o15=true){A}{nA iA}:
  ∀ (k i:Nat),i+k=v->∀at_,at_+pos (dn.drop i) (es.drop i) (bS (dn.take i) 1)<=400->∀s h X,ao 8 [6,15,16,82,83,84] (aD (ap R (aC false) lh) [6,15,16,82,83,84,89,90,91] [2,15,21,24,2624] s h)=X->s 6=ac 24->s 15=ac 15->s 16=I at_->s 82=.sl 4 (aT A)->s 83=I nA->s 84=I iA->s 89=.sl 1 (aZ (dI es))->s 90=I v->s 91=I i->h 2=o2->h 15=o15->h 21=.dead->h 24=bV (dI dn) cs p->h 2624=.dead->
  ∃hh,X=some (.normal,⟨upd (upd (upd (upd (upd (upd cr 84 (I iA)) 83 (I nA)) 82 (.sl 4 (aT A))) 16 (I (at_+pos (dn.drop i) (es.drop i) (bS (dn.take i) 1):Nat))) 15 (ac 15)) 6 (ac 24),hh⟩)/\hh 2=o2/\hh 15=o15/\hh 24=bV (dI dn) cs p/\(∀a,a≠2->a≠15->a≠24->hh a=.dead):=by
 intro k;induction k with
 |zero=>
  intro i hi at_ hat s h X hX g6 g15 g16 g82 g83 g84 g89 g90 g91 k2 k15 k21 k24 k2624;subst hX;have e1:(i< (v:Int))=False:=ff;have hc:=c2 [2,15,21,24,2624];have hc15:=c15 [2,15,21,24,2624];have hg:=(cK (dI dn) cs p).cl [2,15,21,24,2624];rw[aBQ (show dn.length<=i by omega)];have hp0:∀s,pos [] (es.drop i) s=0:=fun s=>by grind[pos]
  rw[hp0,aBR,ai];refine⟨?hh0,?_,?_,?_,?_,?_⟩;rotate_left
  ·simp only[lh,go_sem,g6,g15,g16,g82,g83,g84,g89,g90,g91,k2,k15,k21,k24,k2624,hc,hc15,hg,e1];rfl
  all_goals simp_all[dv,if_false,ite_self]
 |succ k ih=>
  intro i hi at_ hat s h X hX g6 g15 g16 g82 g83 g84 g89 g90 g91 k2 k15 k21 k24 k2624;subst hX;have e1:(i< (v:Int))=True:=tt;have e3:dX (aZ (dI es)) i=some (.ipt [I (es.getD i 0)]):=yf rfl (YJ ω);have e5:aS (i+1)=(i+1:Nat):=wi;have hbI:∀d∈dI dn,0<=d/\d<=32:=fun d hd=>by
   obtain⟨x,hx,rfl⟩:=List.mem_map.1 hd;grind
  have hst:=fun(h:ah) d (hh:h 24=bV (dI dn) cs p) hd=>dQ (oj false) rfl (LC (m:=i) (by grind[Ii]) ω hbI (d:=d) hh hd);rw[show(dI dn).take i=dI (dn.take i)from(List.map_take ..).symm,show 1=((1:Nat):Int)from rfl,Mz]at hst;rw[ajN ω ω,←agO ω,←aCe]at hat⊢;have ih':=ih (i+1) ω (at_+es.getD i 0*bS (dn.take i) 1) hat;generalize bS (dn.take i) 1=st at*
  generalize es.getD i 0=e at*
  have w1:aS (e*st)=(e*st:Nat):=wi (Int.natCast_mul ..).symm ω;have w2:aS (at_+(e*st:Nat))=(at_+e*st:Nat):=wi;have hc:=c2 [2,15,21,24,2624];have hc15:=c15 [2,15,21,24,2624];have hg:=(cK (dI dn) cs p).cl [2,15,21,24,2624];rw[ai];simp only[lh,go_sem,g6,g15,g16,g82,g83,g84,g89,g90,g91,k2,k15,k21,k24,k2624,hc,hc15,hg,e1,e3];rw[hst _ _ Z Z];simp only[go_sem,w1,w2,e5];apply ih'<;>rfl
def gT(dn:List Nat):List Rt->List (List Nat)->G->G
 |t::l,es::r,g=>gT dn l r (gs g (pos dn es 1) (qv t.c))
 |_,_,g=>g
theorem amT{dn}{p}{v}(h8:v<=8)(hd:dn.length=v)(hb:∀d∈dn,d<=32)(hN4:bS dn 1<=400){A}{E:List (List Nat)}(hA:A.length=E.length)(h5:A.length<=500)(hn:∀ (i:Nat) t es,A[i]?=some t->E[i]?=some es->Nt v t es/\pos dn es 1<bS dn 1/\vd t.c=true/\Ok0 t.c){o2}(c2:∀l,aE l o2=true):
  ∀ (k i:Nat),i+k=A.length->∀cs g,kV (bS dn 1) cs g->∀s h X,ao 6 [6] (aD (ap R (aC false) nZ) [6,82,83,84] [2,21,24,2624] s h)=X->s 6=ac 24->s 82=.sl 4 (aT A)->s 83=I A.length->s 84=I i->h 2=o2->h 21=.dead->h 24=bV (dI dn) cs p->h 2624=.dead->
  ∃hh cs',X=some (.normal,⟨upd cr 6 (ac 24),hh⟩)/\hh 24=bV (dI dn) cs' p/\kV (bS dn 1) cs' (gT dn (A.drop i) (E.drop i) g):=by
 intro k;induction k with
 |zero=>
  intro i hi cs g he s h X hX g6 g82 g83 g84 k2 k21 k24 k2624;subst hX;have e1:(i< (A.length:Int))=False:=ff;have hc:=c2 [2,21,24,2624];have hg:=(cK (dI dn) cs p).cl [2,21,24,2624];rw[aBQ (show A.length<=i by omega),ai];refine⟨?hh0,cs,?_,?_,he⟩;rotate_left
  ·simp only[nZ,go_sem,g6,g82,g83,g84,k2,k21,k24,k2624,hc,hg,e1];rfl
  ·rfl
 |succ k ih=>
  intro i hi cs g he s h X hX g6 g82 g83 g84 k2 k21 k24 k2624;subst hX;have hlt:i<A.length:=ω
  have e1:(i< (A.length:Int))=True:=tt;obtain⟨t,ht⟩:∃t,A[i]?=some t:=⟨_,aBp hlt⟩;obtain⟨es,hes⟩:∃es,E[i]?=some es:=⟨_,aBp ω⟩;obtain⟨⟨n1,n2,n3⟩,n4,n5,n6⟩:=hn i t es ht hes;have hgT:gT dn (A.drop i) (E.drop i) g=gT dn (A.drop (i+1)) (E.drop (i+1)) (gs g (pos dn es 1) (qv t.c)):=by
   have h1:A[i]=t:=Option.some.inj (by rw[←ht,aBp hlt]);have h2:E[i]'(by omega)=es:=Option.some.inj (by rw[←hes,aBp ω]);rw[aBJ hlt,aBJ (by omega:i<E.length),h1,h2];rfl
  have e2:=my rfl ht;have e5:aS (i+1)=(i+1:Nat):=wi;have e3:(aZ (dI es)).length=v:=by rw[CW,Ii,n2]
  rw[dB,n1]at e2;have h0:=amS (cs:=cs) (p:=p) h8 hd hb hN4 n2 n3 c2 (o15:=.bx [.sl 1 (aZ (dI es)),B t.c.neg,lm t.c.m,I t.c.e]) (fun _=>rfl) (A:=A) (nA:=A.length) (iA:=i) v 0 (aBi _) 0 (by
   show 0+pos dn es 1<=400;omega)
  have hp0:0+pos (dn.drop 0) (es.drop 0) (bS (dn.take 0) 1)=pos dn es 1:=aBi _;rw[hp0]at h0;have hpt:=gR n6 n5;have ih':=ih (i+1) ω _ _ (he.set (k:=pos dn es 1) (jC n5 n6));rw[hgT];generalize pos dn es 1=P at*
  have i1:(0<=(P:Int))=True:=tt;have i2:(P< (cs.length:Int))=True:=eq_true (by rw[he.1];omega);have sr1:tP 7 7 P 0 (am ⟨t.c,t.c,false⟩) 7 (cB cs)=some (cB (cs.set P ⟨t.c,t.c,false⟩)):=Ih γ;have hc:=c2 [2,21,24,2624];have hg:=(cK (dI dn) cs p).cl [2,21,24,2624];simp only[ae,aj,af,am]at hpt;simp only[am]at sr1;rw[ai];simp only[nZ,go_sem,g6,g82,g83,g84,k2,k21,k24,k2624,hc,hg,e1,e2,e3];generalize hX:ao 8 _ _=X;obtain⟨hh,rfl,q2,q15,q24,qd⟩:=h0 _ _ _ hX Z Z Z Z Z Z Z Z Z Z Z Z Z Z;have b1:=qd 2888 δ δ δ;have b2:=qd 2624 δ δ δ;have b3:=qd 21 δ δ δ;simp only[bV]at q24;simp only[go_sem,q15,q24,b1,hpt,i1,i2,aBr,aBi,Ig,sr1,e5];exact ih' _ _ _ Z Z Z Z Z q2 b3 rfl b2
theorem agP:∀dn es,dn.length=es.length->(∀j,es.getD j 0<=dn.getD j 0)->QQ dn es
 |[],[],_,_=>trivial
 |d::dn,e::es,h,hj=>⟨hj 0,agP dn es γ fun j=>hj (j+1)⟩
 |[],_::_,h,_=>by grind
 |_::_,[],h,_=>by grind
theorem O0:∀dn xs,xs.length=dn.length->∀n,Cg (rJ dn xs) n=bS dn n
 |[],[],_,_=>rfl
 |d::dn,x::xs,h,n=>O0 dn xs γ (n*(d+1))
 |[],_::_,h,_=>by grind
 |_::_,[],h,_=>by grind
theorem abM:∀dn (n:Nat),n<=400->EA (dI dn) n=none\/EA (dI dn) n=some ((bS dn n):Int)/\bS dn n<=400
 |[],n,h=>Or.inr ⟨rfl,h⟩
 |d::dn,n,h=>by
  have e:EA (dI (d::dn)) n=if 400<n*(Int.ofNat d+1)then none else EA (dI dn) (n*(Int.ofNat d+1)):=rfl
  have e2:n*(Int.ofNat d+1)=(n*(d+1):Nat):=by rfl
  rw[e,e2];split
  ·exact Or.inl rfl
  ·exact abM dn (n*(d+1)) ω
def GP(v:Nat)(A:List Rt)(E:List (List Nat))(p:Int)(r:AV×List Ob):Prop:=r=(.tup [.v (.pointer none),B false],[])\/∃dn cs,r=(.tup [.obx [.osl 1 (aZ (dI dn)),.osl 7 (cB cs),I p],B true],[])/\dn.length=v/\(∀d∈dn,d<=32)/\(∀es∈E,QQ dn es)/\bS dn 1<=400/\kV (bS dn 1) cs (gT dn A E fun _=>0)
theorem agQ{v}{p}(h8:v<=8){A}{E}(hA:A.length=E.length)(h5:A.length<=500)(hn:∀ (i:Nat) t es,A[i]?=some t->E[i]?=some es->Nt v t es/\vd t.c=true/\Ok0 t.c):
  ∃r,R 206 [.agg [I v,.sl 4 (aT A)],I p] []=some r/\GP v A E p r:=by
 have z1:qk (.v (.int .i64 v)) (.v (.int .i64 v))=some (v,v):=by
  simp only[qk];grind
 have z2:(v*8<=140737488355328)=True:=tt;have zr:aBg v [I 0]=aZ (dI (aBg v 0)):=by grind[aZ,dI,List.map_replicate]
 have hl:(aZ (dI (aBg v 0))).length=v:=γ
 have h4:=amR (p:=p) h8 hA h5 (fun i t es h1 h2=>(hn i t es h1 h2).1) (o2:=.bx [I v,.sl 4 (aT A)]) (fun _=>rfl) A.length 0 (aBi _) (aBg v 0) σ (fun d hd=>by grind);have hrl:=tq A;refine My (r:=fun a=>a) CC.2.1 CC.2.2 (CC.1.2.2.2 false) rfl (aBI rfl) ?_;have hh0:au []=fun _=>.dead:=by funext i;simp[au]
 simp only[BG,HE,hh0,go_sem,aB1,z1,z2,zr];rw[apF (k:=1) (rows:=aZ (dI (aBg v 0))) rfl hl.symm rfl δ];simp only[go_sem];generalize hX:ao 0 _ _=X;obtain⟨hh,dn,rfl,q2,q24,q21,q2624,d1,d2,d3,d4⟩:=h4 _ _ _ hX Z Z Z Z Z Z Z Z Z;have hdl:(dI dn).length=v:=by rw[Ii,d1]
 have hbI:∀d∈dI dn,0<=d/\d<=32:=fun d hd=>by
  obtain⟨x,hx,rfl⟩:=List.mem_map.1 hd;grind
 simp only[go_sem,q2,q24,q21,q2624,hdl,CW];generalize hX:ao 4 _ _=X;have hM:=asm (ds:=dI dn) (p:=p) hdl.symm ω hbI (o2:=.bx [I v,.sl 4 (aT A)]) (fun _=>rfl) _ _ _ hX Z Z Z Z Z Z q2 q21 q24 q2624;rcases abM dn 1 δ with hm| ⟨hm,h4⟩
 ·rw[show 1=((1:Nat):Int)from rfl,hm]at hM;obtain⟨hh2,rfl⟩:=hM;refine⟨_,?_,Or.inl rfl⟩;simp only[go_sem]
 rw[show 1=((1:Nat):Int)from rfl,hm]at hM;obtain⟨hh,rfl,q2,q24,qd⟩:=hM;have hle:∀es∈E,QQ dn es:=fun es he=>by
  obtain⟨i,hi⟩:=aB5 he;have hiE:=(List.getElem?_eq_some_iff.1 hi).1;have:=(hn i _ es (aBp ω) hi).1.2.1;exact agP dn es ω (d4 i es (aBB _) hi)
 have hpt:=gR aO.2 aO.1;have hrp:=agN (x:=QG) (qh dn 1 δ) h4;have h1:=amT (p:=p) h8 d1 d2 h4 hA h5 (fun i t es h1 h2=>by
  obtain⟨a,b,c⟩:=hn i t es h1 h2;refine⟨a,?_,b,c⟩;have hL:=hle es (aBs h2);have:=agv dn es (aBg dn.length 0) hL σ 1 0 δ
  simp_all[O0,aBi]) (o2:=.bx [I v,.sl 4 (aT A)]) (fun _=>rfl) A.length 0 (aBi _) (aBg (bS dn 1) QG) (fun _=>0) ⟨by simp,fun k x hx=>by
   rw[List.getElem?_replicate]at hx;split at hx
   ·cases hx;rw[←Hm];exact jC aO.1 aO.2
   grind⟩
 generalize aBg (bS dn 1) QG=cs0 at hrp h1;have b1:=qd 2600 δ δ;have b2:=qd 76 δ δ;have b3:=qd 2624 δ δ;have b4:=qd 21 δ δ;simp only[ae,aj,af,am,aG,QG]at hpt hrp;simp only[am,go_sem,q24,b1,b2,b3,hpt,hrp];rw[yk (h:=upd (upd (upd hh 76 _) 76 _) 2624 (.ar 7 (cB cs0))) (id:=24) (p:=1) (id2:=2624) (k:=7) (n:=cs0.length) rfl (aaY _).symm q24 δ γ];simp only[go_sem,apE,aCa,q2,hrl];generalize hX:ao 6 _ _=X;obtain⟨hh2,cs2,rfl,r24,he2⟩:=h1 _ _ _ hX Z Z Z Z q2 b4 Z Z;refine⟨_,?_,Or.inr ⟨dn,cs2,rfl,d1,d2,hle,h4,he2⟩⟩;simp only[bV]at r24;simp only[go_sem,r24];rw[aq (by rfl)];have e:tZ hh2 (ac 24)=some (.obx [.osl 1 (aZ (dI dn)),.osl 7 (cB cs2),I p]):=by
  have hp:bt 24=false:=rfl;simp[tZ,oG,acr, *];exact⟨rfl,rfl,rfl⟩
 rw[e];rfl
def tK:List Nat->List Rat->List (Nat×LF)
 |d::ds,t::ts=>(d,fun v=>dc t v d 0)::tK ds ts
 |_,_=>[]
theorem agR:∀ds ts,QP (tK ds ts)
 |d::ds,t::ts=>fun p hp=>by
  rcases List.mem_cons.1 hp with rfl|hp
  ·simp_all[QO]
  ·exact agR ds ts p hp
 |[],_=>fun _ h=>by grind[tK]
 |_::_,[]=>fun _ h=>by grind[tK]
theorem Tj:∀dn ts,ts.length=dn.length->∀n,Cg (tK dn ts) n=bS dn n
 |[],[],_,_=>rfl
 |d::dn,x::xs,h,n=>Tj dn xs γ (n*(d+1))
 |[],_::_,h,_=>by grind
 |_::_,[],h,_=>by grind
theorem YK:∀dn ts,ts.length=dn.length->∀d t,tK (dn++[d]) (ts++[t])=tK dn ts++[(d,fun v=>dc t v d 0)]
 |[],[],_,_,_=>rfl
 |d::dn,x::xs,h,d',t'=>by
  show _::tK (dn++[d']) (xs++[t'])=_::(tK dn xs++_);rw[YK dn xs (by simpa using h)]
 |[],_::_,h,_,_=>by grind
 |_::_,[],h,_,_=>by grind
theorem YL:∀a b n,bS (a++b) n=bS b (bS a n)
 |[],_,_=>rfl
 |d::a,b,n=>YL a b (n*(d+1))
theorem ajO{dn1 dn2}{n N}{xs2 ts1}(h1:ts1.length=dn1.length)(h2:xs2.length=dn2.length)(hN:N=bS (dn1++n::dn2) 1){x t lo w}(hx:x=lo+w*t)(g):
  jO (tK dn1 ts1++(n,fun v=>pl x v 0 (n+1))::rJ dn2 xs2) 1 0 g=
   jO (tK dn1 ts1++(n,fun v=>dc t v n 0)::rJ dn2 xs2) 1 0 (ps (fun f=>QJ n (fun j=>f+j*bS dn1 1)) (bS dn1 1) n N 0 (ps (fun f=>QI lo w n (fun j=>f+j*bS dn1 1)) (bS dn1 1) n N 0 g)):=by
 have hs:=qh dn1 1 δ;have ht1:=Tj dn1 ts1 h1 1;have ht2:=O0 dn2 xs2 h2;rw[YL]at hN;have hN:N=bS dn2 (bS dn1 1*(n+1)):=hN;generalize bS dn1 1=s at*
 have hi:∀f a b,f+a*s=f+b*s↔a=b:=fun f a b=>⟨fun h=>Nat.eq_of_mul_eq_mul_right ω (Nat.add_left_cancel h),fun h=>by rw[h]⟩;have c1:rN (n+1) fun v=>pl x v 0 (n+1):=Lu _ _ σ;have c2:rN (n+1) fun v=>pl t v 0 (n+1):=Lu _ _ σ;have c3:rN (n+1) fun v=>dc t v n 0:=QO _ _ σ;have key:∀L L' op g,rN (n+1) L->rN (n+1) L'->(∀f g,(∀a,(∀m,m<=n->a≠f+m*s)->op f g a=g a)/\L (fun m=>g (f+m*s))=L' (fun m=>op f g (f+m*s)))->
   jO (tK dn1 ts1++(n,L)::rJ dn2 xs2) 1 0 g=jO (tK dn1 ts1++(n,L')::rJ dn2 xs2) 1 0 (ps op s n N 0 g):=fun L L' op g hL hL' hop=>by
  refine YD hL hL' (Mv dn2 xs2) (tK dn1 ts1) (agR dn1 ts1) 1 0 δ fun i0 q hi0 hq=>?_;rw[ht1]at hi0 hq⊢;refine(asj ω hL hL' hop N 0 g).2 _ (aBB _) ?_ ?_
  ·grind
  ·have e:i0+q*(s*(n+1))=i0+q*(n+1)*s:=γ
   rw[e,Nat.add_mul_div_right _ _ ω,Nat.div_eq_of_lt hi0,aBi,Nat.mul_mod_left]
 rw[key _ _ (fun f=>QI lo w n (fun j=>f+j*s)) g c1 c2 fun f g=>apx hx (hi f) n g];exact key _ _ (fun f=>QJ n (fun j=>f+j*s)) _ c2 c3 fun f g=>apy (hi f) n g
theorem agS{dn}{xs}(hx:xs.length=dn.length):∀A E g,A.length=E.length->(∀es∈E,QQ dn es)->E.Nodup->(∀es∈E,g (pos dn es 1)=0)->(∀ (i:Nat) t es,A[i]?=some t->E[i]?=some es->t.exps=dI es)->
  jO (rJ dn xs) 1 0 (gT dn A E g)=jO (rJ dn xs) 1 0 g+fv xs A
 |[],[],g,_,_,_,_,_=>by
  show _=_+0;rw[Rat.add_zero];rfl
 |t::A,es::E,g,hA,hle,hnd,h0,hE=>by
  obtain⟨hn1,hn2⟩:=List.nodup_cons.1 hnd;have hes:=hE 0 t es Z Z;have hxn:xg t.exps=es:=by
   rw[hes];unfold xg dI;rw[List.map_map];exact(aBK (g:=fun c=>c) fun x _=>by simp).trans (aB2 _)
  show jO (rJ dn xs) 1 0 (gT dn A E (gs g (pos dn es 1) (qv t.c)))=_;rw[agS hx A E _ γ (fun e he=>hle e γ) hn2 (fun e he=>by
   unfold gs;rw[ax fun hq=>?_]
   ·grind
   ·have:=(abD dn e es (hle e γ) (hle es σ) 1 0 0 δ δ ω).2;grind) fun i u e h1 h2=>hE (i+1) u e h1 h2]
  rw[apz (Mv dn xs),h0 es σ];have hm:=abC dn es xs (hle es σ) hx 1 0 0 δ δ;grind[qv,zF,xg,fv]
 |[],_::_,_,h,_,_,_,_=>by grind
 |_::_,[],_,h,_,_,_,_=>by grind
theorem ajP{ls}(ok:QP ls)(s i):jO ls s i (fun _=>0)=0:=by
 have:=Tg (a:=0) (c:=0) (g:=fun _=>0) (h:=fun _=>0) ls ok s i;grind
theorem apJ{lo hi}{g}{dn}{ts}(hl:ts.length=dn.length)(ht:∀t∈ts,0<=t/\t<=1)(h:∀k,k<bS dn 1->lo<=g k/\g k<=hi):lo<=jO (tK dn ts) 1 0 g/\jO (tK dn ts) 1 0 g<=hi:=by
 refine abB (tK dn ts) ?_ 1 0 fun q hq=>?_
 ·have:∀dn ts,(∀t∈ts,0<=t/\t<=1)->∀p∈tK dn ts,∀v,(∀j,j<=p.1->lo<=v j/\v j<=hi)->lo<=p.2 v/\p.2 v<=hi:=by
   intro dn;induction dn with
   |nil=>grind[tK]
   |cons d dn ih=>
    intro ts ht p hp v hv;cases ts with
    |nil=>grind[tK]
    |cons t ts=>
     rcases List.mem_cons.1 hp with rfl|hp
     all_goals grind[YC]
  exact this dn ts ht
 grind[Tj]
theorem YM{l}(h:∀e∈l,0<=e):l=dI (xg l):=by
 grind[dI,xg,List.map_map,aBK,Int.toNat_of_nonneg,aB2]
def LD(l:List Rt):List (List Nat):=l.map fun t=>xg t.exps
theorem ajQ{v}{l}(c:Cl v l):(LD l).Nodup:=by
 have h1:=c.s.imp fun h=>(Us h).symm;unfold LD;rw[List.nodup_iff_pairwise_ne,List.pairwise_map];refine List.Pairwise.imp_of_mem (fun{a b} ha hb h he=>h ?_) h1;rw[YM fun e hx=>((c.t a ha).b e hx).1,YM fun e hx=>((c.t b hb).b e hx).1,he]
theorem akX{v:Nat}{l}(c:Cl v l)(i:Nat)(t)(es)(h1:l[i]?=some t)(h2:(LD l)[i]?=some es):Nt v t es/\vd t.c=true/\Ok0 t.c:=by
 have hm:=c.t t (aBs h1);unfold LD at h2;rw[aBS,h1]at h2;have h2:=Option.some.inj h2;subst h2;refine⟨⟨YM fun e hx=>(hm.b e hx).1,?_,fun e he=>?_⟩,hm.vc,hm.c⟩
 ·have:=hm.len;grind[xg,List.length_map]
 ·obtain⟨z,hz,rfl⟩:=List.mem_map.1 he;have:=hm.b z hz;omega
def qo(o:Option Rd):Rat:=qv (o.getD aG)
theorem Tk{x}:∀l o0 o1,(∀t∈l,t.exps=[0]/\o0=none\/t.exps=[1]/\o1=none)->l.Pairwise (fun a b=>a.exps≠b.exps)->∃p0 p1,CS l [o0,o1]=[p0,p1]/\qo p0+qo p1*x=qo o0+qo o1*x+fv [x] l
 |[],o0,o1,_,_=>⟨o0,o1,rfl,by show _=_+0;grind⟩
 |t::l,o0,o1,h,hp=>by
  obtain⟨p1,p2⟩:=List.pairwise_cons.1 hp;have q0:qo none=0:=Hm;unfold CS;rcases h t σ with⟨he,rfl⟩| ⟨he,rfl⟩
  ·have hs:[none,o1].set (y7 1 t.exps 0+1).toNat (some t.c)=[some t.c,o1]:=by rw[he];rfl
   rw[hs];obtain⟨a,b,e1,e2⟩:=Tk (x:=x) l (some t.c) o1 (fun u hu=>by
    grind) p2
   refine⟨a,b,e1,?_⟩;rw[e2];show qv t.c+_+_=_+(qv t.c*zF [x] (xg t.exps)+fv [x] l);rw[he,q0];show _=_+(qv t.c*(x^0*1)+_);grind
  ·have hs:[o0,none].set (y7 1 t.exps 0+1).toNat (some t.c)=[o0,some t.c]:=by rw[he];rfl
   rw[hs];obtain⟨a,b,e1,e2⟩:=Tk (x:=x) l o0 (some t.c) (fun u hu=>by
    grind) p2
   refine⟨a,b,e1,?_⟩;rw[e2];show _+qv t.c*x+_=_+(qv t.c*zF [x] (xg t.exps)+fv [x] l);rw[he,q0];show _=_+(qv t.c*(x^1*1)+_);grind
theorem agT{a}(oa:OkP a)(hl:GJ a=true)(h1:a.vars=1)(x):∃c m,Jk a=[c,m]/\fv [x] a.terms=qv c+qv m*x:=by
 obtain⟨hv,hd⟩:=al9 hl;obtain⟨cl,_⟩:=gj oa hv;obtain⟨p0,p1,e1,e2⟩:=Tk (x:=x) a.terms none none (fun t ht=>by
  obtain⟨s1,s2,s3,s4,s5⟩:=Mg hv ht;obtain⟨e,he⟩:=ama (s2.trans h1);have h3:=s1.2 e γ;grind[bO]) (cl.s.imp fun h=>(Us h).symm)
 refine⟨p0.getD aG,p1.getD aG,?_,?_⟩
 ·simp_all[Jk,odV,CS]
 grind[qo,Hm,p0]
theorem ajR{c m}{b}{x}{p}(vc:vd c=true/\Ok0 c)(vm:vd m=true/\Ok0 m)(hp:bE p=true)(hb:In x b)(hk:kI b=true):In (qv c+qv m*x) (Jl c m b p):=by
 rcases hb.k with⟨rfl,h1⟩| ⟨_,x1,x2⟩
 ·grind
 have hq:∀ {y},(gS m y).2=0->qv (gS m y).1=qv m*qv y:=fun{y} h=>by
  have h1:=al8 h;have h2:=(QM (z:=zI m*zI y) (r:=zI (gS m y).1) 16384).1 (Int.le_of_eq h1.symm);have h3:=(QM (z:=zI m*zI y) (r:=zI (gS m y).1) 16384).2 (Int.le_of_eq h1);unfold qv EQ;grind
 unfold Jl adX;split
 ·next h=>
  have v1:=Mh m (Uk m b);have v2:=Mh m (Ul m b);have ok:∀ {a b} {up},vd (dq a b p up).1=true/\Ok0 (dq a b p up).1:=fun{a b up}=>by
   grind[dq,vf,aO]
  have hm:qv m*qv (Uk m b)<=qv m*x/\qv m*x<=qv m*qv (Ul m b):=by
   unfold Uk Ul;by_cases hs:kj m<0
   ·have h0:=(Jt vm.1).2.1 hs;have a:=Rat.mul_le_mul_of_nonneg_left x1 (show 0≤-qv m by grind);have b:=Rat.mul_le_mul_of_nonneg_left x2 (show 0≤-qv m by grind);grind
   ·have h0:=Rat.not_lt.1 fun h=>hs ((Jt vm.1).2.2 h);grind[Rat.mul_le_mul_of_nonneg_left]
  refine VP ok ok (fun h=>?_) (fun h=>?_)
  all_goals grind[YB]
 ·exact Or.inl rfl
def nD:List Ri->List Rat->List Rat->Prop
 |b::dom,x::xs,t::ts=>x=qv b.lo+(qv b.hi-qv b.lo)*t/\0<=t/\t<=1/\nD dom xs ts
 |[],[],[]=>True
 |_,_,_=>False
theorem nD.len:∀ {dom} {xs ts},nD dom xs ts->xs.length=dom.length/\ts.length=dom.length
 |_::_,_::_,_::_,h=>by
  obtain⟨a,b⟩:=nD.len h.2.2.2;grind
 |[],[],[],_=>⟨rfl,rfl⟩
 |[],_::_,_,h=>h.elim
 |[],[],_::_,h=>h.elim
 |_::_,[],_,h=>h.elim
 |_::_,_::_,[],h=>h.elim
theorem nD.get:∀ {dom} {xs ts},nD dom xs ts->∀ {i:Nat} {b},dom[i]?=some b->∃x t,xs[i]?=some x/\ts[i]?=some t/\x=qv b.lo+(qv b.hi-qv b.lo)*t
 |b::_,x::_,t::_,h,0,b',hb=>by
  have:b=b':=γ
  subst this;exact⟨x,t,rfl,rfl,h.1⟩
 |_::_,_::_,_::_,h,i+1,b,hb=>nD.get h.2.2.2 (i:=i) γ
 |[],_,_,_,_,_,hb=>by grind
 |_::_,[],_,h,_,_,_=>h.elim
 |_::_,_::_,[],h,_,_,_=>h.elim
theorem nD.t01:∀ {dom} {xs ts},nD dom xs ts->∀t∈ts,0<=t/\t<=1
 |_::_,_::_,_::_,h,t,ht=>by
  rcases List.mem_cons.1 ht with rfl|ht
  ·exact⟨h.2.1,h.2.2.1⟩
  ·exact nD.t01 h.2.2.2 t ht
 |[],[],[],_,t,ht=>by grind
 |[],_::_,_,h,_,_=>h.elim
 |[],[],_::_,h,_,_=>h.elim
 |_::_,[],_,h,_,_=>h.elim
 |_::_,_::_,[],h,_,_=>h.elim
theorem ajS{dn}{i:Nat}(h:dn[i]?=some n):dn.take i++n::dn.drop (i+1)=dn/\dn.drop i=n::dn.drop (i+1)/\dn.take (i+1)=dn.take i++[n]:=by
 grind[List.take_append_drop,List.take_add_one]
theorem amU{dom}{dn}{p}{v}(h8:v<=8)(hd:dn.length=v)(hdl:dom.length=v)(hb:∀d∈dn,d<=32)(hN4:bS dn 1<=400)(od:∀b∈dom,VI b){c6}(hc6:aE [6,2368] (.bx c6)=true):
  ∀ (k i:Nat),i+k=v->∀cs g,kV (bS dn 1) cs g->∀s h X,ao 0 [6,9] (aD (ap R (aC false) oQ) [1,6,9,56,57] [6,2368] s h)=X->s 1=.sl 7 (cB dom)->s 6=ac 6->s 9=ac 2368->s 56=I v->s 57=I i->h 6=.bx c6->h 2368=bV (dI dn) cs p->
  ∃hh cs' g',X=some (.normal,⟨upd (upd cr 9 (ac 2368)) 6 (ac 6),hh⟩)/\hh 6=.bx c6/\hh 2368=bV (dI dn) cs' p/\(∀a,a≠6->a≠2368->hh a=.dead)/\kV (bS dn 1) cs' g'/\
   ∀xs ts,nD dom xs ts->jO (tK (dn.take i) (ts.take i)++rJ (dn.drop i) (xs.drop i)) 1 0 g=jO (tK dn ts) 1 0 g':=by
 intro k;induction k with
 |zero=>
  intro i hi cs g he s h X hX g1 g6 g9 g56 g57 k6 k2368;subst hX;have e1:(i< (v:Int))=False:=ff;have hg:=(cK (dI dn) cs p).cl [6,2368];rw[ai];refine⟨?hh0,cs,g,?_,?_,?_,?_,he,fun xs ts hp=>?_⟩;rotate_left
  ·simp only[oQ,go_sem,g1,g6,g9,g56,g57,k6,k2368,hc6,hg,e1];rfl
  ·rfl
  ·rfl
  ·simp_all[dv,if_false]
  ·obtain⟨l1,l2⟩:=hp.len;rw[aBE ω,aBE ω,aBQ ω];show jO (tK dn ts++[]) 1 0 g=_;grind
 |succ k ih=>
  intro i hi cs g he s h X hX g1 g6 g9 g56 g57 k6 k2368;subst hX;have hlt:=ω
  have e1:(i< (v:Int))=True:=tt;obtain⟨b,hb0⟩:∃b,dom[i]?=some b:=⟨_,aBp ω⟩;obtain⟨n,hn⟩:∃n,dn[i]?=some n:=⟨_,aBp ω⟩;have e2:=EI rfl hb0;have e5:aS (i+1)=(i+1:Nat):=wi;have vb:=od b (aBs hb0);have hg:=(cK (dI dn) cs p).cl [6,2368];obtain⟨cs1,hR1,he1⟩:=amO (p:=p) vb.1 vb.2 hn ω hb hN4 he;obtain⟨cs2,hR2,he2⟩:=amN (p:=p) hn ω hb hN4 he1;have hu:=fun(h:ah) d (hh:h 2368=bV (dI dn) cs p) (hd:h (2000+8*d)=.dead)=>dQ (jt.1.2.1 false) (by rfl) (Jo (jt.1.2.1 false) (jt.1.2.2.2 false) (zas:=[I i,af b]) (as':=[I i,af b]) (by rw[jt.1.1];simp only[af,am,go_sem]) Z Z hh (cK _ _ _) (cK _ _ _) (fun _=>rfl) hR1 ajh (d:=d) δ rfl);have hbn:=fun(h:ah) d (hh:h 2368=bV (dI dn) cs1 p) (hd:h (2000+8*d)=.dead)=>dQ (fy.1.2.1 false) (by rfl) (Jo (fy.1.2.1 false) (fy.1.2.2.2 false) (zas:=[I i]) (as':=[I i]) (by rw[fy.1.1];rfl) Z Z hh (cK _ _ _) (cK _ _ _) (fun _=>rfl) hR2 ajh (d:=d) δ rfl);have ih':=ih (i+1) ω _ _ he2;rw[ai];generalize aD _ _ _=L at ih'⊢;simp only[af,am]at e2 hu;simp only[oQ,go_sem,g1,g6,g9,g56,g57,k6,k2368,hc6,hg,e1,e2];rw[hu _ _ Z Z];simp only[go_sem];rw[hbn _ _ Z Z];simp only[go_sem,e5];generalize hX:ao 0 _ _=X;obtain⟨hh,cs',g',q1,q2,q3,q4,q5,q6⟩:=ih' _ _ _ hX Z Z Z Z Z Z Z;refine⟨hh,cs',g',q1,q2,q3,q4,q5,fun xs ts hp=>?_⟩;obtain⟨l1,l2⟩:=hp.len;obtain⟨x,t,hx,ht,hxt⟩:=hp.get hb0;rw[←q6 xs ts hp];obtain⟨d1,d2,d3⟩:=ajS hn;have hxd:xs.drop i=x::xs.drop (i+1):=by
   grind[aBJ]
  have htd:ts.take (i+1)=ts.take i++[t]:=by
   grind[List.take_add_one]
  rw[d2,d3,hxd,htd,YK _ _ γ,aCd];exact ajO γ γ (by rw[d1]) hxt g
theorem amV{ds}{p}{N}(hN:N<=400){cs}{g}(he:kV N cs g){c6}(hc6:aE [6,12,2368] (.bx c6)=true):∀k i,i+k=N->∀out,OkI out->(∀j,j<i->In (g j) out)->(∃q,In q out)->∀s h X,ao 2 [6,12] (aD (ap R (aC false) oO) [6,12,80,81,82] [6,12,2368] s h)=X->
  s 6=ac 6->s 12=ac 12->s 80=.rsl 2368 (some 1) 7 0 N->s 81=I N->s 82=I i->h 6=.bx c6->h 12=je out->h 2368=bV ds cs p->
  ∃hh out',X=some (.normal,⟨upd (upd cr 12 (ac 12)) 6 (ac 6),hh⟩)/\hh 6=.bx c6/\hh 12=je out'/\OkI out'/\(∀j,j<N->In (g j) out'):=by
 intro k;induction k with
 |zero=>
  intro i hi out oo ho hq s h X hX g6 g12 g80 g81 g82 k6 k12 k2368;subst hX;have e1:(i< (N:Int))=False:=ff;have hg:=(cK ds cs p).cl [6,12,2368];have hoc:=(iu out).cl [6,12,2368];rw[ai];refine⟨?hh0,out,?_,?_,?_,oo,fun j hj=>ho j ω⟩;rotate_left
  ·simp only[oO,go_sem,g6,g12,g80,g81,g82,k6,k12,k2368,hc6,hg,hoc,e1];rfl
  ·rfl
  ·rfl
 |succ k ih=>
  intro i hi out oo ho hq s h X hX g6 g12 g80 g81 g82 k6 k12 k2368;subst hX;have e1:(i< (N:Int))=True:=tt;have e5:aS (i+1)=(i+1:Nat):=wi;obtain⟨x,x1,x2⟩:=he.get (k:=i) ω;have q1:(cB cs)[i]?=some (am x):=by grind[cB]
  have i1:(0<=(i:Int))=True:=tt;have hg:=(cK ds cs p).cl [6,12,2368];have hoc:=(iu out).cl [6,12,2368];have ch:=ajA oo x2.ok;have ih':=ih (i+1) ω (Mt out x) (by
   obtain⟨q,hq⟩:=hq;exact(Jr hq x2).1.ok) (fun j hj=>by
   obtain⟨q,hq⟩:=hq;by_cases hji:j=i
   ·subst hji;exact(Jr hq x2).2
   ·exact(Jr (ho j ω) x2).1) ⟨_,(Jr hq.choose_spec x2).1⟩
  rw[ai];simp only[af,am]at ch;simp only[am]at q1;simp only[bV]at k2368 hg;simp only[je]at k12 hoc;simp only[oO,go_sem,g6,g12,g80,g81,g82,k6,k12,k2368,hc6,hg,hoc,e1,i1,AT,EP,aBr,aBi,q1,ch,e5];apply ih'<;>rfl
def BrG(a:Rp)(dom:List Ri)(p:Int)(b:Ri):Prop:=(∀xs ts,nD dom xs ts->In (fv xs a.terms) b)/\((mW a dom&&bE p)=false->b=cG)
theorem nD.inL:∀ {dom} {xs ts},(∀b∈dom,kI b=true/\VI b)->nD dom xs ts->InL xs dom
 |b::_,x::_,t::_,hk,h=>by
  obtain⟨h1,h2,h3,h4⟩:=h;obtain⟨k1,k2⟩:=hk b σ;refine⟨Or.inr ⟨?_,k2,?_⟩,nD.inL (fun b hb=>hk b γ) h4⟩
  ·unfold kI at k1;grind
  ·have hle:qv b.lo<=qv b.hi:=by
    rw[uD];unfold kI vi at k1;grind
   have a:=Rat.mul_nonneg (show 0<=qv b.hi-qv b.lo by grind) h2;have b:=Rat.mul_nonneg (show 0<=qv b.hi-qv b.lo by grind) (show 0<=1-t by grind);grind
 |[],[],[],_,_=>trivial
 |[],_::_,_,_,h=>h.elim
 |[],[],_::_,_,h=>h.elim
 |_::_,[],_,_,h=>h.elim
 |_::_,_::_,[],_,h=>h.elim
theorem Q0{a}{dom}(od:∀x∈dom,OkI x)(hd:mW a dom=true):vp a=true/\dom.length=a.vars/\∀b∈dom,kI b=true/\VI b:=by
 unfold mW at hd;simp only[aBk,decide_eq_true_eq,aCi,List.any_eq_false]at hd;refine⟨hd.1,hd.2.1,fun b hb=>?_⟩;have h1:kI b=true:=by
  grind
 have h2:=h1;unfold kI vi at h2;cases ha:b.all with
 |true=>grind
 |false=>
  rw[ha]at h2;simp at h2;have:=od b hb;exact⟨h1,⟨h2.1,this.lo⟩,⟨h2.2.1,this.hi⟩⟩
theorem YN{a}{dom}(oa:OkP a)(od:∀x∈dom,OkI x)(h2:dom.length<=100000){p}:∃b,R 161 [bo a,.sl 7 (cB dom),I p] []=some (af b,[])/\BrG a dom p b:=by
 have hf:=Md oa od h2 (p:=p);have hw:=Jj;cases hq:(mW a dom&&bE p)with
 |false=>
  rw[hq]at hf;refine⟨cG,?_,fun _ _ _=>Or.inl rfl,fun _=>rfl⟩;refine az lq rfl ?_;simp only[bo,af,am,cG,aG]at hf hw;simp only[iH,lg,bo,af,am,cG,aG,go_sem,hf,hw]
 |true=>
  rw[hq]at hf;have hdp:=hq;rw[aBk]at hdp;obtain⟨hd,hp⟩:=hdp;obtain⟨hv,hl,hk⟩:=Q0 od hd;obtain⟨cl,v0,v8,h5⟩:=gj oa hv;have nf:(mW a dom&&bE p)=false->∀b,b=cG:=fun h=>by grind
  by_cases hlin:GJ a=true/\a.vars=1
  ·obtain⟨x,rfl⟩:∃x,dom=[x]:=List.length_eq_one_iff.1 ω;obtain⟨c,m,e1,_⟩:=agT oa hlin.1 hlin.2 0;have hx:=hk x σ;obtain⟨k1,_⟩:=aa8 oa hv;rw[e1]at k1;refine⟨Jl c m x p,ajc oa od ω hlin.1 hlin.2 e1 rfl,fun xs ts hpt=>?_,fun h=>nf h _⟩;obtain⟨l1,l2⟩:=hpt.len;obtain⟨y,rfl⟩:∃y,xs=[y]:=List.length_eq_one_iff.1 l1;have hin:=nD.inL (fun b hb=>hk b hb) hpt;obtain⟨c',m',e3,e2⟩:=agT oa hlin.1 hlin.2 y;rw[e1]at e3;injection e3 with g1 g2
   injection g2 with g2
   subst g1;subst g2;rw[e2];exact ajR (k1 c σ) (k1 m σ) hp hin.1 hx.1
  ·obtain⟨v,hvv⟩:=aCj v0;have hL:=Uj oa;obtain⟨r,hg,hgp⟩:=agQ (v:=v) (p:=p) ω (A:=a.terms) (E:=LD a.terms) (by simp[LD]) h5 (fun i t es h1 h2=>akX (hvv▸cl) i t es h1 h2);have hcc:∃L b,Yg a=.tup [DC L,B b]/\(b=true->¬a.vars=1):=by
    grind[Yg,absurd]
   obtain⟨L,bl,e1,e2⟩:=hcc;rw[e1]at hL;have hVI:=fun b hb=>(hk b hb).2;rcases hgp with rfl| ⟨dn,cs,rfl,d1,d2,d3,d4,he⟩
   ·refine⟨cG,?_,fun _ _ _=>Or.inl rfl,fun _=>rfl⟩;refine az lq rfl ?_;rw[←hvv]at hg;simp only[bo,af,am,cG,aG,DC]at hf hw hL;cases bl with
    |true=>
     have e3:=eq_false (e2 rfl);simp only[iH,lg,bo,af,am,cG,aG,go_sem,hf,hw,hL,e3,hg]
    |false=>
     simp only[iH,lg,bo,af,am,cG,aG,go_sem,hf,hw,hL,hg]
   ·have hdl:dom.length=v:=ω
    have hbg:=amU (p:=p) (c6:=[B false,.emp,I 0,B false,.emp,I 0,B false]) ω d1 hdl d2 d4 hVI rfl v 0 (aBi _) cs _ he;rw[←hvv]at hg;have hval:∀xs,xs.length=dn.length->jO (rJ dn xs) 1 0 (gT dn a.terms (LD a.terms) fun _=>0)=fv xs a.terms:=fun xs hx=>by
     rw[agS hx a.terms (LD a.terms) (fun _=>0) (by simp[LD]) d3 (ajQ cl) (fun _ _=>rfl) fun i t es h1 h2=>(akX (hvv▸cl) i t es h1 h2).1.1,ajP (Mv dn xs),Rat.zero_add]
    have hfin:∀b g',(∀xs ts,nD dom xs ts->jO (tK (dn.take 0) (ts.take 0)++rJ (dn.drop 0) (xs.drop 0)) 1 0 (gT dn a.terms (LD a.terms) fun _=>0)=jO (tK dn ts) 1 0 g')->(∀j,j<bS dn 1->In (g' j) b)->BrG a dom p b:=fun b g' h1 h2=>by
     refine⟨fun xs ts hpt=>?_,fun h=>nf h _⟩;obtain⟨l1,l2⟩:=hpt.len;have h3:=h1 xs ts hpt;have h4:jO (rJ dn xs) 1 0 (gT dn a.terms (LD a.terms) fun _=>0)=jO (tK dn ts) 1 0 g':=h3;rw[hval xs ω]at h4;rw[h4];rcases(h2 0 (qh dn 1 δ)).k with⟨hW,_⟩| ⟨hkb,_⟩
     ·exact Or.inl hW
     ·have h5:∀j,j<bS dn 1->qv b.lo<=g' j/\g' j<=qv b.hi:=fun j hj=>by
       rcases(h2 j hj).k with⟨rfl,hn⟩| ⟨_,h6⟩
       all_goals grind
      have h6:=apJ ω hpt.t01 h5;refine Or.inr ⟨?_,(h2 0 (qh dn 1 δ)).vi,h6.1,h6.2⟩;grind[kI]
    have hh0:au []=fun _=>.dead:=by funext i;simp[au]
    refine My (r:=fun b=>(af b,[])) lq.2.1 lq.2.2 (lq.1.2.2.2 false) rfl (aBI rfl) ?_;simp only[bo,af,am,DC]at hf hL;have e3:=fun h=>eq_false (e2 h);have e4:(0:Int)< (bS dn 1):=by grind[qh]
    cases bl
    all_goals
     simp only[iH,lg,bo,af,am,hh0,go_sem,hf,hL,e3,hg,ad9];generalize hX:ao 0 _ _=X;obtain⟨hh,cs',g',rfl,q6,q2368,qd,he',hv'⟩:=hbg _ _ _ hX Z Z Z (by rw[Ii,d1];rfl) Z Z Z;obtain⟨x,x1,x2⟩:=he'.get (k:=0) (qh dn 1 δ);have hhl:=amV (ds:=dI dn) (p:=p) d4 he' (c6:=[B false,.emp,I 0,B false,.emp,I 0,B false]) rfl (bS dn 1) 0 (aBi _) x x2.ok (fun j hj=>absurd hj (Nat.not_lt_zero j)) ⟨_,x2⟩;have q1:(cB cs')[0]?=some (am x):=by unfold cB;rw[aBS,x1];rfl
     have i2:(0< (cs'.length:Int))=True:=eq_true (by rw[he'.1];exact e4);have d12:=qd 12 δ δ;have hgo:=(cK (dI dn) cs' p).cl [6,12,2368];simp only[bV]at q2368 hgo;simp only[am]at q1;simp only[go_sem,q6,q2368,d12,i2,Int.le_refl,Int.toNat_zero,AT,EP,q1];generalize hX:ao 2 _ _=X;obtain⟨hh2,out,rfl,r6,r12,oo,hin⟩:=hhl _ _ _ hX Z Z (by rw[he'.1];rfl) (by rw[he'.1];rfl) rfl q6 rfl q2368;refine⟨out,?_,hfin out g' hv' hin⟩;simp only[je]at r12;simp only[go_sem,r6,r12]
def FY(s:Rd):Rd×Int:=cS (fj (zI s) (-16384- (1:Nat)))
theorem Tl{s}(ok:Ok0 s)(v:vd s=true):bu s.neg (ab s.m) (s.e+-1)=fj (zI s) (-16384- (1:Nat)):=by
 obtain⟨_,h1,h2,_⟩:=fA v ok.lb;have:zI s=cF s.neg (mg s):=rfl;rw[this,←CP];grind[mg,mJ]
def Jv(x:Ri)(d:Rd):Bool:=vi x&&vd d&& (x.all||decide (zI x.lo<=zI d)&&decide (zI d<=zI x.hi))
theorem agU{x}{d}(ox:OkI x)(od:Ok0 d):R 16 [af x,ae d] []=some (B (Jv x d),[]):=by
 refine az R5 rfl ?_;have v1:=pf ox;have v2:=eG od;have c1:=pF ox.lo od;have c2:=pF od ox.hi;unfold Jv;cases h1:vi x with
 |false=>
  rw[h1]at v1;simp only[af,am,ae,aj]at v1 v2;simp only[kH,af,am,ae,aj,go_sem,v1,v2]
 |true=>
  rw[h1]at v1;cases h2:vd d with
  |false=>
   rw[h2]at v2;simp only[af,am,ae,aj]at v1 v2;simp only[kH,af,am,ae,aj,go_sem,v1,v2]
  |true=>
   rw[h2]at v2;cases h3:x.all with
   |true=>
    simp only[af,am,ae,aj,h3]at v1 v2;simp only[kH,af,am,ae,aj,go_sem,v1,v2,h3]
   |false=>
    have hl:vd x.lo=true/\vd x.hi=true:=by
     grind[vi]
    rw[aq ⟨hl.1,h2⟩]at c1;rw[aq ⟨h2,hl.2⟩]at c2;have e1:=@H0 (zI x.lo) (zI d);have e2:=@H0 (zI d) (zI x.hi);simp only[af,am,ae,aj,h3]at v1 v2 c1 c2;by_cases h4:zI x.lo<=zI d
    ·simp only[kH,af,am,ae,aj,go_sem,v1,v2,h3,c1,c2,e1,e2,h4]
    ·simp only[kH,af,am,ae,aj,go_sem,v1,v2,h3,c1,e1,h4]
theorem amW{x}{d}(h:In (qv d) x)(hd:vd d=true):Jv x d=true:=by
 unfold Jv;rw[h.v,hd];rcases h with rfl| ⟨h1,_,h3,h4⟩
 ·rfl
 grind[uD]
def Jw(a:Rp)(dom:List Ri)(p:Int)(b:Ri):Ri:=if(mW a dom&&bE p)=true then(if(wo (oA a dom p) b).2=true then(wo (oA a dom p) b).1 else cG)else cG
theorem O1{a}{dom}(oa:OkP a)(od:∀x∈dom,OkI x)(h2:dom.length<=100000){p}{b}(ob:OkI b)(hb:(mW a dom&&bE p)=true->R 161 [bo a,.sl 7 (cB dom),I p] []=some (af b,[])):
  R 107 [bo a,.sl 7 (cB dom),I p] []=some (af (Jw a dom p b),[]):=by
 refine az Xn rfl ?_;have hf:=Md oa od h2 (p:=p);have hw:=Jj;have hn:=ai6 oa od h2 (p:=p);have on:=af0 (a:=a) (dom:=dom) (p:=p);have hm:=ajB (x:=oA a dom p) (y:=b) ⟨on.1.2,on.2.2⟩ ob;unfold Jw;generalize oA a dom p=n at hn hm⊢;generalize wo n b=q at hm⊢;obtain⟨m1,m2⟩:=q;cases hq:(mW a dom&&bE p)with
 |false=>
  rw[hq]at hf;simp only[bo,af,am,cG,aG]at hf hw;simp only[uO,bo,af,am,cG,aG,go_sem,hf,hw]
 |true=>
  rw[hq]at hf
  replace hb:=hb hq
  simp only[bo,af,am,cG,aG]at hf hw hn hb hm;cases m2 with
  |true=>
   simp only[uO,bo,af,am,go_sem,hf,hw,hn,hb,hm]
  |false=>
   simp only[uO,bo,af,am,cG,aG,go_sem,hf,hw,hn,hb,hm]
def ze(x y:Ri):Bool:=if vi x=true/\vi y=true/\x.all=false then(y.all||decide (zI y.lo<=zI x.lo)&&decide (zI x.hi<=zI y.hi))else(vi x&& (vi y&&y.all))
theorem UB{x y}(ox:OkI x)(oy:OkI y):R 46 [af x,af y] []=some (B (ze x y),[]):=by
 refine az M1 rfl ?_;have v1:=pf ox;have v2:=pf oy;unfold ze;simp only[af,am]at v1 v2;cases h1:vi x with
 |false=>
  rw[h1]at v1;simp only[eX,af,am,go_sem,v1,aBy]
 |true=>
  rw[h1]at v1;cases h2:vi y with
  |false=>
   rw[h2]at v2;simp only[eX,af,am,go_sem,v1,v2,aBy,aBt]
  |true=>
   rw[h2]at v2;cases h3:x.all with
   |true=>
    rw[h3]at v1;rw[ax σ];cases h4:y.all with
    |true=>
     rw[h4]at v2;simp only[eX,af,am,go_sem,v1,v2,h3,h4,aBt]
    |false=>
     rw[h4]at v2;simp only[eX,af,am,go_sem,v1,v2,h3,h4,aBt]
   |false=>
    rw[h3]at v1;have hx:vd x.lo=true/\vd x.hi=true:=by
     grind[vi]
    cases h4:y.all with
    |true=>
     rw[h4]at v2;simp only[eX,af,am,go_sem,v1,v2,h3,h4,Bool.true_or]
    |false=>
     rw[h4]at v2;have hy:vd y.lo=true/\vd y.hi=true:=by
      grind[vi]
     have c1:=pF oy.lo ox.lo;have c2:=pF ox.hi oy.hi;rw[aq ⟨hy.1,hx.1⟩]at c1;rw[aq ⟨hx.2,hy.2⟩]at c2;have e1:=@H0 (zI y.lo) (zI x.lo);have e2:=@H0 (zI x.hi) (zI y.hi);simp only[ae,aj]at c1 c2;by_cases h5:zI y.lo<=zI x.lo
     ·simp only[eX,af,am,go_sem,v1,v2,h3,h4,c1,c2,e1,e2,h5,Bool.false_or]
     ·simp only[eX,af,am,go_sem,v1,v2,h3,h4,c1,e1,h5,Bool.false_or]
structure Rs where
 dom:List Ri
 ord:Int
 p:Int
structure Rm where
 P:Rp
 R:Ri
abbrev tL(s:Rs):List AV:=[.sl 7 (cB s.dom),I s.ord,I s.p]
abbrev go(s:Rs):AV:=.agg (tL s)
abbrev yy(m:Rm):List AV:=[I m.P.vars,.sl 4 (aT m.P.terms),B m.R.lo.neg,lm m.R.lo.m,I m.R.lo.e,B m.R.hi.neg,lm m.R.hi.m,I m.R.hi.e,B m.R.all]
abbrev cw(m:Rm):AV:=.agg (yy m)
def qi:Rd:=⟨true,[1],0⟩
def cA:Ri:=⟨qi,one,false⟩
def cp:Ri:=⟨aG,aG,false⟩
theorem amX:R 57 [I (-1)] []=some (ae qi,[]):=by
 grind[DD,GD,bu,qi,jW,zo,aA,qE,gh]
theorem MA:vd qi=true/\Ok0 qi:=⟨by decide,⟨fun x hx=>by rw[List.mem_singleton.1 hx];decide,by decide⟩⟩
theorem ER:OkI cA/\VI cA:=⟨⟨MA.2,fg.2⟩,⟨MA,fg⟩⟩
theorem UC:R 35 [I 0] []=some (af cp,[]):=by
 refine az J0 rfl ?_;have h1:R 57 [I 0] []=some (ae aG,[]):=by grind[DD,GD,lF]
 have h2:=gR aO.2 aO.1;simp only[af,am,ae,aj,aG]at h1 h2;simp only[xH,af,am,cp,aG,go_sem,h1,h2]
theorem apK{x y}(ox:OkI x)(oy:OkI y):R 59 [af x,ac 1000] [.bx (am y)]=some (B (!ze x y),[.bx (am y)]):=by
 refine B3 I4 I3 (yu false) rfl ?_;have h:=UB ox oy;generalize ze x y=b at h⊢;simp only[af,am]at h;simp only[sA,am,af,go_sem,h];exact lP Z Z Z Z Z
theorem awu:Src 58 114 7 true [.o 0 [],.o 2 [],.o 0 [],.o 0 [],.o 2 [],.o 0 [],.o 0 []]:=
 ⟨aQ.2.1,aQ.2.2,aQ.1.2.2.2 false,aQ.1.2.1 false,aQ.1.2.2.2 false,aQ.1.1 false,
  bc.2.1,bc.2.2,bc.1.2.2.2 false⟩
theorem apL{l}{y}(ol:∀x∈l,OkI x)(oy:OkI y)(hl:l.length<4611686018427387904):R 58 [.sl 7 (cB l),.fn 59 [] [ac 1000]] [.bx (am y)]=some (B (l.any fun x=>!ze x y),[.bx (am y)]):=
 Mp awu (ajp y) (BQ false) (yu false) hl (alV l) fun x hx=>⟨af x,af x,rfl,rfl,rfl,by simp only[af,am,go_sem],apK (ol x hx) oy⟩
def fk(s:Rs):Bool:=decide (1<=s.dom.length)&& (decide (s.dom.length<=8)&& (decide (1<=s.ord)&& (decide (s.ord<=16)&& (bE s.p&&!(s.dom.any fun x=>!ze x cA)))))
theorem zO{s}(od:∀x∈s.dom,OkI x)(hl:s.dom.length<4611686018427387904):R 20 [go s] []=some (B (fk s),[]):=by
 refine az KW rfl ?_;have h1:=amX;have h2:=Le;simp only[ae,aj,qi,one]at h1 h2;have hp:bE s.p=(decide (8<=s.p)&&decide (s.p<=512)):=rfl;unfold fk;rw[hp];by_cases g1:(s.dom.length:Int)<1
 ·have f1:=eq_true g1;rw[decide_eq_false (p:=1<=s.dom.length) ω,aBy];simp only[ej,go_sem,h1,h2,f1]
 have f1:=eq_false g1;rw[decide_eq_true (p:=1<=s.dom.length) ω,aBt];by_cases g2:8< (s.dom.length:Int)
 ·have f2:=eq_true g2;rw[decide_eq_false (p:=s.dom.length<=8) ω,aBy];simp only[ej,go_sem,h1,h2,f1,f2]
 have f2:=eq_false g2;rw[decide_eq_true (p:=s.dom.length<=8) ω,aBt];by_cases g3:s.ord<1
 ·have f3:=eq_true g3;rw[decide_eq_false (p:=1<=s.ord) ω,aBy];simp only[ej,go_sem,h1,h2,f1,f2,f3]
 have f3:=eq_false g3;rw[decide_eq_true (p:=1<=s.ord) ω,aBt];by_cases g4:16<s.ord
 ·have f4:=eq_true g4;rw[decide_eq_false (p:=s.ord<=16) ω,aBy];simp only[ej,go_sem,h1,h2,f1,f2,f3,f4]
 have f4:=eq_false g4;rw[decide_eq_true (p:=s.ord<=16) ω,aBt];by_cases g5:s.p<8
 ·have f5:=eq_true g5;rw[decide_eq_false (p:=8<=s.p) ω,aBy,aBy];simp only[ej,go_sem,h1,h2,f1,f2,f3,f4,f5]
 have f5:=eq_false g5;rw[decide_eq_true (p:=8<=s.p) ω,aBt];by_cases g6:512<s.p
 ·have f6:=eq_true g6;rw[decide_eq_false (p:=s.p<=512) ω,aBy];simp only[ej,go_sem,h1,h2,f1,f2,f3,f4,f5,f6]
 have f6:=eq_false g6;rw[decide_eq_true (p:=s.p<=512) ω,aBt];have hc:=apL od ER.1 hl;generalize(s.dom.any fun x=>!ze x cA)=b at hc⊢;have hcc:=fun h d hh (hf:h (2000+8*d)=.dead)=>Ar (f:=58) (g:=59) (h:=h) (d:=d) (id:=3) (zas:=[.sl 7 (cB s.dom)]) (as':=[.sl 7 (cB s.dom)]) (bc.1.2.1 false) (bc.1.2.2.2 false)
  (by simp only[go_sem,aBF,aBw]) Z Z hh (ajp _) (ajp _) (fun h=>h) hc (S6 _) (aBI rfl) (by grind[cj,cM,bX])
 simp only[am,cA,qi,one,aBF,aBw,go_sem]at hcc;simp only[ej,go_sem,h1,h2,f1,f2,f3,f4,f5,f6];rw[hcc _ _ Z Z];simp only[go_sem]
def DK(d:Rd)(p:Int):Bool:=bE p&& (vd d&&decide ((ag (ab d.m))<=p))
theorem asp{d}{p}(od:Ok0 d):R 25 [ae d,I p] []=some (B (DK d p),[]):=by
 refine az adq rfl ?_;have h1:=CH (p:=p) (l:=[d]) (fun x hx=>by grind) σ;have h2:=OD od;have hp:bE p=(decide (8<=p)&&decide (p<=512)):=rfl;have hf:(bh p [d]=0)=(DK d p=true\/(bE p=true/\vd d=true)):=by
  unfold bh DK;grind
 unfold DK at hf⊢;simp only[DC,GE,aBM,aBX,ae,aj]at h1 h2;cases hv:vd d with
 |false=>
  have f1:(bh p [d]=0)=False:=γ
  simp only[zj,ae,aj,go_sem,h1,f1,aBy,Bool.and_false]
 |true=>
  rw[hv]at hf h2;cases hq:bE p with
  |false=>
   have f1:(bh p [d]=0)=False:=γ
   simp only[zj,ae,aj,go_sem,h1,f1,aBy]
  |true=>
   have f1:(bh p [d]=0)=True:=γ
   simp only[zj,ae,aj,go_sem,h1,h2,f1,aBt]
theorem nE(s):OC (.bx (tL s)):=⟨fun _=>rfl,rfl,fun _=>rfl,rfl⟩
theorem asq{t}{s}(ot:Ok0 t.c):R 24 [.agg (dB t),ac 1000] [.bx (tL s)]=some (B (!DK t.c s.p),[.bx (tL s)]):=by
 refine B3 P3 P2 (Dz false) rfl ?_;have h:=asp (p:=s.p) ot;simp only[ae,aj]at h;simp only[zT,dB,go_sem,h];exact lP Z Z Z Z Z
theorem akY:Src 6 12 4 true [.o 2 [],.o 0 [],.o 2 [],.o 0 []]:=
 ⟨cJ.2.1,cJ.2.2,cJ.1.2.2.2 false,cJ.1.2.1 false,cJ.1.2.2.2 false,cJ.1.1 false,
  bF.2.1,bF.2.2,bF.1.2.2.2 false⟩
theorem dC(l):(aT l).map (eP [.o 2 [],.o 0 [],.o 2 [],.o 0 []])=aT l:=by
 refine tH fun x hx=>?_;simp only[aT,aB7]at hx;obtain⟨t,ht,rfl⟩:=hx;simp only[dB,go_sem]
structure OkS (s:Rs):Prop where
 d:∀x∈s.dom,OkI x
 n:s.dom.length<4611686018427387904
structure OkM (m:Rm):Prop where
 c:∀t∈m.P.terms,Ok0 t.c
 r:OkI m.R
 n:m.P.terms.length<4611686018427387904
def rm(s:Rs)(m:Rm):Bool:=fk s&& (vp m.P&& (decide (m.P.vars=s.dom.length)&& (decide (mA m.P<=s.ord)&& (vi m.R&&!(m.P.terms.any fun t=>!DK t.c s.p)))))
theorem agV{a}(oc:∀t∈a.terms,Ok0 t.c)(h:vp a=true):OkP a:=⟨fun t ht=>⟨oc t ht,by
 unfold vp at h;simp only[aBk,decide_eq_true_eq]at h;have:=(FM (Me _ _ h.2.2.2 t ht)).1;omega⟩⟩
theorem GN{s}{m}(os:OkS s)(om:OkM m):R 9 [go s,cw m] []=some (B (rm s m),[]):=by
 refine az U7 rfl ?_;have h1:=zO os.d os.n;have h2:=Qz om.c;have h4:=pf om.r;unfold rm;simp only[bo,af,am]at h2 h4;cases g1:fk s with
 |false=>
  rw[g1]at h1;simp only[j5,go_sem,h1,aBy]
 |true=>
 rw[g1]at h1;cases g2:vp m.P with
 |false=>
  rw[g2]at h2;simp only[j5,go_sem,h1,h2,aBy,Bool.and_false]
 |true=>
 rw[g2]at h2;by_cases g3:m.P.vars=s.dom.length
 case neg=>
  have f3:=eq_false g3;simp only[j5,go_sem,h1,h2,f3,aBy,Bool.and_false]
 have f3:=eq_true g3;have h3:=GI (agV om.c g2);simp only[bo]at h3;by_cases g4:s.ord<mA m.P
 case pos=>
  have f4:=eq_true g4;have f4':(mA m.P<=s.ord)=False:=ff;simp only[j5,go_sem,h1,h2,h3,f3,f4,f4',aBy,Bool.and_false]
 have f4:=eq_false g4;have f4':(mA m.P<=s.ord)=True:=tt;cases g5:vi m.R with
 |false=>
  rw[g5]at h4;simp only[j5,go_sem,h1,h2,h3,h4,f3,f4,f4',aBy,Bool.and_false]
 |true=>
 rw[g5]at h4;have hc:=Mp akY (Frow:=dB) (l:=m.P.terms) (q:=fun t=>!DK t.c s.p) (nE s) (GA false) (Dz false) om.n (dC _) fun t ht=>⟨.agg (dB t),.agg (dB t),rfl,rfl,rfl,by simp only[dB,go_sem],asq (om.c t ht)⟩;have hcc:=fun h d hh (hf:h (2000+8*d)=.dead)=>Ar (f:=6) (g:=24) (h:=h) (d:=d) (id:=2) (zas:=[.sl 4 (aT m.P.terms)]) (as':=[.sl 4 (aT m.P.terms)]) (bF.1.2.1 false) (bF.1.2.2.2 false)
  (by simp only[go_sem,dC,aBF,aBw]) Z Z hh (nE _) (nE _) (fun h=>h) hc (S6 _) (aBI rfl) (by grind[cj,cM,bX])
 simp only[aBF,aBw,go_sem]at hcc;simp only[j5,go_sem,h1,h2,h3,h4,f3,f4,f4'];rw[hcc _ _ Z Z];simp only[go_sem]
theorem VI.ok'{x}(h:VI x):OkI x:=⟨h.1.2,h.2.2⟩
theorem MB:∀dom,nD dom (dom.map fun b=>qv b.lo) (aBg dom.length 0)
 |[]=>trivial
 |b::dom=>⟨by grind,by decide,by decide,MB dom⟩
def IsD(c:List AV)(q:Rd):Prop:=c=[B q.neg,lm q.m,I q.e]\/(c=zb/\q=aG)
theorem IsD.cl{c}{q}(h:IsD c q)(l):c.all (kX l)=true:=by
 rcases h with rfl| ⟨rfl,_⟩<;>rfl
def oT(a b:Rd):Rd×Int:=if(vd a&&vd b)=true then cS (fj (zI a-zI b) (-16384))else(aG,1)
theorem AU(a b):vd (oT a b).1=true/\Ok0 (oT a b).1:=by
 unfold oT;split
 ·exact yj
 ·exact⟨rfl,⟨fun x hx=>(nomatch hx),by decide⟩⟩
theorem ajT{a b}(vb:vd b=true):oT a b=kR a (fC b):=by
 grind[yi,oT,kR,Int.sub_eq_add_neg]
theorem agW{neg}{k:Nat}:zI (bu neg M (-16384+k))=cF neg (M*2^k):=by
 by_cases h0:M=0
 ·subst h0;rw[lF,cT rfl,Nat.zero_mul];cases neg<;>rfl
 ·rw[jW h0];obtain⟨t1,t2⟩:=AF h0;unfold zI mg cF;rw[bp];have hk:(-16384+k+((tz M):Int)+16384).toNat=tz M+k:=ω
  have hm:M/2^tz M*2^ (-16384+k+((tz M):Int)+16384).toNat=M*2^k:=by
   grind
  grind
theorem YO{neg}{p}{q}{e}(h:(CI neg true p q e).2=0):CI neg true p q e=(bu neg q e,0)/\¬ (q≠0/\16384< (ag q:Nat)+e):=by
 unfold CI at h⊢;grind
theorem abN{neg}{p}{q q'}{e}(hq:q<=q')(h:¬ (q'≠0/\16384< ((ag q'):Int)+e)):CI neg false p q e=(bu neg q e,0):=by
 unfold CI;rw[ax];have h1:=AI hq (aBh _);omega
structure NearF (d lo hi:Rd) (q q' r k:Nat):Prop where
 hz:mg d=q*2^k+r
 hr:r<2^k
 hq:q'=if r=0 then q else q+1
 hlo:lo=bu d.neg (if d.neg=true then q' else q) (-16384+(k:Int))
 hhi:hi=bu d.neg (if d.neg=true then q else q') (-16384+(k:Int))
 hw:r≠0->∃t v:Nat,mg d=v*2^t/\t<=k/\k-t<=ag v-8/\8<=ag v/\ag v<=4096/\ag v+t<=32768
theorem aeb(d):zI d=cF d.neg (mg d):=rfl
theorem agX{d}(ok:Ok0 d)(v:vd d=true){p}(hp:8<=p/\p<=512)(h0:(cx d p false).2=0)(h1:(cx d p true).2=0):∃q q' r k,NearF d (cx d p false).1 (cx d p true).1 q q' r k:=by
 have hf:bh p [d]=0:=by
  simp_all[bh,aBO,List.all_nil,Bool.and_true,if_true,aq]
 have hR:∀up,cx d p up=FI d.neg (mg d) (-16384) false p up:=fun up=>by
  simp_all[cx,aq,aeb,Qw]
 rw[hR]at h0 h1;rw[hR,hR];unfold FI SJ at h0 h1⊢;obtain⟨k,hk⟩:∃k,K9 (mg d) (-16384) p=k:=⟨_,rfl⟩;rw[hk]at h0 h1⊢;obtain⟨q',hq'⟩:∃q',q'=if mg d%2^k=0 then mg d/2^k else mg d/2^k+1:=⟨_,rfl⟩
 have hle:mg d/2^k<=q':=by
  grind
 have e1:(if((false||decide (mg d%2^k≠0))&&true)=true then mg d/2^k+1 else mg d/2^k)=q':=by
  grind
 have e2:(if((false||decide (mg d%2^k≠0))&&false)=true then mg d/2^k+1 else mg d/2^k)=mg d/2^k:=by
  grind
 have hw:mg d%2^k≠0->∃t v,mg d=v*2^t/\t<=k/\k-t<=ag v-8/\8<=ag v/\ag v<=4096/\ag v+t<=32768:=by
  intro hr;have hm:d.m.length≠0:=fun h=>hr (by
   have:mg d=0:=by
    unfold mg;rw[List.length_eq_zero_iff.1 h];exact Nat.zero_mul _
   simp_all)
  obtain⟨g1,g2,g3,g4⟩:=BW v hm;obtain⟨b1,b2,b3,b4⟩:=CE g4 (Nat.pos_iff_ne_zero.1 (ju (ef v hm)));have hb:=ed (d.e+16384).toNat (ef v hm);have hmg:mg d=ab d.m*2^ (d.e+16384).toNat:=rfl;rw[←hmg]at hb;unfold K9 at hk;have ht:(d.e+16384).toNat<=k:=Nat.le_of_not_lt fun hlt=>hr (by
   rw[hmg,show(d.e+16384).toNat=k+((d.e+16384).toNat-k)by omega,aBx,←aBH,Nat.mul_right_comm]
   simp_all)
  have hk1:k≠0:=fun h=>hr (by rw[h,Nat.pow_zero,Nat.mod_one]);refine⟨(d.e+16384).toNat,ab d.m,rfl,ht,?_,?_,b1,?_⟩<;>omega
 refine⟨mg d/2^k,q',mg d%2^k,k,?_,aBW _ (aBA _),hq',?_,?_,hw⟩
 ·grind[aCb]
 all_goals
  cases hn:d.neg with
  |false=>
   rw[hn]at h0 h1;simp only[bne_self_eq_false,Bool.false_bne,e1,e2]at h0 h1⊢;obtain⟨k1,k2⟩:=YO h1
   first
   | (rw[abN hle k2];rfl)
   | (rw[k1];rfl)
  |true=>
   rw[hn]at h0 h1;simp only[bne_self_eq_false,Bool.bne_false,e1,e2]at h0 h1⊢;obtain⟨k1,k2⟩:=YO h0
   first
   | (rw[abN hle k2];rfl)
   | (rw[k1];rfl)
theorem YP{v t k x}{n}(h1:k-t<=ag v-8)(h2:8<=ag v)(h3:ag v<=4096)(h4:ag v+t<=32768)(hx:x<=2^ (k-t)):(cS (fj (cF n (x*2^t)) (-16384))).2=0:=by
 have hb:ag x<=k-t+1:=bT.2 (aBU hx (Nat.pow_lt_pow_right δ ω));rw[←CP,mJ,FH ω ω ω]
def YQ(lo hi:Rd):Rd:=if hi.m.length=0\/(lo.m.length≠0/\lo.e<hi.e)then hi else lo
def MC(z:Int)(lo hi:Rd):Rd:=if z-zI lo<zI hi-z then lo else if zI hi-z<z-zI lo then hi else YQ lo hi
def nF(d:Rd)(p:Int):Rd×Int:=if(cx d p false).2=0 then(if(cx d p true).2=0 then(MC (zI d) (cx d p false).1 (cx d p true).1,0)else(aG,(cx d p true).2))else(aG,(cx d p false).2)
structure NearOk (d lo hi:Rd):Prop where
 below:(oT d lo).2=0
 above:(oT hi d).2=0
 tie:zI lo≠zI hi->zI d-zI lo=zI hi-zI d->lo.m.length≠0->hi.m.length≠0->lo.e≠hi.e
 le:zI lo<=zI d/\zI d<=zI hi
theorem UD{neg}{M}{e}(h:(bu neg M e).m.length≠0):M≠0/\(bu neg M e).e=e+tz M:=by
 by_cases h0:M=0
 ·subst h0;exact absurd rfl h
 grind[jW]
theorem abO{q}(h:q≠0):tz q≠tz (q+1):=by
 have hs:∀ {n},n≠0->tz n=0->n%2=1:=fun{n} h0 h1=>by
  have:=(AF h0).2;grind
 grind[zo]
theorem amY{d}(ok:Ok0 d)(v:vd d=true){p}(hp:8<=p/\p<=512)(h0:(cx d p false).2=0)(h1:(cx d p true).2=0):NearOk d (cx d p false).1 (cx d p true).1:=by
 obtain⟨q,q',r,k,Fm⟩:=agX ok v hp h0 h1;have vlo:vd (cx d p false).1=true:=by
  unfold cx;split
  ·exact vf.1
  ·rfl
 have vhi:vd (cx d p true).1=true:=by
  unfold cx;split
  ·exact vf.1
  ·rfl
 generalize(cx d p false).1=lo at*
 generalize(cx d p true).1=hi at*
 have zlo:zI lo=cF d.neg ((if d.neg=true then q' else q)*2^k):=by rw[Fm.hlo,agW]
 have zhi:zI hi=cF d.neg ((if d.neg=true then q else q')*2^k):=by rw[Fm.hhi,agW]
 have zd:=aeb d;have hz:=Fm.hz;have hr:=Fm.hr;have hq:=Fm.hq;have hs1:oT d lo=cS (fj (zI d-zI lo) (-16384)):=by
  simp_all[oT,aB3,aq]
 have hs2:oT hi d=cS (fj (zI hi-zI d) (-16384)):=by
  simp_all[oT,aB3,aq]
 by_cases r0:r=0
 ·rw[aq r0]at hq;rw[hq,ite_self,←hq]at zlo zhi;have e0:zI d=zI lo:=γ
  have e1:zI d=zI hi:=ω
  have h00:(cS (fj 0 (-16384))).2=0:=by rw[show fj 0 (-16384)=aG from lF];rfl
  refine⟨?_,?_,fun h=>absurd (e0.symm.trans e1) h,by omega⟩
  all_goals grind
 ·rw[ax r0]at hq;obtain⟨t,w,w1,w2,w3,w4,w5,w6⟩:=Fm.hw r0;have hp2:2^k=2^ (k-t)*2^t:=by rw[←aBx,show k-t+t=k by omega]
  have hrr:r=(w-q*2^ (k-t))*2^t:=by
   grind[Nat.sub_mul,aBH]
  obtain⟨x,hx⟩:∃x,w-q*2^ (k-t)=x:=⟨_,rfl⟩;rw[hx]at hrr;have hxl:=by
   rw[hrr,hp2]at hr;exact Nat.lt_of_mul_lt_mul_right hr
  have f1:∀n,(cS (fj (cF n r) (-16384))).2=0:=fun n=>by
   grind[YP,Nat.le_of_lt]
  have f2:∀n,(cS (fj (cF n (2^k-r)) (-16384))).2=0:=fun n=>by
   rw[hrr,hp2,←Nat.sub_mul];grind[YP,Nat.sub_le]
  have hq2:q'*2^k=q*2^k+2^k:=γ
  have htie:lo.m.length≠0->hi.m.length≠0->lo.e≠hi.e:=by
   intro m1 m2;rw[Fm.hlo]at m1⊢;rw[Fm.hhi]at m2⊢;obtain⟨a1,a2⟩:=UD m1;obtain⟨b1,b2⟩:=UD m2;rw[a2,b2];cases hn:d.neg with
   |false=>
    grind[abO]
   |true=>
    grind[abO]
  generalize 2^k=K at*
  refine⟨?_,?_,fun _ _=>htie,?_⟩
  ·rw[hs1];cases hn:d.neg with
   |false=>
    rw[hn]at zd zlo;have:zI d-zI lo=cF false r:=by grind[uB]
    grind
   |true=>
    rw[hn]at zd zlo;simp only[if_true,wn]at zd zlo;have:zI d-zI lo=cF false (K-r):=by grind[uB]
    grind
  ·rw[hs2];cases hn:d.neg with
   |false=>
    rw[hn]at zd zhi;have:zI hi-zI d=cF false (K-r):=by grind[uB]
    grind
   |true=>
    rw[hn]at zd zhi;simp only[if_true,wn]at zd zhi;have:zI hi-zI d=cF false r:=by grind[uB]
    grind
  ·cases hn:d.neg with
   |false=>
    rw[hn]at zd zlo zhi;simp only[aCa,if_false,uB]at zd zlo zhi;omega
   |true=>
    rw[hn]at zd zlo zhi;simp only[if_true,wn]at zd zlo zhi;omega
theorem Tm{a b}(oa:Ok0 a)(ob:Ok0 b):R 228 [ae a,ae b] []=some (rV (oT a b),[]):=by
 refine az XE rfl ?_;have v1:=eG oa;have v2:=eG ob;simp only[ae,aj]at v1 v2;unfold oT;cases va:vd a with
 |false=>
  rw[va]at v1;simp only[uY,rV,aG,ae,aj,go_sem,v1]
 |true=>
  rw[va]at v1;cases vb:vd b with
  |false=>
   rw[vb]at v2;simp only[uY,rV,aG,ae,aj,go_sem,v1,v2]
  |true=>
   rw[vb]at v2;obtain⟨z1,z2⟩:=yi vb;have hn:R 112 [ae b] []=some (ae (fC b),[]):=BX ob;have hs:=abc oa (AK ob) va z2;rw[z1,←Int.sub_eq_add_neg]at hs;simp only[rV,ae,aj]at hn hs;simp only[uY,rV,ae,aj,go_sem,v1,v2,hn,hs]
theorem amZ{d}{p}{up}(h:(cx d p up).2=0):vd d=true/\(8<=p/\p<=512):=by
 unfold cx at h;by_cases hf:bh p [d]=0
 ·unfold bh at hf;grind
 grind
theorem Tn{a b}(vb:vd b=true)(h:(oT a b).2=0):zI (oT a b).1=zI a-zI b:=by
 grind[ajT,aa9,yi,Int.sub_eq_add_neg]
theorem am0{d}(ok:Ok0 d){p}:R 227 [ae d,I p] []=some (rV (nF d p),[]):=by
 refine az XD rfl ?_;have hd:=Lc ok (p:=p);have hu:=SK ok (p:=p);unfold nF;by_cases h0:(cx d p false).2=0
 ·rw[aq h0];obtain⟨v,hp⟩:=amZ h0;have vl:=SO (d:=d) (p:=p) (up:=false);have ol:=CL (d:=d) (p:=p) (up:=false);by_cases h1:(cx d p true).2=0
  ·rw[aq h1];have vh:=SO (d:=d) (p:=p) (up:=true);have oh:=CL (d:=d) (p:=p) (up:=true);have hk:=amY ok v hp h0 h1;generalize cx d p false=lo at*
   generalize cx d p true=hi at*
   obtain⟨lo,el⟩:=lo;obtain⟨hi,eh⟩:=hi;have h0':=h0;have h1':=h1;subst h0';subst h1';have s1:=Tm ok ol;have s2:=Tm oh ok;have c:=pF (AU d lo).2 (AU hi d).2;rw[aq ⟨(AU d lo).1,(AU hi d).1⟩,Tn vl hk.below,Tn v hk.above]at c;show _=some (rV (MC (zI d) lo hi,0),[]);unfold MC;generalize oT d lo=x at s1 c;generalize oT hi d=y at s2 c;simp only[rV,ae,aj]at hd hu s1 s2 c;rcases si (zI d-zI lo) (zI hi-zI d)with⟨g,e⟩| ⟨g,e⟩| ⟨g,e⟩
   ·rw[e]at c;rw[aq g];simp only[iN,rV,ae,aj,go_sem,aBo,hd,hu,s1,s2,c]
   ·rw[e]at c;rw[ax ω,ax ω];unfold YQ;by_cases m1:hi.m.length=0
    ·have e1:((hi.m.length:Int)=0)=True:=tt;rw[aq (.inl m1)];simp only[iN,rV,ae,aj,go_sem,aBo,hd,hu,s1,s2,c,e1]
    ·have e1:((hi.m.length:Int)=0)=False:=ff;by_cases m2:lo.m.length=0
     ·have e2:(0< (lo.m.length:Int))=False:=ff;rw[ax ω];simp only[iN,rV,ae,aj,go_sem,aBo,hd,hu,s1,s2,c,e1,e2]
     ·have e2:(0< (lo.m.length:Int))=True:=tt;by_cases m3:lo.e<hi.e
      ·have e3:=eq_true m3;rw[aq (.inr ⟨m2,m3⟩)];simp only[iN,rV,ae,aj,go_sem,aBo,hd,hu,s1,s2,c,e1,e2,e3]
      ·have e3:(lo.e<hi.e)=False:=eq_false m3;rw[ax ω];simp only[iN,rV,ae,aj,go_sem,aBo,hd,hu,s1,s2,c,e1,e2,e3]
   ·rw[e]at c;rw[ax ω,aq ω];simp only[iN,rV,ae,aj,go_sem,aBo,hd,hu,s1,s2,c]
  ·rw[ax h1];generalize cx d p false=lo at*
   generalize cx d p true=hi at*
   have e1:(hi.2=0)=False:=eq_false h1;have e0:(lo.2=0)=True:=eq_true h0;simp only[rV,ae,aj]at hd hu;simp only[iN,rV,aG,ae,aj,go_sem,hd,hu,e0,e1]
 ·rw[ax h0];generalize cx d p false=lo at*
  have e0:(lo.2=0)=False:=eq_false h0;simp only[rV,ae,aj]at hd;simp only[iN,rV,aG,ae,aj,go_sem,hd,e0]
theorem FZ(d)(p):vd (nF d p).1=true/\Ok0 (nF d p).1:=by
 unfold nF;split
 ·split
  ·unfold MC YQ;grind[SO,CL]
  ·exact aO
 ·exact aO
def dW(x:List Int)(c:Rd)(l:List Rt):List Rt:=if c.m.length=0 then l else⟨x,c⟩::l
def xk(p:Int):List Rt->Option (List Rt×List Rt)
 |[]=>some ([],[])
 |t::ts=>if(nF t.c p).2=0 then(if(oT t.c (nF t.c p).1).2=0 then(xk p ts).map fun q=>(dW t.exps (nF t.c p).1 q.1,dW t.exps (oT t.c (nF t.c p).1).1 q.2)else none)else none
def fE(a:Rp)(p:Int):(Rp×Rp)×Int:=if vp a=true then(if p<8\/512<p then((p0,p0),2)else match xk p a.terms with
 |none=>((p0,p0),9)
 |some q=>((⟨a.vars,q.1⟩,⟨a.vars,q.2⟩),0))else((p0,p0),1)
def YR(r:(Rp×Rp)×Int):AV:=.tup [bo r.1.1,bo r.1.2,I r.2]
def Tp(blk:Option (Ex×St))(i1 i2:Nat)(S:aN)(v':Int)(l1 l2:List Rt):Option (List Rt×List Rt)->Prop
 |some q=>FU blk i1 i2 S v' l1 l2 q.1 q.2
 |none=>∃hh,blk=some (.ret,⟨upd (upd (upd cr 6 (I 9)) 5 (ac 5)) 4 (ac 4),hh⟩)/\hh 4=.bx [I 0,.emp]/\hh 5=.bx [I 0,.emp]
theorem GO{x}{c}{l r}:l++dW x c []++r=l++dW x c r:=by
 unfold dW;split
 ·rw[aBz]
 ·rw[aCd];rfl
theorem Tp.step{blk}{i1 i2}{S}{v'}{l1 l2}{x}{c d}:∀ {o},Tp blk i1 i2 S v' (l1++dW x c []) (l2++dW x d []) o->Tp blk i1 i2 S v' l1 l2 (o.map fun q=>(dW x c q.1,dW x d q.2)):=by
 intro o h;cases o with
 |none=>exact h
 |some q=>
  obtain⟨hh,c1,c2,h1,h2,h3,h4,h5,h6,h7⟩:=h;exact⟨hh,c1,c2,h1,h2,h3,h4,h5,by rwa[GO]at h6,by rwa[GO]at h7⟩
theorem VT.put{v}{t}{d}(h:VT v t)(od:Ok0 d)(vdd:vd d=true)(nd:d.m.length≠0):VT v ⟨t.exps,d⟩:=⟨od,h.len,h.v8,vdd,nd,h.b,h.d⟩
theorem ajU{v v' p}{A}(hA:Cl v A)(hn:A.length<=100000){o2}(k2c:∀ids,aE ids o2=true):
  ∀k i,i+k=A.length->∀c1 c2 l1 l2,oB c1 l1->oB c2 l2->Bf v l1 (A.drop i)->Bf v l2 (A.drop i)->l1.length+k<=1000000->l2.length+k<=1000000->∀s h,s 1=I p->s 4=ac 4->s 5=ac 5->s 7=ac 2248->s 8=ac 2272->s 36=.sl 4 (aT A)->s 37=I A.length->s 38=I i->h 2=o2->h 4=.bx [I 0,.emp]->h 5=.bx [I 0,.emp]->h 2248=t3 v' c1 0->h 2272=t3 v' c2 0->
  Tp (ao 1 [4,5,7,8] (aD (ap R (aC false) fR) [1,4,5,7,8,36,37,38] [2,4,5,2248,2272] s h)) 2248 2272 (upd (upd (upd (upd cr 8 (ac 2272)) 7 (ac 2248)) 5 (ac 5)) 4 (ac 4)) v' l1 l2 (xk p (A.drop i)):=by
 intro k;induction k with
 |zero=>
  intro i hi c1 c2 l1 l2 hc1 hc2 _ _ _ _ s h g1 g4 g5 g7 g8 g36 g37 g38 k2 k4 k5 k2248 k2272;have e1:((i:Int)< (A.length:Int))=False:=ff;have ho1:=(mM (v:=v') (e:=0) hc1).cl [2,4,5,2248,2272];have ho2:=(mM (v:=v') (e:=0) hc2).cl [2,4,5,2248,2272];have ho3:=k2c [2,4,5,2248,2272];rw[aBQ ω,ai];refine⟨?hh0,c1,c2,?_,?_,?_,?_,?_,by grind,by grind⟩;rotate_left
  ·simp only[fR,go_sem,g1,g4,g5,g7,g8,g36,g37,g38,k2,k4,k5,k2248,k2272,ho1,ho2,ho3,e1];rfl
  ·rfl
  ·rfl
  ·rfl
  ·rfl
 |succ k ih=>
  intro i hi c1 c2 l1 l2 hc1 hc2 b1 b2 hl1 hl2 s h g1 g4 g5 g7 g8 g36 g37 g38 k2 k4 k5 k2248 k2272;have hlt:i<A.length:=ω
  have e1:((i:Int)< (A.length:Int))=True:=tt;have e2:=my rfl (aBp hlt);have e5:aS ((i:Int)+1)=((i+1:Nat):Int):=wi;have ho1:=(mM (v:=v') (e:=0) hc1).cl [2,4,5,2248,2272];have ho2:=(mM (v:=v') (e:=0) hc2).cl [2,4,5,2248,2272];have ho3:=k2c [2,4,5,2248,2272];have hAd:=hA.dropN i;rw[aBJ hlt]at b1 b2 hAd⊢;have ih':=ih (i+1) ω;have vt:=hAd.head;have hrow:∀q ts,xk p (q::ts)=if(nF q.c p).2=0 then(if(oT q.c (nF q.c p).1).2=0 then(xk p ts).map fun x=>(dW q.exps (nF q.c p).1 x.1,dW q.exps (oT q.c (nF q.c p).1).1 x.2)else none)else none:=fun q ts=>rfl
  rw[hrow];generalize A[i]=t at e2 vt b1 b2 hAd⊢;have hnr:=am0 vt.c (p:=p);obtain⟨vm,om⟩:=FZ t.c p;rw[ai];generalize aD _ _ _=L at ih'⊢;generalize nF t.c p=m at hnr vm om⊢;obtain⟨m,em⟩:=m;have hsb:=Tm vt.c om;obtain⟨vq,oq⟩:=AU t.c m;simp only at hsb vq oq;generalize oT t.c m=q at hsb vq oq⊢;obtain⟨q,eq⟩:=q;simp only[dB]at e2;simp only[rV,ae,aj]at hnr hsb;by_cases hm:em=0
  ·subst hm;rw[aq rfl];by_cases hq:eq=0
   ·subst hq;rw[aq rfl];refine Tp.step ?_;simp only at vm om vq oq;by_cases zm:m.m.length=0
    ·have f1:(0< (m.m.length:Int))=False:=ff;have x1:l1++dW t.exps m []=l1:=by simp_all[dW,aq,aBz]
     simp only[x1];by_cases zq:q.m.length=0
     ·have f2:(0< (q.m.length:Int))=False:=ff;have x2:l2++dW t.exps q []=l2:=by simp_all[dW,aq,aBz]
      simp only[x2];have ih2:=ih' c1 c2 l1 l2 hc1 hc2 b1.drop b2.drop ω ω;simp only[fR,go_sem,g1,g4,g5,g7,g8,g36,g37,g38,k2,k4,k5,k2248,k2272,ho1,ho2,ho3,e1,e2,hnr,hsb,f1,f2,e5];refine ih2 _ _ ?_ ?_ ?_ ?_ ?_ ?_ ?_ ?_ ?_ ?_ ?_ ?_ ?_
      all_goals first|rfl|assumption
     ·have f2:(0< (q.m.length:Int))=True:=tt;have x2:l2++dW t.exps q []=l2++[⟨t.exps,q⟩]:=by simp_all[dW,ax]
      simp only[x2];obtain⟨c4,s3,s4⟩:=FT (v':=v') b2 (vt.put oq vq zq) ω hc2;have hcall2:=fun(h:ah) (hh:h 2272=t3 v' c2 0) (d:Nat)=>dQ (aV.1.2.1 false) rfl (ri (d:=d) hh hc2 s4 s3);have ih2:=ih' c1 c4 l1 _ hc1 s4 b1.drop (b2.push hAd (vt.put oq vq zq)) ω γ;simp only[ae,aj]at hcall2;simp only[fR,go_sem,g1,g4,g5,g7,g8,g36,g37,g38,k2,k4,k5,k2248,k2272,ho1,ho2,ho3,e1,e2,hnr,hsb,f1,f2];rw[hcall2 _ rfl];simp only[go_sem,e5];refine ih2 _ _ ?_ ?_ ?_ ?_ ?_ ?_ ?_ ?_ ?_ ?_ ?_ ?_ ?_
      all_goals first|rfl|assumption
    ·have f1:(0< (m.m.length:Int))=True:=tt;have x1:l1++dW t.exps m []=l1++[⟨t.exps,m⟩]:=by simp_all[dW,ax]
     simp only[x1];obtain⟨c3,s1,s2⟩:=FT (v':=v') b1 (vt.put om vm zm) ω hc1;have hcall:=fun(h:ah) (hh:h 2248=t3 v' c1 0) (d:Nat)=>dQ (aV.1.2.1 false) rfl (ri (d:=d) hh hc1 s2 s1);have bp1:=b1.push hAd (vt.put om vm zm);have lp1:(l1++[(⟨t.exps,m⟩:Rt)]).length+k<=1000000:=γ
     simp only[ae,aj]at hcall;by_cases zq:q.m.length=0
     ·have f2:(0< (q.m.length:Int))=False:=ff;have x2:l2++dW t.exps q []=l2:=by simp_all[dW,aq,aBz]
      simp only[x2];have ih2:=ih' c3 c2 _ l2 s2 hc2 bp1 b2.drop lp1 ω;simp only[fR,go_sem,g1,g4,g5,g7,g8,g36,g37,g38,k2,k4,k5,k2248,k2272,ho1,ho2,ho3,e1,e2,hnr,hsb,f1];rw[hcall _ rfl];simp only[go_sem,f2,e5];refine ih2 _ _ ?_ ?_ ?_ ?_ ?_ ?_ ?_ ?_ ?_ ?_ ?_ ?_ ?_
      all_goals first|rfl|assumption
     ·have f2:(0< (q.m.length:Int))=True:=tt;have x2:l2++dW t.exps q []=l2++[⟨t.exps,q⟩]:=by unfold dW;rw[ax zq]
      simp only[x2];obtain⟨c4,s3,s4⟩:=FT (v':=v') b2 (vt.put oq vq zq) ω hc2;have hcall2:=fun(h:ah) (hh:h 2272=t3 v' c2 0) (d:Nat)=>dQ (aV.1.2.1 false) rfl (ri (d:=d) hh hc2 s4 s3);have ih2:=ih' c3 c4 _ _ s2 s4 bp1 (b2.push hAd (vt.put oq vq zq)) lp1 γ;simp only[ae,aj]at hcall2;simp only[fR,go_sem,g1,g4,g5,g7,g8,g36,g37,g38,k2,k4,k5,k2248,k2272,ho1,ho2,ho3,e1,e2,hnr,hsb,f1];rw[hcall _ rfl];simp only[go_sem,f2];rw[hcall2 _ rfl];simp only[go_sem,e5];refine ih2 _ _ ?_ ?_ ?_ ?_ ?_ ?_ ?_ ?_ ?_ ?_ ?_ ?_ ?_
      all_goals first|rfl|assumption
   ·rw[ax hq];have f1:(eq=0)=False:=ff hq;refine⟨?hh1,?_,?_,?_⟩;rotate_left
    ·simp only[fR,go_sem,g1,g4,g5,g7,g8,g36,g37,g38,k2,k4,k5,k2248,k2272,ho1,ho2,ho3,e1,e2,hnr,hsb,f1];rfl
    ·rfl
    ·rfl
  ·rw[ax hm];have f1:(em=0)=False:=ff hm;refine⟨?hh2,?_,?_,?_⟩;rotate_left
   ·simp only[fR,go_sem,g1,g4,g5,g7,g8,g36,g37,g38,k2,k4,k5,k2248,k2272,ho1,ho2,ho3,e1,e2,hnr,f1];rfl
   ·rfl
   ·rfl
theorem asr{v v' p}{A}(hA:Cl v A)(hn:A.length<=100000){o2}(k2c:∀ids,aE ids o2=true)(s)(h)(X)(hX:ao 1 [4,5,7,8] (aD (ap R (aC false) fR) [1,4,5,7,8,36,37,38] [2,4,5,2248,2272] s h)=X)
  (g1:s 1=I p) (g4:s 4=ac 4) (g5:s 5=ac 5) (g7:s 7=ac 2248) (g8:s 8=ac 2272) (g36:s 36=.sl 4 (aT A)) (g37:s 37=I A.length) (g38:s 38=I 0) (k2:h 2=o2) (k4:h 4=.bx [I 0,.emp]) (k5:h 5=.bx [I 0,.emp]) (k2248:h 2248=t3 v' .emp 0) (k2272:h 2272=t3 v' .emp 0):
  Tp X 2248 2272 (upd (upd (upd (upd cr 8 (ac 2272)) 7 (ac 2248)) 5 (ac 5)) 4 (ac 4)) v' [] [] (xk p A):=by
 subst hX;exact ajU hA hn k2c A.length 0 (aBi _) .emp .emp [] [] (.inr ⟨rfl,rfl⟩) (.inr ⟨rfl,rfl⟩) (Bf.nil _) (Bf.nil _) γ γ s h g1 g4 g5 g7 g8 g36 g37 g38 k2 k4 k5 k2248 k2272
theorem agY{a}{p}(oa:OkP a):R 183 [bo a,I p] []=some (YR (fE a p),[]):=by
 refine az Xy rfl ?_;have v1:=xd oa;simp only[bo]at v1;unfold fE;cases va:vp a with
 |false=>
  rw[va]at v1;simp only[qC,wI,bo,go_sem,v1];rfl
 |true=>
  rw[va]at v1;rw[aq rfl];by_cases h8:p<8
  ·have e0:=eq_true h8;simp only[qC,wI,bo,go_sem,v1,e0];rfl
  ·have e0:=eq_false h8;by_cases h9:512<p
   ·have e3:=eq_true h9;simp only[qC,wI,bo,go_sem,v1,e0,e3];rfl
   ·have e3:=eq_false h9;rw[ax ω];obtain⟨ka,a0,a8,al⟩:=gj oa va;have hemp:=CT (v:=a.vars);have hl:=asr (v:=a.vars) (v':=a.vars) (p:=p) ka ω (o2:=.bx [I a.vars,.sl 4 (aT a.terms)]) (fun _=>rfl);simp only[qC,wI,bo,go_sem,v1,e0,e3,hemp,rk];generalize hX:ao 1 _ _=X;have hM:=hl _ _ _ hX Z Z Z Z Z Z Z Z Z Z Z Z Z;cases hr:xk p a.terms with
    |none=>
     rw[hr]at hM;obtain⟨hh,rfl,q4,q5⟩:=hM;simp only[YR,p0,bo,go_sem,q4,q5];rfl
    |some q=>
     rw[hr]at hM;obtain⟨hh,c1,c2,rfl,q4,q5,q1,q2,i1,i2⟩:=hM;obtain⟨r1,r2⟩:=q;simp only[t3]at q1 q2;rcases i1 with rfl| ⟨rfl,rfl⟩
     ·rcases i2 with rfl| ⟨rfl,rfl⟩
      ·simp only[YR,bo,go_sem,aBP,aBY,q4,q5,q1,q2,xi,AR,aBM,aBX,zD,xe]
      ·simp only[YR,bo,go_sem,aBP,aBY,q4,q5,q1,q2,xi,AR,aBM,aBX,zD,xe,CU];rfl
     ·rcases i2 with rfl| ⟨rfl,rfl⟩
      ·simp only[YR,bo,go_sem,aBP,aBY,q4,q5,q1,q2,xi,AR,aBM,aBX,zD,xe,CU];rfl
      ·simp only[YR,bo,go_sem,aBP,aBY,q4,q5,q1,q2,xi,AR,aBM,aBX,zD,CU];rfl
def O3(blk:Option (Ex×St))(i1 i2:Nat)(S:aN)(v':Int)(l1 l2 r1 r2:List Rt):Prop:=
 ∃hh c1 c2,blk=some (.normal,⟨S,hh⟩)/\hh 4=.bx [I 0,.emp]/\hh 5=.bx [I 0,.emp]/\hh i1=.bx [I v',c1]/\hh i2=.bx [I v',c2]/\oB c1 (l1++r1)/\oB c2 (l2++r2)
theorem O3.p1{blk}{i1 i2}{S}{v'}{l1 l2 r1 r2}{t}(h:O3 blk i1 i2 S v' (l1++[t]) l2 r1 r2):O3 blk i1 i2 S v' l1 l2 (t::r1) r2:=by
 obtain⟨hh,c1,c2,h1,h2,h3,h4,h5,h6,h7⟩:=h;exact⟨hh,c1,c2,h1,h2,h3,h4,h5,by rwa[List.append_cons],h7⟩
theorem O3.p2{blk}{i1 i2}{S}{v'}{l1 l2 r1 r2}{t}(h:O3 blk i1 i2 S v' l1 (l2++[t]) r1 r2):O3 blk i1 i2 S v' l1 l2 r1 (t::r2):=by
 obtain⟨hh,c1,c2,h1,h2,h3,h4,h5,h6,h7⟩:=h;exact⟨hh,c1,c2,h1,h2,h3,h4,h5,h6,by rwa[List.append_cons]⟩
def ajV(blk:Option (Ex×St))(i1 i2:Nat)(S:aN)(v':Int)(l1 l2:List Rt):Option (List Rt×List Rt)->Prop
 |some q=>O3 blk i1 i2 S v' l1 l2 q.1 q.2
 |none=>∃hh,blk=some (.ret,⟨upd (upd (upd cr 6 (I 9)) 5 (ac 5)) 4 (ac 4),hh⟩)/\hh 4=.bx [I 0,.emp]/\hh 5=.bx [I 0,.emp]
theorem ajV.step{blk}{i1 i2}{S}{v'}{l1 l2}{x}{c d}:∀ {o},ajV blk i1 i2 S v' (l1++dW x c []) (l2++dW x d []) o->ajV blk i1 i2 S v' l1 l2 (o.map fun q=>(dW x c q.1,dW x d q.2)):=by
 intro o h;cases o with
 |none=>exact h
 |some q=>
  obtain⟨hh,c1,c2,h1,h2,h3,h4,h5,h6,h7⟩:=h;exact⟨hh,c1,c2,h1,h2,h3,h4,h5,by rwa[GO]at h6,by rwa[GO]at h7⟩
theorem Cl.filter{v}{l}(h:Cl v l)(p):Cl v (l.filter p):=⟨fun t ht=>h.t t (List.mem_filter.1 ht).1,h.s.filter p⟩
theorem GQ{a}{o}(oa:OkP a):(Cl (dH a o).1.vars (dH a o).1.terms/\(dH a o).1.terms.length<=100000)/\(Cl (dH a o).2.vars (dH a o).2.terms/\(dH a o).2.terms.length<=100000):=by
 unfold dH;cases va:vp a with
 |false=>
  rw[ax aBu];exact⟨⟨Cl.nil _,by decide⟩,⟨Cl.nil _,by decide⟩⟩
 |true=>
  obtain⟨ka,a0,a8,al⟩:=gj oa va;exact⟨⟨ka.filter _,by grind⟩,⟨ka.filter _,by grind⟩⟩
theorem Ij{v p}:∀ {ts} {q},Cl v ts->xk p ts=some q->(Cl v q.1/\q.1.length<=ts.length/\∀y∈q.1,∃t∈ts,y.exps=t.exps)/\(Cl v q.2/\q.2.length<=ts.length/\∀y∈q.2,∃t∈ts,y.exps=t.exps)
 |[],q,_,h=>by
  cases h;grind
 |t::ts,q,c,h=>by
  obtain⟨vt,ht,c2⟩:=c.cons;unfold xk at h;split at h
  ·split at h
   ·rw[aBj]at h;obtain⟨q2,h2,rfl⟩:=h;obtain⟨⟨k1,k2,k3⟩,⟨k4,k5,k6⟩⟩:=Ij c2 h2;have key:∀ {d} {l},vd d=true->Ok0 d->Cl v l->l.length<=ts.length->(∀y∈l,∃t∈ts,y.exps=t.exps)->Cl v (dW t.exps d l)/\(dW t.exps d l).length<=(t::ts).length/\∀y∈dW t.exps d l,∃q∈t::ts,y.exps=q.exps:=by
     intro d l vdd od cl hl hy;unfold dW;split
     ·refine⟨cl,by simp;omega,fun y h=>?_⟩;obtain⟨q,hq,he⟩:=hy y h;exact⟨q,by simp[hq],he⟩
     ·rename_i h0;refine⟨Cl.mk' (vt.put od vdd h0) (fun y h=>?_) cl,by simp;omega,fun y h=>?_⟩
      ·obtain⟨q,hq,he⟩:=hy y h;rw[he];exact ht q hq
      ·rcases List.mem_cons.1 h with rfl|h
       ·exact⟨t,by simp,rfl⟩
       ·obtain⟨q,hq,he⟩:=hy y h;exact⟨q,by simp[hq],he⟩
    exact⟨key (FZ _ _).1 (FZ _ _).2 k1 k2 k3,key (AU _ _).1 (AU _ _).2 k4 k5 k6⟩
   ·cases h
  ·cases h
theorem UE{a}{p}(oa:OkP a):Res ((fE a p).1.1,(fE a p).2)/\Res ((fE a p).1.2,(fE a p).2):=by
 have h0:∀e,Res (p0,e):=fun e=>⟨Cl.nil _,aBB _,.inr rfl⟩;unfold fE;cases va:vp a with
 |false=>
  grind
 |true=>
  rw[aq rfl];split
  ·grind
  ·obtain⟨ka,a0,a8,al⟩:=gj oa va;cases hr:xk p a.terms with
   |none=>grind
   |some q=>
    obtain⟨⟨k1,k2,_⟩,⟨k3,k4,_⟩⟩:=Ij ka hr;exact⟨⟨k1,by grind,.inl rfl⟩,⟨k3,by grind,.inl rfl⟩⟩
abbrev mdR(l:List Rm):List (List AV):=l.map fun m=>yy m
theorem ass{s}{m}(os:OkS s)(om:OkM m):R 103 [cw m,ac 1000] [.bx (tL s)]=some (B (!rm s m),[.bx (tL s)]):=by
 refine B3 Qa P9 (DA false) rfl ?_;have h:=GN os om;simp only[Aa,go_sem,h];exact lP Z Z Z Z Z
theorem awv(l:List (List AV)):l.map (eP [])=l:=tH fun x _=>WT x
theorem aww:Src 102 155 9 true [.o 0 [],.o 5 [],.o 0 [],.o 2 [],.o 0 [],.o 0 [],.o 2 [],.o 0 [],.o 0 []]:=
 ⟨cI.2.1,cI.2.2,cI.1.2.2.2 false,cI.1.2.1 false,cI.1.2.2.2 false,cI.1.1 false,
  cR.2.1,cR.2.2,cR.1.2.2.2 false⟩
theorem am1(m):eP [.o 0 [],.o 5 [],.o 0 [],.o 2 [],.o 0 [],.o 0 [],.o 2 [],.o 0 [],.o 0 []] (yy m)=yy m:=by
 simp only[go_sem,awv]
theorem abP(l):(mdR l).map (eP [.o 0 [],.o 5 [],.o 0 [],.o 2 [],.o 0 [],.o 0 [],.o 2 [],.o 0 [],.o 0 []])=mdR l:=by
 grind[tH,am1]
def yz(s:Rs)(l:List Rm):Bool:=fk s&&!(l.any fun m=>!rm s m)
theorem CY{s}{l}(os:OkS s)(om:∀m∈l,OkM m)(hl:l.length<4611686018427387904):R 44 [go s,.sl 9 (mdR l)] []=some (B (yz s l),[]):=by
 refine az U9 rfl ?_;have h1:=zO os.d os.n;unfold yz;cases g1:fk s with
 |false=>
  rw[g1]at h1;simp only[xI,go_sem,h1,aBy]
 |true=>
 rw[g1]at h1;have hc:=Mp aww (Frow:=fun m=>yy m) (l:=l) (q:=fun m=>!rm s m) (nE s) (GB false) (DA false) hl (abP _) fun m hm=>⟨cw m,cw m,rfl,rfl,rfl,by simp only[go_sem,dC],ass os (om m hm)⟩;have hcc:=fun h d hh (hf:h (2000+8*d)=.dead)=>Ar (f:=102) (g:=103) (h:=h) (d:=d) (id:=2) (zas:=[.sl 9 (mdR l)]) (as':=[.sl 9 (mdR l)]) (cR.1.2.1 false) (cR.1.2.2.2 false)
  (by simp only[go_sem,abP,aBF,aBw]) Z Z hh (nE _) (nE _) (fun h=>h) hc (S6 _) (aBI rfl) (by grind[cj,cM,bX])
 simp only[aBF,aBw,go_sem]at hcc;simp only[xI,go_sem,h1];rw[hcc _ _ Z Z];simp only[go_sem]
def cu(s:Rs):Rm:=⟨⟨s.dom.length,[]⟩,cG⟩
theorem CZ{s}:R 34 [go s] []=some (cw (cu s),[]):=by
 refine az Xh rfl ?_;have h:=gP;simp only[af,am,cG,aG]at h;simp only[DU,cu,cG,aG,aBX,go_sem,h];rfl
noncomputable def Tq (a:Rp) (dom:List Ri) (p:Int):Ri:=open Classical in if h:∃z,R 107 [bo a,.sl 7 (cB dom),I p] []=some (af z,[])/\OkI z/\vi z=true then Classical.choose h else cG
theorem Ts{a}{dom}{p}(oa:OkP a)(od:∀x∈dom,OkI x)(h2:dom.length<=100000):R 107 [bo a,.sl 7 (cB dom),I p] []=some (af (Tq a dom p),[])/\OkI (Tq a dom p)/\vi (Tq a dom p)=true:=by
 have h:∃z,R 107 [bo a,.sl 7 (cB dom),I p] []=some (af z,[])/\OkI z/\vi z=true:=by
  obtain⟨b,hB,hbr,hbn⟩:=YN oa od h2 (p:=p);cases hq:(mW a dom&&bE p)with
  |false=>
   have hb:=hbn hq;subst hb;refine⟨_,O1 oa od h2 (p:=p) (b:=cG) CR.ok' (fun _=>hB),?_⟩;unfold Jw;rw[hq];exact⟨CR.ok',rfl⟩
  |true=>
   have hq2:=hq;rw[aBk]at hq2;obtain⟨hv,hl,hk⟩:=Q0 od hq2.1;have i2:=hbr _ _ (MB dom);obtain⟨m1,m2⟩:=Js (Ly (p:=p) oa (nD.inL hk (MB dom))) i2;refine⟨_,O1 oa od h2 (p:=p) (b:=b) i2.ok (fun _=>hB),?_⟩;unfold Jw;rw[aq hq,aq m1];exact⟨m2.ok,m2.v⟩
 unfold Tq;grind
noncomputable def mY (a:Rp) (dom:List Ri) (p:Int):Ri:=if a.terms.length=0 then cp else Tq a dom p
theorem tC{a}{dom}{p}(oa:OkP a)(od:∀x∈dom,OkI x)(h2:dom.length<=100000):OkI (mY a dom p)/\vi (mY a dom p)=true:=by
 unfold mY;split
 ·exact⟨⟨aO.2,aO.2⟩,by have v:=aO.1;grind[cp,vi]⟩
 simp_all[Ts]
theorem AW{a}{dom}{p}(oa:OkP a)(od:∀x∈dom,OkI x)(h2:dom.length<=100000):R 49 [bo a,.sl 7 (cB dom),I p] []=some (af (mY a dom p),[]):=by
 refine az Se rfl ?_;have h1:=UC;have h3:=(Ts oa od h2 (p:=p)).1;unfold mY;simp only[bo,af,am]at h1 h3;by_cases g:a.terms.length=0
 ·have f:((a.terms.length:Int)=0)=True:=tt;rw[aq g];simp only[vW,bo,af,am,go_sem,h1,f]
 ·have f:((a.terms.length:Int)=0)=False:=ff;rw[ax g];simp only[vW,bo,af,am,go_sem,h3,f]
noncomputable def xp (s:Rs) (q:Rp):(Rp×Ri)×Bool:=
 if(fE (dH q s.ord).1 s.p).2=0 then((⟨s.dom.length,(fE (dH q s.ord).1 s.p).1.1.terms⟩,dk (mY (dH q s.ord).2 s.dom s.p) (mY (fE (dH q s.ord).1 s.p).1.2 s.dom s.p) s.p),true)
 else(((fE (dH q s.ord).1 s.p).1.1,cp),false)
theorem am2{s}{q}(os:OkS s)(oq:OkP q)(h2:s.dom.length<=100000):R 133 [go s,bo q] []=some (.tup [bo (xp s q).1.1,af (xp s q).1.2,B (xp s q).2],[]):=by
 refine az Z4 rfl ?_;have h1:=agD (o:=s.ord) oq;obtain⟨⟨c1,_⟩,c2,_⟩:=GQ (o:=s.ord) oq;unfold xp;generalize dH q s.ord=sp at h1 c1 c2⊢;have h3:=agY (p:=s.p) (kS c1);obtain⟨r1,r2⟩:=UE (p:=s.p) (kS c1);generalize fE sp.1 s.p=r at h3 r1 r2⊢;have h4:=AW (p:=s.p) (kS c2) os.d h2;have h5:=AW (p:=s.p) (kS r2.cl) os.d h2;have k4:=tC (p:=s.p) (kS c2) os.d h2;have k5:=tC (p:=s.p) (kS r2.cl) os.d h2;have h6:=te k4.1 k5.1 (p:=s.p);simp only[ppV,YR,bo,af,am]at h1 h3 h4 h5 h6;by_cases g:r.2=0
 ·have f:=eq_true g;simp only[BC,bo,af,am,go_sem,h1,h3,h4,h5,h6,f]
 ·have f:=eq_false g;simp only[BC,bo,af,am,cp,aG,go_sem,h1,h3,f]
noncomputable def jD (s:Rs) (q:Rp) (e:Int) (r:Ri):Rm:=if e=0 then(if(xp s q).2=true then⟨(xp s q).1.1,dk r (xp s q).1.2 s.p⟩else cu s)else cu s
theorem am3{s}{q}:OkI (xp s q).1.2:=by
 unfold xp;split
 ·exact yg
 ·exact⟨aO.2,aO.2⟩
theorem Jx{s}{q}{e}{r}(os:OkS s)(oq:OkP q)(or:OkI r)(h2:s.dom.length<=100000):R 77 [go s,bo q,I e,af r] []=some (cw (jD s q e r),[]):=by
 refine az Xl rfl ?_;have h1:=CZ (s:=s);have h3:=am2 os oq h2;have h4:=te or (am3 (s:=s) (q:=q)) (p:=s.p);unfold jD;generalize xp s q=c at h3 h4⊢;simp only[bo,af,am]at h3 h4;by_cases g:e=0
 ·have f:=eq_true g;cases g2:c.2 with
  |true=>
   rw[g2]at h3;simp only[uN,bo,af,am,go_sem,h3,h4,f]
  |false=>
   rw[g2]at h3;simp only[uN,bo,af,am,go_sem,h1,h3,f]
 ·have f:=eq_false g;simp only[uN,bo,af,am,go_sem,h1,f]
def rq(w:Bool)(M d:Nat):Nat:=if w=true/\M%2^d≠0 then M/2^d+1 else M/2^d
def dR(M n j:Nat):Nat:=if ag M<=n+j then j else ag M-n
theorem abQ{w}{M M' d}(h:M<=M'):rq w M d<=rq w M' d:=by
 have h1:=aCb M (2^d);have h3:=aCb M' (2^d);have h5:M/2^d<=M'/2^d:=Nat.div_le_div_right h;grind[rq,Nat.eq_or_lt_of_le]
theorem ast{w}{M d e}(h:M<2^ (d+e)):rq w M d<=2^e:=by
 have h1:M/2^d<2^e:=by
  rw[Nat.div_lt_iff_lt_mul (aBA d),←aBx,Nat.add_comm];omega
 grind[rq]
theorem akZ(M n j):j<=dR M n j/\ag M<=n+dR M n j:=by
 grind[dR]
theorem ajW{w}(hn:8<=n):cO M (-16384-j) false n w=uA n w (rq w M (dR M n j)) ((dR M n j)-j-16384):=by
 have hu:eZ M (-16384-j) n=(dR M n j)-j-16384:=by
  grind[eZ,dR]
 unfold cO;have hq:pY M (-16384-j) false ((dR M n j)-j-16384)=(M/2^dR M n j,decide (M%2^dR M n j≠0)):=by
  unfold pY;generalize dR M n j=d;by_cases h:d=0
  ·subst h;grind
  grind
 grind[pe,rq]
theorem aah{q d T}(hq:q≠0):T<ag q+d↔2^T<=q*2^d:=by
 by_cases h:d<=T
 ·rw[show T<ag q+d↔T-d<ag q by omega,lw]
  conv=>rhs;rw[show T=(T-d)+d by omega,aBx]
  simp_all[Nat.mul_le_mul_right_iff,aBA]
 ·refine⟨fun _=>?_,fun _=>by omega⟩;refine aBq (aB4 δ (by omega:T<=d)) ?_;exact Nat.le_mul_of_pos_left _ ω
theorem apN{q n k}(h:q<=2^n)(hk:n<k):ag q<=k:=bT.2 (aBU h (Nat.pow_lt_pow_right δ hk))
theorem asu{w}{M n j}(hn:n<=512):ag (rq w M (dR M n j))<=4096/\(w=false->rq w M (dR M n j)<2^n):=by
 have k:=akZ M n j;have k5:M<2^ag M:=bT.1 (aBh _);have k6:M<2^ (dR M n j+n):=aCf k5 (aB4 δ ω);have h1:=ast (w:=w) k6;refine⟨apN h1 ω,?_⟩
 simp_all[rq,ax,Nat.div_lt_iff_lt_mul,aBA,aBx,Nat.add_comm]
theorem abR{M j n}{w}(h0:M≠0)(hn:8<=n/\n<=512):
  (rq w M (dR M n j)*2^dR M n j<2^ (32768+j)->(cO M (-16384-j) false n w).2=0/\zI (cO M (-16384-j) false n w).1*2^j=(rq w M (dR M n j)*2^dR M n j:Nat))/\
  (2^ (32768+j)<=rq w M (dR M n j)*2^dR M n j->(w=true->(cO M (-16384-j) false n w).2≠0)/\
   (w=false->(cO M (-16384-j) false n w).2=0/\zI (cO M (-16384-j) false n w).1=((2^n-1)*2^ (32768-n):Nat))):=by
 have k:=akZ M n j;obtain⟨b1,_⟩:=asu (w:=w) (M:=M) (j:=j) hn.2;rw[ajW hn.1];have hq0:rq w M (dR M n j)=0->¬32768+j<ag (rq w M (dR M n j))+dR M n j:=fun h=>by
  rw[h,show ag 0=0 from rfl];have hM:M<2^dR M n j:=by
   unfold rq at h;split at h
   all_goals simp_all
  have h3:=bT.2 hM;unfold dR at h3⊢;grind
 generalize hd:dR M n j=d at*
 generalize rq w M d=q at*
 have ov:16384< (ag q)+((d:Int)-j-16384)↔2^ (32768+j)<=q*2^d:=by
  by_cases hq:q=0
  ·subst hq;have h5:=aBA (32768+j);constructor<;>intro h6<;>omega
  ·rw[←aah hq];omega
 unfold uA;constructor
 ·intro h;have h1:¬16384< (ag q)+((d:Int)-j-16384):=fun hc=>by
   omega
  rw[ax h1];have hc:=FH (neg:=false) (M:=q) (e:=d-j-16384) b1 ω ω;have h2:(cS (bu false q (d-j-16384))).2=0:=by rw[hc]
  refine⟨h2,?_⟩;rw[Lr ω h2,show((d:Int)-j-16384+16384).toNat=d-j by omega,show 2^j=((2^j:Nat):Int)by simp,←Int.natCast_mul,aBH,←aBx,show d-j+j=d by omega]
 ·intro h;have h1:=ov.2 h;rw[aq h1];constructor
  ·rintro rfl
   simp
  ·rintro rfl
   rw[ax σ];have hp1:2^n-1<2^n:=by have:=aBA n;omega
   have hb:=bT.2 hp1;have hc:=FH (neg:=false) (M:=2^n-1) (e:=16384-n) ω ω ω;have h2:(cS (bu false (2^ ((n:Int)).toNat-1) (16384-n))).2=0:=by rw[aBr,hc]
   refine⟨h2,?_⟩;rw[Lr ω h2,aBr,show(16384- (n:Int)+16384).toNat=32768-n by omega]
theorem ag0{w}(h0:M≠0)(hn:8<=n/\n<=512)(h:(cO M (-16384-j) false n w).2=0):0<=zI (cO M (-16384-j) false n w).1:=by
 obtain⟨k,h1,_⟩:=Jq (s:=0) (t:=j) h0 (p:=n) ω ω (fun h=>absurd h aBu) h;omega
theorem abS{z f p}{up}(h:z<0):iL z f p up=iX true (cO z.natAbs f false p (!up)):=by
 unfold iL;rw[ax ω,decide_eq_true h]
 simp_all
theorem abT{z f p}{up}(h:0<z):iL z f p up=cO z.natAbs f false p up:=by
 unfold iL;rw[ax ω,decide_eq_false ω]
 simp_all[iX,ax]
theorem ag1{M}{f p}{w}:(iX true (cO M f false p w)).2=(cO M f false p w).2/\((cO M f false p w).2=0->zI (iX true (cO M f false p w)).1=-zI (cO M f false p w).1):=by
 unfold iX;by_cases h:(cO M f false p w).2=0
 all_goals simp_all[aq,yi,S9,ax,absurd]
theorem ak0{f p}{up}:iL 0 f p up=(aG,0):=by simp_all[iL,aq]
theorem YS{a b}{p}(va:vd a=true)(vb:vd b=true)(hp:bE p=true):bh p [a,b]=0/\∃n:Nat,p=n/\8<=n/\n<=512:=by
 have hp2:8<=p/\p<=512:=by
  simp_all[bE,aBk,decide_eq_true_eq]
 refine⟨by grind[bh],p.toNat,by omega,by omega,by omega⟩
def Sb(x y:Ri):Prop:=(∃q,In q x)/\(y=cG\/x.all=false/\y.all=false/\(∃q,In q y)/\zI y.lo<=zI x.lo/\zI x.hi<=zI y.hi)
theorem Sb.ins{x y}(h:Sb x y):ze x y=true:=by
 obtain⟨⟨q,hx⟩,rfl| ⟨h1,h2,⟨r,hy⟩,h3,h4⟩⟩:=h
 ·unfold ze;have:=hx.v;split
  ·rfl
  ·rw[this];rfl
 ·unfold ze;rw[aq ⟨hx.v,hy.v,h1⟩];grind
theorem apO:kI cG=false:=rfl
theorem VU{x}(h:∃q,In q x)(ha:x.all=false):kI x=true:=by
 obtain⟨q,h⟩:=h;unfold kI;rw[ha,h.v];rfl
theorem ag2{a b}(h:lm a=lm b):a=b:=by
 unfold lm aK at h;grind[List.map_inj_right]
theorem am4{x y}(h:af x=af y):x=y:=by
 unfold af am at h;simp only[AV.agg.injEq,List.cons.injEq,AV.v.injEq,Value.bool.injEq,Value.int.injEq,true_and,and_true]at h;obtain⟨h1,g2,h3,h4,g5,h6,h7⟩:=h;have h2:=ag2 g2;have h5:=ag2 g5;obtain⟨⟨a1,a2,a3⟩,⟨a4,a5,a6⟩,a7⟩:=x
 simp_all
theorem YT{a}{dom}{p}(oa:OkP a)(od:∀x∈dom,OkI x)(h2:dom.length<=100000)(hd:mW a dom=true):∃b,Tq a dom p=Jw a dom p b/\∀xs ts,nD dom xs ts->In (fv xs a.terms) b:=by
 obtain⟨b,hB,hbr,_⟩:=YN oa od h2 (p:=p);have i2:=hbr _ _ (MB dom);have h3:=O1 oa od h2 (p:=p) (b:=b) i2.ok (fun _=>hB);grind[Ts,am4]
theorem DL{a}{dom}{p}(oa:OkP a)(od:∀x∈dom,OkI x)(h2:dom.length<=100000)(hd:mW a dom=true){xs ts}(hpt:nD dom xs ts):In (fv xs a.terms) (mY a dom p):=by
 unfold mY;split
 ·rename_i h0;have e:=List.length_eq_zero_iff.1 h0;rw[e];have:=jC aO.1 aO.2;rwa[show qv aG=0 by unfold qv;rw[cT rfl];simp]at this
 ·obtain⟨b,hb,hbr⟩:=YT (p:=p) oa od h2 hd;obtain⟨hv,hl,hk⟩:=Q0 od hd;rw[hb];unfold Jw;split
  ·obtain⟨m1,m2⟩:=Js (Ly (p:=p) oa (nD.inL hk hpt)) (hbr _ _ hpt);grind
  ·exact Or.inl rfl
theorem am5{a b}(va:vd a=true)(vb:vd b=true):zI a<=zI (mL a b):=by
 unfold mL;rw[SP va vb];rcases si (zI a) (zI b)with⟨g,e⟩| ⟨g,e⟩| ⟨g,e⟩<;>rw[e]<;>simp<;>omega
theorem am6{a b}(va:vd a=true)(vb:vd b=true):zI (mK a b)<=zI a:=by
 grind[mK,SP,si,zI]
theorem am7{x y}(hx:x.all=false){q}(ix:In q x)(iy:In q y):Sb (wo x y).1 x:=by
 obtain⟨m1,m2⟩:=Js ix iy;refine⟨⟨q,m2⟩,Or.inr ?_⟩;have key:(wo x y).1.all=false/\zI x.lo<=zI (wo x y).1.lo/\zI (wo x y).1.hi<=zI x.hi:=by
  have vx:=ix.vi;have vy:=iy.vi;unfold wo at m1⊢;rw[ix.v,iy.v,aB3,aq rfl,hx,ax aBu]at m1⊢;split
  ·grind
  ·split
   ·exact⟨rfl,am5 vx.1.1 vy.1.1,am6 vx.2.1 vy.2.1⟩
   grind
 grind
theorem ag3{a}{dom}{p}(oa:OkP a)(od:∀x∈dom,OkI x)(h2:dom.length<=100000)(hd:mW a dom=true)(hp:bE p=true)(h0:a.terms.length≠0)(hn:(oA a dom p).all=false):Sb (mY a dom p) (oA a dom p):=by
 unfold mY;obtain⟨b,hb,hbr⟩:=YT (p:=p) oa od h2 hd;obtain⟨hv,hl,hk⟩:=Q0 od hd;have i1:=Ly (p:=p) oa (nD.inL hk (MB dom));have i2:=hbr _ _ (MB dom);rw[hb];unfold Jw;rw[hd,hp,aB3,aq rfl,aq (Js i1 i2).1];grind[am7]
theorem Q1{a b}(va:vd a=true)(vb:vd b=true):(iY a b<0↔zI a<zI b)/\(0<iY a b↔zI b<zI a):=by
 grind[SP,gy]
section
variable {dn up:Rd→Rd→Rd × Int} {pr:Nat→Rd × Rd}
abbrev GR(dn:Rd->Rd->Rd×Int)(pr:Nat->Rd×Rd)(j:Nat):Rd×Int:=dn (pr j).1 (pr j).2
theorem Q2(okd:∀a b,vd (dn a b).1=true)(oku:∀a b,vd (up a b).1=true):∀k i o,vd o.1=true->vd o.2=true->(∀j,i<=j->j<i+k->(GR dn pr j).2=0/\(GR up pr j).2=0)->
  ∃q,BZ dn up pr k i o=some q/\zI q.1<=zI o.1/\zI o.2<=zI q.2/\(∀j,i<=j->j<i+k->zI q.1<=zI (GR dn pr j).1/\zI (GR up pr j).1<=zI q.2)/\
   (q.1=o.1\/∃j,i<=j/\j<i+k/\q.1=(GR dn pr j).1)/\(q.2=o.2\/∃j,i<=j/\j<i+k/\q.2=(GR up pr j).1)
 |0,i,o,_,_,_=>⟨o,rfl,Int.le_refl _,Int.le_refl _,fun j h1 h2=>by omega,Or.inl rfl,Or.inl rfl⟩
 |k+1,i,o,v1,v2,h=>by
  have h0:=h i (aBh _) ω;unfold BZ;rw[aq h0];have c1:=(Q1 (okd (pr i).1 (pr i).2) v1).1;have c2:=(Q1 (oku (pr i).1 (pr i).2) v2).2;have w1:=okd (pr i).1 (pr i).2;have w2:=oku (pr i).1 (pr i).2;obtain⟨q,q0,q1,q2,q3,q4,q5⟩:=Q2 okd oku k (i+1) (if iY (dn (pr i).1 (pr i).2).1 o.1<0 then(dn (pr i).1 (pr i).2).1 else o.1,if 0<iY (up (pr i).1 (pr i).2).1 o.2 then(up (pr i).1 (pr i).2).1 else o.2)
   γ γ fun j h1 h2=>h j ω ω
  have a1:zI q.1<=zI o.1/\zI q.1<=zI (GR dn pr i).1:=by
   grind
  have a2:zI o.2<=zI q.2/\zI (GR up pr i).1<=zI q.2:=by
   grind
  all_goals grind
theorem Q3(okd:∀a b,vd (dn a b).1=true)(oku:∀a b,vd (up a b).1=true)(h:∀j,j<4->(GR dn pr j).2=0/\(GR up pr j).2=0):
  ∃q,sf dn up pr=some q/\(∀j,j<4->zI q.1<=zI (GR dn pr j).1/\zI (GR up pr j).1<=zI q.2)/\(∃j,j<4/\q.1=(GR dn pr j).1)/\∃j,j<4/\q.2=(GR up pr j).1:=by
 obtain⟨q,q0,q1,q2,q3,q4,q5⟩:=Q2 okd oku 3 1 ((dn (pr 0).1 (pr 0).2).1,(up (pr 0).1 (pr 0).2).1) (okd _ _) (oku _ _) fun j h1 h2=>h j ω;refine⟨q,?_,fun j hj=>?_,?_,?_⟩
 ·simp_all[sf,aq]
 all_goals grind
end
theorem ak1{x}(h:∃q,In q x)(ha:x.all=false):zI x.lo<=zI x.hi:=by
 obtain⟨q,rfl| ⟨_,_,h1,h2⟩⟩:=h
 ·cases ha
 ·exact uD.1 (Rat.le_trans h1 h2)
theorem ak2{x y}(hx:VI x)(hy:VI y)(i):vd (gM x y i).1=true/\vd (gM x y i).2=true:=by
 unfold gM;split
 ·exact⟨hx.1.1,hy.1.1⟩
 ·exact⟨hx.1.1,hy.2.1⟩
 ·exact⟨hx.2.1,hy.1.1⟩
 ·exact⟨hx.2.1,hy.2.1⟩
theorem awx{d:Rd}{up:Bool}:vd (pw d n p up).1=true:=by
 grind[pw,VQ,Lv]
theorem Q4{d}(v:vd d=true):vd (nP d)=true/\zI (nP d)=(zI d).natAbs:=by
 unfold nP;by_cases h:d.m.length=0
 ·rw[aq (Or.inr h),cT h];exact⟨rfl,cT rfl⟩
 ·refine⟨?_,?_⟩
  ·simp_all[vd,ax]
  grind[zI,mg]
theorem ak3{d}(v:vd d=true):(0<kj d↔0<zI d)/\(kj d<0↔zI d<0):=by
 have h0:d.m.length=0->zI d=0:=cT;have hp:d.m.length≠0->0<mg d:=fun h=>by
  exact Nat.mul_pos (by grind[H4]) (aBA _)
 unfold kj;by_cases h:d.m.length=0
 ·omega
 ·grind[zI]
theorem asv{x}(h:VI x)(hle:zI x.lo<=zI x.hi):vd (CJ x)=true/\zI (CJ x)=(if 0<zI x.lo then zI x.lo else if zI x.hi<0 then-zI x.hi else 0):=by
 obtain⟨a1,a2⟩:=Q4 h.1.1;obtain⟨b1,b2⟩:=Q4 h.2.1;obtain⟨s1,s2⟩:=ak3 h.1.1;obtain⟨t1,t2⟩:=ak3 h.2.1;have c:=Q1 a1 b1;unfold CJ J2 mK;by_cases k1:0<zI x.lo
 ·grind
 ·rw[ax (mt s1.1 k1),ax k1];by_cases k2:zI x.hi<0
  ·grind
  ·rw[ax (mt t2.1 k2),aq rfl,ax k2];exact⟨rfl,cT rfl⟩
theorem ak4{x}(h:VI x):vd (vL x)=true/\zI (vL x)=(if(zI x.lo).natAbs<=(zI x.hi).natAbs then((zI x.hi).natAbs:Int)else(zI x.lo).natAbs):=by
 obtain⟨a1,a2⟩:=Q4 h.1.1;obtain⟨b1,b2⟩:=Q4 h.2.1;have c:=Q1 a1 b1;grind[vL,mL]
theorem apP{w}{T d}(h:d<=T):rq w (2^T) d=2^ (T-d):=by
 have e:2^T=2^ (T-d)*2^d:=by rw[←aBx];grind
 simp_all[rq,ax,Nat.mul_mod_left,Nat.mul_div_cancel,aBA]
theorem ag4{w}(h0:M≠0)(hn:8<=n/\n<=512)(hm:m<16384)(h:M<=2^ (16384+m+j)):
  (cO M (-16384-j) false n w).2=0/\0<=zI (cO M (-16384-j) false n w).1/\zI (cO M (-16384-j) false n w).1<=(2^ (16384+m):Nat):=by
 have hd:dR M n j<=16384+m+j:=by
  have:=bT.2 (aBU h (Nat.pow_lt_pow_right δ (Nat.lt_succ_self _)));unfold dR;split<;>omega
 have h1:rq w M (dR M n j)*2^dR M n j<=2^ (16384+m+j):=by
  refine aBq (aBv _ (abQ h)) ?_;rw[apP hd,←aBx];exact aB4 δ ω
 obtain⟨c1,c2⟩:=(abR (w:=w) (j:=j) h0 hn).1 (aBU h1 (Nat.pow_lt_pow_right δ ω));have c3:=ag0 (w:=w) (j:=j) h0 hn c1;refine⟨c1,c3,?_⟩;have h2:zI (cO M (-16384-j) false n w).1*(2^j:Nat)<=(2^ (16384+m):Nat)*(2^j:Nat):=by
  rw[←Int.natCast_mul,←aBx];refine Int.le_trans (Int.le_of_eq ?_) (Int.ofNat_le.2 h1);rw[←c2];simp
 exact Int.le_of_mul_le_mul_right h2 (Int.ofNat_lt.2 (aBA j))
theorem YV{z}{up}(hn:8<=n/\n<=512)(hm:m<16384)(h:z.natAbs<=2^ (16384+m+j)):
  (iL z (-16384-j) n up).2=0/\(zI (iL z (-16384-j) n up).1).natAbs<=2^ (16384+m):=by
 rcases Int.lt_trichotomy z 0 with a|rfl|a
 ·rw[abS a];obtain⟨s1,s2⟩:=ag1 (M:=z.natAbs) (f:=-16384-j) (p:=n) (w:=!up);obtain⟨b1,b2,b3⟩:=ag4 (w:=!up) (show z.natAbs≠0 by omega) hn hm h;omega
 ·simp_all[ak0,cT,aG,aBB]
 ·rw[abT a];obtain⟨b1,b2,b3⟩:=ag4 (w:=up) (show z.natAbs≠0 by omega) hn hm h;omega
def Ld(m:Nat)(d:Rd):Prop:=(zI d).natAbs<=2^ (16384+m)
theorem Ld.up{m k}{d}(h:Ld m d)(hk:m<=k):Ld k d:=aBq h (aB4 δ ω)
theorem Tt{a b}{p}{m}{up}(va:vd a=true)(vb:vd b=true)(hp:bE p=true)(hm:m+1<16384)(ha:Ld m a)(hb:Ld m b):(dq a b p up).2=0/\Ld (m+1) (dq a b p up).1:=by
 obtain⟨f1,n,rfl,hn⟩:=YS va vb hp;unfold dq;rw[aq f1];refine YV (j:=0) hn hm ?_;unfold Ld at ha hb;have e:2^ (16384+(m+1)+0)=2^ (16384+m)+2^ (16384+m):=by rw[aBR,←aCe,aB6];omega
 omega
theorem abU{a b}{p}{m k}{up}(va:vd a=true)(vb:vd b=true)(hp:bE p=true)(hm:m+k<16384)(ha:Ld m a)(hb:Ld k b):(eA a b p up).2=0/\Ld (m+k) (eA a b p up).1:=by
 obtain⟨f1,n,rfl,hn⟩:=YS va vb hp;unfold eA;rw[aq f1];refine YV (j:=16384) hn hm ?_;rw[Int.natAbs_mul,show 16384+(m+k)+16384=(16384+m)+(16384+k)by omega,aBx];exact Nat.mul_le_mul ha hb
theorem am8{a}{p}{m}{up}(va:vd a=true)(hp:bE p=true)(hm:m<16384)(ha:Ld m a):(cx a p up).2=0/\Ld m (cx a p up).1:=by
 have hp2:=vo hp;unfold cx;rw[aq (by grind[bh])];obtain⟨n,rfl⟩:∃n:Nat,p=n:=⟨p.toNat,by omega⟩;exact YV (j:=0) ω hm ha
theorem ag5{a}{p}{up}(va:vd a=true)(hp:bE p=true)(ha:Ld 0 a):∀k r,vd r.1=true->r.2=0->Ld 0 r.1->(pi a p up k r).2=0/\Ld 0 (pi a p up k r).1
 |0,r,_,h1,h2=>⟨h1,h2⟩
 |k+1,r,vr,h1,h2=>by
  unfold pi;rw[aq h1];obtain⟨m1,m2⟩:=abU (up:=up) vr va hp δ h2 ha;exact ag5 va hp ha k _ FS.1 m1 m2
theorem asw{a}{p}{n}{up}(va:vd a=true)(hp:bE p=true)(ha:Ld 0 a):(pw a n p up).2=0/\Ld 0 (pw a n p up).1:=by
 obtain⟨m1,m2⟩:=am8 (up:=up) va hp δ ha;exact ag5 va hp ha _ _ Lv.1 m1 m2
theorem abV{a}{p}{n}{up}(va:vd a=true)(hp:bE p=true)(ha:Ld 0 a):(tp a n p up).2=0/\Ld 0 (tp a n p up).1:=by
 grind[tp,asw,Ld,fC,g1,Int.natAbs_neg,yi,awx]
structure Bd (m:Nat) (x:Ri):Prop where
 i:∃q,In q x
 a:x.all=false
 l:Ld m x.lo
 h:Ld m x.hi
theorem Bd.up{m k}{x}(h:Bd m x)(hk:m<=k):Bd k x:=⟨h.i,h.a,h.l.up hk,h.h.up hk⟩
theorem Bd.v{m}{x}(h:Bd m x):VI x:=h.i.elim fun _ h=>h.vi
theorem Bd.k{m}{x}(h:Bd m x):kI x=true:=VU h.i h.a
theorem MD{x y}{p}{m}(hp:bE p=true)(hm:m+1<16384)(hx:Bd m x)(hy:Bd m y):Bd (m+1) (dk x y p):=by
 obtain⟨q,ix⟩:=hx.i;obtain⟨r,iy⟩:=hy.i;have hi:=iq (p:=p) ix iy;obtain⟨a1,a2⟩:=Tt (up:=false) ix.vi.1.1 iy.vi.1.1 hp hm hx.l hy.l;obtain⟨a3,a4⟩:=Tt (up:=true) ix.vi.2.1 iy.vi.2.1 hp hm hx.h hy.h;have e:dk x y p=⟨(dq x.lo y.lo p false).1,(dq x.hi y.hi p true).1,false⟩:=by
  unfold dk nC;rw[hx.k,hy.k,hp,aB3,aB3,aq rfl,aq ⟨a1,a3⟩]
 rw[e]at hi⊢;exact⟨⟨_,hi⟩,rfl,a2,a4⟩
theorem abW{x y}{p}{m k}(hp:bE p=true)(hm:m+k<16384)(hx:Bd m x)(hy:Bd k y):Bd (m+k) (cU x y p):=by
 obtain⟨q,ix⟩:=hx.i;obtain⟨r,iy⟩:=hy.i;have hi:=jI (p:=p) ix iy;have lx:∀i,Ld m (gM x y i).1:=fun i=>by unfold gM;split;exact hx.l;exact hx.l;exact hx.h;exact hx.h
 have ly:∀i,Ld k (gM x y i).2:=fun i=>by unfold gM;split;exact hy.l;exact hy.h;exact hy.l;exact hy.h
 have key:∀i up,(eA (gM x y i).1 (gM x y i).2 p up).2=0/\Ld (m+k) (eA (gM x y i).1 (gM x y i).2 p up).1:=fun i up=>by
  obtain⟨v1,v2⟩:=ak2 ix.vi iy.vi i;grind[abU]
 obtain⟨t,t0,_,⟨j,_,t1⟩,j',_,t2⟩:=Q3 (dn:=fun a b=>eA a b p false) (up:=fun a b=>eA a b p true) (pr:=gM x y) (fun a b=>FS.1) (fun a b=>FS.1) fun i _=>⟨(key i false).1,(key i true).1⟩;have e:cU x y p=⟨t.1,t.2,false⟩:=by
  unfold cU;rw[hx.k,hy.k,hp,aB3,aB3,aq rfl,t0];rfl
 rw[e]at hi⊢;refine⟨⟨_,hi⟩,rfl,?_,?_⟩
 all_goals grind
theorem Jy{n}{k:Nat}:zI ⟨n,[1],k⟩=cF n (2^ (16384+k)):=by
 have h1:zI ⟨n,[1],k⟩=cF n (mg ⟨n,[1],k⟩):=rfl;rw[h1];unfold mg;rw[show((k:Int)+16384).toNat=16384+k by omega]
 simp_all[ab,Nat.one_mul]
theorem am9{n}{a}:(cF n a).natAbs=a:=by
 grind[cF]
theorem awy{n}{k}:Ld k ⟨n,[1],k⟩:=by
 simp_all[Ld,Jy,am9,aBh]
theorem ag6:Ld 0 one:=awy (k:=0)
theorem Tu{x}{n}{p}(hp:bE p=true)(h16:n<=16)(hx:Bd 0 x):Bd 0 (An x n p):=by
 obtain⟨q,ix⟩:=hx.i;have hi:=CV (n:=n) (p:=p) ix;have e0:=hx.k;unfold An at hi⊢;rw[aq (by rw[e0,hp];simp[h16])]at hi⊢;by_cases h0:n=0
 ·rw[aq h0]at hi⊢;exact⟨⟨_,hi⟩,rfl,ag6,ag6⟩
 ·rw[ax h0]at hi⊢;have hX:(vd (if n%2=0 then lK x else x).lo=true/\vd (if n%2=0 then lK x else x).hi=true)/\Ld 0 (if n%2=0 then lK x else x).lo/\Ld 0 (if n%2=0 then lK x else x).hi:=by
   have b1:=hx.l;have b2:=hx.h;split
   ·unfold lK;obtain⟨m1,m2⟩:=asv ix.vi (ak1 hx.i hx.a);obtain⟨g1,g2⟩:=ak4 ix.vi;grind[Ld,b2,g1,zI,CJ,vL]
   ·exact⟨⟨ix.vi.1.1,ix.vi.2.1⟩,b1,b2⟩
  obtain⟨⟨v1,v2⟩,l1,l2⟩:=hX;obtain⟨a1,a2⟩:=abV (n:=n) (up:=false) v1 hp l1;obtain⟨a3,a4⟩:=abV (n:=n) (up:=true) v2 hp l2;unfold nC at hi⊢;rw[aq ⟨a1,a3⟩]at hi⊢;exact⟨⟨_,hi⟩,rfl,a2,a4⟩
theorem ana{x}{n}{p}(hp:bE p=true)(h16:n<=32)(hx:Bd 0 x):Bd 0 (CM x n p):=by
 unfold CM;split
 ·grind[Tu]
 ·exact abW (m:=0) (k:=0) hp δ (Tu hp ω hx) (Tu hp ω hx)
theorem ag7{p}{m}(hp:bE p=true)(hm:m<16384):∀ds es x,(∀d∈ds,Bd 0 d)->(∀e∈es,e<=32)->Bd m x->Bd m (J3 p ds es x)
 |[],es,x,_,_,h=>by cases es<;>exact h
 |d::ds,[],x,_,_,h=>h
 |d::ds,e::es,x,hd,he,h=>by
  refine ag7 hp hm ds es _ (fun i hi=>hd i γ) (fun i hi=>he i γ) ?_;split
  ·have:=he e σ;exact abW (m:=m) (k:=0) hp hm h (ana hp ω (hd d σ))
  omega
theorem ag8{p}{ds}{m}(hp:bE p=true)(hd:∀d∈ds,Bd 0 d):∀l k s,m+k+l.length<16384->(∀t∈l,vd t.c=true/\Ok0 t.c/\Ld m t.c/\∀e∈t.exps,e<=32)->Bd (m+k) s->Bd (m+k+l.length) (Lf p ds l s)
 |[],_,_,_,_,h=>h
 |t::l,k,s,hl,ht,h=>by
  show Bd _ (Lf p ds l (dk s (J3 p ds t.exps ⟨t.c,t.c,false⟩) p));obtain⟨c1,c2,c3,c4⟩:=ht t σ;have hl2:m+k+(l.length+1)<16384:=hl;have:=ag8 hp hd l (k+1) _ ω (fun t ht'=>ht t γ) (MD (m:=m+k) hp ω h ((ag7 hp ω ds t.exps _ hd c4 ⟨⟨_,jC c1 c2⟩,rfl,c3,c3⟩).up (Nat.le_add_right m k)));grind
theorem As{m}:Bd m cp:=by
 have h:Ld m aG:=by unfold Ld;rw[cT rfl];grind
 exact⟨⟨_,jC aO.1 aO.2⟩,rfl,h,h⟩
theorem Sb.bd{m}{x y}(h:Sb x y)(hy:Bd m y):Bd m x:=by
 obtain⟨i,rfl| ⟨h1,h2,_,h3,h4⟩⟩:=h
 ·cases hy.a
 ·have:=ak1 i h1;have l1:=hy.l;have l2:=hy.h;unfold Ld at l1 l2;refine⟨i,h1,?_,?_⟩<;> (unfold Ld;generalize 2^ (16384+m)=T at*;omega)
def LE:List Int->List Rd->Int
 |e::es,x::xs=>zI x^e.toNat*LE es xs
 |_,_=>1
def dg:List Int->List Rd->Nat
 |e::es,_::xs=>e.toNat+dg es xs
 |_,_=>0
theorem VV:∀ {es} {xs},(∀e∈es,0<=e)->(dg es xs)<=bO es
 |e::es,x::xs,h=>by
  have ih:=VV (es:=es) (xs:=xs) fun y hy=>h y γ;have he:=h e σ;grind[dg,bO]
 |[],xs,h=>by show(0:Int)<=0;decide
 |e::es,[],h=>by
  have h2:=(EK (l:=e::es) fun y hy=>h y hy).1;show(0:Nat)<=bO (e::es);omega
noncomputable def ph (xs:List Rd) (u:List Int):Int:=LE u xs*KK^ (32-dg u xs)
theorem VT.dg{v}{t}(vt:VT v t)(xs):dg t.exps xs<=32:=by
 have h1:=VV (xs:=xs) fun e he=>(vt.b e he).1;have h2:=vt.d;omega
theorem abX:∀ {u v} {xs},u.length=v.length->(∀e∈u,0<=e)->(∀e∈v,0<=e)->LE (jX u v) xs=LE u xs*LE v xs/\dg (jX u v) xs=dg u xs+dg v xs
 |a::u,b::v,x::xs,hl,hu,hv=>by
  obtain⟨h1,h2⟩:=abX (u:=u) (v:=v) (xs:=xs) γ (fun e he=>hu e γ) (fun e he=>hv e γ);have ha:=hu a σ;have hb:=hv b σ;have ht:(a+b).toNat=a.toNat+b.toNat:=ω
  constructor
  ·simp_all[zI,LE,jX,Int.pow_add,Int.mul_assoc,Int.mul_left_comm]
  ·show(a+b).toNat+dg (jX u v) xs=a.toNat+dg u xs+(b.toNat+dg v xs);omega
 |[],[],xs,_,_,_=>⟨rfl,rfl⟩
 |a::u,b::v,[],_,_,_=>⟨rfl,rfl⟩
theorem apQ{w}{t q}(vt:VT w t)(vq:VT w q)(hd:bO t.exps+bO q.exps<=32)(xs):ph xs (jX t.exps q.exps)*KK^32=ph xs t.exps*ph xs q.exps:=by
 have nt:=fun e he=>(vt.b e he).1;have nq:=fun e he=>(vq.b e he).1;obtain⟨h1,h2⟩:=abX (xs:=xs) (vt.l2 vq) nt nq;have d1:=VV (xs:=xs) nt;have d2:=VV (xs:=xs) nq;unfold ph;have hp:KK^ (32- (dg t.exps xs+dg q.exps xs))*KK^32=KK^ (32-dg t.exps xs)*KK^ (32-dg q.exps xs):=by
  rw[←Int.pow_add,←Int.pow_add];grind
 grind
inductive Mrg:List Rt->List Rt->List Rt->Prop
 |nil:Mrg [] [] []
 |left {A r1 r2:List Rt} {t:Rt}:Mrg A r1 r2->Mrg (t::A) (t::r1) r2
 |right {A r1 r2:List Rt} {t:Rt}:Mrg A r1 r2->Mrg (t::A) r1 (t::r2)
 |both {A r1 r2:List Rt} {t:Rt} {c d:Rd}:Mrg A r1 r2->kR c d=(t.c,0)->Mrg (t::A) (⟨t.exps,c⟩::r1) (⟨t.exps,d⟩::r2)
theorem Mrg.mem{A r1 r2}(h:Mrg A r1 r2):(∀y∈r1,∃t∈A,y.exps=t.exps)/\∀y∈r2,∃t∈A,y.exps=t.exps:=by
 induction h with
 |nil=>grind
 |left h ih=>
  grind
 |right h ih=>
  grind
 |both h _ ih=>
  grind
theorem ag9{t y}{l}(h:cW t.exps y.exps<0):mB (t::l) y=(mB l y).map (t::·):=by
 show(if cW t.exps y.exps<0 then _ else _)=_;grind
theorem GT{t}:∀ {ts l},(∀y∈ts,cW t.exps y.exps<0)->kT (t::l) ts=(kT l ts).map (t::·)
 |[],l,_=>rfl
 |y::ts,l,h=>by
  show(mB (t::l) y).bind (fun l'=>kT l' ts)=((mB l y).bind fun l'=>kT l' ts).map (t::·);rw[ag9 (h y σ)];cases mB l y with
  |none=>rfl
  |some l'=>exact GT (fun q hq=>h q (by simp[hq]))
theorem aha{t}:∀ {l},(∀y∈l,cW t.exps y.exps<0/\t.exps.length=y.exps.length)->mB l t=some (t::l)
 |[],_=>rfl
 |y::l,h=>by
  obtain⟨h1,h2⟩:=h y σ;have h3:=GK h2;show(if cW y.exps t.exps<0 then _ else if cW y.exps t.exps=0 then _ else _)=_;grind
theorem anb{v}{A r1 r2}(c:Cl v A)(h:Mrg A r1 r2):kT r1 r2=some A:=by
 induction h with
 |nil=>rfl
 |left h ih=>
  obtain⟨vt,ht,c2⟩:=c.cons;rw[GT fun y hy=>?_,ih c2]
  ·rfl
  ·obtain⟨q,hq,he⟩:=h.mem.2 y hy;grind
 |right h ih=>
  rename_i A r1 r2 t;obtain⟨vt,ht,c2⟩:=c.cons;have hi:=aha fun y hy=>by
   obtain⟨q,hq,he⟩:=h.mem.1 y hy;rw[he];exact⟨ht q hq,vt.l2 (c2.t q hq)⟩
  show(mB r1 t).bind (fun l'=>kT l' r2)=_;rw[hi,aBl,GT fun y hy=>?_,ih c2]
  ·rfl
  ·obtain⟨q,hq,he⟩:=h.mem.2 y hy;grind
 |both h hadd ih=>
  rename_i A r1 r2 t c' d;obtain⟨vt,ht,c2⟩:=c.cons;have hi:mB (⟨t.exps,c'⟩::r1) ⟨t.exps,d⟩=some (t::r1):=by
   show(if cW t.exps t.exps<0 then _ else if cW t.exps t.exps=0 then(if(kR c' d).2=0 then some (if(kR c' d).1.m.length=0 then r1 else⟨t.exps,(kR c' d).1⟩::r1)else none)else _)=_;rw[Uo,ax ω,aq rfl,hadd,aq rfl,ax vt.nz]
  show(mB (⟨t.exps,c'⟩::r1) ⟨t.exps,d⟩).bind (fun l'=>kT l' r2)=_;rw[hi,aBl,GT fun y hy=>?_,ih c2]
  ·rfl
  ·obtain⟨q,hq,he⟩:=h.mem.2 y hy;grind
theorem LG(o):∀A,Mrg A (A.filter (Eg o)) (A.filter (Ch o))
 |[]=>.nil
 |t::A=>by
  by_cases hd:bO t.exps<=o
  ·have f1:(Eg o t)=true:=decide_eq_true hd;have f2:¬ (Ch o t)=true:=by unfold Ch;rw[decide_eq_true hd];exact aBu
   rw[List.filter_cons_of_pos f1,List.filter_cons_of_neg f2];exact .left (LG o A)
  ·have f1:¬ (Eg o t)=true:=by unfold Eg;rw[decide_eq_false hd];exact aBu
   have f2:(Ch o t)=true:=by unfold Ch;rw[decide_eq_false hd];rfl
   rw[List.filter_cons_of_neg f1,List.filter_cons_of_pos f2];exact .right (LG o A)
theorem ahb{c d t}(ot:Ok0 t)(vt:vd t=true)(vc:vd c=true)(vdd:vd d=true)(h:zI c+zI d=zI t):kR c d=(t,0):=by
 unfold kR;rw[vc,vdd,aB3,aq rfl,h,CQ ot vt];unfold cS;by_cases h0:t.m.length=0
 ·rw[CD vt h0];rfl
 grind[BW]
theorem aec{v}{t}{c d}{A l1 l2}(vt:VT v t)(om:Ok0 c)(vm:vd c=true)(oq:Ok0 d)(vq:vd d=true)(hz:zI d=zI t.c-zI c)(ih:Mrg A l1 l2):Mrg (t::A) (dW t.exps c l1) (dW t.exps d l2):=by
 unfold dW;by_cases hc:c.m.length=0
 ·rw[aq hc];have hd:=QA oq vt.c vq vt.vc (by rw[hz,cT hc,Int.sub_zero]);rw[hd,ax vt.nz];exact .right ih
 ·rw[ax hc];by_cases hd:d.m.length=0
  ·rw[aq hd];have hcc:=QA om vt.c vm vt.vc (by grind[cT]);rw[hcc];exact .left ih
  ·rw[ax hd];exact .both ih (ahb vt.c vt.vc vm vq ω)
theorem UF{v p}:∀ {A} {q},(∀t∈A,VT v t)->xk p A=some q->Mrg A q.1 q.2
 |[],q,_,h=>by
  cases h;exact .nil
 |t::A,q,hv,h=>by
  have vt:=hv t σ;unfold xk at h;split at h
  ·split at h
   ·rename_i h1 h2;rw[aBj]at h;obtain⟨q2,h3,rfl⟩:=h;have ih:=UF (fun x hx=>hv x γ) h3;grind[FZ,AU,nF,aec,Tn]
   grind
  grind
def C0(p:Int):Ri->List Ri->Ri
 |x,[]=>x
 |x,y::l=>C0 p (dk x y p) l
theorem abY{p}:∀ {l} {x},OkI x->OkI (C0 p x l)
 |[],_,h=>h
 |y::l,x,_=>(abY (l:=l) yg)
theorem ahc{p}{l}(ol:∀x∈l,OkI x)(hl:l.length<=100000):∀rest (n:Nat) x,OkI x->l.drop n=rest->n<=l.length->∀S h,S 0=I p->S 4=ac 4->S 6=ac 6->S 9=.sl 7 (cB l)->S 10=I l.length->S 11=I n->h 4=.bx (am x)->h 6=.bx [B false,.emp,I 0,B false,.emp,I 0,B false]->
  ∃hh,ao 0 [4,6] (aD (ap R (aC false) pn) [0,4,6,9,10,11] [4,6] S h)=some (.normal,⟨upd (upd cr 6 (ac 6)) 4 (ac 4),hh⟩)/\hh 4=.bx (am (C0 p x rest))/\hh 6=.bx [B false,.emp,I 0,B false,.emp,I 0,B false]:=by
 intro rest;induction rest with
 |nil=>
  intro n x ox hd hn S h h0 h4 h6 h9 h10 h11 k4 k6;have e:n=l.length:=by
   have:=congrArg List.length hd;grind
  subst e;rw[ai];simp only[am]at k4;refine⟨?hh0,?_,?_,?_⟩;rotate_left
  ·simp only[pn,go_sem,h0,h4,h6,h9,h10,h11,k4,k6,aCh];rfl
  ·rfl
  ·rfl
 |cons y rest ih=>
  intro n x ox hd hn S h h0 h4 h6 h9 h10 h11 k4 k6;have hlt:n<l.length:=by
   grind
  have hr:l[n]?=some y:=by
   have:=congrArg (·[0]?) hd;grind
  have ih':=ih (n+1) (dk x y p) yg (by rw[←List.drop_drop,hd];rfl) hlt;have e1:(n< (l.length:Int))=True:=tt;have e2:=EI rfl hr;have e3:aS (n+1)=(n+1:Nat):=by grind[i64_in]
  have v1:=te ox (ol y (aBs hr)) (p:=p);rw[ai];rw[show C0 p x (y::rest)=C0 p (dk x y p) rest from rfl];generalize aD _ _ _=L at ih'⊢;generalize dk x y p=z at v1 ih'⊢;simp only[am]at e2 k4;simp only[af,am]at v1;simp only[pn,go_sem,h0,h4,h6,h9,h10,h11,k4,k6,e1,e2,e3,v1];apply ih'<;>rfl
theorem anc{p}{l}{x}(ox:OkI x)(ol:∀x∈l,OkI x)(hl:l.length<=100000):R 78 [I p,af x,.sl 7 (cB l)] []=some (af (C0 p x l),[]):=by
 refine az ZU rfl ?_;have hL:=ahc (p:=p) ol hl l 0 x ox rfl (aBB _);generalize hLL:aD (ap R (aC false) pn) [0,4,6,9,10,11] [4,6]=L at hL;have hXL:∀s h,ap R (aC false) (.loop [0,4,6,9,10,11] [4,6] pn) s h=L s h:=fun s h=>by rw[←hLL];rfl
 clear hLL;generalize C0 p x l=z at hL⊢;have hL2:∀S h X,ao 0 [4,6] (L S h)=X->S 0=I p->S 4=ac 4->S 6=ac 6->S 9=.sl 7 (cB l)->S 10=I l.length->S 11=I 0->h 4=.bx (am x)->h 6=.bx [B false,.emp,I 0,B false,.emp,I 0,B false]->
   ∃hh,X=some (.normal,⟨upd (upd cr 6 (ac 6)) 4 (ac 4),hh⟩)/\hh 4=.bx (am z)/\hh 6=.bx [B false,.emp,I 0,B false,.emp,I 0,B false]:=fun S h X hX a b c d e f i j=>by
  rw[←hX];exact hL S h a b c d e f i j
 simp only[Ff,Nu,af,am,go_sem,hXL];generalize hX2:ao 0 [4,6] (L _ _)=X;obtain⟨hh,g0,g4,g6⟩:=hL2 _ _ _ hX2 Z Z Z Z Z Z Z Z;rw[g0];simp only[am]at g4;simp only[go_sem,g4,g6]
noncomputable def Q5 (s:Rs) (a b:Rm):Rm:=if yz s [a,b]=true then jD s (Ao a.P b.P).1 (Ao a.P b.P).2 (dk a.R b.R s.p)else cu s
noncomputable def O4 (s:Rs) (a b:Rm):Rm:=if yz s [a,b]=true then jD s (y8 a.P b.P).1 (y8 a.P b.P).2 (B4 a.R b.R s.p)else cu s
theorem rp{s}{l}(h:yz s l=true):fk s=true/\∀m∈l,rm s m=true:=by
 simp_all[yz,aBk,aCi,List.any_eq_false]
theorem gg{s}(h:fk s=true):s.dom.length<=8/\bE s.p=true:=by
 simp_all[fk,aBk,decide_eq_true_eq]
theorem gB{s}{m}(om:OkM m)(h:rm s m=true):OkP m.P/\vp m.P=true/\m.P.vars=s.dom.length/\vi m.R=true:=by
 unfold rm at h;simp only[aBk,decide_eq_true_eq]at h;exact⟨agV om.c h.2.1,h.2.1,h.2.2.1,h.2.2.2.2.1⟩
theorem two{p:α->Prop}{a b}(ha:p a)(hb:p b):∀m∈[a,b],p m:=fun m hm=>by
 grind
theorem ane{s}{a b}(os:OkS s)(oa:OkM a)(ob:OkM b):R 86 [go s,cw a,cw b] []=some (cw (Q5 s a b),[]):=by
 refine az ZW rfl ?_;have h1:=CY os (l:=[a,b]) (two oa ob) σ;have h2:=CZ (s:=s);unfold Q5;simp only[aBM,aBX]at h1;cases g:yz s [a,b]with
 |false=>
  rw[g]at h1;simp only[Bw,go_sem,h1,h2]
 |true=>
  rw[g]at h1;obtain⟨q1,q2⟩:=rp g;obtain⟨a1,_⟩:=gB oa (q2 a σ);obtain⟨b1,_⟩:=gB ob (q2 b σ);have h3:=abn a1 b1;have h4:=te oa.r ob.r (p:=s.p);have h5:=Jx (e:=(Ao a.P b.P).2) (r:=dk a.R b.R s.p) os (OT a1 b1) yg (by grind[gg]);simp only[pV,bo,af,am]at h3 h4 h5;simp only[Bw,go_sem,h1,h3,h4,h5]
theorem O5{s}(ok:Ok0 s)(v:vd s=true):R 129 [ae s,I (-1)] []=some (rV (FY s),[]):=by
 refine az HP rfl ?_;obtain⟨h0,h1,h2,h3⟩:=fA v ok.lb;have hv:=eG ok;rw[v]at hv;have hx:=zu (e:=-1);have ho:=mU (neg:=s.neg) (m:=s.m) (e:=s.e+-1) ok.lb ω (by grind[Exq]);rw[Tl ok v]at ho;have hl:Ok0 (fj (zI s) (-16384- (1:Nat))):=by
  rw[←Tl ok v];exact⟨ye _ _ _,aBU (wX (k:=128) ω) δ⟩
 have hc:=BV hl.lb (by
  rw[←Tl ok v];exact aBq (wX (k:=128) ω) δ)
 have e:(if s9 (ag (ab (fj (zI s) (-16384- (1:Nat))).m)) (fj (zI s) (-16384- (1:Nat))).e=true then AV.tup [ae (fj (zI s) (-16384- (1:Nat))),I 0]else .tup [ae aG,I 9])=rV (FY s):=by
  grind[FY,cS,rV]
 rw[e]at hc;have ew:aS (s.e+-1)=s.e+-1:=by grind[i64_in]
 simp only[ae,aj,rV]at hv ho hc;simp only[vZ,rV,ae,aj,go_sem,hv,hx,ho,hc,ew,show decide ((-32768)≤-1)=true from rfl,show decide ((-1)<=32768)=true from rfl]
def uE(x:Ri)(p:Int):Rd:=if(kI x&&bE p)=true then(if(dq x.lo x.hi p false).2=0 then(if(FY (dq x.lo x.hi p false).1).2=0 then(if Jv x (FY (dq x.lo x.hi p false).1).1=true then(FY (dq x.lo x.hi p false).1).1 else x.lo)else x.lo)else x.lo)else aG
theorem Jz{x}(h:kI x=true):x.all=false/\vd x.lo=true/\vd x.hi=true:=by
 grind[kI,vi]
theorem ym{x}{p}(ox:OkI x):vd (uE x p)=true/\Ok0 (uE x p):=by
 unfold uE;split
 ·rename_i h;rw[aBk]at h;have hl:=(Jz h.1).2.1;split
  ·split
   ·split
    ·exact yj
    ·exact⟨hl,ox.lo⟩
   ·exact⟨hl,ox.lo⟩
  ·exact⟨hl,ox.lo⟩
 ·exact aO
theorem ahd{x}{p}(ox:OkI x):R 84 [af x,I p] []=some (ae (uE x p),[]):=by
 refine az Si rfl ?_;have h1:=pg ox;have h2:=mV (p:=p);unfold uE;cases g1:kI x with
 |false=>
  rw[g1]at h1;simp only[jz,af,am,ae,aj,aG,go_sem,h1,aBy,aCa]
 |true=>
 rw[g1]at h1;cases g2:bE p with
 |false=>
  rw[g2]at h2;simp only[jz,af,am,ae,aj,aG,go_sem,h1,h2,Bool.and_false,aCa]
 |true=>
 rw[g2]at h2;have h3:=Ji ox.lo ox.hi (p:=p);have h4:=O5 (H3 (a:=x.lo) (b:=x.hi) (p:=p) (up:=false)) Mf;have h5:=agU ox (d:=(FY (dq x.lo x.hi p false).1).1) yj.2;generalize Jv x (FY (dq x.lo x.hi p false).1).1=b at h5⊢;generalize FY (dq x.lo x.hi p false).1=m at h4 h5⊢;generalize dq x.lo x.hi p false=s at h3 h4⊢;simp only[af,am,ae,aj,rV]at h3 h4 h5;by_cases k1:s.2=0
 case neg=>
  have f1:=eq_false k1;simp only[jz,af,am,ae,aj,go_sem,h1,h2,h3,f1]
 have f1:=eq_true k1;by_cases k2:m.2=0
 case neg=>
  have f2:=eq_false k2;simp only[jz,af,am,ae,aj,go_sem,h1,h2,h3,h4,f1,f2]
 have f2:=eq_true k2;cases b with
 |false=>
  simp only[jz,af,am,ae,aj,go_sem,h1,h2,h3,h4,h5,f1,f2]
 |true=>
  simp only[jz,af,am,ae,aj,go_sem,h1,h2,h3,h4,h5,f1,f2]
noncomputable def rK (s:Rs) (a b:Rm):Rm:=if yz s [a,b]=true then jD s (vO a.P b.P).1 (vO a.P b.P).2 (C0 s.p (cU (mY a.P s.dom s.p) b.R s.p) [cU (mY b.P s.dom s.p) a.R s.p,cU a.R b.R s.p])else cu s
theorem Tv{s}{a b}(os:OkS s)(oa:OkM a)(ob:OkM b):R 32 [go s,cw a,cw b] []=some (cw (rK s a b),[]):=by
 refine az ZT rfl ?_;have h1:=CY os (l:=[a,b]) (two oa ob) σ;have h2:=CZ (s:=s);unfold rK;simp only[aBM,aBX]at h1;cases g:yz s [a,b]with
 |false=>
  rw[g]at h1;simp only[Br,go_sem,h1,h2]
 |true=>
  rw[g]at h1;obtain⟨q1,q2⟩:=rp g;obtain⟨a1,_⟩:=gB oa (q2 a σ);obtain⟨b1,_⟩:=gB ob (q2 b σ);have hl:s.dom.length<=100000:=by grind[gg]
  have h3:=amp a1 b1;have r1:=AW (p:=s.p) a1 os.d hl;have r2:=AW (p:=s.p) b1 os.d hl;have k1:=(tC (p:=s.p) a1 os.d hl).1;have k2:=(tC (p:=s.p) b1 os.d hl).1;generalize mY a.P s.dom s.p=x at r1 k1⊢;generalize mY b.P s.dom s.p=y at r2 k2⊢;have m1:=vE k1 ob.r (p:=s.p);have m2:=vE k2 oa.r (p:=s.p);have m3:=vE oa.r ob.r (p:=s.p);have h4:=anc (p:=s.p) (x:=cU x b.R s.p) (l:=[cU y a.R s.p,cU a.R b.R s.p]) qG (two qG qG) σ;have h5:=Jx (q:=(vO a.P b.P).1) (e:=(vO a.P b.P).2) (r:=C0 s.p (cU x b.R s.p) [cU y a.R s.p,cU a.R b.R s.p]) os (OV a1 b1) (abY qG) hl;simp only[pV,bo,af,am]at h3 h5 r1 r2 m1 m2 m3;simp only[af,am,cB,aBM,aBX]at h4;simp only[Br,go_sem,h1,h3,h4,h5,r1,r2,m1,m2,m3]
theorem ME{x y}{p}:OkI (B4 x y p):=yg
theorem UG{s}:OkI (cu s).R/\vi (cu s).R=true/\Cl (cu s).P.vars (cu s).P.terms/\(cu s).P.terms.length<=100000:=⟨CR.ok',rfl,Cl.nil _,aBB _⟩
theorem VW{d}(h:z0 d=true):d=aG:=by
 obtain⟨n,m,e⟩:=d;unfold z0 at h;simp only[aBk,aCi,decide_eq_true_eq]at h;obtain⟨h1,h2,h3⟩:=h;subst h1 h3;rw[List.length_eq_zero_iff.1 h2];rfl
theorem EB{x}(ox:OkI x)(v:vi x=true):∃q,In q x:=by
 cases ha:x.all with
 |true=>
  refine⟨0,Or.inl ?_⟩;unfold vi at v;rw[ha]at v;simp at v;obtain⟨l,h,a⟩:=x;simp only at v ha;rw[VW v.1,VW v.2,ha];rfl
 |false=>
  have hk:kI x=true:=by grind[kI]
  obtain⟨_,h1,h2⟩:=Jz hk;exact⟨qv x.lo,Or.inr ⟨ha,⟨⟨h1,ox.lo⟩,h2,ox.hi⟩,Rat.le_refl,uD.2 (akO hk).2.2.1⟩⟩
theorem YW{s}{q}{e}{r}(oq:OkP q)(os:OkS s)(hl:s.dom.length<=100000)(hv:e=0->vp q=true->q.vars=s.dom.length)(ir:∃q,In q r):OkI (jD s q e r).R/\vi (jD s q e r).R=true/\Cl (jD s q e r).P.vars (jD s q e r).P.terms/\(jD s q e r).P.terms.length<=100000:=by
 unfold jD;split
 ·rename_i he;have hv:=hv he;split
  ·rename_i hc;obtain⟨⟨c1,_⟩,c2,_⟩:=GQ (o:=s.ord) oq;obtain⟨r1,r2⟩:=UE (p:=s.p) (kS c1);unfold xp at hc⊢;split at hc
   ·rename_i h0;rw[aq h0];have k4:=tC (p:=s.p) (kS c2) os.d hl;have k5:=tC (p:=s.p) (kS r2.cl) os.d hl;obtain⟨q4,i4⟩:=EB k4.1 k4.2;obtain⟨q5,i5⟩:=EB k5.1 k5.2;obtain⟨q6,i6⟩:=ir;have ii:=iq (p:=s.p) i6 (iq (p:=s.p) i4 i5);refine⟨ii.ok,ii.v,?_,r1.len⟩;have hcl:=r1.cl;cases hq:vp q with
    |true=>
     have e1:(dH q s.ord).1.vars=q.vars:=by simp_all[dH,aq]
     have e2:(fE (dH q s.ord).1 s.p).1.1.vars=q.vars:=by
      unfold fE at h0⊢;grind
     rw[←hv hq,←e2];omega
    |false=>
     have e1:(dH q s.ord).1=p0:=by simp_all[dH,ax]
     have e2:(fE p0 s.p).1.1.terms=[]:=by
      unfold fE;split
      ·split
       ·rfl
       ·rfl
      ·rfl
     grind[Cl.nil]
   grind
  ·exact UG
 ·exact UG
theorem anf{s}{a b}(os:OkS s)(oa:OkM a)(ob:OkM b):R 85 [go s,cw a,cw b] []=some (cw (O4 s a b),[]):=by
 refine az ZV rfl ?_;have h1:=CY os (l:=[a,b]) (two oa ob) σ;have h2:=CZ (s:=s);unfold O4;simp only[aBM,aBX]at h1;cases g:yz s [a,b]with
 |false=>
  rw[g]at h1;simp only[Bv,go_sem,h1,h2]
 |true=>
  rw[g]at h1;obtain⟨q1,q2⟩:=rp g;obtain⟨a1,_⟩:=gB oa (q2 a σ);obtain⟨b1,_⟩:=gB ob (q2 b σ);have h3:=aml a1 b1;have h4:=Ms oa.r ob.r (p:=s.p);have h5:=Jx (e:=(y8 a.P b.P).2) (r:=B4 a.R b.R s.p) os (OU a1 b1) ME (by grind[gg]);simp only[pV,bo,af,am]at h3 h4 h5;simp only[Bv,go_sem,h1,h3,h4,h5]
theorem ajX{p:α->Prop}{a}(ha:p a):∀m∈[a],p m:=fun m hm=>by grind
noncomputable def LH (s:Rs) (a:Rm) (r:Ri):Rm:=if yz s [a]=true then⟨a.P,dk a.R r s.p⟩else cu s
theorem ahe{s}{a}{r}(os:OkS s)(oa:OkM a)(or:OkI r):R 88 [go s,cw a,af r] []=some (cw (LH s a r),[]):=by
 refine az Vf rfl ?_;have h1:=CY os (l:=[a]) (ajX oa) σ;have h2:=CZ (s:=s);unfold LH;simp only[aBM,aBX]at h1;cases g:yz s [a]with
 |false=>
  rw[g]at h1;simp only[xM,af,am,go_sem,h1,h2]
 |true=>
  rw[g]at h1;have h4:=te oa.r or (p:=s.p);simp only[af,am]at h4;simp only[xM,af,am,go_sem,h1,h4]
noncomputable def bN (s:Rs) (a:Rm):Ri:=if yz s [a]=true then dk (mY a.P s.dom s.p) a.R s.p else cG
theorem tM{s}{a}(os:OkS s)(oa:OkM a):R 51 [go s,cw a] []=some (af (bN s a),[]):=by
 refine az Va rfl ?_;have h1:=CY os (l:=[a]) (ajX oa) σ;have h2:=gP;unfold bN;simp only[aBM,aBX]at h1;cases g:yz s [a]with
 |false=>
  rw[g]at h1;simp only[xJ,af,am,cG,aG,go_sem,h1,h2]
 |true=>
  rw[g]at h1;obtain⟨q1,q2⟩:=rp g;obtain⟨a1,_⟩:=gB oa (q2 a σ);have hl:s.dom.length<=100000:=by grind[gg]
  have h3:=AW (p:=s.p) a1 os.d hl;have k1:=(tC (p:=s.p) a1 os.d hl).1;have h4:=te k1 oa.r (p:=s.p);simp only[bo,af,am]at h3 h4;simp only[xJ,af,am,go_sem,h1,h3,h4]
def O6:List Ri->List Ri->Bool
 |x::l,y::m=>ze x y&&O6 l m
 |_,_=>true
theorem ang{x d}(ox:∀a∈x,OkI a)(od:∀a∈d,OkI a)(hx:x.length<4611686018427387904)(he:x.length=d.length):∀rx rd (n:Nat),x.drop n=rx->d.drop n=rd->n<=x.length->∀S h,S 1=.sl 7 (cB d)->S 2=.fn 46 [] []->S 15=.sl 7 (cB x)->S 16=I x.length->S 17=I n->
  ∃hh,ao 0 [] (aD (ap R (aC false) aI) [1,2,15,16,17] [] S h)=if O6 rx rd=true then some (.normal,⟨fun _=>.any,hh⟩)else some (.ret,⟨upd cr 6 (B false),hh⟩):=by
 intro rx;induction rx with
 |nil=>
  intro rd n hd1 hd2 hn S h h1 h2 h15 h16 h17;have e:n=x.length:=by
   have:=congrArg List.length hd1;grind
  subst e;rw[ai];refine⟨?hh0,?_⟩;rotate_left
  ·simp only[aI,go_sem,h1,h2,h15,h16,h17,aCh];rfl
 |cons a rx ih=>
  intro rd n hd1 hd2 hn S h h1 h2 h15 h16 h17;have hlt:n<x.length:=by
   grind
  have ra:x[n]?=some a:=by
   have:=congrArg (·[0]?) hd1;grind
  have hb:∃b,d[n]?=some b:=⟨d[n]'(by omega),aBp ω⟩;obtain⟨b,rb⟩:=hb;have hrd:rd=b::d.drop (n+1):=by
   grind[aBJ,Option.some.injEq]
  subst hrd;have ih':=ih (d.drop (n+1)) (n+1) (by rw[←List.drop_drop,hd1];rfl) rfl hlt;have e1:(n< (x.length:Int))=True:=tt;have e2:=EI rfl ra;have e3:=EI rfl rb;have e4:aS (n+1)=(n+1:Nat):=by grind[i64_in]
  have v1:=UB (ox a (aBs ra)) (od b (aBs rb));rw[ai,show O6 (a::rx) (b::d.drop (n+1))=(ze a b&&O6 rx (d.drop (n+1)))from rfl];simp only[af,am]at e2 e3 v1;cases g:ze a b with
  |false=>
   rw[g]at v1;refine⟨?hh1,?_⟩;rotate_left
   ·simp only[aI,go_sem,h1,h2,h15,h16,h17,e1,e2,e3,v1];rfl
  |true=>
   rw[g]at v1;simp only[aI,go_sem,h1,h2,h15,h16,h17,e1,e2,e3,e4,v1];apply ih'<;>rfl
def YX(x d:List Ri):Bool:=decide (x.length=d.length)&&O6 x d
theorem apR{x d}(ox:∀a∈x,OkI a)(od:∀a∈d,OkI a)(hx:x.length<4611686018427387904):R 45 [.sl 7 (cB x),.sl 7 (cB d),.fn 46 [] []] []=some (B (YX x d),[]):=by
 refine az iJ rfl ?_;unfold YX;by_cases he:x.length=d.length
 ·have f:(x.length=(d.length:Int))=True:=tt;rw[decide_eq_true he,aBt];have hL:=ang ox od hx he x d 0 Z Z (aBB _);generalize hLL:aD (ap R (aC false) aI) [1,2,15,16,17] []=L at hL;have hXL:∀s h,ap R (aC false) (.loop [1,2,15,16,17] [] aI) s h=L s h:=fun s h=>by rw[←hLL];rfl
  have hL2:∀S h X,ao 0 [] (L S h)=X->S 1=.sl 7 (cB d)->S 2=.fn 46 [] []->S 15=.sl 7 (cB x)->S 16=I x.length->S 17=I 0->
    ∃hh,X=if O6 x d=true then some (.normal,⟨fun _=>.any,hh⟩)else some (.ret,⟨upd cr 6 (B false),hh⟩):=fun S h X hX a b c d e=>by
   rw[←hX];exact hL S h a b c d e
  simp only[bD,cz,go_sem,f,hXL];generalize hX2:ao 0 [] (L _ _)=X;obtain⟨hh,g0⟩:=hL2 _ _ _ hX2 Z Z Z Z Z;rw[g0];cases O6 x d with
  |true=>
   simp only[go_sem]
  |false=>
   simp only[go_sem]
 ·have f:(x.length=(d.length:Int))=False:=ff;rw[decide_eq_false he,aBy];simp only[bD,cz,go_sem,f]
noncomputable def O7 (s:Rs) (a:Rm) (x:List Ri):Ri:=if(yz s [a]&&YX x s.dom)=true then dk (mY a.P x s.p) a.R s.p else cG
theorem ajY{s}{a}{x}(os:OkS s)(oa:OkM a)(ox:∀b∈x,OkI b)(hx:x.length<=100000):R 17 [go s,cw a,.sl 7 (cB x)] []=some (af (O7 s a x),[]):=by
 refine az Xf rfl ?_;have h1:=CY os (l:=[a]) (ajX oa) σ;have h2:=gP;unfold O7;simp only[aBM,aBX]at h1;cases g:yz s [a]with
 |false=>
  rw[g]at h1;simp only[uL,af,am,cG,aG,go_sem,h1,h2]
 |true=>
  rw[g]at h1;have h5:=apR ox os.d ω;cases g2:YX x s.dom with
  |false=>
   rw[g2]at h5;simp only[uL,af,am,cG,aG,go_sem,h1,h2,h5]
  |true=>
   rw[g2]at h5;obtain⟨q1,q2⟩:=rp g;obtain⟨a1,_⟩:=gB oa (q2 a σ);have h3:=AW (p:=s.p) a1 ox hx;have k1:=(tC (p:=s.p) a1 ox hx).1;have h4:=te k1 oa.r (p:=s.p);simp only[bo,af,am]at h3 h4;simp only[uL,af,am,go_sem,h1,h3,h4,h5]
def inc(l:List Int)(i:Nat):List Int:=l.set i (l.getD i 0+1)
theorem abZ(l)(i):(inc l i).length=l.length:=by simp[inc]
theorem apS{l}{i}(h:i<l.length):(inc l i).getD i 0=l.getD i 0+1:=by
 grind[inc]
theorem anh{l}{i}(h:i<l.length):dec (inc l i) i=l:=by
 simp_all[dec,apS,inc,List.set_set,Int.add_sub_cancel,List.set_getElem_self]
theorem ab0{l}{i}(h:i<l.length):bO (inc l i)=bO l+1:=by
 grind[abG,inc,abZ,anh]
def ajZ(x:List Int):Rt:=⟨x,one⟩
def awz(v:Int)(t:Rt)(i:Nat):Rp:=⟨v,[ajZ (inc t.exps i)]⟩
structure VS (v:Int) (i:Nat) (t:Rt):Prop where
 vt:VT v t
 hd:bO t.exps<=16
 hi:i<t.exps.length
theorem Tw{l}{i}(h:∀e∈l,0<=e/\e<=32)(hi:i<l.length):0<=l.getD i 0/\l.getD i 0<=bO l:=by
 simp_all[EK]
theorem VS.inc{v}{i}{t}(h:VS v i t){d}(od:Ok0 d)(vdd:vd d=true)(nd:d.m.length≠0):VT v ⟨inc t.exps i,d⟩:=by
 obtain⟨x1,x2⟩:=Tw h.vt.b h.hi;have:=h.hd;refine⟨od,by rw[abZ];exact h.vt.len,h.vt.v8,vdd,nd,fun e he=>?_,by rw[ab0 h.hi];omega⟩;rcases List.mem_or_eq_of_mem_set he with h2|rfl
 ·exact h.vt.b e h2
 omega
theorem VS.one{v}{i}{t}(h:VS v i t):VT v (ajZ (Go.Ab.inc t.exps i)):=h.inc fg.2 fg.1 δ
theorem VS.oneC{v}{i}{t}(h:VS v i t):Cl v [ajZ (Go.Ab.inc t.exps i)]:=Cl.mk' h.one (fun _ h=>nomatch h) (Cl.nil _)
theorem VS.vp{v}{i}{t}(h:VS v i t)(h0:0<=v):vp (awz v t i)=true:=B0 h.oneC h0 h.vt.v8 γ
theorem VS.intD{v}{i}{t}(h:VS v i t):Ok0 (intD (t.exps.getD i 0+1))/\vd (intD (t.exps.getD i 0+1))=true:=by
 obtain⟨x1,x2⟩:=Tw h.vt.b h.hi;have:=h.hd;obtain⟨k1,k2,_⟩:=amB (e:=t.exps.getD i 0+1) ω ω;grind
def rL(v i:Nat):List Int:=(kU v).set i 1
def aj0(v i:Nat):Rp:=⟨v,[⟨rL v i,one⟩]⟩
theorem O8(v i):(rL v i).length=v:=by simp[rL,kU]
theorem aj1{v i}(h:i<v):bO (rL v i)=1:=by
 have:=ab0 (l:=kU v) (i:=i) (by grind[kU]);grind[Ti,inc,kU,rL]
theorem apT{v i:Nat}(h8:v<=8)(h:i<v):VT v ⟨rL v i,one⟩:=by
 refine⟨fg.2,by grind[rL,O8],by omega,fg.1,(by show 1≠0;decide),fun e he=>?_,by grind[aj1]⟩;rcases List.mem_or_eq_of_mem_set he with h|rfl
 ·exact akW e h
 omega
theorem apU{v:Nat}{i}:R 33 [I v,I i] []=some (if v<=8/\0<=i/\i<v then pV (aj0 v i.toNat,0)else pV (p0,2),[]):=by
 refine az adr rfl ?_;have e1:((v:Int)<0)=False:=ff;by_cases g:v<=8/\0<=i/\i<v
 ·rw[aq g];obtain⟨h8,g1,g2⟩:=g;obtain⟨n,rfl⟩:=aCj g1;have hn:n<v:=ω
  have e2:(8< (v:Int))=False:=ff;have e3:((n:Int)<0)=False:=ff;have e4:(v<=(n:Int))=False:=ff;have z1:qk (.v (.int .i64 v)) (.v (.int .i64 v))=some (v,v):=by
   grind[qk]
  have z2:(v*8<=140737488355328)=True:=tt;have he:=CT (v:=v);have h1:=Le;simp only[ae,aj]at h1;have ei:Int.toNat n=n:=aBr _;have k0:(aZ (kU v)).set n [I 1]=aZ (rL v n):=abo _ _ _;have k3:(aZ (kU v))[n]?=some [I 0]:=by grind[aZ,kU]
  have e7:(0<=(n:Int)/\n< (v:Int))=True:=eq_true ⟨by omega,by omega⟩;simp only[vC,go_sem,e1,e2,e3,e4,h1,he,rk,z1,z2,YE,e7,ei,k0,k3,aBi];have k1:(v<=(rL v n).length)=True:=eq_true (by simp_all[O8,aBh]);have k2:(aZ (rL v n)).take v=aZ (rL v n):=aBE (by simp_all[EJ,O8,aBh]);simp only[↓reduceIte, *];have hadd:=dQ (aV.1.2.1 false) rfl (ri (d:=34) (id:=2240) (v:=v) (e:=0) (e':=0) (c:=.emp) (l:=[]) (x:=rL v n) (q:=one) (h:=upd (upd (upd (upd (upd (fun _=>.dead) 4 (.bx [I 0,.emp])) 25 (.ar 1 (aZ (kU v)))) 25 (.ar 1 (aZ (rL v n)))) 2240 (.bx [I v,.emp,I 0])) 25 (.fz 1 (aZ (rL v n)))) rfl (.inr ⟨rfl,rfl⟩) (.inl rfl) (OQ (apT h8 hn)));simp only[ae,aj,t3]at hadd;simp only[hadd,go_sem];obtain⟨o,hdn⟩:=DI (v:=v) (e:=0) (c:=.osl 4 (aT [⟨rL v n,one⟩])) (l:=[⟨rL v n,one⟩]) (d:=36) (id:=2240) (h:=upd (upd (upd (upd (upd (upd (fun _=>.dead) 4 (.bx [I 0,.emp])) 25 (.ar 1 (aZ (kU v)))) 25 (.ar 1 (aZ (rL v n)))) 2240 (.bx [I v,.emp,I 0])) 25 (.fz 1 (aZ (rL v n)))) 2240 (.bx [I v,.osl 4 (aT [⟨rL v n,one⟩]),I 0])) rfl (.inl rfl) rfl;have hd':=dQ (bG.1.2.1 false) rfl hdn;rw[hd'];have e4:pZ v (some [⟨rL v n,one⟩])=(aj0 v n,0):=rfl;have e5:=H2 [⟨rL v n,one⟩];rw[e4];simp only[pV,bo,e5,go_sem]
 ·rw[ax g];by_cases g1:v<=8
  ·have e2:(8< (v:Int))=False:=ff;by_cases g2:0<=i
   ·have e3:(i<0)=False:=ff;have e4:(v<=i)=True:=tt;simp only[vC,go_sem,e1,e2,e3,e4];rfl
   ·have e3:(i<0)=True:=tt;simp only[vC,go_sem,e1,e2,e3];rfl
  ·have e2:(8< (v:Int))=True:=tt;simp only[vC,go_sem,e1,e2];rfl
noncomputable def aed (s:Rs) (i:Int):Rm:=if(fk s&&decide (0<=i/\i<s.dom.length))=true then⟨aj0 s.dom.length i.toNat,cp⟩else cu s
theorem ani{s}{i}(os:OkS s):R 13 [go s,I i] []=some (cw (aed s i),[]):=by
 refine az ZS rfl ?_;have h1:=zO os.d os.n;have h2:=CZ (s:=s);have h3:=apU (v:=s.dom.length) (i:=i);have h4:=UC;unfold aed;by_cases g:s.dom.length<=8/\0<=i/\i<s.dom.length
 ·rw[aq g]at h3;rw[decide_eq_true g.2,Bool.and_true];simp only[pV,bo,af,am]at h3 h4;cases g1:fk s with
  |false=>
   rw[g1]at h1;simp only[sv,go_sem,h1,h2,h3]
  |true=>
   rw[g1]at h1;simp only[sv,go_sem,h1,h3,h4]
 ·rw[ax g]at h3;have gf:(fk s&&decide (0<=i/\i<s.dom.length))=false:=by
   grind[g1,fk,decide_eq_false,gg]
  rw[gf,ax aBu];simp only[pV,bo,p0]at h3;have f:((2:Int)=0)=False:=eq_false δ;cases g1:fk s with
  |false=>
   rw[g1]at h1;simp only[sv,go_sem,h1,h2,h3]
  |true=>
   rw[g1]at h1;simp only[sv,go_sem,h1,h2,h3,f]
noncomputable def gU (s:Rs) (x:Ri):Rm:=if(fk s&&kI x)=true then jD s (B5 s.dom.length (uE x s.p)) 0 (B4 x ⟨uE x s.p,uE x s.p,false⟩ s.p)else cu s
theorem MF{v:Nat}{c}(h8:v<=8)(oc:Ok0 c)(vc:vd c=true):Cl v (FW v c):=by
 grind[FW,Cl.nil,Cl.mk',agF]
theorem AX{s}{x}(os:OkS s)(ox:OkI x):R 67 [go s,af x] []=some (cw (gU s x),[]):=by
 refine az Ve rfl ?_;have h1:=zO os.d os.n;have h2:=CZ (s:=s);have hv:=pf ox;unfold gU;simp only[af,am]at hv;cases g:fk s with
 |false=>
  rw[g]at h1;simp only[pj,af,am,go_sem,h1,h2]
 |true=>
 rw[g]at h1;unfold kI;cases g2:x.all with
 |true=>
  simp only[pj,af,am,go_sem,h1,h2,g2]
 |false=>
 rw[g2]at hv;cases g3:vi x with
 |false=>
  rw[g3]at hv;simp only[pj,af,am,go_sem,h1,h2,g2,hv]
 |true=>
 rw[g3]at hv;have h8:=(gg g).1;have hl:s.dom.length<=100000:=ω
 have hm:=ahd ox (p:=s.p);obtain⟨mv,mo⟩:=ym (p:=s.p) ox;have hs:=ajH h8 mo mv;have hp:=gR mo mv;have pok:OkI ⟨uE x s.p,uE x s.p,false⟩:=⟨mo,mo⟩;have u1:=Ms ox pok (p:=s.p);have h5:=Jx (q:=B5 s.dom.length (uE x s.p)) (e:=0) (r:=B4 x ⟨uE x s.p,uE x s.p,false⟩ s.p) os (kS (MF h8 mo mv)) ME hl;simp only[pV,bo,af,am,ae,aj,g2]at hm hs hp u1 h5;simp only[pj,af,am,go_sem,h1,h5,g2,hv,hm,hs,hp,u1]
theorem apV{neg}{M n}{e}(h:M<=2^n)(hn:1<=n):ag (ab (bu neg M e).m)<=n:=by
 by_cases h0:M=0
 ·subst h0;exact aBB _
 ·obtain⟨k1,_,k3,_⟩:=rH (neg:=neg) (e:=e) h0;rw[k1,bT];have h2:M/2^tz M<=M:=Nat.div_le_self _ _;grind
theorem awA{M n}{e}{more up}:pe up (pY M e more (eZ M e (n:Nat)))<=2^n:=by
 have key:(pY M e more (eZ M e n)).1<2^n:=by
  obtain⟨u,hu⟩:∃u,eZ M e n=u:=⟨_,rfl⟩;have hu2:e+(ag M)-n<=u:=by
   grind[eZ]
  unfold pY;split
  ·by_cases h0:M=0
   ·grind
   ·rw[←bT,ed _ h0];omega
  ·rw[←bT,nN];omega
 grind[pe]
theorem ahf{M n}{e}{more up}(hn:1<=n):ag (ab (cO M e more (n:Nat) up).1.m)<=n:=by
 have h0:ag (ab aG.m)<=n:=aBB _;have hc:∀q u,q<=2^n->ag (ab (cS (bu false q u)).1.m)<=n:=fun q u hq=>by
  unfold cS;split
  all_goals simp_all[apV]
 grind[cO,uA,aBr,Nat.sub_le,awA]
theorem apW{z f}{n}{up}(hn:1<=n):ag (ab (iL z f (n:Nat) up).1.m)<=n:=by
 have h0:ag (ab aG.m)<=n:=aBB _;unfold iL;split
 ·omega
 ·unfold iX;split
  ·unfold fC;grind[ahf]
  grind[ahf]
theorem anj{d}{n}{up}(hn:1<=n):ag (ab (cx d (n:Nat) up).1.m)<=n:=by
 unfold cx;split
 ·exact apW hn
 ·exact aBB _
theorem ahg{d}{p}(hp:bE p=true):DK (nF d p).1 p=true:=by
 have hp2:=vo hp;obtain⟨n,rfl⟩:=aCj (show 0<=p by omega);have hb:ag (ab (nF d n).1.m)<=n:=by
  unfold nF;split
  ·split
   ·grind[MC,YQ,anj]
   ·exact aBB _
  ·exact aBB _
 simp_all[DK,FZ,aBt,decide_eq_true]
theorem YY{p}(hp:bE p=true):∀ {ts} {q},xk p ts=some q->∀t∈q.1,DK t.c p=true
 |[],q,h=>by
  cases h;grind
 |t::ts,q,h=>by
  unfold xk at h;split at h
  ·split at h
   ·rw[aBj]at h;obtain⟨q2,h2,rfl⟩:=h;have ih:=YY hp h2;intro y hy;unfold dW at hy;split at hy
    ·exact ih y hy
    ·rcases List.mem_cons.1 hy with rfl|hy
     ·exact ahg hp
     ·exact ih y hy
   ·cases h
  ·cases h
theorem aj2{a}{o}(ho:-1<=o)(h:∀t∈a.terms,bO t.exps<=o):mA a<=o:=by
 grind[mA]
theorem ank{s}(h:fk s=true):1<=s.dom.length/\1<=s.ord:=by
 simp_all[fk,aBk,decide_eq_true_eq]
theorem Q6{s}{m:Rm}(hs:fk s=true)(c:Cl s.dom.length m.P.terms)(hv:m.P.vars=s.dom.length)(hl:m.P.terms.length<=500)(hd:∀t∈m.P.terms,bO t.exps<=s.ord)(hr:vi m.R=true)(hi:∀t∈m.P.terms,DK t.c s.p=true):rm s m=true:=by
 unfold rm;have h8:=(gg hs).1;have hp:vp m.P=true:=by
  have:m.P=⟨s.dom.length,m.P.terms⟩:=by rw[←hv]
  grind[B0]
 rw[hs,hp,decide_eq_true hv,decide_eq_true (aj2 (by grind[ank]) hd),hr,aBt,aBt,aBt,aBt,aBt,aCi,List.any_eq_false];grind
theorem aee{s}(hs:fk s=true):rm s (cu s)=true:=Q6 hs (Cl.nil _) rfl (aBB _) (fun _ h=>nomatch h) rfl (fun _ h=>nomatch h)
theorem aef{s}{q}{e}{r}(oq:OkP q)(os:OkS s)(hs:fk s=true)(hq:vp q=true->q.vars=s.dom.length)(ir:∃q,In q r):rm s (jD s q e r)=true:=by
 have hl:s.dom.length<=100000:=by grind[gg]
 have hp:=(gg hs).2;obtain⟨_,m2,m3,_⟩:=YW (e:=e) oq os hl (fun _=>hq) ir;by_cases hz:jD s q e r=cu s
 ·grind[aee]
 have hm:(fE (dH q s.ord).1 s.p).2=0/\(jD s q e r).P=⟨s.dom.length,(fE (dH q s.ord).1 s.p).1.1.terms⟩:=by
  unfold jD at hz⊢;split at hz
  ·split at hz
   ·rename_i hc;unfold xp at hc⊢;grind
   grind
  grind
 obtain⟨h0,hP⟩:=hm;have key:∀t∈ (fE (dH q s.ord).1 s.p).1.1.terms,bO t.exps<=s.ord/\DK t.c s.p=true:=by
  unfold fE at h0⊢;split at h0
  ·rename_i k1;rw[aq k1];split at h0
   ·omega
   ·rename_i k2;rw[ax k2];split at h0
    ·omega
    ·rename_i o q2 hr;obtain⟨c1,_⟩:=GQ (o:=s.ord) oq;obtain⟨⟨_,_,k3⟩,_⟩:=Ij c1.1 hr;intro t ht;refine⟨?_,YY hp hr t ht⟩;obtain⟨y,hy,he⟩:=k3 t ht;unfold dH at hy;split at hy
     all_goals simp_all[Eg,of_decide_eq_true,absurd,p0]
  omega
 have hlen:(fE (dH q s.ord).1 s.p).1.1.terms.length<=500:=by
  unfold fE at h0⊢;split at h0
  ·rename_i k1;split at h0
   ·omega
   ·split at h0
    ·omega
    ·rename_i o q2 hr;obtain⟨c1,_⟩:=GQ (o:=s.ord) oq;obtain⟨⟨_,k3,_⟩,_⟩:=Ij c1.1 hr;have k4:=(QB k1).2.2.1;grind
  omega
 grind[Q6]
theorem anl{n}{a k}:cF n (a*2^k)=cF n a*2^k:=by
 grind[cF,Int.natCast_mul,Int.neg_mul]
theorem aj3{c}{p}{up}(ok:Ok0 c)(vc:vd c=true)(hp:bE p=true)(hb:(ag (ab c.m))<=p):cx c p up=(c,0):=by
 have hp2:=vo hp;by_cases h0:c.m.length=0
 ·grind[CD,YI]
 have hi:=by
  have h:=vc;unfold vd at h;rw[ax h0]at h;have o:=H4 vc h0;simp only[aBk,decide_eq_true_eq]at h;have hi:=CE h.2.2.2 (by have:=(lw (n:=ab c.m) (k:=0)).2 ω;omega);omega
 unfold cx;rw[aq (by grind[bh]),show zI c=cF c.neg (mg c)from rfl];unfold mg;rw[anl,DE,show(-16384)+(c.e+16384).toNat=c.e by omega,←Qw hp2];have hk:K9 (ab c.m) c.e p=0:=by grind[K9]
 simp_all[FI,SJ,ab,Nat.pow_zero,Nat.mod_one,Nat.div_one,CI,ax,Lh]
theorem ahh{c}{p}(ok:Ok0 c)(vc:vd c=true)(hp:bE p=true)(hb:(ag (ab c.m))<=p):nF c p=(c,0):=by
 simp_all[nF,aj3,aq,MC,YQ]
theorem ahj{c}(vc:vd c=true):oT c c=(aG,0):=by
 unfold oT;rw[vc,aB3,aq rfl,Int.sub_self];exact Jm rfl
theorem YZ{p}(hp:bE p=true):∀ts,(∀t∈ts,Ok0 t.c/\t.c.m.length≠0/\DK t.c p=true)->xk p ts=some (ts,[])
 |[],_=>rfl
 |t::ts,h=>by
  obtain⟨h1,h2,h3⟩:=h t σ;unfold DK at h3;simp only[aBk,decide_eq_true_eq]at h3;have hn:=ahh h1 h3.2.1 hp h3.2.2;unfold xk;rw[hn,aq rfl,ahj h3.2.1,aq rfl,YZ hp ts fun t ht=>h t (by simp[ht])];show some (dW t.exps t.c ts,dW t.exps aG [])=_;unfold dW;rw[ax h2,aq (show aG.m.length=0 from rfl)]
structure Fit (s:Rs) (q:Rp):Prop where
 v:q.vars=s.dom.length
 n:q.terms.length<=500
 c:Cl s.dom.length q.terms
 d:∀t∈q.terms,bO t.exps<=s.ord
 r:∀t∈q.terms,DK t.c s.p=true
theorem Fit.ok{s}{q}(h:Fit s q):OkP q:=⟨fun t ht=>(h.c.t t ht).ok⟩
theorem Fit.vp{s}{q}(hs:fk s=true)(h:Fit s q):vp q=true:=by
 have:=h.v;obtain⟨v,l⟩:=q;subst this;exact B0 h.c ω (by have:=(gg hs).1;omega) h.n
theorem ahk{s}{q}(hs:fk s=true)(h:Fit s q):dH q s.ord=(q,⟨q.vars,[]⟩):=by
 unfold dH;rw[aq (h.vp hs),List.filter_eq_self.2 fun t ht=>by exact decide_eq_true (h.d t ht),List.filter_eq_nil_iff.2 fun t ht=>by unfold Ch;rw[decide_eq_true (h.d t ht)];grind]
theorem ahl{s}{q}(hs:fk s=true)(h:Fit s q):fE q s.p=((q,⟨q.vars,[]⟩),0):=by
 have hp:=(gg hs).2;have hp2:=vo hp;unfold fE;rw[aq (h.vp hs),ax ω,YZ hp _ fun t ht=>⟨(h.c.t t ht).c,(h.c.t t ht).nz,h.r t ht⟩]
theorem ab1{p}(hp:bE p=true):dk cp cp p=cp:=by
 unfold dk;rw[(As (m:=0)).k,hp,aB3,aB3,aq rfl];show nC (dq aG aG p false) (dq aG aG p true)=_;rw[agJ,agJ,YI hp,YI hp];rfl
theorem anm{v p}{dom}:mY ⟨v,[]⟩ dom p=cp:=by
 simp_all[mY,aq]
theorem ann{s}{q}(hs:fk s=true)(h:Fit s q):xp s q=((q,cp),true):=by
 unfold xp;simp only[ahk hs h,ahl hs h,anm,ab1 (gg hs).2,←h.v];rfl
theorem ano{x}(hv:OkI x)(h:ze x cA=true):Bd 0 x:=by
 unfold ze at h;split at h
 ·rename_i g;obtain⟨g1,g2,g3⟩:=g;simp only[cA,Bool.false_or,aBk,decide_eq_true_eq]at h;have h5:=of_decide_eq_true h.1;have h6:=of_decide_eq_true h.2;have k:kI x=true:=by grind[kI,g1]
  obtain⟨_,v1,v2⟩:=Jz k;have hl:zI x.lo<=zI x.hi:=by
   simp_all[vi,g1,ax,aBk,decide_eq_true_eq]
  have e1:zI one=(2^ (16384+0):Nat):=Jy (n:=false) (k:=0);have e2:zI qi=-(2^ (16384+0):Nat):=Jy (n:=true) (k:=0);refine⟨⟨qv x.lo,Or.inr ⟨g3,⟨⟨v1,hv.1⟩,⟨v2,hv.2⟩⟩,Rat.le_refl,uD.2 hl⟩⟩,g3,?_,?_⟩<;> (unfold Ld;generalize 2^ (16384+0)=T at e1 e2⊢;omega)
 grind[cA]
theorem ahm{s}(os:OkS s)(hs:fk s=true):∀x∈s.dom,Bd 0 x:=fun x hx=>by
 unfold fk at hs;exact ano (os.d x hx) γ
theorem C1{s}(os:OkS s)(hs:fk s=true){q}(hv:vp q=true)(h:q.vars=s.dom.length):mW q s.dom=true:=by
 unfold mW;rw[hv,decide_eq_true h.symm,aBt,aBt,aCi,List.any_eq_false];exact fun x hx=>by rw[(ahm os hs x hx).k];grind
theorem apX{s}(os:OkS s)(hs:fk s=true){q}{m}(oq:OkP q)(hv:vp q=true)(h:q.vars=s.dom.length)(hc:∀t∈q.terms,Ld m t.c)(hm:m+q.terms.length<16384):Bd (m+q.terms.length) (mY q s.dom s.p):=by
 have hp:=(gg hs).2;have hd:=C1 os hs hv h;have hcl:=(gj oq hv).1;by_cases h0:q.terms.length=0
 ·simp_all[mY,aq,As]
 ·have hb:Bd (m+q.terms.length) (oA q s.dom s.p):=by
   unfold oA;rw[hd,hp,aB3,aq rfl];exact ag8 (k:=0) hp (ahm os hs) q.terms _ hm (fun t ht=>⟨(hcl.t t ht).vc,(hcl.t t ht).c,hc t ht,fun e he=>((hcl.t t ht).b e he).2⟩) As
  exact(ag3 oq os.d (by grind[gg]) hd hp h0 hb.a).bd hb
def J6(a b:Rat)(q:Rat->Rat->Rat):Prop:=∃C,0<=C/\∀x y,a<=x->x<=b->a<=y->y<=b→-C<=q x y/\q x y<=C
theorem J6.add{a b}{p q}(hp:J6 a b p)(hq:J6 a b q):J6 a b fun x y=>p x y+q x y:=by
 obtain⟨C,c0,hc⟩:=hp;obtain⟨D,d0,hd⟩:=hq;refine⟨C+D,by grind,fun x y h1 h2 h3 h4=>?_⟩;grind
theorem J6.mul{a b}{p q}(hp:J6 a b p)(hq:J6 a b q):J6 a b fun x y=>p x y*q x y:=by
 obtain⟨C,c0,hc⟩:=hp;obtain⟨D,d0,hd⟩:=hq;refine⟨C*D,Rat.mul_nonneg c0 d0,fun x y h1 h2 h3 h4=>?_⟩;obtain⟨u1,u2⟩:=hc x y h1 h2 h3 h4;obtain⟨v1,v2⟩:=hd x y h1 h2 h3 h4;show-(C*D)<=p x y*q x y/\p x y*q x y<=C*D;generalize p x y=u at*
 generalize q x y=v at*
 have k1:=Rat.mul_nonneg (show 0<=C-u by grind) (show 0<=D-v by grind);have k2:=Rat.mul_nonneg (show 0<=C+u by grind) (show 0<=D+v by grind);have k3:=Rat.mul_nonneg (show 0<=C-u by grind) (show 0<=D+v by grind);have k4:=Rat.mul_nonneg (show 0<=C+u by grind) (show 0<=D-v by grind);grind
theorem J6.c{a b}(k):J6 a b fun _ _=>k:=by
 rcases Rat.le_total (a:=0) (b:=k)with h|h
 ·exact⟨k,h,fun _ _ _ _ _ _=>by grind⟩
 ·exact⟨-k,by grind,fun _ _ _ _ _ _=>by grind⟩
def Smo(a b:Rat)(f g:Rat->Rat):Prop:=∃q,J6 a b q/\∀x y,f y-f x-g x*(y-x)=(y-x)*(y-x)*q x y
theorem Smo.lin{a b c d}{f g f' g'}(h1:Smo a b f g)(h2:Smo a b f' g')(hd:d=c):Smo a b (fun x=>c*f x+f' x) fun x=>d*g x+g' x:=by
 obtain⟨q,hq,e⟩:=h1;obtain⟨q',hq',e'⟩:=h2;refine⟨fun x y=>d*q x y+q' x y,((J6.c _).mul hq).add hq',fun x y=>?_⟩;grind
def u8R(l:List Nat):List (List AV):=l.map fun k=>[.v (.int .u8 (k:Nat))]
@[go_sem] theorem azg(l):(u8R l).length=l.length:=by simp[u8R]
theorem O9(x:Rat)(m:Nat):∀n,x^ (m+n)=x^m*x^n
 |0=>by grind
 |n+1=>by rw[←aCe,Rat.pow_succ,O9 x m n,Rat.pow_succ,Rat.mul_assoc]
theorem ahn:∀ {es} {xs},zF (xs.map qv) (xg es)=(LE es xs)*EQ^dg es xs
 |e::es,x::xs=>by
  show qv x^e.toNat*zF (xs.map qv) (xg es)=(zI x^e.toNat*LE es xs:Int)*EQ^ (e.toNat+dg es xs);rw[ahn,O9,Rat.intCast_mul];have:qv x^e.toNat=(zI x^e.toNat:Int)*EQ^e.toNat:=by
   generalize e.toNat=n;induction n with
   |zero=>grind
   |succ n ih=>
    grind[qv]
  grind
 |[],xs=>by
  show zF _ _=(1:Int)*EQ^0
  simp_all[Rat.pow_zero,xg,zF]
 |e::es,[]=>by
  show 1=(1:Int)*EQ^0;grind
theorem LI{xs:List Rd}{W:Int}(hW:(W:Rat)*EQ=1){w:Int}:∀ {l:List Rt},(∀t∈l,VT w t)->fv (xs.map qv) l*(W:Rat)^32=EQ*(fK l (fun u=>LE u xs*W^ (32-dg u xs)):Rat)
 |[],_=>by show(0:Rat)*_=EQ*((0:Int):Rat);simp
 |t::l,h=>by
  have ih:=LI (xs:=xs) hW (l:=l) fun t ht=>h t (List.mem_cons_of_mem _ ht);have hd:=(h t σ).dg xs;show(qv t.c*zF (xs.map qv) (xg t.exps)+fv (xs.map qv) l)*(W:Rat)^32=EQ*((zI t.c*(LE t.exps xs*W^ (32-dg t.exps xs))+fK l _:Int):Rat);rw[Rat.intCast_add,Rat.mul_add,←ih,ahn,Rat.intCast_mul,Rat.intCast_mul];have e2:∀n:Nat,(W:Rat)^n*EQ^n=1:=fun n=>by
   induction n with
   |zero=>grind
   |succ n ih=>
    grind
  have e3:(W:Rat)^32=(W:Rat)^ (32-dg t.exps xs)*(W:Rat)^dg t.exps xs:=by rw[←O9];grind
  grind[dg,qv,zI,EQ]
theorem apY{a b}{xs:List Rd}(oa:OkP a)(ob:OkP b)(h:(Ao a b).2=0):fv (xs.map qv) (Ao a b).1.terms=fv (xs.map qv) a.terms+fv (xs.map qv) b.terms:=by
 obtain⟨pa,pb,pc,f⟩:=SZ oa ob h;have hW:((2:Int)^16384:Int)*EQ=1:=by
  have:=Ia 16384;rw[Rat.mul_comm];exact this
 have q1:=LI (xs:=xs) hW pa.cl.t;have q2:=LI (xs:=xs) hW pb.cl.t;have q3:=LI (xs:=xs) hW pc.cl.t;rw[f,Rat.intCast_add,Rat.mul_add,←q1,←q2,←Rat.add_mul]at q3;grind
def cE(dom:List Ri)(k j:Nat):Rd:=if k/2^j%2=1 then(dom.getD j cG).hi else(dom.getD j cG).lo
theorem aeg{z}{k:Nat}{e}:fj (z*(2^k:Nat)) e=fj z (e+k):=by
 have hp:=Int.natCast_pos.2 (aBA k);generalize hP:(2^k)=P at hp;grind[Int.mul_nonneg,Int.le_of_lt,Int.mul_neg_of_neg_of_pos,fj,Int.natAbs_mul,Int.natAbs_natCast,mJ]
end Go.Ab
