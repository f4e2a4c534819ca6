/-
  A law of ranges holds at every input that the statement speaks of, under the conditions that its card names. Part F1.
-/
import Derived.Test.YtfdhicohflnjnaaGreatDoorE1
open Nat renaming reduceAdd → apA, reduceMul → apB, reduceLeDiff → apC, reduceLT → apD, reduceBEq → apE, reduceSub → apJ
open Int renaming reduceLT → apF, reduceToNat → apG, reduceLE → apH
set_option linter.all false
namespace Go.Ab
open Go Go.IntWalk
set_option maxRecDepth 4000
set_option maxHeartbeats 4000000
theorem E2{y:Rat}(h:0<y):0<y⁻¹:=by
 refine Rat.not_le.1 fun hn=>?_;have:=Rat.mul_le_mul_of_nonneg_right hn (Rat.le_of_lt h);grind
theorem S3{y z:Rat}(h1:0<y)(h2:y<=z):z⁻¹<=y⁻¹:=by
 have a:=E2 h1;have b:=E2 (show 0<z by grind);have c:=Rat.mul_le_mul_of_nonneg_right (Rat.mul_le_mul_of_nonneg_right h2 (Rat.le_of_lt a)) (Rat.le_of_lt b);rw[show y*y⁻¹*z⁻¹=z⁻¹ by grind,show z*y⁻¹*z⁻¹=y⁻¹ by grind]at c;omega
theorem XS{y z:Rat}(h:0<y/\y<=z\/y<=z/\z<0):z⁻¹<=y⁻¹:=by
 rcases h with⟨h1,h2⟩| ⟨h2,h1⟩
 ·grind[S3]
 ·have:=S3 (y:=-z) (z:=-y) (by grind) (by grind);grind
theorem oH{d:Rd}:(d.neg=true->zI d=-(mg d:Int))/\(d.neg=false->zI d=mg d):=by
 simp_all[zI,if_pos]
theorem aec{a b:Rd}{p:Int}{w:Bool}{N:Nat}(hN:N=16384)(oa:Ok0 a)(ob:Ok0 b)(va:vd a=true)(vb:vd b=true)(hp:8<=p/\p<=512)(a0:a.m.length≠0)(b0:b.m.length≠0)
  (h:(bJ (aa a.m*2^qM a b p/aa b.m) (a.e-qM a b p-b.e) (decide (aa a.m*2^qM a b p%aa b.m≠0)) p w).2=0):
  ∃n:Nat,zI (bJ (aa a.m*2^qM a b p/aa b.m) (a.e-qM a b p-b.e) (decide (aa a.m*2^qM a b p%aa b.m≠0)) p w).1=n/\(w=true->mg a*2^N<=n*mg b)/\(w=false->n*mg b<=mg a*2^N):=by
 obtain⟨a1,a2,a3,a4⟩:=dT va oa.lb;obtain⟨b1,b2,b3,b4⟩:=dT vb ob.lb;have hA:=dy va a0;have hB:=dy vb b0;have hk:qM a b p=(p+3+ae (aa b.m)-ae (aa a.m)).toNat:=rfl;generalize qM a b p=k at*
 have hm2:=dS k hA;have hbM:p< (ae (aa a.m*2^k/aa b.m):Nat):=by
  have h1:2^ (ae (aa a.m*2^k)-1)<=aa a.m*2^k:=EU (by omega);have h2:aa b.m<2^ae (aa b.m):=bt.1 (Nat.le_refl _);have h3:2^p.toNat*aa b.m<=aa a.m*2^k:=by
   refine Nat.le_trans (Nat.mul_le_mul_left _ (Nat.le_of_lt h2)) (Nat.le_trans ?_ h1);rw[←Nat.pow_add];exact Nat.pow_le_pow_right (by decide) (by omega)
  have h4:2^p.toNat<=aa a.m*2^k/aa b.m:=(Nat.le_div_iff_mul_le (Nat.pos_of_ne_zero hB)).2 h3;have h5:=jr.2 h4;omega
 have hdm:=Nat.div_add_mod (aa a.m*2^k) (aa b.m);have hml:=Nat.mod_lt (aa a.m*2^k) (Nat.pos_of_ne_zero hB);generalize aa a.m*2^k/aa b.m=M at*
 generalize hR:aa a.m*2^k%aa b.m=R at*
 obtain⟨n,n1,n2,n3⟩:=B3 (s:=(a.e+16384).toNat+N) (t:=k+(b.e+16384).toNat) (fun h0=>by grind[pp]) hp (by omega) (fun _=>hbM) h;refine⟨n,n1,fun hw=>?_,fun hw=>?_⟩
 ·have g:=n2 hw;have h1:aa a.m*2^k<=(M+(decide (R≠0)).toNat)*aa b.m:=by
   rw[←hdm,Nat.add_mul,Nat.mul_comm M];by_cases h0:R=0
   all_goals grind
  refine Nat.le_of_mul_le_mul_right ?_ (Nat.two_pow_pos k);have h2:=Nat.mul_le_mul_right (2^ ((a.e+16384).toNat+N)) h1;have h3:=Nat.mul_le_mul_right (aa b.m) g;unfold mg;grind
 ·have g:=n3 hw;have h1:M*aa b.m<=aa a.m*2^k:=by
   grind
  refine Nat.le_of_mul_le_mul_right ?_ (Nat.two_pow_pos k);have h2:=Nat.mul_le_mul_right (2^ ((a.e+16384).toNat+N)) h1;have h3:=Nat.mul_le_mul_right (aa b.m) g;unfold mg;grind
theorem LM{A B n:Nat}(k:Nat)(hB:0<B):(A*2^k<=n*B->(A:Rat)*(B:Rat)⁻¹<=n*eQ k)/\(n*B<=A*2^k->(n:Rat)*eQ k<=(A:Rat)*(B:Rat)⁻¹):=by
 have hb:(0:Rat)<B:=by exact_mod_cast hB
 have hi:=E2 hb;have hk:=Pz k;have hm:=DU k;have e1:((A*2^k:Nat):Rat)=A*pQ k:=by
  simp_all[pQ,Rat.natCast_mul,Rat.natCast_pow,Rat.intCast_pow]
 have e2:((n*B:Nat):Rat)=n*B:=Rat.natCast_mul _ _;have r1:(A:Rat)*(B:Rat)⁻¹=A*pQ k*(eQ k*(B:Rat)⁻¹):=by grind
 have r2:(n:Rat)*eQ k=n*B*(eQ k*(B:Rat)⁻¹):=by grind
 have hc:0<=eQ k*(B:Rat)⁻¹:=Rat.mul_nonneg (Rat.le_of_lt hk) (Rat.le_of_lt hi);rw[r1,r2,←e1,←e2];exact⟨fun h=>Rat.mul_le_mul_of_nonneg_right (by exact_mod_cast h) hc,fun h=>Rat.mul_le_mul_of_nonneg_right (by exact_mod_cast h) hc⟩
theorem XT{a b:Rd}{p:Int}{up:Bool}(va:vd a=true/\Ok0 a)(vb:vd b=true/\Ok0 b)(hb:qv b≠0)(hp:bK p=true)(h:(mS a b p up).2=0):(up=true->qv a*(qv b)⁻¹<=qv (mS a b p up).1)/\(up=false->qv (mS a b p up).1<=qv a*(qv b)⁻¹):=by
 unfold mS at h⊢;rw[if_pos (Ip va.1 vb.1 hp)]at h⊢;have b0:b.m.length≠0:=fun h0=>hb (by grind);rw[if_neg b0]at h⊢;by_cases a0:a.m.length=0
 ·rw[if_pos a0,B6]
  simp_all[qv,bP]
 rw[if_neg a0]at h⊢;obtain⟨N,hN⟩:∃N:Nat,N=16384:=⟨_,rfl⟩;have hcut:=fun w hw=>aec (w:=w) hN va.2 vb.2 va.1 vb.1 (Bb hp) a0 b0 hw;have hmb:=A4 vb.1 b0;have hE:=A8;generalize hc:bJ (aa a.m*2^qM a b p/aa b.m) (a.e-qM a b p-b.e) (decide (aa a.m*2^qM a b p%aa b.m≠0)) p=c at*
 have hvc:∀w,vd (c w).1=true:=fun w=>by rw[←hc];exact Kk
 have hq:qv a*(qv b)⁻¹=if(a.neg !=b.neg)=true then-((mg a:Rat)*(mg b:Rat)⁻¹)else(mg a:Rat)*(mg b:Rat)⁻¹:=by
  unfold qv;have i1:((-(mg a:Int):Int):Rat)=-(mg a:Rat):=by rfl
  have i2:((-(mg b:Int):Int):Rat)=-(mg b:Rat):=by rfl
  have i3:((mg a:Int):Rat)=(mg a:Rat):=rfl;have i4:((mg b:Int):Rat)=(mg b:Rat):=rfl;cases ha:a.neg<;>cases hb:b.neg
  ·rw[oH.2 ha,oH.2 hb,i3,i4,if_neg (by decide)];grind
  ·rw[oH.2 ha,oH.1 hb,i3,i2,if_pos (by decide)];grind
  ·rw[oH.1 ha,oH.2 hb,i1,i4,if_pos (by decide)];grind
  ·rw[oH.1 ha,oH.1 hb,i1,i2,if_neg (by decide)];grind
 rw[hq];generalize(a.neg !=b.neg)=sg at*
 unfold gP at h⊢;cases sg with
 |true=>
  have h2:(c (up !=true)).2=0:=by
   grind
  rw[if_pos (show(c (up !=true)).2=0/\true=true from⟨h2,rfl⟩),if_pos (show true=true from rfl)];obtain⟨n,n1,n2,n3⟩:=hcut _ h2;rw[(Ba (hvc _)).1];have e:qv (c (up !=true)).1=(n:Rat)*eQ N:=by unfold qv;rw[n1,hN];rfl
  grind[LM,mg]
 |false=>
  have hn:¬((c (up !=false)).2=0/\false=true):=fun h1=>Bool.false_ne_true h1.2;rw[if_neg hn]at h;obtain⟨n,n1,n2,n3⟩:=hcut _ h;have e:qv (c (up !=false)).1=(n:Rat)*eQ N:=by unfold qv;rw[n1,hN];rfl
  grind[LM,mg]
theorem B8{d:Rd}(h:vd d=true):(0<bS d↔0<qv d)/\(bS d<0↔qv d<0):=by
 have hE:=A8;unfold bS;by_cases h0:d.m.length=0
 ·simp_all[qv,bP,if_pos]
 ·have hm:=A4 h h0;have hq:(0:Rat)< (mg d:Rat)*EQ:=Rat.mul_pos (by exact_mod_cast hm) hE;cases hn:d.neg with
  |true=>
   have:qv d=-((mg d:Rat)*EQ):=by unfold qv;rw[oH.1 hn,Rat.intCast_neg,Rat.intCast_natCast];grind
   grind
  |false=>
   have:qv d=(mg d:Rat)*EQ:=by unfold qv;rw[oH.2 hn];rfl
   grind
theorem S4{x y:Ri}{a b:Rat}{p:Int}(hx:In a x)(hy:In b y):In (a/b) (Ko x y p):=by
 unfold Ko;split
 ·next h=>
  simp only[Bool.and_eq_true]at h;obtain⟨⟨kx,ky⟩,hp⟩:=h;rcases hx.k with⟨rfl,h⟩| ⟨_,x1,x2⟩
  ·grind
  rcases hy.k with⟨rfl,h⟩| ⟨_,y1,y2⟩
  ·grind
  split
  ·exact Or.inl rfl
  ·next hs=>
   have hpr:∀i,((en x y i).1=x.lo\/(en x y i).1=x.hi)/\((en x y i).2=y.lo\/(en x y i).2=y.hi):=fun i=>by
    unfold en;grind
   have hsg:0<qv y.lo\/qv y.hi<0:=by
    unfold DM at hs;by_cases g1:0<bS y.lo
    ·exact Or.inl ((B8 hy.vi.1.1).1.1 g1)
    ·by_cases g2:bS y.hi<0
     ·exact Or.inr ((B8 hy.vi.2.1).2.1 g2)
     omega
   have hv:∀i,(vd (en x y i).1=true/\Ok0 (en x y i).1)/\(vd (en x y i).2=true/\Ok0 (en x y i).2)/\qv (en x y i).2≠0:=fun i=>by
    obtain⟨h1,h2⟩:=hpr i;refine⟨?_,?_,?_⟩
    ·rcases h1 with h1|h1<;>rw[h1]
     ·exact hx.vi.1
     ·exact hx.vi.2
    ·rcases h2 with h1|h1<;>rw[h1]
     ·exact hy.vi.1
     ·exact hy.vi.2
    grind
   refine SX (dn:=fun a b=>mS a b p false) (up:=fun a b=>mS a b p true) (v:=fun i=>qv (en x y i).1*(qv (en x y i).2)⁻¹) (fun _ _=>EW) (fun _ _=>EW) (fun i _ h=>(XT (hv i).1 (hv i).2.1 (hv i).2.2 hp h).2 rfl) (fun i _ h=>(XT (hv i).1 (hv i).2.1 (hv i).2.2 hp h).1 rfl) fun lo hi h=>?_;have i1:(qv y.hi)⁻¹<=b⁻¹:=XS (by grind);have i2:b⁻¹<=(qv y.lo)⁻¹:=XS (by grind);exact SY x1 x2 i1 i2 (h 1 (by decide)) (h 0 (by decide)) (h 3 (by decide)) (h 2 (by decide))
 ·exact Or.inl rfl
theorem XU{z p:Int}{j:Nat}{up:Bool}(hp:8<=p/\p<=512)(hz:0<=z)(h:(eJ z (-16384- (j:Int)) p up).2=0):0<=zI (eJ z (-16384- (j:Int)) p up).1:=by
 unfold eJ at h⊢;by_cases h0:z=0
 ·rw[if_pos h0,bP rfl];omega
 ·rw[if_neg h0,decide_eq_false (by omega)]at h⊢;unfold gP at h⊢;rw[if_neg (fun h1=>Bool.false_ne_true h1.2)]at h⊢;obtain⟨n,g1,_⟩:=B3 (s:=0) (t:=j) (by omega) hp (by omega) (fun h=>absurd h Bool.false_ne_true) h;omega
theorem M1{d:Rd}:0<=qv d↔0<=zI d:=by
 rw[←B6,qn,bP rfl]
theorem aed{d:Rd}{p:Int}{up:Bool}(v:vd d=true)(hp:bK p=true)(h:(dU d p up).2=0):(0<=qv d->0<=qv (dU d p up).1)/\(up=true->qv d<=qv (dU d p up).1)/\(up=false->qv (dU d p up).1<=qv d):=by
 refine⟨fun hd=>?_,?_,?_⟩
 ·rw[M1]at hd⊢;have hp2:=Bb hp;have hf:aX p [d]=0:=by grind[aX]
  unfold dU at h⊢;rw[if_pos hf]at h⊢;exact XU (j:=0) hp2 hd h
 ·rintro rfl
  exact qn.2 (ab5 v hp h)
 ·rintro rfl
  exact qn.2 (ab4 v hp h)
theorem ack{a b:Rd}{p:Int}{up:Bool}(ha:vd a=true)(hb:vd b=true)(hp:bK p=true)(h1:0<=qv a)(h2:0<=qv b)(h:(bZ a b p up).2=0):0<=qv (bZ a b p up).1:=by
 rw[M1]at*
 unfold bZ at h⊢;rw[if_pos (Ip ha hb hp)]at h⊢;exact XU (j:=16384) (Bb hp) (Int.mul_nonneg h1 h2) h
theorem vX{d:Rd}{p:Int}{up:Bool}:vd (dU d p up).1=true/\Ok0 (dU d p up).1:=by
 grind[dU,tD,bj]
theorem qY{a b:Rd}{p:Int}{up:Bool}:vd (bZ a b p up).1=true/\Ok0 (bZ a b p up).1:=by
 grind[bZ,tD,bj]
theorem M2{d:Rd}{p:Int}{up:Bool}:∀ (k:Nat) (r:Rd×Int),(vd r.1=true/\Ok0 r.1)->vd (ft d p up k r).1=true/\Ok0 (ft d p up k r).1
 |0,_,h=>h
 |k+1,r,h=>by
  unfold ft;split
  ·exact M2 k _ qY
  ·exact h
theorem aaU{d:Rd}{p:Int}{up:Bool}(v:vd d=true)(hp:bK p=true)(h0:0<=qv d):∀ (k m:Nat) (r:Rd×Int),vd r.1=true->(r.2=0->0<=qv r.1/\(up=true->qv d^m<=qv r.1)/\(up=false->qv r.1<=qv d^m))->(ft d p up k r).2=0->
  (up=true->qv d^ (m+k)<=qv (ft d p up k r).1)/\(up=false->qv (ft d p up k r).1<=qv d^ (m+k))
 |0,m,r,_,h,he=>(h he).2
 |k+1,m,r,vr,h,he=>by
  unfold ft at he⊢;by_cases hr:r.2=0
  ·rw[if_pos hr]at he⊢;obtain⟨a,b,c⟩:=h hr;rw[show m+(k+1)=m+1+k by omega];refine aaU v hp h0 k (m+1) _ qY.1 (fun hm=>⟨ack vr v hp a h0 hm,fun hu=>?_,fun hu=>?_⟩) he
   ·have h1:=(Ir vr v hp hm).1 hu;have h2:=Rat.mul_le_mul_of_nonneg_right (b hu) h0;grind[Rat.pow_succ,Rat.le_trans]
   grind[Ir,Rat.mul_le_mul_of_nonneg_right,Rat.pow_succ,Rat.le_trans]
  grind
theorem aee{d:Rd}{p:Int}{up:Bool}{n:Nat}(v:vd d=true)(hp:bK p=true)(h0:0<=qv d)(hn:1<=n)(he:(pw d n p up).2=0):(up=true->qv d^n<=qv (pw d n p up).1)/\(up=false->qv (pw d n p up).1<=qv d^n):=by
 have:=aaU v hp h0 (n-1) 1 (dU d p up) vX.1 (fun h=>by
  grind[aed,qv]) he
 rw[show 1+(n-1)=n by omega]at this;exact this
theorem vz{x:Rat}:∀n:Nat,(-x)^ (2*n+1)=-(x^ (2*n+1))
 |0=>by grind
 |n+1=>by
  have:=vz (x:=x) n;grind
theorem DX{x:Rat}:∀n:Nat,(-x)^ (2*n)=x^ (2*n)
 |0=>by grind
 |n+1=>by
  have:=DX (x:=x) n;grind
theorem Iv{x:Rat}(h:0<=x):∀n:Nat,0<=x^n
 |0=>by grind
 |n+1=>by rw[Rat.pow_succ];exact Rat.mul_nonneg (Iv h n) h
theorem DY{x y:Rat}(h:0<=x)(h1:x<=y):∀n:Nat,x^n<=y^n
 |0=>by grind
 |n+1=>by
  rw[Rat.pow_succ,Rat.pow_succ];have a:=Rat.mul_le_mul_of_nonneg_right (DY h h1 n) h;have b:=Rat.mul_le_mul_of_nonneg_left h1 (Iv (Rat.le_trans h h1) n);exact Rat.le_trans a b
theorem Vi{x y:Rat}(h1:x<=y)(n:Nat):x^ (2*n+1)<=y^ (2*n+1):=by
 by_cases hx:0<=x
 ·grind[DY]
 ·by_cases hy:0<=y
  ·have a:=Iv (show 0≤-x by grind) (2*n+1);grind[Iv,vz]
  ·have:=DY (x:=-y) (y:=-x) (by grind) (by grind) (2*n+1);grind[vz]
theorem Z6{d:Rd}(v:vd d=true):sS d<0↔qv d<0:=by
 rw[← (B8 v).2];grind[sS,bS]
theorem Iw{d:Rd}{p:Int}{up:Bool}{n:Nat}(v:vd d=true)(hp:bK p=true)(hn:1<=n)(ho:n%2=1\/0<=qv d)(he:(gQ d n p up).2=0):(up=true->qv d^n<=qv (gQ d n p up).1)/\(up=false->qv (gQ d n p up).1<=qv d^n):=by
 unfold gQ at he⊢;by_cases hs:sS d<0
 ·rw[if_pos hs]at he⊢;have hq:=(Z6 v).1 hs;obtain⟨n1,n2⟩:=Ba v;have hodd:n=2*(n/2)+1:=by
   grind
  have hw:=aee n2 hp (by grind) hn he;grind[vd,pw,dG,M2,vX,qv,Ba,vz]
 ·rw[if_neg hs]at he⊢;exact aee v hp (Rat.not_lt.1 fun h=>hs ((Z6 v).2 h)) hn he
theorem XV{d:Rd}(v:vd d=true)(ok:Ok0 d):(vd (mR d)=true/\Ok0 (mR d))/\0<=qv (mR d)/\(qv (mR d)=qv d\/qv (mR d)=-qv d):=by
 unfold mR;by_cases h0:d.m.length=0
 ·rw[if_pos (Or.inr h0),B6]
  simp_all[qv,bP,bj,Rat.le_refl]
 ·rw[if_neg (by grind)];have hm:mg ⟨false,d.m,d.e⟩=mg d:=rfl;have h1:zI ⟨false,d.m,d.e⟩=mg d:=by rw[oH.2 rfl,hm]
  refine⟨⟨?_,ok.1,ok.2⟩,?_,?_⟩
  ·simp_all[vd,if_neg]
  ·grind[M1]
  ·unfold qv;rw[h1];cases hn:d.neg with
   |true=>
    rw[oH.1 hn,Rat.intCast_neg];grind
   |false=>
    left;rw[oH.2 hn]
theorem acl{x:Ri}{a b:Rat}(hx:In a x)(hb:0<=b)(hab:b=a\/b=-a):In b (jL x)/\(kI x=true->0<=qv (jL x).lo/\(jL x).all=false):=by
 unfold jL;by_cases h:kI x=true
 ·rw[if_pos h];rcases hx.k with⟨rfl,h1⟩| ⟨_,x1,x2⟩
  ·grind
  obtain⟨l1,l2,l3⟩:=XV hx.vi.1.1 hx.vi.1.2;obtain⟨h1,h2,h3⟩:=XV hx.vi.2.1 hx.vi.2.2;obtain⟨m1,m2,m3,m4,m5⟩:=Kq l1 h1;obtain⟨n1,n2,n3,n4,n5⟩:=Kp l1 h1;have hmag:b<=qv (Aj x):=by
   grind[Aj]
  have hmig:(vd (tF x)=true/\Ok0 (tF x))/\0<=qv (tF x)/\qv (tF x)<=b:=by
   unfold tF;split
   ·grind[B6,bj,Rat.le_refl]
   ·next hs=>
    have hsg:0<qv x.lo\/qv x.hi<0:=by
     unfold DM at hs;by_cases g1:0<bS x.lo
     ·exact Or.inl ((B8 hx.vi.1.1).1.1 g1)
     ·by_cases g2:bS x.hi<0
      ·exact Or.inr ((B8 hx.vi.2.1).2.1 g2)
      omega
    grind
  exact⟨Or.inr ⟨rfl,⟨hmig.1,⟨m3,m4⟩⟩,hmig.2.2,hmag⟩,fun _=>⟨hmig.2.1,rfl⟩⟩
 ·rw[if_neg h];exact⟨Or.inl rfl,fun hk=>absurd hk h⟩
theorem PD:qv one=1:=by
 obtain⟨N,hN⟩:∃N:Nat,N=16384:=⟨_,rfl⟩;have hm:mg one=2^N:=by
  unfold mg;rw[show(one.e+16384).toNat=N by rw[hN];rfl];exact Nat.one_mul _
 unfold qv EQ;rw[oH.2 rfl,hm,←hN,show(((2^N:Nat):Int):Rat)=pQ N by grind[pQ,Int.natCast_pow]];grind[DU]
theorem Ix{d:Rd}{p:Int}{up:Bool}{n:Nat}:vd (gQ d n p up).1=true/\Ok0 (gQ d n p up).1:=by
 grind[gQ,vd,pw,M2,vX,Ba,sj]
theorem Bc{x:Ri}{a:Rat}{n:Nat}{p:Int}(hx:In a x):In (a^n) (uQ x n p):=by
 unfold uQ;split
 ·next h=>
  simp only[Bool.and_eq_true]at h;obtain⟨⟨kx,hp⟩,_⟩:=h;split
  ·next h0=>
   subst h0;rw[Rat.pow_zero,←PD];exact rx kP.1 kP.2
  ·next h0=>
   by_cases he:n%2=0
   ·rw[if_pos he];obtain⟨b,hb,hab⟩:∃b:Rat,0<=b/\(b=a\/b=-a):=by
     grind
    obtain⟨h1,h2⟩:=acl hx hb hab;obtain⟨g1,g2⟩:=h2 kx;have hpw:a^n=b^n:=by
     rcases hab with rfl|rfl
     ·rfl
     ·rw[show n=2*(n/2)by omega,DX]
    rw[hpw];rcases h1 with hW| ⟨_,hv,y1,y2⟩
    ·rw[hW]at g2;exact absurd g2 (by decide)
    refine M0 Ix Ix (fun h=>?_) (fun h=>?_)
    ·exact Rat.le_trans ((Iw hv.1.1 hp (by omega) (Or.inr g1) h).2 rfl) (DY g1 y1 n)
    ·exact Rat.le_trans (DY (Rat.le_trans g1 y1) y2 n) ((Iw hv.2.1 hp (by omega) (Or.inr (Rat.le_trans g1 (Rat.le_trans y1 y2))) h).1 rfl)
   ·rw[if_neg he];rcases hx.k with⟨rfl,h1⟩| ⟨_,x1,x2⟩
    ·grind
    have ho:n=2*(n/2)+1:=by omega
    have le:∀ {x y:Rat},x<=y->x^n<=y^n:=fun h=>by
     grind[Vi]
    refine M0 Ix Ix (fun h=>?_) (fun h=>?_)
    ·exact Rat.le_trans ((Iw hx.vi.1.1 hp (by omega) (Or.inl (by omega)) h).2 rfl) (le x1)
    ·exact Rat.le_trans (le x2) ((Iw hx.vi.2.1 hp (by omega) (Or.inl (by omega)) h).1 rfl)
 ·exact Or.inl rfl
theorem S5{x:Rat}{m:Nat}:∀n:Nat,x^m*x^n=x^ (m+n)
 |0=>by grind
 |n+1=>by rw[Rat.pow_succ,←Rat.mul_assoc,S5 n,←Nat.add_assoc,Rat.pow_succ]
theorem acm{x:Ri}{a:Rat}{n:Nat}{p:Int}(hx:In a x):In (a^n) (tG x n p):=by
 unfold tG;split
 ·exact Bc hx
 ·have:=so (p:=p) (Bc (n:=16) (p:=p) hx) (Bc (n:=n-16) (p:=p) hx);grind[S5]
def XW:List Rat->List Ri->Prop
 |x::xs,d::ds=>In x d/\XW xs ds
 |[],[]=>True
 |_,_=>False
def zF(es:List Int):List Nat:=es.map Int.toNat
def fv(xs:List Rat):List Rt->Rat
 |[]=>0
 |t::l=>qv t.c*F4 xs (zF t.exps)+fv xs l
theorem XX{p:Int}:∀ (xs:List Rat) (ds:List Ri) (es:List Int) (x:Ri) (q:Rat),XW xs ds->ds.length=es.length->In q x->In (q*F4 xs (zF es)) (yz p ds es x)
 |[],[],[],x,q,_,_,h=>by
  show In (q*1) x;grind
 |y::xs,d::ds,e::es,x,q,hl,hd,h=>by
  show In (q*(y^e.toNat*F4 xs (zF es))) (yz p ds es (if 0<e then jM x (tG d e.toNat p) p else x));rw[←Rat.mul_assoc];refine XX xs ds es _ _ hl.2 (by grind) ?_;split
  ·exact so h (acm hl.1)
  ·rw[show e.toNat=0 by omega,Rat.pow_zero,Rat.mul_one];omega
 |[],_::_,_,_,_,hl,_,_=>hl.elim
 |_::_,[],_,_,_,hl,_,_=>hl.elim
 |_::_,_::_,[],_,_,_,hd,_=>by grind
 |[],[],_::_,_,_,_,hd,_=>by grind
theorem XY{p:Int}{xs:List Rat}{dom:List Ri}(hl:XW xs dom):∀ (l:List Rt) (s:Ri) (q:Rat),(∀t∈l,vd t.c=true/\Ok0 t.c/\dom.length=t.exps.length)->In q s->In (q+fv xs l) (DP p dom l s)
 |[],s,q,_,h=>by
  show In (q+0) s;grind
 |t::l,s,q,ht,h=>by
  obtain⟨a,b,c⟩:=ht t (by simp);show In (q+(qv t.c*F4 xs (zF t.exps)+fv xs l)) _;rw[←Rat.add_assoc];exact XY hl l _ _ (fun u hu=>ht u (by simp[hu])) (xt h (XX xs dom _ _ _ hl c (rx a b)))
theorem LN{a:Rp}{dom:List Ri}{xs:List Rat}{p:Int}(oa:OkP a)(hl:XW xs dom):In (fv xs a.terms) (gZ a dom p):=by
 unfold gZ;split
 ·next h=>
  unfold jh at h;simp only[Bool.and_eq_true,decide_eq_true_eq]at h;obtain⟨⟨hv,hd,_⟩,_⟩:=h;unfold vp at hv;simp only[Bool.and_eq_true,decide_eq_true_eq]at hv;have:=XY (p:=p) hl a.terms ⟨aK,aK,false⟩ 0 (fun t ht=>by
   have h1:=tI (EN _ _ hv.2.2.2 t ht);exact⟨h1.2.1,(oa.t t ht).c,by omega⟩) (by rw[←B6];exact rx bj.1 bj.2)
  grind
 ·exact Or.inl rfl
def Bnd(a b:Rat)(q:Rat->Rat->Rat):Prop:=∃C,0<=C/\∀x y,a<=x->x<=b->a<=y->y<=b→-C<=q x y/\q x y<=C
theorem Bnd.add{a b:Rat}{p q:Rat->Rat->Rat}(hp:Bnd a b p)(hq:Bnd a b q):Bnd a b fun x y=>p x y+q x y:=by
 obtain⟨C,c0,hc⟩:=hp;obtain⟨D,d0,hd⟩:=hq;refine⟨C+D,by grind,fun x y h1 h2 h3 h4=>?_⟩;have:=hc x y h1 h2 h3 h4;have:=hd x y h1 h2 h3 h4;grind
theorem Bnd.mul{a b:Rat}{p q:Rat->Rat->Rat}(hp:Bnd a b p)(hq:Bnd a b q):Bnd a b fun x y=>p x y*q x y:=by
 obtain⟨C,c0,hc⟩:=hp;obtain⟨D,d0,hd⟩:=hq;refine⟨C*D,Rat.mul_nonneg c0 d0,fun x y h1 h2 h3 h4=>?_⟩;obtain⟨u1,u2⟩:=hc x y h1 h2 h3 h4;obtain⟨v1,v2⟩:=hd x y h1 h2 h3 h4;show-(C*D)<=p x y*q x y/\p x y*q x y<=C*D;clear hc hd;generalize p x y=u at*
 generalize q x y=v at*
 have k1:=Rat.mul_nonneg (show 0<=C-u by grind) (show 0<=D-v by grind);have k2:=Rat.mul_nonneg (show 0<=C+u by grind) (show 0<=D+v by grind);have k3:=Rat.mul_nonneg (show 0<=C-u by grind) (show 0<=D+v by grind);have k4:=Rat.mul_nonneg (show 0<=C+u by grind) (show 0<=D-v by grind);constructor<;>grind
theorem Bnd.c{a b:Rat}(k:Rat):Bnd a b fun _ _=>k:=by
 rcases Rat.le_total (a:=0) (b:=k)with h|h
 ·exact⟨k,h,fun _ _ _ _ _ _=>by grind⟩
 ·exact⟨-k,by grind,fun _ _ _ _ _ _=>by grind⟩
theorem Bnd.xy{a b:Rat}(hab:a<=b):Bnd a b (fun x _=>x)/\Bnd a b fun _ y=>y:=by
 have:∃C,0<=C∧-C<=a/\b<=C:=by
  rcases Rat.le_total (a:=0) (b:=a)with h|h<;>rcases Rat.le_total (a:=0) (b:=b)with h2|h2
  ·exact⟨b,by grind⟩
  ·exact⟨0,by grind⟩
  ·exact⟨b-a,by grind⟩
  ·exact⟨-a,by grind⟩
 obtain⟨C,c0,c1,c2⟩:=this;exact⟨⟨C,c0,fun x y _ _ _ _=>by grind⟩,C,c0,fun x y _ _ _ _=>by grind⟩
def Smo(a b:Rat)(f g:Rat->Rat):Prop:=∃q,Bnd a b q/\∀x y,f y-f x-g x*(y-x)=(y-x)*(y-x)*q x y
theorem Bnd.pow{a b:Rat}(hab:a<=b):∀n:Nat,Bnd a b fun x _=>x^n
 |0=>by simpa [Rat.pow_zero]using Bnd.c (a:=a) (b:=b) 1
 |n+1=>by
  have:=(Bnd.pow hab n).mul (Bnd.xy hab).1;simpa [Rat.pow_succ]using this
theorem Smo.pow{a b:Rat}(hab:a<=b):∀n:Nat,Smo a b (fun x=>x^n) fun x=>(n:Rat)*x^ (n-1)
 |0=>⟨fun _ _=>0,Bnd.c 0,fun x y=>by simp[Rat.pow_zero];grind⟩
 |n+1=>by
  obtain⟨q,hq,h⟩:=Smo.pow hab n;refine⟨fun x y=>y*q x y+(n:Rat)*x^ (n-1),((Bnd.xy hab).2.mul hq).add ((Bnd.c _).mul (Bnd.pow hab _)),fun x y=>?_⟩;have h1:y^n-x^n- (n:Rat)*x^ (n-1)*(y-x)=(y-x)*(y-x)*q x y:=h x y;have h2:(n:Rat)*x^ (n-1)*x=(n:Rat)*x^n:=by
   cases n with
   |zero=>simp
   |succ n=>rw[Nat.add_sub_cancel,Rat.pow_succ,Rat.mul_assoc]
  simp only[Nat.add_sub_cancel,Rat.pow_succ];have h3:((n+1:Nat):Rat)=(n:Rat)+1:=by push_cast;rfl
  rw[h3];generalize x^n=X at*
  generalize y^n=Y at*
  generalize(n:Rat)*x^ (n-1)=g at*
  have h4:Y=X+g*(y-x)+(y-x)*(y-x)*q x y:=by grind
  rw[h4];grind
theorem Smo.lin{a b c d:Rat}{f g f' g':Rat->Rat}(h1:Smo a b f g)(h2:Smo a b f' g')(hd:d=c):Smo a b (fun x=>c*f x+f' x) fun x=>d*g x+g' x:=by
 subst hd;obtain⟨q,hq,e⟩:=h1;obtain⟨q',hq',e'⟩:=h2;refine⟨fun x y=>d*q x y+q' x y,((Bnd.c _).mul hq).add hq',fun x y=>?_⟩;have:=e x y;have:=e' x y;grind
theorem aur{D K:Rat}(h:∀N:Nat,0<N→-K<=D*N):0<=D:=by
 refine Rat.not_lt.1 fun hD=>?_;have hi:=E2 (show 0< -D by grind);have hm:-D*(-D)⁻¹=1:=Rat.mul_inv_cancel _ (by grind);obtain⟨N,hN⟩:∃N:Nat,K*(-D)⁻¹ <N:=by
  generalize K*(-D)⁻¹=r;refine⟨(r.floor+1).toNat,?_⟩;have h1:=Rat.lt_floor_add_one r;have h2:((r.floor+1:Int):Rat)<=(((r.floor+1).toNat:Int):Rat):=by exact_mod_cast Int.self_le_toNat _
  have h3:(((r.floor+1).toNat:Int):Rat)=((r.floor+1).toNat:Rat):=rfl;grind
 have hk:=h (N+1) (by omega);have e1:((N+1:Nat):Rat)=(N:Rat)+1:=by push_cast;rfl
 rw[e1]at hk;generalize(N:Rat)=n at*
 have:=Rat.mul_nonneg (show 0<=n-K*(-D)⁻¹ by grind) (show 0≤-D by grind);generalize(-D)⁻¹=w at*
 have e2:(n-K*w)*-D=-(n*D)-K:=by
  have:K*(w*-D)=K:=by rw[show w*-D=1 by grind,Rat.mul_one]
  grind
 clear h hN;grind
theorem mvt{a b L H:Rat}{f g:Rat->Rat}(hs:Smo a b f g)(hab:a<=b)(hg:∀x,a<=x->x<=b->L<=g x/\g x<=H):L*(b-a)<=f b-f a/\f b-f a<=H*(b-a):=by
 obtain⟨q,⟨C,c0,hC⟩,e⟩:=hs;have key:∀N:Nat,0<N→-(C*(b-a)*(b-a))<=(f b-f a-L*(b-a))*N∧-(C*(b-a)*(b-a))<=(H*(b-a)- (f b-f a))*N:=by
  intro N hN;have hN':(0:Rat)<N:=by exact_mod_cast hN
  have hi:=E2 hN';have hm:(N:Rat)*(N:Rat)⁻¹=1:=Rat.mul_inv_cancel _ (by grind);generalize hw:(N:Rat)⁻¹=w at hi hm;have step:∀i:Nat,i<=N->(i:Rat)*(L*((b-a)*w)-C*((b-a)*w)*((b-a)*w))<=f (a+i*((b-a)*w))-f a/\f (a+i*((b-a)*w))-f a<=(i:Rat)*(H*((b-a)*w)+C*((b-a)*w)*((b-a)*w)):=by
   have hw0:0<=(b-a)*w:=Rat.mul_nonneg (by grind) (Rat.le_of_lt hi);have hb:a+N*((b-a)*w)=b:=by grind
   generalize(b-a)*w=h at*
   intro i;induction i with
   |zero=>intro _;simp;grind
   |succ i ih=>
    intro hle;obtain⟨i1,i2⟩:=ih (by omega);have e1:((i+1:Nat):Rat)=(i:Rat)+1:=by push_cast;rfl
    have l0:(0:Rat)<=i:=by exact_mod_cast Nat.zero_le i
    have l1:(i:Rat)+1<=N:=by exact_mod_cast hle
    have p1:=Rat.mul_nonneg l0 hw0;have p2:=Rat.mul_nonneg (show 0<=(N:Rat)- (i+1)by grind) hw0;rw[e1];have ex:=e (a+i*h) (a+(i+1)*h);obtain⟨g1,g2⟩:=hg (a+i*h) (by grind) (by grind);obtain⟨c1,c2⟩:=hC (a+i*h) (a+(i+1)*h) (by grind) (by grind) (by grind) (by grind);have d:a+((i:Rat)+1)*h- (a+i*h)=h:=by grind
    rw[d]at ex;generalize f (a+(i+1)*h)=F at*
    generalize f (a+i*h)=G at*
    generalize g (a+i*h)=S at*
    generalize q (a+i*h) (a+(i+1)*h)=Q at*
    have k1:=Rat.mul_nonneg (show 0<=S-L by grind) hw0;have k2:=Rat.mul_nonneg (show 0<=H-S by grind) hw0;have k3:=Rat.mul_nonneg (Rat.mul_nonneg hw0 hw0) (show 0<=Q+C by grind);have k4:=Rat.mul_nonneg (Rat.mul_nonneg hw0 hw0) (show 0<=C-Q by grind);clear e hg hC ih;constructor<;>grind
  obtain⟨s1,s2⟩:=step N (Nat.le_refl _);have hb:a+N*((b-a)*w)=b:=by grind
  rw[hb]at s1 s2;generalize f b-f a=T at*
  generalize b-a=d at*
  generalize(N:Rat)=n at*
  have e3:∀A B:Rat,n*(A*(d*w)+B*(d*w)*(d*w))*n=A*d*n+B*d*d:=fun A B=>
   calc _=A*d*n*(n*w)+B*d*d*((n*w)*(n*w)):=by grind
    _=_:=by rw[hm];grind
  have t1:=Rat.mul_nonneg (show 0<=T-n*(L*(d*w)+-C*(d*w)*(d*w))by grind) (Rat.le_of_lt hN');have t2:=Rat.mul_nonneg (show 0<=n*(H*(d*w)+C*(d*w)*(d*w))-T by grind) (Rat.le_of_lt hN');have e4:=e3 L (-C);have e5:=e3 H C;clear e3 step e hg hC s1 s2 hb hm hi hw;generalize n*(L*(d*w)+-C*(d*w)*(d*w))=u at*
  generalize n*(H*(d*w)+C*(d*w)*(d*w))=v at*
  constructor<;>grind
 constructor
 ·have:=aur fun N hN=>(key N hN).1;grind
 ·have:=aur fun N hN=>(key N hN).2;grind
theorem arj{d n i:Nat}(h:i<=n):lB d n (some (I i))=some i:=by
 simp_all[lB,if_pos]
theorem aus{h:ac}{j k n:Nat}{rows:List (List AV)}(hj:aQ j=false)(hh:h j=.ar k rows)(hn:n=rows.length)(hc:aO [1000] (h 1000)=true):zO [[]] 1 h [.rsl j none k 0 n]=some (.osl k rows,[h 1000]):=by
 simp_all[cu,zO,if_pos,u9,oN,jZ,zN,yP,bv,nrmV,nrmL,kl,cj,iq]
theorem aut{rows:List (List AV)}{n i:Nat}(hn:n=rows.length)(hi:i<n)(h2:n<=1000000):R F.slices_Delete_api_Term_api_Term_ [.rsl 1000 none 4 0 n,I i,I ((i+1:Nat):Int)] [.ar 4 rows]=some (.osl 4 (rows.take i++rows.drop (i+1)),[.dead]):=by
 refine Vf aqE aqD (apT false) rfl ?_;subst hn;have b1:lB rows.length rows.length (some (I rows.length))=some rows.length:=arj (Nat.le_refl _);have b2:∀d,lB d rows.length (some (I ((i+1:Nat):Int)))=some (i+1):=fun d=>arj (by omega);have b3:∀d,lB d (i+1) (some (I i))=some i:=fun d=>arj (by omega);have b4:∀d,lB d rows.length (some (I i))=some i:=fun d=>arj (by omega);have e1:((i:Int)=((i+1:Nat):Int))=False:=ff (by omega);have s1:gh 4 (.rsl 1000 none 4 0 rows.length) (some (I i)) (some (I ((i+1:Nat):Int))) (some (I rows.length))=some .any:=by
  simp_all[gh,if_true,nO,b2,Option.bind_some,Option.map_some,Option.isNone_some,if_neg,Bool.false_ne_true]
 have s2:gh 4 (.rsl 1000 none 4 0 rows.length) none (some (I i)) none=some (.rsl 1000 none 4 0 i):=by
  simp_all[gh,if_true,nO,Zc,Option.bind_some,Option.map_some,Option.isNone_none,Nat.sub_zero,Nat.add_zero]
 have s3:gh 4 (.rsl 1000 none 4 0 rows.length) (some (I ((i+1:Nat):Int))) none none=some (.rsl 1000 none 4 (i+1) (rows.length- (i+1))):=by
  simp only[gh,if_true,nO,b2,Zc,Option.bind_some,Option.map_some,Option.isNone_none,Nat.zero_add]
 have t1:(rows.drop (i+1)).take (rows.length- (i+1))=rows.drop (i+1):=List.take_of_length_le (by grind);have t2:(i+1+(rows.length- (i+1))<=rows.length)=True:=eq_true (by omega);obtain⟨m,hm⟩:∃m,i+(rows.length- (i+1))=m:=⟨_,rfl⟩;obtain⟨D,hD⟩:∃D,rows.take i++rows.drop (i+1)=D:=⟨_,rfl⟩;have d1:D.length=m:=by
  grind
 obtain⟨A,hA⟩:∃A,D++rows.drop m=A:=⟨_,rfl⟩;have a1:A.length=rows.length:=by
  grind
 have a2:A.take m=D:=by grind
 have e5:∀h,Yz h 26 4 64 1000 4 0 i (rows.drop (i+1)) 4 rows=some (.rsl 1000 none 4 0 m,upd h 1000 (.ar 4 A),[]):=fun h=>by
  unfold Yz;grind
 have e7:(i=rows.length)=False:=eq_false (by omega);have b5:nO rows.length (some (I m)) (some (I rows.length)) none=some (m,rows.length):=by
  simp only[nO,b1,Option.bind_some];rw[arj (by omega)];rfl
 have c1:(m+(rows.length-m)<=rows.length)=True:=eq_true (by omega);have c2:∀z,(D++List.replicate (rows.length-m) z++A.drop (m+(rows.length-m))).take m=D:=fun z=>by
  rw[List.append_assoc,List.take_append_of_le_length (by omega),List.take_of_length_le (by omega)]
 rw[hD];simp only[anN,apZ,go_sem,apC,apD,s1,s2,s3,e1,t1,t2,e5,e7,false_and,and_false,a1,a2,b5,c1,c2,Nat.sub_zero,Nat.zero_add,Nat.zero_le,apJ,decide_false];exact aus (by rfl) (by rfl) d1.symm (by rfl)
theorem atr{l:List Rt}{h:ac}{d a n i:Nat}(ha:h a=.ar 4 (cU l))(_hda:2000+8*d≠a)(hd:h (2000+8*d)=.dead)(hn:n=l.length)(hi:i<n)(h2:n<=1000000):
  bI R (aH false) h d [.rsl a none 4 0 n,.v (.int .i64 i),.v (.int .i64 ((i+1:Nat):Int))] (.fn F.slices_Delete_api_Term_api_Term_ [] [])=
   some (.rsl (2000+8*d) none 4 0 (l.length-1),upd (upd h a .dead) (2000+8*d) (.ar 4 (cU (l.take i++l.drop (i+1)))),[(a,true),(a,false)]):=by
 have hm:=aqF false;have hs:=aqz false;have hk:=apT false;have hf:=aut (rows:=cU l) (n:=n) (i:=i) (by rw[SA,hn]) hi h2;have e1:(cU l).take i++(cU l).drop (i+1)=cU (l.take i++l.drop (i+1)):=by simp[cU,List.map_take,List.map_drop]
 rw[e1]at hf;have hb':sy (aH false) [.rsl a none 4 0 n,.v (.int .i64 i),.v (.int .i64 ((i+1:Nat):Int))] (.fn F.slices_Delete_api_Term_api_Term_ [] [])=false:=by
  grind[sy]
 have h1:cr h [2,0,0] [.rsl a none 4 0 n,.v (.int .i64 i),.v (.int .i64 ((i+1:Nat):Int))]=some ([.rsl a none 4 0 n,.v (.int .i64 i),.v (.int .i64 ((i+1:Nat):Int))],h,[]):=by
  simp[cr,de,vA,gL,aB,ha,aiL]
 have hr:cq h 40 [a] 0=[a]:=by
  grind[cq,mh,bV]
 have hp:bV [] ([AV.rsl a none 4 0 n,.v (.int .i64 i),.v (.int .i64 ((i+1:Nat):Int))].flatMap cj)=[a]:=by
  simp[cj,iq,bV]
 have h3:bq [a] a=1000:=by simp[bq]
 have hnr:cP (.osl 4 (cU (l.take i++l.drop (i+1))))=1:=rfl;have hlen:(cU (l.take i++l.drop (i+1))).length=l.length-1:=by
  grind[SA,List.length_append,List.length_take,List.length_drop]
 unfold bI;simp only[eP,hm,List.nil_append,List.append_nil,h1,Option.bind_some,hp,hr,hs];simp only[Int.natCast_add,Int.natCast_one]at hf;simp[mj,bv,aZ,bm,ha,aO,cY,ey,lD,h3,dp,hf,gz,hnr,dK,hd,fw,bf,yO,Nl,uX,iq,apL,gj,Hh,eM,mat,dq,aqL,hk,Nk,hm,hlen]
 simp_all[cX,if_neg,Jr]
theorem at5(h:ac)(i:Nat)(xs:List AV)(a b:AV)(r:List (List AV)):Bk h 3 1000 1 4 i 1 xs [] (.bx [a,.osl 4 r,b])=(nQ 3 4 i 1 xs 4 r).map fun q=>(.und,upd h 1000 (.bx [a,.osl 4 q,b]),[]):=rfl
theorem ark(a b:AV)(k:Nat)(r:List (List AV)):jl 1 (.bx [a,.osl k r,b])=some (k,r):=rfl
theorem arC(h:ac)(n:Nat)(g:Bool)(i j:Nat)(r:List (List AV)):lh h n g 4 i j (some (4,r))=(r[i]?).bind fun row=>(jR n g row j).map fun a=>(a,h,[]):=rfl
theorem ats{v v':Int}{l:List Rt}{t q:Rt}(c:Cl v l)(vt:VT v t)(hl:l.length<=1000000)(hq:l[adz l t.exps]?=some q)(ho:dH q.exps t.exps=0):
  R F.poly_collector_add [.ref 1000 none 0 0 0,.sl 1 (bw t.exps),ag t.c] [t3 v' (.osl 4 (cU l)) 0]=some (.tup [],[if(nX q.c t.c).2=0 then(if(nX q.c t.c).1.m.length=0 then t3 v' (.osl 4 (cU (l.take (adz l t.exps)++l.drop (adz l t.exps+1)))) 0 else t3 v' (.osl 4 (cU (l.set (adz l t.exps) ⟨q.exps,(nX q.c t.c).1⟩))) 0)else t3 v' (.osl 4 (cU l)) 9]):=by
 refine Vf aaL.2.1 aaL.2.2 (aaL.1.2.2.2 false) rfl ?_;have hbs:=asS c vt.sm vt.len hl;have hf:arh l t.exps=true:=by
  grind[arh,decide_eq_true]
 rw[hf]at hbs;have vq:=c.t q (List.mem_of_getElem? hq);have hadd:=asx vq.c vt.c;have hlt:=(List.getElem?_eq_some_iff.1 hq).1;have hrow:(cU l)[adz l t.exps]?=some (eU q):=by grind[cU]
 have hi0:(0<=(adz l t.exps:Int)/\(adz l t.exps:Int)< (l.length:Int))=True:=eq_true ⟨by omega,by omega⟩;have hw:IntKind.i64.wrap ((adz l t.exps:Int)+1)=((adz l t.exps+1:Nat):Int):=wi (by omega) (by omega);generalize nX q.c t.c=r at hadd⊢;obtain⟨s,e⟩:=r;simp only[rV,ag,ak]at hadd;simp only[eU]at hrow;simp only[aiG,apM,t3,ag,ak,go_sem,apB,apA];rw[asC rfl rfl (SA l).symm ⟨_,rfl⟩];by_cases he:e=0
 ·subst he;by_cases hs:s.m.length=0
  ·have e1:((s.m.length:Int)=0)=True:=tt (by omega);have hlen:(l.take (adz l t.exps)++l.drop (adz l t.exps+1)).length=l.length-1:=by
    grind
   simp only[go_sem,apB,apA,apC,apD,apE,hbs,arm,hi0,hrow,hadd,hs,Int.toNat_natCast,Int.natCast_zero,Nat.zero_add,ark,arC,hw];rw[atr rfl (by decide) rfl rfl hlt hl];generalize l.take (adz l t.exps)++l.drop (adz l t.exps+1)=L at hlen⊢;simp only[go_sem,apB,apA,apC,apE];rw[Vg rfl (by rw[SA,hlen]) rfl (by decide) (Nat.lt_of_lt_of_le (by decide) (Nat.le_refl 3))];simp only[go_sem];exact aq8 (.inl rfl) rfl
  ·have e1:((s.m.length:Int)=0)=False:=ff (by omega);have hset:(cU l).set (adz l t.exps) [.sl 1 (bw q.exps),B s.neg,lm s.m,I s.e]=cU (l.set (adz l t.exps) ⟨q.exps,s⟩):=by
    unfold cU;rw[List.map_set];rfl
   simp only[go_sem,apB,apA,apC,apD,apE,hbs,arm,hi0,hrow,hadd,hs,e1,Int.toNat_natCast,Nat.zero_add,ark,arC,hw,at5,hset];exact aq8 (.inl rfl) rfl
 ·have e1:(e=0)=False:=ff he;simp only[go_sem,apB,apA,apC,apD,apE,hbs,arm,hi0,hrow,hadd,e1,Int.toNat_natCast,Nat.zero_add,ark,arC,hw];exact aq8 (.inl rfl) rfl
theorem asD{v v':Int}{l:List Rt}{t:Rt}{cell:AV}(c:Cl v l)(vt:VT v t)(hl:l.length<=1000000)(hc:IsT cell l):
  ∃cell' l' e',R F.poly_collector_add [.ref 1000 none 0 0 0,.sl 1 (bw t.exps),ag t.c] [t3 v' cell 0]=some (.tup [],[t3 v' cell' e'])/\IsT cell' l'/\((e'=0/\B4 l t=some l')\/(e'=9/\B4 l t=none/\l'=l)):=by
 rcases hc with rfl| ⟨rfl,rfl⟩
 ·rw[asA];cases hq:l[adz l t.exps]? with
  |none=>
   exact⟨_,_,_,asd c vt hl (by grind[arh]),.inl rfl,.inl ⟨rfl,rfl⟩⟩
  |some q=>
   by_cases ho:dH q.exps t.exps=0
   ·have h1:=ats (v':=v') c vt hl hq ho;simp only[if_pos ho];by_cases he:(nX q.c t.c).2=0
    ·rw[if_pos he]at h1⊢;by_cases hs:(nX q.c t.c).1.m.length=0
     ·rw[if_pos hs]at h1⊢;exact⟨_,_,_,h1,.inl rfl,.inl ⟨rfl,rfl⟩⟩
     ·rw[if_neg hs]at h1⊢;exact⟨_,_,_,h1,.inl rfl,.inl ⟨rfl,rfl⟩⟩
    ·rw[if_neg he]at h1⊢;exact⟨_,_,_,h1,.inl rfl,.inr ⟨rfl,rfl,rfl⟩⟩
   ·simp only[if_neg ho];exact⟨_,_,_,asd c vt hl (by grind[arh,decide_eq_false]),.inl rfl,.inl ⟨rfl,rfl⟩⟩
 ·exact⟨_,_,_,atq vt,.inl rfl,.inl ⟨rfl,rfl⟩⟩
def lfn:List Rt->(List Int->Int)->Int
 |[],_=>0
 |t::l,f=>zI t.c*f t.exps+lfn l f
theorem asE:∀ (l r:List Rt) (f:List Int->Int),lfn (l++r) f=lfn l f+lfn r f
 |[],r,f=>by simp[lfn]
 |t::l,r,f=>by
  show zI t.c*f t.exps+lfn (l++r) f=zI t.c*f t.exps+lfn l f+lfn r f;rw[asE l r f,Int.add_assoc]
theorem ase{v:Int}{f:List Int->Int}:∀ {l l':List Rt} {t:Rt},Cl v l->VT v t->B4 l t=some l'->lfn l' f=lfn l f+zI t.c*f t.exps
 |[],l',t,c,vt,h=>by
  cases h;show zI t.c*f t.exps+0=0+_;omega
 |q::l,l',t,c,vt,h=>by
  obtain⟨c1,c2,c3⟩:=c.cons;unfold B4 at h;split at h
  ·rw[Option.map_eq_some_iff]at h;obtain⟨l2,h2,rfl⟩:=h;have ih:=ase c3 vt h2 (f:=f);show _+lfn l2 f=(_+lfn l f)+_;rw[ih,Int.add_assoc]
  ·split at h
   ·rename_i h1 h2;have he:=at1 (c1.l2 vt) h2;split at h
    ·rename_i h3;cases h;have hz:=ab0 h3;split
     ·rename_i h4;rw[bP h4]at hz;show lfn l f=(zI q.c*f q.exps+lfn l f)+_;grind
     grind[zI,nX,lfn,Int.add_mul,Int.add_right_comm]
    grind
   grind[zI,lfn,Int.add_comm]
theorem asf{v:Int}{f:List Int->Int}:∀ {ts l l':List Rt},Cl v l->(∀t∈ts,VT v t)->B5 l ts=some l'->lfn l' f=lfn l f+lfn ts f
 |[],l,l',c,_,h=>by
  cases h;exact(Int.add_zero _).symm
 |t::ts,l,l',c,vt,h=>by
  unfold B5 at h;rw[Option.bind_eq_some_iff]at h;obtain⟨l2,h2,h3⟩:=h;rw[asf (SR c (vt t (by simp)) h2).1 (fun x hx=>vt x (by grind)) h3,ase c (vt t (by simp)) h2];show _=_+(_+_);omega
theorem VT.zn{v:Int}{t:Rt}(h:VT v t):zI t.c≠0:=by
 rcases BR t.c h.vc with⟨_,_,h2⟩| ⟨_,h1,h2,_⟩| ⟨_,h1,h2,_⟩
 ·exact absurd h2 h.nz
 all_goals omega
theorem LO{a b:List Int}(h:dH a b<0):b≠a:=by
 grind[XE]
def p0:Rp:=⟨0,[]⟩
def pV(r:Rp×Int):AV:=.tup [bH r.1,I r.2]
def aef(v:Int):Option (List Rt)->Rp×Int
 |none=>(p0,9)
 |some l=>if 500<l.length then(p0,5)else(⟨v,l⟩,0)
def arn(a b:Rp):Bool:=vp a&& (vp b&&decide (a.vars=b.vars))
def aqW(a b:Rp):Rp×Int:=if arn a b=true then aef a.vars (B5 [] (a.terms++b.terms))else(p0,1)
def aq5(a b:List Int):List Int:=List.zipWith (·+·) a b
def asT(s t:Rt):Option Rt:=if(jO s.c t.c).2=0 then some ⟨aq5 s.exps t.exps,(jO s.c t.c).1⟩else none
theorem ata:∃K:Int,K≠0/\∀a b:Rd,(jO a b).2=0->zI (jO a b).1*K=zI a*zI b:=by
 refine⟨2^16384,?_,fun a b h=>?_⟩
 ·grind[Int.pow_ne_zero]
 ·unfold jO at h⊢;split at h
  ·rename_i hc;rw[if_pos hc];exact ET (j:=16384) h
  omega
noncomputable def KK:Int:=Classical.choose ata
theorem at6{a b:Rd}(h:(jO a b).2=0):zI (jO a b).1*KK=zI a*zI b:=(Classical.choose_spec ata).2 a b h
theorem asg:∀ {a b:List Int},a.length=b.length->bY (aq5 a b)=bY a+bY b
 |[],[],_=>rfl
 |x::a,y::b,h=>by
  show x+y+bY (aq5 a b)=x+bY a+(y+bY b);rw[asg (by simpa using h)];omega
 |[],_::_,h=>by grind
 |_::_,[],h=>by grind
theorem arD:∀ {l:List Int},(∀x∈l,0<=x)->0<=bY l/\∀x∈l,x<=bY l
 |[],_=>⟨Int.le_refl _,fun _ h=>by grind⟩
 |y::l,h=>by
  obtain⟨h1,h2⟩:=arD fun x hx=>h x (List.mem_cons_of_mem _ hx);have h3:=h y (by simp);grind[bY]
theorem ash:∀ {a b:List Int},(∀x∈a,0<=x)->(∀x∈b,0<=x)->∀x∈aq5 a b,0<=x
 |[],b,_,_,x,hx=>by simp_all[aq5]
 |_::_,[],_,_,x,hx=>by simp_all[aq5]
 |y::a,z::b,h1,h2,x,hx=>by
  have hx':x∈ (y+z)::aq5 a b:=hx;rcases List.mem_cons.1 hx' with rfl|hx'
  ·have:=h1 y (by simp);have:=h2 z (by simp);omega
  ·exact ash (fun x hx=>h1 x (by grind)) (fun x hx=>h2 x (by grind)) x hx'
theorem att{a b:List Int}(h:a.length=b.length):(aq5 a b).length=a.length:=by
 grind[aq5,List.length_zipWith]
theorem atu{v:Int}{s t x:Rt}(vs:VT v s)(vt:VT v t)(hd:bY s.exps+bY t.exps<=32)(h:asT s t=some x):VT v x:=by
 unfold asT at h;split at h
 ·rename_i h0;cases h;have hl:=vs.l2 vt;have hp:=ash (fun x hx=>(vs.b x hx).1) (fun x hx=>(vt.b x hx).1);have hs:=asg hl;obtain⟨q1,q2⟩:vd (jO s.c t.c).1=true/\Ok0 (jO s.c t.c).1:=by
   grind[jO,ER,bj]
  refine⟨q2,by rw[att hl];exact vs.len,vs.v8,q1,fun h=>?_,fun e he=>⟨hp e he,?_⟩,by grind⟩
  ·have h1:=at6 h0;rw[bP h,Int.zero_mul]at h1;rcases Int.mul_eq_zero.1 h1.symm with h2|h2
   ·exact vs.zn h2
   ·exact vt.zn h2
  ·have:=(arD hp).2 e he;omega
 grind
theorem arM{a b:Rp}:arn a b=true↔vp a=true/\vp b=true/\a.vars=b.vars:=by
 grind[arn]
theorem at7{v:Int}{o:Option (List Rt)}(h:(aef v o).2=0):∃l,o=some l/\l.length<=500/\(aef v o).1=⟨v,l⟩:=by
 unfold aef at h⊢;grind
structure Pv (v:Int) (a:Rp):Prop where
 v:a.vars=v
 p:vp a=true
 o:OkP a
theorem Pv.cl{v:Int}{a:Rp}(h:Pv v a):Cl v a.terms:=by
 have:=(Ve h.o h.p).1;rw[h.v]at this;omega
theorem asF{a b:Rp}(oa:OkP a)(ob:OkP b)(h:(aqW a b).2=0):Pv a.vars a/\Pv a.vars b/\Pv a.vars (aqW a b).1/\∀f,lfn (aqW a b).1.terms f=lfn a.terms f+lfn b.terms f:=by
 unfold aqW at h⊢;split at h
 ·rename_i hp;rw[if_pos hp];obtain⟨va,vb,hv⟩:=arM.1 hp;obtain⟨l,hl,h5,he⟩:=at7 h;obtain⟨ca,a0,a8,_⟩:=Ve oa va;obtain⟨cb,_⟩:=Ve ob vb;rw[←hv]at cb;have ht:∀t∈a.terms++b.terms,VT a.vars t:=fun t ht=>by
   rcases List.mem_append.1 ht with ht|ht
   ·exact ca.t t ht
   ·exact cb.t t ht
  have hc:=(SS (Cl.nil _) ht hl).1;rw[he];refine⟨⟨rfl,va,oa⟩,⟨hv.symm,vb,ob⟩,⟨rfl,atU hc a0 a8 h5,as5 hc⟩,fun f=>?_⟩;have:=asf (f:=f) (Cl.nil _) ht hl
  simp_all[asE,lfn,Int.zero_add]
 omega
theorem PE{a:AV}(h:aB a=true):iq a=[]:=by cases a<;>simp[aB]at h<;>rfl
theorem S6{a:AV}(h:aB a=true)(l:List Nat):bm l a=true:=by cases a<;>simp[aB]at h<;>simp[bm,h]
theorem PF{a:AV}(h:aB a=true)(g:Nat->Nat):lD g a=a:=by cases a<;>simp[aB]at h<;>rfl
theorem GZ{α β:Type}{f:α->List β}:∀ {l:List α},(∀x∈l,f x=[])->l.flatMap f=[]
 |[],_=>rfl
 |x::l,h=>by
  simp_all
theorem S7{a:AV}(h:dat a=true):cj a=[]:=by
 cases a<;>simp only[dat]at h<;>first|exact PE h|skip
 ·exact GZ fun x hx=>PE (List.all_eq_true.1 h x hx)
 ·simp[aB]at h;obtain⟨rfl,rfl⟩:=h;rfl
theorem X1{a:AV}(h:dat a=true)(l:List Nat):aZ l a=true:=by
 cases a<;>simp only[dat]at h<;>first|exact S6 h l|skip
 all_goals grind[aZ,List.all_eq_true,S6,aB]
theorem S8{a:AV}(h:dat a=true)(g:Nat->Nat):ey g a=a:=by
 cases a<;>simp only[dat]at h<;>first|exact PF h g|skip
 ·rename_i cs;show AV.agg (cs.map (lD g))=_;rw[(List.map_congr_left (g:=fun c=>c) fun x hx=>PF (List.all_eq_true.1 h x hx) g).trans (List.map_id' cs)]
 ·simp[aB]at h;obtain⟨rfl,rfl⟩:=h;rfl
theorem aeg{a:AV}(h:dat a=true)(hp:ac):de hp 0 a=some (a,hp,[]):=by
 by_cases hagg:∃cs,a=.agg cs
 ·grind[dat,de,vA,jj]
 ·have h2:aB a=true:=by cases a<;>first|exact h|exact absurd ⟨_,rfl⟩ hagg
  cases a<;>first| (simp[aB]at h2;done)|rfl|skip
theorem E3(hp:ac):∀ {l:List AV},l.all dat=true->cr hp [] l=some (l,hp,[])
 |[],_=>rfl
 |a::l,h=>by
  simp only[List.all_cons,Bool.and_eq_true]at h;simp only[cr,List.headD_nil,aeg h.1,Option.bind_some,List.tail_nil,E3 hp h.2,List.append_nil]
structure OC (o:Ob):Prop where
 cl:∀l,aO l o=true
 ids:mh o=[]
 ren:∀g,dp g o=o
 nd:cY o=false
structure RT (r:AV):Prop where
 ren:∀g,Nk g r=r
 mat:∀n h,mat n h r=(r,h)
 ok:∀l,apL l r=true
theorem uT:∀l:List AV,uX [] l=[]
 |[]=>rfl
 |a::l=>by
  show(if(0:Nat)=2 then _ else [])++uX [] l=[];rw[uT l];rfl
theorem PG{f:FuncId}{h:ac}{d id:Nat}{zas as':List AV}{o o':Ob}{res:AV}(hm:(aH false).m f=[])(hk:(aH false).keep f=false)(hn:bv ((aH false).sh f) (.ref id none 0 0 0::zas)=.ref id none 0 0 0::as')(hd:zas.all dat=true)(hd':as'.all dat=true)
  (hh:h id=o) (ho:OC o) (ho':OC o') (hb:bf o=true->bf o'=true) (hR:R f (.ref 1000 none 0 0 0::as') [o]=some (res,[o'])) (hr:RT res) (h8:cP res<=8) (hfr:dK h (2000+8*d) (cP res)=true):
  bI R (aH false) h d (.ref id none 0 0 0::zas) (.fn f [] [])=some (res,upd h id o',[(id,true)]):=by
 have h1:cr h [] (.ref id none 0 0 0::zas)=some (.ref id none 0 0 0::zas,h,[]):=by
  simp only[cr,de,Option.bind_some,List.tail_nil,E3 h hd,List.append_nil]
 have hp:bV [] ((AV.ref id none 0 0 0::zas).flatMap cj)=[id]:=by
  rw[List.flatMap_cons,GZ fun x hx=>S7 (List.all_eq_true.1 hd x hx)];rfl
 have hre:cq h 40 [id] 0=[id]:=by
  simp[cq,hh,ho.ids,bV]
 have h3:bq [id] id=1000:=by simp[bq]
 have hall:(AV.ref id none 0 0 0::as').all (aZ [id])=true:=by
  grind[aZ,bm,X1]
 have hmap:(AV.ref id none 0 0 0::as').map (ey (bq [id]))=.ref 1000 none 0 0 0::as':=by
  rw[List.map_cons,(List.map_congr_left (g:=fun c=>c) fun x hx=>S8 (List.all_eq_true.1 hd' x hx) _).trans (List.map_id' as')];grind[ey,lD]
 have hob:([id].map fun a=>dp (bq [id]) (h a))=[o]:=by simp[hh,ho.ren]
 have hids:([id].all fun a=>aO [id] (h a)&&!cY (h a))=true:=by simp[hh,ho.cl,ho.nd]
 unfold bI;rw[if_neg (by grind[sy])];simp only[eP,hm,List.nil_append,List.append_nil,h1,Option.bind_some,hp,hre,hn];unfold mj;rw[hall,hids,hmap,hob,hR,Bool.and_self,if_pos rfl,Option.bind_some,hk,hm,uT];unfold gz;have hbf:fw h [] [id] [o']=true:=by
  have:=ho'.nd;grind[bf,fw]
 have hend:yO h [id] [] (res,[o'])=true:=by
  simp[yO,Nl,hr.ok,ho'.cl]
 rw[if_pos ⟨rfl,by simp,h8,hfr,hbf,hend⟩];simp[eM,aqL,hr.mat,hr.ren,ho'.ren]
theorem pA{f:FuncId}{h:ac}{d id:Nat}{zas:List AV}{r:Option R3}(hm:(aH false).m f=[])(hd:zas.all dat=true)(hc:bI R (aH false) h d (.ref id none 0 0 0::zas) (.fn f [] [])=r):BD R (aH false) d f (.ref id none 0 0 0::zas,h,[])=r:=by
 have h1:cr h [] (.ref id none 0 0 0::zas)=some (.ref id none 0 0 0::zas,h,[]):=by
  simp only[cr,de,Option.bind_some,List.tail_nil,E3 h hd,List.append_nil]
 rw[BE d hm,h1]at hc;exact hc
theorem aqR{v e:Int}{c:AV}{l:List Rt}(hc:IsT c l):OC (t3 v c e):=by
 rcases hc with rfl| ⟨rfl,_⟩
 ·exact⟨fun l=>rfl,rfl,fun g=>rfl,rfl⟩
 ·exact⟨fun l=>rfl,rfl,fun g=>rfl,rfl⟩
theorem aeh:RT (.tup []):=⟨fun _=>rfl,fun _ _=>rfl,fun _=>rfl⟩
theorem arN{v e e':Int}{c c':AV}{l l':List Rt}{h:ac}{d id:Nat}{x:List Int}{q:Rd}(hh:h id=t3 v c e)(hc:IsT c l)(hc':IsT c' l')(hR:R F.poly_collector_add [.ref 1000 none 0 0 0,.sl 1 (bw x),ag q] [t3 v c e]=some (.tup [],[t3 v c' e'])):
  bI R (aH false) h d [.ref id none 0 0 0,.sl 1 (bw x),ag q] (.fn F.poly_collector_add [] [])=some (.tup [],upd h id (t3 v c' e'),[(id,true)]):=
 PG (aaL.1.2.1 false) (aaL.1.2.2.2 false) (as':=[.sl 1 (bw x),ag q]) (by simp only[ag,ak,go_sem]) rfl rfl hh (aqR hc) (aqR hc') (fun _=>rfl) hR aeh (by decide) rfl
theorem asi{v:Int}:R F.poly_empty [I v] []=some (.obx [I v,.emp,I 0],[]):=by
 refine aA ar6 rfl ?_;rfl
theorem auM(r:Rp×Int):RT (pV r):=⟨fun _=>rfl,fun _ _=>rfl,fun _=>rfl⟩
theorem Vj{h:ac}{o:Ob}{rs:List (List Sh)}{vs us:List AV}{r:AV}(h0:((vs.flatMap cj).filter fun i=>!aQ i)=[])(h1:h 1000=o)(ho:aO [1000] o=true)(h2:u9 h vs=some us)(h3:yP (bv rs us)=r):zO rs 1 h vs=some (r,[o]):=by
 have hp:cu 1=[1000]:=rfl;unfold zO;rw[h0,hp,h2,if_pos (by grind[kl])];grind
theorem X3(x:Value):iJ (.v x)=.v x:=rfl
theorem atv(k:Nat)(r:List (List AV)):iJ (.osl k r)=.sl k r:=rfl
theorem auu{v e:Int}{l:List Rt}:yP (bv [[.o 0 [],.o 5 [.o 2 [],.o 0 [],.o 2 [],.o 0 []]],[]] [.agg [I v,.sl 4 (cU l)],I e])=pV (⟨v,l⟩,e):=by
 have h:=anh l;show AV.tup [.agg [I v,.sl 4 ((cU l).map _)],I e]=_;rw[h];rfl
theorem atw{v e:Int}{c:AV}{l:List Rt}(hc:IsT c l)(he:e≠0):R F.poly_collector_done [.ref 1000 none 0 0 0] [t3 v c e]=some (pV (p0,e),[t3 v c e]):=by
 refine Vf ac0.2.1 ac0.2.2 (ac0.1.2.2.2 false) rfl ?_;have e1:(e=0)=False:=ff he;simp only[ag9,ao5,t3,go_sem,apB,apA,apC,apD,apE,e1];exact Vj rfl (by rfl) ((aqR hc).cl _) (by rfl) (by rfl)
theorem atx{v:Int}{l:List Rt}:R F.poly_collector_done [.ref 1000 none 0 0 0] [t3 v (.osl 4 (cU l)) 0]=some (pV (aef v (some l)),[if 500<l.length then t3 v (.osl 4 (cU l)) 0 else .bx [I v,.sl 4 (cU l),I 0]]):=by
 refine Vf ac0.2.1 ac0.2.2 (ac0.1.2.2.2 false) rfl ?_;unfold aef;by_cases h:500<l.length
 ·have e1:(500< (l.length:Int))=True:=tt (by omega);simp only[if_pos h];simp only[ag9,ao5,t3,go_sem,apB,apA,apC,apD,apE,e1];exact Vj rfl (by rfl) rfl (by rfl) (by rfl)
 ·have e1:(500< (l.length:Int))=False:=ff (by omega);simp only[if_neg h];simp only[ag9,ao5,t3,go_sem,apB,apA,apC,apD,apE,e1,X3,atv];exact Vj rfl (by rfl) rfl (by rfl) auu
theorem aty{v:Int}:R F.poly_collector_done [.ref 1000 none 0 0 0] [t3 v .emp 0]=some (pV (aef v (some [])),[t3 v .emp 0]):=by
 refine Vf ac0.2.1 ac0.2.2 (ac0.1.2.2.2 false) rfl ?_;have e1:((500:Int)<0)=False:=ff (by decide);simp only[ag9,ao5,t3,go_sem,apB,apA,apC,apD,apE,e1];exact Vj rfl (by rfl) rfl (by rfl) (by rfl)
theorem arO{v e:Int}{c:AV}{l:List Rt}{h:ac}{d id:Nat}(hh:h id=t3 v c e)(hc:IsT c l)(hf:dK h (2000+8*d) 2=true):
  ∃o,bI R (aH false) h d [.ref id none 0 0 0] (.fn F.poly_collector_done [] [])=some (pV (if e=0 then aef v (some l)else(p0,e)),upd h id o,[(id,true)]):=by
 have key:∃o,OC o/\bf o=true/\R F.poly_collector_done [.ref 1000 none 0 0 0] [t3 v c e]=some (pV (if e=0 then aef v (some l)else(p0,e)),[o]):=by
  by_cases he:e=0
  ·subst he;rcases hc with rfl| ⟨rfl,rfl⟩
   ·refine⟨_,?_,?_,atx⟩
    ·split
     ·exact aqR (.inl rfl)
     ·exact⟨fun l=>rfl,rfl,fun g=>rfl,rfl⟩
    ·split<;>rfl
   ·exact⟨_,aqR (.inr ⟨rfl,rfl⟩),rfl,aty⟩
  ·rw[if_neg he];exact⟨_,aqR hc,rfl,atw hc he⟩
 obtain⟨o,h1,h2,h3⟩:=key;exact⟨o,PG (ac0.1.2.1 false) (ac0.1.2.2.2 false) (as':=[]) (by rfl) rfl rfl hh (aqR hc) h1 (fun _=>h2) h3 (auM _) (by show 2<=8;decide) hf⟩
theorem at8{a b:Rp}(oa:OkP a)(ob:OkP b):R F.poly_pair [bH a,bH b] []=some (B (arn a b),[]):=by
 refine aA asu rfl ?_;have h1:=DO oa;have h2:=DO ob;simp only[bH]at h1 h2;unfold arn;cases ha:vp a with
 |false=>
  rw[ha]at h1;simp only[aqy,aqZ,bH,go_sem,apB,apA,apC,h1]
 |true=>
  rw[ha]at h1;cases hb:vp b with
  |false=>
   rw[hb]at h2;simp only[aqy,aqZ,bH,go_sem,apB,apA,apC,h1,h2]
  |true=>
   rw[hb]at h2;simp only[aqy,aqZ,bH,go_sem,apB,apA,apC,h1,h2]
structure ColE (v:Int) (l ts:List Rt) (e:Int) (c':AV) (l':List Rt) (e':Int):Prop where
 c:IsT c' l'
 r:(e'=0/\e=0/\B5 l ts=some l')\/(e'=9/\(e=0->B5 l ts=none))
theorem ColE.fin{v:Int}{ts:List Rt}{c':AV}{l':List Rt}{e':Int}(h:ColE v [] ts 0 c' l' e'):(if e'=0 then aef v (some l')else(p0,e'))=aef v (B5 [] ts):=by
 rcases h.r with⟨h1,_,h2⟩| ⟨h1,h2⟩
 ·rw[if_pos h1,h2]
 ·rw[h1,if_neg (by decide),h2 rfl];rfl
theorem ColE.step{v:Int}{l ts:List Rt}{t:Rt}{c:AV}(hc:IsT c l){e:Int}(he:e=0\/e=9)(hC:e=0->Cl v l/\l.length+ts.length+1<=1000000)(vt:VT v t){v':Int}:
  ∃c1 l1 e1,R F.poly_collector_add [.ref 1000 none 0 0 0,.sl 1 (bw t.exps),ag t.c] [t3 v' c e]=some (.tup [],[t3 v' c1 e1])/\IsT c1 l1/\(e1=0\/e1=9)/\(e1=0->Cl v l1/\l1.length+ts.length<=1000000)/\∀c' l' e',ColE v l1 ts e1 c' l' e'->ColE v l (t::ts) e c' l' e':=by
 rcases he with rfl|rfl
 ·obtain⟨h1,h2⟩:=hC rfl;obtain⟨c1,l1,e1,g1,g2,g3⟩:=asD (v':=v') h1 vt (by omega) hc;refine⟨c1,l1,e1,g1,g2,?_,fun h0=>?_,fun c' l' e' h=>⟨h.c,?_⟩⟩
  ·omega
  ·rcases g3 with⟨_,g⟩| ⟨g,_⟩
   ·have:=Pu g;exact⟨(SR h1 vt g).1,by omega⟩
   omega
  ·rcases g3 with⟨g,k⟩| ⟨g,k,_⟩
   ·rcases h.r with⟨q1,_,q2⟩| ⟨q1,q2⟩
    ·unfold B5;grind
    ·unfold B5;grind
   ·rcases h.r with⟨_,q1,_⟩| ⟨q1,_⟩
    ·omega
    ·unfold B5;grind
 ·refine⟨c,l,9,asc hc (by decide),hc,.inr rfl,fun h=>by omega,fun c' l' e' h=>⟨h.c,?_⟩⟩;rcases h.r with⟨_,q1,_⟩| ⟨q1,_⟩
  all_goals omega
theorem atb{v v':Int}{T:List Rt}(hT:∀t∈T,VT v t)(hn:T.length<=100000):∀ (k i:Nat),i+k=T.length->∀ (c:AV) (l:List Rt) (e:Int),IsT c l->(e=0\/e=9)->(e=0->Cl v l/\l.length+k<=1000000)->
  ∀ (s:af) (h:ac),s 4=.ref 4 none 0 0 0->s 6=.ref 2128 none 0 0 0->s 22=.sl 4 (cU T)->s 23=I T.length->s 24=I i->h 4=.bx [I 0,.emp]->h 2128=t3 v' c e->
  ∃hh c' l' e',am 0 [4,6] (aD (aj R (aH false) aqr) [4,6,22,23,24] [4,2128] s h)=some (.normal,⟨upd (upd (fun _=>.any) 6 (.ref 2128 none 0 0 0)) 4 (.ref 4 none 0 0 0),hh⟩)/\
   hh 4=.bx [I 0,.emp]/\hh 2128=t3 v' c' e'/\(∀a,a≠4->a≠2128->hh a=.dead)/\ColE v l (T.drop i) e c' l' e':=by
 intro k;induction k with
 |zero=>
  intro i hi c l e hc he hC s h h4 h6 h22 h23 h24 k4 k6;have e1:((i:Int)<T.length)=False:=ff (by omega);have ho:=(aqR (v:=v') (e:=e) hc).cl [4,2128];rw[ai];refine⟨?hh0,c,l,e,?_,?_,?_,?_,?_⟩;rotate_left
  ·simp only[aqr,go_sem,apE,h4,h6,h22,h23,h24,k4,k6,ho,e1];rfl
  ·rfl
  ·rfl
  ·simp_all[ed,if_false]
  ·rw[List.drop_eq_nil_of_le (by omega)];refine⟨hc,?_⟩;rcases he with rfl|rfl
   ·exact .inl ⟨rfl,rfl,rfl⟩
   omega
 |succ k ih=>
  intro i hi c l e hc he hC s h h4 h6 h22 h23 h24 k4 k6;have hlt:i<T.length:=by omega
  have e1:((i:Int)<T.length)=True:=tt (by omega);have e2:aV (cU T) (i:Int)=some (.ipt (eU T[i])):=qk rfl (List.getElem?_eq_getElem hlt);have e5:IntKind.i64.wrap ((i:Int)+1)=((i+1:Nat):Int):=wi (by omega) (by omega);have ho:=(aqR (v:=v') (e:=e) hc).cl [4,2128];have hdl:(T.drop (i+1)).length=k:=by grind
  obtain⟨c1,l1,ee,g1,g2,g3,g4,g5⟩:=ColE.step (ts:=T.drop (i+1)) hc he (fun h=>by grind) (hT _ (List.getElem_mem hlt)) (v':=v');rw[hdl]at g4;have ih':=ih (i+1) (by omega) c1 l1 ee g2 g3 g4;rw[List.drop_eq_getElem_cons hlt,ai];have hcall:=fun(h:ac) (hh:h 2128=t3 v' c e) (d:Nat)=>pA (aaL.1.2.1 false) rfl (arN (d:=d) hh hc g2 g1);simp only[ag,ak]at hcall;simp only[eU]at e2;simp only[aqr,go_sem,apB,apA,apC,apE,h4,h6,h22,h23,h24,k4,k6,ho,e1,e2];rw[hcall _ rfl];simp only[go_sem,apE,e5];refine(ih' _ _ ?_ ?_ ?_ ?_ ?_ ?_ ?_).imp fun hh ⟨c',l',e',q1,q2,q3,q4,q5⟩=>⟨c',l',e',q1,q2,q3,q4,g5 _ _ _ q5⟩
  all_goals rfl
theorem asG:Nc .emp=some (I 0):=rfl
theorem asj(h:ac):Es h .emp=h:=rfl
theorem asU:gh 4 .emp none (some (I 0)) none=some .emp:=rfl
theorem atz{h:ac}{d:Nat}{z:List AV}{n:Nat}(h0:0<n)(h1:n<=1000000):Eo h d 4 64 z .emp (I n)=dA h d 4 (List.replicate n z) n []:=by
 simp only[Eo];grind
theorem atA:R F.slices_Grow_api_Term_api_Term_ [.emp,I 0] []=some (.emp,[]):=by
 refine aA aqd rfl ?_;have e1:((0:Int)<0)=False:=ff (by decide);have w1:IntKind.i64.wrap ((0:Int)-0)=0:=by decide
 simp only[aeA,aoW,go_sem,apC,e1,w1,asG,asj]
theorem atB{n:Nat}(h0:0<n)(h1:n<=1000000):R F.slices_Grow_api_Term_api_Term_ [.emp,I n] []=some (.osl 4 [],[]):=by
 refine aA aqd rfl ?_;have e1:((n:Int)<0)=False:=ff (by omega);have e2:(0< (n:Int))=True:=tt (by omega);have w0:IntKind.i64.wrap ((0:Int)-0)=0:=by decide
 have w1:IntKind.i64.wrap ((n:Int)-0)=(n:Int):=wi (by omega) (by omega);have e5:gh 4 (.rsl 22 none 4 0 n) none (some (I 0)) none=some (.rsl 22 none 4 0 0):=by
  simp[gh,nO,lB]
 have e4:=fun h d z=>atz (h:=h) (d:=d) (z:=z) h0 h1;simp only[aeA,aoW,go_sem,apA,apC,apD,e1,e2,e4,w0,w1,asG,asj,asU,e5,List.take_zero]
 done
theorem atc{a b:List Rt}(ha:a.length<=100000)(hb:b.length<=100000):R F.slices_Concat_api_Term_api_Term_ [.sl 1 [[.sl 4 (cU a)],[.sl 4 (cU b)]]] []=some (.sl 4 (cU (a++b)),[]):=by
 refine aA aqC rfl ?_;have w1:IntKind.i64.wrap ((0:Int)+(a.length:Int))=(a.length:Int):=wi (by omega) (by omega);have w2:IntKind.i64.wrap ((a.length:Int)+(b.length:Int))=((a.length+b.length:Nat):Int):=wi (by omega) (by omega);have e1:((a.length:Int)<0)=False:=ff (by omega);have e2:(((a.length+b.length:Nat):Int)<0)=False:=ff (by omega);have c1:((0:Int)< ((0+1+1:Nat):Int))=True:=tt (by decide);have c2:((1:Int)< ((0+1+1:Nat):Int))=True:=tt (by decide);have c3:((2:Int)< ((0+1+1:Nat):Int))=False:=ff (by decide);have r0:aV [[AV.sl 4 (cU a)],[.sl 4 (cU b)]] 0=some (.ipt [.sl 4 (cU a)]):=rfl;have r1:aV [[AV.sl 4 (cU a)],[.sl 4 (cU b)]] 1=some (.ipt [.sl 4 (cU b)]):=rfl;have i1:IntKind.i64.wrap ((0:Int)+1)=1:=by decide
 have i2:IntKind.i64.wrap ((1:Int)+1)=2:=by decide
 simp only[aiK,apY,go_sem,apA,List.length_cons,List.length_nil];rw[ai];simp only[apR,go_sem,c1,r0,w1,e1,i1];rw[ai];simp only[go_sem,c2,r1,w2,e2,i2];rw[ai];simp only[go_sem,c3];by_cases hz:a.length+b.length=0
 ·have ea:a=[]:=List.length_eq_zero_iff.1 (by omega);have eb:b=[]:=List.length_eq_zero_iff.1 (by omega);subst ea eb;have hg:=atA;have a0:∀h d,Jl h d 4 64 .emp (.sl 4 [])=some (.emp,h,[]):=fun h d=>rfl;have hcr:kv (fun _=>.dead) 24 (some (.emp,[]))=some (.emp,fun _=>.dead,[]):=rfl;rw[show cU []=[]from rfl]at*
  simp only[go_sem,apA,hg,hcr,List.length_nil,Nat.add_zero,Int.natCast_zero];rw[ai];simp only[aiF,go_sem,c1,r0,i1,a0];rw[ai];simp only[go_sem,c2,r1,i2,a0];rw[ai];rfl
 ·have hg:=atB (n:=a.length+b.length) (by omega) (by omega);have b1:(a.length*64<=140737488355328)=True:=eq_true (by omega);have b2:((a.length+b.length)*64<=140737488355328)=True:=eq_true (by omega);simp only[go_sem,apB,apA,hg,List.length_nil];rw[ai];simp only[aiF,go_sem,apC,apD,apE,c1,r0,i1,b1,or_true,Nat.zero_add,List.nil_append,List.length_nil];rw[ai];simp only[go_sem,apC,apD,apE,c2,r1,i2,b2,or_true];rw[ai];simp only[go_sem,apC,apD,apE,c3,Nat.zero_add];have hl:(cU a++cU b).length=a.length+b.length:=by grind[List.length_append,SA]
  have hab:cU a++cU b=cU (a++b):=by simp[cU]
  rw[hl,if_pos (Nat.le_refl _),if_pos rfl,hab];have h:=anh (a++b);show some (AV.sl 4 ((cU (a++b)).map _),[])=_;rw[h]
theorem arP(h:ac)(d:Nat)(v:Int):kv h d (some (.obx [I v,.emp,I 0],[]))=if cY (h (2000+8*d))=true then some (.ref (2000+8*d) none 0 0 0,upd h (2000+8*d) (.bx [I v,.emp,I 0]),[])else none:=by
 simp[kv,cP,dK,apL,gj,ap1,aB,aW,mat,dq]
theorem auv{v v':Int}{T:List Rt}(hT:∀t∈T,VT v t)(hn:T.length<=100000)(s:af)(h:ac)(X:Option (Ex×St))(hX:am 0 [4,6] (aD (aj R (aH false) aqr) [4,6,22,23,24] [4,2128] s h)=X)(h4:s 4=.ref 4 none 0 0 0)(h6:s 6=.ref 2128 none 0 0 0)(h22:s 22=.sl 4 (cU T))(h23:s 23=I T.length)(h24:s 24=I 0)(k4:h 4=.bx [I 0,.emp])(k6:h 2128=t3 v' .emp 0):
  ∃hh c' l' e',X=some (.normal,⟨upd (upd (fun _=>.any) 6 (.ref 2128 none 0 0 0)) 4 (.ref 4 none 0 0 0),hh⟩)/\
   hh 4=.bx [I 0,.emp]/\hh 2128=t3 v' c' e'/\(∀a,a≠4->a≠2128->hh a=.dead)/\ColE v [] T 0 c' l' e':=by
 subst hX;exact atb hT hn T.length 0 (Nat.zero_add _) .emp [] 0 (.inr ⟨rfl,rfl⟩) (.inl rfl) (fun _=>⟨Cl.nil _,by grind⟩) s h h4 h6 h22 h23 h24 k4 k6
theorem at9{a b:Rp}(oa:OkP a)(ob:OkP b):R F.poly_Add [bH a,bH b] []=some (pV (aqW a b),[]):=by
 refine aA asQ rfl ?_;have hp:=at8 oa ob;simp only[bH]at hp;unfold aqW;cases hb:arn a b with
 |false=>
  rw[hb]at hp;simp only[aqY,aq9,bH,go_sem,apB,apA,apC,hp];rfl
 |true=>
  rw[hb]at hp;obtain⟨va,vb,hv⟩:=arM.1 hb;obtain⟨ca,a0,a8,al⟩:=Ve oa va;obtain⟨cb,b0,b8,bl⟩:=Ve ob vb;rw[←hv]at cb;have hT:∀t∈a.terms++b.terms,VT a.vars t:=fun t ht=>by
   rcases List.mem_append.1 ht with ht|ht
   ·exact ca.t t ht
   ·exact cb.t t ht
  have hemp:=asi (v:=a.vars);have hcat:=atc (a:=a.terms) (b:=b.terms) (by omega) (by omega);have hl:=auv (v':=a.vars) hT (by grind);simp only[aqY,aq9,bH,go_sem,apB,apA,apC,apD,hp,hemp,arP,hcat,List.length_cons,List.length_nil];generalize hX:am 0 [4,6] _=X;obtain⟨hh,c',l',e',rfl,q2,q3,q4,q5⟩:=hl _ _ _ hX rfl rfl rfl rfl rfl rfl rfl;obtain⟨o,hd⟩:=arO (d:=36) q3 q5.c (by grind[dK,cY]);have hd':=pA (ac0.1.2.1 false) rfl hd;rw[q5.fin]at hd';simp only[pV,bH,go_sem,apB,apA,apC,apE,q2,hd']
def t2(v:Int)(c:AV):Ob:=.bx [I v,c]
theorem lmB(m:List Nat):(ax m).map (fun r=>match r with|[.v (.int _ x)]=>x.toNat|_=>0)=m:=by
 grind[ax,List.map_map,List.map_congr_left,List.map_id']
theorem izB(m:List Int):(bw m).map (fun r=>match r with|[.v (.int _ x)]=>x|_=>0)=m:=by
 grind[bw,List.map_map,List.map_congr_left,List.map_id']
def tmB:List AV->Rt
 |[.sl _ m1,.v (.bool n2),.sl _ m2,.v (.int _ e2)]=>⟨m1.map (fun r=>match r with|[.v (.int _ x)]=>x|_=>0),⟨n2,m2.map (fun r=>match r with|[.v (.int _ x)]=>x.toNat|_=>0),e2⟩⟩
 |_=>⟨[],aK⟩
theorem auN(t:Rt):tmB (eU t)=t:=by
 show(⟨(bw t.exps).map _,⟨t.c.neg,(ax t.c.m).map _,t.c.e⟩⟩:Rt)=t;rw[lmB,izB]
def plC(a:Rp):List AV:=[I a.vars,.sl 4 (cU a.terms)]
def X4(l:List Rp):List (List AV):=l.map plC
@[go_sem] theorem anK(l:List Rp):(X4 l).length=l.length:=by simp[X4]
@[go_sem] theorem akD(l:List Rt):(cU l).map (dB [.o 2 [],.o 0 [],.o 0 [],.o 0 []])=cU l:=by
 refine vV fun x hx=>?_;simp only[cU,List.mem_map]at hx;obtain⟨t,ht,rfl⟩:=hx;simp only[eU,go_sem]
@[go_sem] theorem anL(l:List Rp):(X4 l).map (dB [.o 0 [],.o 5 [.o 2 [],.o 0 [],.o 0 [],.o 0 []]])=X4 l:=by
 refine vV fun x hx=>?_;simp only[X4,List.mem_map]at hx;obtain⟨t,ht,rfl⟩:=hx;simp only[plC,go_sem]
structure Res (r:Rp×Int):Prop where
 cl:Cl r.1.vars r.1.terms
 len:r.1.terms.length<=100000
 z:r.2=0\/r.1=p0
theorem aua(l:List Int)(n:Nat)(x:Int):(bw l).set n [I x]=bw (l.set n x):=by simp[bw,List.map_set]
def cur(a b:List Int)(i:Nat):List Int:=(aq5 a b).take i++a.drop i
theorem ColE.stepN{v:Int}{l:List Rt}{t:Rt}{c:AV}(hc:IsT c l){e:Int}(he:e=0\/e=9)(N:Nat)(hC:e=0->Cl v l/\l.length+N+1<=1000000)(vt:VT v t){v':Int}:
  ∃c1 l1 e1,R F.poly_collector_add [.ref 1000 none 0 0 0,.sl 1 (bw t.exps),ag t.c] [t3 v' c e]=some (.tup [],[t3 v' c1 e1])/\IsT c1 l1/\(e1=0\/e1=9)/\(e1=0->Cl v l1/\l1.length+N<=1000000)/\∀ts c' l' e',ColE v l1 ts e1 c' l' e'->ColE v l (t::ts) e c' l' e':=by
 obtain⟨c1,l1,e1,g1,g2,g3,g4,_⟩:=ColE.step (ts:=List.replicate N t) hc he (by rw[List.length_replicate];exact hC) vt (v':=v');rw[List.length_replicate]at g4;refine⟨c1,l1,e1,g1,g2,g3,g4,fun ts c' l' e' h=>?_⟩;rcases he with rfl|rfl
 ·obtain⟨h1,h2⟩:=hC rfl;obtain⟨c2,l2,e2,k1,k2,k3⟩:=asD (v':=v') h1 vt (by omega) hc;rw[k1]at g1;simp only[Option.some.injEq,Prod.mk.injEq,List.cons.injEq,and_true,true_and,t3,Ob.bx.injEq,AV.v.injEq,Value.int.injEq]at g1;obtain⟨rfl,rfl⟩:=g1;have hl:l2=l1:=by
   rcases k2 with rfl| ⟨rfl,rfl⟩
   ·rcases g2 with g2| ⟨g2,_⟩
    ·simp only[AV.osl.injEq,true_and]at g2;have:=congrArg (List.map tmB) g2;unfold cU at this;rw[List.map_map,List.map_map]at this;have hid:∀l:List Rt,l.map (tmB∘eU)=l:=fun l=>(List.map_congr_left (g:=fun c=>c) fun x _=>auN x).trans (List.map_id' l);rw[hid,hid]at this;exact this
    ·cases g2
   ·rcases g2 with g2| ⟨_,g2⟩
    ·cases g2
    ·exact g2.symm
  subst hl;refine⟨h.c,?_⟩;rcases k3 with⟨g,k⟩| ⟨g,k,_⟩
  ·subst g;rcases h.r with⟨q1,_,q2⟩| ⟨q1,q2⟩
   ·refine .inl ⟨q1,rfl,?_⟩;unfold B5;rw[k];exact q2
   ·refine .inr ⟨q1,fun _=>?_⟩;unfold B5;rw[k];exact q2 rfl
  ·subst g;rcases h.r with⟨_,q1,_⟩| ⟨q1,_⟩
   ·omega
   ·refine .inr ⟨q1,fun _=>?_⟩;unfold B5;rw[k];rfl
 ·refine⟨h.c,?_⟩;have:=asc (v:=v') (x:=.sl 1 (bw t.exps)) (d:=t.c) hc (by decide:(9:Int)≠0);rw[this]at g1;simp only[Option.some.injEq,Prod.mk.injEq,List.cons.injEq,and_true,true_and,t3,Ob.bx.injEq,AV.v.injEq,Value.int.injEq]at g1;obtain⟨_,rfl⟩:=g1;rcases h.r with⟨_,q1,_⟩| ⟨q1,_⟩
  ·omega
  ·exact .inr ⟨q1,fun h=>by omega⟩
theorem ColE.app{v:Int}{l r r2:List Rt}{e:Int}{c1:AV}{l1:List Rt}{e1:Int}{c':AV}{l':List Rt}{e':Int}(h1:ColE v l r e c1 l1 e1)(h2:ColE v l1 r2 e1 c' l' e'):ColE v l (r++r2) e c' l' e':=by
 refine⟨h2.c,?_⟩;rw[Pw];rcases h1.r with⟨a1,a2,a3⟩| ⟨a1,a2⟩
 ·rw[a3];rcases h2.r with⟨b1,b2,b3⟩| ⟨b1,b2⟩
  ·exact .inl ⟨b1,a2,b3⟩
  ·exact .inr ⟨b1,fun _=>b2 a1⟩
 ·rcases h2.r with⟨b1,b2,b3⟩| ⟨b1,b2⟩
  ·omega
  ·exact .inr ⟨b1,fun h=>by rw[a2 h];rfl⟩
theorem ColE.nx{v:Int}{l r:List Rt}{e:Int}{c1:AV}{l1:List Rt}{e1:Int}(h:ColE v l r e c1 l1 e1)(hC:e=0->Cl v l)(hr:∀t∈r,VT v t):(e1=0\/e1=9)/\(e1=0->e=0/\Cl v l1/\l1.length<=l.length+r.length):=by
 rcases h.r with⟨a1,a2,a3⟩| ⟨a1,a2⟩
 ·exact⟨.inl a1,fun _=>⟨a2,SS (hC a2) hr a3⟩⟩
 ·exact⟨.inr a1,fun h=>by omega⟩
theorem VT0{d:Rd}(od:Ok0 d)(vdd:vd d=true)(nd:d.m.length≠0):VT 0 ⟨[],d⟩:=⟨od,rfl,by decide,vdd,nd,(fun _ h=>nomatch h),by show(0:Int)<=32;decide⟩
theorem atC{a d:Rd}(oa:Ok0 a)(va:vd a=true)(na:a.m.length≠0)(od:Ok0 d)(vdd:vd d=true)(nd:d.m.length≠0)(h0:(jO a d).2=0):Ok0 (jO a d).1/\vd (jO a d).1=true/\(jO a d).1.m.length≠0:=by
 have h:=atu (v:=0) (s:=⟨[],a⟩) (t:=⟨[],d⟩) (x:=⟨[],(jO a d).1⟩) (VT0 oa va na) (VT0 od vdd nd) (by show(0:Int)+0<=32;decide) (by unfold asT;rw[if_pos h0];rfl);exact⟨h.c,h.vc,h.nz⟩
def aqK(e:Int):Rd:=bA false e.natAbs 0
theorem asH{e:Int}(h1:1<=e)(h2:e<=32):Ok0 (aqK e)/\vd (aqK e)=true/\(aqK e).m.length≠0:=by
 have hn:e.natAbs≠0:=by omega
 have hb:ae e.natAbs<=6:=bt.2 (by
  omega)
 have hc:=O2 (neg:=false) (M:=e.natAbs) (e:=0) (by omega) (by decide) (by omega);have ho:=ER (z:=e) (f:=0);have hcan:dJ e 0=bA false e.natAbs 0:=by
  grind[dJ,decide_eq_false]
 rw[hcan,hc]at ho;refine⟨ho.2,ho.1,fun h=>?_⟩;obtain⟨q1,_,q3,_⟩:=yy (neg:=false) (e:=0) hn;have h0:(bA false e.natAbs 0).m=[]:=List.length_eq_zero_iff.1 h;grind[aa]
def dec(l:List Int)(i:Nat):List Int:=l.set i (l.getD i 0-1)
theorem arE:∀ {l:List Int} {i:Nat},i<l.length->bY (dec l i)=bY l-1
 |x::l,0,_=>by
  show(x-1)+bY l=(x+bY l)-1;omega
 |x::l,i+1,h=>by
  have ih:=arE (l:=l) (i:=i) (by simpa using h);show x+bY (dec l i)=(x+bY l)-1;omega
theorem ask(a b:Int):bD (a-1) (b-1)=bD a b:=by
 rcases ru a b with⟨h1,h2⟩| ⟨h1,h2⟩| ⟨h1,h2⟩<;>rcases ru (a-1) (b-1)with⟨h3,h4⟩| ⟨h3,h4⟩| ⟨h3,h4⟩<;>omega
theorem asl:∀ {a b:List Int} {i:Nat},i<a.length->a.length=b.length->jN (dec a i) (dec b i)=jN a b
 |x::a,y::b,0,_,_=>by
  show(if bD (x-1) (y-1)=0 then jN a b else bD (x-1) (y-1))=(if bD x y=0 then jN a b else bD x y);rw[ask]
 |x::a,y::b,i+1,h,hl=>by
  have ih:=asl (a:=a) (b:=b) (i:=i) (by simpa using h) (by simpa using hl);show(if bD x y=0 then jN (dec a i) (dec b i)else bD x y)=(if bD x y=0 then jN a b else bD x y);rw[ih]
theorem arF(l:List Int)(i:Nat):(dec l i).length=l.length:=by simp[dec]
theorem atD{a b:List Int}{i:Nat}(h:i<a.length)(hl:a.length=b.length):dH (dec a i) (dec b i)=dH a b:=by
 simp_all[dH,arE,ask,asl]
def ap4(i:Nat):List Rt->Option (List Rt)
 |[]=>some []
 |t::ts=>if t.exps.getD i 0=0 then ap4 i ts else(if(jO t.c (aqK (t.exps.getD i 0))).2=0 then(ap4 i ts).map (⟨dec t.exps i,(jO t.c (aqK (t.exps.getD i 0))).1⟩::·)else none)
theorem asm{l:List Int}{i:Nat}(h:i<l.length):l.getD i 0∈l:=by
 grind
theorem asI{v:Int}{t:Rt}{i:Nat}(vt:VT v t)(hi:(i:Int)<v)(hz:t.exps.getD i 0≠0)(h0:(jO t.c (aqK (t.exps.getD i 0))).2=0):VT v ⟨dec t.exps i,(jO t.c (aqK (t.exps.getD i 0))).1⟩:=by
 have hlt:i<t.exps.length:=by grind
 obtain⟨b1,b2⟩:=vt.b _ (asm hlt);obtain⟨o1,o2,o3⟩:=asH (e:=t.exps.getD i 0) (by omega) b2;obtain⟨h1,h2,h3⟩:=atC vt.c vt.vc vt.nz o1 o2 o3 h0;refine⟨h1,by rw[arF];exact vt.len,vt.v8,h2,h3,fun e he=>?_,by rw[arE hlt];have:=vt.d;omega⟩;rcases List.mem_or_eq_of_mem_set he with h|rfl
 ·exact vt.b e h
 omega
theorem aro{v:Int}{i:Nat}(hi:(i:Int)<v):∀ {ts r:List Rt},Cl v ts->ap4 i ts=some r->Cl v r/\r.length<=ts.length/\∀y∈r,∃t∈ts,y.exps=dec t.exps i
 |[],r,c,h=>by cases h;grind
 |t::ts,r,c,h=>by
  obtain⟨vt,ht,c2⟩:=c.cons;unfold ap4 at h;split at h
  ·obtain⟨k1,k2,k3⟩:=aro hi c2 h;refine⟨k1,by simp;omega,fun y hy=>?_⟩;obtain⟨q,hq,he⟩:=k3 y hy;exact⟨q,by simp[hq],he⟩
  ·rename_i hz;split at h
   ·rename_i h0;rw[Option.map_eq_some_iff]at h;obtain⟨r2,h2,rfl⟩:=h;obtain⟨k1,k2,k3⟩:=aro hi c2 h2;refine⟨Cl.mk' (asI vt hi hz h0) (fun y hy=>?_) k1,by grind,fun y hy=>?_⟩
    ·obtain⟨q,hq,he⟩:=k3 y hy;rw[he];rw[atD (by grind) (vt.l2 (c2.t q hq))];grind
    grind
   grind
def aqM(a:Rp)(i:Int):Rp×Int:=if vp a=true then(if i<0\/a.vars<=i then(p0,2)else match ap4 i.toNat a.terms with|none=>(p0,9)|some r=>(⟨a.vars,r⟩,0))else(p0,1)
theorem asV{a:Rp}{i:Nat}(oa:OkP a)(va:vp a=true)(hi:(i:Int)<a.vars):(match ap4 i a.terms with|none=>(p0,(9:Int))|some r=>(⟨a.vars,r⟩,0))=aef a.vars ((ap4 i a.terms).bind (B5 [])):=by
 obtain⟨ca,a0,a8,al⟩:=Ve oa va;cases h:ap4 i a.terms with
 |none=>rfl
 |some r=>
  obtain⟨k1,k2,k3⟩:=aro hi ca h;have hc:B5 [] r=some r:=asb (l:=[]) k1;simp only[Option.bind_some,hc,aef];rw[if_neg (by omega)]
theorem aub{x:Int}(h1:0<=x)(h2:x<=32):R F.dyadic_Int [I x] []=some (ag (aqK x),[]):=by
 have h:=WX (n:=x) ⟨by omega,by omega⟩;rw[decide_eq_false (by omega)]at h;exact h
theorem aux:∃W:Int,∀n:Nat,n≠0->zI (bA false n 0)=n*W:=by
 refine⟨((2^16384:Nat):Int),fun n hn=>?_⟩;obtain⟨q1,q2,_,_⟩:=yy (neg:=false) (e:=0) hn;obtain⟨t1,_⟩:=uK hn;have hneg:(bA false n 0).neg=false:=by rw[mQ hn]
 unfold zI mg;rw[hneg,if_neg Bool.false_ne_true,q1,q2];have ht:((0:Int)+(tz n:Int)+16384).toNat=tz n+16384:=by omega
 rw[ht];generalize 16384=k;rw[Nat.pow_add,←Nat.mul_assoc,Nat.mul_comm (n/2^tz n),←t1,Int.natCast_mul]
def IsL(x:AV)(l:List Rt):Prop:=x=.sl 4 (cU l)\/(x=.emp/\l=[])
theorem IsL.keep{x:AV}{l:List Rt}(h:IsL x l)(hs:List Nat):eN hs x=x:=by
 rcases h with rfl| ⟨rfl,_⟩<;>rfl
def auy(X:Option (Ex×St)):Option Rd->Prop
 |some d=>∃hh,X=some (.normal,⟨upd (upd (fun _=>.any) 6 (.ref 6 none 0 0 0)) 3 (.ref 3 none 0 0 0),hh⟩)/\hh 3=.bx [B d.neg,lm d.m,I d.e]/\hh 6=.bx zb
 |none=>∃hh,X=some (.ret,⟨upd (upd (fun _=>.any) 7 (B false)) 6 (.ref 6 none 0 0 0),hh⟩)/\hh 6=.bx zb
theorem atE{x:Rd}(ox:Ok0 x){n:Nat}(hn:n<=100000):∀ (k i:Nat),i+k=n->∀ (c:Rd),Ok0 c->∀ (s:af) (h:ac),s 3=.ref 3 none 0 0 0->s 4=.ref 4 none 0 0 0->s 6=.ref 6 none 0 0 0->s 10=I n->s 11=I i->h 3=.bx [B c.neg,lm c.m,I c.e]->h 4=.bx [B x.neg,lm x.m,I x.e]->h 6=.bx zb->
  auy (am 0 [3,6] (aD (aj R (aH false) apV) [3,4,6,10,11] [3,4,6] s h)) (aqf x k c):=by
 intro k;induction k with
 |zero=>
  intro i hi c oc s h g3 g4 g6 g10 g11 k3 k4 k6;have e1:((i:Int)< (n:Int))=False:=ff (by omega);rw[ai];refine⟨?hh0,?_,?_,?_⟩;rotate_left
  ·simp only[apV,go_sem,apE,g3,g4,g6,g10,g11,k3,k4,k6,e1];rfl
  ·rfl
  ·rfl
 |succ k ih=>
  intro i hi c oc s h g3 g4 g6 g10 g11 k3 k4 k6;have e1:((i:Int)< (n:Int))=True:=tt (by omega);have e5:IntKind.i64.wrap ((i:Int)+1)=((i+1:Nat):Int):=wi (by omega) (by omega);have hm:=SJ oc ox;have om:=(ES c x).2;have ih':=ih (i+1) (by omega);rw[ai];generalize aD _ _ _=L at ih'⊢;unfold aqf;generalize jO c x=r at hm om⊢;obtain⟨r1,r2⟩:=r;simp only[rV,ag,ak]at hm;by_cases h0:r2=0
  ·subst h0;rw[if_pos rfl];simp only[apV,go_sem,apB,apA,apC,apE,g3,g4,g6,g10,g11,k3,k4,k6,e1,e5,hm];exact ih' r1 om _ _ rfl rfl rfl rfl rfl rfl rfl rfl
  ·rw[if_neg h0];have e2:(r2=0)=False:=ff h0;refine⟨?hh1,?_,?_⟩;rotate_left
   ·simp only[apV,go_sem,apB,apA,apC,apE,g3,g4,g6,g10,g11,k3,k4,k6,e1,hm,e2];rfl
   ·rfl
theorem auO{x:Rd}(ox:Ok0 x){n:Nat}(hn:n<=100000){c:Rd}(oc:Ok0 c)(s:af)(h:ac)(X:Option (Ex×St))(hX:am 0 [3,6] (aD (aj R (aH false) apV) [3,4,6,10,11] [3,4,6] s h)=X)(g3:s 3=.ref 3 none 0 0 0)(g4:s 4=.ref 4 none 0 0 0)(g6:s 6=.ref 6 none 0 0 0)(g10:s 10=I n)(g11:s 11=I 0)(k3:h 3=.bx [B c.neg,lm c.m,I c.e])(k4:h 4=.bx [B x.neg,lm x.m,I x.e])(k6:h 6=.bx zb):
  auy X (aqf x n c):=by
 subst hX;exact atE ox hn n 0 (Nat.zero_add _) c oc s h g3 g4 g6 g10 g11 k3 k4 k6
theorem atd{c x:Rd}(oc:Ok0 c)(ox:Ok0 x){n:Nat}(hn:n<=100000):R F.poly_times [ag c,ag x,I n] []=some (.tup [ag (arx x n c).1,B (arx x n c).2],[]):=by
 refine aA ar4 rfl ?_;have hl:=auO ox hn oc;simp only[aq0,arf,ag,ak,go_sem,apA];generalize hX:am 0 [3,6] _=X;have hT:=hl _ _ _ hX rfl rfl rfl rfl rfl rfl rfl rfl;unfold arx;cases ht:aqf x n c with
 |some d=>
  rw[ht]at hT;obtain⟨hh,rfl,q3,q6⟩:=hT;simp only[go_sem,apB,apA,apC,q3,q6]
 |none=>
  rw[ht]at hT;obtain⟨hh,rfl,q6⟩:=hT;simp only[go_sem,apB,apA,apC,q6];rfl
theorem auz{d:Rd}(ok:Ok0 d):R F.poly_Eval_1 [.agg (ak d)] []=some (B (!vd d),[]):=by
 refine aA aq1 rfl ?_;have hv:=gu ok;simp only[ag,ak]at hv;simp only[aqU,ara,ak,go_sem,apB,apA,apC,hv]
def rdB:List AV->Rd
 |[.v (.bool n),.sl _ m,.v (.int _ e)]=>⟨n,m.map (fun r=>match r with|[.v (.int _ x)]=>x.toNat|_=>0),e⟩
 |_=>aK
theorem atV(d:Rd):rdB (ak d)=d:=congrArg (fun m=>(⟨d.neg,m,d.e⟩:Rd)) (lmB d.m)
theorem atF{f:FuncId}{p:Rd->Bool}(hm:(aH false).m f=[])(hs:(aH false).sh f=[[.o 0 [],.o 2 [],.o 0 []]]){l:List Rd}(h2:l.length<=100000)(hf:∀d∈l,R f [.agg (ak d)] []=some (B (p d),[])):R F.slices_ContainsFunc_api_Dyadic_api_Dyadic_ [.sl 3 (zp l),.fn f [] []] []=some (B (l.any p),[]):=by
 have h1:=DF (k:=3) (g:=true) (f:=f) (rows:=zp l) (p:=fun r=>p (rdB r)) ac2.2.1 ac2.2.2 (ac2.1.2.2.2 false) rfl hm (by rw[ang];omega) (fun row hr=>by
  simp only[zp,List.mem_map]at hr;obtain⟨t,ht,rfl⟩:=hr;have hd:=hf t ht;refine⟨.agg (ak t),rfl,rfl,?_⟩;rw[atV];simp only[ak]at hd;simp only[ak,go_sem,hs,hd])
 have h2:=AS (k:=3) aez.2.1 aez.2.2 (aez.1.2.2.2 false) rfl (ac2.1.2.1 false) (ac2.1.1 false) (by simp only[go_sem]) h1;have h3:(zp l).any (fun r=>p (rdB r))=l.any p:=by
  unfold zp;rw[List.any_map];congr 1;funext t;exact congrArg p (atV t)
 rw[h3]at h2;exact h2
theorem asJ:∀l:List Rd,(l.any fun d=>!vd d)=!l.all vd
 |[]=>rfl
 |d::l=>by rw[List.any_cons,List.all_cons,Bool.not_and,asJ l]
theorem atG{l:List Rd}(ol:∀d∈l,Ok0 d)(h2:l.length<=100000):R F.slices_ContainsFunc_api_Dyadic_api_Dyadic_ [.sl 3 (zp l),.fn F.poly_Eval_1 [] []] []=some (B (!l.all vd),[]):=by
 have h:=atF (aq1.1.2.1 false) (aq1.1.1 false) h2 (p:=fun d=>!vd d) (fun d hd=>auz (ol d hd));rw[asJ]at h;exact h
def EvI(X:Option (Ex×St))(S:af)(o2:Ob)(c6:List AV):Option Rd->Prop
 |some d=>∃hh,X=some (.normal,⟨S,hh⟩)/\hh 2=o2/\hh 4=.bx zb/\hh 6=.bx c6/\hh 9=.bx [B d.neg,lm d.m,I d.e]/\∀a,a≠2->a≠4->a≠6->a≠8->a≠9->hh a=.dead
 |none=>∃hh,X=some (.ret,⟨upd (upd (fun _=>.any) 5 (I 9)) 4 (.ref 4 none 0 0 0),hh⟩)/\hh 4=.bx zb
theorem atH{es:List Int}{xs:List Rd}(ox:∀d∈xs,Ok0 d)(hl:es.length=xs.length)(hb:∀e∈es,0<=e/\e<=32)(h8:es.length<=1000){o2 o8:Ob}(c2:∀l,aO l o2=true)(c8:∀l,aO l o8=true){c6:List AV}(k6c:∀l,c6.all (gy l)=true){A:List Rt}{nA iA:Int}:
  ∀ (k i:Nat),i+k=es.length->∀ (c:Rd),Ok0 c->∀ (s:af) (h:ac),s 1=.sl 3 (zp xs)->s 4=.ref 4 none 0 0 0->s 6=.ref 6 none 0 0 0->s 9=.ref 9 none 0 0 0->s 31=.sl 4 (cU A)->s 32=I nA->s 33=I iA->s 40=.sl 1 (bw es)->s 41=I es.length->s 42=I i->h 2=o2->h 4=.bx zb->h 6=.bx c6->h 8=o8->h 9=.bx [B c.neg,lm c.m,I c.e]->
  EvI (am 2 [1,4,6,9,31,32,33] (aD (aj R (aH false) apO) [1,4,6,9,31,32,33,40,41,42] [2,4,6,8,9] s h)) (upd (upd (upd (upd (upd (upd (upd (fun _=>.any) 33 (I iA)) 32 (I nA)) 31 (.sl 4 (cU A))) 9 (.ref 9 none 0 0 0)) 6 (.ref 6 none 0 0 0)) 4 (.ref 4 none 0 0 0)) 1 (.sl 3 (zp xs))) o2 c6 (ap3 (es.drop i) (xs.drop i) c):=by
 intro k;induction k with
 |zero=>
  intro i hi c oc s h g1 g4 g6 g9 g31 g32 g33 g40 g41 g42 k2 k4 k6 k8 k9;have e1:((i:Int)< (es.length:Int))=False:=ff (by omega);rw[List.drop_eq_nil_of_le (show es.length<=i by omega),ai];have hc2:=c2 [2,4,6,8,9];have hc8:=c8 [2,4,6,8,9];have hc6:=k6c [2,4,6,8,9];refine⟨?hh0,?_,?_,?_,?_,?_,?_⟩;rotate_left
  ·simp only[apO,go_sem,apE,g1,g4,g6,g9,g31,g32,g33,g40,g41,g42,k2,k4,k6,k8,k9,hc2,hc8,hc6,e1];rfl
  ·rfl
  ·rfl
  ·rfl
  ·rfl
  ·intro a a1 a2 a3 a4 a5;simp only[ed,a1,a2,a3,a4,a5,if_false]
 |succ k ih=>
  intro i hi c oc s h g1 g4 g6 g9 g31 g32 g33 g40 g41 g42 k2 k4 k6 k8 k9;have hlt:i<es.length:=by omega
  have hlt2:i<xs.length:=by omega
  have e1:((i:Int)< (es.length:Int))=True:=tt (by omega);have e2:aV (zp xs) (i:Int)=some (.ipt (ak xs[i])):=abw rfl (List.getElem?_eq_getElem hlt2);have e3:aV (bw es) (i:Int)=some (.ipt [I es[i]]):=lX rfl (List.getElem?_eq_getElem hlt);have e5:IntKind.i64.wrap ((i:Int)+1)=((i+1:Nat):Int):=wi (by omega) (by omega);have od:=ox xs[i] (List.getElem_mem hlt2);obtain⟨r1,r2⟩:=hb es[i] (List.getElem_mem hlt);have ih':=ih (i+1) (by omega);rw[asR hlt hlt2,ai];generalize aD _ _ _=L at ih'⊢;generalize es[i]=e at e3 r1 r2⊢;obtain⟨n,rfl⟩:=Int.eq_ofNat_of_zero_le r1;rw[Int.toNat_natCast];generalize xs[i]=x at e2 od⊢;have hm:=atd oc od (n:=n) (by omega);have hok:=arg (x:=x) n c;unfold arx at hm;have hc2:=c2 [2,4,6,8,9];have hc8:=c8 [2,4,6,8,9];have hc6:=k6c [2,4,6,8,9];cases hT:aqf x n c with
  |some d=>
   have oc2:=hok d oc hT;rw[hT]at hm;simp only[ag,ak]at hm e2;rw[Option.bind_some];simp only[apO,go_sem,apB,apA,apC,apD,apE,g1,g4,g6,g9,g31,g32,g33,g40,g41,g42,k2,k4,k6,k8,k9,hc2,hc8,hc6,e1,e2,e3,e5,hm];exact ih' d oc2 _ _ rfl rfl rfl rfl rfl rfl rfl rfl rfl rfl rfl rfl rfl rfl rfl
  |none=>
   rw[hT]at hm;simp only[ag,ak,aK]at hm e2;refine⟨?hh1,?_,?_⟩;rotate_left
   ·simp only[apO,go_sem,apB,apA,apC,apD,apE,g1,g4,g6,g9,g31,g32,g33,g40,g41,g42,k2,k4,k6,k8,k9,hc2,hc8,hc6,e1,e2,e3,hm];rfl
   ·rfl
theorem auP{es:List Int}{xs:List Rd}(ox:∀d∈xs,Ok0 d)(hl:es.length=xs.length)(hb:∀e∈es,0<=e/\e<=32)(h8:es.length<=1000){o2 o8:Ob}(c2:∀l,aO l o2=true)(c8:∀l,aO l o8=true){c6:List AV}(k6c:∀l,c6.all (gy l)=true){A:List Rt}{nA iA:Int}{c:Rd}(oc:Ok0 c)(s:af)(h:ac)(X:Option (Ex×St))(hX:am 2 [1,4,6,9,31,32,33] (aD (aj R (aH false) apO) [1,4,6,9,31,32,33,40,41,42] [2,4,6,8,9] s h)=X)
  (g1:s 1=.sl 3 (zp xs)) (g4:s 4=.ref 4 none 0 0 0) (g6:s 6=.ref 6 none 0 0 0) (g9:s 9=.ref 9 none 0 0 0) (g31:s 31=.sl 4 (cU A)) (g32:s 32=I nA) (g33:s 33=I iA) (g40:s 40=.sl 1 (bw es)) (g41:s 41=I es.length) (g42:s 42=I 0) (k2:h 2=o2) (k4:h 4=.bx zb) (k6:h 6=.bx c6) (k8:h 8=o8) (k9:h 9=.bx [B c.neg,lm c.m,I c.e]):
  EvI X (upd (upd (upd (upd (upd (upd (upd (fun _=>.any) 33 (I iA)) 32 (I nA)) 31 (.sl 4 (cU A))) 9 (.ref 9 none 0 0 0)) 6 (.ref 6 none 0 0 0)) 4 (.ref 4 none 0 0 0)) 1 (.sl 3 (zp xs))) o2 c6 (ap3 es xs c):=by
 subst hX;exact atH ox hl hb h8 c2 c8 k6c es.length 0 (Nat.zero_add _) c oc s h g1 g4 g6 g9 g31 g32 g33 g40 g41 g42 k2 k4 k6 k8 k9
theorem asn:∀ {es:List Int} {xs:List Rd} {c d:Rd},Ok0 c->ap3 es xs c=some d->Ok0 d
 |e::es,x::xs,c,d,oc,h=>by
  unfold ap3 at h;rw[Option.bind_eq_some_iff]at h;obtain⟨y,h1,h2⟩:=h;exact asn (arg _ c y oc h1) h2
 |[],_,c,d,oc,h=>by cases h;exact oc
 |_::_,[],c,d,oc,h=>by cases h;exact oc
def IsD(c:List AV)(q:Rd):Prop:=c=[B q.neg,lm q.m,I q.e]\/(c=zb/\q=aK)
theorem IsD.cl{c:List AV}{q:Rd}(h:IsD c q)(l:List Nat):c.all (gy l)=true:=by
 rcases h with rfl| ⟨rfl,_⟩<;>rfl
def EvO(X:Option (Ex×St))(r:Rd×Int):Prop:=(r.2=0/\∃hh c6,X=some (.normal,⟨upd (upd (fun _=>.any) 6 (.ref 6 none 0 0 0)) 4 (.ref 4 none 0 0 0),hh⟩)/\hh 4=.bx zb/\hh 6=.bx c6/\IsD c6 r.1)\/
 (r=(aK,9)/\∃hh,X=some (.ret,⟨upd (upd (fun _=>.any) 5 (I 9)) 4 (.ref 4 none 0 0 0),hh⟩)/\hh 4=.bx zb)
theorem atI{v:Int}{A:List Rt}{xs:List Rd}(ox:∀d∈xs,Ok0 d)(hx:(xs.length:Int)=v)(hA:∀t∈A,VT v t)(hn:A.length<=100000){o2:Ob}(c2:∀l,aO l o2=true):
  ∀ (k i:Nat),i+k=A.length->∀ (q:Rd),Ok0 q->∀ (c6:List AV),IsD c6 q->∀ (s:af) (h:ac),s 1=.sl 3 (zp xs)->s 4=.ref 4 none 0 0 0->s 6=.ref 6 none 0 0 0->s 31=.sl 4 (cU A)->s 32=I A.length->s 33=I i->h 2=o2->h 4=.bx zb->h 6=.bx c6->
  EvO (am 0 [4,6] (aD (aj R (aH false) aqj) [1,4,6,31,32,33] [2,4,6] s h)) (aqi xs (A.drop i) q):=by
 intro k;induction k with
 |zero=>
  intro i hi q oq c6 hq s h g1 g4 g6 g31 g32 g33 k2 k4 k6;have e1:((i:Int)< (A.length:Int))=False:=ff (by omega);have hc2:=c2 [2,4,6];have hc6:=hq.cl [2,4,6];rw[List.drop_eq_nil_of_le (by omega),ai];refine .inl ⟨rfl,?hh0,c6,?_,?_,?_,hq⟩;rotate_left
  ·simp only[aqj,go_sem,apE,g1,g4,g6,g31,g32,g33,k2,k4,k6,hc2,hc6,e1];rfl
  ·rfl
  ·rfl
 |succ k ih=>
  intro i hi q oq c6 hq s h g1 g4 g6 g31 g32 g33 k2 k4 k6;have hlt:i<A.length:=by omega
  have e1:((i:Int)< (A.length:Int))=True:=tt (by omega);have e2:aV (cU A) (i:Int)=some (.ipt (eU A[i])):=qk rfl (List.getElem?_eq_getElem hlt);have e5:IntKind.i64.wrap ((i:Int)+1)=((i+1:Nat):Int):=wi (by omega) (by omega);have vt:=hA _ (List.getElem_mem hlt);have ih':=ih (i+1) (by omega);rw[List.drop_eq_getElem_cons hlt];generalize A[i]=t at e2 vt⊢;have hlen:=vt.len;have hl1:=auP ox (es:=t.exps) (by omega) vt.b (by have:=vt.v8;omega) c2 (o8:=.bx [.sl 1 (bw t.exps),B t.c.neg,lm t.c.m,I t.c.e]) (fun _=>rfl) (fun l=>hq.cl l) (A:=A) (nA:=(A.length:Int)) (iA:=(i:Int)) vt.c;have hok:=fun d=>asn (es:=t.exps) (xs:=xs) (c:=t.c) (d:=d) vt.c;have hc2:=c2 [2,4,6];have hc6:=hq.cl [2,4,6];rw[ai];generalize aD _ _ _=L at ih'⊢;simp only[eU]at e2;simp only[aqj,go_sem,apB,apA,apC,apE,g1,g4,g6,g31,g32,g33,k2,k4,k6,hc2,hc6,e1,e2];generalize hXX:am 2 _ _=X;have hM:=hl1 _ _ _ hXX rfl rfl rfl rfl rfl rfl rfl rfl rfl rfl rfl rfl rfl rfl rfl;cases hr:ap3 t.exps xs t.c with
  |none=>
   rw[hr]at hM;obtain⟨hh,rfl,q4⟩:=hM;rw[arI hr];refine .inr ⟨rfl,hh,?_,q4⟩;simp only[go_sem]
  |some d=>
   rw[hr]at hM;obtain⟨hh,rfl,q2,q4,q6,q9,qd⟩:=hM;rw[arH hr];have hadd:=asx oq (hok d hr);have oadd:=(Kj q d).2;have d1:hh 2512=.dead:=qd _ (by decide) (by decide) (by decide) (by decide) (by decide);have d2:hh 2513=.dead:=qd _ (by decide) (by decide) (by decide) (by decide) (by decide);have d3:hh 13=.dead:=qd _ (by decide) (by decide) (by decide) (by decide) (by decide);generalize nX q d=r at hadd oadd⊢;obtain⟨r1,r2⟩:=r;simp only[rV,ag,ak]at hadd;by_cases h0:r2=0
   ·subst h0;rw[if_pos rfl];rcases hq with rfl| ⟨rfl,rfl⟩
    ·simp only[go_sem,apB,apA,apC,q4,q6,q9,d1,d2,d3,hadd,e5];refine ih' r1 oadd _ (.inl rfl) _ _ ?_ ?_ ?_ ?_ ?_ ?_ ?_ ?_ ?_
     all_goals first|rfl|assumption| (simp only[ed,Nat.reduceEqDiff,↓reduceIte,q2,q4];done)
    ·simp only[aK]at hadd;simp only[go_sem,apB,apA,apC,q4,q6,q9,d1,d2,d3,hadd,e5];refine ih' r1 oadd _ (.inl rfl) _ _ ?_ ?_ ?_ ?_ ?_ ?_ ?_ ?_ ?_
     all_goals first|rfl|assumption| (simp only[ed,Nat.reduceEqDiff,↓reduceIte,q2,q4];done)
   ·rw[if_neg h0];have f1:(r2=0)=False:=ff h0;rcases hq with rfl| ⟨rfl,rfl⟩
    ·refine .inr ⟨rfl,?hh1,?_,?_⟩;rotate_left
     ·simp only[go_sem,apB,apA,apC,q4,q6,q9,d1,d2,d3,hadd,f1];rfl
     ·rfl
    ·simp only[aK]at hadd;refine .inr ⟨rfl,?hh2,?_,?_⟩;rotate_left
     ·simp only[go_sem,apB,apA,apC,q4,q6,q9,d1,d2,d3,hadd,f1];rfl
     ·rfl
theorem auQ{v:Int}{A:List Rt}{xs:List Rd}(ox:∀d∈xs,Ok0 d)(hx:(xs.length:Int)=v)(hA:∀t∈A,VT v t)(hn:A.length<=100000){o2:Ob}(c2:∀l,aO l o2=true)(s:af)(h:ac)(X:Option (Ex×St))(hX:am 0 [4,6] (aD (aj R (aH false) aqj) [1,4,6,31,32,33] [2,4,6] s h)=X)
  (g1:s 1=.sl 3 (zp xs)) (g4:s 4=.ref 4 none 0 0 0) (g6:s 6=.ref 6 none 0 0 0) (g31:s 31=.sl 4 (cU A)) (g32:s 32=I A.length) (g33:s 33=I 0) (k2:h 2=o2) (k4:h 4=.bx zb) (k6:h 6=.bx zb):
  EvO X (aqi xs A aK):=by
 subst hX;exact atI ox hx hA hn c2 A.length 0 (Nat.zero_add _) aK bj.2 zb (.inr ⟨rfl,rfl⟩) s h g1 g4 g6 g31 g32 g33 k2 k4 k6
theorem atJ{a:Rp}{xs:List Rd}(oa:OkP a)(ox:∀d∈xs,Ok0 d)(h2:xs.length<=100000):R F.poly_Eval [bH a,wL xs] []=some (rV (apN a xs),[]):=by
 refine aA ast rfl ?_;have hv:=DO oa;have hc:=atG ox h2;simp only[bH]at hv;unfold apN ars;cases va:vp a with
 |false=>
  rw[va]at hv;rw[Bool.false_and,if_neg Bool.false_ne_true];simp only[aqk,aqG,bH,wL,go_sem,apB,apA,apC,hv];rfl
 |true=>
  rw[va]at hv;by_cases hl:(xs.length:Int)=a.vars
  ·have e1:((xs.length:Int)=a.vars)=True:=eq_true hl;rw[Bool.true_and,decide_eq_true hl,Bool.true_and];cases hav:xs.all vd with
   |false=>
    rw[hav]at hc;rw[if_neg Bool.false_ne_true];simp only[aqk,aqG,bH,wL,go_sem,apB,apA,apC,hv,e1,hc,Bool.not_false,Bool.not_true];rfl
   |true=>
    rw[hav]at hc;rw[if_pos rfl];obtain⟨ka,a0,a8,al⟩:=Ve oa va;have hlo:=auQ ox hl ka.t (by omega) (o2:=.bx [I a.vars,.sl 4 (cU a.terms)]) (fun _=>rfl);simp only[aqk,aqG,bH,wL,go_sem,apB,apA,apC,hv,e1,hc,Bool.not_true];generalize hX:am 0 [4,6] _=X;have hO:=hlo _ _ _ hX rfl rfl rfl rfl rfl rfl rfl rfl rfl;generalize aqi xs a.terms aK=r at hO⊢;obtain⟨r1,r2⟩:=r;rcases hO with⟨h0,hh,c6,rfl,q4,q6,hd⟩| ⟨h0,hh,rfl,q4⟩
    ·have h0':r2=0:=h0;subst h0';rcases hd with rfl| ⟨rfl,hr⟩
     ·simp only[rV,ag,ak,go_sem,apB,apA,apC,q4,q6]
     ·have hr':r1=aK:=hr;subst hr';simp only[go_sem,apB,apA,apC,q4,q6];rfl
    ·cases h0;simp only[go_sem,apB,apA,apC,q4];rfl
  ·have e1:((xs.length:Int)=a.vars)=False:=eq_false hl;rw[Bool.true_and,decide_eq_false hl,Bool.false_and,if_neg Bool.false_ne_true];simp only[aqk,aqG,bH,wL,go_sem,apB,apA,apC,hv,e1];rfl
def pwZ:List Int->List Rd->Int
 |e::es,x::xs=>zI x^e.toNat*pwZ es xs
 |_,_=>1
def dg:List Int->List Rd->Nat
 |e::es,_::xs=>e.toNat+dg es xs
 |_,_=>0
theorem atX:∀ {es:List Int} {xs:List Rd},(∀e∈es,0<=e)->(dg es xs:Int)<=bY es
 |e::es,x::xs,h=>by
  have ih:=atX (es:=es) (xs:=xs) fun y hy=>h y (by simp[hy]);have he:=h e (by simp);show((e.toNat+dg es xs:Nat):Int)<=e+bY es;omega
 |[],xs,h=>by show((0:Nat):Int)<=0;decide
 |e::es,[],h=>by
  have h2:=(arD (l:=e::es) fun y hy=>h y hy).1;show((0:Nat):Int)<=bY (e::es);omega
theorem VT.dg{v:Int}{t:Rt}(vt:VT v t)(xs:List Rd):dg t.exps xs<=32:=by
 have h1:=atX (xs:=xs) fun e he=>(vt.b e he).1;have h2:=vt.d;omega
theorem PH{f:FuncId}{fd:FD}{args:List AV}{o:Ob}{r:AV×List Ob}(hE:dv.E f=none)(hC:dv.C f=some fd)(hk:dv.md.keep f=true)(h1:args.length=fd.np)
  (hz:gM true fd.rs fd.res 1 (aj R (aH true) fd.body (oO args) (upd (fun _=>.dead) 1000 o))=some r):R f args [o]=some r:=by
 refine HU true hE hC hk h1 (by simp) ?_;rw[Px];exact hz
def asW(blk:Option (Ex×St))(id:Nat)(S:af)(v v':Int)(l:List Rt)(e:Int):Option (List Rt)->Prop
 |some r=>∃hh c' l' e',blk=some (.normal,⟨S,hh⟩)/\hh 4=.bx [I 0,.emp]/\hh id=t3 v' c' e'/\(∀a,100<=a->a≠id->hh a=.dead)/\ColE v l r e c' l' e'
 |none=>∃hh,blk=some (.ret,⟨upd (upd (fun _=>.any) 5 (I 9)) 4 (.ref 4 none 0 0 0),hh⟩)/\hh 4=.bx [I 0,.emp]
theorem ColE.nil{v:Int}{l:List Rt}{c:AV}{e:Int}(hc:IsT c l)(he:e=0\/e=9):ColE v l [] e c l e:=by
 refine⟨hc,?_⟩;rcases he with rfl|rfl
 ·exact .inl ⟨rfl,rfl,rfl⟩
 ·exact .inr ⟨rfl,fun h=>by omega⟩
theorem atK{v v':Int}{j:Nat}(hj:(j:Int)<v){A:List Rt}(hA:∀t∈A,VT v t)(hn:A.length<=100000){o2:Ob}(c2:∀ids,aO ids o2=true):
  ∀ (k i:Nat),i+k=A.length->∀ (c:AV) (l:List Rt) (e:Int),IsT c l->(e=0\/e=9)->(e=0->Cl v l/\l.length+k<=1000000)->∀ (s:af) (h:ac),s 1=I (j:Int)->s 4=.ref 4 none 0 0 0->s 6=.ref 2232 none 0 0 0->s 31=.sl 4 (cU A)->s 32=I A.length->s 33=I i->h 2=o2->h 4=.bx [I 0,.emp]->h 2232=t3 v' c e->
  asW (am 1 [4,6] (aD (aj R (aH false) anP) [1,4,6,31,32,33] [2,4,2232] s h)) 2232 (upd (upd (fun _=>.any) 6 (.ref 2232 none 0 0 0)) 4 (.ref 4 none 0 0 0)) v v' l e (ap4 j (A.drop i)):=by
 intro k;induction k with
 |zero=>
  intro i hi c l e hc he hC s h g1 g4 g6 g31 g32 g33 k2 k4 k2232;have e1:((i:Int)< (A.length:Int))=False:=ff (by omega);have ho:=(aqR (v:=v') (e:=e) hc).cl [2,4,2232];have ho2:=c2 [2,4,2232];rw[List.drop_eq_nil_of_le (by omega),ai];refine⟨?hh0,c,l,e,?_,?_,?_,?_,.nil hc he⟩;rotate_left
  ·simp only[anP,go_sem,apE,g1,g4,g6,g31,g32,g33,k2,k4,k2232,ho,ho2,e1];rfl
  ·rfl
  ·rfl
  ·intro a a1 a2;simp only[ed,a2,if_false];grind
 |succ k ih=>
  intro i hi c l e hc he hC s h g1 g4 g6 g31 g32 g33 k2 k4 k2232;have hlt:i<A.length:=by omega
  have e1:((i:Int)< (A.length:Int))=True:=tt (by omega);have e2:aV (cU A) (i:Int)=some (.ipt (eU A[i])):=qk rfl (List.getElem?_eq_getElem hlt);have e5:IntKind.i64.wrap ((i:Int)+1)=((i+1:Nat):Int):=wi (by omega) (by omega);have ho1:=(aqR (v:=v') (e:=e) hc).cl [2,4,2232];have ho2:=c2 [2,4,2232];have vt:=hA _ (List.getElem_mem hlt);rw[List.drop_eq_getElem_cons hlt];have ih':=ih (i+1) (by omega);have hrow:∀q ts,ap4 j (q::ts)=if q.exps.getD j 0=0 then ap4 j ts else(if(jO q.c (aqK (q.exps.getD j 0))).2=0 then(ap4 j ts).map (⟨dec q.exps j,(jO q.c (aqK (q.exps.getD j 0))).1⟩::·)else none):=fun q ts=>rfl
  rw[hrow];generalize A[i]=t at e2 vt⊢;have hfit:=fun hz h0=>asI vt hj hz h0;have hjl:j<t.exps.length:=by have:=vt.len;omega
  have hg:t.exps[j]?=some (t.exps.getD j 0):=by grind
  have hle:=vt.ok.len;obtain⟨x1,x2⟩:=vt.b _ (asm hjl);have hdec:(bw t.exps).set j [I (t.exps.getD j 0-1)]=bw (dec t.exps j):=aua _ _ _;have e3:aV (bw t.exps) (j:Int)=some (.ipt [I (t.exps.getD j 0)]):=lX rfl hg;have e4:(bw t.exps)[j]?=some [I (t.exps.getD j 0)]:=by grind[bw]
  have hint:=aub x1 x2;have hcl:R F.slices_Clone_int_int_ [.sl 1 (bw t.exps)] []=some (.osl 1 (bw t.exps),[]):=by
   cases hx:t.exps with
   |nil=>grind
   |cons x xs=>grind[arL]
  have e7:(0<=(j:Int)/\(j:Int)< (t.exps.length:Int))=True:=eq_true ⟨by omega,by omega⟩;have e8:IntKind.i64.wrap (t.exps.getD j 0-1)=t.exps.getD j 0-1:=i64_in _ ⟨by omega,by omega⟩;have k9:(bw (dec t.exps j)).take t.exps.length=bw (dec t.exps j):=List.take_of_length_le (by simp_all[abI,arF,Nat.le_refl]);have k8:=arF t.exps j;generalize t.exps.getD j 0=z at hdec e3 e4 e8 hint hfit x1 x2⊢;generalize dec t.exps j=u at hdec hfit k9 k8⊢;rw[ai];generalize aD _ _ _=L at ih'⊢;simp only[eU]at e2;by_cases hz:z=0
  ·subst hz;rw[if_pos rfl];simp only[anP,go_sem,apB,apA,apC,apE,g1,g4,g6,g31,g32,g33,k2,k4,k2232,ho1,ho2,e1,e2,e3,e5];refine ih' c l e hc he (fun h=>by grind) _ _ ?_ ?_ ?_ ?_ ?_ ?_ ?_ ?_ ?_
   all_goals first|rfl|assumption
  ·have f0:(z=0)=False:=eq_false hz;rw[if_neg hz];obtain⟨o1,o2',o3⟩:=asH (e:=z) (by omega) x2;have hmul:=SJ vt.c o1;generalize aqK z=q at hint hmul hfit⊢;generalize jO t.c q=m at hmul hfit⊢;obtain⟨m,em⟩:=m;simp only[rV,ag,ak]at hmul hint;by_cases hm:em=0
   ·subst hm;have vx:=hfit hz rfl;rw[if_pos rfl];obtain⟨c1,l1,e1',s1,s2,s3,s4,s5⟩:=ColE.stepN (t:=⟨u,m⟩) hc he k (fun h=>by grind) vx (v':=v');have ih2:=ih' c1 l1 e1' s2 s3 s4;have hcall:=fun(h:ac) (hh:h 2232=t3 v' c e) (d:Nat)=>pA (aaL.1.2.1 false) rfl (arN (d:=d) hh hc s2 s1);simp only[ag,ak]at hcall;have hpush:∀ (X:Option (Ex×St)) (S:af),asW X 2232 S v v' l1 e1' (ap4 j (A.drop (i+1)))->asW X 2232 S v v' l e ((ap4 j (A.drop (i+1))).map (⟨u,m⟩::·)):=fun X S h=>by
     cases hr:ap4 j (A.drop (i+1))with
     |none=>rw[hr]at h;exact h
     |some r=>
      rw[hr]at h;obtain⟨hh,c',l',e',q1,q2,q3,q4,q5⟩:=h;exact⟨hh,c',l',e',q1,q2,q3,q4,s5 _ _ _ _ q5⟩
    simp only[anP,go_sem,apB,apA,apC,apD,apE,g1,g4,g6,g31,g32,g33,k2,k4,k2232,ho1,ho2,e1,e2,e3,e4,f0,hint,hmul,hcl,e7,e8,hdec,Int.toNat_natCast,Nat.zero_add,Nat.le_refl,k8,k9];rw[hcall _ rfl];simp only[go_sem,apE,e5];refine hpush _ _ (ih2 _ _ ?_ ?_ ?_ ?_ ?_ ?_ ?_ ?_ ?_)
    all_goals first|rfl|assumption
   ·have f1:(em=0)=False:=ff hm;rw[if_neg hm];refine⟨?hh1,?_,?_⟩;rotate_left
    ·simp only[anP,go_sem,apB,apA,apC,apD,apE,g1,g4,g6,g31,g32,g33,k2,k4,k2232,ho1,ho2,e1,e2,e3,f0,hint,hmul,f1];rfl
    ·rfl
theorem auR{v v':Int}{j:Nat}(hj:(j:Int)<v){A:List Rt}(hA:∀t∈A,VT v t)(hn:A.length<=100000){o2:Ob}(c2:∀ids,aO ids o2=true)(s:af)(h:ac)(X:Option (Ex×St))(hX:am 1 [4,6] (aD (aj R (aH false) anP) [1,4,6,31,32,33] [2,4,2232] s h)=X)
  (g1:s 1=I (j:Int)) (g4:s 4=.ref 4 none 0 0 0) (g6:s 6=.ref 2232 none 0 0 0) (g31:s 31=.sl 4 (cU A)) (g32:s 32=I A.length) (g33:s 33=I 0) (k2:h 2=o2) (k4:h 4=.bx [I 0,.emp]) (k2232:h 2232=.bx [I v',.emp,I 0]):
  asW X 2232 (upd (upd (fun _=>.any) 6 (.ref 2232 none 0 0 0)) 4 (.ref 4 none 0 0 0)) v v' [] 0 (ap4 j A):=by
 subst hX;exact atK hj hA hn c2 A.length 0 (Nat.zero_add _) .emp [] 0 (.inr ⟨rfl,rfl⟩) (.inl rfl) (fun _=>⟨Cl.nil _,by show 0+_<=_;omega⟩) s h g1 g4 g6 g31 g32 g33 k2 k4 k2232
theorem ate{a:Rp}{i:Int}(va:vp a=false):aqM a i=(p0,1):=by
 unfold aqM;rw[va,if_neg Bool.false_ne_true]
theorem arQ{a:Rp}{i:Int}(va:vp a=true)(h:i<0\/a.vars<=i):aqM a i=(p0,2):=by
 unfold aqM;rw[if_pos va,if_pos h]
theorem arR{a:Rp}{j:Nat}(va:vp a=true)(h:(j:Int)<a.vars):aqM a (j:Int)=match ap4 j a.terms with|none=>(p0,9)|some r=>(⟨a.vars,r⟩,0):=by
 unfold aqM;rw[if_pos va,if_neg (by omega),Int.toNat_natCast]
 all_goals (cases ap4 j a.terms<;>rfl)
theorem asX{a:Rp}{i:Int}(oa:OkP a):R F.poly_Derive [bH a,I i] []=some (pV (aqM a i),[]):=by
 refine aA arY rfl ?_;have v1:=DO oa;simp only[bH]at v1;cases va:vp a with
 |false=>
  rw[va]at v1;rw[ate va];simp only[ap5,aqs,bH,go_sem,apB,apA,apC,v1];rfl
 |true=>
  rw[va]at v1;obtain⟨ka,a0,a8,al⟩:=Ve oa va;by_cases h0:i<0
  ·have e0:(i<0)=True:=eq_true h0;rw[arQ va (.inl h0)];simp only[ap5,aqs,bH,go_sem,apB,apA,apC,v1,e0];rfl
  ·have e0:(i<0)=False:=eq_false h0;obtain⟨j,rfl⟩:=Int.eq_ofNat_of_zero_le (by omega:0<=i);by_cases h1:a.vars<=(j:Int)
   ·have e1:(a.vars<=(j:Int))=True:=eq_true h1;rw[arQ va (.inr h1)];simp only[ap5,aqs,bH,go_sem,apB,apA,apC,v1,e0,e1];rfl
   ·have e1:(a.vars<=(j:Int))=False:=eq_false h1;rw[(arR va (by omega)).trans (asV (i:=j) oa va (by omega))];have hemp:=asi (v:=a.vars);have hl:=auR (v:=a.vars) (v':=a.vars) (j:=j) (by omega) ka.t (by omega) (o2:=.bx [I a.vars,.sl 4 (cU a.terms)]) (fun _=>rfl);simp only[ap5,aqs,bH,go_sem,apB,apA,apC,v1,e0,e1,hemp,arP];generalize hX:am 1 _ _=X;have hM:=hl _ _ _ hX rfl rfl rfl rfl rfl rfl rfl rfl rfl;cases hr:ap4 j a.terms with
    |none=>
     rw[hr]at hM;obtain⟨hh,rfl,q4⟩:=hM;simp only[Option.bind_none,aef,pV,p0,bH,go_sem,apB,apA,apC,q4];rfl
    |some r=>
     rw[hr]at hM;obtain⟨hh,c',l',e',rfl,q4,qc,qd,qe⟩:=hM;obtain⟨o,hdn⟩:=arO (d:=73) qc qe.c (by simp[dK,qd,cY]);have hd':=pA (ac0.1.2.1 false) rfl hdn;rw[qe.fin]at hd';rw[Option.bind_some];generalize aef a.vars (B5 [] r)=z at hd'⊢;obtain⟨z1,z2⟩:=z;simp only[pV,bH]at hd';simp only[pV,bH,go_sem,apB,apA,apC,apE,q4,hd']
structure Bf (v:Int) (l A:List Rt):Prop where
 cl:Cl v l
 lt:∀q∈l,∀t∈A,dH q.exps t.exps<0
theorem Bf.nil{v:Int}(A:List Rt):Bf v [] A:=⟨Cl.nil _,fun q h=>by grind⟩
theorem Bf.drop{v:Int}{l A:List Rt}{t:Rt}(h:Bf v l (t::A)):Bf v l A:=⟨h.cl,fun q hq x hx=>h.lt q hq x (by grind)⟩
theorem Cl.tail{v:Int}{l:List Rt}{t:Rt}(h:Cl v (t::l)):Cl v l:=⟨fun q hq=>h.t q (by grind),(List.pairwise_cons.1 h.s).2⟩
theorem Bf.push{v:Int}{l A:List Rt}{t:Rt}{d:Rd}(h:Bf v l (t::A))(hA:Cl v (t::A))(vt:VT v ⟨t.exps,d⟩):Bf v (l++[⟨t.exps,d⟩]) A:=by
 refine⟨⟨fun q hq=>?_,?_⟩,fun q hq x hx=>?_⟩
 ·rcases List.mem_append.1 hq with h1|h1
  ·exact h.cl.t q h1
  grind
 ·rw[List.pairwise_append];refine⟨h.cl.s,List.pairwise_singleton _ _,fun q hq x hx=>?_⟩;rw[List.mem_singleton.1 hx];exact h.lt q hq t (by simp)
 ·rcases List.mem_append.1 hq with h1|h1
  ·exact h.lt q h1 x (by grind)
  ·rw[List.mem_singleton.1 h1];exact(List.pairwise_cons.1 hA.s).1 x hx
def Ks(blk:Option (Ex×St))(i1 i2:Nat)(S:af)(v':Int)(l1 l2 r1 r2:List Rt):Prop:=
 ∃hh c1 c2,blk=some (.normal,⟨S,hh⟩)/\hh 4=.bx [I 0,.emp]/\hh 5=.bx [I 0,.emp]/\hh i1=t3 v' c1 0/\hh i2=t3 v' c2 0/\IsT c1 (l1++r1)/\IsT c2 (l2++r2)
theorem Ks.p1{blk:Option (Ex×St)}{i1 i2:Nat}{S:af}{v':Int}{l1 l2 r1 r2:List Rt}{t:Rt}(h:Ks blk i1 i2 S v' (l1++[t]) l2 r1 r2):Ks blk i1 i2 S v' l1 l2 (t::r1) r2:=by
 obtain⟨hh,c1,c2,h1,h2,h3,h4,h5,h6,h7⟩:=h;exact⟨hh,c1,c2,h1,h2,h3,h4,h5,by rwa[List.append_cons],h7⟩
theorem Ks.p2{blk:Option (Ex×St)}{i1 i2:Nat}{S:af}{v':Int}{l1 l2 r1 r2:List Rt}{t:Rt}(h:Ks blk i1 i2 S v' l1 (l2++[t]) r1 r2):Ks blk i1 i2 S v' l1 l2 r1 (t::r2):=by
 obtain⟨hh,c1,c2,h1,h2,h3,h4,h5,h6,h7⟩:=h;exact⟨hh,c1,c2,h1,h2,h3,h4,h5,h6,by rwa[List.append_cons]⟩
def bh(ds:List Int)(cs:List Ri)(p:Int):Ob:=.bx [.osl 1 (bw ds),.osl 7 (aY cs),I p]
def G0:List Int->Int->Int
 |[],n=>n
 |d::l,n=>G0 l (n*(d+1))
theorem l8(a b:AV)(k:Nat)(r:List (List AV)):jl 0 (.bx [.osl k r,a,b])=some (k,r):=rfl
theorem su(h:ac)(n:Nat)(g:Bool)(i j:Nat)(r:List (List AV)):lh h n g 1 i j (some (1,r))=(r[i]?).bind fun row=>(jR n g row j).map fun a=>(a,h,[]):=rfl
theorem Z8{ds:List Int}{cs:List Ri}{p:Int}{m:Nat}(hm:m<=ds.length)(h8:m<=1000)(hb:∀d∈ds,0<=d/\d<=32):
  ∀ (k i:Nat),i+k=m->∀ (n:Int),0<=n->n*33^k<=10000000000000->∀ (s:af) (h:ac),s 5=I n->s 13=.rsl 1000 (some 0) 1 0 m->s 14=I m->s 15=I i->h 1000=bh ds cs p->
  ∃hh,am 0 [5] (aD (aj R (aH true) gp) [5,13,14,15] [1000] s h)=some (.normal,⟨upd (fun _=>.any) 5 (I (G0 ((ds.take m).drop i) n)),hh⟩)/\hh 1000=bh ds cs p:=by
 intro k;induction k with
 |zero=>
  intro i hi n h0 hn s h g5 g13 g14 g15 k1000;have e1:((i:Int)< (m:Int))=False:=ff (by omega);rw[List.drop_eq_nil_of_le (by grind),ai];refine⟨?hh0,?_,?_⟩;rotate_left
  ·simp only[gp,bh,go_sem,apE,g5,g13,g14,g15,k1000,e1];rfl
  ·rfl
 |succ k ih=>
  intro i hi n h0 hn s h g5 g13 g14 g15 k1000;have hlt2:i< (ds.take m).length:=by grind
  have e1:((i:Int)< (m:Int))=True:=tt (by omega);have e2:(bw ds)[i]?=some [I (ds.take m)[i]]:=by
   unfold bw;rw[List.getElem?_map,List.getElem_take,List.getElem?_eq_getElem (by omega)];rfl
  have e5:IntKind.i64.wrap ((i:Int)+1)=((i+1:Nat):Int):=wi (by omega) (by omega);rw[List.drop_eq_getElem_cons hlt2];have hd:=hb (ds.take m)[i] (List.mem_of_mem_take (List.getElem_mem hlt2));generalize(ds.take m)[i]=d at e2 hd⊢;have e6:(0<=(i:Int))=True:=tt (by omega);have e3:IntKind.i64.wrap (d+1)=d+1:=i64_in _ ⟨by omega,by omega⟩;have hn2:n*(d+1)*33^k<=n*33^ (k+1):=by
   rw[Int.pow_succ,Int.mul_comm _ 33,←Int.mul_assoc];exact Int.mul_le_mul_of_nonneg_right (Int.mul_le_mul_of_nonneg_left (by omega) h0) (Int.pow_nonneg (by decide))
  have hp1:(1:Int)<=33^k:=by
   have:=Int.pow_pos (n:=33) (m:=k) (by decide);omega
  have hn0:0<=n*(d+1):=Int.mul_nonneg h0 (by omega);have hn3:n*(d+1)<=10000000000000:=by
   have:=Int.mul_le_mul_of_nonneg_left hp1 hn0;omega
  have e4:IntKind.i64.wrap (n*(d+1))=n*(d+1):=i64_in _ ⟨by omega,by omega⟩;have ih':=ih (i+1) (by omega) (n*(d+1)) hn0 (by omega);rw[ai];simp only[bh]at k1000;simp only[gp,go_sem,apE,g5,g13,g14,g15,k1000,e1,e2,e3,e4,e5,e6,Int.toNat_natCast,Nat.zero_add,l8,su];exact ih' _ _ rfl rfl rfl rfl rfl
theorem agw{ds:List Int}{cs:List Ri}{p:Int}{m:Nat}(hm:m<=ds.length)(h8:m<=8)(hb:∀d∈ds,0<=d/\d<=32)(s:af)(h:ac)(X:Option (Ex×St))(hX:am 0 [5] (aD (aj R (aH true) gp) [5,13,14,15] [1000] s h)=X)(g5:s 5=I 1)(g13:s 13=.rsl 1000 (some 0) 1 0 m)(g14:s 14=I m)(g15:s 15=I 0)(k1000:h 1000=bh ds cs p):
  ∃hh,X=some (.normal,⟨upd (fun _=>.any) 5 (I (G0 (ds.take m) 1)),hh⟩)/\hh 1000=bh ds cs p:=by
 subst hX;exact Z8 hm (by omega) hb m 0 (Nat.zero_add _) 1 (by decide) (by
  have:(33:Int)^m<=33^8:=by
   have h1:33^m<=33^8:=Nat.pow_le_pow_right (by decide) h8;grind
  omega) s h g5 g13 g14 g15 k1000
theorem xu(ds:List Int):(bw ds).length=ds.length:=by simp[bw]
theorem acn{ds:List Int}{cs:List Ri}{p:Int}{m:Nat}(hm:m<=ds.length)(h8:m<=8)(hb:∀d∈ds,0<=d/\d<=32):R F.bound_grid_step [.ref 1000 none 0 0 0,I m] [bh ds cs p]=some (I (G0 (ds.take m) 1),[bh ds cs p]):=by
 refine PH Fk Fj (tv false) rfl ?_;have hl:=agw (ds:=ds) (cs:=cs) (p:=p) hm h8 hb;have e1:gh 1 (.rsl 1000 (some 0) 1 0 ds.length) none (some (I (m:Int))) none=some (.rsl 1000 (some 0) 1 0 m):=by
  grind[gh,nO,lB]
 simp only[o7,wG,go_sem,apB,apA,bh,xu,e1];generalize hX:am 0 [5] _=X;obtain⟨hh,rfl,q⟩:=hl _ _ _ hX rfl rfl rfl rfl rfl;exact Vj rfl q rfl (by rfl) (by rfl)
def CE(c1 c2:ef):Prop:=∀f a hs r,c1 f a hs=some r->c2 f a hs=some r
section
variable {c1 c2:ef} {md:Mode}
theorem RP(hc:CE c1 c2){h:ac}{d:Nat}{zas:List AV}{f:AV}{r:R3}(hz:eP c1 md h d zas f=some r):eP c2 md h d zas f=some r:=by
 cases f<;>simp only[eP]at hz⊢ <;>try (cases hz;done)
 simp only[Option.bind_eq_some_iff]at hz⊢;obtain⟨p,e1,e2⟩:=hz;unfold mj at e2⊢;split at e2
 ·rename_i hcc;simp only[Option.bind_eq_some_iff]at e2;obtain⟨q,e3,e4⟩:=e2;refine⟨p,e1,?_⟩;rw[if_pos hcc];simp only[Option.bind_eq_some_iff];exact⟨q,hc _ _ _ _ e3,e4⟩
 ·cases e2
theorem Iy(hc:CE c1 c2){h:ac}{d:Nat}{zas:List AV}{f:AV}{r:R3}(hz:bI c1 md h d zas f=some r):bI c2 md h d zas f=some r:=by
 unfold bI at hz⊢;split at hz
 ·rename_i hb;rw[if_pos hb];cases f<;>simp only[MN]at hz⊢ <;>try (cases hz;done)
  simp only[Option.bind_eq_some_iff]at hz⊢;obtain⟨p,e1,q,e3,e4⟩:=hz;exact⟨p,e1,q,hc _ _ _ _ e3,e4⟩
 ·rename_i hb;rw[if_neg hb];exact RP hc hz
theorem LP(hc:CE c1 c2){d:Nat}{op:AOp}{s:af}{h:ac}{r:R3}(hz:step c1 md d op s h=some r):step c2 md d op s h=some r:=by
 cases op with
 |call f zas=>exact Iy hc hz
 |callC f zas=>
  simp only[step,Option.bind_eq_some_iff]at hz⊢;obtain⟨q,e1,e2⟩:=hz;exact⟨q,Iy hc e1,e2⟩
 |_=>exact hz
theorem LQ(hc:CE c1 c2){d:Option Nat}{op:AOp}{s:af}{h:ac}{t:St}(hz:aqv md.nm s d (step c1 md (d.getD 0) op s h)=some t):aqv md.nm s d (step c2 md (d.getD 0) op s h)=some t:=by
 cases hs:step c1 md (d.getD 0) op s h with
 |none=>rw[hs]at hz;cases hz
 |some r=>
  rw[hs]at hz;rw[LP hc hs];exact hz
theorem Vk(hc:CE c1 c2){o:COp}{s:af}{h:ac}{t:St}(hz:iZ c1 md o s h=some t):iZ c2 md o s h=some t:=by
 unfold iZ at hz⊢;cases hg:o.g with
 |none=>rw[hg]at hz;exact LQ hc hz
 |some g=>
  rw[hg]at hz;simp only at hz⊢;unfold aqQ at hz⊢;split at hz
  ·split at hz
   ·rename_i hb;simp only[if_pos hb];exact LQ hc hz
   ·rename_i hb;simp only[if_neg hb];exact hz
  ·exact hz
  ·cases hz
theorem yG(hc:CE c1 c2):∀ {l:List COp} {s:af} {h:ac} {t:St},aC c1 md l s h=some t->aC c2 md l s h=some t
 |[],s,h,t,hz=>hz
 |o::l,s,h,t,hz=>by
  simp only[aC,aT]at hz;split at hz
  ·cases hz
  ·rename_i t1 ht1;simp only[aC,aT,Vk hc ht1,yG hc hz]
theorem Iz(hc:CE c1 c2){d:Option Nat}{op:AOp}{s:af}{h:ac}{f:ac->Fp}{t:St×Fp}(hz:jS s d f (step c1 md (d.getD 0) op s h)=some t):jS s d f (step c2 md (d.getD 0) op s h)=some t:=by
 cases hs:step c1 md (d.getD 0) op s h with
 |none=>rw[hs]at hz;cases hz
 |some r=>
  rw[hs]at hz;rw[LP hc hs];exact hz
theorem Vl(hc:CE c1 c2){o:COp}{s:af}{h:ac}{t:St×Fp}(hz:df c1 md o s h=some t):df c2 md o s h=some t:=by
 unfold df at hz⊢;cases hg:o.g with
 |none=>rw[hg]at hz;exact Iz hc hz
 |some g=>
  rw[hg]at hz;simp only at hz⊢;unfold mo at hz⊢;split at hz
  ·split at hz
   ·rename_i hb;simp only[if_pos hb];exact Iz hc hz
   ·rename_i hb;simp only[if_neg hb];exact hz
  ·exact hz
  ·cases hz
theorem DZ(hc:CE c1 c2):∀ {l:List COp} {s:af} {h:ac} {t:St×List Fp},fF c1 md l s h=some t->fF c2 md l s h=some t
 |[],s,h,t,hz=>hz
 |o::l,s,h,t,hz=>by
  simp only[fF,Option.bind_eq_some_iff]at hz;obtain⟨r,e1,q,e2,e3⟩:=hz;simp only[fF,Vl hc e1,DZ hc e2,Option.bind_some,e3]
theorem Vm(hc:CE c1 c2){l:List COp}{ps:List (Nat×Nat)}{s:af}{h:ac}{t:St}(hz:mq c1 md l ps s h=some t):mq c2 md l ps s h=some t:=by
 unfold mq at hz⊢;cases hb:uZ ps with
 |none=>
  rw[hb]at hz;simp only[vD,Option.bind_eq_some_iff]at hz;obtain⟨q,e1,e2⟩:=hz;simp only[vD,DZ hc e1,Option.bind_some,e2]
 |some b=>
  rw[hb]at hz;simp only[Bl,Option.bind_eq_some_iff]at hz;obtain⟨q,e1,e2⟩:=hz;split at e2
  ·rename_i hps;simp only[aT]at e2;split at e2
   ·cases e2
   ·rename_i t1 ht1;simp only[Bl,DZ hc e1,Option.bind_some,if_pos hps,ht1,aT,yG hc e2]
  ·cases e2
theorem D0{b1 b2:af->ac->Option (Ex×St)}{ks hs:List Nat}(ih:∀ {s:af} {h:ac} {r:Ex×St},b1 s h=some r->b2 s h=some r):
  ∀ (m:Nat) {j:Nat},m<=j->∀ {s:af} {h:ac} {r:Ex×St},nR b1 ks hs m s h=some r->nR b2 ks hs j s h=some r
 |0,j,hj,s,h,r,hz=>by simp[nR]at hz
 |m+1,j,hj,s,h,r,hz=>by
  obtain⟨j,rfl⟩:∃j',j=j'+1:=⟨j-1,by omega⟩;simp only[nR]at hz⊢;split at hz
  ·rename_i hc;rw[if_pos hc];cases hb:b1 (mk .any (fun i=>eN hs (s i)) ks) (mk .dead h hs)with
   |none=>rw[hb]at hz;cases hz
   |some q=>
    rw[hb]at hz;rw[ih hb];obtain⟨ex,t⟩:=q;cases ex with
    |normal=>exact D0 ih m (by omega) hz
    |exit id=>exact hz
    |ret=>exact hz
  ·cases hz
theorem gI(hc:CE c1 c2){lf lf':Nat}(hl:lf<=lf'):∀ (c:Cmd) {s:af} {h:ac} {r:Ex×St},bF c1 md lf c s h=some r->bF c2 md lf' c s h=some r
 | .skip,s,h,r,hz=>hz
 | .ops ks l,s,h,r,hz=>by
  simp only[bF,aT]at hz;split at hz
  ·cases hz
  ·rename_i t1 ht1;simp only[bF,yG hc ht1,aT];exact hz
 | .dops ks l ps,s,h,r,hz=>by
  simp only[bF,aT]at hz;split at hz
  ·cases hz
  ·rename_i t1 ht1;simp only[bF,Vm hc ht1,aT];exact hz
 | .seq a b,s,h,r,hz=>by
  simp only[bF,bL]at hz;split at hz
  ·cases hz
  ·rename_i t1 ht1;simp only[bF,bL,gI hc hl a ht1,gI hc hl b hz]
  ·rename_i i t1 ht1;simp only[bF,bL,gI hc hl a ht1];exact hz
  ·rename_i t1 ht1;simp only[bF,bL,gI hc hl a ht1];exact hz
 | .cond c a b,s,h,r,hz=>by
  simp only[bF,mr]at hz;split at hz
  ·rename_i t ht;cases t with
   |true=>simp only[bF,mr,ht,if_true];exact gI hc hl a hz
   |false=>simp only[bF,mr,ht,Bool.false_eq_true,if_false];exact gI hc hl b hz
  ·cases hz
 | .block id ks a,s,h,r,hz=>by
  simp only[bF,am]at hz;split at hz
  ·cases hz
  ·rename_i t1 ht1;simp only[bF,am,gI hc hl a ht1];exact hz
  ·rename_i i t1 ht1;simp only[bF,am,gI hc hl a ht1];exact hz
  ·rename_i t1 ht1;simp only[bF,am,gI hc hl a ht1];exact hz
 | .loop ks hs a,s,h,r,hz=>by
  simp only[bF]at hz⊢;exact D0 (fun hh=>gI hc hl a hh) lf hl hz
 | .exit id,s,h,r,hz=>hz
 | .ret,s,h,r,hz=>hz
 | .frz is a,s,h,r,hz=>by
  simp only[bF,aT]at hz;split at hz
  ·cases hz
  ·rename_i t1 ht1;simp only[bF,aT,ht1];exact gI hc hl a hz
end
theorem aei:Option.any aW (some AV.emp)=false:=rfl
theorem aej{h:ac}{id id2 k n:Nat}{rows:List (List AV)}{a:AV}{z:Int}(h1:h id2=.ar k rows)(hn:n=rows.length)(h2:h id=.bx [.any,.any,.any])(hne:id≠id2):
  F7 id 0 [.rsl id2 none k 0 n,.emp,I z] (a,h,[])=some (a,upd (upd (upd (upd h id2 .dead) id (.bx [.osl k rows,.any,.any])) id (.bx [.osl k rows,.emp,.any])) id (.bx [.osl k rows,.emp,I z]),[(id2,false)]):=by
 have h3:upd h id2 .dead id=.bx [.any,.any,.any]:=by
  simp_all[upd,if_neg]
 have e1:∀ (g:ac) o,upd g id o id=o:=fun g o=>by simp_all[upd,if_pos]
 have k1:∀K,nY K .emp=.emp:=fun K=>rfl;have k2:∀K,nY K (I z)=I z:=fun K=>rfl
 simp_all[aW,aB,I,F7,mU,Ch,K3,F6,wN]
def xg:List Int->Int->Option Int
 |[],n=>some n
 |d::l,n=>if 400<n*(d+1)then none else xg l (n*(d+1))
def Gr2(blk:Option (Ex×St))(o2 g:Ob):Option Int->Prop
 |some n=>∃hh,blk=some (.normal,⟨upd (upd (upd (fun _=>.any) 11 (I n)) 6 (.ref 24 none 0 0 0)) 2 (.ref 2 none 0 0 0),hh⟩)/\hh 2=o2/\hh 24=g/\(∀a,a≠2->a≠24->hh a=.dead)
 |none=>∃hh,blk=some (.ret,⟨upd (upd (fun _=>.any) 5 (B false)) 4 (.v (.pointer none)),hh⟩)
theorem Z9{ds:List Int}{p:Int}{m:Nat}(hm:m=ds.length)(h8:m<=1000)(hb:∀d∈ds,0<=d/\d<=32){o2:Ob}(c2:∀l,aO l o2=true):
  ∀ (k i:Nat),i+k=m->∀ (n:Int),0<=n->n<=400->∀ (s:af) (h:ac),s 2=.ref 2 none 0 0 0->s 6=.ref 24 none 0 0 0->s 11=I n->s 60=.rsl 24 (some 0) 1 0 m->s 61=I m->s 62=I i->h 2=o2->h 21=.dead->h 24=.bx [.osl 1 (bw ds),.emp,I p]->h 2624=.dead->
  Gr2 (am 4 [2,6,11] (aD (aj R (aH false) eZ) [2,6,11,60,61,62] [2,21,24,2624] s h)) o2 (.bx [.osl 1 (bw ds),.emp,I p]) (xg (ds.drop i) n):=by
 intro k;induction k with
 |zero=>
  intro i hi n h0 hn s h g2 g6 g11 g60 g61 g62 k2 k21 k24 k2624;have e1:((i:Int)< (m:Int))=False:=ff (by omega);have hc:=c2 [2,21,24,2624];rw[List.drop_eq_nil_of_le (by omega),ai];refine⟨?hh0,?_,?_,?_,?_⟩;rotate_left
  ·simp only[eZ,go_sem,apE,g2,g6,g11,g60,g61,g62,k2,k21,k24,k2624,hc,e1];rfl
  all_goals simp_all[ed,if_false,ite_self]
 |succ k ih=>
  intro i hi n h0 hn s h g2 g6 g11 g60 g61 g62 k2 k21 k24 k2624;have hlt:i<ds.length:=by omega
  have e1:((i:Int)< (m:Int))=True:=tt (by omega);have e2:(bw ds)[i]?=some [I ds[i]]:=by
   grind[bw]
  have e5:IntKind.i64.wrap ((i:Int)+1)=((i+1:Nat):Int):=wi (by omega) (by omega);have hc:=c2 [2,21,24,2624];rw[List.drop_eq_getElem_cons hlt];have hd:=hb ds[i] (List.getElem_mem hlt);generalize ds[i]=d at e2 hd⊢;have e6:(0<=(i:Int))=True:=tt (by omega);have e3:IntKind.i64.wrap (d+1)=d+1:=i64_in _ ⟨by omega,by omega⟩;have hn0:0<=n*(d+1):=Int.mul_nonneg h0 (by omega);have hn3:n*(d+1)<=400*33:=Int.mul_le_mul hn (by omega) (by omega) (by decide);have e4:IntKind.i64.wrap (n*(d+1))=n*(d+1):=i64_in _ ⟨by omega,by omega⟩;have ih':=ih (i+1) (by omega) (n*(d+1)) hn0;have hrow:xg (d::ds.drop (i+1)) n=if 400<n*(d+1)then none else xg (ds.drop (i+1)) (n*(d+1)):=rfl
  rw[hrow,ai];by_cases hq:400<n*(d+1)
  ·have e7:(400<n*(d+1))=True:=eq_true hq;rw[if_pos hq];refine⟨?hh1,?_⟩;rotate_left
   ·simp only[eZ,go_sem,apE,g2,g6,g11,g60,g61,g62,k2,k21,k24,k2624,hc,e1,e2,e3,e4,e6,e7,Int.toNat_natCast,Nat.zero_add,l8,su];rfl
  ·have e7:(400<n*(d+1))=False:=eq_false hq;simp only[eZ,go_sem,apE,g2,g6,g11,g60,g61,g62,k2,k21,k24,k2624,hc,e1,e2,e3,e4,e5,e6,e7,Int.toNat_natCast,Nat.zero_add,l8,su];refine ih' (by omega) _ _ ?_ ?_ ?_ ?_ ?_ ?_ ?_ ?_ ?_ ?_
   all_goals first|rfl|assumption
theorem agx{ds:List Int}{p:Int}{m:Nat}(hm:m=ds.length)(h8:m<=1000)(hb:∀d∈ds,0<=d/\d<=32){o2:Ob}(c2:∀l,aO l o2=true)(s:af)(h:ac)(X:Option (Ex×St))(hX:am 4 [2,6,11] (aD (aj R (aH false) eZ) [2,6,11,60,61,62] [2,21,24,2624] s h)=X)(g2:s 2=.ref 2 none 0 0 0)(g6:s 6=.ref 24 none 0 0 0)(g11:s 11=I 1)(g60:s 60=.rsl 24 (some 0) 1 0 m)(g61:s 61=I m)(g62:s 62=I 0)(k2:h 2=o2)(k21:h 21=.dead)(k24:h 24=.bx [.osl 1 (bw ds),.emp,I p])(k2624:h 2624=.dead):
  Gr2 X o2 (.bx [.osl 1 (bw ds),.emp,I p]) (xg ds 1):=by
 subst hX;exact Z9 hm h8 hb c2 m 0 (Nat.zero_add _) 1 (by decide) (by decide) s h g2 g6 g11 g60 g61 g62 k2 k21 k24 k2624
theorem aco(h:ac)(i:Nat)(xs:List AV)(a b:AV)(r:List (List AV)):Bk h 1 24 0 1 i 0 xs [] (.bx [.osl 1 r,a,b])=(nQ 1 1 i 0 xs 1 r).map fun q=>(.und,upd h 24 (.bx [.osl 1 q,a,b]),[]):=rfl
theorem D3{f:FuncId}{h:ac}{d id:Nat}{zas as':List AV}{o o':Ob}{res:AV}(hm:(aH false).m f=[])(hk:(aH false).keep f=true)(hn:bv ((aH false).sh f) (.ref id none 0 0 0::zas)=.ref id none 0 0 0::as')(hd:zas.all dat=true)(hd':as'.all dat=true)
  (hh:h id=o) (ho:OC o) (ho':OC o') (hb:bf o=true->bf o'=true) (hR:R f (.ref 1000 none 0 0 0::as') [o]=some (res,[o'])) (hr:RT res) (h8:cP res<=8) (hfr:dK h (2000+8*d) (cP res)=true):
  bI R (aH false) h d (.ref id none 0 0 0::zas) (.fn f [] [])=some (res,upd h id o',[]):=by
 have h1:cr h [] (.ref id none 0 0 0::zas)=some (.ref id none 0 0 0::zas,h,[]):=by
  simp only[cr,de,Option.bind_some,List.tail_nil,E3 h hd,List.append_nil]
 have hp:bV [] ((AV.ref id none 0 0 0::zas).flatMap cj)=[id]:=by
  rw[List.flatMap_cons,GZ fun x hx=>S7 (List.all_eq_true.1 hd x hx)];rfl
 have hre:cq h 40 [id] 0=[id]:=by
  simp[cq,hh,ho.ids,bV]
 have h3:bq [id] id=1000:=by simp[bq]
 have hall:(AV.ref id none 0 0 0::as').all (aZ [id])=true:=by
  grind[aZ,bm,X1]
 have hmap:(AV.ref id none 0 0 0::as').map (ey (bq [id]))=.ref 1000 none 0 0 0::as':=by
  rw[List.map_cons,(List.map_congr_left (g:=fun c=>c) fun x hx=>S8 (List.all_eq_true.1 hd' x hx) _).trans (List.map_id' as')];grind[ey,lD]
 have hob:([id].map fun a=>dp (bq [id]) (h a))=[o]:=by simp[hh,ho.ren]
 have hids:([id].all fun a=>aO [id] (h a)&&!cY (h a))=true:=by simp[hh,ho.cl,ho.nd]
 unfold bI;rw[if_neg (by grind[sy])];simp only[eP,hm,List.nil_append,List.append_nil,h1,Option.bind_some,hp,hre,hn];unfold mj;rw[hall,hids,hmap,hob,hR,Bool.and_self,if_pos rfl,Option.bind_some,hk,hm,uT];unfold gz;have hbf:fw h [] [id] [o']=true:=by
  have:=ho'.nd;grind[bf,fw]
 have hend:yO h [id] [] (res,[o'])=true:=by
  simp[yO,Nl,hr.ok,ho'.cl]
 rw[if_pos ⟨rfl,by simp,h8,hfr,hbf,hend⟩];simp[eM,aqL,hr.mat,hr.ren,ho'.ren]
theorem bB(ds:List Int)(cs:List Ri)(p:Int):OC (bh ds cs p):=⟨fun _=>rfl,rfl,fun _=>rfl,rfl⟩
theorem akE(z:Int):RT (I z):=⟨fun _=>rfl,fun _ _=>rfl,fun _=>rfl⟩
theorem D4{ds:List Int}{cs:List Ri}{p:Int}{m:Nat}(hm:m<=ds.length)(h8:m<=8)(hb:∀d∈ds,0<=d/\d<=32){h:ac}{d id:Nat}(hh:h id=bh ds cs p)(hd:h (2000+8*d)=.dead):
  bI R (aH false) h d [.ref id none 0 0 0,I m] (.fn F.bound_grid_step [] [])=some (I (G0 (ds.take m) 1),upd h id (bh ds cs p),[]):=
 D3 (iY false) (tv false) (as':=[I m]) (by simp only[go_sem]) rfl rfl hh (bB _ _ _) (bB _ _ _) (fun _=>rfl) (acn hm h8 hb) (akE _) (Nat.le_of_ble_eq_true rfl) (by grind[dK,cP,cY])
theorem sv(a b:AV)(k:Nat)(r:List (List AV)):jl 1 (.bx [a,.osl k r,b])=some (k,r):=rfl
theorem agy{f:FuncId}{fd:FD}{args:List AV}{os:List Ob}{r:AV×List Ob}(hE:dv.E f=none)(hC:dv.C f=some fd)(hk:dv.md.keep f=false)(h1:args.length=fd.np)(h2:os.length<=1000)
  (hz:gM false fd.rs fd.res os.length (aj R (aH false) fd.body (oO args) (ao os))=some r):R f args os=some r:=
 HU false hE hC hk h1 h2 hz
theorem PJ(a b c d e:Ob):ao [a,b,c,d,e]=upd (upd (upd (upd (upd (fun _=>.dead) 1004 e) 1003 d) 1002 c) 1001 b) 1000 a:=by
 funext i;unfold ao upd;by_cases h0:i=1000
 ·simp_all
 by_cases h1:i=1001
 ·simp_all
 by_cases h2:i=1002
 ·simp_all
 by_cases h3:i=1003
 ·simp_all
 by_cases h4:i=1004
 ·simp_all
 simp only[h0,h1,h2,h3,h4,if_false];by_cases h5:1000<=i
 ·rw[if_pos h5,List.getElem?_eq_none (by simp;omega)];rfl
 grind
theorem PK(a b c:Ob):ao [a,b,c]=upd (upd (upd (fun _=>.dead) 1002 c) 1001 b) 1000 a:=by
 funext i;unfold ao upd;by_cases h0:i=1000
 ·simp_all
 by_cases h1:i=1001
 ·simp_all
 by_cases h2:i=1002
 ·simp_all
 simp only[h0,h1,h2,if_false];by_cases h5:1000<=i
 ·rw[if_pos h5,List.getElem?_eq_none (by grind)];rfl
 grind
def dX(x:Ri):Ob:=.bx [B x.lo.neg,lm x.lo.m,I x.lo.e,B x.hi.neg,lm x.hi.m,I x.hi.e,B x.all]
theorem eu(x:Ri):OC (dX x):=⟨fun _=>rfl,rfl,fun _=>rfl,rfl⟩
theorem Vn{l st n:Int}{lo w:Ri}{ds:List Int}{cs cs':List Ri}{p:Int}(hR:R F.bound_grid_unit_1 [I l,I st,.ref 1000 none 0 0 0,.ref 1001 none 0 0 0,.ref 1002 none 0 0 0,.ref 1003 none 0 0 0] [.bx [I n],.bx [.ref 1004 none 0 0 0],dX lo,dX w,bh ds cs p]=some (.tup [],[.bx [I n],.bx [.ref 1004 none 0 0 0],dX lo,dX w,bh ds cs' p])){h:ac}{d:Nat}(h0:h 1000=bh ds cs p)(h1:h 1001=.bx [I n])(h2:h 1002=.bx [.ref 1000 none 0 0 0])(h3:h 1003=dX lo)(h4:h 1004=dX w)(hf:h (2000+8*d)=.dead):
  bI R (aH false) h d [I l,I st] (.fn F.bound_grid_unit_1 [] [.ref 1001 none 0 0 0,.ref 1002 none 0 0 0,.ref 1003 none 0 0 0,.ref 1004 none 0 0 0])=some (.tup [],upd (upd (upd (upd (upd h 1001 (.bx [I n])) 1002 (.bx [.ref 1000 none 0 0 0])) 1003 (dX lo)) 1004 (dX w)) 1000 (bh ds cs' p),[(1001,true),(1002,true),(1003,true),(1004,true),(1000,true)]):=by
 have hre:cq h 40 [1001,1002,1003,1004] 0=[1001,1002,1003,1004,1000]:=by
  have i0:mh (bh ds cs p)=[]:=(bB ds cs p).ids;have i1:mh (.bx [I n])=[]:=rfl;have i2:mh (.bx [.ref 1000 none 0 0 0])=[1000]:=rfl;have i3:mh (dX lo)=[]:=(eu lo).ids;have i4:mh (dX w)=[]:=(eu w).ids
  simp_all[cq,bV]
 unfold bI;rw[if_neg (by simp[sy,db.1.2.1])];have hin:cr h [] [I l,I st,.ref 1001 none 0 0 0,.ref 1002 none 0 0 0,.ref 1003 none 0 0 0,.ref 1004 none 0 0 0]=some ([I l,I st,.ref 1001 none 0 0 0,.ref 1002 none 0 0 0,.ref 1003 none 0 0 0,.ref 1004 none 0 0 0],h,[]):=rfl;have hids:bV [] ([I l,I st,AV.ref 1001 none 0 0 0,.ref 1002 none 0 0 0,.ref 1003 none 0 0 0,.ref 1004 none 0 0 0].flatMap cj)=[1001,1002,1003,1004]:=rfl;simp only[eP,db.1.2.1,List.nil_append,List.cons_append,hin,Option.bind_some,hids,hre,db.1.1];have hn:bv [] [I l,I st,AV.ref 1001 none 0 0 0,.ref 1002 none 0 0 0,.ref 1003 none 0 0 0,.ref 1004 none 0 0 0]=[I l,I st,AV.ref 1001 none 0 0 0,.ref 1002 none 0 0 0,.ref 1003 none 0 0 0,.ref 1004 none 0 0 0]:=rfl;rw[hn];unfold mj;have hob:([1001,1002,1003,1004,1000].map fun a=>dp (bq [1001,1002,1003,1004,1000]) (h a))=[.bx [I n],.bx [.ref 1004 none 0 0 0],dX lo,dX w,bh ds cs p]:=by
  simp only[List.map,h0,h1,h2,h3,h4];rfl
 have hcl:([1001,1002,1003,1004,1000].all fun a=>aO [1001,1002,1003,1004,1000] (h a)&&!cY (h a))=true:=by
  simp only[List.all_cons,List.all_nil,h0,h1,h2,h3,h4];rfl
 rw[hob,hcl,if_pos (by rfl)];rw[show [I l,I st,AV.ref 1001 none 0 0 0,.ref 1002 none 0 0 0,.ref 1003 none 0 0 0,.ref 1004 none 0 0 0].map (ey (bq [1001,1002,1003,1004,1000]))=[I l,I st,.ref 1000 none 0 0 0,.ref 1001 none 0 0 0,.ref 1002 none 0 0 0,.ref 1003 none 0 0 0]from rfl,hR,Option.bind_some,db.1.2.2.2,db.1.2.1,uT];unfold gz;rw[if_pos ⟨rfl,Nat.le_of_ble_eq_true rfl,Nat.le_of_ble_eq_true rfl,by simp[dK,cP],by grind[fw,dX,bh,bf,cY],rfl⟩];rfl
theorem Vo{l st n:Int}{ds:List Int}{cs cs':List Ri}{p:Int}(hR:R F.bound_grid_bernstein_1 [I l,I st,.ref 1000 none 0 0 0,.ref 1001 none 0 0 0] [.bx [I n],.bx [.ref 1002 none 0 0 0],bh ds cs p]=some (.tup [],[.bx [I n],.bx [.ref 1002 none 0 0 0],bh ds cs' p])){h:ac}{d:Nat}(h0:h 1000=bh ds cs p)(h1:h 1001=.bx [I n])(h2:h 1002=.bx [.ref 1000 none 0 0 0])(hf:h (2000+8*d)=.dead):
  bI R (aH false) h d [I l,I st] (.fn F.bound_grid_bernstein_1 [] [.ref 1001 none 0 0 0,.ref 1002 none 0 0 0])=some (.tup [],upd (upd (upd h 1001 (.bx [I n])) 1002 (.bx [.ref 1000 none 0 0 0])) 1000 (bh ds cs' p),[(1001,true),(1002,true),(1000,true)]):=by
 have hre:cq h 40 [1001,1002] 0=[1001,1002,1000]:=by
  have i0:mh (bh ds cs p)=[]:=(bB ds cs p).ids;have i1:mh (.bx [I n])=[]:=rfl;have i2:mh (.bx [.ref 1000 none 0 0 0])=[1000]:=rfl
  simp_all[cq,bV]
 unfold bI;rw[if_neg (by simp[sy,bX.1.2.1])];have hin:cr h [] [I l,I st,.ref 1001 none 0 0 0,.ref 1002 none 0 0 0]=some ([I l,I st,.ref 1001 none 0 0 0,.ref 1002 none 0 0 0],h,[]):=rfl;have hids:bV [] ([I l,I st,AV.ref 1001 none 0 0 0,.ref 1002 none 0 0 0].flatMap cj)=[1001,1002]:=rfl;simp only[eP,bX.1.2.1,List.nil_append,List.cons_append,hin,Option.bind_some,hids,hre,bX.1.1];have hn:bv [] [I l,I st,AV.ref 1001 none 0 0 0,.ref 1002 none 0 0 0]=[I l,I st,AV.ref 1001 none 0 0 0,.ref 1002 none 0 0 0]:=rfl;rw[hn];unfold mj;have hob:([1001,1002,1000].map fun a=>dp (bq [1001,1002,1000]) (h a))=[.bx [I n],.bx [.ref 1002 none 0 0 0],bh ds cs p]:=by
  simp only[List.map,h0,h1,h2];rfl
 have hcl:([1001,1002,1000].all fun a=>aO [1001,1002,1000] (h a)&&!cY (h a))=true:=by
  simp only[List.all_cons,List.all_nil,h0,h1,h2];rfl
 rw[hob,hcl,if_pos (by rfl)];rw[show [I l,I st,AV.ref 1001 none 0 0 0,.ref 1002 none 0 0 0].map (ey (bq [1001,1002,1000]))=[I l,I st,.ref 1000 none 0 0 0,.ref 1001 none 0 0 0]from rfl,hR,Option.bind_some,bX.1.2.2.2,bX.1.2.1,uT];unfold gz;rw[if_pos ⟨rfl,Nat.le_of_ble_eq_true rfl,Nat.le_of_ble_eq_true rfl,by simp[dK,cP],by grind[fw,bh,bf,cY],rfl⟩];rfl
theorem PL{f:FuncId}{h:ac}{d:Nat}{zas as':List AV}{r:Option R3}(hm:(aH false).m f=[])(hd:cr h [] zas=some (as',h,[]))(hc:bI R (aH false) h d zas (.fn f [] [])=r):BD R (aH false) d f (as',h,[])=r:=by
 grind[BE]
theorem IA{i:Nat}{m:Int}{lo w:Ri}{ds:List Int}{cs cs':List Ri}{p:Int}(hR:R F.bound_grid_lines [.ref 1000 none 0 0 0,I i,.fn F.bound_grid_unit_1 [] [.ref 1001 none 0 0 0,.ref 1002 none 0 0 0,.ref 1003 none 0 0 0,.ref 1004 none 0 0 0]] [bh ds cs p,.bx [I m],.bx [.ref 1000 none 0 0 0],dX lo,dX w]=some (.tup [],[bh ds cs' p,.bx [I m],.bx [.ref 1000 none 0 0 0],dX lo,dX w])){h:ac}{d:Nat}(h0:h 1000=bh ds cs p)(h1:h 8=.bx [I m])(h2:h 3=.bx [.ref 1000 none 0 0 0])(h3:h 6=dX lo)(h4:h 7=dX w)(hf:h (2000+8*d)=.dead):
  bI R (aH false) h d [.ref 1000 none 0 0 0,I i,.fn F.bound_grid_unit_1 [] [.ref 8 none 0 0 0,.ref 3 none 0 0 0,.ref 6 none 0 0 0,.ref 7 none 0 0 0]] (.fn F.bound_grid_lines [] [])=some (.tup [],upd (upd (upd (upd (upd h 1000 (bh ds cs' p)) 8 (.bx [I m])) 3 (.bx [.ref 1000 none 0 0 0])) 6 (dX lo)) 7 (dX w),[(1000,true),(8,true),(3,true),(6,true),(7,true)]):=by
 have hre:cq h 40 [1000,8,3,6,7] 0=[1000,8,3,6,7]:=by
  have i0:mh (bh ds cs p)=[]:=(bB _ _ p).ids;have i1:mh (.bx [I m])=[]:=rfl;have i2:mh (.bx [.ref 1000 none 0 0 0])=[1000]:=rfl;have i3:mh (dX lo)=[]:=(eu lo).ids;have i4:mh (dX w)=[]:=(eu w).ids
  simp_all[cq,bV]
 unfold bI;rw[if_neg (by simp[sy,bd.1.2.1])];have hin:cr h [] [.ref 1000 none 0 0 0,I i,.fn F.bound_grid_unit_1 [] [.ref 8 none 0 0 0,.ref 3 none 0 0 0,.ref 6 none 0 0 0,.ref 7 none 0 0 0]]=some ([.ref 1000 none 0 0 0,I i,.fn F.bound_grid_unit_1 [] [.ref 8 none 0 0 0,.ref 3 none 0 0 0,.ref 6 none 0 0 0,.ref 7 none 0 0 0]],h,[]):=rfl;have hids:bV [] ([AV.ref 1000 none 0 0 0,I i,.fn F.bound_grid_unit_1 [] [.ref 8 none 0 0 0,.ref 3 none 0 0 0,.ref 6 none 0 0 0,.ref 7 none 0 0 0]].flatMap cj)=[1000,8,3,6,7]:=rfl;simp only[eP,bd.1.2.1,List.nil_append,List.append_nil,hin,Option.bind_some,hids,hre,bd.1.1];have hn:bv [] [AV.ref 1000 none 0 0 0,I i,.fn F.bound_grid_unit_1 [] [.ref 8 none 0 0 0,.ref 3 none 0 0 0,.ref 6 none 0 0 0,.ref 7 none 0 0 0]]=[AV.ref 1000 none 0 0 0,I i,.fn F.bound_grid_unit_1 [] [.ref 8 none 0 0 0,.ref 3 none 0 0 0,.ref 6 none 0 0 0,.ref 7 none 0 0 0]]:=rfl;rw[hn];unfold mj;have hob:([1000,8,3,6,7].map fun a=>dp (bq [1000,8,3,6,7]) (h a))=[bh ds cs p,.bx [I m],.bx [.ref 1000 none 0 0 0],dX lo,dX w]:=by
  simp only[List.map,h0,h1,h2,h3,h4];rfl
 have hcl:([1000,8,3,6,7].all fun a=>aO [1000,8,3,6,7] (h a)&&!cY (h a))=true:=by
  simp only[List.all_cons,List.all_nil,h0,h1,h2,h3,h4];rfl
 rw[hob,hcl,if_pos (by rfl)];rw[show [AV.ref 1000 none 0 0 0,I i,.fn F.bound_grid_unit_1 [] [.ref 8 none 0 0 0,.ref 3 none 0 0 0,.ref 6 none 0 0 0,.ref 7 none 0 0 0]].map (ey (bq [1000,8,3,6,7]))=[.ref 1000 none 0 0 0,I i,.fn F.bound_grid_unit_1 [] [.ref 1001 none 0 0 0,.ref 1002 none 0 0 0,.ref 1003 none 0 0 0,.ref 1004 none 0 0 0]]from rfl,hR,Option.bind_some,bd.1.2.2.2,bd.1.2.1,uT];unfold gz;rw[if_pos ⟨rfl,Nat.le_of_ble_eq_true rfl,Nat.le_of_ble_eq_true rfl,by simp[dK,cP],by grind[fw,dX,bh,bf,cY],rfl⟩];rfl
theorem IB{i:Nat}{m:Int}{ds:List Int}{cs cs':List Ri}{p:Int}(hR:R F.bound_grid_lines [.ref 1000 none 0 0 0,I i,.fn F.bound_grid_bernstein_1 [] [.ref 1001 none 0 0 0,.ref 1002 none 0 0 0]] [bh ds cs p,.bx [I m],.bx [.ref 1000 none 0 0 0]]=some (.tup [],[bh ds cs' p,.bx [I m],.bx [.ref 1000 none 0 0 0]])){h:ac}{d:Nat}(h0:h 1000=bh ds cs p)(h1:h 4=.bx [I m])(h2:h 2=.bx [.ref 1000 none 0 0 0])(hf:h (2000+8*d)=.dead):
  bI R (aH false) h d [.ref 1000 none 0 0 0,I i,.fn F.bound_grid_bernstein_1 [] [.ref 4 none 0 0 0,.ref 2 none 0 0 0]] (.fn F.bound_grid_lines [] [])=some (.tup [],upd (upd (upd h 1000 (bh ds cs' p)) 4 (.bx [I m])) 2 (.bx [.ref 1000 none 0 0 0]),[(1000,true),(4,true),(2,true)]):=by
 have hre:cq h 40 [1000,4,2] 0=[1000,4,2]:=by
  have i0:mh (bh ds cs p)=[]:=(bB _ _ p).ids;have i1:mh (.bx [I m])=[]:=rfl;have i2:mh (.bx [.ref 1000 none 0 0 0])=[1000]:=rfl
  simp_all[cq,bV]
 unfold bI;rw[if_neg (by simp[sy,bd.1.2.1])];have hin:cr h [] [.ref 1000 none 0 0 0,I i,.fn F.bound_grid_bernstein_1 [] [.ref 4 none 0 0 0,.ref 2 none 0 0 0]]=some ([.ref 1000 none 0 0 0,I i,.fn F.bound_grid_bernstein_1 [] [.ref 4 none 0 0 0,.ref 2 none 0 0 0]],h,[]):=rfl;have hids:bV [] ([AV.ref 1000 none 0 0 0,I i,.fn F.bound_grid_bernstein_1 [] [.ref 4 none 0 0 0,.ref 2 none 0 0 0]].flatMap cj)=[1000,4,2]:=rfl;simp only[eP,bd.1.2.1,List.nil_append,List.append_nil,hin,Option.bind_some,hids,hre,bd.1.1];have hn:bv [] [AV.ref 1000 none 0 0 0,I i,.fn F.bound_grid_bernstein_1 [] [.ref 4 none 0 0 0,.ref 2 none 0 0 0]]=[AV.ref 1000 none 0 0 0,I i,.fn F.bound_grid_bernstein_1 [] [.ref 4 none 0 0 0,.ref 2 none 0 0 0]]:=rfl;rw[hn];unfold mj;have hob:([1000,4,2].map fun a=>dp (bq [1000,4,2]) (h a))=[bh ds cs p,.bx [I m],.bx [.ref 1000 none 0 0 0]]:=by
  simp only[List.map,h0,h1,h2];rfl
 have hcl:([1000,4,2].all fun a=>aO [1000,4,2] (h a)&&!cY (h a))=true:=by
  simp only[List.all_cons,List.all_nil,h0,h1,h2];rfl
 rw[hob,hcl,if_pos (by rfl)];rw[show [AV.ref 1000 none 0 0 0,I i,.fn F.bound_grid_bernstein_1 [] [.ref 4 none 0 0 0,.ref 2 none 0 0 0]].map (ey (bq [1000,4,2]))=[.ref 1000 none 0 0 0,I i,.fn F.bound_grid_bernstein_1 [] [.ref 1001 none 0 0 0,.ref 1002 none 0 0 0]]from rfl,hR,Option.bind_some,bd.1.2.2.2,bd.1.2.1,uT];unfold gz;rw[if_pos ⟨rfl,Nat.le_of_ble_eq_true rfl,Nat.le_of_ble_eq_true rfl,by simp[dK,cP],by grind[fw,bh,bf,cY],rfl⟩];rfl
theorem X5{h:ac}{id id2:Nat}{cs:List AV}{a:AV}(h1:h id2=.bx cs)(h2:h id=.bx [.any]):F7 id 0 [.ref id2 none 0 0 0] (a,h,[])=some (a,upd h id (.bx [.ref id2 none 0 0 0]),[]):=by
 simp_all[aW,F7,mU,Ch,inP,F6,wN]
theorem Vp(h:ac)(d:Nat)(r q:List (List AV))(p:Int)(b:Bool):kv h d (some (.tup [.obx [.osl 1 r,.osl 7 q,I p],B b],[]))=if cY (h (2000+8*d))&&cY (h (2000+8*d+1))then some (.tup [.ref (2000+8*d) none 0 0 0,B b],upd h (2000+8*d) (.bx [.osl 1 r,.osl 7 q,I p]),[])else none:=by
 simp[kv,cP,apL,gj,ap1,aB,aW,aZ,bm,dK,mat,bO,dq]
theorem xv(h:ac)(n:Nat)(g:Bool)(i j:Nat)(r:List (List AV)):lh h n g 7 i j (some (7,r))=(r[i]?).bind fun row=>(jR n g row j).map fun a=>(a,h,[]):=rfl
theorem acp{ds:List Int}{cs:List Ri}{p:Int}{x y:Ri}(ox:OkI x)(oy:OkI y):R F.bound_grid_add [.ref 1000 none 0 0 0,av x,av y] [bh ds cs p]=some (av (j3 x y p),[bh ds cs p]):=by
 refine PH Gt Gs (tT false) rfl ?_;have h:=Ka ox oy (p:=p);generalize j3 x y p=z at*
 simp only[av,az]at h;simp only[qB,xT,av,az,bh,go_sem,apB,apA,apC,h];exact Vj rfl rfl rfl (by rfl) (by simp only[go_sem])
theorem acq{ds:List Int}{cs:List Ri}{p:Int}{x y:Ri}(ox:OkI x)(oy:OkI y):R F.bound_grid_mul [.ref 1000 none 0 0 0,av x,av y] [bh ds cs p]=some (av (jM x y p),[bh ds cs p]):=by
 refine PH Gv Gu (tU false) rfl ?_;have h:=Kd ox oy (p:=p);generalize jM x y p=z at*
 simp only[av,az]at h;simp only[qC,xU,av,az,bh,go_sem,apB,apA,apC,h];exact Vj rfl rfl rfl (by rfl) (by simp only[go_sem])
theorem aaV(x:Ri):RT (av x):=⟨fun _=>rfl,fun _ _=>rfl,fun _=>rfl⟩
theorem LR{ds:List Int}{cs:List Ri}{p:Int}{x y:Ri}(ox:OkI x)(oy:OkI y){h:ac}{d id:Nat}(hh:h id=bh ds cs p)(hd:h (2000+8*d)=.dead):
  BD R (aH false) d F.bound_grid_add ([.ref id none 0 0 0,av x,av y],h,[])=some (av (j3 x y p),upd h id (bh ds cs p),[]):=
 pA (rK false) rfl (D3 (rK false) (tT false) (as':=[av x,av y]) (by rw[Fl];simp only[av,az,go_sem]) rfl rfl hh (bB _ _ _) (bB _ _ _) (fun _=>rfl) (acp ox oy) (aaV _) (Nat.le_of_ble_eq_true rfl) (by simp[dK,av,cP,hd,cY]))
theorem zG{ds:List Int}{cs:List Ri}{p:Int}{x y:Ri}(ox:OkI x)(oy:OkI y){h:ac}{d id:Nat}(hh:h id=bh ds cs p)(hd:h (2000+8*d)=.dead):
  BD R (aH false) d F.bound_grid_mul ([.ref id none 0 0 0,av x,av y],h,[])=some (av (jM x y p),upd h id (bh ds cs p),[]):=
 pA (rL false) rfl (D3 (rL false) (tU false) (as':=[av x,av y]) (by rw[Fo];simp only[av,az,go_sem]) rfl rfl hh (bB _ _ _) (bB _ _ _) (fun _=>rfl) (acq ox oy) (aaV _) (Nat.le_of_ble_eq_true rfl) (by simp[dK,av,cP,hd,cY]))
theorem E4{α:Type}{f:α->List AV}(h:∀x,tM (f x) (f x)=true):∀l:List α,Ci (l.map f) (l.map f)=true
 |[]=>rfl
 |a::l=>by simp only[List.map,Ci,h,E4 h l,Bool.true_and]
theorem agz(z:Int):tM [I z] [I z]=true:=by simp[tM,No,Nn]
theorem aek(x:Ri):tM (az x) (az x)=true:=by
 have h:∀m:List Nat,Ci (ax m) (ax m)=true:=E4 fun x=>by simp[tM,No,Nn]
 simp[az,tM,No,Nn,lm,h]
theorem ael(ds:List Int)(cs:List Ri)(p:Int):Er (bh ds cs p) (bh ds cs p)=true:=by
 have h1:Ci (bw ds) (bw ds)=true:=E4 agz ds;have h2:Ci (aY cs) (aY cs)=true:=E4 aek cs;simp[bh,Er,tM,No,Nn,h1,h2]
theorem Vq{h h':ac}{d id:Nat}{ds:List Int}{cs:List Ri}{p:Int}{x y:Ri}(hi:id<2000)(hh:h id=bh ds cs p)(hh':h' id=bh ds cs p):gk h d [.ref id none 0 0 0,av x,av y] h'=some ([id],[2000+8*d]):=by
 have hre:cq h 40 [id] 0=[id]:=by simp[cq,hh,(bB ds cs p).ids,bV]
 have hc:CM h h' [id]=[]:=by simp[CM,hh,hh',ael]
 show(if _ then _ else if _ then some ((cq h 40 [id] 0).map cJ,(CM h h' (cq h 40 [id] 0)).map cJ++[2000+8*d])else none)=_;rw[hre,hc,if_neg (by simp[dat,aB]),if_pos (by rfl)];simp[cJ,hi]
def gw(N:Nat)(cs:List Ri)(g:G):Prop:=cs.length=N/\∀k x,cs[k]?=some x->In (g k) x
theorem gw.get{N:Nat}{cs:List Ri}{g:G}(h:gw N cs g){k:Nat}(hk:k<N):∃x,cs[k]?=some x/\In (g k) x:=by
 have:k<cs.length:=by rw[h.1];exact hk
 exact⟨cs[k],List.getElem?_eq_getElem this,h.2 k _ (List.getElem?_eq_getElem this)⟩
theorem gw.set{N:Nat}{cs:List Ri}{g:G}(h:gw N cs g){k:Nat}{x:Ri}{y:Rat}(hx:In y x):gw N (cs.set k x) (gs g k y):=by
 refine⟨by rw[List.length_set];exact h.1,fun j z hz=>?_⟩;rw[List.getElem?_set]at hz;unfold gs;by_cases hj:k=j
 ·subst hj;rw[if_pos rfl]at hz;rw[if_pos rfl];split at hz
  ·cases hz;exact hx
  ·exact nomatch hz
 ·rw[if_neg hj]at hz;rw[if_neg fun h=>hj h.symm];exact h.2 j z hz
def Ta(n:Nat)(lo w:Ri)(ds:List Int)(cs:List Ri)(p:Int)(h:ac):Prop:=h 1000=.bx [I n]/\h 1001=.bx [.ref 1004 none 0 0 0]/\h 1002=dX lo/\h 1003=dX w/\h 1004=bh ds cs p
theorem Bd(id:Nat)(h:ac)(i:Nat)(xs:List AV)(a b:AV)(r:List (List AV)):Bk h 7 id 1 7 i 0 xs [] (.bx [a,.osl 7 r,b])=(nQ 7 7 i 0 xs 7 r).map fun q=>(.und,upd h id (.bx [a,.osl 7 q,b]),[]):=rfl
theorem Be{cs:List Ri}{k:Nat}{u:Ri}(hk:k<cs.length):nQ 7 7 k 0 (az u) 7 (aY cs)=some (aY (cs.set k u)):=by
 have h1:(aY cs)[k]?=some (az cs[k]):=by unfold aY;rw[List.getElem?_map,List.getElem?_eq_getElem hk];rfl
 unfold nQ;rw[if_pos rfl,h1];simp[setRow,az,aY,List.map_set]
attribute [-go_sem] vL in
theorem acr{ds:List Int}{p:Int}{N f st i n:Nat}{lo w:Ri}{l:Rat}(hl:In l lo)(hN:f+n*st<N)(hN4:N<=400)(hn:n<=400):∀ (k:Nat),i+k<=n->∀ (cs:List Ri) (g:G),gw N cs g->∀ (s:af) (h:ac) (X:Option (Ex×St)),am 2 [0,1,2,3,4,5,13,14] (aD (aj R (aH false) fH) [0,1,2,3,4,5,8,9,13,14] [1000,1001,1002,1003,1004] s h)=X->
  s 0=I f->s 1=I st->s 2=.ref 1000 none 0 0 0->s 3=.ref 1001 none 0 0 0->s 4=.ref 1002 none 0 0 0->s 5=.ref 1003 none 0 0 0->s 8=I i->s 9=I ((i:Int)+k-1)->s 13=I n->s 14=I i->Ta n lo w ds cs p h->
  ∃hh cs',X=some (.normal,⟨upd (upd (upd (upd (upd (upd (upd (upd (fun _=>.any) 14 (I i)) 13 (I n)) 5 (.ref 1003 none 0 0 0)) 4 (.ref 1002 none 0 0 0)) 3 (.ref 1001 none 0 0 0)) 2 (.ref 1000 none 0 0 0)) 1 (I st)) 0 (I f),hh⟩)/\Ta n lo w ds cs' p hh/\gw N cs' (F0 l (fun j=>f+j*st) i k g):=by
 intro k;induction k with
 |zero=>
  intro hk cs g he s h X hX g0 g1 g2 g3 g4 g5 g8 g9 g13 g14 ho;subst hX;obtain⟨k0,k1,k2,k3,k4⟩:=ho;have e1:((i:Int)<=(i:Int)+((0:Nat):Int)-1)=False:=eq_false (by omega);have hg:=(bB ds cs p).cl [1000,1001,1002,1003,1004];have hlo:=(eu lo).cl [1000,1001,1002,1003,1004];have hw:=(eu w).cl [1000,1001,1002,1003,1004];rw[ai];refine⟨?hh0,cs,?_,?_,he⟩;rotate_left
  ·simp only[fH,go_sem,apE,g0,g1,g2,g3,g4,g5,g8,g9,g13,g14,k0,k1,k2,k3,k4,hg,hlo,hw,e1];rfl
  ·exact⟨rfl,rfl,rfl,rfl,rfl⟩
 |succ k ih=>
  intro hk cs g he s h X hX g0 g1 g2 g3 g4 g5 g8 g9 g13 g14 ho;subst hX;obtain⟨k0,k1,k2,k3,k4⟩:=ho;have hm1:(i+k)*st<=n*st:=Nat.mul_le_mul_right _ (by omega);have hm2:(i+k+1)*st<=n*st:=Nat.mul_le_mul_right _ (by omega);have hs2:(i+k+1)*st=(i+k)*st+st:=by rw[Nat.add_mul,Nat.one_mul]
  have e1:((i:Int)<=(i:Int)+((k+1:Nat):Int)-1)=True:=eq_true (by omega);have w1:IntKind.i64.wrap (((i:Int)+((k+1:Nat):Int)-1)*st)=(((i+k)*st:Nat):Int):=by
   rw[show((i:Int)+((k+1:Nat):Int)-1)=((i+k:Nat):Int)by omega,←Int.natCast_mul];exact i64_in _ ⟨by omega,by omega⟩
  have w2:IntKind.i64.wrap ((f:Int)+(((i+k)*st:Nat):Int))=((f+(i+k)*st:Nat):Int):=wi (by omega) (by omega);have w3:IntKind.i64.wrap (((f+(i+k)*st:Nat):Int)+(st:Int))=((f+(i+k+1)*st:Nat):Int):=wi (by omega) (by omega);have w4:IntKind.i64.wrap ((i:Int)+((k+1:Nat):Int)-1-1)=(i:Int)+(k:Int)-1:=by rw[i64_in _ ⟨by omega,by omega⟩];omega
  obtain⟨x,x1,x2⟩:=he.get (k:=f+(i+k)*st) (by omega);obtain⟨y,y1,y2⟩:=he.get (k:=f+(i+k+1)*st) (by omega);have hg:=(bB ds cs p).cl [1000,1001,1002,1003,1004];have hlo:=(eu lo).cl [1000,1001,1002,1003,1004];have hw:=(eu w).cl [1000,1001,1002,1003,1004];have cm:=fun(h:ac) (d:Nat) hh hd=>zG (ds:=ds) (cs:=cs) (p:=p) (h:=h) (d:=d) (id:=1004) hl.ok y2.ok hh hd;have pm:=so (p:=p) hl y2;have ca:=fun(h:ac) (d:Nat) hh hd=>LR (ds:=ds) (cs:=cs) (p:=p) (h:=h) (d:=d) (id:=1004) x2.ok pm.ok hh hd;have pa:=xt (p:=p) x2 pm;have q1:(aY cs)[f+(i+k)*st]?=some (az x):=by unfold aY;rw[List.getElem?_map,x1];rfl
  have q2:(aY cs)[f+(i+k+1)*st]?=some (az y):=by unfold aY;rw[List.getElem?_map,y1];rfl
  have i1:(0<=((f+(i+k)*st:Nat):Int))=True:=eq_true (by omega);have i2:(0<=((f+(i+k+1)*st:Nat):Int))=True:=eq_true (by omega);have i3:(((f+(i+k)*st:Nat):Int)< (cs.length:Int))=True:=eq_true (by rw[he.1];omega);have i4:(((f+(i+k+1)*st:Nat):Int)< (cs.length:Int))=True:=eq_true (by rw[he.1];omega);have sr1:∀u:Ri,nQ 7 7 (f+(i+k)*st) 0 (az u) 7 (aY cs)=some (aY (cs.set (f+(i+k)*st) u)):=fun u=>Be (by rw[he.1];omega);have ih':=ih (by omega) _ _ (he.set (k:=f+(i+k)*st) pa);rw[ai];generalize aD _ _ _=L at ih'⊢;generalize jM lo y p=z at*
  generalize j3 x z p=u at*
  simp only[bh,av,az]at cm ca;simp only[az]at q1 q2 sr1;simp only[bh]at k4 hg;simp only[dX]at k2 k3 hlo hw;simp only[fH,go_sem,apB,apA,apC,apD,apE,g0,g1,g2,g3,g4,g5,g8,g9,g13,g14,k0,k1,k2,k3,k4,hg,hlo,hw,e1,w1,w2,w3,w4,i1,i2,i3,i4,sv,xv,Int.toNat_natCast,Nat.zero_add,q1,q2];rw[cm _ _ rfl rfl];have fp:=fun(h h':ac) (d:Nat) (x y:Ri)=>Vq (h:=h) (h':=h') (d:=d) (id:=1004) (ds:=ds) (cs:=cs) (p:=p) (x:=x) (y:=y) (by decide);simp only[bh,av,az]at fp;simp only[go_sem,apB,apA,fp];rw[ca _ _ rfl rfl];simp only[go_sem,apB,apA,apC,apD,apE,fp,i1,i3,Int.toNat_natCast,Nat.zero_add,Bd,sr1,w4];exact ih' _ _ _ rfl rfl rfl rfl rfl rfl rfl rfl rfl rfl rfl ⟨rfl,rfl,rfl,rfl,rfl⟩
theorem acs{ds:List Int}{p:Int}{N f st n:Nat}{lo w:Ri}{l:Rat}(hl:In l lo)(hN:f+n*st<N)(hN4:N<=400)(hn:n<=400):∀ (k i:Nat),i+k=n->∀ (cs:List Ri) (g:G),gw N cs g->∀ (s:af) (h:ac) (X:Option (Ex×St)),am 0 [0,1,2,3,5] (aD (aj R (aH false) apU) [0,1,2,3,4,5,13,14] [1000,1001,1002,1003,1004] s h)=X->
  s 0=I f->s 1=I st->s 2=.ref 1000 none 0 0 0->s 3=.ref 1001 none 0 0 0->s 4=.ref 1002 none 0 0 0->s 5=.ref 1003 none 0 0 0->s 13=I n->s 14=I i->Ta n lo w ds cs p h->
  ∃hh cs',X=some (.normal,⟨upd (upd (upd (upd (upd (fun _=>.any) 5 (.ref 1003 none 0 0 0)) 3 (.ref 1001 none 0 0 0)) 2 (.ref 1000 none 0 0 0)) 1 (I st)) 0 (I f),hh⟩)/\Ta n lo w ds cs' p hh/\(∀a,a≠1000->a≠1001->a≠1002->a≠1003->a≠1004->hh a=.dead)/\gw N cs' (F1 l (fun j=>f+j*st) k i g):=by
 intro k;induction k with
 |zero=>
  intro i hk cs g he s h X hX g0 g1 g2 g3 g4 g5 g13 g14 ho;subst hX;obtain⟨k0,k1,k2,k3,k4⟩:=ho;have e1:((i:Int)<n)=False:=eq_false (by omega);have hg:=(bB ds cs p).cl [1000,1001,1002,1003,1004];have hlo:=(eu lo).cl [1000,1001,1002,1003,1004];have hw:=(eu w).cl [1000,1001,1002,1003,1004];rw[ai];refine⟨?hh0,cs,?_,?_,?_,he⟩;rotate_left
  ·simp only[apU,go_sem,apB,apA,apC,apD,apE,g0,g1,g2,g3,g4,g5,g13,g14,k0,k1,k2,k3,k4,hg,hlo,hw,e1];rfl
  ·exact⟨rfl,rfl,rfl,rfl,rfl⟩
  ·intro a a1 a2 a3 a4 a5;simp only[ed,a1,a2,a3,a4,a5,if_false]
 |succ k ih=>
  intro i hk cs g he s h X hX g0 g1 g2 g3 g4 g5 g13 g14 ho;subst hX;have ho':=ho;obtain⟨k0,k1,k2,k3,k4⟩:=ho;have e1:((i:Int)<n)=True:=eq_true (by omega);have w1:IntKind.i64.wrap ((n:Int)-1)=(i:Int)+((k+1:Nat):Int)-1:=by rw[i64_in _ ⟨by omega,by omega⟩];omega
  have w2:IntKind.i64.wrap ((i:Int)+1)=((i+1:Nat):Int):=wi (by omega) (by omega);have hg:=(bB ds cs p).cl [1000,1001,1002,1003,1004];have hlo:=(eu lo).cl [1000,1001,1002,1003,1004];have hw:=(eu w).cl [1000,1001,1002,1003,1004];have hu:=acr (ds:=ds) (p:=p) (w:=w) hl hN hN4 hn (i:=i) (k+1) (by omega) cs g he;have ih':=ih (i+1) (by omega);rw[ai];generalize aD _ _ _=L at ih'⊢;simp only[apU,go_sem,apB,apA,apC,apD,apE,g0,g1,g2,g3,g4,g5,g13,g14,k0,k1,k2,k3,k4,hg,hlo,hw,e1,w1];generalize hX:am 2 _ _=X;obtain⟨hh,cs',rfl,ho2,he2⟩:=hu _ _ _ hX rfl rfl rfl rfl rfl rfl rfl rfl rfl rfl ⟨rfl,rfl,rfl,rfl,rfl⟩;simp only[go_sem,apE,w2];exact ih' cs' _ he2 _ _ _ rfl rfl rfl rfl rfl rfl rfl rfl rfl ho2
attribute [-go_sem] vL in
theorem act{ds:List Int}{p:Int}{N f st n:Nat}{lo w:Ri}{u:Rat}(hw:In u w)(hN:f+n*st<N)(hN4:N<=400)(hn:n<=400):∀ (k j:Nat),j+k=n+1->∀ (cs:List Ri) (g:G),gw N cs g->∀ (sc:Ri) (b:Rat),In b sc->∀ (s:af) (h:ac) (X:Option (Ex×St)),am 4 [] (aD (aj R (aH false) fG) [0,1,2,3,5,11,12] [11,1000,1001,1002,1003,1004] s h)=X->
  s 0=I f->s 1=I st->s 2=.ref 1000 none 0 0 0->s 3=.ref 1001 none 0 0 0->s 5=.ref 1003 none 0 0 0->s 11=.ref 11 none 0 0 0->s 12=I j->h 11=dX sc->Ta n lo w ds cs p h->
  ∃hh cs',X=some (.normal,⟨fun _=>.any,hh⟩)/\Ta n lo w ds cs' p hh/\gw N cs' (LK u (fun j=>f+j*st) k j b g):=by
 intro k;induction k with
 |zero=>
  intro j hk cs g he sc b hb s h X hX g0 g1 g2 g3 g5 g11 g12 k11 ho;subst hX;obtain⟨k0,k1,k2,k3,k4⟩:=ho;have e1:((j:Int)<=n)=False:=eq_false (by omega);have hg:=(bB ds cs p).cl [11,1000,1001,1002,1003,1004];have hlo:=(eu lo).cl [11,1000,1001,1002,1003,1004];have hw:=(eu w).cl [11,1000,1001,1002,1003,1004];have hs:=(eu sc).cl [11,1000,1001,1002,1003,1004];rw[ai];refine⟨?hh0,cs,?_,?_,he⟩;rotate_left
  ·simp only[fG,go_sem,apB,apA,apC,apD,apE,g0,g1,g2,g3,g5,g11,g12,k0,k1,k2,k3,k4,k11,hg,hlo,hw,hs,e1];rfl
  ·exact⟨rfl,rfl,rfl,rfl,rfl⟩
 |succ k ih=>
  intro j hk cs g he sc b hb s h X hX g0 g1 g2 g3 g5 g11 g12 k11 ho;subst hX;obtain⟨k0,k1,k2,k3,k4⟩:=ho;have hm1:j*st<=n*st:=Nat.mul_le_mul_right _ (by omega);have e1:((j:Int)<=n)=True:=eq_true (by omega);have w1:IntKind.i64.wrap ((j:Int)*st)=((j*st:Nat):Int):=wi (Int.natCast_mul ..).symm (by omega);have w2:IntKind.i64.wrap ((f:Int)+((j*st:Nat):Int))=((f+j*st:Nat):Int):=wi (by omega) (by omega);have w4:IntKind.i64.wrap ((j:Int)+1)=((j+1:Nat):Int):=wi (by omega) (by omega);obtain⟨x,x1,x2⟩:=he.get (k:=f+j*st) (by omega);have hg:=(bB ds cs p).cl [11,1000,1001,1002,1003,1004];have hlo:=(eu lo).cl [11,1000,1001,1002,1003,1004];have hwo:=(eu w).cl [11,1000,1001,1002,1003,1004];have hs:=(eu sc).cl [11,1000,1001,1002,1003,1004];have cm:=fun(h:ac) (d:Nat) hh hd=>zG (ds:=ds) (cs:=cs) (p:=p) (h:=h) (d:=d) (id:=1004) hb.ok hw.ok hh hd;have pm:=so (p:=p) hb hw;have ca:=fun(h:ac) (d:Nat) hh hd=>zG (ds:=ds) (cs:=cs) (p:=p) (h:=h) (d:=d) (id:=1004) x2.ok pm.ok hh hd;have pa:=so (p:=p) x2 pm;have q1:(aY cs)[f+j*st]?=some (az x):=by unfold aY;rw[List.getElem?_map,x1];rfl
  have i1:(0<=((f+j*st:Nat):Int))=True:=eq_true (by omega);have i3:(((f+j*st:Nat):Int)< (cs.length:Int))=True:=eq_true (by rw[he.1];omega);have sr1:∀u:Ri,nQ 7 7 (f+j*st) 0 (az u) 7 (aY cs)=some (aY (cs.set (f+j*st) u)):=fun u=>Be (by rw[he.1];omega);have ih':=ih (j+1) (by omega) _ _ (he.set (k:=f+j*st) pa) _ _ pm;rw[ai];generalize aD _ _ _=L at ih'⊢;generalize jM sc w p=z at*
  generalize jM x z p=v at*
  simp only[bh,av,az]at cm ca;simp only[az]at q1 sr1;simp only[bh]at k4 hg;simp only[dX]at k2 k3 k11 hlo hwo hs;simp only[fG,go_sem,apB,apA,apC,apD,apE,g0,g1,g2,g3,g5,g11,g12,k0,k1,k2,k3,k4,k11,hg,hlo,hwo,hs,e1];rw[cm _ _ rfl rfl];have fp:=fun(h h':ac) (d:Nat) (x y:Ri)=>Vq (h:=h) (h':=h') (d:=d) (id:=1004) (ds:=ds) (cs:=cs) (p:=p) (x:=x) (y:=y) (by decide);simp only[bh,av,az]at fp;simp only[go_sem,apB,apA,apC,apD,apE,w1,w2,i1,i3,sv,xv,Int.toNat_natCast,Nat.zero_add,q1];rw[ca _ _ rfl rfl];simp only[go_sem,apB,apA,apC,apD,apE,fp,i1,i3,Int.toNat_natCast,Nat.zero_add,Bd,sr1,w4];exact ih' _ _ _ rfl rfl rfl rfl rfl rfl rfl rfl rfl ⟨rfl,rfl,rfl,rfl,rfl⟩
theorem IC{n:Nat}{h:ac}{os:List Ob}(hm:(cu n).map h=os)(hc:(os.all fun o=>aO (cu n) o)=true):zO [] n h []=some (.tup [],os):=by
 have h1:((cu n).all fun i=>aO (cu n) (h i))=true:=by
  rw[←hm,List.all_map]at hc;exact hc
 unfold zO;rw[h1,hm];rfl
theorem E5{f:FuncId}{fd:FD}{args:List AV}{os:List Ob}{α:Type}{r:α->AV×List Ob}{P:α->Prop}(hE:dv.E f=none)(hC:dv.C f=some fd)(hk:dv.md.keep f=false)(h1:args.length=fd.np)(h2:os.length<=1000)
  (hz:∃a,gM false fd.rs fd.res os.length (aj R (aH false) fd.body (oO args) (ao os))=some (r a)/\P a):∃a,R f args os=some (r a)/\P a:=by
 obtain⟨a,h3,h4⟩:=hz;exact⟨a,agy hE hC hk h1 h2 h3,h4⟩
theorem aaa{ds:List Int}{cs:List Ri}{p:Int}{N f st n:Nat}{lo w:Ri}{l u:Rat}{g:G}(hl:In l lo)(hw:In u w)(he:gw N cs g)(hN:f+n*st<N)(hN4:N<=400)(hn:n<=400):
  ∃cs',R F.bound_grid_unit_1 [I f,I st,.ref 1000 none 0 0 0,.ref 1001 none 0 0 0,.ref 1002 none 0 0 0,.ref 1003 none 0 0 0] [.bx [I n],.bx [.ref 1004 none 0 0 0],dX lo,dX w,bh ds cs p]=some (.tup [],[.bx [I n],.bx [.ref 1004 none 0 0 0],dX lo,dX w,bh ds cs' p])/\gw N cs' (Im l u n (fun j=>f+j*st) g):=by
 have h2:=acs (ds:=ds) (p:=p) (w:=w) hl hN hN4 hn n 0 (Nat.zero_add _) cs g he;have h3:=fun(cs:List Ri) (g:G) he=>act (ds:=ds) (p:=p) (lo:=lo) (n:=n) (st:=st) (f:=f) hw hN hN4 hn n 1 (Nat.add_comm _ _) cs g he ⟨one,one,false⟩ 1 (by rw[←PD];exact rx kP.1 kP.2);have hi:=O6;have hp:=iP kP.2 kP.1;refine E5 db.2.1 db.2.2 (db.1.2.2.2 false) rfl (Nat.le_of_ble_eq_true rfl) ?_;have hgo:=(bB ds cs p).cl [1000,1001,1002,1003,1004];have hlo:=(eu lo).cl [1000,1001,1002,1003,1004];have hwo:=(eu w).cl [1000,1001,1002,1003,1004];simp only[ag,ak,av,az]at hi hp;simp only[mG,tP,PJ,go_sem,apB,apA,apC,apD,apE];generalize hX:am 0 _ _=X;obtain⟨hh,cs1,rfl,ho,hd,he1⟩:=h2 _ _ _ hX rfl rfl rfl rfl rfl rfl rfl rfl ⟨rfl,rfl,rfl,rfl,rfl⟩;obtain⟨k0,k1,k2,k3,k4⟩:=ho;have d1:=hd 2456 (by decide) (by decide) (by decide) (by decide) (by decide);have d2:=hd 2464 (by decide) (by decide) (by decide) (by decide) (by decide);have d3:=hd 11 (by decide) (by decide) (by decide) (by decide) (by decide);simp only[go_sem,apB,apA,apC,apD,apE,hi,hp,d1,d2,d3];generalize hX:am 4 _ _=X;obtain⟨hh2,cs2,rfl,ho,he2⟩:=h3 cs1 _ he1 _ _ _ hX rfl rfl rfl rfl rfl rfl rfl rfl ⟨k0,k1,k2,k3,k4⟩;obtain⟨k0,k1,k2,k3,k4⟩:=ho;refine⟨cs2,?_,he2⟩;simp only[go_sem,apB,apA,apC,apD,apE];have hp5:cu 5=[1000,1001,1002,1003,1004]:=rfl;refine IC (by rw[hp5];simp only[List.map,k0,k1,k2,k3,k4]) ?_;simp only[hp5,List.all_cons,List.all_nil,(bB ds cs2 p).cl,hlo,hwo];rfl
def rP(n:Nat):Rd:=bA false n 0
theorem Tb{n:Nat}(hn:n<=1000):(vd (rP n)=true/\Ok0 (rP n))/\qv (rP n)=n:=by
 have hr:lW (ae (aa (rP n).m)) (rP n).e=true:=by
  unfold rP;by_cases h0:n=0
  ·subst h0;rfl
  ·obtain⟨g1,g2,g3,g4⟩:=yy (neg:=false) (e:=0) h0;have hb:ae n<=10:=bt.2 (by omega);rw[g1,g2];unfold lW;simp only[Bool.or_eq_true,Bool.and_eq_true,decide_eq_true_eq];omega
 have hv:vd (rP n)=true:=EK hr;have hb:Lb (rP n).m:=uO false n 0;refine⟨⟨hv,hb,Nat.lt_of_le_of_lt (A5 hv hb) (by decide)⟩,?_⟩;have hc:eH (rP n)=(rP n,0):=by
  simp_all[eH,if_pos]
 have hz:zI (eH (rP n)).1=_:=DS (q:=n) (u:=0) (by decide) (by grind[eH,rP]);rw[hc]at hz;obtain⟨N,hN⟩:∃N:Nat,N=16384:=⟨_,rfl⟩;rw[show((0:Int)+16384).toNat=N by omega]at hz;unfold qv EQ;rw[hz,←hN,show(((n*2^N:Nat):Int):Rat)=n*pQ N by rw[Int.natCast_mul,Int.natCast_pow,Rat.intCast_mul];rfl];grind[DU]
theorem X6{n:Nat}(hn:n<=1000):R F.dyadic_Int [I n] []=some (ag (rP n),[]):=by
 have:=WX (n:=(n:Int)) (by grind[I64]);exact this
def Tc(n:Nat)(ds:List Int)(cs:List Ri)(p:Int)(h:ac):Prop:=h 1000=.bx [I n]/\h 1001=.bx [.ref 1002 none 0 0 0]/\h 1002=bh ds cs p/\h 1003=.dead
theorem aem{h h':ac}{d:Nat}{l:List AV}(hl:l.all dat=true):gk h d l h'=some ([],[2000+8*d]):=by
 rw[vL,if_pos hl]
attribute [-go_sem] vL in
theorem acu{ds:List Int}{p:Int}{N f st n:Nat}(hN:f+n*st<N)(hN4:N<=400)(hn:n<=400):∀ (k j:Nat),j+k=n->∀ (cs:List Ri) (g:G),gw N cs g->∀ (sc:Ri) (b:Rat),In b sc->∀ (s:af) (h:ac) (X:Option (Ex×St)),am 0 [0,1,2,3] (aD (aj R (aH false) fq) [0,1,2,3,6,7] [6,1000,1001,1002,1003] s h)=X->
  s 0=I f->s 1=I st->s 2=.ref 1000 none 0 0 0->s 3=.ref 1001 none 0 0 0->s 6=.ref 6 none 0 0 0->s 7=I (j+1:Nat)->h 6=dX sc->Tc n ds cs p h->
  ∃hh cs',X=some (.normal,⟨upd (upd (upd (upd (fun _=>.any) 3 (.ref 1001 none 0 0 0)) 2 (.ref 1000 none 0 0 0)) 1 (I st)) 0 (I f),hh⟩)/\Tc n ds cs' p hh/\gw N cs' (F3 n (fun j=>f+j*st) k (j+1) b g):=by
 intro k;induction k with
 |zero=>
  intro j hk cs g he sc b hb s h X hX g0 g1 g2 g3 g6 g7 k6 ho;subst hX;obtain⟨k0,k1,k2,k3⟩:=ho;have e1:(((j+1:Nat):Int)<=n)=False:=eq_false (by omega);have hg:=(bB ds cs p).cl [6,1000,1001,1002,1003];have hs:=(eu sc).cl [6,1000,1001,1002,1003];rw[ai];refine⟨?hh0,cs,?_,?_,he⟩;rotate_left
  ·simp only[fq,go_sem,apB,apA,apC,apD,apE,g0,g1,g2,g3,g6,g7,k0,k1,k2,k3,k6,hg,hs,e1];rfl
  ·exact⟨rfl,rfl,rfl,rfl⟩
 |succ k ih=>
  intro j hk cs g he sc b hb s h X hX g0 g1 g2 g3 g6 g7 k6 ho;subst hX;obtain⟨k0,k1,k2,k3⟩:=ho;have hm1:(j+1)*st<=n*st:=Nat.mul_le_mul_right _ (by omega);have e1:(((j+1:Nat):Int)<=n)=True:=eq_true (by omega);have w0:IntKind.i64.wrap ((n:Int)- ((j+1:Nat):Int))=(k:Int):=wi (by omega) (by omega);have w5:IntKind.i64.wrap ((k:Int)+1)=((k+1:Nat):Int):=wi (by omega) (by omega);have w1:IntKind.i64.wrap (((j+1:Nat):Int)*st)=(((j+1)*st:Nat):Int):=wi (Int.natCast_mul ..).symm (by omega);have w2:IntKind.i64.wrap ((f:Int)+(((j+1)*st:Nat):Int))=((f+(j+1)*st:Nat):Int):=wi (by omega) (by omega);have w4:IntKind.i64.wrap (((j+1:Nat):Int)+1)=((j+1+1:Nat):Int):=wi (by omega) (by omega);obtain⟨x,x1,x2⟩:=he.get (k:=f+(j+1)*st) (by omega);have hg:=(bB ds cs p).cl [6,1000,1001,1002,1003];have hs:=(eu sc).cl [6,1000,1001,1002,1003];obtain⟨t1,t2⟩:=Tb (n:=k+1) (by omega);obtain⟨u1,u2⟩:=Tb (n:=j+1) (by omega);have ci1:=X6 (n:=k+1) (by omega);have ci2:=X6 (n:=j+1) (by omega);have cp1:=iP t1.2 t1.1;have cp2:=iP u1.2 u1.1;have ip1:=rx t1.1 t1.2;have ip2:=rx u1.1 u1.2;rw[t2]at ip1;rw[u2]at ip2;have cm:=fun(h:ac) (d:Nat) hh hd=>zG (ds:=ds) (cs:=cs) (p:=p) (h:=h) (d:=d) (id:=1002) hb.ok ip1.ok hh hd;have pm:=so (p:=p) hb ip1;have cd:=SV pm.ok ip2.ok (p:=p);have pd:=S4 (p:=p) pm ip2;have cd2:=SV x2.ok pd.ok (p:=p);have pd2:=S4 (p:=p) x2 pd;have hbe:b*((n:Rat)- (j+1:Nat)+1)/ (j+1:Nat)=b*((k+1:Nat):Rat)/ ((j+1:Nat):Rat):=by
   have:(n:Rat)=(j+(k+1):Nat):=by rw[hk]
   grind
  have q1:(aY cs)[f+(j+1)*st]?=some (az x):=by grind[aY]
  have i1:(0<=((f+(j+1)*st:Nat):Int))=True:=eq_true (by omega);have i3:(((f+(j+1)*st:Nat):Int)< (cs.length:Int))=True:=eq_true (by grind);have sr1:∀u:Ri,nQ 7 7 (f+(j+1)*st) 0 (az u) 7 (aY cs)=some (aY (cs.set (f+(j+1)*st) u)):=fun u=>Be (by grind);have ih':=ih (j+1) (by omega) _ _ (he.set (k:=f+(j+1)*st) pd2) _ _ pd;have hdv:F3 n (fun j=>f+j*st) (k+1) (j+1) b g=F3 n (fun j=>f+j*st) k (j+1+1) (b*((k+1:Nat):Rat)/ ((j+1:Nat):Rat)) (gs g (f+(j+1)*st) (g (f+(j+1)*st)/ (b*((k+1:Nat):Rat)/ ((j+1:Nat):Rat)))):=by
   rw[←hbe];rfl
  rw[hdv,ai];generalize aD _ _ _=L at ih'⊢;generalize rP (k+1)=c1 at*
  generalize rP (j+1)=c2 at*
  generalize jM sc ⟨c1,c1,false⟩ p=z at*
  generalize Ko z ⟨c2,c2,false⟩ p=v at*
  generalize Ko x v p=y at*
  simp only[bh,av,az]at cm;simp only[ag,ak,av,az]at ci1 ci2 cp1 cp2 cd cd2;simp only[az]at q1 sr1;simp only[bh]at k2 hg;simp only[dX]at k6 hs;simp only[fq,go_sem,apB,apA,apC,apD,apE,g0,g1,g2,g3,g6,g7,k0,k1,k2,k3,k6,hg,hs,e1,w0,w5,ci1,cp1];have fp:=fun(h h':ac) (d:Nat) (x y:Ri)=>Vq (h:=h) (h':=h') (d:=d) (id:=1002) (ds:=ds) (cs:=cs) (p:=p) (x:=x) (y:=y) (by decide);simp only[bh,av,az]at fp;have fp1:=fun(h h':ac) (d:Nat)=>fp h h' d sc ⟨c1,c1,false⟩;rw[cm _ _ rfl rfl];simp only[go_sem,apB,apA,apC,apD,apE,fp1,aem,ci2,cp2,cd,w1,w2,i1,i3,sv,xv,Int.toNat_natCast,Nat.zero_add,q1,cd2,Bd,sr1,w4];exact ih' _ _ _ rfl rfl rfl rfl rfl rfl rfl rfl ⟨rfl,rfl,rfl,rfl⟩
attribute [-go_sem] vL in
theorem acv{ds:List Int}{p:Int}{N f st n j:Nat}(hN:f+n*st<N)(hN4:N<=400)(hn:n<=400):∀ (k:Nat),j+k<=n->∀ (cs:List Ri) (g:G),gw N cs g->∀ (s:af) (h:ac) (X:Option (Ex×St)),am 4 [0,1,2,3,8] (aD (aj R (aH false) du) [0,1,2,3,8,9] [1000,1001,1002,1003] s h)=X->
  s 0=I f->s 1=I st->s 2=.ref 1000 none 0 0 0->s 3=.ref 1001 none 0 0 0->s 8=I (j+1:Nat)->s 9=I (j+k:Nat)->Tc n ds cs p h->
  ∃hh cs',X=some (.normal,⟨upd (upd (upd (upd (upd (fun _=>.any) 8 (I (j+1:Nat))) 3 (.ref 1001 none 0 0 0)) 2 (.ref 1000 none 0 0 0)) 1 (I st)) 0 (I f),hh⟩)/\Tc n ds cs' p hh/\gw N cs' (Il (fun j=>f+j*st) j k g):=by
 intro k;induction k with
 |zero=>
  intro hk cs g he s h X hX g0 g1 g2 g3 g8 g9 ho;subst hX;obtain⟨k0,k1,k2,k3⟩:=ho;have e1:(((j+1:Nat):Int)<=((j+0:Nat):Int))=False:=eq_false (by omega);have hg:=(bB ds cs p).cl [1000,1001,1002,1003];rw[ai];refine⟨?hh0,cs,?_,?_,he⟩;rotate_left
  ·simp only[du,go_sem,apB,apA,apC,apD,apE,g0,g1,g2,g3,g8,g9,k0,k1,k2,k3,hg,e1];rfl
  ·exact⟨rfl,rfl,rfl,rfl⟩
 |succ k ih=>
  intro hk cs g he s h X hX g0 g1 g2 g3 g8 g9 ho;subst hX;obtain⟨k0,k1,k2,k3⟩:=ho;have hm1:(j+k+1)*st<=n*st:=Nat.mul_le_mul_right _ (by omega);have hs2:(j+k+1)*st=(j+k)*st+st:=by grind
  have e1:(((j+1:Nat):Int)<=((j+(k+1):Nat):Int))=True:=eq_true (by omega);have w0:IntKind.i64.wrap (((j+(k+1):Nat):Int)-1)=((j+k:Nat):Int):=wi (by omega) (by omega);have w1:IntKind.i64.wrap (((j+(k+1):Nat):Int)*st)=(((j+k+1)*st:Nat):Int):=wi (Int.natCast_mul ..).symm (by omega);have w2:IntKind.i64.wrap ((f:Int)+(((j+k+1)*st:Nat):Int))=((f+(j+k+1)*st:Nat):Int):=wi (by omega) (by omega);have w3:IntKind.i64.wrap (((j+k:Nat):Int)*st)=(((j+k)*st:Nat):Int):=wi (Int.natCast_mul ..).symm (by omega);have w4:IntKind.i64.wrap ((f:Int)+(((j+k)*st:Nat):Int))=((f+(j+k)*st:Nat):Int):=wi (by omega) (by omega);obtain⟨x,x1,x2⟩:=he.get (k:=f+(j+k+1)*st) (by omega);obtain⟨y,y1,y2⟩:=he.get (k:=f+(j+k)*st) (by omega);have hg:=(bB ds cs p).cl [1000,1001,1002,1003];have ca:=fun(h:ac) (d:Nat) hh hd=>LR (ds:=ds) (cs:=cs) (p:=p) (h:=h) (d:=d) (id:=1002) x2.ok y2.ok hh hd;have pa:=xt (p:=p) x2 y2;have q1:(aY cs)[f+(j+k+1)*st]?=some (az x):=by grind[aY]
  have q2:(aY cs)[f+(j+k)*st]?=some (az y):=by grind[aY]
  have i1:(0<=((f+(j+k+1)*st:Nat):Int))=True:=eq_true (by omega);have i2:(0<=((f+(j+k)*st:Nat):Int))=True:=eq_true (by omega);have i3:(((f+(j+k+1)*st:Nat):Int)< (cs.length:Int))=True:=eq_true (by grind);have i4:(((f+(j+k)*st:Nat):Int)< (cs.length:Int))=True:=eq_true (by grind);have sr1:∀u:Ri,nQ 7 7 (f+(j+k+1)*st) 0 (az u) 7 (aY cs)=some (aY (cs.set (f+(j+k+1)*st) u)):=fun u=>Be (by grind);have ih':=ih (by omega) _ _ (he.set (k:=f+(j+k+1)*st) pa);have fp:=fun(h h':ac) (d:Nat) (x y:Ri)=>Vq (h:=h) (h':=h') (d:=d) (id:=1002) (ds:=ds) (cs:=cs) (p:=p) (x:=x) (y:=y) (by decide);simp only[bh,av,az]at fp;rw[ai];generalize aD _ _ _=L at ih'⊢;generalize j3 x y p=z at*
  simp only[bh,av,az]at ca;simp only[az]at q1 q2 sr1;simp only[bh]at k2 hg;simp only[du,go_sem,apB,apA,apC,apD,apE,g0,g1,g2,g3,g8,g9,k0,k1,k2,k3,hg,e1,w0,w1,w2,w3,w4,i1,i2,i3,i4,sv,xv,Int.toNat_natCast,Nat.zero_add,q1,q2];rw[ca _ _ rfl rfl];simp only[go_sem,apB,apA,apC,apD,apE,fp,w0,i1,i3,Int.toNat_natCast,Nat.zero_add,Bd,sr1];exact ih' _ _ _ rfl rfl rfl rfl rfl rfl rfl ⟨rfl,rfl,rfl,rfl⟩
theorem acw{ds:List Int}{p:Int}{N f st n:Nat}(hN:f+n*st<N)(hN4:N<=400)(hn:n<=400):∀ (k j:Nat),j+k=n->∀ (cs:List Ri) (g:G),gw N cs g->∀ (s:af) (h:ac) (X:Option (Ex×St)),am 2 [] (aD (aj R (aH false) fm) [0,1,2,3,8] [1000,1001,1002,1003] s h)=X->
  s 0=I f->s 1=I st->s 2=.ref 1000 none 0 0 0->s 3=.ref 1001 none 0 0 0->s 8=I (j+1:Nat)->Tc n ds cs p h->
  ∃hh cs',X=some (.normal,⟨fun _=>.any,hh⟩)/\Tc n ds cs' p hh/\gw N cs' (LL (fun j=>f+j*st) k j g):=by
 intro k;induction k with
 |zero=>
  intro j hk cs g he s h X hX g0 g1 g2 g3 g8 ho;subst hX;obtain⟨k0,k1,k2,k3⟩:=ho;have e1:(((j+1:Nat):Int)<=n)=False:=eq_false (by omega);have hg:=(bB ds cs p).cl [1000,1001,1002,1003];rw[ai];refine⟨?hh0,cs,?_,?_,he⟩;rotate_left
  ·simp only[fm,go_sem,apB,apA,apC,apD,apE,g0,g1,g2,g3,g8,k0,k1,k2,k3,hg,e1];rfl
  ·exact⟨rfl,rfl,rfl,rfl⟩
 |succ k ih=>
  intro j hk cs g he s h X hX g0 g1 g2 g3 g8 ho;subst hX;obtain⟨k0,k1,k2,k3⟩:=ho;have e1:(((j+1:Nat):Int)<=n)=True:=eq_true (by omega);have w2:IntKind.i64.wrap (((j+1:Nat):Int)+1)=((j+1+1:Nat):Int):=wi (by omega) (by omega);have hg:=(bB ds cs p).cl [1000,1001,1002,1003];have hu:=acv (ds:=ds) (p:=p) hN hN4 hn (j:=j) (k+1) (by omega) cs g he;have ih':=ih (j+1) (by omega);rw[ai];simp only[fm,go_sem,apB,apA,apC,apD,apE,g0,g1,g2,g3,g8,k0,k1,k2,k3,hg,e1];generalize hX:am 4 _ _=X;obtain⟨hh,cs',rfl,ho2,he2⟩:=hu _ _ _ hX rfl rfl rfl rfl rfl (by rw[hk];rfl) ⟨rfl,rfl,rfl,rfl⟩;simp only[go_sem,apB,apA,apC,apD,apE,w2];exact ih' cs' _ he2 _ _ _ rfl rfl rfl rfl rfl rfl ho2
theorem aab{ds:List Int}{cs:List Ri}{p:Int}{N f st n:Nat}{g:G}(he:gw N cs g)(hN:f+n*st<N)(hN4:N<=400)(hn:n<=400):
  ∃cs',R F.bound_grid_bernstein_1 [I f,I st,.ref 1000 none 0 0 0,.ref 1001 none 0 0 0] [.bx [I n],.bx [.ref 1002 none 0 0 0],bh ds cs p]=some (.tup [],[.bx [I n],.bx [.ref 1002 none 0 0 0],bh ds cs' p])/\gw N cs' (Io n (fun j=>f+j*st) g):=by
 have h2:=acu (ds:=ds) (p:=p) hN hN4 hn n 0 (Nat.zero_add _) cs g he ⟨one,one,false⟩ 1 (by rw[←PD];exact rx kP.1 kP.2);have h3:=fun(cs:List Ri) (g:G) he=>acw (ds:=ds) (p:=p) (n:=n) (st:=st) (f:=f) hN hN4 hn n 0 (Nat.zero_add _) cs g he;have hi:=O6;have hp:=iP kP.2 kP.1;refine E5 bX.2.1 bX.2.2 (bX.1.2.2.2 false) rfl (Nat.le_of_ble_eq_true rfl) ?_;simp only[ag,ak,av,az]at hi hp;simp only[jd,pf,PK,go_sem,apB,apA,apC,apD,apE,hi,hp];generalize hX:am 0 _ _=X;obtain⟨hh,cs1,rfl,ho,he1⟩:=h2 _ _ _ hX rfl rfl rfl rfl rfl rfl rfl ⟨rfl,rfl,rfl,rfl⟩;obtain⟨k0,k1,k2,k3⟩:=ho;simp only[go_sem,apB,apA,apC,apD,apE];generalize hX:am 2 _ _=X;obtain⟨hh2,cs2,rfl,ho,he2⟩:=h3 cs1 _ he1 _ _ _ hX rfl rfl rfl rfl rfl ⟨k0,k1,k2,k3⟩;obtain⟨k0,k1,k2,k3⟩:=ho;refine⟨cs2,?_,he2⟩;have hp3:cu 3=[1000,1001,1002]:=rfl;refine IC (by grind) ?_;rfl
noncomputable def vY:Cmd:=.ops [0,1,2,6,15,16] [cm 32 2,cm 33 7,cm 34 6,⟨(some 35),none,.call (.t 32) [.t 33,.t 34]⟩]
theorem yH:lK=.seq (.ops [0,1,2,6,15,16,17] [b2 17 .lss 16 15]) (.seq (.cond (.t 17) (.skip) (.exit 0)) (.seq (.block 1 [0,1,2,6,15,16] (.seq (.ops [0,1,2,6,7,15,16] [cm 18 16,cm 7 18]) (.seq (.dops [0,1,2,6,7,15,16,31] [cm 19 7,cm 20 6,b2 21 .quo 19 20,cm 22 0,nk 23 22,fa 24 0 23,ld 25 1 24,cm 26 1,co 27 (.iadrS 1 (.t 25) (.t 26)),ld 28 1 27,co 29 (.bin .add (.t 28) (.c (I 1))),b2 30 .rem 21 29,co 31 (.bin .eql (.t 30) (.c (I 0)))] []) (.cond (.t 31) vY (.skip))))) (.ops [0,1,2,6,15,16] [co 36 (.bin .add (.t 16) (.c (I 1))),cm 16 36]))):=rfl
structure LnO (cl:AV) (ds:List Int) (p:Int) (N k st n:Nat) (op:Nat->G->G) (o1 o2 o3 o4:Ob):Prop where
 c1:aO [1000,1001,1002,1003,1004] o1=true
 c2:aO [1000,1001,1002,1003,1004] o2=true
 c3:aO [1000,1001,1002,1003,1004] o3=true
 c4:aO [1000,1001,1002,1003,1004] o4=true
 c5:eN [1000,1001,1002,1003,1004] cl=cl
 run:∀ (f:Nat) (cs:List Ri) (g:G),gw N cs g->f<N->f/st% (n+1)=0->∀ (s:af) (h:ac) (X:Option (Ex×St)),aj R (aH false) vY s h=X->s 0=.ref 1000 none 0 0 0->s 1=I k->s 2=cl->s 6=I st->s 7=I f->s 15=I N->s 16=I f->h 1000=bh ds cs p->h 1001=o1->h 1002=o2->h 1003=o3->h 1004=o4->h 2280=.dead->
  ∃cs' hh,X=some (.normal,⟨upd (upd (upd (upd (upd (upd (fun _=>.any) 16 (I f)) 15 (I N)) 6 (I st)) 2 cl) 1 (I k)) 0 (.ref 1000 none 0 0 0),hh⟩)/\hh 1000=bh ds cs' p/\hh 1001=o1/\hh 1002=o2/\hh 1003=o3/\hh 1004=o4/\gw N cs' (op f g)
theorem ID{cl:AV}{ds:List Int}{p:Int}{N k st n:Nat}{op:Nat->G->G}{o1 o2 o3 o4:Ob}(L:LnO cl ds p N k st n op o1 o2 o3 o4)(hN4:N<=400)(hs:0<st)(hst:st<=400)(hn:n<=400)(hk:ds[k]?=some (n:Int)):
  ∀ (m i:Nat),i+m=N->∀ (cs:List Ri) (g:G),gw N cs g->∀ (s:af) (h:ac) (X:Option (Ex×St)),am 0 [] (aD (aj R (aH false) lK) [0,1,2,6,15,16] [1000,1001,1002,1003,1004] s h)=X->
  s 0=.ref 1000 none 0 0 0->s 1=I k->s 2=cl->s 6=I st->s 15=I N->s 16=I i->h 1000=bh ds cs p->h 1001=o1->h 1002=o2->h 1003=o3->h 1004=o4->
  ∃cs' hh,X=some (.normal,⟨fun _=>.any,hh⟩)/\hh 1000=bh ds cs' p/\hh 1001=o1/\hh 1002=o2/\hh 1003=o3/\hh 1004=o4/\gw N cs' (ps op st n m i g):=by
 obtain⟨c1,c2,c3,c4,c5,lr⟩:=L;intro m;induction m with
 |zero=>
  intro i hm cs g he s h X hX g0 g1 g2 g6 g15 g16 k0 k1 k2 k3 k4;subst hX;have e1:((i:Int)<N)=False:=eq_false (by omega);have hg:=(bB ds cs p).cl [1000,1001,1002,1003,1004];rw[ai];refine⟨cs,?hh0,?_,?_,?_,?_,?_,?_,he⟩;rotate_left
  ·simp only[yH,go_sem,apB,apA,apC,apD,apE,g0,g1,g2,g6,g15,g16,k0,k1,k2,k3,k4,hg,c1,c2,c3,c4,c5,e1];rfl
  all_goals rfl
 |succ m ih=>
  intro i hm cs g he s h X hX g0 g1 g2 g6 g15 g16 k0 k1 k2 k3 k4;subst hX;have e1:((i:Int)<N)=True:=eq_true (by omega);have hg:=(bB ds cs p).cl [1000,1001,1002,1003,1004];have w1:IntKind.i64.wrap (Int.tdiv (i:Int) st)=((i/st:Nat):Int):=by
   have:=Nat.div_le_self i st;grind[wi]
  have w2:IntKind.i64.wrap ((n:Int)+1)=((n+1:Nat):Int):=wi (by omega) (by omega);have w4:IntKind.i64.wrap ((i:Int)+1)=((i+1:Nat):Int):=wi (by omega) (by omega);have d1:((st:Int)=0)=False:=eq_false (by omega);have d2:(((n+1:Nat):Int)=0)=False:=eq_false (by omega);have hr:=lr i cs g he (by omega);have ih':=ih (i+1) (by omega);have hps:ps op st n (m+1) i g=ps op st n m (i+1) (if i/st% (n+1)=0 then op i g else g):=rfl;rw[hps,ai];generalize aD _ _ _=L at ih'⊢;have hkl:k<ds.length:=(List.getElem?_eq_some_iff.1 hk).1;have i1:(0<=(k:Int))=True:=eq_true (by omega);have i2:((k:Int)< (ds.length:Int))=True:=eq_true (by omega);have q1:(bw ds)[k]?=some [I n]:=by grind[bw]
  by_cases h0:i/st% (n+1)=0
  ·have e2:(Int.tmod ((i/st:Nat):Int) ((n+1:Nat):Int)=0)=True:=eq_true (by grind);rw[if_pos h0];have hr:=hr h0;simp only[bh]at k0 hg;simp only[yH,go_sem,apB,apA,apC,apD,apE,g0,g1,g2,g6,g15,g16,k0,k1,k2,k3,k4,hg,c1,c2,c3,c4,c5,e1,e2,w1,w2,d1,d2,l8,su,q1,i1,i2,Int.toNat_natCast,Nat.zero_add];generalize hX:aj R (aH false) vY _ _=X;obtain⟨cs',hh,rfl,r0,r1,r2,r3,r4,he2⟩:=hr _ _ _ hX rfl rfl rfl rfl rfl rfl rfl rfl rfl rfl rfl rfl rfl;simp only[go_sem,apB,apA,apC,apD,apE,w4,c5];exact ih' cs' _ he2 _ _ _ rfl rfl rfl rfl rfl rfl rfl r0 r1 r2 r3 r4
  ·have e2:(Int.tmod ((i/st:Nat):Int) ((n+1:Nat):Int)=0)=False:=eq_false (by grind);rw[if_neg h0];simp only[bh]at k0 hg;simp only[yH,go_sem,apB,apA,apC,apD,apE,g0,g1,g2,g6,g15,g16,k0,k1,k2,k3,k4,hg,c1,c2,c3,c4,c5,e1,e2,w1,w2,w4,d1,d2,l8,su,q1,i1,i2,Int.toNat_natCast,Nat.zero_add];exact ih' cs g he _ _ _ rfl rfl rfl rfl rfl rfl rfl rfl rfl rfl rfl rfl
def dI(l:List Nat):List Int:=l.map Int.ofNat
def bg:List Nat->Nat->Nat
 |[],n=>n
 |d::l,n=>bg l (n*(d+1))
theorem E6:∀ (ds:List Nat) (n:Nat),G0 (dI ds) (n:Int)=(bg ds n:Nat)
 |[],_=>rfl
 |d::ds,n=>by
  show G0 (dI ds) ((n:Int)*(Int.ofNat d+1))=(bg ds (n*(d+1)):Nat);rw[←E6 ds (n*(d+1)),Int.natCast_mul];rfl
theorem jQ:∀ (ds:List Nat) (n:Nat),0<n->n<=bg ds n
 |[],_,_=>Nat.le_refl _
 |d::ds,n,h=>Nat.le_trans (Nat.le_mul_of_pos_right n (Nat.succ_pos d)) (jQ ds _ (Nat.mul_pos h (Nat.succ_pos d)))
theorem G1:∀ (ds:List Nat) (n:Nat),bg ds n=n*bg ds 1
 |[],n=>(Nat.mul_one n).symm
 |d::ds,n=>by
  show bg ds (n*(d+1))=n*bg ds (1*(d+1));rw[G1 ds (n*(d+1)),G1 ds (1*(d+1)),Nat.one_mul,Nat.mul_assoc]
theorem B9:∀ (ds:List Nat) (k n d:Nat),ds[k]?=some d->bg ds n=bg (ds.take k) n*(d+1)*bg (ds.drop (k+1)) 1
 |d'::ds,0,n,d,h=>by
  have:d'=d:=by grind
  subst this;exact G1 ds _
 |d'::ds,k+1,n,d,h=>B9 ds k (n*(d'+1)) d (by grind)
 |[],_,_,_,h=>by grind
theorem Td{N st n H f:Nat}(hN:N=st*(n+1)*H)(hs:0<st)(hf:f<N)(h0:f/st% (n+1)=0):f+n*st<N:=by
 have h1:=Nat.div_add_mod f st;have h2:=Nat.mod_lt f hs;have h3:=Nat.div_add_mod (f/st) (n+1);rw[h0,Nat.add_zero]at h3;generalize f/st/ (n+1)=q at*
 have h4:q<H:=by
  refine Nat.lt_of_mul_lt_mul_left (a:=st*(n+1)) ?_;rw[←hN,Nat.mul_assoc,h3];omega
 have h5:st*(n+1)*(q+1)<=N:=by
  rw[hN];exact Nat.mul_le_mul_left _ h4
 rw[←h3]at h1;grind
theorem X7{dn:List Nat}{cs:List Ri}{p:Int}{k n:Nat}{lo w:Ri}{l u:Rat}{g:G}(hl:In l lo)(hw:In u w)(hk:dn[k]?=some n)(h8:dn.length<=8)(hb:∀d∈dn,d<=32)(hN4:bg dn 1<=400)(he:gw (bg dn 1) cs g):
  ∃cs',R F.bound_grid_lines [.ref 1000 none 0 0 0,I k,.fn F.bound_grid_unit_1 [] [.ref 1001 none 0 0 0,.ref 1002 none 0 0 0,.ref 1003 none 0 0 0,.ref 1004 none 0 0 0]] [bh (dI dn) cs p,.bx [I n],.bx [.ref 1000 none 0 0 0],dX lo,dX w]=some (.tup [],[bh (dI dn) cs' p,.bx [I n],.bx [.ref 1000 none 0 0 0],dX lo,dX w])/\
   gw (bg dn 1) cs' (ps (fun f=>Im l u n (fun j=>f+j*bg (dn.take k) 1)) (bg (dn.take k) 1) n (bg dn 1) 0 g):=by
 have hkl:k<dn.length:=(List.getElem?_eq_some_iff.1 hk).1;have hn:n<=32:=hb n (List.mem_of_getElem? hk);have hbI:∀d∈dI dn,0<=d/\d<=32:=fun d hd=>by
  obtain⟨x,hx,rfl⟩:=List.mem_map.1 hd;grind
 have hsp:=B9 dn k 1 n hk;have hs0:=jQ (dn.take k) 1 (by decide);have hst:bg (dn.take k) 1<=400:=by
  refine Nat.le_trans ?_ hN4;rw[hsp,Nat.mul_assoc];exact Nat.le_mul_of_pos_right _ (Nat.mul_pos (Nat.succ_pos n) (jQ _ 1 (by decide)))
 have hstep:=fun(h:ac) (d:Nat) (hh:h 1000=bh (dI dn) cs p) (hd:h (2000+8*d)=.dead)=>pA (iY false) rfl (D4 (m:=k) (by grind[dI]) (by omega) hbI (d:=d) hh hd);rw[show(dI dn).take k=dI (dn.take k)from(List.map_take ..).symm,show(1:Int)=((1:Nat):Int)from rfl,E6]at hstep;generalize bg (dn.take k) 1=st at*
 generalize bg dn 1=N at*
 have L:LnO (.fn F.bound_grid_unit_1 [] [.ref 1001 none 0 0 0,.ref 1002 none 0 0 0,.ref 1003 none 0 0 0,.ref 1004 none 0 0 0]) (dI dn) p N k st n (fun f=>Im l u n (fun j=>f+j*st)) (.bx [I n]) (.bx [.ref 1000 none 0 0 0]) (dX lo) (dX w):=by
  refine⟨rfl,rfl,(eu lo).cl _,(eu w).cl _,rfl,?_⟩;intro f cs g he hf h0 s h X hX g0 g1 g2 g6 g7 g15 g16 k0 k1 k2 k3 k4 kd;subst hX;obtain⟨cs',hR,he'⟩:=aaa (ds:=dI dn) (p:=p) hl hw he (Td hsp (by omega) hf h0) hN4 (by omega);have hc:=Vn hR (d:=35) k0 k1 k2 k3 k4 kd;refine⟨cs',?hh0,?_,?_,?_,?_,?_,?_,he'⟩;rotate_left
  ·simp only[vY,go_sem,apB,apA,apC,apD,apE,g0,g1,g2,g6,g7,g15,g16,hc];rfl
  all_goals rfl
 refine E5 bd.2.1 bd.2.2 (bd.1.2.2.2 false) rfl (Nat.le_of_ble_eq_true rfl) ?_;have hll:=ID L hN4 (by omega) hst (by omega) (by grind[dI]) N 0 (Nat.zero_add _) cs g he;simp only[jT,pe,PJ,go_sem,apB,apA,apC,apD,apE];rw[hstep _ _ rfl rfl];have hlen:(cs.length:Int)=N:=by rw[he.1]
 have hgo:=(bB (dI dn) cs p).cl [1000,1001,1002,1003,1004];simp only[bh]at hgo⊢;simp only[go_sem,apB,apA,apC,apD,apE,hlen,hgo,(eu lo).cl,(eu w).cl];generalize hX:am 0 _ _=X;obtain⟨cs',hh,rfl,k0,k1,k2,k3,k4,he2⟩:=hll _ _ _ hX rfl rfl rfl rfl rfl rfl rfl rfl rfl rfl rfl;refine⟨cs',?_,he2⟩;have hp5:cu 5=[1000,1001,1002,1003,1004]:=rfl;refine IC (by grind[List.map,bh]) ?_;rfl
theorem X8{dn:List Nat}{cs:List Ri}{p:Int}{k n:Nat}{g:G}(hk:dn[k]?=some n)(h8:dn.length<=8)(hb:∀d∈dn,d<=32)(hN4:bg dn 1<=400)(he:gw (bg dn 1) cs g):
  ∃cs',R F.bound_grid_lines [.ref 1000 none 0 0 0,I k,.fn F.bound_grid_bernstein_1 [] [.ref 1001 none 0 0 0,.ref 1002 none 0 0 0]] [bh (dI dn) cs p,.bx [I n],.bx [.ref 1000 none 0 0 0]]=some (.tup [],[bh (dI dn) cs' p,.bx [I n],.bx [.ref 1000 none 0 0 0]])/\
   gw (bg dn 1) cs' (ps (fun f=>Io n (fun j=>f+j*bg (dn.take k) 1)) (bg (dn.take k) 1) n (bg dn 1) 0 g):=by
 have hkl:k<dn.length:=(List.getElem?_eq_some_iff.1 hk).1;have hn:n<=32:=hb n (List.mem_of_getElem? hk);have hbI:∀d∈dI dn,0<=d/\d<=32:=fun d hd=>by
  obtain⟨x,hx,rfl⟩:=List.mem_map.1 hd;grind
 have hsp:=B9 dn k 1 n hk;have hs0:=jQ (dn.take k) 1 (by decide);have hst:bg (dn.take k) 1<=400:=by
  refine Nat.le_trans ?_ hN4;rw[hsp,Nat.mul_assoc];exact Nat.le_mul_of_pos_right _ (Nat.mul_pos (Nat.succ_pos n) (jQ _ 1 (by decide)))
 have hstep:=fun(h:ac) (d:Nat) (hh:h 1000=bh (dI dn) cs p) (hd:h (2000+8*d)=.dead)=>pA (iY false) rfl (D4 (m:=k) (by grind[dI]) (by omega) hbI (d:=d) hh hd);rw[show(dI dn).take k=dI (dn.take k)from(List.map_take ..).symm,show(1:Int)=((1:Nat):Int)from rfl,E6]at hstep;generalize bg (dn.take k) 1=st at*
 generalize bg dn 1=N at*
 have L:LnO (.fn F.bound_grid_bernstein_1 [] [.ref 1001 none 0 0 0,.ref 1002 none 0 0 0]) (dI dn) p N k st n (fun f=>Io n (fun j=>f+j*st)) (.bx [I n]) (.bx [.ref 1000 none 0 0 0]) .dead .dead:=by
  refine⟨rfl,rfl,rfl,rfl,rfl,?_⟩;intro f cs g he hf h0 s h X hX g0 g1 g2 g6 g7 g15 g16 k0 k1 k2 k3 k4 kd;subst hX;obtain⟨cs',hR,he'⟩:=aab (ds:=dI dn) (p:=p) he (Td hsp (by omega) hf h0) hN4 (by omega);have hc:=Vo hR (d:=35) k0 k1 k2 kd;refine⟨cs',?hh0,?_,?_,?_,?_,?_,?_,he'⟩;rotate_left
  ·simp only[vY,go_sem,apB,apA,apC,apD,apE,g0,g1,g2,g6,g7,g15,g16,hc];rfl
  all_goals first|rfl|assumption
 refine E5 bd.2.1 bd.2.2 (bd.1.2.2.2 false) rfl (Nat.le_of_ble_eq_true rfl) ?_;have hll:=ID L hN4 (by omega) hst (by omega) (by grind[dI]) N 0 (Nat.zero_add _) cs g he;simp only[jT,pe,PK,go_sem,apB,apA,apC,apD,apE];rw[hstep _ _ rfl rfl];have hlen:(cs.length:Int)=N:=by rw[he.1]
 have hgo:=(bB (dI dn) cs p).cl [1000,1001,1002,1003,1004];simp only[bh]at hgo⊢;simp only[go_sem,apB,apA,apC,apD,apE,hlen,hgo];generalize hX:am 0 _ _=X;obtain⟨cs',hh,rfl,k0,k1,k2,k3,k4,he2⟩:=hll _ _ _ hX rfl rfl rfl rfl rfl rfl rfl rfl rfl rfl rfl;refine⟨cs',?_,he2⟩;have hp5:cu 3=[1000,1001,1002]:=rfl;refine IC (by grind[List.map,bh]) ?_;rfl
theorem acx{dn:List Nat}{cs:List Ri}{p:Int}{k n:Nat}{g:G}(hk:dn[k]?=some n)(h8:dn.length<=8)(hb:∀d∈dn,d<=32)(hN4:bg dn 1<=400)(he:gw (bg dn 1) cs g):
  ∃cs',R F.bound_grid_bernstein [.ref 1000 none 0 0 0,I k] [bh (dI dn) cs p]=some (.tup [],[bh (dI dn) cs' p])/\gw (bg dn 1) cs' (ps (fun f=>Io n (fun j=>f+j*bg (dn.take k) 1)) (bg (dn.take k) 1) n (bg dn 1) 0 g):=by
 obtain⟨cs',hR,he'⟩:=X8 (p:=p) hk h8 hb hN4 he;refine⟨cs',Vf cW.2.1 cW.2.2 (cW.1.2.2.2 false) rfl ?_,he'⟩;have e3:(bw (dI dn))[k]?=some [I n]:=by grind[bw,dI]
 have e7:(0<=(k:Int))=True:=eq_true (by omega);have e8:((k:Int)< ((dI dn).length:Int))=True:=eq_true (by grind[dI]);have hl:=fun(h:ac) (d:Nat) h0 h1 h2 hf=>PL (bd.1.2.1 false) rfl (IB hR (h:=h) (d:=d) h0 h1 h2 hf);simp only[bh]at hl⊢;simp only[j1,qP,go_sem,apB,apA,apC,apD,apE,Nat.zero_add];rw[X5 (cs:=[.osl 1 (bw (dI dn)),.osl 7 (aY cs),I p]) rfl rfl];simp only[go_sem,apB,apA,apC,apD,apE,e3,e7,e8,xu,Int.toNat_natCast,Nat.zero_add,l8,su];rw[hl _ _ rfl rfl rfl rfl];rfl
theorem acy{dn:List Nat}{cs:List Ri}{p:Int}{k n:Nat}{b:Ri}{g:G}(vl:vd b.lo=true/\Ok0 b.lo)(vh:vd b.hi=true/\Ok0 b.hi)(hk:dn[k]?=some n)(h8:dn.length<=8)(hb:∀d∈dn,d<=32)(hN4:bg dn 1<=400)(he:gw (bg dn 1) cs g):
  ∃cs',R F.bound_grid_unit [.ref 1000 none 0 0 0,I k,av b] [bh (dI dn) cs p]=some (.tup [],[bh (dI dn) cs' p])/\gw (bg dn 1) cs' (ps (fun f=>Im (qv b.lo) (qv b.hi-qv b.lo) n (fun j=>f+j*bg (dn.take k) 1)) (bg (dn.take k) 1) n (bg dn 1) 0 g):=by
 have i1:=rx vl.1 vl.2;have i2:=rx vh.1 vh.2;have i3:=ach (p:=p) i2 i1;obtain⟨cs',hR,he'⟩:=X7 (p:=p) i1 i3 hk h8 hb hN4 he;refine⟨cs',Vf fj.2.1 fj.2.2 (fj.1.2.2.2 false) rfl ?_,he'⟩;have e3:(bw (dI dn))[k]?=some [I n]:=by grind[bw,dI]
 have e7:(0<=(k:Int))=True:=eq_true (by omega);have e8:((k:Int)< ((dI dn).length:Int))=True:=eq_true (by grind[dI]);have hl:=fun(h:ac) (d:Nat) h0 h1 h2 h3 h4 hf=>PL (bd.1.2.1 false) rfl (IA hR (h:=h) (d:=d) h0 h1 h2 h3 h4 hf);have p1:=iP vl.2 vl.1;have p2:=iP vh.2 vh.1;have p3:=ace i2.ok i1.ok (p:=p);simp only[bh,dX]at hl⊢;simp only[ag,ak,av,az]at p1 p2 p3;simp only[oZ,wE,av,az,go_sem,apB,apA,apC,apD,apE,Nat.zero_add];rw[X5 (cs:=[.osl 1 (bw (dI dn)),.osl 7 (aY cs),I p]) rfl rfl];simp only[go_sem,apB,apA,apC,apD,apE,e3,e7,e8,xu,Int.toNat_natCast,Nat.zero_add,l8,su,p1,p2,p3];rw[hl _ _ rfl rfl rfl rfl rfl rfl];rfl
theorem aac{n:Nat}(hn:n<=400):R F.bits_Mul64 [W 1,W n] []=some (.tup [W 0,W n],[]):=by
 refine aA OD rfl ?_;have a1:cO .and (W 1) (W 4294967295)=some (W 1):=rfl;have a2:cO .and (W n) (W 4294967295)=some (W n):=by
  rw[yA rfl (by omega),Nat.mod_eq_of_lt (by omega)]
 have s1:cO .shr (W 1) (W 32)=some (W 0):=rfl;have s2:cO .shr (W n) (W 32)=some (W 0):=(mN (i:=(n:Int)) (j:=32) (k:=32) rfl rfl (by decide)).trans (by grind);have s3:cO .shr (W 0) (W 32)=some (W 0):=rfl;have a3:cO .and (W 0) (W 4294967295)=some (W 0):=rfl;have w1:IntKind.u64.wrap (1*(n:Int))=n:=cK (by omega) (by omega);have w2:IntKind.u64.wrap (0*(n:Int))=0:=by rw[Int.zero_mul];rfl
 have w3:IntKind.u64.wrap ((0:Int)+0)=0:=rfl;have w4:IntKind.u64.wrap ((1:Int)*0)=0:=rfl;have w5:IntKind.u64.wrap ((0:Int)*0)=0:=rfl;simp only[wu,Dr,go_sem,apB,apA,apC,apD,apE,a1,a2,a3,s1,s2,s3,w1,w2,w3,w4,w5]
theorem acz{n:Nat}(hn:n<=400):R F.bits_Mul [W 1,W n] []=some (.tup [W 0,W n],[]):=by
 refine aA UH rfl ?_;have h:=aac hn;simp only[zY,HL,go_sem,apB,apA,apC,apD,apE,h]
theorem aad{X Z:List AV}{N:Nat}(hN:N<=400)(c:List Bool):∀ (k m:Nat),N-m<=k->1<=m->m<=N->∀ (s:af) (h:ac) (Y:Option (Ex×St)),am 0 [7] (aD (aj R (aH false) bN) [7,8] [30] s h)=Y->
  s 7=.rsl 30 none 7 0 N->s 8=I m->h 30=.ar 7 (List.replicate m X++List.replicate (N-m) Z)->
  ∃hh,Y=some (.normal,⟨upd (fun _=>.any) 7 (.rsl 30 none 7 0 N),hh⟩)/\hh 30=.ar 7 (List.replicate N X):=by
 intro k;induction k with
 |zero=>
  intro m hk h1 hm s h Y hY g7 g8 k30;subst hY;have e:m=N:=by omega
  subst e;have e1:((m:Int)<m)=False:=eq_false (by omega);rw[Nat.sub_self,List.replicate_zero,List.append_nil]at k30;rw[ai];refine⟨?hh0,?_,?_⟩;rotate_left
  ·simp only[bN,go_sem,apB,apA,apC,apD,apE,g7,g8,k30,e1];rfl
  ·rfl
 |succ k ih=>
  intro m hk h1 hm s h Y hY g7 g8 k30;by_cases hq:m=N
  ·exact ih m (by omega) h1 hm s h Y hY g7 g8 k30
  subst hY;have e1:((m:Int)<N)=True:=eq_true (by omega);have e2:gh 7 (.rsl 30 none 7 0 N) (some (I (m:Int))) none none=some (.rsl 30 none 7 m (N-m)):=by grind[gh,nO,lB]
  have e3:gh 7 (.rsl 30 none 7 0 N) none (some (I (m:Int))) none=some (.rsl 30 none 7 0 m):=by grind[gh,nO,lB]
  obtain⟨q,hq2⟩:∃q,min (N-m) m=q:=⟨_,rfl⟩;have hq3:min m (N-m)=q:=by omega
  have ih':=ih (m+q) (by omega) (by omega) (by omega);have hl:(List.replicate m X++List.replicate (N-m) Z).length=N:=by grind
  have t1:List.take q (List.replicate m X++List.replicate (N-m) Z)=List.replicate q X:=by
   grind
  have t2:List.take m (List.replicate m X++List.replicate (N-m) Z)=List.replicate m X:=by
   grind
  have t3:List.drop (m+q) (List.replicate m X++List.replicate (N-m) Z)=List.replicate (N- (m+q)) Z:=by
   rw[List.drop_append,List.drop_eq_nil_of_le (by simp),List.length_replicate,List.nil_append,List.drop_replicate];grind
  have t4:List.replicate m X++List.replicate q X=List.replicate (m+q) X:=List.replicate_append_replicate;have e4:(0+q<=N)=True:=eq_true (by omega);have e5:(m<=N)=True:=eq_true hm;have w1:IntKind.i64.wrap ((m:Int)+(q:Int))=((m+q:Nat):Int):=wi (by omega) (by omega);rw[ai];simp only[bN,go_sem,apB,apA,apC,apD,apE,g7,g8,k30,e1,e2,e3,hq2,hq3,hl,t1,t2,t3,t4,e4,e5,List.length_replicate,w1];exact ih' _ _ _ rfl rfl rfl rfl
theorem X9{x:Ri}{n:Nat}(h1:1<=n)(hn:n<=400):R F.slices_Repeat_api_Interval_api_Interval_ [.sl 7 [az x],I n] []=some (.osl 7 (aY (List.replicate n x)),[]):=by
 refine aA lV rfl ?_;have hm:=acz hn;have w1:IntKind.u64.wrap 1=1:=by decide
 have w2:((0+1:Nat):Int)=1:=rfl;have w3:IntKind.u64.wrap (n:Int)=n:=cK rfl (by omega);have w4:IntKind.i64.wrap (n:Int)=n:=wi rfl (by omega);have e1:((0:Int)<0)=False:=ff (by decide);have e2:((n:Int)<0)=False:=eq_false (by omega);have e3:(9223372036854775807< (n:Int))=False:=eq_false (by omega);have z1:pD (.v (.int .i64 (n:Int))) (.v (.int .i64 (n:Int)))=some (n,n):=by
  simp only[pD];grind
 have z2:(n*88<=140737488355328)=True:=eq_true (by omega);have tk:∀A:List AV,List.take n [A]=[A]:=fun A=>List.take_of_length_le (by omega);have hmin:min 1 n=1:=Nat.min_eq_left h1;have dr:List.drop 1 (List.replicate n [B false,.emp,I 0,B false,.emp,I 0,B false])=List.replicate (n-1) [B false,.emp,I 0,B false,.emp,I 0,B false]:=List.drop_replicate;have hl:=aad (X:=az x) (Z:=[B false,.emp,I 0,B false,.emp,I 0,B false]) hn [] n 1 (by omega) (Nat.le_refl _) h1;simp only[cZ,fR,az,go_sem,apB,apA,apC,apD,apE,List.length_cons,List.length_nil,w1,w2,w3,w4,hm,e1,e2,e3,z1,z2,tk,hmin,dr,Nat.zero_le,List.length_replicate,true_and,Int.natCast_one];generalize hX:am 0 _ _=X;obtain⟨hh,rfl,q⟩:=hl _ _ _ hX rfl rfl rfl;simp only[go_sem,apB,apA,apC,apD,apE,q,List.length_replicate,Nat.zero_add,Nat.le_refl,if_true,Option.bind_some,Option.map_some];grind[aY,List.map_replicate]
theorem PM{l:List Nat}{i:Nat}(h:i<l.length):(dI l)[i]?=some ((l.getD i 0:Nat):Int):=by
 grind[dI]
theorem aen{l:List Nat}{i:Nat}(h:i<l.length):(bw (dI l))[i]?=some [I (l.getD i 0:Nat)]:=by
 grind[bw,PM]
theorem Bg(l:List Nat):(dI l).length=l.length:=by simp[dI]
def Mx(dn dn' es:List Nat)(i:Nat):Prop:=dn'.length=dn.length/\(∀d∈dn',d<=32)/\(∀j,dn.getD j 0<=dn'.getD j 0)/\∀j,i<=j->es.getD j 0<=dn'.getD j 0
theorem acA{v:Nat}{p:Int}(h8:v<=8){es:List Nat}(hes:es.length=v)(he32:∀e∈es,e<=32){o2 o8:Ob}(c2:∀l,aO l o2=true)(c8:∀l,aO l o8=true){A:List Rt}{nA iA:Int}:
  ∀ (k i:Nat),i+k=v->∀dn:List Nat,dn.length=v->(∀d∈dn,d<=32)->∀ (s:af) (h:ac) (X:Option (Ex×St)),am 2 [2,6,26,27,28] (aD (aj R (aH false) iU) [2,6,26,27,28,33,34,35] [2,8,21,24,2624] s h)=X->s 2=.ref 2 none 0 0 0->s 6=.ref 24 none 0 0 0->s 26=.sl 4 (cU A)->s 27=I nA->s 28=I iA->s 33=.sl 1 (bw (dI es))->s 34=I v->s 35=I i->h 2=o2->h 8=o8->h 21=.dead->h 24=.bx [.osl 1 (bw (dI dn)),.emp,I p]->h 2624=.dead->
  ∃hh dn',X=some (.normal,⟨upd (upd (upd (upd (upd (fun _=>.any) 28 (I iA)) 27 (I nA)) 26 (.sl 4 (cU A))) 6 (.ref 24 none 0 0 0)) 2 (.ref 2 none 0 0 0),hh⟩)/\hh 2=o2/\hh 24=.bx [.osl 1 (bw (dI dn')),.emp,I p]/\hh 21=.dead/\hh 2624=.dead/\Mx dn dn' es i:=by
 intro k;induction k with
 |zero=>
  intro i hi dn hd hb s h X hX g2 g6 g26 g27 g28 g33 g34 g35 k2 k8 k21 k24 k2624;subst hX;have e1:((i:Int)< (v:Int))=False:=ff (by omega);have hc:=c2 [2,8,21,24,2624];have hc8:=c8 [2,8,21,24,2624];rw[ai];refine⟨?hh0,dn,?_,?_,?_,?_,?_,rfl,hb,fun _=>Nat.le_refl _,fun j hj=>?_⟩;rotate_left
  ·simp only[iU,go_sem,apB,apA,apC,apD,apE,g2,g6,g26,g27,g28,g33,g34,g35,k2,k8,k21,k24,k2624,hc,hc8,e1];rfl
  ·rfl
  ·rfl
  ·rfl
  ·rfl
  grind
 |succ k ih=>
  intro i hi dn hd hb s h X hX g2 g6 g26 g27 g28 g33 g34 g35 k2 k8 k21 k24 k2624;subst hX;have hlt:i<v:=by omega
  have e1:((i:Int)< (v:Int))=True:=tt (by omega);have e2:=aen (l:=dn) (i:=i) (by omega);have e3:aV (bw (dI es)) (i:Int)=some (.ipt [I (es.getD i 0:Nat)]):=lX rfl (PM (by omega));have e5:IntKind.i64.wrap ((i:Int)+1)=((i+1:Nat):Int):=wi (by omega) (by omega);have e6:(0<=(i:Int))=True:=tt (by omega);have e7:((i:Int)< ((dI dn).length:Int))=True:=eq_true (by grind[Bg]);have hc:=c2 [2,8,21,24,2624];have hc8:=c8 [2,8,21,24,2624];obtain⟨m,hm⟩:∃m,max (dn.getD i 0) (es.getD i 0)=m:=⟨_,rfl⟩;have em:(if((dn.getD i 0:Nat):Int)< ((es.getD i 0:Nat):Int)then((es.getD i 0:Nat):Int)else((dn.getD i 0:Nat):Int))=(m:Int):=by
   omega
  have e4:nQ 1 1 i 0 [I (m:Int)] 1 (bw (dI dn))=some (bw (dI (dn.set i m))):=by
   simp_all[nQ,if_pos,setRow,bw,dI,List.map_set]
  have hms:∀d∈dn.set i m,d<=32:=fun d hd2=>by
   rcases List.mem_or_eq_of_mem_set hd2 with h|h
   ·exact hb d h
   ·subst h;have h1:dn.getD i 0<=32:=by
     rw[List.getD_eq_getElem?_getD,List.getElem?_eq_getElem (by omega)];exact hb _ (List.getElem_mem _)
    have h2:es.getD i 0<=32:=by
     rw[List.getD_eq_getElem?_getD,List.getElem?_eq_getElem (by omega)];exact he32 _ (List.getElem_mem _)
    omega
  have ih':=ih (i+1) (by omega) (dn.set i m) (by rw[List.length_set];exact hd) hms;rw[ai];generalize aD _ _ _=L at ih'⊢;simp only[iU,go_sem,apB,apA,apC,apD,apE,g2,g6,g26,g27,g28,g33,g34,g35,k2,k8,k21,k24,k2624,hc,hc8,e1,e2,e3,e5,e6,e7,Int.toNat_natCast,Nat.zero_add,l8,su,aco,em,e4];generalize hX:am 2 _ _=X;obtain⟨hh,dn',q1,q2,q3,q4,q5,m1,m2,m3,m4⟩:=ih' _ _ _ hX rfl rfl rfl rfl rfl rfl rfl rfl rfl rfl rfl rfl rfl;refine⟨hh,dn',q1,q2,q3,q4,q5,by rw[m1,List.length_set],m2,fun j=>?_,fun j hj=>?_⟩
  all_goals grind
def Nt(v:Nat)(t:Rt)(es:List Nat):Prop:=t.exps=dI es/\es.length=v/\∀e∈es,e<=32
theorem acB{v:Nat}{p:Int}(h8:v<=8){A:List Rt}{E:List (List Nat)}(hA:A.length=E.length)(h5:A.length<=500)(hn:∀ (i:Nat) (t:Rt) (es:List Nat),A[i]?=some t->E[i]?=some es->Nt v t es){o2:Ob}(c2:∀l,aO l o2=true):
  ∀ (k i:Nat),i+k=A.length->∀dn:List Nat,dn.length=v->(∀d∈dn,d<=32)->∀ (s:af) (h:ac) (X:Option (Ex×St)),am 0 [2,6] (aD (aj R (aH false) ll) [2,6,26,27,28] [2,21,24,2624] s h)=X->s 2=.ref 2 none 0 0 0->s 6=.ref 24 none 0 0 0->s 26=.sl 4 (cU A)->s 27=I A.length->s 28=I i->h 2=o2->h 21=.dead->h 24=.bx [.osl 1 (bw (dI dn)),.emp,I p]->h 2624=.dead->
  ∃hh dn',X=some (.normal,⟨upd (upd (fun _=>.any) 6 (.ref 24 none 0 0 0)) 2 (.ref 2 none 0 0 0),hh⟩)/\hh 2=o2/\hh 24=.bx [.osl 1 (bw (dI dn')),.emp,I p]/\hh 21=.dead/\hh 2624=.dead/\dn'.length=v/\(∀d∈dn',d<=32)/\(∀j,dn.getD j 0<=dn'.getD j 0)/\∀ (a:Nat) (es:List Nat),i<=a->E[a]?=some es->∀j,es.getD j 0<=dn'.getD j 0:=by
 intro k;induction k with
 |zero=>
  intro i hi dn hd hb s h X hX g2 g6 g26 g27 g28 k2 k21 k24 k2624;subst hX;have e1:((i:Int)< (A.length:Int))=False:=ff (by omega);have hc:=c2 [2,21,24,2624];rw[ai];refine⟨?hh0,dn,?_,?_,?_,?_,?_,hd,hb,fun _=>Nat.le_refl _,fun a es ha he=>?_⟩;rotate_left
  ·simp only[ll,go_sem,apB,apA,apC,apD,apE,g2,g6,g26,g27,g28,k2,k21,k24,k2624,hc,e1];rfl
  ·rfl
  ·rfl
  ·rfl
  ·rfl
  grind
 |succ k ih=>
  intro i hi dn hd hb s h X hX g2 g6 g26 g27 g28 k2 k21 k24 k2624;subst hX;have e1:((i:Int)< (A.length:Int))=True:=tt (by omega);obtain⟨t,ht⟩:∃t,A[i]?=some t:=⟨_,List.getElem?_eq_getElem (by omega)⟩;obtain⟨es,hes⟩:∃es,E[i]?=some es:=⟨_,List.getElem?_eq_getElem (by omega)⟩;obtain⟨n1,n2,n3⟩:=hn i t es ht hes;have e2:aV (cU A) (i:Int)=some (.ipt (eU t)):=qk rfl ht;have e5:IntKind.i64.wrap ((i:Int)+1)=((i+1:Nat):Int):=wi (by omega) (by omega);have hc:=c2 [2,21,24,2624];have hg:=acA (p:=p) h8 n2 n3 c2 (o8:=.bx [.sl 1 (bw (dI es)),B t.c.neg,lm t.c.m,I t.c.e]) (fun _=>rfl) (A:=A) (nA:=A.length) (iA:=i) v 0 (Nat.zero_add _) dn hd hb;have e3:(bw (dI es)).length=v:=by rw[xu,Bg,n2]
  rw[eU,n1]at e2;have ih':=ih (i+1) (by omega);rw[ai];simp only[ll,go_sem,apB,apA,apC,apD,apE,g2,g6,g26,g27,g28,k2,k21,k24,k2624,hc,e1,e2,e3];generalize hX:am 2 _ _=X;obtain⟨hh,dn',rfl,q2,q24,q21,q2624,m1,m2,m3,m4⟩:=hg _ _ _ hX rfl rfl rfl rfl rfl rfl rfl rfl rfl rfl rfl rfl rfl;simp only[go_sem,apB,apA,apC,apD,apE,e5];generalize hX:am 0 _ _=X;obtain⟨hh2,dn2,r1,r2,r3,r4,r5,u1,u2,u3,u4⟩:=ih' dn' (by omega) m2 _ _ _ hX rfl rfl rfl rfl rfl q2 q21 q24 q2624;grind
theorem LS:∀ (l:List Nat) (d n:Nat),bg (l++[d]) n=bg l n*(d+1)
 |[],_,_=>rfl
 |a::l,d,n=>LS l d (n*(a+1))
theorem Ya{dn:List Nat}{i:Nat}(h:i<dn.length):bg (dn.take (i+1)) 1=bg (dn.take i) 1*(dn.getD i 0+1):=by
 grind[List.take_add_one,LS]
theorem aae{dn es:List Nat}{i s:Nat}(h:i<dn.length)(h2:i<es.length):l7 (dn.drop i) (es.drop i) s=es.getD i 0*s+l7 (dn.drop (i+1)) (es.drop (i+1)) (s*(dn.getD i 0+1)):=by
 rw[List.drop_eq_getElem_cons h,List.drop_eq_getElem_cons h2,List.getD_eq_getElem?_getD,List.getD_eq_getElem?_getD,List.getElem?_eq_getElem h,List.getElem?_eq_getElem h2];rfl
theorem acC{dn es:List Nat}{cs:List Ri}{p:Int}{v:Nat}(h8:v<=8)(hd:dn.length=v)(hb:∀d∈dn,d<=32)(hN4:bg dn 1<=400)(hes:es.length=v)(he32:∀e∈es,e<=32){o2 o15:Ob}(c2:∀l,aO l o2=true)(c15:∀l,aO l o15=true){A:List Rt}{nA iA:Int}:
  ∀ (k i:Nat),i+k=v->∀ (at_:Nat),at_+l7 (dn.drop i) (es.drop i) (bg (dn.take i) 1)<=400->∀ (s:af) (h:ac) (X:Option (Ex×St)),am 8 [6,15,16,82,83,84] (aD (aj R (aH false) gB) [6,15,16,82,83,84,89,90,91] [2,15,21,24,2624] s h)=X->s 6=.ref 24 none 0 0 0->s 15=.ref 15 none 0 0 0->s 16=I at_->s 82=.sl 4 (cU A)->s 83=I nA->s 84=I iA->s 89=.sl 1 (bw (dI es))->s 90=I v->s 91=I i->h 2=o2->h 15=o15->h 21=.dead->h 24=bh (dI dn) cs p->h 2624=.dead->
  ∃hh,X=some (.normal,⟨upd (upd (upd (upd (upd (upd (fun _=>.any) 84 (I iA)) 83 (I nA)) 82 (.sl 4 (cU A))) 16 (I (at_+l7 (dn.drop i) (es.drop i) (bg (dn.take i) 1):Nat))) 15 (.ref 15 none 0 0 0)) 6 (.ref 24 none 0 0 0),hh⟩)/\hh 2=o2/\hh 15=o15/\hh 24=bh (dI dn) cs p/\(∀a,a≠2->a≠15->a≠24->hh a=.dead):=by
 intro k;induction k with
 |zero=>
  intro i hi at_ hat s h X hX g6 g15 g16 g82 g83 g84 g89 g90 g91 k2 k15 k21 k24 k2624;subst hX;have e1:((i:Int)< (v:Int))=False:=ff (by omega);have hc:=c2 [2,15,21,24,2624];have hc15:=c15 [2,15,21,24,2624];have hg:=(bB (dI dn) cs p).cl [2,15,21,24,2624];rw[List.drop_eq_nil_of_le (show dn.length<=i by omega)];have hp0:∀s,l7 [] (es.drop i) s=0:=fun s=>by grind[l7]
  rw[hp0,Nat.add_zero,ai];refine⟨?hh0,?_,?_,?_,?_,?_⟩;rotate_left
  ·simp only[gB,go_sem,apB,apA,apC,apD,apE,g6,g15,g16,g82,g83,g84,g89,g90,g91,k2,k15,k21,k24,k2624,hc,hc15,hg,e1];rfl
  all_goals simp_all[ed,if_false,ite_self]
 |succ k ih=>
  intro i hi at_ hat s h X hX g6 g15 g16 g82 g83 g84 g89 g90 g91 k2 k15 k21 k24 k2624;subst hX;have e1:((i:Int)< (v:Int))=True:=tt (by omega);have e3:aV (bw (dI es)) (i:Int)=some (.ipt [I (es.getD i 0:Nat)]):=lX rfl (PM (by omega));have e5:IntKind.i64.wrap ((i:Int)+1)=((i+1:Nat):Int):=wi (by omega) (by omega);have hbI:∀d∈dI dn,0<=d/\d<=32:=fun d hd=>by
   obtain⟨x,hx,rfl⟩:=List.mem_map.1 hd;grind
  have hst:=fun(h:ac) (d:Nat) (hh:h 24=bh (dI dn) cs p) (hd:h (2000+8*d)=.dead)=>pA (iY false) rfl (D4 (m:=i) (by grind[Bg]) (by omega) hbI (d:=d) hh hd);rw[show(dI dn).take i=dI (dn.take i)from(List.map_take ..).symm,show(1:Int)=((1:Nat):Int)from rfl,E6]at hst;rw[aae (by omega) (by omega),←Ya (by omega),←Nat.add_assoc]at hat⊢;have ih':=ih (i+1) (by omega) (at_+es.getD i 0*bg (dn.take i) 1) hat;generalize bg (dn.take i) 1=st at*
  generalize es.getD i 0=e at*
  have w1:IntKind.i64.wrap ((e:Int)*(st:Int))=((e*st:Nat):Int):=wi (Int.natCast_mul ..).symm (by omega);have w2:IntKind.i64.wrap ((at_:Int)+((e*st:Nat):Int))=((at_+e*st:Nat):Int):=wi (by omega) (by omega);have hc:=c2 [2,15,21,24,2624];have hc15:=c15 [2,15,21,24,2624];have hg:=(bB (dI dn) cs p).cl [2,15,21,24,2624];rw[ai];simp only[gB,go_sem,apB,apA,apC,apD,apE,g6,g15,g16,g82,g83,g84,g89,g90,g91,k2,k15,k21,k24,k2624,hc,hc15,hg,e1,e3];rw[hst _ _ rfl rfl];simp only[go_sem,apB,apA,apC,apD,apE,w1,w2,e5];exact ih' _ _ _ rfl rfl rfl rfl rfl rfl rfl rfl rfl rfl rfl rfl rfl rfl rfl
def gT(dn:List Nat):List Rt->List (List Nat)->G->G
 |t::l,es::r,g=>gT dn l r (gs g (l7 dn es 1) (qv t.c))
 |_,_,g=>g
theorem acD{dn:List Nat}{p:Int}{v:Nat}(h8:v<=8)(hd:dn.length=v)(hb:∀d∈dn,d<=32)(hN4:bg dn 1<=400){A:List Rt}{E:List (List Nat)}(hA:A.length=E.length)(h5:A.length<=500)(hn:∀ (i:Nat) (t:Rt) (es:List Nat),A[i]?=some t->E[i]?=some es->Nt v t es/\l7 dn es 1<bg dn 1/\vd t.c=true/\Ok0 t.c){o2:Ob}(c2:∀l,aO l o2=true):
  ∀ (k i:Nat),i+k=A.length->∀ (cs:List Ri) (g:G),gw (bg dn 1) cs g->∀ (s:af) (h:ac) (X:Option (Ex×St)),am 6 [6] (aD (aj R (aH false) iT) [6,82,83,84] [2,21,24,2624] s h)=X->s 6=.ref 24 none 0 0 0->s 82=.sl 4 (cU A)->s 83=I A.length->s 84=I i->h 2=o2->h 21=.dead->h 24=bh (dI dn) cs p->h 2624=.dead->
  ∃hh cs',X=some (.normal,⟨upd (fun _=>.any) 6 (.ref 24 none 0 0 0),hh⟩)/\hh 24=bh (dI dn) cs' p/\gw (bg dn 1) cs' (gT dn (A.drop i) (E.drop i) g):=by
 intro k;induction k with
 |zero=>
  intro i hi cs g he s h X hX g6 g82 g83 g84 k2 k21 k24 k2624;subst hX;have e1:((i:Int)< (A.length:Int))=False:=ff (by omega);have hc:=c2 [2,21,24,2624];have hg:=(bB (dI dn) cs p).cl [2,21,24,2624];rw[List.drop_eq_nil_of_le (show A.length<=i by omega),ai];refine⟨?hh0,cs,?_,?_,he⟩;rotate_left
  ·simp only[iT,go_sem,apB,apA,apC,apD,apE,g6,g82,g83,g84,k2,k21,k24,k2624,hc,hg,e1];rfl
  ·rfl
 |succ k ih=>
  intro i hi cs g he s h X hX g6 g82 g83 g84 k2 k21 k24 k2624;subst hX;have hlt:i<A.length:=by omega
  have e1:((i:Int)< (A.length:Int))=True:=tt (by omega);obtain⟨t,ht⟩:∃t,A[i]?=some t:=⟨_,List.getElem?_eq_getElem hlt⟩;obtain⟨es,hes⟩:∃es,E[i]?=some es:=⟨_,List.getElem?_eq_getElem (by omega)⟩;obtain⟨⟨n1,n2,n3⟩,n4,n5,n6⟩:=hn i t es ht hes;have hgT:gT dn (A.drop i) (E.drop i) g=gT dn (A.drop (i+1)) (E.drop (i+1)) (gs g (l7 dn es 1) (qv t.c)):=by
   have h1:A[i]=t:=Option.some.inj (by rw[←ht,List.getElem?_eq_getElem hlt]);have h2:E[i]'(by omega)=es:=Option.some.inj (by rw[←hes,List.getElem?_eq_getElem (by omega)]);rw[List.drop_eq_getElem_cons hlt,List.drop_eq_getElem_cons (by omega:i<E.length),h1,h2];rfl
  have e2:aV (cU A) (i:Int)=some (.ipt (eU t)):=qk rfl ht;have e5:IntKind.i64.wrap ((i:Int)+1)=((i+1:Nat):Int):=wi (by omega) (by omega);have e3:(bw (dI es)).length=v:=by rw[xu,Bg,n2]
  rw[eU,n1]at e2;have h0:=acC (cs:=cs) (p:=p) h8 hd hb hN4 n2 n3 c2 (o15:=.bx [.sl 1 (bw (dI es)),B t.c.neg,lm t.c.m,I t.c.e]) (fun _=>rfl) (A:=A) (nA:=A.length) (iA:=i) v 0 (Nat.zero_add _) 0 (by
   show 0+l7 dn es 1<=400;omega)
  have hp0:0+l7 (dn.drop 0) (es.drop 0) (bg (dn.take 0) 1)=l7 dn es 1:=Nat.zero_add _;rw[hp0]at h0;have hpt:=iP n6 n5;have ih':=ih (i+1) (by omega) _ _ (he.set (k:=l7 dn es 1) (rx n5 n6));rw[hgT];generalize l7 dn es 1=P at*
  have i1:(0<=(P:Int))=True:=eq_true (by omega);have i2:((P:Int)< (cs.length:Int))=True:=eq_true (by rw[he.1];omega);have sr1:nQ 7 7 P 0 (az ⟨t.c,t.c,false⟩) 7 (aY cs)=some (aY (cs.set P ⟨t.c,t.c,false⟩)):=Be (by grind);have hc:=c2 [2,21,24,2624];have hg:=(bB (dI dn) cs p).cl [2,21,24,2624];simp only[ag,ak,av,az]at hpt;simp only[az]at sr1;rw[ai];simp only[iT,go_sem,apB,apA,apC,apD,apE,g6,g82,g83,g84,k2,k21,k24,k2624,hc,hg,e1,e2,e3];generalize hX:am 8 _ _=X;obtain⟨hh,rfl,q2,q15,q24,qd⟩:=h0 _ _ _ hX rfl rfl rfl rfl rfl rfl rfl rfl rfl rfl rfl rfl rfl rfl;have b1:=qd 2888 (by decide) (by decide) (by decide);have b2:=qd 2624 (by decide) (by decide) (by decide);have b3:=qd 21 (by decide) (by decide) (by decide);simp only[bh]at q24;simp only[go_sem,apB,apA,apC,apD,apE,q15,q24,b1,hpt,i1,i2,Int.toNat_natCast,Nat.zero_add,Bd,sr1,e5];exact ih' _ _ _ rfl rfl rfl rfl rfl q2 b3 rfl b2
theorem Yb:∀ (dn es:List Nat),dn.length=es.length->(∀j,es.getD j 0<=dn.getD j 0)->Iu dn es
 |[],[],_,_=>trivial
 |d::dn,e::es,h,hj=>⟨hj 0,Yb dn es (by grind) fun j=>hj (j+1)⟩
 |[],_::_,h,_=>by grind
 |_::_,[],h,_=>by grind
theorem G2:∀ (dn:List Nat) (xs:List Rat),xs.length=dn.length->∀n,tW (kY dn xs) n=bg dn n
 |[],[],_,_=>rfl
 |d::dn,x::xs,h,n=>G2 dn xs (by grind) (n*(d+1))
 |[],_::_,h,_=>by grind
 |_::_,[],h,_=>by grind
theorem Te:∀ (dn:List Nat) (n:Nat),n<=400->xg (dI dn) (n:Int)=none\/xg (dI dn) (n:Int)=some ((bg dn n:Nat):Int)/\bg dn n<=400
 |[],n,h=>Or.inr ⟨rfl,h⟩
 |d::dn,n,h=>by
  have e:xg (dI (d::dn)) (n:Int)=if 400< (n:Int)*(Int.ofNat d+1)then none else xg (dI dn) ((n:Int)*(Int.ofNat d+1)):=rfl
  have e2:(n:Int)*(Int.ofNat d+1)=((n*(d+1):Nat):Int):=by rfl
  rw[e,e2];split
  ·exact Or.inl rfl
  ·exact Te dn (n*(d+1)) (by omega)
def GP(v:Nat)(A:List Rt)(E:List (List Nat))(p:Int)(r:AV×List Ob):Prop:=r=(.tup [.v (.pointer none),B false],[])\/∃dn cs,r=(.tup [.obx [.osl 1 (bw (dI dn)),.osl 7 (aY cs),I p],B true],[])/\dn.length=v/\(∀d∈dn,d<=32)/\(∀es∈E,Iu dn es)/\bg dn 1<=400/\gw (bg dn 1) cs (gT dn A E fun _=>0)
theorem Yc{v:Nat}{p:Int}(h8:v<=8){A:List Rt}{E:List (List Nat)}(hA:A.length=E.length)(h5:A.length<=500)(hn:∀ (i:Nat) (t:Rt) (es:List Nat),A[i]?=some t->E[i]?=some es->Nt v t es/\vd t.c=true/\Ok0 t.c):
  ∃r,R F.bound_gridOf [.agg [I v,.sl 4 (cU A)],I p] []=some r/\GP v A E p r:=by
 have z1:pD (.v (.int .i64 (v:Int))) (.v (.int .i64 (v:Int)))=some (v,v):=by
  simp only[pD];grind
 have z2:(v*8<=140737488355328)=True:=eq_true (by omega);have zr:List.replicate v [I 0]=bw (dI (List.replicate v 0)):=by grind[bw,dI,List.map_replicate]
 have hl:(bw (dI (List.replicate v 0))).length=v:=by grind
 have h4:=acB (p:=p) h8 hA h5 (fun i t es h1 h2=>(hn i t es h1 h2).1) (o2:=.bx [I v,.sl 4 (cU A)]) (fun _=>rfl) A.length 0 (Nat.zero_add _) (List.replicate v 0) (by simp) (fun d hd=>by grind);have hrl:=SA A;refine E5 (r:=fun a=>a) uL.2.1 uL.2.2 (uL.1.2.2.2 false) rfl (Nat.le_of_ble_eq_true rfl) ?_;have hh0:ao []=fun _=>.dead:=by funext i;simp[ao]
 simp only[sN,Ax,hh0,go_sem,apB,apA,apC,apD,apE,List.length_nil,z1,z2,zr];rw[aej (k:=1) (rows:=bw (dI (List.replicate v 0))) rfl hl.symm rfl (by decide)];simp only[go_sem,apB,apA,apC,apD,apE];generalize hX:am 0 _ _=X;obtain⟨hh,dn,rfl,q2,q24,q21,q2624,d1,d2,d3,d4⟩:=h4 _ _ _ hX rfl rfl rfl rfl rfl rfl rfl rfl rfl;have hdl:(dI dn).length=v:=by rw[Bg,d1]
 have hbI:∀d∈dI dn,0<=d/\d<=32:=fun d hd=>by
  obtain⟨x,hx,rfl⟩:=List.mem_map.1 hd;grind
 simp only[go_sem,apB,apA,apC,apD,apE,q2,q24,q21,q2624,hdl,xu];generalize hX:am 4 _ _=X;have hM:=agx (ds:=dI dn) (p:=p) hdl.symm (by omega) hbI (o2:=.bx [I v,.sl 4 (cU A)]) (fun _=>rfl) _ _ _ hX rfl rfl rfl rfl rfl rfl q2 q21 q24 q2624;rcases Te dn 1 (by decide)with hm| ⟨hm,h4⟩
 ·rw[show(1:Int)=((1:Nat):Int)from rfl,hm]at hM;obtain⟨hh2,rfl⟩:=hM;refine⟨_,?_,Or.inl rfl⟩;simp only[go_sem,apB,apA,apC,apD,apE]
 rw[show(1:Int)=((1:Nat):Int)from rfl,hm]at hM;obtain⟨hh,rfl,q2,q24,qd⟩:=hM;have hle:∀es∈E,Iu dn es:=fun es he=>by
  obtain⟨i,hi⟩:=List.getElem?_of_mem he;have hiE:=(List.getElem?_eq_some_iff.1 hi).1;have:=(hn i _ es (List.getElem?_eq_getElem (by omega)) hi).1.2.1;exact Yb dn es (by omega) (d4 i es (Nat.zero_le _) hi)
 have hpt:=iP bj.2 bj.1;have hrp:=X9 (x:=Ik) (jQ dn 1 (by decide)) h4;have h1:=acD (p:=p) h8 d1 d2 h4 hA h5 (fun i t es h1 h2=>by
  obtain⟨a,b,c⟩:=hn i t es h1 h2;refine⟨a,?_,b,c⟩;have hL:=hle es (List.mem_of_getElem? h2);have:=XR dn es (List.replicate dn.length 0) hL (by simp) 1 0 (by decide)
  simp_all[G2,Nat.zero_add]) (o2:=.bx [I v,.sl 4 (cU A)]) (fun _=>rfl) A.length 0 (Nat.zero_add _) (List.replicate (bg dn 1) Ik) (fun _=>0) ⟨by simp,fun k x hx=>by
   rw[List.getElem?_replicate]at hx;split at hx
   ·cases hx;rw[←B6];exact rx bj.1 bj.2
   grind⟩
 generalize List.replicate (bg dn 1) Ik=cs0 at hrp h1;have b1:=qd 2600 (by decide) (by decide);have b2:=qd 76 (by decide) (by decide);have b3:=qd 2624 (by decide) (by decide);have b4:=qd 21 (by decide) (by decide);simp only[ag,ak,av,az,aK,Ik]at hpt hrp;simp only[az,go_sem,apB,apA,apC,apD,apE,q24,b1,b2,b3,hpt,hrp];rw[Vg (h:=upd (upd (upd hh 76 _) 76 _) 2624 (.ar 7 (aY cs0))) (id:=24) (p:=1) (id2:=2624) (k:=7) (n:=cs0.length) rfl (xp _).symm q24 (by decide) (by grind)];simp only[go_sem,apB,apA,apC,apD,apE,aei,Bool.false_eq_true,q2,hrl];generalize hX:am 6 _ _=X;obtain⟨hh2,cs2,rfl,r24,he2⟩:=h1 _ _ _ hX rfl rfl rfl rfl q2 b4 rfl rfl;refine⟨_,?_,Or.inr ⟨dn,cs2,rfl,d1,d2,hle,h4,he2⟩⟩;simp only[bh]at r24;simp only[go_sem,apB,apA,apC,apD,apE,r24];rw[if_pos (by rfl)];have e:oN hh2 (.ref 24 none 0 0 0)=some (.obx [.osl 1 (bw (dI dn)),.osl 7 (aY cs2),I p]):=by
  have hp:aQ 24=false:=rfl;simp[oN,jZ,Tx,r24,hp];exact⟨rfl,rfl,rfl⟩
 rw[e];rfl
def l9:List Nat->List Rat->List (Nat×LF)
 |d::ds,t::ts=>(d,fun v=>dc t v d 0)::l9 ds ts
 |_,_=>[]
theorem Yd:∀ (ds:List Nat) (ts:List Rat),It (l9 ds ts)
 |d::ds,t::ts=>fun p hp=>by
  rcases List.mem_cons.1 hp with rfl|hp
  ·simp_all[Is]
  ·exact Yd ds ts p hp
 |[],_=>fun _ h=>by grind[l9]
 |_::_,[]=>fun _ h=>by grind[l9]
theorem Kt:∀ (dn:List Nat) (ts:List Rat),ts.length=dn.length->∀n,tW (l9 dn ts) n=bg dn n
 |[],[],_,_=>rfl
 |d::dn,x::xs,h,n=>Kt dn xs (by grind) (n*(d+1))
 |[],_::_,h,_=>by grind
 |_::_,[],h,_=>by grind
theorem PN:∀ (dn:List Nat) (ts:List Rat),ts.length=dn.length->∀d t,l9 (dn++[d]) (ts++[t])=l9 dn ts++[(d,fun v=>dc t v d 0)]
 |[],[],_,_,_=>rfl
 |d::dn,x::xs,h,d',t'=>by
  show _::l9 (dn++[d']) (xs++[t'])=_::(l9 dn xs++_);rw[PN dn xs (by simpa using h)]
 |[],_::_,h,_,_=>by grind
 |_::_,[],h,_,_=>by grind
theorem PO:∀ (a b:List Nat) (n:Nat),bg (a++b) n=bg b (bg a n)
 |[],_,_=>rfl
 |d::a,b,n=>PO a b (n*(d+1))
theorem aaf{dn1 dn2:List Nat}{n N:Nat}{xs2 ts1:List Rat}(h1:ts1.length=dn1.length)(h2:xs2.length=dn2.length)(hN:N=bg (dn1++n::dn2) 1){x t lo w:Rat}(hx:x=lo+w*t)(g:G):
  fI (l9 dn1 ts1++(n,fun v=>pl x v 0 (n+1))::kY dn2 xs2) 1 0 g=
   fI (l9 dn1 ts1++(n,fun v=>dc t v n 0)::kY dn2 xs2) 1 0 (ps (fun f=>Io n (fun j=>f+j*bg dn1 1)) (bg dn1 1) n N 0 (ps (fun f=>Im lo w n (fun j=>f+j*bg dn1 1)) (bg dn1 1) n N 0 g)):=by
 have hs:=jQ dn1 1 (by decide);have ht1:=Kt dn1 ts1 h1 1;have ht2:=G2 dn2 xs2 h2;rw[PO]at hN;have hN:N=bg dn2 (bg dn1 1*(n+1)):=hN;generalize bg dn1 1=s at*
 have hi:∀f a b:Nat,f+a*s=f+b*s↔a=b:=fun f a b=>⟨fun h=>Nat.eq_of_mul_eq_mul_right (by omega) (Nat.add_left_cancel h),fun h=>by rw[h]⟩;have c1:lg (n+1) fun v=>pl x v 0 (n+1):=DW _ _ (by simp);have c2:lg (n+1) fun v=>pl t v 0 (n+1):=DW _ _ (by simp);have c3:lg (n+1) fun v=>dc t v n 0:=Is _ _ (by simp);have key:∀ (L L':LF) (op:Nat->G->G) (g:G),lg (n+1) L->lg (n+1) L'->(∀f g,(∀a,(∀m,m<=n->a≠f+m*s)->op f g a=g a)/\L (fun m=>g (f+m*s))=L' (fun m=>op f g (f+m*s)))->
   fI (l9 dn1 ts1++(n,L)::kY dn2 xs2) 1 0 g=fI (l9 dn1 ts1++(n,L')::kY dn2 xs2) 1 0 (ps op s n N 0 g):=fun L L' op g hL hL' hop=>by
  refine PC hL hL' (EZ dn2 xs2) (l9 dn1 ts1) (Yd dn1 ts1) 1 0 (by decide) fun i0 q hi0 hq=>?_;rw[ht1]at hi0 hq⊢;refine(agv (by omega) hL hL' hop N 0 g).2 _ (Nat.zero_le _) ?_ ?_
  ·grind
  ·have e:i0+q*(s*(n+1))=i0+q*(n+1)*s:=by grind
   rw[e,Nat.add_mul_div_right _ _ (by omega),Nat.div_eq_of_lt hi0,Nat.zero_add,Nat.mul_mod_left]
 rw[key _ _ (fun f=>Im lo w n (fun j=>f+j*s)) g c1 c2 fun f g=>ad9 hx (hi f) n g];exact key _ _ (fun f=>Io n (fun j=>f+j*s)) _ c2 c3 fun f g=>aea (hi f) n g
theorem Ye{dn:List Nat}{xs:List Rat}(hx:xs.length=dn.length):∀ (A:List Rt) (E:List (List Nat)) (g:G),A.length=E.length->(∀es∈E,Iu dn es)->E.Nodup->(∀es∈E,g (l7 dn es 1)=0)->(∀ (i:Nat) (t:Rt) (es:List Nat),A[i]?=some t->E[i]?=some es->t.exps=dI es)->
  fI (kY dn xs) 1 0 (gT dn A E g)=fI (kY dn xs) 1 0 g+fv xs A
 |[],[],g,_,_,_,_,_=>by
  show _=_+0;rw[Rat.add_zero];rfl
 |t::A,es::E,g,hA,hle,hnd,h0,hE=>by
  obtain⟨hn1,hn2⟩:=List.nodup_cons.1 hnd;have hes:=hE 0 t es rfl rfl;have hxn:zF t.exps=es:=by
   rw[hes];unfold zF dI;rw[List.map_map];exact(List.map_congr_left (g:=fun c=>c) fun x _=>by simp).trans (List.map_id' _)
  show fI (kY dn xs) 1 0 (gT dn A E (gs g (l7 dn es 1) (qv t.c)))=_;rw[Ye hx A E _ (by grind) (fun e he=>hle e (by grind)) hn2 (fun e he=>by
   unfold gs;rw[if_neg fun hq=>?_]
   ·grind
   ·have:=(S2 dn e es (hle e (by grind)) (hle es (by simp)) 1 0 0 (by decide) (by decide) (by omega)).2;grind) fun i u e h1 h2=>hE (i+1) u e h1 h2]
  rw[aeb (EZ dn xs),h0 es (by simp)];have hm:=S1 dn es xs (hle es (by simp)) hx 1 0 0 (by decide) (by decide);grind[qv,F4,zF,fv]
 |[],_::_,_,h,_,_,_,_=>by grind
 |_::_,[],_,h,_,_,_,_=>by grind
theorem aag{ls:List (Nat×LF)}(ok:It ls)(s i:Nat):fI ls s i (fun _=>0)=0:=by
 have:=Kr (a:=0) (c:=0) (g:=fun _=>0) (h:=fun _=>0) ls ok s i;grind
theorem aeo{lo hi:Rat}{g:G}{dn:List Nat}{ts:List Rat}(hl:ts.length=dn.length)(ht:∀t∈ts,0<=t/\t<=1)(h:∀k,k<bg dn 1->lo<=g k/\g k<=hi):lo<=fI (l9 dn ts) 1 0 g/\fI (l9 dn ts) 1 0 g<=hi:=by
 refine S0 (l9 dn ts) ?_ 1 0 fun q hq=>?_
 ·have:∀ (dn:List Nat) (ts:List Rat),(∀t∈ts,0<=t/\t<=1)->∀p∈l9 dn ts,∀v:G,(∀j,j<=p.1->lo<=v j/\v j<=hi)->lo<=p.2 v/\p.2 v<=hi:=by
   intro dn;induction dn with
   |nil=>grind[l9]
   |cons d dn ih=>
    intro ts ht p hp v hv;cases ts with
    |nil=>grind[l9]
    |cons t ts=>
     rcases List.mem_cons.1 hp with rfl|hp
     all_goals grind[PB]
  exact this dn ts ht
 grind[Kt]
theorem PP{l:List Int}(h:∀e∈l,0<=e):l=dI (zF l):=by
 grind[dI,zF,List.map_map,List.map_congr_left,Int.toNat_of_nonneg,List.map_id']
def D5(l:List Rt):List (List Nat):=l.map fun t=>zF t.exps
theorem aah{v:Int}{l:List Rt}(c:Cl v l):(D5 l).Nodup:=by
 have h1:l.Pairwise fun a b=>a.exps≠b.exps:=c.s.imp fun h=>(LO h).symm;unfold D5;rw[List.nodup_iff_pairwise_ne,List.pairwise_map];refine List.Pairwise.imp_of_mem (fun{a b} ha hb h he=>h ?_) h1;rw[PP fun e hx=>((c.t a ha).b e hx).1,PP fun e hx=>((c.t b hb).b e hx).1,he]
theorem aaW{v:Nat}{l:List Rt}(c:Cl v l)(i:Nat)(t:Rt)(es:List Nat)(h1:l[i]?=some t)(h2:(D5 l)[i]?=some es):Nt v t es/\vd t.c=true/\Ok0 t.c:=by
 have hm:=c.t t (List.mem_of_getElem? h1);unfold D5 at h2;rw[List.getElem?_map,h1]at h2;have h2:zF t.exps=es:=Option.some.inj h2;subst h2;refine⟨⟨PP fun e hx=>(hm.b e hx).1,?_,fun e he=>?_⟩,hm.vc,hm.c⟩
 ·have:=hm.len;grind[zF,List.length_map]
 ·obtain⟨z,hz,rfl⟩:=List.mem_map.1 he;have:=hm.b z hz;omega
def qo(o:Option Rd):Rat:=qv (o.getD aK)
theorem Ku{x:Rat}:∀ (l:List Rt) (o0 o1:Option Rd),(∀t∈l,t.exps=[0]/\o0=none\/t.exps=[1]/\o1=none)->l.Pairwise (fun a b=>a.exps≠b.exps)->∃p0 p1,uS l [o0,o1]=[p0,p1]/\qo p0+qo p1*x=qo o0+qo o1*x+fv [x] l
 |[],o0,o1,_,_=>⟨o0,o1,rfl,by show _=_+0;grind⟩
 |t::l,o0,o1,h,hp=>by
  obtain⟨p1,p2⟩:=List.pairwise_cons.1 hp;have q0:qo none=0:=B6;unfold uS;rcases h t (by simp)with⟨he,rfl⟩| ⟨he,rfl⟩
  ·have hs:[none,o1].set (qL 1 t.exps 0+1).toNat (some t.c)=[some t.c,o1]:=by rw[he];rfl
   rw[hs];obtain⟨a,b,e1,e2⟩:=Ku (x:=x) l (some t.c) o1 (fun u hu=>by
    grind) p2
   refine⟨a,b,e1,?_⟩;rw[e2];show qv t.c+_+_=_+(qv t.c*F4 [x] (zF t.exps)+fv [x] l);rw[he,q0];show _=_+(qv t.c*(x^0*1)+_);grind
  ·have hs:[o0,none].set (qL 1 t.exps 0+1).toNat (some t.c)=[o0,some t.c]:=by rw[he];rfl
   rw[hs];obtain⟨a,b,e1,e2⟩:=Ku (x:=x) l o0 (some t.c) (fun u hu=>by
    grind) p2
   refine⟨a,b,e1,?_⟩;rw[e2];show _+qv t.c*x+_=_+(qv t.c*F4 [x] (zF t.exps)+fv [x] l);rw[he,q0];show _=_+(qv t.c*(x^1*1)+_);grind
theorem Yf{a:Rp}(oa:OkP a)(hl:zD a=true)(h1:a.vars=1)(x:Rat):∃c m,B0 a=[c,m]/\fv [x] a.terms=qv c+qv m*x:=by
 obtain⟨hv,hd⟩:=ab2 hl;obtain⟨cl,_⟩:=Ve oa hv;obtain⟨p0,p1,e1,e2⟩:=Ku (x:=x) a.terms none none (fun t ht=>by
  obtain⟨s1,s2,s3,s4,s5⟩:=EP hv ht;obtain⟨e,he⟩:=ab3 (s2.trans h1);have h3:=s1.2 e (by grind);grind[bY]) (cl.s.imp fun h=>(LO h).symm)
 refine⟨p0.getD aK,p1.getD aK,?_,?_⟩
 ·simp_all[B0,SG,uS]
 grind[qo,B6,p0]
theorem aai{c m:Rd}{b:Ri}{x:Rat}{p:Int}(vc:vd c=true/\Ok0 c)(vm:vd m=true/\Ok0 m)(hp:bK p=true)(hb:In x b)(hk:kI b=true):In (qv c+qv m*x) (B1 c m b p):=by
 rcases hb.k with⟨rfl,h1⟩| ⟨_,x1,x2⟩
 ·grind
 have hq:∀ {y:Rd},(jO m y).2=0->qv (jO m y).1=qv m*qv y:=fun{y} h=>by
  have h1:=ab1 h;have h2:=(Iq (z:=zI m*zI y) (r:=zI (jO m y).1) 16384).1 (Int.le_of_eq h1.symm);have h3:=(Iq (z:=zI m*zI y) (r:=zI (jO m y).1) 16384).2 (Int.le_of_eq h1);unfold qv EQ;grind
 unfold B1 Vc;split
 ·next h=>
  have v1:=ES m (LG m b);have v2:=ES m (LH m b);have ok:∀ {a b:Rd} {up:Bool},vd (cT a b p up).1=true/\Ok0 (cT a b p up).1:=fun{a b up}=>by
   grind[cT,tD,bj]
  have hm:qv m*qv (LG m b)<=qv m*x/\qv m*x<=qv m*qv (LH m b):=by
   unfold LG LH;by_cases hs:bS m<0
   ·have h0:=(B8 vm.1).2.1 hs;have a:=Rat.mul_le_mul_of_nonneg_left x1 (show 0≤-qv m by grind);have b:=Rat.mul_le_mul_of_nonneg_left x2 (show 0≤-qv m by grind);grind
   ·have h0:0<=qv m:=Rat.not_lt.1 fun h=>hs ((B8 vm.1).2.2 h);grind[Rat.mul_le_mul_of_nonneg_left]
  refine M0 ok ok (fun h=>?_) (fun h=>?_)
  all_goals grind[PA]
 ·exact Or.inl rfl
def qx:List Ri->List Rat->List Rat->Prop
 |b::dom,x::xs,t::ts=>x=qv b.lo+(qv b.hi-qv b.lo)*t/\0<=t/\t<=1/\qx dom xs ts
 |[],[],[]=>True
 |_,_,_=>False
theorem qx.len:∀ {dom:List Ri} {xs ts:List Rat},qx dom xs ts->xs.length=dom.length/\ts.length=dom.length
 |_::_,_::_,_::_,h=>by
  obtain⟨a,b⟩:=qx.len h.2.2.2;grind
 |[],[],[],_=>⟨rfl,rfl⟩
 |[],_::_,_,h=>h.elim
 |[],[],_::_,h=>h.elim
 |_::_,[],_,h=>h.elim
 |_::_,_::_,[],h=>h.elim
theorem qx.get:∀ {dom:List Ri} {xs ts:List Rat},qx dom xs ts->∀ {i:Nat} {b:Ri},dom[i]?=some b->∃x t,xs[i]?=some x/\ts[i]?=some t/\x=qv b.lo+(qv b.hi-qv b.lo)*t
 |b::_,x::_,t::_,h,0,b',hb=>by
  have:b=b':=by grind
  subst this;exact⟨x,t,rfl,rfl,h.1⟩
 |_::_,_::_,_::_,h,i+1,b,hb=>qx.get h.2.2.2 (i:=i) (by grind)
 |[],_,_,_,_,_,hb=>by grind
 |_::_,[],_,h,_,_,_=>h.elim
 |_::_,_::_,[],h,_,_,_=>h.elim
theorem qx.t01:∀ {dom:List Ri} {xs ts:List Rat},qx dom xs ts->∀t∈ts,0<=t/\t<=1
 |_::_,_::_,_::_,h,t,ht=>by
  rcases List.mem_cons.1 ht with rfl|ht
  ·exact⟨h.2.1,h.2.2.1⟩
  ·exact qx.t01 h.2.2.2 t ht
 |[],[],[],_,t,ht=>by grind
 |[],_::_,_,h,_,_=>h.elim
 |[],[],_::_,h,_,_=>h.elim
 |_::_,[],_,h,_,_=>h.elim
 |_::_,_::_,[],h,_,_=>h.elim
theorem aaj{dn:List Nat}{i n:Nat}(h:dn[i]?=some n):dn.take i++n::dn.drop (i+1)=dn/\dn.drop i=n::dn.drop (i+1)/\dn.take (i+1)=dn.take i++[n]:=by
 grind[List.take_append_drop,List.take_add_one]
theorem acE{dom:List Ri}{dn:List Nat}{p:Int}{v:Nat}(h8:v<=8)(hd:dn.length=v)(hdl:dom.length=v)(hb:∀d∈dn,d<=32)(hN4:bg dn 1<=400)(od:∀b∈dom,VI b){c6:List AV}(hc6:aO [6,2368] (.bx c6)=true):
  ∀ (k i:Nat),i+k=v->∀ (cs:List Ri) (g:G),gw (bg dn 1) cs g->∀ (s:af) (h:ac) (X:Option (Ex×St)),am 0 [6,9] (aD (aj R (aH false) ja) [1,6,9,56,57] [6,2368] s h)=X->s 1=.sl 7 (aY dom)->s 6=.ref 6 none 0 0 0->s 9=.ref 2368 none 0 0 0->s 56=I v->s 57=I i->h 6=.bx c6->h 2368=bh (dI dn) cs p->
  ∃hh cs' g',X=some (.normal,⟨upd (upd (fun _=>.any) 9 (.ref 2368 none 0 0 0)) 6 (.ref 6 none 0 0 0),hh⟩)/\hh 6=.bx c6/\hh 2368=bh (dI dn) cs' p/\(∀a,a≠6->a≠2368->hh a=.dead)/\gw (bg dn 1) cs' g'/\
   ∀xs ts:List Rat,qx dom xs ts->fI (l9 (dn.take i) (ts.take i)++kY (dn.drop i) (xs.drop i)) 1 0 g=fI (l9 dn ts) 1 0 g':=by
 intro k;induction k with
 |zero=>
  intro i hi cs g he s h X hX g1 g6 g9 g56 g57 k6 k2368;subst hX;have e1:((i:Int)< (v:Int))=False:=ff (by omega);have hg:=(bB (dI dn) cs p).cl [6,2368];rw[ai];refine⟨?hh0,cs,g,?_,?_,?_,?_,he,fun xs ts hp=>?_⟩;rotate_left
  ·simp only[ja,go_sem,apB,apA,apC,apD,apE,g1,g6,g9,g56,g57,k6,k2368,hc6,hg,e1];rfl
  ·rfl
  ·rfl
  ·simp_all[ed,if_false]
  ·obtain⟨l1,l2⟩:=hp.len;rw[List.take_of_length_le (by omega),List.take_of_length_le (by omega),List.drop_eq_nil_of_le (by omega)];show fI (l9 dn ts++[]) 1 0 g=_;grind
 |succ k ih=>
  intro i hi cs g he s h X hX g1 g6 g9 g56 g57 k6 k2368;subst hX;have hlt:i<v:=by omega
  have e1:((i:Int)< (v:Int))=True:=tt (by omega);obtain⟨b,hb0⟩:∃b,dom[i]?=some b:=⟨_,List.getElem?_eq_getElem (by omega)⟩;obtain⟨n,hn⟩:∃n,dn[i]?=some n:=⟨_,List.getElem?_eq_getElem (by omega)⟩;have e2:aV (aY dom) (i:Int)=some (.ipt (az b)):=A6 rfl hb0;have e5:IntKind.i64.wrap ((i:Int)+1)=((i+1:Nat):Int):=wi (by omega) (by omega);have vb:=od b (List.mem_of_getElem? hb0);have hg:=(bB (dI dn) cs p).cl [6,2368];obtain⟨cs1,hR1,he1⟩:=acy (p:=p) vb.1 vb.2 hn (by omega) hb hN4 he;obtain⟨cs2,hR2,he2⟩:=acx (p:=p) hn (by omega) hb hN4 he1;have hu:=fun(h:ac) (d:Nat) (hh:h 2368=bh (dI dn) cs p) (hd:h (2000+8*d)=.dead)=>pA (fj.1.2.1 false) (by rfl) (PG (fj.1.2.1 false) (fj.1.2.2.2 false) (zas:=[I i,av b]) (as':=[I i,av b]) (by rw[fj.1.1];simp only[av,az,go_sem]) rfl rfl hh (bB _ _ _) (bB _ _ _) (fun _=>rfl) hR1 aeh (d:=d) (by decide) rfl);have hbn:=fun(h:ac) (d:Nat) (hh:h 2368=bh (dI dn) cs1 p) (hd:h (2000+8*d)=.dead)=>pA (cW.1.2.1 false) (by rfl) (PG (cW.1.2.1 false) (cW.1.2.2.2 false) (zas:=[I i]) (as':=[I i]) (by rw[cW.1.1];rfl) rfl rfl hh (bB _ _ _) (bB _ _ _) (fun _=>rfl) hR2 aeh (d:=d) (by decide) rfl);have ih':=ih (i+1) (by omega) _ _ he2;rw[ai];generalize aD _ _ _=L at ih'⊢;simp only[av,az]at e2 hu;simp only[ja,go_sem,apB,apA,apC,apD,apE,g1,g6,g9,g56,g57,k6,k2368,hc6,hg,e1,e2];rw[hu _ _ rfl rfl];simp only[go_sem,apB,apA,apC,apD,apE];rw[hbn _ _ rfl rfl];simp only[go_sem,apB,apA,apC,apD,apE,e5];generalize hX:am 0 _ _=X;obtain⟨hh,cs',g',q1,q2,q3,q4,q5,q6⟩:=ih' _ _ _ hX rfl rfl rfl rfl rfl rfl rfl;refine⟨hh,cs',g',q1,q2,q3,q4,q5,fun xs ts hp=>?_⟩;obtain⟨l1,l2⟩:=hp.len;obtain⟨x,t,hx,ht,hxt⟩:=hp.get hb0;rw[←q6 xs ts hp];obtain⟨d1,d2,d3⟩:=aaj hn;have hxd:xs.drop i=x::xs.drop (i+1):=by
   grind[List.drop_eq_getElem_cons]
  have htd:ts.take (i+1)=ts.take i++[t]:=by
   grind[List.take_add_one]
  rw[d2,d3,hxd,htd,PN _ _ (by grind),List.append_assoc];exact aaf (by grind) (by grind) (by rw[d1]) hxt g
theorem acF{ds:List Int}{p:Int}{N:Nat}(hN:N<=400){cs:List Ri}{g:G}(he:gw N cs g){c6:List AV}(hc6:aO [6,12,2368] (.bx c6)=true):∀ (k i:Nat),i+k=N->∀out:Ri,OkI out->(∀j,j<i->In (g j) out)->(∃q,In q out)->∀ (s:af) (h:ac) (X:Option (Ex×St)),am 2 [6,12] (aD (aj R (aH false) i9) [6,12,80,81,82] [6,12,2368] s h)=X->
  s 6=.ref 6 none 0 0 0->s 12=.ref 12 none 0 0 0->s 80=.rsl 2368 (some 1) 7 0 N->s 81=I N->s 82=I i->h 6=.bx c6->h 12=dX out->h 2368=bh ds cs p->
  ∃hh out',X=some (.normal,⟨upd (upd (fun _=>.any) 12 (.ref 12 none 0 0 0)) 6 (.ref 6 none 0 0 0),hh⟩)/\hh 6=.bx c6/\hh 12=dX out'/\OkI out'/\(∀j,j<N->In (g j) out'):=by
 intro k;induction k with
 |zero=>
  intro i hi out oo ho hq s h X hX g6 g12 g80 g81 g82 k6 k12 k2368;subst hX;have e1:((i:Int)< (N:Int))=False:=ff (by omega);have hg:=(bB ds cs p).cl [6,12,2368];have hoc:=(eu out).cl [6,12,2368];rw[ai];refine⟨?hh0,out,?_,?_,?_,oo,fun j hj=>ho j (by omega)⟩;rotate_left
  ·simp only[i9,go_sem,apB,apA,apC,apD,apE,g6,g12,g80,g81,g82,k6,k12,k2368,hc6,hg,hoc,e1];rfl
  ·rfl
  ·rfl
 |succ k ih=>
  intro i hi out oo ho hq s h X hX g6 g12 g80 g81 g82 k6 k12 k2368;subst hX;have e1:((i:Int)< (N:Int))=True:=tt (by omega);have e5:IntKind.i64.wrap ((i:Int)+1)=((i+1:Nat):Int):=wi (by omega) (by omega);obtain⟨x,x1,x2⟩:=he.get (k:=i) (by omega);have q1:(aY cs)[i]?=some (az x):=by grind[aY]
  have i1:(0<=(i:Int))=True:=eq_true (by omega);have hg:=(bB ds cs p).cl [6,12,2368];have hoc:=(eu out).cl [6,12,2368];have ch:=Z4 oo x2.ok;have ih':=ih (i+1) (by omega) (EX out x) (by
   obtain⟨q,hq⟩:=hq;exact(B7 hq x2).1.ok) (fun j hj=>by
   obtain⟨q,hq⟩:=hq;by_cases hji:j=i
   ·subst hji;exact(B7 hq x2).2
   ·exact(B7 (ho j (by omega)) x2).1) ⟨_,(B7 hq.choose_spec x2).1⟩
  rw[ai];simp only[av,az]at ch;simp only[az]at q1;simp only[bh]at k2368 hg;simp only[dX]at k12 hoc;simp only[i9,go_sem,apB,apA,apC,apD,apE,g6,g12,g80,g81,g82,k6,k12,k2368,hc6,hg,hoc,e1,i1,sv,xv,Int.toNat_natCast,Nat.zero_add,q1,ch,e5];exact ih' _ _ _ rfl rfl rfl rfl rfl rfl rfl rfl rfl
def BrG(a:Rp)(dom:List Ri)(p:Int)(b:Ri):Prop:=(∀xs ts:List Rat,qx dom xs ts->In (fv xs a.terms) b)/\((jh a dom&&bK p)=false->b=cB)
theorem qx.inL:∀ {dom:List Ri} {xs ts:List Rat},(∀b∈dom,kI b=true/\VI b)->qx dom xs ts->XW xs dom
 |b::_,x::_,t::_,hk,h=>by
  obtain⟨h1,h2,h3,h4⟩:=h;obtain⟨k1,k2⟩:=hk b (by simp);refine⟨Or.inr ⟨?_,k2,?_⟩,qx.inL (fun b hb=>hk b (by grind)) h4⟩
  ·unfold kI at k1;grind
  ·have hle:qv b.lo<=qv b.hi:=by
    rw[qn];unfold kI vi at k1;grind
   have a:=Rat.mul_nonneg (show 0<=qv b.hi-qv b.lo by grind) h2;have b:=Rat.mul_nonneg (show 0<=qv b.hi-qv b.lo by grind) (show 0<=1-t by grind);grind
 |[],[],[],_,_=>trivial
 |[],_::_,_,_,h=>h.elim
 |[],[],_::_,_,h=>h.elim
 |_::_,[],_,_,h=>h.elim
 |_::_,_::_,[],_,h=>h.elim
theorem Yg{a:Rp}{dom:List Ri}(od:∀x∈dom,OkI x)(hd:jh a dom=true):vp a=true/\(dom.length:Int)=a.vars/\∀b∈dom,kI b=true/\VI b:=by
 unfold jh at hd;simp only[Bool.and_eq_true,decide_eq_true_eq,Bool.not_eq_true',List.any_eq_false]at hd;refine⟨hd.1,hd.2.1,fun b hb=>?_⟩;have h1:kI b=true:=by
  grind
 have h2:=h1;unfold kI vi at h2;cases ha:b.all with
 |true=>grind
 |false=>
  rw[ha]at h2;simp at h2;have:=od b hb;exact⟨h1,⟨h2.1,this.lo⟩,⟨h2.2.1,this.hi⟩⟩
theorem PQ{a:Rp}{dom:List Ri}(oa:OkP a)(od:∀x∈dom,OkI x)(h2:dom.length<=100000){p:Int}:∃b,R F.bound_Bernstein [bH a,.sl 7 (aY dom),I p] []=some (av b,[])/\BrG a dom p b:=by
 have hf:=EM oa od h2 (p:=p);have hw:=BX;cases hq:(jh a dom&&bK p)with
 |false=>
  rw[hq]at hf;refine⟨cB,?_,fun _ _ _=>Or.inl rfl,fun _=>rfl⟩;refine aA gD rfl ?_;simp only[bH,av,az,cB,aK]at hf hw;simp only[eC,gA,bH,av,az,cB,aK,go_sem,apB,apA,apC,apD,apE,hf,hw]
 |true=>
  rw[hq]at hf;have hdp:=hq;rw[Bool.and_eq_true]at hdp;obtain⟨hd,hp⟩:=hdp;obtain⟨hv,hl,hk⟩:=Yg od hd;obtain⟨cl,v0,v8,h5⟩:=Ve oa hv;have nf:(jh a dom&&bK p)=false->∀b:Ri,b=cB:=fun h=>by grind
  by_cases hlin:zD a=true/\a.vars=1
  ·obtain⟨x,rfl⟩:∃x,dom=[x]:=List.length_eq_one_iff.1 (by omega);obtain⟨c,m,e1,_⟩:=Yf oa hlin.1 hlin.2 0;have hx:=hk x (by simp);obtain⟨k1,_⟩:=SL oa hv;rw[e1]at k1;refine⟨B1 c m x p,ZQ oa od (by omega) hlin.1 hlin.2 e1 rfl,fun xs ts hpt=>?_,fun h=>nf h _⟩;obtain⟨l1,l2⟩:=hpt.len;obtain⟨y,rfl⟩:∃y,xs=[y]:=List.length_eq_one_iff.1 l1;have hin:=qx.inL (fun b hb=>hk b hb) hpt;obtain⟨c',m',e3,e2⟩:=Yf oa hlin.1 hlin.2 y;rw[e1]at e3;injection e3 with g1 g2
   injection g2 with g2
   subst g1;subst g2;rw[e2];exact aai (k1 c (by simp)) (k1 m (by simp)) hp hin.1 hx.1
  ·obtain⟨v,hvv⟩:=Int.eq_ofNat_of_zero_le v0;have hL:=LE oa;obtain⟨r,hg,hgp⟩:=Yc (v:=v) (p:=p) (by omega) (A:=a.terms) (E:=D5 a.terms) (by simp[D5]) h5 (fun i t es h1 h2=>aaW (hvv▸cl) i t es h1 h2);have hcc:∃L b,Pn a=.tup [wL L,B b]/\(b=true->¬a.vars=1):=by
    grind[Pn,absurd]
   obtain⟨L,bl,e1,e2⟩:=hcc;rw[e1]at hL;have hVI:∀b∈dom,VI b:=fun b hb=>(hk b hb).2;rcases hgp with rfl| ⟨dn,cs,rfl,d1,d2,d3,d4,he⟩
   ·refine⟨cB,?_,fun _ _ _=>Or.inl rfl,fun _=>rfl⟩;refine aA gD rfl ?_;rw[←hvv]at hg;simp only[bH,av,az,cB,aK,wL]at hf hw hL;cases bl with
    |true=>
     have e3:(a.vars=1)=False:=eq_false (e2 rfl);simp only[eC,gA,bH,av,az,cB,aK,go_sem,apB,apA,apC,apD,apE,hf,hw,hL,e3,hg]
    |false=>
     simp only[eC,gA,bH,av,az,cB,aK,go_sem,apB,apA,apC,apD,apE,hf,hw,hL,hg]
   ·have hdl:dom.length=v:=by omega
    have hbg:=acE (p:=p) (c6:=[B false,.emp,I 0,B false,.emp,I 0,B false]) (by omega) d1 hdl d2 d4 hVI rfl v 0 (Nat.zero_add _) cs _ he;rw[←hvv]at hg;have hval:∀xs:List Rat,xs.length=dn.length->fI (kY dn xs) 1 0 (gT dn a.terms (D5 a.terms) fun _=>0)=fv xs a.terms:=fun xs hx=>by
     rw[Ye hx a.terms (D5 a.terms) (fun _=>0) (by simp[D5]) d3 (aah cl) (fun _ _=>rfl) fun i t es h1 h2=>(aaW (hvv▸cl) i t es h1 h2).1.1,aag (EZ dn xs),Rat.zero_add]
    have hfin:∀ (b:Ri) (g':G),(∀xs ts:List Rat,qx dom xs ts->fI (l9 (dn.take 0) (ts.take 0)++kY (dn.drop 0) (xs.drop 0)) 1 0 (gT dn a.terms (D5 a.terms) fun _=>0)=fI (l9 dn ts) 1 0 g')->(∀j,j<bg dn 1->In (g' j) b)->BrG a dom p b:=fun b g' h1 h2=>by
     refine⟨fun xs ts hpt=>?_,fun h=>nf h _⟩;obtain⟨l1,l2⟩:=hpt.len;have h3:=h1 xs ts hpt;have h4:fI (kY dn xs) 1 0 (gT dn a.terms (D5 a.terms) fun _=>0)=fI (l9 dn ts) 1 0 g':=h3;rw[hval xs (by omega)]at h4;rw[h4];rcases(h2 0 (jQ dn 1 (by decide))).k with⟨hW,_⟩| ⟨hkb,_⟩
     ·exact Or.inl hW
     ·have h5:∀j,j<bg dn 1->qv b.lo<=g' j/\g' j<=qv b.hi:=fun j hj=>by
       rcases(h2 j hj).k with⟨rfl,hn⟩| ⟨_,h6⟩
       all_goals grind
      have h6:=aeo (by omega) hpt.t01 h5;refine Or.inr ⟨?_,(h2 0 (jQ dn 1 (by decide))).vi,h6.1,h6.2⟩;grind[kI]
    have hh0:ao []=fun _=>.dead:=by funext i;simp[ao]
    refine E5 (r:=fun b=>(av b,[])) gD.2.1 gD.2.2 (gD.1.2.2.2 false) rfl (Nat.le_of_ble_eq_true rfl) ?_;simp only[bH,av,az,wL]at hf hL;have e3:bl=true->(a.vars=1)=False:=fun h=>eq_false (e2 h);have e4:(0:Int)< (bg dn 1:Nat):=by grind[jQ]
    cases bl
    all_goals
     simp only[eC,gA,bH,av,az,hh0,go_sem,apB,apA,apC,apD,apE,hf,hL,e3,hg,Vp];generalize hX:am 0 _ _=X;obtain⟨hh,cs',g',rfl,q6,q2368,qd,he',hv'⟩:=hbg _ _ _ hX rfl rfl rfl (by rw[Bg,d1];rfl) rfl rfl rfl;obtain⟨x,x1,x2⟩:=he'.get (k:=0) (jQ dn 1 (by decide));have hhl:=acF (ds:=dI dn) (p:=p) d4 he' (c6:=[B false,.emp,I 0,B false,.emp,I 0,B false]) rfl (bg dn 1) 0 (Nat.zero_add _) x x2.ok (fun j hj=>absurd hj (Nat.not_lt_zero j)) ⟨_,x2⟩;have q1:(aY cs')[0]?=some (az x):=by unfold aY;rw[List.getElem?_map,x1];rfl
     have i2:(0< (cs'.length:Int))=True:=eq_true (by rw[he'.1];exact e4);have d12:=qd 12 (by decide) (by decide);have hgo:=(bB (dI dn) cs' p).cl [6,12,2368];simp only[bh]at q2368 hgo;simp only[az]at q1;simp only[go_sem,apB,apA,apC,apD,apE,q6,q2368,d12,i2,Int.le_refl,Int.toNat_zero,sv,xv,q1];generalize hX:am 2 _ _=X;obtain⟨hh2,out,rfl,r6,r12,oo,hin⟩:=hhl _ _ _ hX rfl rfl (by rw[he'.1];rfl) (by rw[he'.1];rfl) rfl q6 rfl q2368;refine⟨out,?_,hfin out g' hv' hin⟩;simp only[dX]at r12;simp only[go_sem,apB,apA,apC,apD,apE,r6,r12]
def D6(l:List Nat):List (List AV):=l.map fun k=>[.v (.int .u8 (k:Nat))]
@[go_sem] theorem anM(l:List Nat):(D6 l).length=l.length:=by simp[D6]
def aq6(d:Nat)(out:List Rd)(x:AV)(o:Ob):Prop:=(out=[]/\x=.emp/\o=.dead)\/(0<out.length/\x=.rsl d none 3 0 out.length/\o=.ar 3 (zp out))
def E7(a:Rp)(dom:List Ri)(p:Int)(b:Ri):Ri:=if(jh a dom&&bK p)=true then(if(tK (gZ a dom p) b).2=true then(tK (gZ a dom p) b).1 else cB)else cB
theorem PS{a:Rp}{dom:List Ri}(oa:OkP a)(od:∀x∈dom,OkI x)(h2:dom.length<=100000){p:Int}{b:Ri}(ob:OkI b)(hb:(jh a dom&&bK p)=true->R F.bound_Bernstein [bH a,.sl 7 (aY dom),I p] []=some (av b,[])):
  R F.bound_Best [bH a,.sl 7 (aY dom),I p] []=some (av (E7 a dom p b),[]):=by
 refine aA Om rfl ?_;have hf:=EM oa od h2 (p:=p);have hw:=BX;have hn:=GO oa od h2 (p:=p);have on:=Xz (a:=a) (dom:=dom) (p:=p);have hm:=GV (x:=gZ a dom p) (y:=b) ⟨on.1.2,on.2.2⟩ ob;unfold E7;generalize gZ a dom p=n at hn hm⊢;generalize tK n b=q at hm⊢;obtain⟨m1,m2⟩:=q;cases hq:(jh a dom&&bK p)with
 |false=>
  rw[hq]at hf;simp only[bH,av,az,cB,aK]at hf hw;simp only[m6,sJ,bH,av,az,cB,aK,go_sem,apB,apA,apC,hf,hw]
 |true=>
  rw[hq]at hf
  replace hb:=hb hq
  simp only[bH,av,az,cB,aK]at hf hw hn hb hm;cases m2 with
  |true=>
   simp only[m6,sJ,bH,av,az,go_sem,apB,apA,apC,apD,apE,hf,hw,hn,hb,hm]
  |false=>
   simp only[m6,sJ,bH,av,az,cB,aK,go_sem,apB,apA,apC,apD,apE,hf,hw,hn,hb,hm]
theorem VI.ok'{x:Ri}(h:VI x):OkI x:=⟨h.1.2,h.2.2⟩
theorem aaX:∀dom:List Ri,qx dom (dom.map fun b=>qv b.lo) (List.replicate dom.length 0)
 |[]=>trivial
 |b::dom=>⟨by grind,by decide,by decide,aaX dom⟩
theorem aso{xs:List Rd}:∀ (l:List Rt) (s:Rd),vd s=true->Ok0 s->vd (aqi xs l s).1=true/\Ok0 (aqi xs l s).1
 |[],s,h1,h2=>⟨h1,h2⟩
 |t::l,s,h1,h2=>by
  cases hp:ap3 t.exps xs t.c with
  |none=>
   rw[arI hp];exact bj
  |some d=>
   rw[arH hp];split
   ·exact aso l _ (Kj s d).1 (Kj s d).2
   ·exact bj
theorem arS(a:Rp)(xs:List Rd):vd (apN a xs).1=true/\Ok0 (apN a xs).1:=by
 unfold apN;split
 ·exact aso _ _ bj.1 bj.2
 ·exact bj
theorem atf{a b:Rd}(h:(jO a b).2=0):qv (jO a b).1=qv a*qv b:=by
 have e:=ab1 h;have e2:=DU 16384;have e3:(zI (jO a b).1:Rat)*pQ 16384=(zI a:Rat)*zI b:=by
  unfold pQ;rw[←Rat.intCast_mul,←Rat.intCast_mul,e]
 unfold qv EQ;generalize eQ 16384=x at e2⊢;generalize pQ 16384=y at e2 e3;generalize(zI (jO a b).1:Rat)=m at e3⊢
 calc m*x=m*(x*y)*x:=by rw[e2,Rat.mul_one]
  _=(m*y)*x*x:=by grind
  _=_:=by rw[e3];grind
theorem auB{a b:Rd}(h:(nX a b).2=0):qv (nX a b).1=qv a+qv b:=by
 unfold qv;rw[ab0 h,Rat.intCast_add,Rat.add_mul]
theorem asp{x:Rd}:∀ {n:Nat} {c d:Rd},aqf x n c=some d->qv d=qv c*qv x^n
 |0,c,d,h=>by
  cases h;rw[Rat.pow_zero,Rat.mul_one]
 |n+1,c,d,h=>by
  unfold aqf at h;split at h
  ·rename_i h0;rw[asp h,atf h0,Rat.pow_succ];grind
  ·cases h
theorem asL:∀ {es:List Int} {xs:List Rd} {c d:Rd},ap3 es xs c=some d->qv d=qv c*F4 (xs.map qv) (zF es)
 |e::es,x::xs,c,d,h=>by
  simp only[ap3,Option.bind_eq_some_iff]at h;obtain⟨m,h1,h2⟩:=h;show qv d=qv c*(qv x^e.toNat*F4 (xs.map qv) (zF es));rw[asL h2,asp h1,Rat.mul_assoc]
 |[],xs,c,d,h=>by
  simp only[ap3]at h;cases h;cases xs<;>simp[zF,F4]
 |e::es,[],c,d,h=>by
  simp only[ap3]at h;cases h;simp[zF,F4]
theorem atg{xs:List Rd}:∀ {l:List Rt} {s:Rd},(aqi xs l s).2=0->qv (aqi xs l s).1=qv s+fv (xs.map qv) l
 |[],s,_=>by
  simp only[aqi,fv];grind
 |t::l,s,h=>by
  unfold aqi at h⊢;cases hp:ap3 t.exps xs t.c with
  |none=>rw[hp]at h;simp at h
  |some d=>
   rw[hp]at h;simp only at h⊢;split at h
   ·rename_i h0;rw[if_pos h0,atg h,auB h0,asL hp];show _=qv s+(qv t.c*F4 (xs.map qv) (zF t.exps)+fv (xs.map qv) l);grind
   ·simp at h
theorem asM{a:Rp}{xs:List Rd}(h:(apN a xs).2=0):qv (apN a xs).1=fv (xs.map qv) a.terms:=by
 unfold apN at h⊢;split at h
 ·rename_i he;rw[if_pos he,atg h,B6];grind
 ·simp at h
theorem M4{b:Ri}(h:kI b=true):qv b.lo<=qv b.hi:=by
 rw[qn];unfold kI vi at h;cases ha:b.all with
 |true=>rw[ha]at h;simp at h
 |false=>rw[ha]at h;simp at h;exact h.2.2
theorem art(x:Rat)(m:Nat):∀n,x^ (m+n)=x^m*x^n
 |0=>by simp[Rat.pow_zero]
 |n+1=>by rw[←Nat.add_assoc,Rat.pow_succ,art x m n,Rat.pow_succ,Rat.mul_assoc]
theorem ath:∀ {es:List Int} {xs:List Rd},F4 (xs.map qv) (zF es)=(pwZ es xs:Rat)*EQ^dg es xs
 |e::es,x::xs=>by
  show qv x^e.toNat*F4 (xs.map qv) (zF es)=((zI x^e.toNat*pwZ es xs:Int):Rat)*EQ^ (e.toNat+dg es xs);rw[ath,art,Rat.intCast_mul];have:qv x^e.toNat=((zI x^e.toNat:Int):Rat)*EQ^e.toNat:=by
   generalize e.toNat=n;induction n with
   |zero=>simp[Rat.pow_zero]
   |succ n ih=>
    rw[Rat.pow_succ,ih,Int.pow_succ,Rat.intCast_mul,Rat.pow_succ];unfold qv;grind
  rw[this];grind
 |[],xs=>by
  show F4 _ _=((1:Int):Rat)*EQ^0;cases xs<;>simp[Rat.pow_zero,zF,F4]
 |e::es,[]=>by
  show(1:Rat)=((1:Int):Rat)*EQ^0;simp[Rat.pow_zero]
theorem ary{xs:List Rd}{W:Int}(hW:(W:Rat)*EQ=1){w:Int}:∀ {l:List Rt},(∀t∈l,VT w t)->fv (xs.map qv) l*(W:Rat)^32=EQ*(lfn l (fun u=>pwZ u xs*W^ (32-dg u xs)):Rat)
 |[],_=>by show(0:Rat)*_=EQ*((0:Int):Rat);simp
 |t::l,h=>by
  have ih:=ary (xs:=xs) hW (l:=l) fun t ht=>h t (List.mem_cons_of_mem _ ht);have hd:=(h t (by simp)).dg xs;show(qv t.c*F4 (xs.map qv) (zF t.exps)+fv (xs.map qv) l)*(W:Rat)^32=EQ*((zI t.c*(pwZ t.exps xs*W^ (32-dg t.exps xs))+lfn l _:Int):Rat);rw[Rat.intCast_add,Rat.mul_add,←ih,ath,Rat.intCast_mul,Rat.intCast_mul];have e1:∀n:Nat,((W^n:Int):Rat)=(W:Rat)^n:=fun n=>by
   induction n with
   |zero=>simp[Rat.pow_zero]
   |succ n ih=>rw[Int.pow_succ,Rat.intCast_mul,ih,Rat.pow_succ]
  have e2:∀n:Nat,(W:Rat)^n*EQ^n=1:=fun n=>by
   induction n with
   |zero=>simp[Rat.pow_zero]
   |succ n ih=>
    rw[Rat.pow_succ,Rat.pow_succ];have h1:=hW;generalize(W:Rat)^n=a at ih⊢;generalize EQ^n=b at ih⊢;generalize(W:Rat)=c at h1⊢
    calc a*c*(b*EQ)=(a*b)*(c*EQ):=by grind
     _=1:=by rw[ih,h1,Rat.mul_one]
  have e3:(W:Rat)^32=(W:Rat)^ (32-dg t.exps xs)*(W:Rat)^dg t.exps xs:=by rw[←art];congr 1;omega
  have e4:=e2 (dg t.exps xs);rw[e1,e3,show qv t.c=(zI t.c:Rat)*EQ from rfl];generalize(W:Rat)^ (32-dg t.exps xs)=a at*
  generalize(W:Rat)^dg t.exps xs=b at*
  generalize EQ^dg t.exps xs=c at*
  generalize fv (xs.map qv) l=d at*
  generalize(zI t.c:Rat)=z at*
  generalize(pwZ t.exps xs:Rat)=p at*
  have e5:z*EQ*(p*c)*(a*b)=z*EQ*p*a*(b*c):=by grind
  have e6:(z*EQ*(p*c)+d)*(a*b)=z*EQ*p*a*(b*c)+d*(a*b):=by grind
  rw[e6,e4];grind
theorem auC{a b:Rp}{xs:List Rd}(oa:OkP a)(ob:OkP b)(h:(aqW a b).2=0):fv (xs.map qv) (aqW a b).1.terms=fv (xs.map qv) a.terms+fv (xs.map qv) b.terms:=by
 obtain⟨pa,pb,pc,f⟩:=asF oa ob h;have hW:(((2:Int)^16384:Int):Rat)*EQ=1:=by
  have:=DU 16384;rw[Rat.mul_comm];exact this
 generalize(2:Int)^16384=W at hW;have q1:=ary (xs:=xs) hW pa.cl.t;have q2:=ary (xs:=xs) hW pb.cl.t;have q3:=ary (xs:=xs) hW pc.cl.t;rw[f,Rat.intCast_add,Rat.mul_add,←q1,←q2,←Rat.add_mul]at q3;have hne:∀n:Nat,(W:Rat)^n≠0:=fun n=>by
  have h1:(W:Rat)≠0:=by
   intro hw;rw[hw]at hW;simp at hW
  induction n with
  |zero=>simp[Rat.pow_zero]
  |succ n ih=>rw[Rat.pow_succ];exact fun h=>(Rat.mul_eq_zero.1 h).elim ih h1
 have hne:=hne 32;generalize(W:Rat)^32=K at*
 have hm:K*K⁻¹=1:=Rat.mul_inv_cancel _ hne;generalize K⁻¹=k at hm;generalize fv (xs.map qv) (aqW a b).1.terms=x at*
 generalize fv (xs.map qv) a.terms+fv (xs.map qv) b.terms=y at*
 calc x=x*K*k:=by rw[Rat.mul_assoc,hm,Rat.mul_one]
  _=y:=by rw[q3,Rat.mul_assoc,hm,Rat.mul_one]
theorem auc{e:Int}(h1:1<=e)(h2:e<=32):qv (aqK e)=(e:Rat):=by
 obtain⟨W,hW⟩:=aux;have h1:=hW e.natAbs (by omega);have h2:=hW 1 (by omega);have h3:bA false 1 0=one:=by grind[bA,one,mQ,AM,ap,rY,fQ]
 have h5:((e.natAbs:Nat):Int)=e:=by omega
 rw[h3]at h2;rw[h5]at h1;have h4:=PD;unfold qv at h4⊢;unfold aqK;rw[h1,Rat.intCast_mul,Rat.mul_assoc];rw[h2,Rat.intCast_mul]at h4;have h6:(((1:Nat):Int):Rat)=1:=rfl;rw[h6,Rat.one_mul]at h4;rw[h4,Rat.mul_one]
theorem asN{a b:Rat}(hab:a<=b):∀ {l r:List Rt},(∀t∈l,VT 1 t)->ap4 0 l=some r->Smo a b (fun x=>fv [x] l) fun x=>fv [x] r
 |[],r,_,h=>by
  cases h;exact⟨fun _ _=>0,Bnd.c 0,fun x y=>by simp[fv];grind⟩
 |t::l,r,hv,h=>by
  have vt:=hv t (by simp);have ih:=fun r h=>asN hab (l:=l) (r:=r) (fun t ht=>hv t (List.mem_cons_of_mem _ ht)) h;obtain⟨c,es⟩:∃c,t=c:=⟨t,rfl⟩;have hlen:=vt.len;obtain⟨e,he⟩:∃e,t.exps=[e]:=List.length_eq_one_iff.1 (by omega);obtain⟨b1,b2⟩:=vt.b e (by simp[he]);have f1:∀x,fv [x] (t::l)=qv t.c*x^e.toNat+fv [x] l:=fun x=>by
   show qv t.c*F4 [x] (zF t.exps)+fv [x] l=_;rw[he];show qv t.c*(x^e.toNat*1)+fv [x] l=_;rw[Rat.mul_one]
  unfold ap4 at h;rw[he]at h;simp only[List.getD_cons_zero]at h;have hp:=Smo.pow hab e.toNat;split at h
  ·rename_i h0;subst h0;have:=hp.lin (c:=qv t.c) (d:=qv t.c) (ih r h) rfl;simp only[f1];have e:(fun x:Rat=>qv t.c*(((0:Int).toNat:Rat)*x^ ((0:Int).toNat-1))+fv [x] r)=fun x=>fv [x] r:=by
    funext x;simp[Rat.zero_add]
   rw[e]at this;exact this
  ·rename_i h0;split at h
   ·rename_i hm;rw[Option.map_eq_some_iff]at h;obtain⟨r',hr,rfl⟩:=h;have:=hp.lin (c:=qv t.c) (d:=qv t.c) (ih r' hr) rfl;simp only[f1];have e:(fun x:Rat=>qv t.c*((e.toNat:Rat)*x^ (e.toNat-1))+fv [x] r')=fun x=>fv [x] (⟨dec t.exps 0,(jO t.c (aqK e)).1⟩::r'):=?_
    ·rw[e]at this;rw[←he];exact this
    funext x;rw[he];show _=qv (jO t.c (aqK e)).1*F4 [x] (zF (dec [e] 0))+fv [x] r';rw[atf hm,auc (by omega) b2];show _=qv t.c*e*(x^ (e-1).toNat*1)+_;have h3:(e-1).toNat=e.toNat-1:=by omega
    have h4:((e.toNat:Nat):Rat)=(e:Rat):=by
     have:((e.toNat:Nat):Int)=e:=by omega
     exact_mod_cast congrArg (fun z:Int=>(z:Rat)) this
    rw[h3,h4];grind
   ·cases h
theorem avh{k j:Nat}(hj:j<=64):cO .shr (I k) (I j)=some (I ((k/2^j:Nat):Int)):=by
 simp_all[Av,if_neg,IntKind.bits,Option.some.injEq,AV.v.injEq,Value.int.injEq,true_and,Int.fdiv_eq_ediv_of_nonneg,Int.pow_nonneg,Nat.min_eq_left]
theorem auS{n:Nat}(h:n<9223372036854775808):cO .and (I n) (I 1)=some (I ((n%2:Nat):Int)):=by
 rw[Jw];have e:(BitVec.ofInt IntKind.i64.bits (n:Int)&&&BitVec.ofInt IntKind.i64.bits 1).toNat=n%2:=by
  show(BitVec.ofInt 64 (n:Int)&&&BitVec.ofInt 64 1).toNat=n%2;rw[BitVec.toNat_and];have e2:(BitVec.ofInt 64 (n:Int)).toNat=n:=by
   rw[BitVec.toNat_ofInt];omega
  rw[e2,show(BitVec.ofInt 64 (1:Int)).toNat=1 from rfl,Nat.and_one_is_mod]
 rw[e,i64_in]<;>omega
def cE(dom:List Ri)(k j:Nat):Rd:=if k/2^j%2=1 then(dom.getD j cB).hi else(dom.getD j cB).lo
def cN(dom:List Ri)(k i:Nat):List Rd:=(List.range i).map (cE dom k)
theorem ati{dom k i}:(cN dom k i).length=i:=by simp[cN]
theorem aud{dom k i}:cN dom k (i+1)=cN dom k i++[cE dom k i]:=by simp[cN,List.range_succ]
theorem aqw{d:Nat}{out:List Rd}{r:Rd}:aq6 d (out++[r]) (.rsl d none 3 0 (out.length+1)) (.ar 3 (zp out++[[B r.neg,lm r.m,I r.e]])):=
 Or.inr ⟨by simp,by simp,by simp[zp,ak]⟩
theorem auD{a:Rp}{dom:List Ri}{k n:Nat}{o6:List Rd}(h1:dom.length<=60)(hk:k<9223372036854775808):∀ (m i:Nat),i+m=dom.length->∀ (s:af) (h:ac),s 1=.sl 7 (aY dom)->s 2=.ref 2 none 0 0 0->s 7=I k->s 19=I n->s 20=I k->
  s 23=.sl 7 (aY dom)->s 24=I dom.length->s 25=I i->h 2=.bx [I a.vars,.sl 4 (cU a.terms)]->aq6 57 o6 (s 6) (h 57)->aq6 43 (cN dom k i) (s 8) (h 43)->
  ∃x6 x hh,am 2 [1,2,6,8,19,20] (aD (aj R (aH false) aaQ) [1,2,6,7,8,19,20,23,24,25] [2,43,57] s h)=
   some (.normal,⟨upd (upd (upd (upd (upd (upd (fun _=>.any) 20 (I k)) 19 (I n)) 8 x) 6 x6) 2 (.ref 2 none 0 0 0)) 1 (.sl 7 (aY dom)),hh⟩)/\
   aq6 57 o6 x6 (hh 57)/\aq6 43 (cN dom k dom.length) x (hh 43)/\hh 2=.bx [I a.vars,.sl 4 (cU a.terms)]/\∀a,a≠2->a≠43->a≠57->hh a=.dead:=by
 intro m;induction m with
 |zero=>
  intro i hi s h k1 k2 k7 k19 k20 k23 k24 k25 q2 h6 h8;have:i=dom.length:=by omega
  subst this;rw[ai];rcases h6 with⟨g6,h6,hh6⟩| ⟨g6,h6,hh6⟩<;>rcases h8 with⟨g8,h8,hh8⟩| ⟨g8,h8,hh8⟩
  ·refine⟨.emp,.emp,?h0,?_,Or.inl ⟨g6,rfl,?_⟩,Or.inl ⟨g8,rfl,?_⟩,?_,?_⟩;rotate_left
   ·simp only[aaQ,List.tail_cons,go_sem,apB,apA,apC,apD,apE,k1,k2,k7,k19,k20,k23,k24,k25,q2,h6,h8,hh6,hh8,Int.lt_irrefl];rfl
   ·rfl
   ·rfl
   ·rfl
   ·intro b hb hb' hb'';simp only[ed,hb,hb',hb'',if_false]
  ·refine⟨.emp,.rsl 43 none 3 0 (cN dom k dom.length).length,?h1,?_,Or.inl ⟨g6,rfl,?_⟩,Or.inr ⟨g8,rfl,?_⟩,?_,?_⟩;rotate_left
   ·simp only[aaQ,List.tail_cons,go_sem,apB,apA,apC,apD,apE,k1,k2,k7,k19,k20,k23,k24,k25,q2,h6,h8,hh6,hh8,Int.lt_irrefl];rfl
   ·rfl
   ·rfl
   ·rfl
   ·intro b hb hb' hb'';simp only[ed,hb,hb',hb'',if_false]
  ·refine⟨.rsl 57 none 3 0 o6.length,.emp,?h2,?_,Or.inr ⟨g6,rfl,?_⟩,Or.inl ⟨g8,rfl,?_⟩,?_,?_⟩;rotate_left
   ·simp only[aaQ,List.tail_cons,go_sem,apB,apA,apC,apD,apE,k1,k2,k7,k19,k20,k23,k24,k25,q2,h6,h8,hh6,hh8,Int.lt_irrefl];rfl
   ·rfl
   ·rfl
   ·rfl
   ·intro b hb hb' hb'';simp only[ed,hb,hb',hb'',if_false]
  ·refine⟨.rsl 57 none 3 0 o6.length,.rsl 43 none 3 0 (cN dom k dom.length).length,?h3,?_,Or.inr ⟨g6,rfl,?_⟩,Or.inr ⟨g8,rfl,?_⟩,?_,?_⟩;rotate_left
   ·simp only[aaQ,List.tail_cons,go_sem,apB,apA,apC,apD,apE,k1,k2,k7,k19,k20,k23,k24,k25,q2,h6,h8,hh6,hh8,Int.lt_irrefl];rfl
   ·rfl
   ·rfl
   ·rfl
   ·intro b hb hb' hb'';simp only[ed,hb,hb',hb'',if_false]
 |succ m ih=>
  intro i hi s h k1 k2 k7 k19 k20 k23 k24 k25 q2 h6 h8;have ih':=ih (i+1) (by omega);have hlt:i<dom.length:=by omega
  have e1:((i:Int)< (dom.length:Int))=True:=tt (by omega);have e2:aV (aY dom) (i:Int)=some (.ipt (az dom[i])):=A6 rfl (List.getElem?_eq_getElem hlt);have e3:IntKind.i64.wrap ((i:Int)+1)=((i+1:Nat):Int):=wi (by omega) (by omega);have e4:=avh (k:=k) (j:=i) (by omega);have e5:=auS (n:=k/2^i) (Nat.lt_of_le_of_lt (Nat.div_le_self _ _) hk);have eg:dom.getD i cB=dom[i]:=by simp[hlt]
  have q1:((cN dom k i).length+1)*40<=140737488355328:=by rw[ati];omega
  have f3:=tt q1;rw[ai];rw[aud]at ih';unfold cE at ih';rw[eg]at ih';generalize aD _ _ _=L at ih'⊢;generalize dom[i]=x at e2 ih';generalize cN dom k i=out at h8 q1 f3 ih'⊢;have hb:k/2^i%2=1\/k/2^i%2=0:=by omega
  generalize k/2^i=q at e4 e5 hb ih';generalize q%2=b at e5 hb ih';simp only[az]at e2;rcases hb with rfl|rfl
  ·rw[if_pos rfl]at ih';rcases h6 with⟨g6,h6,hh6⟩| ⟨g6,h6,hh6⟩<;>rcases h8 with⟨rfl,h8,hh8⟩| ⟨g8,h8,hh8⟩
   ·simp only[aaQ,List.tail_cons,go_sem,apB,apA,apC,apD,apE,k1,k2,k7,k19,k20,k23,k24,k25,q2,h6,h8,hh6,hh8,e1,e2,e3,e4,e5,Int.natCast_one,apH,apF,apG,Int.cast_ofNat_Int];exact ih' _ _ rfl rfl rfl rfl rfl rfl rfl rfl rfl (Or.inl ⟨g6,rfl,rfl⟩) aqw
   ·simp only[aaQ,List.tail_cons,go_sem,apB,apA,apC,apD,apE,k1,k2,k7,k19,k20,k23,k24,k25,q2,h6,h8,hh6,hh8,e1,e2,e3,e4,e5,f3,Int.natCast_one,apH,apF,apG,Int.cast_ofNat_Int,true_or,Nat.zero_add,Nat.le_refl];exact ih' _ _ rfl rfl rfl rfl rfl rfl rfl rfl rfl (Or.inl ⟨g6,rfl,rfl⟩) aqw
   ·simp only[aaQ,List.tail_cons,go_sem,apB,apA,apC,apD,apE,k1,k2,k7,k19,k20,k23,k24,k25,q2,h6,h8,hh6,hh8,e1,e2,e3,e4,e5,Int.natCast_one,apH,apF,apG,Int.cast_ofNat_Int];exact ih' _ _ rfl rfl rfl rfl rfl rfl rfl rfl rfl (Or.inr ⟨g6,rfl,rfl⟩) aqw
   ·simp only[aaQ,List.tail_cons,go_sem,apB,apA,apC,apD,apE,k1,k2,k7,k19,k20,k23,k24,k25,q2,h6,h8,hh6,hh8,e1,e2,e3,e4,e5,f3,Int.natCast_one,apH,apF,apG,Int.cast_ofNat_Int,true_or,Nat.zero_add,Nat.le_refl];exact ih' _ _ rfl rfl rfl rfl rfl rfl rfl rfl rfl (Or.inr ⟨g6,rfl,rfl⟩) aqw
  ·rw[if_neg (by decide)]at ih';rcases h6 with⟨g6,h6,hh6⟩| ⟨g6,h6,hh6⟩<;>rcases h8 with⟨rfl,h8,hh8⟩| ⟨g8,h8,hh8⟩
   ·simp only[aaQ,List.tail_cons,go_sem,apB,apA,apC,apD,apE,k1,k2,k7,k19,k20,k23,k24,k25,q2,h6,h8,hh6,hh8,e1,e2,e3,e4,e5,Int.natCast_zero,apH,apF,apG,Int.cast_ofNat_Int];exact ih' _ _ rfl rfl rfl rfl rfl rfl rfl rfl rfl (Or.inl ⟨g6,rfl,rfl⟩) aqw
   ·simp only[aaQ,List.tail_cons,go_sem,apB,apA,apC,apD,apE,k1,k2,k7,k19,k20,k23,k24,k25,q2,h6,h8,hh6,hh8,e1,e2,e3,e4,e5,f3,Int.natCast_zero,apH,apF,apG,Int.cast_ofNat_Int,true_or,Nat.zero_add,Nat.le_refl];exact ih' _ _ rfl rfl rfl rfl rfl rfl rfl rfl rfl (Or.inl ⟨g6,rfl,rfl⟩) aqw
   ·simp only[aaQ,List.tail_cons,go_sem,apB,apA,apC,apD,apE,k1,k2,k7,k19,k20,k23,k24,k25,q2,h6,h8,hh6,hh8,e1,e2,e3,e4,e5,Int.natCast_zero,apH,apF,apG,Int.cast_ofNat_Int];exact ih' _ _ rfl rfl rfl rfl rfl rfl rfl rfl rfl (Or.inr ⟨g6,rfl,rfl⟩) aqw
   ·simp only[aaQ,List.tail_cons,go_sem,apB,apA,apC,apD,apE,k1,k2,k7,k19,k20,k23,k24,k25,q2,h6,h8,hh6,hh8,e1,e2,e3,e4,e5,f3,Int.natCast_zero,apH,apF,apG,Int.cast_ofNat_Int,true_or,Nat.zero_add,Nat.le_refl];exact ih' _ _ rfl rfl rfl rfl rfl rfl rfl rfl rfl (Or.inr ⟨g6,rfl,rfl⟩) aqw
def crE(a:Rp)(dom:List Ri)(k:Nat):Rd×Int:=apN a (cN dom k dom.length)
def crA(a:Rp)(dom:List Ri):Nat->Nat->List Rd->List Rd×Int
 |0,_,o=>(o,0)
 |n+1,k,o=>if(crE a dom k).2=0 then crA a dom n (k+1) (o++[(crE a dom k).1])else([],(crE a dom k).2)
theorem auT{dom:List Ri}(od:∀x∈dom,OkI x){k j:Nat}:Ok0 (cE dom k j):=by
 have:OkI (dom.getD j cB):=by
  rcases Nat.lt_or_ge j dom.length with h|h
  ·rw[show dom.getD j cB=dom[j]by simp[h]];exact od _ (List.getElem_mem h)
  ·rw[show dom.getD j cB=cB by simp[List.getD_eq_getElem?_getD,List.getElem?_eq_none h]];exact Vb.ok'
 unfold cE;split
 ·exact this.hi
 ·exact this.lo
theorem auU{dom:List Ri}(od:∀x∈dom,OkI x){k i:Nat}:∀d∈cN dom k i,Ok0 d:=fun d hd=>by
 obtain⟨j,_,rfl⟩:=List.mem_map.1 hd;exact auT od
def auE(d:Nat)(r:List Rd×Int)(X:Option (Ex×St)):Prop:=
 (r.2=0->∃x hh,X=some (.normal,⟨upd (fun _=>.any) 6 x,hh⟩)/\aq6 d r.1 x (hh d))/\(r.2≠0->∃hh,X=some (.ret,⟨upd (upd (fun _=>.any) 5 (I r.2)) 4 .emp,hh⟩))
theorem aue{a:Rp}{dom:List Ri}{n:Nat}(oa:OkP a)(od:∀x∈dom,OkI x)(h1:dom.length<=60)(hn:n<=100000):∀ (m k:Nat) (o:List Rd),k+m=n->o.length<=k->∀ (s:af) (h:ac),s 1=.sl 7 (aY dom)->s 2=.ref 2 none 0 0 0->s 19=I n->s 20=I k->
  h 2=.bx [I a.vars,.sl 4 (cU a.terms)]->aq6 57 o (s 6) (h 57)->auE 57 (crA a dom m k o) (am 0 [6] (aD (aj R (aH false) aeB) [1,2,6,19,20] [2,57] s h)):=by
 intro m;induction m with
 |zero=>
  intro k o hk ho s h k1 k2 k19 k20 q2 h6;have:k=n:=by omega
  subst this;rw[ai];refine⟨fun _=>?_,fun h=>absurd rfl h⟩;rcases h6 with⟨g6,h6,hh6⟩| ⟨g6,h6,hh6⟩
  ·refine⟨.emp,?h0,?_,Or.inl ⟨g6,rfl,?_⟩⟩;rotate_left
   ·simp only[aeB,go_sem,apB,apA,apC,apD,apE,k1,k2,k19,k20,q2,h6,hh6,Int.lt_irrefl];rfl
   ·rfl
  ·refine⟨.rsl 57 none 3 0 o.length,?h1,?_,Or.inr ⟨g6,rfl,?_⟩⟩;rotate_left
   ·simp only[aeB,go_sem,apB,apA,apC,apD,apE,k1,k2,k19,k20,q2,h6,hh6,Int.lt_irrefl];rfl
   ·rfl
 |succ m ih=>
  intro k o hk ho s h k1 k2 k19 k20 q2 h6;have e1:((k:Int)< (n:Int))=True:=tt (by omega);have e3:IntKind.i64.wrap ((k:Int)+1)=((k+1:Nat):Int):=wi (by omega) (by omega);have q1:(o.length+1)*40<=140737488355328:=by omega
  have f3:=tt q1;have hev:=atJ oa (xs:=cN dom k dom.length) (auU od) (by rw[ati];omega);have hin:=auD (a:=a) (k:=k) (n:=n) (o6:=o) h1 (by omega) dom.length 0 (Nat.zero_add _);have ih':=ih (k+1) (o++[(crE a dom k).1]) (by omega) (by simp;omega);unfold crA;change R F.poly_Eval [bH a,wL (cN dom k dom.length)] []=some (rV (crE a dom k),[])at hev;generalize crE a dom k=v at hev ih'⊢;rw[ai];generalize aD (aj R (aH false) aeB) _ _=L at ih'⊢;generalize hL0:aD (aj R (aH false) aaQ) [1,2,6,7,8,19,20,23,24,25] [2,43,57]=L0 at hin;have hX:∀s h,aj R (aH false) (.loop [1,2,6,7,8,19,20,23,24,25] [2,43,57] aaQ) s h=L0 s h:=fun s h=>by rw[←hL0];rfl
  clear hL0;have hin2:∀ (S:af) (H:ac) (X:Option (Ex×St)),am 2 [1,2,6,8,19,20] (L0 S H)=X->S 1=.sl 7 (aY dom)->S 2=.ref 2 none 0 0 0->S 7=I k->S 19=I n->S 20=I k->S 23=.sl 7 (aY dom)->S 24=I dom.length->S 25=I 0->
    H 2=.bx [I a.vars,.sl 4 (cU a.terms)]->S 8=.emp->H 43=.dead->aq6 57 o (S 6) (H 57)->
    ∃x6 x hh,X=some (.normal,⟨upd (upd (upd (upd (upd (upd (fun _=>.any) 20 (I k)) 19 (I n)) 8 x) 6 x6) 2 (.ref 2 none 0 0 0)) 1 (.sl 7 (aY dom)),hh⟩)/\
     aq6 57 o x6 (hh 57)/\aq6 43 (cN dom k dom.length) x (hh 43)/\hh 2=.bx [I a.vars,.sl 4 (cU a.terms)]/\∀a,a≠2->a≠43->a≠57->hh a=.dead:=fun S H X hX a1 a2 a3 a4 a5 a6 a7 a8 a9 b1 b2 b3=>by
   rw[←hX];exact hin S H a1 a2 a3 a4 a5 a6 a7 a8 a9 b3 (Or.inl ⟨rfl,b1,b2⟩)
  clear hin;generalize cN dom k dom.length=pts at hev hin2;have et:(zp pts).take pts.length=zp pts:=by rw[←ang,List.take_length]
  simp only[bH,wL,rV,ag,ak]at hev;rcases h6 with⟨g6,h6,hh6⟩| ⟨g6,h6,hh6⟩
  all_goals
   simp only[aeB,hX,go_sem,apB,apA,apC,apD,apE,k1,k2,k19,k20,q2,h6,hh6,e1];generalize hB:am 2 [1,2,6,8,19,20] (L0 _ _)=X
  ·obtain⟨x6,x,hh,g0,c6,c8,g2,gd⟩:=hin2 _ _ _ hB rfl rfl rfl rfl rfl rfl rfl rfl rfl rfl rfl (Or.inl ⟨g6,rfl,rfl⟩);rw[g0];subst g6;rcases c6 with⟨_,rfl,c6⟩| ⟨g6,_⟩
   ·by_cases hz:v.2=0
    ·rw[if_pos hz];rcases c8 with⟨rfl,rfl,c8⟩| ⟨g8,rfl,c8⟩
     ·simp only[zp,List.map_nil]at hev;simp only[go_sem,apB,apA,apC,apD,apE,g2,gd,c6,c8,hev,hz,e3,ne_eq,not_false_eq_true];exact ih' _ _ rfl rfl rfl rfl g2 aqw
     ·simp only[Nat.zero_add,Nat.le_refl,et,go_sem,apB,apA,apC,apD,apE,g2,gd,c6,c8,hev,hz,e3,ne_eq,not_false_eq_true];exact ih' _ _ rfl rfl rfl rfl g2 aqw
    ·rw[if_neg hz];refine⟨fun h=>absurd h hz,fun _=>?_⟩;rcases c8 with⟨rfl,rfl,c8⟩| ⟨g8,rfl,c8⟩
     ·simp only[zp,List.map_nil]at hev;simp only[go_sem,apB,apA,apC,apD,apE,g2,gd,c6,c8,hev,hz,e3,ne_eq,not_false_eq_true];exact⟨_,rfl⟩
     ·simp only[Nat.zero_add,Nat.le_refl,et,go_sem,apB,apA,apC,apD,apE,g2,gd,c6,c8,hev,hz,e3,ne_eq,not_false_eq_true];exact⟨_,rfl⟩
   ·exact absurd g6 (by simp)
  ·obtain⟨x6,x,hh,g0,c6,c8,g2,gd⟩:=hin2 _ _ _ hB rfl rfl rfl rfl rfl rfl rfl rfl rfl rfl rfl (Or.inr ⟨g6,rfl,rfl⟩);rw[g0];rcases c6 with⟨c6,_⟩| ⟨_,rfl,c6⟩
   ·rw[c6]at g6;exact absurd g6 (by simp)
   ·by_cases hz:v.2=0
    ·rw[if_pos hz];rcases c8 with⟨rfl,rfl,c8⟩| ⟨g8,rfl,c8⟩
     ·simp only[zp,List.map_nil]at hev;simp only[go_sem,apB,apA,apC,apD,apE,g2,gd,c6,c8,hev,hz,e3,f3,ne_eq,not_false_eq_true,true_or,Nat.zero_add,Nat.le_refl];exact ih' _ _ rfl rfl rfl rfl g2 aqw
     ·simp only[Nat.zero_add,Nat.le_refl,et,go_sem,apB,apA,apC,apD,apE,g2,gd,c6,c8,hev,hz,e3,f3,ne_eq,not_false_eq_true,true_or];exact ih' _ _ rfl rfl rfl rfl g2 aqw
    ·rw[if_neg hz];refine⟨fun h=>absurd h hz,fun _=>?_⟩;rcases c8 with⟨rfl,rfl,c8⟩| ⟨g8,rfl,c8⟩
     ·simp only[zp,List.map_nil]at hev;simp only[go_sem,apB,apA,apC,apD,apE,g2,gd,c6,c8,hev,hz,e3,ne_eq,not_false_eq_true];exact⟨_,rfl⟩
     ·simp only[Nat.zero_add,Nat.le_refl,et,go_sem,apB,apA,apC,apD,apE,g2,gd,c6,c8,hev,hz,e3,ne_eq,not_false_eq_true];exact⟨_,rfl⟩
theorem avi{n:Nat}(h:n<=60):cO .shl (I 1) (I n)=some (I ((2^n:Nat):Int)):=by
 rw[EG,if_neg (by omega)];have e:min (n:Int).toNat IntKind.i64.bits=n:=by
  show min (n:Int).toNat 64=n;omega
 have h2:2^n<=2^60:=Nat.pow_le_pow_right (by decide) h;have e2:(1:Int)*2^n=((2^n:Nat):Int):=by rw[Int.one_mul];simp
 rw[e,e2];generalize 2^n=q at h2⊢;rw[i64_in]<;>omega
def asY(a:Rp)(dom:List Ri):List Rd×Int:=if jh a dom=true then crA a dom (2^dom.length) 0 []else([],1)
def arl(r:List Rd×Int):AV:=.tup [wL r.1,I r.2]
theorem atj(a:Rp)(dom:List Ri):∀ (n k:Nat) (o:List Rd),(crA a dom n k o).2≠0->(crA a dom n k o).1=[]
 |0,_,_,h=>absurd rfl h
 |n+1,k,o,h=>by
  unfold crA at h⊢;split at h
  ·rename_i h0;rw[if_pos h0];exact atj a dom n (k+1) _ h
  ·rename_i h0;rw[if_neg h0]
theorem asZ{a:Rp}{dom:List Ri}(oa:OkP a)(od:∀x∈dom,OkI x)(h1:dom.length<=16):R F.bound_Corners [bH a,.sl 7 (aY dom)] []=some (arl (asY a dom),[]):=by
 refine aA arw rfl ?_;have hdm:=Xh oa od (by omega);unfold asY;simp only[bH]at hdm;cases hd:jh a dom with
 |false=>
  rw[hd]at hdm;rw[if_neg Bool.false_ne_true];simp only[aqp,aqN,arl,bH,wL,zp,List.map_nil,go_sem,apB,apA,apC,apD,apE,hdm]
 |true=>
  rw[hd]at hdm;rw[if_pos rfl];obtain⟨hv,hl,hk⟩:=Yg od hd;have h2:2^dom.length<=100000:=Nat.le_trans (Nat.pow_le_pow_right (by decide) h1) (by decide);have hlp:=aue oa od (by omega) h2 (2^dom.length) 0 [] (Nat.zero_add _) (Nat.le_refl _);have e0:=avi (n:=dom.length) (by omega);rw[hl]at e0;have hne:=atj a dom (2^dom.length) 0 [];generalize crA a dom (2^dom.length) 0 []=r at hlp hne⊢;generalize 2^dom.length=n at*
  generalize hL:aD (aj R (aH false) aeB) [1,2,6,19,20] [2,57]=L at hlp;have hX:∀s h,aj R (aH false) (.loop [1,2,6,19,20] [2,57] aeB) s h=L s h:=fun s h=>by rw[←hL];rfl
  clear hL;have hlp2:∀ (S:af) (H:ac) (X:Option (Ex×St)),am 0 [6] (L S H)=X->S 1=.sl 7 (aY dom)->S 2=.ref 2 none 0 0 0->S 19=I n->S 20=I 0->H 2=.bx [I a.vars,.sl 4 (cU a.terms)]->S 6=.emp->H 57=.dead->auE 57 r X:=fun S H X hX a1 a2 a3 a4 a5 a6 a7=>by
   rw[←hX];exact hlp S H a1 a2 a3 a4 a5 (Or.inl ⟨rfl,a6,a7⟩)
  clear hlp;simp only[aqp,aqN,arl,bH,go_sem,apB,apA,apC,apD,apE,hdm,e0,hX];generalize hB:am 0 [6] (L _ _)=X;obtain⟨p1,p2⟩:=hlp2 _ _ _ hB rfl rfl rfl rfl rfl rfl rfl;by_cases hz:r.2=0
  ·obtain⟨x,hh,g0,hacc⟩:=p1 hz;rw[g0];rcases hacc with⟨h3,rfl,h4⟩| ⟨h3,rfl,h4⟩
   ·simp only[go_sem,apB,apA,apC,apD,apE,h4,h3,hz,wL,zp,List.map_nil]
   ·simp only[go_sem,apB,apA,apC,apD,apE,h4,hz,wL,Nat.zero_add,Nat.le_refl,true_and,and_true]
  ·obtain⟨hh,g0⟩:=p2 hz;rw[g0];simp only[go_sem,apB,apA,apC,apD,apE,hne hz,wL,zp,List.map_nil]
end Go.Ab
