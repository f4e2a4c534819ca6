/-
  A law of tapes on models holds at every input that the statement speaks of, under the conditions that its card names. Part E1.
-/
import Derived.Test.YtjjejmhekjbmbaaGreatDoorD1
open Nat renaming add_assoc → aCe, add_mul → aBG, add_zero → aBR, div_add_mod → aCb, le_of_ble_eq_true → aBI, le_refl → aBh, le_trans → aBq, lt_of_le_of_lt → aBU, lt_of_lt_of_le → aCf, min_eq_left → aCc, mod_eq_of_lt → aB8, mod_lt → aBW, mul_assoc → aBH, mul_comm → aBD, mul_le_mul_left → aCg, mul_le_mul_right → aBv, pow_add → aBx, pow_le_pow_right → aB4, pow_succ → aB6, reduceMod → aBY, reduceSub → aBP, two_pow_pos → aBA, zero_add → aBi, zero_le → aBB
open Int renaming eq_ofNat_of_zero_le → aCj, lt_irrefl → aCh, natCast_zero → aBV, reduceEq → aBo, reduceLE → aBn, reduceLT → aBm, reduceToNat → aBL, toNat_natCast → aBr
open Bool renaming and_eq_true → aBk, and_self → aB3, false_and → aBy, false_eq_true → aCa, false_ne_true → aBu, not_eq_true' → aCi, true_and → aBt
open List renaming all_cons → aBO, all_eq_true → aBC, append_assoc → aCd, append_nil → aBz, cons_append → aBF, drop_eq_getElem_cons → aBJ, drop_eq_nil_of_le → aBQ, getD_eq_getElem?_getD → aCl, getElem?_eq_getElem → aBp, getElem_mem → aBT, length_cons → aB0, length_nil → aB1, length_replicate → aCk, length_take → aBN, map_congr_left → aBK, map_cons → aBM, map_id' → aB2, map_nil → aBX, mem_map → aB7, mem_of_getElem? → aBs, nil_append → aBw, replicate → aBg, take_of_length_le → aBE
open Option renaming bind_eq_some_iff → aBf, bind_some → aBl, map_eq_some_iff → aBj, map_some → aBZ
open Rat renaming mul_le_mul_of_nonneg_right → aB9
set_option linter.all false
namespace Go.Ab
open Go Go.IntWalk
set_option maxRecDepth 4000
set_option maxHeartbeats 8000000
variable{T j lo third top w y:Nat}
def gS(a b:Rd):Rd×Int:=if(vd a&&vd b)=true then cS (fj (zI a*zI b) (-32768))else(aG,1)
def kR(a b:Rd):Rd×Int:=if(vd a&&vd b)=true then cS (fj (zI a+zI b) (-16384))else(aG,1)
theorem yj{z f}:vd (cS (fj z f)).1=true/\Ok0 (cS (fj z f)).1:=by
 unfold cS fj;by_cases h:s9 (ag (ab (bu (decide (z<0)) z.natAbs f).m)) (bu (decide (z<0)) z.natAbs f).e=true
 ·rw[aq h];have hv:=HZ h;have hb:=ye (decide (z<0)) z.natAbs f;exact⟨hv,hb,aBU (wZ hv hb) δ⟩
 simp_all[ax,aO]
theorem Mh(a b):vd (gS a b).1=true/\Ok0 (gS a b).1:=by
 grind[gS,yj,aO]
theorem al5(a b):vd (kR a b).1=true/\Ok0 (kR a b).1:=by
 grind[kR,yj,aO]
theorem H4{d}(h:vd d=true)(h0:d.m.length≠0):ab d.m%2=1:=by
 obtain⟨h1,h2,h3,h4⟩:=BW h h0;cases hm:d.m with
 |nil=>grind
 |cons x l=>
  grind[ab]
theorem Yh{x y}(hx:x≠0)(hy:y≠0):ag x+ag y-2<ag (x*y):=by
 have h1:=ju hx;have h2:=ju hy;have h3:2^ (ag x-1)<=x:=lw.1 ω;have h4:2^ (ag y-1)<=y:=lw.1 ω;rw[lw,show ag x+ag y-2=(ag x-1)+(ag y-1)by omega,aBx];exact Nat.mul_le_mul h3 h4
theorem al6{a b}(oa:Ok0 a)(ob:Ok0 b):VL a b=rV (gS a b):=by
 unfold VL gS;by_cases hv:vd a=true/\vd b=true
 ·obtain⟨va,vb⟩:=hv;rw[aq ⟨va,vb⟩,va,vb,aBt,aq rfl,←afZ oa ob va vb];by_cases h0:a.m.length=0\/b.m.length=0
  ·rw[aq h0];have:ab a.m*ab b.m=0:=by
    rcases h0 with h0|h0
    ·rw[List.length_eq_zero_iff.1 h0];exact Nat.zero_mul _
    ·rw[List.length_eq_zero_iff.1 h0];exact Nat.mul_zero _
   rw[this,lF];rfl
  ·rw[ax h0];have a0:=fun h=>h0 (.inl h);have b0:=fun h=>h0 (.inr h);have x0:=ef va a0;have y0:=ef vb b0;by_cases hb:4096<ag (ab a.m)+ag (ab b.m)-1
   ·rw[aq hb];have h1:=Yh x0 y0;have ho:ab a.m*ab b.m%2=1:=by grind[Nat.mul_mod,H4]
    have ht:=Yf ho 0;rw[Nat.pow_zero,Nat.mul_one]at ht;obtain⟨g1,g2,g3,g4⟩:=rH (neg:=a.neg !=b.neg) (e:=a.e+b.e) (Nat.mul_ne_zero x0 y0);unfold cS;rw[ax]
    ·rfl
    ·intro h2;rw[g1,ht,Nat.pow_zero,Nat.div_one]at h2;have h3:=(CE h2 ω).1;omega
   simp_all[ax,Ma]
 ·rw[ax hv,ax]
  ·rfl
  grind
theorem SQ{a b}(oa:Ok0 a)(ob:Ok0 b):R 131 [ae a,ae b] []=some (rV (gS a b),[]):=by
 grind[al6,alK]
def Uk(m:Rd)(x:Ri):Rd:=if kj m<0 then x.hi else x.lo
def Ul(m:Rd)(x:Ri):Rd:=if kj m<0 then x.lo else x.hi
def adX(c:Rd)(a b:Rd×Int)(p:Int):Ri:=if a.2=0/\b.2=0 then nC (dq c a.1 p false) (dq c b.1 p true)else cG
def Jl(c m:Rd)(x:Ri)(p:Int):Ri:=adX c (gS m (Uk m x)) (gS m (Ul m x)) p
theorem al7{c m}{x}(oc:Ok0 c)(om:Ok0 m)(vm:vd m=true)(ox:OkI x){p}:R 205 [ae c,ae m,af x,I p] []=some (af (Jl c m x p),[]):=by
 refine az XB rfl ?_;have hs:=Al om vm;have hw:=Jj;unfold Jl adX nC;simp only[ae,aj]at hs;simp only[af,am,cG]at hw;have key:∀lo hi:Rd,lo=Uk m x->hi=Ul m x->Ok0 lo->Ok0 hi->lI false iM.rs iM.res 0 (ap R (aC false) iM.body (vH [ae c,ae m,af x,I p]) fun _=>.dead)=some (af (if(gS m lo).2=0/\(gS m hi).2=0 then(if(dq c (gS m lo).1 p false).2=0/\(dq c (gS m hi).1 p true).2=0 then⟨(dq c (gS m lo).1 p false).1,(dq c (gS m hi).1 p true).1,false⟩else cG)else cG),[]):=by
  intro lo hi e1 e2 ol oh;have h1:=SQ om ol;have h2:=SQ om oh;have o1:=(Mh m lo).2;have o2:=(Mh m hi).2;generalize gS m lo=A at h1 o1⊢;generalize gS m hi=D at h2 o2⊢;have h3:=Ji oc o1 (p:=p);have h4:=OL oc o2 (p:=p);generalize dq c A.1 p false=Y at h3⊢;generalize dq c D.1 p true=Z at h4⊢;obtain⟨A1,A2⟩:=A;obtain⟨D1,D2⟩:=D;obtain⟨Y1,Y2⟩:=Y;obtain⟨Z1,Z2⟩:=Z;unfold Uk at e1;unfold Ul at e2;simp only[rV,ae,aj]at h1 h2 h3 h4;have hc:((kj m<0)=True/\lo=x.hi/\hi=x.lo)\/((kj m<0)=False/\lo=x.lo/\hi=x.hi):=by
   grind
  clear e1 e2;rcases hc with⟨e0,rfl,rfl⟩| ⟨e0,rfl,rfl⟩
  all_goals
   by_cases a1:A2=0
   ·have f1:=tt a1;by_cases a2:D2=0
    ·have f2:=tt a2;rw[aq ⟨a1,a2⟩];by_cases a3:Y2=0
     ·have f3:=tt a3;by_cases a4:Z2=0
      ·have f4:=tt a4;rw[aq ⟨a3,a4⟩];simp only[iM,ae,aj,af,am,cG,go_sem,aBP,aBm,aBn,aBo,aBL,aBY,hs,e0,h1,h2,h3,h4,f1,f2,f3,f4]
      ·have f4:=ff a4;rw[ax (fun h=>a4 h.2)];simp only[iM,ae,aj,af,am,cG,go_sem,aBP,aBm,aBn,aBo,aBL,aBY,hs,e0,h1,h2,h3,h4,f1,f2,f3,f4,hw]
     ·have f3:(Y2=0)=False:=ff a3;rw[ax (fun h=>a3 h.1)];simp only[iM,ae,aj,af,am,cG,go_sem,aBP,aBm,aBn,aBo,aBL,aBY,hs,e0,h1,h2,h3,h4,f1,f2,f3,hw]
    ·have f2:(D2=0)=False:=ff a2;rw[ax (fun h=>a2 h.2)];simp only[iM,ae,aj,af,am,cG,go_sem,aBP,aBm,aBn,aBo,aBL,aBY,hs,e0,h1,h2,h3,h4,f1,f2,hw]
   ·have f1:(A2=0)=False:=ff a1;rw[ax (fun h=>a1 h.1)];simp only[iM,ae,aj,af,am,cG,go_sem,aBP,aBm,aBn,aBo,aBL,aBY,hs,e0,h1,h2,h3,h4,f1,hw]
 by_cases hm:kj m<0
 ·exact key _ _ rfl rfl (by unfold Uk;rw[aq hm];exact ox.hi) (by unfold Ul;rw[aq hm];exact ox.lo)
 ·exact key _ _ rfl rfl (by unfold Uk;rw[ax hm];exact ox.lo) (by unfold Ul;rw[ax hm];exact ox.hi)
theorem aa7:∀l o,(∀t∈l,vd t.c=true/\Ok0 t.c)->(∀x∈o,∀d,x=some d->vd d=true/\Ok0 d)->∀x∈CS l o,∀d,x=some d->vd d=true/\Ok0 d
 |[],o,_,ho=>ho
 |t::l,o,hl,ho=>by
  unfold CS;refine aa7 l _ (fun u hu=>hl u (List.mem_cons_of_mem _ hu)) fun x hx d hd=>?_;rcases List.mem_or_eq_of_mem_set hx with h|h
  ·exact ho x h d hd
  ·rw[h]at hd;obtain rfl:=Option.some.inj hd;exact hl t (List.mem_cons_self ..)
theorem aa8{a}(oa:OkP a)(hv:vp a=true):(∀d∈Jk a,vd d=true/\Ok0 d)/\(Jk a).length=a.vars.toNat+1:=by
 constructor
 ·intro d hd;simp only[Jk,odV,aB7]at hd;obtain⟨o,ho,rfl⟩:=hd;have:=aa7 a.terms (aBg (a.vars.toNat+1) none) (fun t ht=>⟨(Mg hv ht).2.2.1,(oa.t t ht).c⟩) (fun x hx d hd=>by
   rw[List.eq_of_mem_replicate hx]at hd;exact nomatch hd) o ho
  cases o with
  |none=>exact aO
  |some d=>exact this d rfl
 ·simp[Jk,odV,ON]
theorem ao1(a l):dX (a::l) 0=some (.ipt a):=by simp[dX]
theorem ao2(a b l):dX (a::b::l) 1=some (.ipt b):=by simp[dX]
theorem ajc{a}{dom}(oa:OkP a)(od:∀x∈dom,OkI x){p}(hf:(mW a dom&&bE p)=true)(hl:GJ a=true)(h1:a.vars=1){c m}{x}(hlin:Jk a=[c,m])(hdom:dom=[x]):
  R 161 [bo a,.sl 7 (cB dom),I p] []=some (af (Jl c m x p),[]):=by
 refine az lq rfl ?_;have h2:dom.length<=100000:=by rw[hdom];exact(by decide:1<=100000)
 have hf1:=Md oa od h2 (p:=p);rw[hf]at hf1;have hL:=Uj oa;unfold Yg at hL;rw[aq hl,hlin]at hL;have hv:=by
  simp only[GJ,aBk]at hl;exact hl.1
 obtain⟨k1,k2⟩:=aa8 oa hv;rw[hlin]at k1;have kc:=k1 c (List.mem_cons_self ..);have km:=k1 m (List.mem_cons_of_mem _ (List.mem_cons_self ..));have hn:=al7 kc.2 km.2 km.1 (od x (by rw[hdom];exact List.mem_cons_self ..)) (p:=p);generalize Jl c m x p=z at hn⊢;subst hdom;have e1:=tt h1;simp only[bo,cB,aBM,aBX,am]at hf1 hL;simp only[DC,GE,aBM,aBX,aj]at hL;simp only[ae,aj,af,am]at hn;simp only[iH,lg,bo,cB,aBM,aBX,af,am,go_sem,aBP,aBm,aBn,aBo,aBL,aBY,hf1,hL,hn,e1,ao1,ao2]
theorem Mi{z}(h:(cS (fj z (-16384-j))).2=0):zI (cS (fj z (-16384-j))).1*2^j=z:=by
 unfold cS at h⊢;by_cases hr:s9 (ag (ab (fj z (-16384-j)).m)) (fj z (-16384-j)).e=true
 ·rw[aq hr];unfold fj at hr⊢;by_cases h0:z.natAbs=0
  ·have:z=0:=ω
   rw[this,cT rfl,Int.zero_mul]
  ·obtain⟨g1,g2,g3,g4⟩:=rH (neg:=decide (z<0)) (e:=-16384-j) h0;obtain⟨t1,t2⟩:=AF h0;have hp:ag (ab (bu (decide (z<0)) z.natAbs (-16384-j)).m)≠0:=by
    grind[ju]
   have he:=CE hr hp;rw[jW h0];unfold zI mg;rw[bp];have ht:(-16384- (j:Int)+(tz z.natAbs)+16384).toNat+j=tz z.natAbs:=ω
   generalize(-16384- (j:Int)+(tz z.natAbs)+16384).toNat=k at ht⊢;have hm:(((z.natAbs/2^tz z.natAbs*2^k):Int))*2^j=z.natAbs:=by
    have:z.natAbs/2^tz z.natAbs*2^k*2^j=z.natAbs:=by
     grind[aBH,aBx,aBD]
    grind
   grind
 grind
theorem aa9{a b}(h:(kR a b).2=0):zI (kR a b).1=zI a+zI b:=by
 unfold kR at h⊢;split at h
 ·have:=Mi (z:=zI a+zI b) (j:=0) h;grind
 omega
theorem al8{a b}(h:(gS a b).2=0):zI (gS a b).1*2^16384=zI a*zI b:=by
 unfold gS at h⊢;split at h
 ·rename_i h1;rw[aq h1];exact Mi (z:=zI a*zI b) (j:=16384) h
 omega
def tr(x:Ri)(p:Int):Ri:=if(bE p&&kI x)=true then nC (cx x.lo p false) (cx x.hi p true)else cG
theorem ao3{q t}(h:cW q t<0):bO q<=bO t:=by
 unfold cW gy at h;omega
theorem aba{v}:∀l pr,DH v pr l=true->∀u∈l.getLast?,∀t∈l,bO t.exps<=bO u.exps
 |[],_,_,u,hu,_,_=>nomatch hu
 |[t],_,_,u,hu,w,hw=>by
  grind
 |t::s::l,pr,h,u,hu,w,hw=>by
  have h2:DH v (some t) (s::l)=true:=by
   simp_all[DH,aBk]
  have hu2:u∈ (s::l).getLast?:=γ
  have ih:=aba (s::l) (some t) h2 u hu2;rcases List.mem_cons.1 hw with h3|h3
  ·rw[h3];unfold DH at h2;simp only[aBk]at h2;have h4:=of_decide_eq_true h2.2.1;exact Int.le_trans (ao3 h4) (ih s (List.mem_cons_self ..))
  grind
theorem al9{a}(h:GJ a=true):vp a=true/\∀t∈a.terms,bO t.exps<=1:=by
 simp only[GJ,aBk,decide_eq_true_eq]at h;refine⟨h.1,fun t ht=>?_⟩;have h2:=h.2;unfold mA at h2;rw[aq h.1]at h2;cases hl:a.terms.getLast? with
 |none=>grind
 |some u=>
  rw[hl]at h2;exact Int.le_trans (aba a.terms none (QB h.1).2.2.2 u ω t ht) h2
theorem ama{t:Rt}(h:(t.exps.length:Int)=1):∃e,t.exps=[e]:=by
 match t.exps,h with
 |[e],_=>grind
 |[],h=>grind
 |_::_::l,h=>grind
abbrev zb:List AV:=[B false,.emp,I 0]
@[go_sem] theorem ayP(l):(GE l).map (eP [.o 0 [],.o 2 [],.o 0 []])=GE l:=by
 refine tH fun x hx=>?_;simp only[GE,aB7]at hx;obtain⟨t,ht,rfl⟩:=hx;simp only[aj,go_sem]
theorem Jm{d}(h:vd d=true):cS d=(d,0):=by
 unfold cS;by_cases h0:d.m.length=0
 ·rw[CD h h0];rfl
 simp_all[aq,BW]
theorem Lh{d}(ok:Ok0 d)(h:vd d=true):bu d.neg (ab d.m) d.e=d:=by
 have h1:=CQ ok h;obtain⟨g1,g2,g3,g4⟩:=fA h ok.lb;have hz:zI d=cF d.neg (mg d):=rfl;rw[hz,←CP]at h1;grind[mg,mJ]
theorem abb{N k}{neg}(ho:N%2=1)(hb:4096<ag N):cS (bu neg (N*2^k) (-16384))=(aG,9):=by
 have h0:N≠0:=ω
 rw[mJ];obtain⟨g1,g2,g3,g4⟩:=rH (neg:=neg) (e:=-16384+k) h0;have ht:=Yf ho 0;rw[Nat.pow_zero,Nat.mul_one]at ht;unfold cS;rw[ax];intro h2;rw[g1,ht,Nat.pow_zero,Nat.div_one]at h2;have h3:=(CE h2 ω).1;omega
theorem Yi{a b}(oa:Ok0 a)(ob:Ok0 b)(va:vd a=true)(vb:vd b=true)(na:a.m.length≠0)(nb:b.m.length≠0){e}(he:e=if b.e<a.e then b.e else a.e)(h:4097<aW a-e)(hg:1<aW a-aW b):
  cS (fj (zI a+zI b) (-16384))=(aG,9)/\cS (fj (zI b+zI a) (-16384))=(aG,9):=by
 obtain⟨a1,a2,a3,a4⟩:=fA va oa.lb;obtain⟨b1,b2,b3,b4⟩:=fA vb ob.lb;have e1:=kQ va na;have e2:=kQ vb nb;have he1:-16384<=e/\e<=a.e/\e<=b.e/\(e=a.e\/e=b.e):=by
  omega
 have hne:=ω
 have z1:zI a=cF a.neg (ab a.m*2^ (a.e-e).toNat*2^ (e+16384).toNat):=by
  grind[zI,cF,mg,CF]
 have z2:zI b=cF b.neg (ab b.m*2^ (b.e-e).toNat*2^ (e+16384).toNat):=by
  rw[show zI b=cF b.neg (mg b)from rfl,CF he1.1 he1.2.2.1]
 have bx:(ag (ab a.m*2^ (a.e-e).toNat))=aW a-e:=by
  grind[ed,ef]
 have by':(ag (ab b.m*2^ (b.e-e).toNat))=aW b-e:=by
  grind
 have oX:=H4 va na;have oY:=H4 vb nb;have odd:(ab a.m*2^ (a.e-e).toNat+ab b.m*2^ (b.e-e).toNat) %2=1:=by
  rcases he1.2.2.2 with h1|h1
  ·omega
  ·obtain⟨k,hk⟩:∃k,(a.e-e).toNat=k+1:=⟨(a.e-e).toNat-1,by omega⟩;rw[show(b.e-e).toNat=0 by omega,hk,Nat.pow_zero,Nat.mul_one,aB6,←aBH];omega
 rw[Int.add_comm (zI b),and_self,z1,z2];generalize ab a.m*2^ (a.e-e).toNat=x at bx odd⊢;generalize ab b.m*2^ (b.e-e).toNat=y at by' odd⊢;generalize(e+16384).toNat=k;have hx:2^ (ag x-1)<=x:=lw.1 ω;have hy:y<2^ (ag x-2):=by
  have h3:y<2^ag y:=bT.1 (aBh _);grind[aCf,aB4]
 have hp:2^ (ag x-1)=2^ (ag x-2)*2:=by
  rw[←aB6];grind
 have hbig:∀N,x-y<=N->4096<ag N:=fun N hN=>by
  have h5:ag x-2<ag N:=lw.2 ω;omega
 have hsum:∀n z,fj (cF n (z*2^k)) (-16384)=bu n (z*2^k) (-16384):=fun n z=>CP.symm;by_cases hs:a.neg=b.neg
 ·have hz:cF a.neg (x*2^k)+cF b.neg (y*2^k)=cF a.neg ((x+y)*2^k):=by
   rw[←hs,aBG];cases a.neg
   all_goals grind[uB,wn]
  grind[abb]
 ·have hbn:b.neg=!a.neg:=by
   grind
  have hz:cF a.neg (x*2^k)+cF b.neg (y*2^k)=cF a.neg ((x-y)*2^k):=by
   grind[Bool.not_true,uB,wn]
  rw[hz,hsum];exact abb ω (hbig _ (aBh _))
noncomputable def tu:Cmd:=.seq (.dops [2,3,4,6,9,10] [fa 65 1 2,ld 66 1 65,fa 67 2 2,ld 68 1 67,cm 69 6,b2 70 .sub 68 69,ca 71 154 [.t 66,.t 70],fa 72 1 3,ld 73 1 72,fa 74 2 3,ld 75 1 74,cm 76 6,b2 77 .sub 75 76,ca 78 154 [.t 73,.t 77],cm 9 71,cm 10 78] [(6,8),(6,10)]) (.seq (.seq (.ops [2,3,4,6,9,10,83] [fa 79 0 2,ld 80 1 79,fa 81 0 3,ld 82 1 81,co 83 (.eqc false 0 (.t 80) (.t 82))]) (.cond (.t 83) (.seq (.ops [2,4,6,11] [cm 85 9,cm 86 10,ca 87 230 [.t 85,.t 86],cm 84 87,co 88 (.ext 0 (.t 84)),co 89 (.ext 1 (.t 84)),cm 11 88,cm 12 89]) (.seq (.ops [4,5] [fa 90 0 2,ld 91 1 90,cm 92 11,cm 93 6,ca 94 113 [.t 91,.t 92,.t 93],ca 95 180 [.t 94],co 96 (.ext 0 (.t 95)),co 97 (.ext 1 (.t 95)),sr 3 (.t 4) (.t 96),cm 5 97]) (.ret))) (.skip))) (.seq (.seq (.ops [2,3,4,6,9,10,101] [cm 98 9,cm 99 10,ca 100 153 [.t 98,.t 99],co 101 (.bin .lss (.t 100) (.c (I 0)))]) (.cond (.t 101) (.ops [2,4,6,9,10] [la 102 3 3,cm 103 10,cm 104 9,sr 3 (.t 2) (.t 102),cm 9 103,cm 10 104]) (.skip))) (.seq (.ops [2,4,6,13] [cm 106 9,cm 107 10,ca 108 231 [.t 106,.t 107],cm 105 108,co 109 (.ext 0 (.t 105)),co 110 (.ext 1 (.t 105)),cm 13 109,cm 14 110]) (.seq (.ops [4,5] [fa 111 0 2,ld 112 1 111,cm 113 13,cm 114 6,ca 115 113 [.t 112,.t 113,.t 114],ca 116 180 [.t 115],co 117 (.ext 0 (.t 116)),co 118 (.ext 1 (.t 116)),sr 3 (.t 4) (.t 117),cm 5 118]) (.ret)))))
theorem vM:BD=.seq (.ops [2,3,4] [bx 2 3 (.t 0),bx 3 3 (.t 1),al 4 [B false,.emp,I 0],co 5 (.mv (.c (I 0)))]) (.seq (.seq (.ops [2,3,4,24] [fa 15 1 2,ld 16 1 15,co 17 (.len false (.t 16)),co 18 (.bin .eql (.t 17) (.c (I 0))),cm 19 18,cg 20 19 false (.fadr 1 (.t 3)),⟨(some 21),(some (19,false)),.load 1 false (.t 20)⟩,cg 22 19 false (.len false (.t 21)),cg 23 19 false (.bin .eql (.t 22) (.c (I 0))),co 24 (.pick (.t 19) (.c (B true)) (.t 23))]) (.cond (.t 24) (.seq (.seq (.ops [2,3,4,28] [fa 25 1 2,ld 26 1 25,co 27 (.len false (.t 26)),co 28 (.bin .eql (.t 27) (.c (I 0)))]) (.cond (.t 28) (.ops [2,4] [la 29 3 3,sr 3 (.t 2) (.t 29)]) (.skip))) (.seq (.ops [4,5] [fa 30 0 2,ld 31 1 30,fa 32 1 2,ld 33 1 32,fa 34 2 2,ld 35 1 34,ca 36 113 [.t 31,.t 33,.t 35],sr 3 (.t 4) (.t 36),co 5 (.mv (.c (I 0)))]) (.ret))) (.skip))) (.seq (.ops [2,3,4,6] [fa 37 2 2,ld 38 1 37,fa 39 2 3,ld 40 1 39,co 41 (.mnx true (.t 38) [.t 40]),cm 6 41]) (.seq (.dops [2,3,4,6,7,8] [la 42 3 2,ca 43 149 [.t 42],la 44 3 3,ca 45 149 [.t 44],cm 7 43,cm 8 45] [(1,2)]) (.seq (.seq (.ops [2,3,4,6,63] [cm 46 7,cm 47 8,co 48 (.mnx false (.t 46) [.t 47]),cm 49 6,b2 50 .sub 48 49,co 51 (.bin .gtr (.t 50) (.c (I 4097))),cm 52 51,cg 53 52 true (.mv (.t 7)),cg 54 52 true (.mv (.t 8)),cg 55 52 true (.bin .sub (.t 53) (.t 54)),cg 56 52 true (.bin .gtr (.t 55) (.c (I 1))),cg 57 52 true (.mv (.t 56)),cg 58 57 false (.mv (.t 8)),cg 59 57 false (.mv (.t 7)),cg 60 57 false (.bin .sub (.t 58) (.t 59)),cg 61 57 false (.bin .gtr (.t 60) (.c (I 1))),cg 62 52 true (.pick (.t 57) (.c (B true)) (.t 61)),co 63 (.pick (.t 52) (.t 62) (.c (B false)))]) (.cond (.t 63) (.seq (.ops [4,5] [co 64 (.build [B false,.emp,I 0] []),sr 3 (.t 4) (.t 64),co 5 (.mv (.c (I 9)))]) (.ret)) (.skip))) tu)))):=rfl
theorem af1{a b}(oa:Ok0 a)(ob:Ok0 b)(va:vd a=true)(vb:vd b=true)(na:a.m.length≠0)(nb:b.m.length≠0){e}(he1:-16384<=e/\e<=a.e/\e<=b.e)(hX:aW a-e<=5000)(hY:aW b-e<=5000)(s)
  (h2:s 2=ac 2) (h3:s 3=ac 3) (h4:s 4=ac 4) (h6:s 6=I e):
  lI false [[.o 0 [],.o 2 [],.o 0 []],[]] [.cell 4 3 true,.t 5] 0 (ap R (aC false) tu s (upd (upd (upd (fun _=>.dead) 2 (.bx (aj a))) 3 (.bx (aj b))) 4 (.bx [B false,.emp,I 0])))=some (rV (cS (fj (zI a+zI b) (-16384))),[]):=by
 obtain⟨a1,a2,a3,a4⟩:=fA va oa.lb;obtain⟨b1,b2,b3,b4⟩:=fA vb ob.lb;have e1:=kQ va na;have e2:=kQ vb nb;have w1:aS (a.e-e)=(((a.e-e).toNat:Nat):Int):=wi;have w2:aS (b.e-e)=(((b.e-e).toNat:Nat):Int):=wi;have z1:zI a=cF a.neg (ab a.m*2^ (a.e-e).toNat*2^ (e+16384).toNat):=by
  grind[zI,cF,mg,CF]
 have z2:zI b=cF b.neg (ab b.m*2^ (b.e-e).toNat*2^ (e+16384).toNat):=by
  rw[show zI b=cF b.neg (mg b)from rfl,CF he1.1 he1.2.2]
 have bx:ag (ab a.m*2^ (a.e-e).toNat)<=5000:=by
  grind[ed,ef]
 have by':ag (ab b.m*2^ (b.e-e).toNat)<=5000:=by
  grind[ed,ef]
 have l1:=Ey oa.lb a1 (k:=(a.e-e).toNat) ω (aBq (bk (k:=157) ω) δ);have l2:=Ey ob.lb b1 (k:=(b.e-e).toNat) ω (aBq (bk (k:=157) ω) δ);rw[z1,z2];generalize ab a.m*2^ (a.e-e).toNat=x at l1 bx⊢;generalize ab b.m*2^ (b.e-e).toNat=y at l2 by'⊢;have hsum:∀ (n:Bool) (z:Nat),bu n z e=fj (cF n (z*2^ (e+16384).toNat)) (-16384):=fun n z=>by
  rw[←CP,mJ,show-16384+((e+16384).toNat:Nat)=e by omega]
 have lx:(aA x).length<=157:=bk ω;have ly:(aA y).length<=157:=bk ω;have hq:Exq e:=⟨by omega,by omega⟩;have hcp:=BU (bJ x) (bJ y) ω ω;rw[bp,bp]at hcp;have chk:∀ (n:Bool) (z:Nat),ag z<=5001->R 113 [B n,lm (aA z),I e] []=some (ae (bu n z e),[])/\R 180 [ae (bu n z e)] []=some (rV (cS (bu n z e)),[]):=fun n z hz=>by
  have hl:(aA z).length<=157:=bk ω;have c1:=mU (neg:=n) (m:=aA z) (e:=e) (bJ z) ω hq;rw[bp]at c1;refine⟨c1,?_⟩;rw[BV (ye n z e) (aBq (wX (k:=157) ω) δ)];exact congrArg (fun v=>some (v,[])) (Ma _)
 by_cases hs:a.neg=b.neg
 ·have p1:=aaS (x:=x) (y:=y) bx by';obtain⟨c1,c2⟩:=chk a.neg (x+y) (Jg bx by');have hz:cF a.neg (x*2^ (e+16384).toNat)+cF b.neg (y*2^ (e+16384).toNat)=cF a.neg ((x+y)*2^ (e+16384).toNat):=by
   rw[←hs,aBG];cases a.neg
   all_goals grind[uB,wn]
  rw[hz,←hsum];generalize bu a.neg (x+y) e=r at c1 c2⊢;generalize cS r=q at c2⊢;obtain⟨q1,q2⟩:=q;have hs2:(a.neg==b.neg)=true:=γ
  have hs3:(false != (a.neg==b.neg))=true:=γ
  simp only[rV,ae,aj]at c1 c2;simp only[tu,rV,ae,aj,go_sem,h2,h3,h4,h6,w1,w2,l1,l2,hs3,p1,c1,c2]
 ·have hs2:(a.neg==b.neg)=false:=by
   grind
  have hs3:(false != (a.neg==b.neg))=false:=γ
  have hbn:b.neg=!a.neg:=by
   grind
  have hb1:∀u v:Nat,ag u<=5000->ag (u-v)<=5001:=fun u v hu=>AI (Nat.sub_le u v) (aBq hu δ);by_cases hlt:x<y
  ·have e5:(eE x y<0)=True:=tt (by simp_all[eE,aq]);have m1:=Mb (x:=y) (y:=x) by' bx ω;obtain⟨c1,c2⟩:=chk b.neg (y-x) (hb1 _ _ by');have hz:cF a.neg (x*2^ (e+16384).toNat)+cF b.neg (y*2^ (e+16384).toNat)=cF b.neg ((y-x)*2^ (e+16384).toNat):=by
    grind[Bool.not_true,uB,wn]
   rw[hz,←hsum];generalize bu b.neg (y-x) e=r at c1 c2⊢;generalize cS r=q at c2⊢;obtain⟨q1,q2⟩:=q;simp only[rV,ae,aj]at c1 c2;simp only[tu,rV,ae,aj,go_sem,h2,h3,h4,h6,w1,w2,l1,l2,hs3,hcp,e5,m1,c1,c2]
  ·have e5:(eE x y<0)=False:=ff (by unfold eE;omega);have m1:=Mb (x:=x) (y:=y) bx by' ω;obtain⟨c1,c2⟩:=chk a.neg (x-y) (hb1 _ _ bx);have hz:cF a.neg (x*2^ (e+16384).toNat)+cF b.neg (y*2^ (e+16384).toNat)=cF a.neg ((x-y)*2^ (e+16384).toNat):=by
    grind[Bool.not_true,uB,wn]
   rw[hz,←hsum];generalize bu a.neg (x-y) e=r at c1 c2⊢;generalize cS r=q at c2⊢;obtain⟨q1,q2⟩:=q;simp only[rV,ae,aj]at c1 c2;simp only[tu,rV,ae,aj,go_sem,h2,h3,h4,h6,w1,w2,l1,l2,hs3,hcp,e5,m1,c1,c2]
theorem abc{a b}(oa:Ok0 a)(ob:Ok0 b)(va:vd a=true)(vb:vd b=true):R 186 [ae a,ae b] []=some (rV (cS (fj (zI a+zI b) (-16384))),[]):=by
 refine az Xz rfl ?_;by_cases a0:a.m.length=0
 ·have e1:((a.m.length:Int)=0)=True:=tt;have hz:=CD va a0;obtain⟨b1,b2,b3,b4⟩:=fA vb ob.lb;have c1:=mU (neg:=b.neg) (m:=b.m) (e:=b.e) ob.lb ω ⟨by omega,by omega⟩;have hr:=Lh ob vb;have hk:cS (fj (zI a+zI b) (-16384))=(b,0):=by
   simp_all[cT,Int.zero_add,CQ,Jm]
  rw[hr]at c1;rw[hk];simp only[ae,aj]at c1;simp only[nM,BD,rV,ae,aj,go_sem,e1,c1]
 have e1:((a.m.length:Int)=0)=False:=ff;obtain⟨a1,a2,a3,a4⟩:=fA va oa.lb;by_cases b0:b.m.length=0
 ·have e2:((b.m.length:Int)=0)=True:=tt;have c1:=mU (neg:=a.neg) (m:=a.m) (e:=a.e) oa.lb ω ⟨by omega,by omega⟩;have hr:=Lh oa va;have hk:cS (fj (zI a+zI b) (-16384))=(a,0):=by
   simp_all[cT,Int.add_zero,CQ,Jm]
  rw[hr]at c1;rw[hk];simp only[ae,aj]at c1;simp only[nM,BD,rV,ae,aj,go_sem,e1,e2,c1]
 have e2:((b.m.length:Int)=0)=False:=ff;obtain⟨b1,b2,b3,b4⟩:=fA vb ob.lb;have ta:=zA oa;have tb:=zA ob;have q1:=kQ va a0;have q2:=kQ vb b0;have p1:=ju (ef va a0);have p2:=ju (ef vb b0);simp only[ae,aj]at ta tb;have g1:=fun h2 h3=>(Yi oa ob va vb a0 b0 rfl h2 h3).1;have g2:=fun h2 h3=>(Yi ob oa vb va b0 a0 rfl h2 h3).2;obtain⟨e,he⟩:∃e,(if b.e<a.e then b.e else a.e)=e:=⟨_,rfl⟩;have he2:(if a.e<b.e then a.e else b.e)=e:=by
  omega
 rw[he]at g1;rw[he2]at g2;have he1:-16384<=e/\e<=a.e/\e<=b.e:=by
  omega
 obtain⟨M,hM⟩:∃M,(if aW a<aW b then aW b else aW a)=M:=⟨_,rfl⟩;have w1:aS (M-e)=M-e:=i64_in _ ⟨by omega,by omega⟩;have w2:aS (aW a-aW b)=aW a-aW b:=i64_in _ ⟨by omega,by omega⟩;have w3:aS (aW b-aW a)=aW b-aW a:=i64_in _ ⟨by omega,by omega⟩;by_cases h1:4097<M-e
 ·have f1:=tt h1;by_cases h2:1<aW a-aW b
  ·have f2:=tt h2;rw[g1 ω h2];simp only[nM,vM,rV,aG,ae,aj,go_sem,e1,e2,he,ta,tb,hM,w1,w2,f1,f2]
  ·have f2:(1<aW a-aW b)=False:=ff h2;by_cases h3:1<aW b-aW a
   ·have f3:(1<aW b-aW a)=True:=tt h3;rw[g2 ω h3];simp only[nM,vM,rV,aG,ae,aj,go_sem,e1,e2,he,ta,tb,hM,w1,w2,w3,f1,f2,f3]
   omega
 ·have f1:(4097<M-e)=False:=ff h1;simp only[nM,vM,rV,ae,aj,go_sem,e1,e2,he,ta,tb,hM,w1,f1];exact af1 oa ob va vb a0 b0 he1 ω ω _ Z Z Z Z
theorem amb{a b}(oa:Ok0 a)(ob:Ok0 b):R 138 [ae a,ae b] []=some (rV (kR a b),[]):=by
 refine az Xs rfl ?_;have v1:=eG oa;have v2:=eG ob;simp only[ae,aj]at v1 v2;unfold kR;cases va:vd a with
 |false=>
  rw[va]at v1;simp only[uR,rV,aG,ae,aj,go_sem,v1]
 |true=>
  rw[va]at v1;cases vb:vd b with
  |false=>
   rw[vb]at v2;simp only[uR,rV,aG,ae,aj,go_sem,v1,v2]
  |true=>
   rw[vb]at v2;have hs:=abc oa ob va vb;simp only[rV,ae,aj]at hs;simp only[uR,rV,ae,aj,go_sem,v1,v2,hs]
theorem Um:∀a,rI a a=0
 |[]=>rfl
 |x::a=>by
  unfold rI;rw[aq (by unfold gy;simp),Um a]
theorem abd:∀ {a b},a.length=b.length->rI a b=0->a=b
 |[],[],_,_=>rfl
 |x::a,y::b,h,h2=>by
  unfold rI at h2;rcases si x y with⟨g,e⟩| ⟨g,e⟩| ⟨g,e⟩<;>rw[e]at h2
  ·omega
  ·rw[g,abd (by simpa using h) h2]
  omega
 |[],_::_,h,_=>by grind
 |_::_,[],h,_=>by grind
theorem Un:∀ {a b},a.length=b.length->rI b a=-rI a b
 |[],[],_=>rfl
 |x::a,y::b,h=>by
  unfold rI;rcases si x y with⟨g,e⟩| ⟨g,e⟩| ⟨g,e⟩<;>rcases si y x with⟨g',e'⟩| ⟨g',e'⟩| ⟨g',e'⟩<;>rw[e,e']<;>first|omega| (simp;done)|skip
  exact Un (by simpa using h)
 |[],_::_,h=>by grind
 |_::_,[],h=>by grind
theorem abe:∀ {a b c},a.length=b.length->b.length=c.length->(rI a b<=0->rI b c<0->rI a c<0)/\(rI a b<0->rI b c<=0->rI a c<0)
 |[],[],[],_,_=>⟨fun _ h=>by omega,fun h _=>by omega⟩
 |x::a,y::b,z::c,h,h'=>by
  have ih:=abe (a:=a) (b:=b) (c:=c) γ γ;unfold rI;rcases si x y with⟨g,e⟩| ⟨g,e⟩| ⟨g,e⟩<;>rcases si y z with⟨g',e'⟩| ⟨g',e'⟩| ⟨g',e'⟩<;>rcases si x z with⟨g2,e2⟩| ⟨g2,e2⟩| ⟨g2,e2⟩<;>rw[e,e',e2]<;>first|omega|skip
  all_goals first|exact ih|omega
 |[],[],_::_,_,h=>by grind
 |[],_::_,_,h,_=>by grind
 |_::_,[],_,h,_=>by grind
 |_::_,_::_,[],_,h=>by grind
theorem Uo(a):cW a a=0:=by
 simp_all[cW,aq,gy,Um]
theorem amc{a b}(h:a.length=b.length)(h2:cW a b=0):a=b:=by
 unfold cW at h2;rcases si (bO a) (bO b)with⟨g,e⟩| ⟨g,e⟩| ⟨g,e⟩<;>rw[e]at h2
 ·omega
 ·grind[abd]
 omega
theorem GK{a b}(h:a.length=b.length):cW b a=-cW a b:=by
 unfold cW;rcases si (bO a) (bO b)with⟨g,e⟩| ⟨g,e⟩| ⟨g,e⟩<;>rcases si (bO b) (bO a)with⟨g',e'⟩| ⟨g',e'⟩| ⟨g',e'⟩<;>rw[e,e']<;>first|omega| (simp;done)|skip
 grind[Un]
theorem SR{a b c}(h:a.length=b.length)(h':b.length=c.length):(cW a b<=0->cW b c<0->cW a c<0)/\(cW a b<0->cW b c<=0->cW a c<0):=by
 have ih:=abe (a:=c) (b:=b) (c:=a) h'.symm h.symm;unfold cW;rcases si (bO a) (bO b)with⟨g,e⟩| ⟨g,e⟩| ⟨g,e⟩<;>rcases si (bO b) (bO c)with⟨g',e'⟩| ⟨g',e'⟩| ⟨g',e'⟩<;>rcases si (bO a) (bO c)with⟨g2,e2⟩| ⟨g2,e2⟩| ⟨g2,e2⟩<;>rw[e,e',e2]<;>first|omega|skip
 all_goals first|exact⟨fun x y=>ih.2 y x,fun x y=>ih.1 y x⟩|omega
structure VT (v:Int) (t:Rt):Prop where
 c:Ok0 t.c
 len:(t.exps.length:Int)=v
 v8:v<=8
 vc:vd t.c=true
 nz:t.c.m.length≠0
 b:∀e∈t.exps,0<=e/\e<=32
 d:bO t.exps<=32
theorem VT.sm{v}{t}(h:VT v t):sm t.exps:=⟨by have:=h.len;have:=h.v8;omega,h.b⟩
theorem VT.ok{v}{t}(h:VT v t):OkT t:=⟨h.c,by have:=h.len;have:=h.v8;omega⟩
theorem VT.l2{v}{t q}(h:VT v t)(h2:VT v q):t.exps.length=q.exps.length:=by have:=h.len;have:=h2.len;omega
structure Cl (v:Int) (l:List Rt):Prop where
 t:∀t∈l,VT v t
 s:l.Pairwise fun a b=>cW a.exps b.exps<0
theorem Cl.nil(v):Cl v []:=⟨(fun _ h=>nomatch h),List.Pairwise.nil⟩
theorem Cl.cons{v}{q}{l}(h:Cl v (q::l)):VT v q/\(∀t∈l,cW q.exps t.exps<0)/\Cl v l:=
 ⟨h.t q σ,(List.pairwise_cons.1 h.s).1,fun t ht=>h.t t γ,(List.pairwise_cons.1 h.s).2⟩
theorem Cl.mk'{v}{q}{l}(h1:VT v q)(h2:∀t∈l,cW q.exps t.exps<0)(h3:Cl v l):Cl v (q::l):=
 ⟨fun t ht=>(List.mem_cons.1 ht).elim (fun e=>e▸h1) (h3.t t),List.pairwise_cons.2 ⟨h2,h3.s⟩⟩
theorem af2{v}(hv:v<=8):∀l pr,(∀t∈l,OkT t)->DH v pr l=true->Cl v l/\∀q,pr=some q->q.exps.length=v->∀t∈l,cW q.exps t.exps<0
 |[],pr,_,_=>⟨Cl.nil v,fun _ _ _ t ht=>by grind⟩
 |t::l,pr,ok,h=>by
  unfold DH at h;simp only[aBk]at h;obtain⟨h1,h2,h3⟩:=h;obtain⟨g1,g2⟩:=af2 hv l (some t) (fun x hx=>ok x γ) h3;obtain⟨k1,k2,k3,k4,k5⟩:=FM h1;have vt:VT v t:=⟨(ok t σ).c,k1,hv,k2,k3,CO k4,k5⟩;have gt:=g2 t rfl k1;refine⟨Cl.mk' vt gt g1,fun q hq hl x hx=>?_⟩;subst hq;have h4:=of_decide_eq_true h2;rcases List.mem_cons.1 hx with rfl|hx
  ·omega
  ·exact(SR ω (vt.l2 (g1.t x hx))).1 ω (gt x hx)
theorem gj{a}(oa:OkP a)(h:vp a=true):Cl a.vars a.terms/\0<=a.vars/\a.vars<=8/\a.terms.length<=500:=by
 unfold vp at h;simp only[aBk,decide_eq_true_eq]at h;exact⟨(af2 h.2.1 _ none oa.t h.2.2.2).1,h.1,h.2.1,h.2.2.1⟩
theorem af3{v}:∀l pr,Cl v l->(∀q,pr=some q->∀t∈l,cW q.exps t.exps<0)->DH v pr l=true
 |[],pr,_,_=>by grind[DH]
 |t::l,pr,c,h=>by
  obtain⟨c1,c2,c3⟩:=c.cons;unfold DH;simp only[aBk];refine⟨?_,?_,af3 l (some t) c3 fun q hq=>by grind⟩
  ·unfold Qy;simp only[aBk,decide_eq_true_eq];refine⟨c1.len,c1.vc,c1.nz,?_,c1.d⟩;rw[aCi,List.any_eq_false];intro e he;have:=c1.b e he;grind[FL]
  ·unfold adS;grind
theorem B0{v}{l}(h:Cl v l)(h0:0<=v)(h8:v<=8)(hl:l.length<=500):vp ⟨v,l⟩=true:=by
 simp_all[vp,aBk,decide_eq_true_eq,af3]
theorem kS{v}{l}(h:Cl v l):OkP ⟨v,l⟩:=⟨fun t ht=>(h.t t ht).ok⟩
def dh:List Rt->List Int->Nat
 |[],_=>0
 |q::l,x=>if cW q.exps x<0 then dh l x+1 else 0
def mB:List Rt->Rt->Option (List Rt)
 |[],t=>some [t]
 |q::l,t=>if cW q.exps t.exps<0 then(mB l t).map (q::·)else if cW q.exps t.exps=0 then(if(kR q.c t.c).2=0 then some (if(kR q.c t.c).1.m.length=0 then l else⟨q.exps,(kR q.c t.c).1⟩::l)else none)else some (t::q::l)
theorem ST:∀l x,dh l x<=l.length
 |[],x=>aBh _
 |q::l,x=>by
  unfold dh;split
  all_goals simp_all[Nat.succ_le_succ,ST,aBB]
theorem abf:∀ {l} {x} {i} {q},i<dh l x->l[i]?=some q->cW q.exps x<0
 |[],x,i,q,h,_=>by grind
 |p::l,x,i,q,h,hq=>by
  unfold dh at h;split at h
  ·cases i with
   |zero=>grind
   |succ i=>exact abf (l:=l) (i:=i) ω γ
  omega
theorem SU:∀ {l} {x} {q},l[dh l x]?=some q->0<=cW q.exps x
 |[],x,q,h=>by grind
 |p::l,x,q,h=>by
  unfold dh at h;split at h
  ·exact SU (l:=l) γ
  grind
theorem amd{v}{l}{x}(c:Cl v l)(hx:x.length=v){i}{q}(hi:dh l x<i)(h:l[i]?=some q):0<cW q.exps x:=by
 have hlt:=(List.getElem?_eq_some_iff.1 h).1;have h1:l[dh l x]?=some l[dh l x]:=aBp ω;have h2:=SU h1;have h3:=(List.getElem?_eq_some_iff.1 h).2;have h4:cW (l[dh l x]).exps q.exps<0:=by
  rw[←h3];exact List.pairwise_iff_getElem.1 c.s _ _ ω hlt hi
 have v1:=c.t _ (aBT (by omega:dh l x<l.length));have v2:=c.t q (aBs h);generalize l[dh l x]=p at*
 have l1:x.length=p.exps.length:=by have:=v1.len;omega
 have h5:=(SR l1 (v1.l2 v2)).1 (by grind[GK]) h4;rw[GK (by have:=v2.len;omega)];omega
theorem abg:∀l t,mB l t=match l[dh l t.exps]? with
  |none=>some (l.take (dh l t.exps)++t::l.drop (dh l t.exps))
  |some q=>if cW q.exps t.exps=0 then(if(kR q.c t.c).2=0 then some (if(kR q.c t.c).1.m.length=0 then l.take (dh l t.exps)++l.drop (dh l t.exps+1)else l.set (dh l t.exps) ⟨q.exps,(kR q.c t.c).1⟩)else none)else some (l.take (dh l t.exps)++t::l.drop (dh l t.exps))
 |[],t=>rfl
 |q::l,t=>by
  unfold mB dh;by_cases h:cW q.exps t.exps<0
  ·simp only[aq h,List.getElem?_cons_succ];rw[abg l t];cases l[dh l t.exps]? with
   |none=>rfl
   |some p=>
    simp only[];split
    ·split
     ·split<;>rfl
     ·rfl
    ·rfl
  grind
theorem Mj{v}:∀ {l l'} {t},Cl v l->VT v t->mB l t=some l'->Cl v l'/\∀q,q.length=v->(∀x∈l,cW q x.exps<0)->cW q t.exps<0->∀x∈l',cW q x.exps<0
 |[],l',t,c,vt,h=>by
  cases h;grind[Cl.mk']
 |p::l,l',t,c,vt,h=>by
  obtain⟨c1,c2,c3⟩:=c.cons;unfold mB at h;split at h
  ·rename_i h1;rw[aBj]at h;obtain⟨l2,h2,rfl⟩:=h;obtain⟨g1,g2⟩:=Mj c3 vt h2;refine⟨Cl.mk' c1 (g2 p.exps c1.len c2 h1) g1,fun q hq k1 k2 x hx=>?_⟩;grind
  ·split at h
   ·split at h
    ·cases h;split
     ·grind
     ·rename_i h4;obtain⟨a1,a2⟩:=al5 p.c t.c;refine⟨Cl.mk' ⟨a2,c1.len,c1.v8,a1,h4,c1.b,c1.d⟩ c2 c3,fun q hq k1 k2 x hx=>?_⟩;grind
    grind
   ·cases h;have h3:cW t.exps p.exps<0:=by
     rw[GK (c1.l2 vt)];omega
    refine⟨Cl.mk' vt (fun x hx=>?_) c,fun q hq k1 k2 x hx=>?_⟩
    ·rcases List.mem_cons.1 hx with rfl|hx
     ·omega
     ·exact(SR (vt.l2 c1) (c1.l2 (c3.t x hx))).1 ω (c2 x hx)
    grind
theorem OP:∀ {l l'} {t},mB l t=some l'->l'.length<=l.length+1
 |[],l',t,h=>by cases h;simp
 |p::l,l',t,h=>by
  unfold mB at h;split at h
  ·rw[aBj]at h;obtain⟨l2,h2,rfl⟩:=h;simpa using OP h2
  grind
theorem Yj:∀ {l} {t},(∀q∈l,cW q.exps t.exps<0)->mB l t=some (l++[t])
 |[],t,_=>rfl
 |p::l,t,h=>by
  unfold mB;rw[aq (h p σ),Yj fun q hq=>h q (by simp[hq])];rfl
def kT:List Rt->List Rt->Option (List Rt)
 |l,[]=>some l
 |l,t::ts=>(mB l t).bind fun l'=>kT l' ts
theorem Yk:∀ts us l,kT l (ts++us)=(kT l ts).bind fun l'=>kT l' us
 |[],us,l=>rfl
 |t::ts,us,l=>by
  show(mB l t).bind _=((mB l t).bind _).bind _;cases mB l t with
  |none=>rfl
  |some l'=>exact Yk ts us l'
theorem AM{v}:∀ {ts l l'},Cl v l->(∀t∈ts,VT v t)->kT l ts=some l'->Cl v l'/\l'.length<=l.length+ts.length
 |[],l,l',c,_,h=>by cases h;grind
 |t::ts,l,l',c,vt,h=>by
  unfold kT at h;rw[aBf]at h;obtain⟨l2,h2,h3⟩:=h;obtain⟨g1,g2⟩:=AM (Mj c (vt t σ) h2).1 (fun x hx=>vt x γ) h3;have:=OP h2;grind
section
variable {call:jJ} {md:Mode} {s:aN} {h:ah}
theorem ayQ(d k x y rest):aJ call md (⟨some d,none,.cpy k x y⟩::rest) s h=bA (dT md.nm s (some d) (Ru h k (ev s x) (ev s y))) (aJ call md rest):=θ _
theorem awb(d k x lo hi rest):aJ call md (⟨some d,none,.slcM k x lo hi⟩::rest) s h=bA (dT md.nm s (some d) (LR h k (ev s x) (evo s lo) (evo s hi))) (aJ call md rest):=θ _
theorem ayR(d k z x rest):aJ call md (⟨d,none,.clr k z x⟩::rest) s h=bA (dT md.nm s d (Rw h k z (ev s x))) (aJ call md rest):=θ _
theorem awc(d k b z x n rest):aJ call md (⟨some d,none,.appz k b z x n⟩::rest) s h=bA (dT md.nm s (some d) (Gh h d k b z (ev s x) (ev s n))) (aJ call md rest):=θ _
theorem awd(d x rest):aJ call md (⟨some d,none,.take x⟩::rest) s h=bA (dT md.nm s (some d) (Pe h d (ev s x))) (aJ call md rest):=θ _
theorem auh(d f zas rest):aJ call md (⟨some d,none,.callC f zas⟩::rest) s h=bA (dT md.nm s (some d) ((bB call md h d (zas.map (ev s)) (ev s f)).bind (A9 d))) (aJ call md rest):=θ _
theorem asa(d k z n ps rest):aJ call md (⟨some d,none,.buildC k z n ps⟩::rest) s h=bA (dT md.nm s (some d) (((fP k h (aBg n z) (ps.map fun p=>(p.1,ev s p.2))).bind fun q=>dw q.2.1 d k q.1 n q.2.2).bind Gj)) (aJ call md rest):=θ _
theorem aq5(d k z n ps):step call md d (.buildC k z n ps) s h=((fP k h (aBg n z) (ps.map fun p=>(p.1,ev s p.2))).bind fun q=>dw q.2.1 d k q.1 n q.2.2).bind Gj:=θ _
theorem aq6(ps acc d k z n qs rest):dy call md ps acc (⟨some d,none,.buildC k z n qs⟩::rest) s h=kf call md ps acc rest s (some d) (fun _=>if(qs.all fun p=>dat (ev s p.2))=true then some ([],[di d])else none) (((fP k h (aBg n z) (qs.map fun p=>(p.1,ev s p.2))).bind fun q=>dw q.2.1 d k q.1 n q.2.2).bind Gj):=fG _ _ _ _ rfl
theorem aui(d k z n qs h'):iv d (.buildC k z n qs) s h h'=if(qs.all fun p=>dat (ev s p.2))=true then some ([],[di d])else none:=θ _
theorem auj(id k lo n h ks):Gj (.rsl id none k lo n,h,ks)=(pG h id k lo n (h id)).map (fun q=>(q.1,q.2.1,ks++q.2.2)):=θ _
theorem awe(ps acc d k x y rest):dy call md ps acc (⟨some d,none,.cpy k x y⟩::rest) s h=kf call md ps acc rest s (some d) (fun _=>none) (Ru h k (ev s x) (ev s y)):=fG _ _ _ _ rfl
theorem awf(ps acc d k b x y rest):dy call md ps acc (⟨some d,none,.app k b x y⟩::rest) s h=kf call md ps acc rest s (some d) (fun _=>none) (NJ h d k b (ev s x) (ev s y)):=fG _ _ _ _ rfl
theorem asb(ps acc d f zas rest):dy call md ps acc (⟨some d,none,.callC f zas⟩::rest) s h=kf call md ps acc rest s (some d) (fun _=>Kj d h (qI (zas.map (ev s)) (ev s f))) ((bB call md h d (zas.map (ev s)) (ev s f)).bind (A9 d)):=fG _ _ _ _ rfl
theorem auk(d h l):Kj d h l=if l.all dat=true then some ([],[2000+8*d])else none:=θ _
theorem ayS(d k r h ks):A9 d (.sl k r,h,ks)=some (.sl k r,h,ks):=θ _
theorem awg(d h ks):A9 d (.emp,h,ks)=some (.emp,h,ks):=θ _
theorem awh(d id k lo n h ks):A9 d (.rsl id none k lo n,h,ks)=if id=2000+8*d then(pG h id k lo n (h id)).map (fun q=>(q.1,q.2.1,ks++q.2.2))else none:=θ _
theorem ayT(h k id k' lo n y):Ru h k (.rsl id none k' lo n) y=(V7 y).bind fun l=>(xu h k (V6 n y)).bind fun ys=>V8 h id k k' lo n l ys (h id):=θ _
theorem ayU(k r):V7 (.sl k r)=some r.length:=θ _
theorem awi(id sub k lo n):V7 (.rsl id sub k lo n)=some n:=θ _
theorem ayV(m k r):V6 m (.sl k r)=.sl k (r.take m):=θ _
theorem awj(m id sub k lo n):V6 m (.rsl id sub k lo n)=.rsl id sub k lo (min m n):=θ _
theorem ayW(h id k lo n l ys r):V8 h id k k lo n l ys (.ar k r)=if lo<=r.length/\ys.length=min l n then some (.v (.int .i64 ys.length),upd h id (.ar k (r.take lo++ys++r.drop (lo+ys.length))),[])else none:=by simp[V8]
theorem awk(h k id l0 n lo hi):LR h k (.rsl id none k l0 n) lo hi=Pc h k id l0 lo hi (h id):=by simp[LR]
theorem awl(h k id l0 lo hi r):Pc h k id l0 lo hi (.ar k r)=if hi.isSome=true/\l0<=r.length then(me (r.length-l0) lo hi none).map fun p=>(.rsl id none k (l0+p.1) (p.2-p.1),h,[])else none:=by simp[Pc]
theorem ayX(h k z id lo n):Rw h k z (.rsl id none k lo n)=V9 h k id lo n z (h id):=by simp[Rw]
theorem ayY(h k id lo n z r):V9 h k id lo n z (.ar k r)=if lo+n<=r.length then some (.tup [],upd h id (.ar k (r.take lo++aBg n z++r.drop (lo+n))),[])else none:=by simp[V9]
theorem awm(h d k b z id i c m):Gh h d k b z (.rsc id k 0 i c) (.v (.int .i64 m))=if 0<m/\c<i+m.toNat then Pd h d k b id i m.toNat z (h id)else none:=by simp[Gh]
theorem awn(h d k b id i m z r):Pd h d k b id i m z (.ar k r)=if i<=r.length/\(i+m)*b<=140737488355328 then dw h d k (r.take i++aBg m z) (i+m) []else none:=by simp[Pd]
theorem ayZ(id k lo n c):sj false (.rsc id k lo n c)=some (I n):=θ _
theorem ay0(id k lo n c):Rl (.rsc id k lo n c)=some (I c):=θ _
theorem ay1(k id l0 n c lo hi mx):fm k (.rsc id k l0 n c) lo hi mx=V0 k id l0 n c lo hi mx:=by simp[fm]
theorem ay2(k id l0 n c x):V0 k id l0 n c none (some x) none=(lQ n c (some x)).map fun r=>.rsc id k l0 r c:=θ _
theorem ay3(k id l0 n c x hi):V0 k id l0 n c (some x) hi none=(me n (some x) hi none).map fun p=>.rsl id none k (l0+p.1) (p.2-p.1):=θ _
theorem ay4(ks id k lo n c):vP ks (.rsc id k lo n c)=if kl ks id none=true then .any else .rsc id k lo n c:=θ _
theorem awo(h d id k i j):Pe h d (.ref id none k i j)=VB h d id (i*k+j) (h id):=θ _
theorem awp(h d id p cs):VB h d id p (.bx cs)=LS h d id p cs cs[p]?:=θ _
theorem aul(h d id p cs k r):LS h d id p cs (some (.osl k r))=dw (upd h id (.bx (cs.set p .any))) d k r r.length [(id,true)]:=θ _
theorem aum(h d id p cs):LS h d id p cs (some .emp)=some (.emp,h,[]):=θ _
theorem awq(nm)(s h):Cj nm [] s h=some ⟨s,h⟩:=θ _
theorem aun(nm)(i l s h):Cj nm (i::l) s h=if 200000<=i then(Rz (i-200000) s h (s (i-200000))).bind (fun r=>if tT nm r.2.2 then Cj nm l r.1 r.2.1 else none)else if 100000<=i then Cj nm l s (Iq h (s (i-100000)))else(Ry i s h (s i)).bind fun r=>if tT nm r.2.2 then Cj nm l r.1 r.2.1 else none:=θ _
theorem asc(ks):tT false ks=true:=θ _
theorem ay5(i s h id k lo n):Rz i s h (.rsl id none k lo n)=Kk i s h id k lo n (h id):=θ _
theorem ay6(i s h id k lo n c):Rz i s h (.rsc id k lo n c)=Kk i s h id k lo n (h id):=θ _
theorem ay7(i s h id k lo n r):Kk i s h id k lo n (.ar k r)=if lo=0/\bt i=false/\bX (h i)=true then some (upd (mf [(id,false)] s) i (.rsl i none k 0 n),upd (upd h id .dead) i (.ar k r),[(id,false)])else none:=by simp[Kk]
theorem awr(h id k lo n):Iq h (.rsl id none k lo n)=(match h id with| .ar k rows=>upd h id (.ar k (rows.take (lo+n)))|_=>h):=θ _
theorem ay8(nm)(s h):vR nm 0 s h=some ⟨s,h⟩:=θ _
theorem ay9(nm)(i s h):vR nm (i+1) s h=(TJ i s h (s i)).bind fun r=>if tT nm r.2.2 then some ⟨r.1,r.2.1⟩else none:=θ _
theorem aza(i s h):TJ i s h .emp=some (s,h,[]):=θ _
theorem azb(i s h id p k lo n):TJ i s h (.rsl id (some p) k lo n)=if bt i=false then ghO i s h id p k lo n (h id)else none:=θ _
theorem aAx(i s h id p k lo n cs):ghO i s h id p k lo n (.bx cs)=Pj i s h id p k lo n cs cs[p]?:=θ _
theorem azc(i s h id p k lo n cs r):Pj i s h id p k lo n cs (some (.osl k r))=if lo=0/\n=r.length/\bX (h i)=true then some (upd (mf [(id,true)] s) i (.rsl i none k 0 n),upd (upd h id (.bx (cs.set p .any))) i (.ar k r),[(id,true)])else none:=by simp[Pj]
theorem azd(m g ps l):aiw call md m g ps l s h=bA (dy call md ps [] (l.take m) s h) fun s h=>bA (vR md.nm g s h) (aJ call md (l.drop m)):=θ _
attribute [go_sem] ayQ awb ayR awc awd auh asa aq5 aq6 aui auj awe awf asb auk ayS awg awh ayT ayU awi ayV awj ayW awk awl ayX ayY awm awn ayZ ay0 ay1 ay2 ay3 ay4 awo awp aul aum awq aun asc ay5 ay6 ay7 awr ay8 ay9 aza azb aAx azc azd
end
theorem abh{t}{x}(ht:sm t.exps)(hx:sm x)(hl:t.exps.length=x.length):R 135 [.agg (dB t),.sl 1 (aZ x)] []=some (I (cW t.exps x),[]):=by
 refine az Hg rfl ?_;have ho:=Ya ht hx hl;simp only[qy,dB,go_sem,ho]
theorem ame{v}{l}{x}(c:Cl v l)(hx:sm x)(hl:x.length=v)(h2:l.length<=1000000):∀k i j,j-i<=k->i<=dh l x->dh l x<=j->j<=l.length->∀s h,s 0=.sl 4 (aT l)->s 1=.sl 1 (aZ x)->s 2=.fn 135 [] []->s 8=I l.length->s 9=I i->s 10=I j->
  ao 0 [0,1,2,8,9] (aD (ap R (aC false) bZ) [0,1,2,8,9,10] [] s h)=some (.normal,⟨upd (upd (upd (upd (upd cr 9 (I (dh l x))) 8 (I l.length)) 2 (.fn 135 [] [])) 1 (.sl 1 (aZ x))) 0 (.sl 4 (aT l)),fun _=>.dead⟩):=by
 intro k;induction k with
 |zero=>
  intro i j hk hi hj hn s h h0 h1 h2' h8 h9 h10;have e1:(i< (j:Int))=False:=ff;obtain rfl:i=dh l x:=ω
  rw[ai];simp only[bZ,go_sem,h0,h1,h2',h8,h9,h10,e1]
 |succ k ih=>
  intro i j hk hi hj hn s h h0 h1 h2' h8 h9 h10;by_cases hij:i<j
  ·have e1:(i< (j:Int))=True:=tt;have e2:aS (i+j)=(i+j:Nat):=wi;have hlt:(i+j)/2<l.length:=ω
   have g1:IntKind.u64.wrap ((i+j:Nat))=((i+j:Nat):Int):=ip rfl ω;have g2:((1:Int)<0)=False:=ff δ;have g3:Int.fdiv ((i+j:Nat):Int) (2^ (min (Int.toNat 1) 64))=(((i+j)/2:Nat):Int):=by
    grind
   have g4:aS (((i+j)/2:Nat):Int)=(((i+j)/2:Nat):Int):=wi;have e3:=my rfl (aBp hlt);have q:=c.t _ (aBT hlt);have hc:=abh q.sm hx (by have:=q.len;omega);have p1:cW (l[(i+j)/2]).exps x<0->(i+j)/2<dh l x:=fun ho=>by
    rcases Nat.lt_trichotomy ((i+j)/2) (dh l x)with h|h|h
    ·omega
    ·have:=SU (l:=l) (x:=x) (q:=l[(i+j)/2]) γ;omega
    ·have:=amd c hl h (aBp hlt);omega
   have p2:¬cW (l[(i+j)/2]).exps x<0->dh l x<=(i+j)/2:=fun ho=>by
    grind[absurd,abf]
   have i1:=ih ((i+j)/2+1) j ω;have i2:=ih i ((i+j)/2) ω hi;generalize l[(i+j)/2]=t at e3 q hc p1 p2;rw[ai];generalize aD _ _ _=L at i1 i2⊢;simp only[dB]at hc e3;by_cases ho:cW t.exps x<0
   ·have e4:=tt ho;have e5:aS ((((i+j)/2:Nat):Int)+1)=(((i+j)/2+1:Nat):Int):=wi;have:=p1 ho;simp only[bZ,go_sem,h0,h1,h2',h8,h9,h10,e1,e2,g1,g2,g3,g4,e3,hc,e4,e5];exact i1 ω hj hn _ _ Z Z Z Z Z Z
   ·have e4:=ff ho;have:=p2 ho;simp only[bZ,go_sem,h0,h1,h2',h8,h9,h10,e1,e2,g1,g2,g3,g4,e3,hc,e4];exact i2 this ω _ _ Z Z Z Z Z Z
  grind
def Li(l:List Rt)(x:List Int):Bool:=match l[dh l x]? with
 |some q=>decide (cW q.exps x=0)
 |none=>false
theorem adY{v}{l}{x}(c:Cl v l)(hx:sm x)(hl:x.length=v)(h2:l.length<=1000000):R 134 [.sl 4 (aT l),.sl 1 (aZ x),.fn 135 [] []] []=some (.tup [I (dh l x),B (Li l x)],[]):=by
 refine XK pC pB (gw false) rfl ?_;have h3:=ame c hx hl h2 l.length 0 l.length ω (aBB _) (ST l x) (aBh _);simp only[dL,ij,go_sem];rw[h3 _ _ Z Z Z Z Z Z];unfold Li;cases hq:l[dh l x]? with
 |none=>
  have:=List.getElem?_eq_none_iff.1 hq;have e1:((dh l x)< (l.length:Int))=False:=ff;simp only[go_sem,e1]
 |some q=>
  have hlt:=(List.getElem?_eq_some_iff.1 hq).1;have e1:((dh l x)< (l.length:Int))=True:=tt;have vq:=c.t q (aBs hq);have hc:=abh vq.sm hx (by have:=vq.len;omega);have e3:=my rfl hq;simp only[dB]at hc e3;by_cases ho:cW q.exps x=0
  ·have e4:=tt ho;simp only[go_sem,e1,e3,hc,e4,decide_true]
  ·have e4:=ff ho;simp only[go_sem,e1,e3,hc,e4,decide_false]
theorem Up{d}(hn:d.m.length≠0)(h1:d.m.length<=100000):R 137 [ae d] []=some (ae d,[]):=by
 refine az Vj rfl ?_;have hc:=Jd (m:=d.m) (fun h=>hn γ) h1;simp only[Cu,ae,aj,go_sem,hc]
theorem abi{h}{d id p n}{cs}{rows}{x}(hh:h id=.bx cs)(hp:cs[p]?=some (.osl 4 rows))(hn:n=rows.length)(hx:∃r,x=.sl 1 r):
  bB R (aC false) h d [.rsl id (some p) 4 0 n,x,.fn 135 [] []] (.fn 134 [] [])=(R 134 (bv [[.o 5 [.o 2 [],.o 0 [],.o 2 [],.o 0 []]],[.o 2 []],[]] [.sl 4 rows,x,.fn 135 [] []]) []).bind (Wa h):=by
 obtain⟨r,rfl⟩:=hx;unfold bB
 simp_all[aq,kC,io,Pf,Pg,Rx,acq,A6,mh,zQ,jZ,aBw,aBz,gY]
theorem Yl(o):au [o]=upd (fun _=>.dead) 1000 o:=by
 unfold au upd;grind
theorem rh{f}{fd}{args}{o}{r}(hE:cQ.E f=none)(hC:cQ.C f=some fd)(hk:cQ.md.keep f=false)(h1:args.length=fd.np)
  (hz:lI false fd.rs fd.res 1 (ap R (aC false) fd.body (vH args) (upd (fun _=>.dead) 1000 o))=some r):R f args [o]=some r:=by
 grind[KV,Yl]
theorem VO{f}{g}{args}{hs}(hE:cQ.E f=some g):R f args hs=g args hs:=Fb hE
theorem Uq:R 132 [.sl 1 []] []=some (.sl 1 [],[]):=by
 rw[VO (g:=clF) κ];rfl
theorem Ur{x}{l}(h:l.length<=1000000):R 132 [.sl 1 (aZ (x::l))] []=some (.osl 1 (aZ (x::l)),[]):=by
 rw[VO (g:=clF) κ];show(if(((aZ l).length+1)*8<=140737488355328)then _ else _)=_;rw[aq (by grind[EJ])];rfl
def oB(c:AV)(l:List Rt):Prop:=c=.osl 4 (aT l)\/(c=.emp/\l=[])
def t3(v:Int)(c:AV)(e:Int):Ob:=.bx [I v,c,I e]
theorem H5{h}{v e}{c}{l}(hc:oB c l)(hh:h 1000=t3 v c e):vG [] 1 h []=some (.tup [],[t3 v c e]):=by
 have hp:dx 1=[1000]:=rfl;have h2:aE [1000] (t3 v c e)=true:=by
  rcases hc with rfl| ⟨rfl,_⟩<;>rfl
 grind[vG,lR,vT,xw,bv]
theorem Ym{v e}{c x}{d}{l}(hc:oB c l)(he:e≠0):R 80 [ac 1000,x,ae d] [t3 v c e]=some (.tup [],[t3 v c e]):=by
 refine rh aV.2.1 aV.2.2 (aV.1.2.2.2 false) rfl ?_;have e1:=ff he;simp only[ig,t3,ae,aj,go_sem,e1];exact H5 hc rfl
theorem Mk(h)(i)(b):Wa h (.tup [I i,B b],[])=some (.tup [I i,B b],h,[]):=rfl
theorem yk{h}{id p id2 k n}{rows}{cs}(h1:h id2=.ar k rows)(hn:n=rows.length)(h2:h id=.bx cs)(hne:id≠id2)(hp:p<cs.length):
  uF h id p 1 [.rsl id2 none k 0 n]=some (upd (upd h id2 .dead) id (.bx (cs.set p (.osl k rows))),(id2,false)::(if cs[p]?.any bH then [(id,true)]else [])):=by
 simp_all[upd,ax,uF,JK,TI,NG,Ei]
theorem ao4{l}{t}{n i}(hn:n=l.length)(hi:i<=n)(h2:n<=1000000):R 136 [.rsl 1000 none 4 0 n,I i,.sl 4 [dB t]] [.ar 4 (aT l)]=some (.osl 4 (aT (l.take i++t::l.drop i)),[.dead]):=by
 rw[VO (g:=Xe 4 64) κ];show(if 4=4/\4=4/\4=4/\n=(aT l).length/\0<=(i:Int)/\i<=(n:Int)/\(n+1)*64<=140737488355328 then some (AV.osl 4 ((aT l).take (i:Int).toNat++dB t::(aT l).drop (i:Int).toNat),[Ob.dead])else none)=_;rw[aq ⟨rfl,rfl,rfl,by rw[tq,hn],by omega,by omega,by omega⟩,aBr];simp[aT,List.map_take,List.map_drop]
theorem amf{t}:R 136 [.emp,I 0,.sl 4 [dB t]] []=some (.osl 4 (aT [t]),[]):=by
 rw[VO (g:=Xe 4 64) κ];rfl
theorem af4(t):nrmV [.o 5 [.o 2 [],.o 0 [],.o 2 [],.o 0 []]] (.sl 4 [dB t])=.sl 4 [dB t]:=by
 have:=H2 [t];simp only[aT,aBM,aBX]at this;simp only[nrmV,List.headD_cons,nrmL,aBM,aBX,this]
theorem ajd{l}{t}{h}{d a b n i}(ha:h a=.ar 4 (aT l))(hb:h b=.ar 4 [dB t])(hab:a≠b)(_hda:2000+8*d≠a)(hdb:2000+8*d≠b)(hd:h (2000+8*d)=.dead)(hn:n=l.length)(hi:i<=n)(h2:n<=1000000):
  bB R (aC false) h d [.rsl a none 4 0 n,.v (.int .i64 i),.rsl b none 4 0 1] (.fn 136 [] [])=
   some (.rsl (2000+8*d) none 4 0 (l.length+1),upd (upd (upd h b (.fz 4 [dB t])) a .dead) (2000+8*d) (.ar 4 (aT (l.take i++t::l.drop i))),[(a,true),(a,false)]):=by
 have hm:=og false;have hs:=nv false;have hk:=mD false;have hf:=ao4 (t:=t) hn hi h2;have hb':kC (aC false) [.rsl a none 4 0 n,.v (.int .i64 i),.rsl b none 4 0 1] (.fn 136 [] [])=false:=by
  grind[kC]
 have h1:ce h [2,0,0] [.rsl a none 4 0 n,.v (.int .i64 i),.rsl b none 4 0 1]=some ([.rsl a none 4 0 n,.v (.int .i64 i),.sl 4 [dB t]],upd h b (.fz 4 [dB t]),[]):=by
  simp_all[ce,dV,yq,gZ,aH,ah5,pG,rz]
 have g1:upd h b (.fz 4 [dB t]) a=.ar 4 (aT l):=by
  simp_all[upd,ax]
 have g2:upd h b (.fz 4 [dB t]) (2000+8*d)=.dead:=by
  simp_all[upd,ax]
 have hr:bU (upd h b (.fz 4 [dB t])) 40 [a] 0=[a]:=by
  grind[bU,lH,bC]
 have hp:bC [] ([AV.rsl a none 4 0 n,.v (.int .i64 i),.sl 4 [dB t]].flatMap cH)=[a]:=by
  simp[cH,gN,bC]
 have h3:bg [a] a=1000:=by simp[bg]
 have hnr:cM (.osl 4 (aT (l.take i++t::l.drop i)))=1:=rfl;have hlen:(aT (l.take i++t::l.drop i)).length=l.length+1:=by
  grind[tq,List.length_append,aBN,aB0,List.length_drop]
 have hnm:bv [[],[],[.o 5 [.o 2 [],.o 0 [],.o 2 [],.o 0 []]]] [.rsl a none 4 0 n,.v (.int .i64 i),.sl 4 [dB t]]=[.rsl a none 4 0 n,.v (.int .i64 i),.sl 4 [dB t]]:=by
  simp only[bv,af4];rfl
 unfold bB;simp only[dZ,hm,aBw,aBz,h1,aBl,hp,hr,hs,hnm];simp[ke,be,bw,g1,aE,bX,dS,ko,h3,dY,hf,eJ,hnr,cj,g2,cY,bf,mG,A7,tQ,gN,ku,gr,Gi,eB,mat,ez,gD,hk,G1,hm,hlen]
 simp_all[dJ,ax,Hv]
theorem aje{h}{d}{r}{i}{b}(hR:R 134 [.sl 4 [],nrmV [.o 2 []] (.sl 1 r),.fn 135 [] []] []=some (.tup [I i,B b],[]))(h0:h (2000+8*d)=.dead)(h1:h (2000+8*d+1)=.dead):
  bB R (aC false) h d [.emp,.sl 1 r,.fn 135 [] []] (.fn 134 [] [])=some (.tup [I i,B b],h,[]):=by
 have hm:=io false;have hs:=gY false;have hk:=gw false;have hb':kC (aC false) [.emp,.sl 1 r,.fn 135 [] []] (.fn 134 [] [])=false:=by
  grind[kC,Pf]
 have h3:ce h [3,0,0] [.emp,.sl 1 r,.fn 135 [] []]=some ([.emp,.sl 1 r,.fn 135 [] []],h,[]):=by
  simp[ce,dV,yq,gZ,aH]
 have hp:bC [] ([AV.emp,.sl 1 r,.fn 135 [] []].flatMap cH)=[]:=by
  simp[cH,gN,bC]
 have hnm:bv [[.o 5 [.o 2 [],.o 0 [],.o 2 [],.o 0 []]],[.o 2 []],[]] [.emp,.sl 1 r,.fn 135 [] []]=[.sl 4 [],nrmV [.o 2 []] (.sl 1 r),.fn 135 [] []]:=by
  rfl
 obtain⟨q,hq⟩:∃q,nrmV [.o 2 []] (.sl 1 r)=.sl 1 q:=⟨_,rfl⟩;rw[hq]at hR hnm;have hr:∀n,bU h n [] 0=[]:=fun n=>by cases n<;>rfl
 unfold bB;rw[ax γ];simp only[dZ,aBw,aBz,aBl, *];simp[ke,be,bw,dS,ko,eJ,cM,cj,bX,cY,mG,A7,tQ,ku,gr,Gi,eB,mat,dp,ez,gD,G1, *]
theorem af5{t}{h}{d b}(hb:h b=.ar 4 [dB t])(hdb:2000+8*d≠b)(hd:h (2000+8*d)=.dead):
  bB R (aC false) h d [.emp,I 0,.rsl b none 4 0 1] (.fn 136 [] [])=some (.rsl (2000+8*d) none 4 0 1,upd (upd h b (.fz 4 [dB t])) (2000+8*d) (.ar 4 (aT [t])),[]):=by
 have hm:=og false;have hs:=nv false;have hk:=mD false;have hf:=amf (t:=t);have hb':kC (aC false) [.emp,I 0,.rsl b none 4 0 1] (.fn 136 [] [])=false:=by
  grind[kC]
 have h1:ce h [2,0,0] [.emp,I 0,.rsl b none 4 0 1]=some ([.emp,I 0,.sl 4 [dB t]],upd h b (.fz 4 [dB t]),[]):=by
  simp[ce,dV,yq,gZ,aH,hb,pG,rz]
 have g2:upd h b (.fz 4 [dB t]) (2000+8*d)=.dead:=by
  simp_all[upd,ax]
 have hp:bC [] ([AV.emp,I 0,.sl 4 [dB t]].flatMap cH)=[]:=by
  simp[cH,gN,bC]
 have hnr:cM (.osl 4 (aT [t]))=1:=rfl;have hnm:bv [[],[],[.o 5 [.o 2 [],.o 0 [],.o 2 [],.o 0 []]]] [.emp,I 0,.sl 4 [dB t]]=[.emp,I 0,.sl 4 [dB t]]:=by
  simp only[bv,af4];rfl
 have hr:∀h n,bU h n [] 0=[]:=fun h n=>by cases n<;>rfl
 have hlen:(aT [t]).length=1:=rfl;unfold bB;simp only[dZ,aBw,aBz,aBl, *];simp[ke,be,bw,dS,ko,eJ,cj,bX,cY,mG,A7,tQ,gN,ku,gr,Gi,eB,mat,ez,gD,G1, *]
 simp_all[dJ,ax]
def ClE(x:List Int):Prop:=R 132 [.sl 1 (aZ x)] []=some (.osl 1 (aZ x),[])\/R 132 [.sl 1 (aZ x)] []=some (.sl 1 (aZ x),[])
theorem af6:∀ {x},x.length<=100000->ClE x
 |[],_=>.inr Uq
 |x::l,h=>.inl (Ur γ)
theorem Yn{v v'}{l}{t}(c:Cl v l)(vt:VT v t)(hl:l.length<=1000000)(hf:Li l t.exps=false):
  R 80 [ac 1000,.sl 1 (aZ t.exps),ae t.c] [t3 v' (.osl 4 (aT l)) 0]=some (.tup [],[t3 v' (.osl 4 (aT (l.take (dh l t.exps)++t::l.drop (dh l t.exps)))) 0]):=by
 refine rh aV.2.1 aV.2.2 (aV.1.2.2.2 false) rfl ?_;have hbs:=adY c vt.sm vt.len hl;rw[hf]at hbs;have hcp:=Up vt.nz (aBq (wZ vt.vc vt.c.lb) δ);simp only[ae,aj]at hcp;have k1:(aZ t.exps).take t.exps.length=aZ t.exps:=aBE (by simp_all[EJ,aBh]);have hlen:(l.take (dh l t.exps)++t::l.drop (dh l t.exps)).length=l.length+1:=by
  grind
 have hp:=ST l t.exps;simp only[ig,t3,ae,aj,go_sem];rw[abi Z Z (tq l).symm ⟨_,rfl⟩];rcases af6 vt.ok.len with hcv|hcv
 all_goals
  simp only[go_sem,hbs,Mk,hcv,hcp,aBi,aBh,k1];rw[ajd Z Z δ δ δ Z Z hp hl];generalize l.take (dh l t.exps)++t::l.drop (dh l t.exps)=L at hlen⊢;simp only[go_sem];rw[aq (by rfl),yk rfl (by rw[tq,hlen]) rfl δ (aCf δ (aBh 3))];simp only[go_sem];exact H5 (.inl rfl) rfl
theorem OQ{v'}{v}{t}(vt:VT v t):
  R 80 [ac 1000,.sl 1 (aZ t.exps),ae t.c] [t3 v' .emp 0]=some (.tup [],[t3 v' (.osl 4 (aT [t])) 0]):=by
 refine rh aV.2.1 aV.2.2 (aV.1.2.2.2 false) rfl ?_;have hbs:=adY (l:=[]) (Cl.nil v) vt.sm vt.len (aBB _);rw[show dh [] t.exps=0 from rfl,show Li [] t.exps=false from rfl,aBV]at hbs;have hcp:=Up vt.nz (aBq (wZ vt.vc vt.c.lb) δ);simp only[ae,aj]at hcp;have k1:(aZ t.exps).take t.exps.length=aZ t.exps:=aBE (by simp_all[EJ,aBh]);have k2:nrmV [.o 2 []] (.sl 1 (aZ t.exps))=.sl 1 (aZ t.exps):=by
  simp only[go_sem]
 simp only[ig,t3,ae,aj,go_sem];rw[aje (by rw[k2];exact hbs) Z Z];rcases af6 vt.ok.len with hcv|hcv
 all_goals
  simp only[go_sem,hcv,hcp,aBi,aBh,k1];rw[af5 rfl δ rfl];simp only[go_sem];rw[aq (by rfl),yk rfl (show 1=(aT [t]).length from rfl) rfl δ (aCf δ (aBh 3))];simp only[go_sem];exact H5 (.inl rfl) rfl
theorem Lj{d n i}(h:i<=n):lQ d n (some (I i))=some i:=by
 simp_all[lQ,aq]
theorem ao5{h}{j k n}{rows}(hj:bt j=false)(hh:h j=.ar k rows)(hn:n=rows.length)(hc:aE [1000] (h 1000)=true):vG [[]] 1 h [.rsl j none k 0 n]=some (.osl k rows,[h 1000]):=by
 simp_all[dx,vG,aq,vT,tZ,oG,DO,xw,bv,nrmV,nrmL,lR,cH,gN]
theorem ao6{rows}{n i}(hn:n=rows.length)(hi:i<n)(h2:n<=1000000):R 139 [.rsl 1000 none 4 0 n,I i,I (i+1:Nat)] [.ar 4 rows]=some (.osl 4 (rows.take i++rows.drop (i+1)),[.dead]):=by
 refine rh yV yU (mE false) rfl ?_;subst hn;have b1:lQ rows.length rows.length (some (I rows.length))=some rows.length:=Lj (aBh _);have b2:∀d,lQ d rows.length (some (I (i+1:Nat)))=some (i+1):=fun d=>Lj ω;have b3:∀d,lQ d (i+1) (some (I i))=some i:=fun d=>Lj ω;have b4:∀d,lQ d rows.length (some (I i))=some i:=fun d=>Lj ω;have e1:(i=((i+1:Nat):Int))=False:=ff;have s1:fm 4 (.rsl 1000 none 4 0 rows.length) (some (I i)) (some (I (i+1:Nat))) (some (I rows.length))=some .any:=by
  simp_all[fm,if_true,me,b2,aBl,aBZ,Option.isNone_some,ax,aBu]
 have s2:fm 4 (.rsl 1000 none 4 0 rows.length) none (some (I i)) none=some (.rsl 1000 none 4 0 i):=by
  simp_all[fm,if_true,me,Ou,aBl,aBZ,Option.isNone_none,Nat.sub_zero,aBR]
 have s3:fm 4 (.rsl 1000 none 4 0 rows.length) (some (I (i+1:Nat))) none none=some (.rsl 1000 none 4 (i+1) (rows.length- (i+1))):=by
  simp only[fm,if_true,me,b2,Ou,aBl,aBZ,Option.isNone_none,aBi]
 have t1:(rows.drop (i+1)).take (rows.length- (i+1))=rows.drop (i+1):=aBE γ;have t2:(i+1+(rows.length- (i+1))<=rows.length)=True:=tt;obtain⟨m,hm⟩:∃m,i+(rows.length- (i+1))=m:=⟨_,rfl⟩;obtain⟨D,hD⟩:∃D,rows.take i++rows.drop (i+1)=D:=⟨_,rfl⟩;have d1:D.length=m:=by
  grind
 obtain⟨A,hA⟩:∃A,D++rows.drop m=A:=⟨_,rfl⟩;have a1:A.length=rows.length:=by
  grind
 have a2:A.take m=D:=γ
 have e5:∀h,NI h 26 4 64 1000 4 0 i (rows.drop (i+1)) 4 rows=some (.rsl 1000 none 4 0 m,upd h 1000 (.ar 4 A),[]):=fun h=>by
  unfold NI;grind
 have e7:(i=rows.length)=False:=ff;have b5:me rows.length (some (I m)) (some (I rows.length)) none=some (m,rows.length):=by
  simp only[me,b1,aBl];rw[Lj ω];rfl
 have c1:(m+(rows.length-m)<=rows.length)=True:=tt;have c2:∀z,(D++aBg (rows.length-m) z++A.drop (m+(rows.length-m))).take m=D:=fun z=>by
  rw[aCd,List.take_append_of_le_length ω,aBE ω]
 rw[hD];simp only[iT,go_sem,s1,s2,s3,e1,t1,t2,e5,e7,false_and,and_false,a1,a2,b5,c1,c2,Nat.sub_zero,aBi,aBB,aBP,decide_false];exact ao5 (by rfl) (by rfl) d1.symm (by rfl)
theorem ajf{l}{h}{d a n i}(ha:h a=.ar 4 (aT l))(_hda:2000+8*d≠a)(hd:h (2000+8*d)=.dead)(hn:n=l.length)(hi:i<n)(h2:n<=1000000):
  bB R (aC false) h d [.rsl a none 4 0 n,.v (.int .i64 i),.v (.int .i64 (i+1:Nat))] (.fn 139 [] [])=
   some (.rsl (2000+8*d) none 4 0 (l.length-1),upd (upd h a .dead) (2000+8*d) (.ar 4 (aT (l.take i++l.drop (i+1)))),[(a,true),(a,false)]):=by
 have hm:=yW false;have hs:=xZ false;have hk:=mE false;have hf:=ao6 (rows:=aT l) (n:=n) (i:=i) (by rw[tq,hn]) hi h2;have e1:(aT l).take i++(aT l).drop (i+1)=aT (l.take i++l.drop (i+1)):=by simp[aT,List.map_take,List.map_drop]
 rw[e1]at hf;have hb':kC (aC false) [.rsl a none 4 0 n,.v (.int .i64 i),.v (.int .i64 (i+1:Nat))] (.fn 139 [] [])=false:=by
  grind[kC]
 have h1:ce h [2,0,0] [.rsl a none 4 0 n,.v (.int .i64 i),.v (.int .i64 (i+1:Nat))]=some ([.rsl a none 4 0 n,.v (.int .i64 i),.v (.int .i64 (i+1:Nat))],h,[]):=by
  simp[ce,dV,yq,gZ,aH,ha,ah5]
 have hr:bU h 40 [a] 0=[a]:=by
  grind[bU,lH,bC]
 have hp:bC [] ([AV.rsl a none 4 0 n,.v (.int .i64 i),.v (.int .i64 (i+1:Nat))].flatMap cH)=[a]:=by
  simp[cH,gN,bC]
 have h3:bg [a] a=1000:=by simp[bg]
 have hnr:cM (.osl 4 (aT (l.take i++l.drop (i+1))))=1:=rfl;have hlen:(aT (l.take i++l.drop (i+1))).length=l.length-1:=by
  grind[tq,List.length_append,aBN,List.length_drop]
 unfold bB;simp only[dZ,hm,aBw,aBz,h1,aBl,hp,hr,hs];simp only[Int.natCast_add,Int.natCast_one]at hf;simp[ke,bv,be,bw,ha,aE,bX,dS,ko,h3,dY,hf,eJ,hnr,cj,hd,cY,bf,mG,A7,tQ,gN,ku,gr,Gi,eB,mat,ez,gD,hk,G1,hm,hlen]
 simp_all[dJ,ax,Hv]
theorem amg(h)(i)(xs)(a b)(r):Gg h 3 1000 1 4 i 1 xs [] (.bx [a,.osl 4 r,b])=(tP 3 4 i 1 xs 4 r).map fun q=>(.und,upd h 1000 (.bx [a,.osl 4 q,b]),[]):=rfl
theorem Ll(a b)(k)(r):mh 1 (.bx [a,.osl k r,b])=some (k,r):=rfl
theorem SV(h)(n)(g)(i j)(r):qH h n g 4 i j (some (4,r))=(r[i]?).bind fun row=>(mF n g row j).map fun a=>(a,h,[]):=rfl
theorem ajg{v v'}{l}{t q}(c:Cl v l)(vt:VT v t)(hl:l.length<=1000000)(hq:l[dh l t.exps]?=some q)(ho:cW q.exps t.exps=0):
  R 80 [ac 1000,.sl 1 (aZ t.exps),ae t.c] [t3 v' (.osl 4 (aT l)) 0]=some (.tup [],[if(kR q.c t.c).2=0 then(if(kR q.c t.c).1.m.length=0 then t3 v' (.osl 4 (aT (l.take (dh l t.exps)++l.drop (dh l t.exps+1)))) 0 else t3 v' (.osl 4 (aT (l.set (dh l t.exps) ⟨q.exps,(kR q.c t.c).1⟩))) 0)else t3 v' (.osl 4 (aT l)) 9]):=by
 refine rh aV.2.1 aV.2.2 (aV.1.2.2.2 false) rfl ?_;have hbs:=adY c vt.sm vt.len hl;have hf:Li l t.exps=true:=by
  grind[Li,decide_eq_true]
 rw[hf]at hbs;have vq:=c.t q (aBs hq);have hadd:=amb vq.c vt.c;have hlt:=(List.getElem?_eq_some_iff.1 hq).1;have hrow:(aT l)[dh l t.exps]?=some (dB q):=by grind[aT]
 have hi0:(0<=(dh l t.exps:Int)/\(dh l t.exps)< (l.length:Int))=True:=eq_true ⟨by omega,by omega⟩;have hw:aS ((dh l t.exps)+1)=(dh l t.exps+1:Nat):=wi;generalize kR q.c t.c=r at hadd⊢;obtain⟨s,e⟩:=r;simp only[rV,ae,aj]at hadd;simp only[dB]at hrow;simp only[ig,t3,ae,aj,go_sem];rw[abi Z Z (tq l).symm ⟨_,rfl⟩];by_cases he:e=0
 ·subst he;by_cases hs:s.m.length=0
  ·have e1:=tt;have hlen:(l.take (dh l t.exps)++l.drop (dh l t.exps+1)).length=l.length-1:=by
    grind
   simp only[go_sem,hbs,Mk,hi0,hrow,hadd,hs,aBr,aBV,aBi,Ll,SV,hw];rw[ajf rfl δ Z Z hlt hl];generalize l.take (dh l t.exps)++l.drop (dh l t.exps+1)=L at hlen⊢;simp only[go_sem];rw[yk rfl (by rw[tq,hlen]) rfl δ (aCf δ (aBh 3))];simp only[go_sem];exact H5 (.inl rfl) rfl
  ·have e1:((s.m.length:Int)=0)=False:=ff;have hset:(aT l).set (dh l t.exps) [.sl 1 (aZ q.exps),B s.neg,lm s.m,I s.e]=aT (l.set (dh l t.exps) ⟨q.exps,s⟩):=by
    unfold aT;rw[List.map_set];rfl
   simp only[go_sem,hbs,Mk,hi0,hrow,hadd,hs,e1,aBr,aBi,Ll,SV,hw,amg,hset];exact H5 (.inl rfl) rfl
 ·have e1:=ff he;simp only[go_sem,hbs,Mk,hi0,hrow,hadd,e1,aBr,aBi,Ll,SV,hw];exact H5 (.inl rfl) rfl
theorem SW{v v'}{l}{t}{cell}(c:Cl v l)(vt:VT v t)(hl:l.length<=1000000)(hc:oB cell l):
  ∃cell' l' e',R 80 [ac 1000,.sl 1 (aZ t.exps),ae t.c] [t3 v' cell 0]=some (.tup [],[t3 v' cell' e'])/\oB cell' l'/\((e'=0/\mB l t=some l')\/(e'=9/\mB l t=none/\l'=l)):=by
 rcases hc with rfl| ⟨rfl,rfl⟩
 ·rw[abg];cases hq:l[dh l t.exps]? with
  |none=>
   exact⟨_,_,_,Yn c vt hl (by grind[Li]),.inl rfl,.inl ⟨rfl,rfl⟩⟩
  |some q=>
   by_cases ho:cW q.exps t.exps=0
   ·have h1:=ajg (v':=v') c vt hl hq ho;simp only[aq ho];by_cases he:(kR q.c t.c).2=0
    ·rw[aq he]at h1⊢;by_cases hs:(kR q.c t.c).1.m.length=0
     ·rw[aq hs]at h1⊢;exact⟨_,_,_,h1,.inl rfl,.inl ⟨rfl,rfl⟩⟩
     ·rw[ax hs]at h1⊢;exact⟨_,_,_,h1,.inl rfl,.inl ⟨rfl,rfl⟩⟩
    ·rw[ax he]at h1⊢;exact⟨_,_,_,h1,.inl rfl,.inr ⟨rfl,rfl,rfl⟩⟩
   ·simp only[ax ho];exact⟨_,_,_,Yn c vt hl (by grind[Li,decide_eq_false]),.inl rfl,.inl ⟨rfl,rfl⟩⟩
 ·exact⟨_,_,_,OQ vt,.inl rfl,.inl ⟨rfl,rfl⟩⟩
def fK:List Rt->(List Int->Int)->Int
 |[],_=>0
 |t::l,f=>zI t.c*f t.exps+fK l f
theorem Ml:∀l r f,fK (l++r) f=fK l f+fK r f
 |[],r,f=>by simp[fK]
 |t::l,r,f=>by
  show zI t.c*f t.exps+fK (l++r) f=zI t.c*f t.exps+fK l f+fK r f;rw[Ml l r f,Int.add_assoc]
theorem H6(k):∀l f,fK l (fun x=>k*f x)=k*fK l f
 |[],f=>by simp[fK]
 |t::l,f=>by
  show zI t.c*(k*f t.exps)+_=k*(zI t.c*f t.exps+_);rw[H6 k l f,Int.mul_add,Int.mul_left_comm]
theorem Lm:∀ {l} {f g},(∀t∈l,f t.exps=g t.exps)->fK l f=fK l g
 |[],f,g,_=>rfl
 |t::l,f,g,h=>by
  show zI t.c*f t.exps+_=zI t.c*g t.exps+_;rw[h t σ,Lm fun x hx=>h x (by simp[hx])]
theorem Yo{v}{f}:∀ {l l'} {t},Cl v l->VT v t->mB l t=some l'->fK l' f=fK l f+zI t.c*f t.exps
 |[],l',t,c,vt,h=>by
  cases h;show zI t.c*f t.exps+0=0+_;omega
 |q::l,l',t,c,vt,h=>by
  obtain⟨c1,c2,c3⟩:=c.cons;unfold mB at h;split at h
  ·rw[aBj]at h;obtain⟨l2,h2,rfl⟩:=h;have ih:=Yo c3 vt h2 (f:=f);show _+fK l2 f=(_+fK l f)+_;rw[ih,Int.add_assoc]
  ·split at h
   ·rename_i h1 h2;have he:=amc (c1.l2 vt) h2;split at h
    ·rename_i h3;have hz:=aa9 h3;grind[cT,fK,zI,kR,Int.add_mul,Int.add_right_comm]
    grind
   grind[zI,fK,Int.add_comm]
theorem FO{v}{f}:∀ {ts l l'},Cl v l->(∀t∈ts,VT v t)->kT l ts=some l'->fK l' f=fK l f+fK ts f
 |[],l,l',c,_,h=>by
  cases h;exact(Int.add_zero _).symm
 |t::ts,l,l',c,vt,h=>by
  unfold kT at h;rw[aBf]at h;obtain⟨l2,h2,h3⟩:=h;rw[FO (Mj c (vt t σ) h2).1 (fun x hx=>vt x γ) h3,Yo c (vt t σ) h2];show _=_+(_+_);omega
theorem VT.zn{v}{t}(h:VT v t):zI t.c≠0:=by
 rcases OE t.c h.vc with⟨_,_,h2⟩| ⟨_,h1,h2,_⟩| ⟨_,h1,h2,_⟩
 ·exact absurd h2 h.nz
 all_goals omega
theorem Us{a b}(h:cW a b<0):b≠a:=by
 grind[Uo]
def p0:Rp:=⟨0,[]⟩
def pV(r:Rp×Int):AV:=.tup [bo r.1,I r.2]
def pZ(v:Int):Option (List Rt)->Rp×Int
 |none=>(p0,9)
 |some l=>if 500<l.length then(p0,5)else(⟨v,l⟩,0)
def B1(a b:Rp):Bool:=vp a&& (vp b&&decide (a.vars=b.vars))
def Ao(a b:Rp):Rp×Int:=if B1 a b=true then pZ a.vars (kT [] (a.terms++b.terms))else(p0,1)
def tv(t:Rt):Rt:=⟨t.exps,⟨!t.c.neg,t.c.m,t.c.e⟩⟩
def y8(a b:Rp):Rp×Int:=if B1 a b=true then pZ a.vars (kT [] (a.terms++b.terms.map tv))else(p0,1)
def jX(a b:List Int):List Int:=List.zipWith (·+·) a b
def Mm(s t:Rt):Option Rt:=if(gS s.c t.c).2=0 then some ⟨jX s.exps t.exps,(gS s.c t.c).1⟩else none
def oC(s:Rt):List Rt->Option (List Rt)
 |[]=>some []
 |t::ts=>(Mm s t).bind fun x=>(oC s ts).map (x::·)
def l8:List Rt->List Rt->Option (List Rt)
 |[],_=>some []
 |s::ss,ts=>(oC s ts).bind fun r=>(l8 ss ts).map (r++·)
def vO(a b:Rp):Rp×Int:=if B1 a b=true then(if a.terms.length≠0/\b.terms.length≠0/\32<mA a+mA b then(p0,5)else pZ a.vars ((l8 a.terms b.terms).bind (kT [])))else(p0,1)
theorem af7:∃K,K≠0/\∀a b,(gS a b).2=0->zI (gS a b).1*K=zI a*zI b:=by
 refine⟨2^16384,?_,fun a b h=>?_⟩
 ·omega
 ·unfold gS at h⊢;split at h
  ·rename_i hc;rw[aq hc];exact Mi (j:=16384) h
  omega
noncomputable def KK:Int:=Classical.choose af7
theorem Mn{a b}(h:(gS a b).2=0):zI (gS a b).1*KK=zI a*zI b:=(Classical.choose_spec af7).2 a b h
theorem QC{s}{f}:∀ {ts r},oC s ts=some r->fK r f*KK=zI s.c*fK ts fun v=>f (jX s.exps v)
 |[],r,h=>by
  cases h;show 0*KK=zI s.c*0;omega
 |t::ts,r,h=>by
  unfold oC at h;rw[aBf]at h;obtain⟨x,h1,h2⟩:=h;rw[aBj]at h2;obtain⟨r2,h3,rfl⟩:=h2;unfold Mm at h1;split at h1
  ·rename_i h4;cases h1;show(zI (gS s.c t.c).1*f (jX s.exps t.exps)+fK r2 f)*KK=zI s.c*(zI t.c*f (jX s.exps t.exps)+fK ts _);rw[Int.add_mul,QC h3,Int.mul_right_comm,Mn h4,Int.mul_add,Int.mul_assoc]
  ·cases h1
theorem QD{f}:∀ {ss ts r},l8 ss ts=some r->fK r f*KK=fK ss fun u=>fK ts fun v=>f (jX u v)
 |[],ts,r,h=>by
  cases h;show 0*KK=0;omega
 |s::ss,ts,r,h=>by
  unfold l8 at h;rw[aBf]at h;obtain⟨x,h1,h2⟩:=h;rw[aBj]at h2;obtain⟨r2,h3,rfl⟩:=h2;rw[Ml,Int.add_mul,QC h1,QD h3];rfl
theorem Yp:∀ {a b},a.length=b.length->bO (jX a b)=bO a+bO b
 |[],[],_=>rfl
 |x::a,y::b,h=>by
  show x+y+bO (jX a b)=x+bO a+(y+bO b);rw[Yp (by simpa using h)];omega
 |[],_::_,h=>by grind
 |_::_,[],h=>by grind
theorem EK:∀ {l},(∀x∈l,0<=x)->0<=bO l/\∀x∈l,x<=bO l
 |[],_=>⟨Int.le_refl _,fun _ h=>by grind⟩
 |y::l,h=>by
  obtain⟨h1,h2⟩:=EK fun x hx=>h x (List.mem_cons_of_mem _ hx);have h3:=h y σ;grind[bO]
theorem Yq:∀ {a b},(∀x∈a,0<=x)->(∀x∈b,0<=x)->∀x∈jX a b,0<=x
 |[],b,_,_,x,hx=>by simp_all[jX]
 |_::_,[],_,_,x,hx=>by simp_all[jX]
 |y::a,z::b,h1,h2,x,hx=>by
  have hx':x∈ (y+z)::jX a b:=hx;rcases List.mem_cons.1 hx' with rfl|hx'
  ·have:=h1 y σ;have:=h2 z σ;omega
  ·exact Yq (fun x hx=>h1 x γ) (fun x hx=>h2 x γ) x hx'
theorem Ap{a b}(h:a.length=b.length):(jX a b).length=a.length:=by
 grind[jX,List.length_zipWith]
theorem Yr{v}{s t x}(vs:VT v s)(vt:VT v t)(hd:bO s.exps+bO t.exps<=32)(h:Mm s t=some x):VT v x:=by
 unfold Mm at h;split at h
 ·rename_i h0;cases h;have hl:=vs.l2 vt;have hp:=Yq (fun x hx=>(vs.b x hx).1) (fun x hx=>(vt.b x hx).1);have hs:=Yp hl;obtain⟨q1,q2⟩:vd (gS s.c t.c).1=true/\Ok0 (gS s.c t.c).1:=by
   grind[gS,yj,aO]
  refine⟨q2,by rw[Ap hl];exact vs.len,vs.v8,q1,fun h=>?_,fun e he=>⟨hp e he,?_⟩,by grind⟩
  ·have h1:=Mn h0;rw[cT h,Int.zero_mul]at h1;rcases Int.mul_eq_zero.1 h1.symm with h2|h2
   ·exact vs.zn h2
   ·exact vt.zn h2
  ·have:=(EK hp).2 e he;omega
 grind
theorem Ln{v}{s}(vs:VT v s):∀ {ts r},(∀t∈ts,VT v t/\bO s.exps+bO t.exps<=32)->oC s ts=some r->(∀x∈r,VT v x)/\r.length=ts.length
 |[],r,_,h=>by cases h;grind
 |t::ts,r,ht,h=>by
  unfold oC at h;rw[aBf]at h;obtain⟨x,h1,h2⟩:=h;rw[aBj]at h2;obtain⟨r2,h3,rfl⟩:=h2;obtain⟨g1,g2⟩:=Ln vs (fun y hy=>ht y γ) h3;have vx:=Yr vs (ht t σ).1 (ht t σ).2 h1;grind
theorem Lo{v}:∀ {ss ts r},(∀s∈ss,VT v s)->(∀t∈ts,VT v t)->(∀s∈ss,∀t∈ts,bO s.exps+bO t.exps<=32)->l8 ss ts=some r->(∀x∈r,VT v x)/\r.length=ss.length*ts.length
 |[],ts,r,_,_,_,h=>by cases h;grind
 |s::ss,ts,r,vs,vt,hd,h=>by
  unfold l8 at h;rw[aBf]at h;obtain⟨x,h1,h2⟩:=h;rw[aBj]at h2;obtain⟨r2,h3,rfl⟩:=h2;obtain⟨g1,g2⟩:=Ln (vs s σ) (fun t ht=>⟨vt t ht,hd s σ t ht⟩) h1;obtain⟨k1,k2⟩:=Lo (fun y hy=>vs y γ) vt (fun y hy t ht=>hd y γ t ht) h3;grind
theorem amh{a b}(h:cW a b<0):bO a<=bO b:=by
 unfold cW at h;rcases si (bO a) (bO b)with⟨g,e⟩| ⟨g,e⟩| ⟨g,e⟩<;>rw[e]at h
 all_goals omega
theorem OR{v}:∀ {l} {t q},Cl v l->l.getLast?=some q->t∈l->bO t.exps<=bO q.exps
 |[],t,q,_,h,_=>by grind
 |[x],t,q,_,h,ht=>by
  grind
 |x::y::l,t,q,c,h,ht=>by
  obtain⟨c1,c2,c3⟩:=c.cons;rcases List.mem_cons.1 ht with rfl|ht
  ·have h1:=amh (c2 y σ);have h2:=OR c3 h (t:=y) σ;omega
  ·exact OR c3 h ht
theorem abj{a}(oa:OkP a)(h:vp a=true):∀t∈a.terms,bO t.exps<=mA a:=by
 intro t ht;unfold mA;rw[aq h];cases hg:a.terms.getLast? with
 |none=>
  grind
 |some q=>exact OR (gj oa h).1 hg ht
theorem mX{a b}:B1 a b=true↔vp a=true/\vp b=true/\a.vars=b.vars:=by
 grind[B1]
theorem SX{v}{t}(h:VT v t):VT v (tv t):=by
 refine⟨⟨h.c.1,h.c.2⟩,h.len,h.v8,?_,h.nz,h.b,h.d⟩;have h1:=h.vc;have h2:=h.nz
 simp_all[vd,ax,tv]
theorem ami(t):zI (tv t).c=-zI t.c:=by
 grind[zI,tv,mg]
theorem abk(f):∀l,fK (l.map tv) f=-fK l f
 |[]=>rfl
 |t::l=>by
  show zI (tv t).c*f t.exps+fK (l.map tv) f=-(zI t.c*f t.exps+fK l f);rw[abk f l,ami,Int.neg_mul];omega
theorem SY{v}{o}(h:(pZ v o).2=0):∃l,o=some l/\l.length<=500/\(pZ v o).1=⟨v,l⟩:=by
 unfold pZ at h⊢;grind
structure Pv (v:Int) (a:Rp):Prop where
 v:a.vars=v
 p:vp a=true
 o:OkP a
theorem Pv.cl{v}{a}(h:Pv v a):Cl v a.terms:=by
 have:=(gj h.o h.p).1;rw[h.v]at this;omega
theorem SZ{a b}(oa:OkP a)(ob:OkP b)(h:(Ao a b).2=0):Pv a.vars a/\Pv a.vars b/\Pv a.vars (Ao a b).1/\∀f,fK (Ao a b).1.terms f=fK a.terms f+fK b.terms f:=by
 unfold Ao at h⊢;split at h
 ·rename_i hp;rw[aq hp];obtain⟨va,vb,hv⟩:=mX.1 hp;obtain⟨l,hl,h5,he⟩:=SY h;obtain⟨ca,a0,a8,_⟩:=gj oa va;obtain⟨cb,_⟩:=gj ob vb;rw[←hv]at cb;have ht:∀t∈a.terms++b.terms,VT a.vars t:=fun t ht=>by
   rcases List.mem_append.1 ht with ht|ht
   ·exact ca.t t ht
   ·exact cb.t t ht
  have hc:=(AM (Cl.nil _) ht hl).1;rw[he];refine⟨⟨rfl,va,oa⟩,⟨hv.symm,vb,ob⟩,⟨rfl,B0 hc a0 a8 h5,kS hc⟩,fun f=>?_⟩;have:=FO (f:=f) (Cl.nil _) ht hl
  simp_all[Ml,fK,Int.zero_add]
 omega
theorem S0{a b}(oa:OkP a)(ob:OkP b)(h:(y8 a b).2=0):Pv a.vars a/\Pv a.vars b/\Pv a.vars (y8 a b).1/\∀f,fK (y8 a b).1.terms f=fK a.terms f-fK b.terms f:=by
 unfold y8 at h⊢;split at h
 ·rename_i hp;rw[aq hp];obtain⟨va,vb,hv⟩:=mX.1 hp;obtain⟨l,hl,h5,he⟩:=SY h;obtain⟨ca,a0,a8,_⟩:=gj oa va;obtain⟨cb,_⟩:=gj ob vb;rw[←hv]at cb;have ht:∀t∈a.terms++b.terms.map tv,VT a.vars t:=fun t ht=>by
   rcases List.mem_append.1 ht with ht|ht
   ·exact ca.t t ht
   ·obtain⟨q,hq,rfl⟩:=List.mem_map.1 ht;exact SX (cb.t q hq)
  have hc:=(AM (Cl.nil _) ht hl).1;rw[he];refine⟨⟨rfl,va,oa⟩,⟨hv.symm,vb,ob⟩,⟨rfl,B0 hc a0 a8 h5,kS hc⟩,fun f=>?_⟩;have:=FO (f:=f) (Cl.nil _) ht hl;rw[Ml,abk]at this;rw[this];show 0+_=_;omega
 omega
theorem Jn{a b}(oa:OkP a)(ob:OkP b)(va:vp a=true)(vb:vp b=true)(h:¬ (a.terms.length≠0/\b.terms.length≠0/\32<mA a+mA b)):∀s∈a.terms,∀t∈b.terms,bO s.exps+bO t.exps<=32:=by
 intro s hs t ht;have h1:=abj oa va s hs;have h2:=abj ob vb t ht;grind
theorem S1{a b}(oa:OkP a)(ob:OkP b)(h:(vO a b).2=0):Pv a.vars a/\Pv a.vars b/\Pv a.vars (vO a b).1/\∀f,fK (vO a b).1.terms f*KK=fK a.terms fun u=>fK b.terms fun v=>f (jX u v):=by
 unfold vO at h⊢;split at h
 ·rename_i hp;rw[aq hp];obtain⟨va,vb,hv⟩:=mX.1 hp;split at h
  ·omega
  ·rename_i hd;rw[ax hd];have hf:=Jn oa ob va vb hd;obtain⟨l,hl,h5,he⟩:=SY h;rw[aBf]at hl;obtain⟨r,hr,hl⟩:=hl;obtain⟨ca,a0,a8,_⟩:=gj oa va;obtain⟨cb,_⟩:=gj ob vb;rw[←hv]at cb;have ht:=(Lo ca.t cb.t hf hr).1;have hc:=(AM (Cl.nil _) ht hl).1;rw[he];refine⟨⟨rfl,va,oa⟩,⟨hv.symm,vb,ob⟩,⟨rfl,B0 hc a0 a8 h5,kS hc⟩,fun f=>?_⟩;have:=FO (f:=f) (Cl.nil _) ht hl;rw[this,←QD hr];show(0+_)*_=_;grind
 omega
theorem QF:OkP p0:=⟨fun _ h=>by cases h⟩
theorem OS{v}{o}(h:∀l,o=some l->Cl v l):OkP (pZ v o).1:=by
 unfold pZ;grind[QF,kS]
theorem OT{a b}(oa:OkP a)(ob:OkP b):OkP (Ao a b).1:=by
 unfold Ao;split
 ·rename_i hp;obtain⟨va,vb,hv⟩:=mX.1 hp;obtain⟨ca,_⟩:=gj oa va;obtain⟨cb,_⟩:=gj ob vb;rw[←hv]at cb;exact OS fun l hl=>(AM (Cl.nil _) (fun t ht=>by
   rcases List.mem_append.1 ht with ht|ht
   ·exact ca.t t ht
   ·exact cb.t t ht) hl).1
 ·exact QF
theorem OU{a b}(oa:OkP a)(ob:OkP b):OkP (y8 a b).1:=by
 unfold y8;split
 ·rename_i hp;obtain⟨va,vb,hv⟩:=mX.1 hp;obtain⟨ca,_⟩:=gj oa va;obtain⟨cb,_⟩:=gj ob vb;rw[←hv]at cb;exact OS fun l hl=>(AM (Cl.nil _) (fun t ht=>by
   rcases List.mem_append.1 ht with ht|ht
   ·exact ca.t t ht
   ·obtain⟨q,hq,rfl⟩:=List.mem_map.1 ht;exact SX (cb.t q hq)) hl).1
 ·exact QF
theorem OV{a b}(oa:OkP a)(ob:OkP b):OkP (vO a b).1:=by
 unfold vO;split
 ·rename_i hp;obtain⟨va,vb,hv⟩:=mX.1 hp;split
  ·exact QF
  ·rename_i hd;have hf:=Jn oa ob va vb hd;obtain⟨ca,_⟩:=gj oa va;obtain⟨cb,_⟩:=gj ob vb;rw[←hv]at cb;refine OS fun l hl=>?_;rw[aBf]at hl;obtain⟨r,hr,hl⟩:=hl;exact(AM (Cl.nil _) (Lo ca.t cb.t hf hr).1 hl).1
 ·exact QF
theorem Ys{a}(h:aH a=true):gN a=[]:=by cases a<;>simp[aH]at h<;>rfl
theorem abl{a}(h:aH a=true)(l):bw l a=true:=by cases a<;>simp[aH]at h<;>simp[bw,h]
theorem Yt{a}(h:aH a=true)(g):ko g a=a:=by cases a<;>simp[aH]at h<;>rfl
theorem Aq{α β:Type}{f:α->List β}:∀ {l:List α},(∀x∈l,f x=[])->l.flatMap f=[]
 |[],_=>rfl
 |x::l,h=>by
  simp_all
theorem EL{a}(h:dat a=true):cH a=[]:=by
 cases a<;>simp only[dat]at h<;>first|exact Ys h|skip
 ·exact Aq fun x hx=>Ys (List.all_eq_true.1 h x hx)
 ·simp[aH]at h;obtain⟨rfl,rfl⟩:=h;rfl
theorem H7{a}(h:dat a=true)(l):be l a=true:=by
 cases a<;>simp only[dat]at h<;>first|exact abl h l|skip
 all_goals grind[be,aBC,abl,aH]
theorem EM{a}(h:dat a=true)(g):dS g a=a:=by
 cases a<;>simp only[dat]at h<;>first|exact Yt h g|skip
 ·rename_i cs;show AV.agg (cs.map (ko g))=_;rw[(aBK (g:=fun c=>c) fun x hx=>Yt (List.all_eq_true.1 h x hx) g).trans (aB2 cs)]
 ·simp[aH]at h;obtain⟨rfl,rfl⟩:=h;rfl
theorem Lp{a}(h:dat a=true)(hp):dV hp 0 a=some (a,hp,[]):=by
 by_cases hagg:∃cs,a=.agg cs
 ·grind[dat,dV,yq,oW]
 ·have h2:aH a=true:=by cases a<;>first|exact h|exact absurd ⟨_,rfl⟩ hagg
  cases a<;>first| (simp[aH]at h2;done)|rfl|skip
theorem Mo(hp):∀ {l},l.all dat=true->ce hp [] l=some (l,hp,[])
 |[],_=>rfl
 |a::l,h=>by
  simp only[aBO,aBk]at h;simp only[ce,List.headD_nil,Lp h.1,aBl,List.tail_nil,Mo hp h.2,aBz]
structure OC (o:Ob):Prop where
 cl:∀l,aE l o=true
 ids:lH o=[]
 ren:∀g,dY g o=o
 nd:bX o=false
structure RT (r:AV):Prop where
 ren:∀g,G1 g r=r
 mat:∀n h,mat n h r=(r,h)
 ok:∀l,ku l r=true
theorem ao7(z):RT (I z):=⟨fun _=>rfl,fun _ _=>rfl,fun _=>rfl⟩
theorem S6(b):RT (B b):=⟨fun _=>rfl,fun _ _=>rfl,fun _=>rfl⟩
theorem tw:∀l,tQ [] l=[]
 |[]=>rfl
 |a::l=>by
  show(if 0=2 then _ else [])++tQ [] l=[];rw[tw l];rfl
theorem Jo{f}{h}{d id}{zas as'}{o o'}{res}(hm:(aC false).m f=[])(hk:(aC false).keep f=false)(hn:bv ((aC false).sh f) (ac id::zas)=ac id::as')(hd:zas.all dat=true)(hd':as'.all dat=true)
  (hh:h id=o) (ho:OC o) (ho':OC o') (hb:bf o=true->bf o'=true) (hR:R f (ac 1000::as') [o]=some (res,[o'])) (hr:RT res) (h8:cM res<=8) (hfr:cj h (2000+8*d) (cM res)=true):
  bB R (aC false) h d (ac id::zas) (.fn f [] [])=some (res,upd h id o',[(id,true)]):=by
 have h1:ce h [] (ac id::zas)=some (ac id::zas,h,[]):=by
  simp only[ce,dV,aBl,List.tail_nil,Mo h hd,aBz]
 have hp:bC [] ((ac id::zas).flatMap cH)=[id]:=by
  rw[List.flatMap_cons,Aq fun x hx=>EL (List.all_eq_true.1 hd x hx)];rfl
 have hre:bU h 40 [id] 0=[id]:=by
  simp[bU,hh,ho.ids,bC]
 have h3:bg [id] id=1000:=by simp[bg]
 have hall:(ac id::as').all (be [id])=true:=by
  grind[be,bw,H7]
 have hmap:(ac id::as').map (dS (bg [id]))=ac 1000::as':=by
  rw[aBM,(aBK (g:=fun c=>c) fun x hx=>EM (List.all_eq_true.1 hd' x hx) _).trans (aB2 as')];grind[dS,ko]
 have hob:([id].map fun a=>dY (bg [id]) (h a))=[o]:=by simp[hh,ho.ren]
 have hids:([id].all fun a=>aE [id] (h a)&&!bX (h a))=true:=by simp[hh,ho.cl,ho.nd]
 unfold bB;rw[ax (by grind[kC])];simp only[dZ,aBw,aBz,aBl, *];unfold ke;rw[hall,hids,hmap,hob,hR,aB3,aq rfl,aBl,hk,hm,tw];unfold eJ;have hbf:cY h [] [id] [o']=true:=by
  have:=ho'.nd;grind[bf,cY]
 have hend:mG h [id] [] (res,[o'])=true:=by
  simp[mG,A7,hr.ok,ho'.cl]
 rw[aq ⟨rfl,by simp,h8,hfr,hbf,hend⟩];simp[eB,gD,hr.mat,hr.ren,ho'.ren]
theorem dQ{f}{h}{d id}{zas}{r}(hm:(aC false).m f=[])(hd:zas.all dat=true)(hc:bB R (aC false) h d (ac id::zas) (.fn f [] [])=r):IH R (aC false) d f (ac id::zas,h,[])=r:=by
 have h1:ce h [] (ac id::zas)=some (ac id::zas,h,[]):=by
  simp only[ce,dV,aBl,List.tail_nil,Mo h hd,aBz]
 rw[II d hm,h1]at hc;exact hc
theorem mM{v e}{c}{l}(hc:oB c l):OC (t3 v c e):=by
 rcases hc with rfl| ⟨rfl,_⟩
 ·exact⟨fun l=>rfl,rfl,fun g=>rfl,rfl⟩
 ·exact⟨fun l=>rfl,rfl,fun g=>rfl,rfl⟩
theorem ajh:RT (.tup []):=⟨fun _=>rfl,fun _ _=>rfl,fun _=>rfl⟩
theorem ri{v e e'}{c c'}{l l'}{h}{d id}{x}{q}(hh:h id=t3 v c e)(hc:oB c l)(hc':oB c' l')(hR:R 80 [ac 1000,.sl 1 (aZ x),ae q] [t3 v c e]=some (.tup [],[t3 v c' e'])):
  bB R (aC false) h d [ac id,.sl 1 (aZ x),ae q] (.fn 80 [] [])=some (.tup [],upd h id (t3 v c' e'),[(id,true)]):=
 Jo (aV.1.2.1 false) (aV.1.2.2.2 false) (as':=[.sl 1 (aZ x),ae q]) (by simp only[ae,aj,go_sem]) Z Z hh (mM hc) (mM hc') (fun _=>rfl) hR ajh δ rfl
theorem CT{v}:R 79 [I v] []=some (.obx [I v,.emp,I 0],[]):=by
 refine az Xm rfl ?_;rfl
theorem asd(r):RT (pV r):=⟨fun _=>rfl,fun _ _=>rfl,fun _=>rfl⟩
theorem lP{h}{o}{rs}{vs us}{r}(h0:((vs.flatMap cH).filter fun i=>!bt i)=[])(h1:h 1000=o)(ho:aE [1000] o=true)(h2:vT h vs=some us)(h3:xw (bv rs us)=r):vG rs 1 h vs=some (r,[o]):=by
 have hp:dx 1=[1000]:=rfl;unfold vG;rw[h0,hp,h2,aq (by grind[lR])];grind
theorem zD(x):nG (.v x)=.v x:=rfl
theorem xe(k)(r):nG (.osl k r)=.sl k r:=rfl
theorem CU:nG .emp=.emp:=rfl
theorem ao8{v e}{l}:xw (bv [[.o 0 [],.o 5 [.o 2 [],.o 0 [],.o 2 [],.o 0 []]],[]] [.agg [I v,.sl 4 (aT l)],I e])=pV (⟨v,l⟩,e):=by
 have h:=H2 l;show AV.tup [.agg [I v,.sl 4 ((aT l).map _)],I e]=_;rw[h];rfl
theorem aji{v e}{c}{l}(hc:oB c l)(he:e≠0):R 81 [ac 1000] [t3 v c e]=some (pV (p0,e),[t3 v c e]):=by
 refine rh bG.2.1 bG.2.2 (bG.1.2.2.2 false) rfl ?_;have e1:=ff he;simp only[gG,t3,go_sem,e1];exact lP rfl (by rfl) ((mM hc).cl _) (by rfl) (by rfl)
theorem ajj{v}{l}:R 81 [ac 1000] [t3 v (.osl 4 (aT l)) 0]=some (pV (pZ v (some l)),[if 500<l.length then t3 v (.osl 4 (aT l)) 0 else .bx [I v,.sl 4 (aT l),I 0]]):=by
 refine rh bG.2.1 bG.2.2 (bG.1.2.2.2 false) rfl ?_;unfold pZ;by_cases h:500<l.length
 ·have e1:(500< (l.length:Int))=True:=tt;simp only[aq h];simp only[gG,t3,go_sem,e1];exact lP rfl (by rfl) rfl (by rfl) (by rfl)
 ·have e1:(500< (l.length:Int))=False:=ff;simp only[ax h];simp only[gG,t3,go_sem,e1,zD,xe];exact lP rfl (by rfl) rfl (by rfl) ao8
theorem ajk{v}:R 81 [ac 1000] [t3 v .emp 0]=some (pV (pZ v (some [])),[t3 v .emp 0]):=by
 refine rh bG.2.1 bG.2.2 (bG.1.2.2.2 false) rfl ?_;have e1:((500:Int)<0)=False:=ff δ;simp only[gG,t3,go_sem,e1];exact lP rfl (by rfl) rfl (by rfl) (by rfl)
theorem DI{v e}{c}{l}{h}{d id}(hh:h id=t3 v c e)(hc:oB c l)(hf:cj h (2000+8*d) 2=true):
  ∃o,bB R (aC false) h d [ac id] (.fn 81 [] [])=some (pV (if e=0 then pZ v (some l)else(p0,e)),upd h id o,[(id,true)]):=by
 have key:∃o,OC o/\bf o=true/\R 81 [ac 1000] [t3 v c e]=some (pV (if e=0 then pZ v (some l)else(p0,e)),[o]):=by
  by_cases he:e=0
  ·subst he;rcases hc with rfl| ⟨rfl,rfl⟩
   ·refine⟨_,?_,?_,ajj⟩
    ·split
     ·exact mM (.inl rfl)
     ·exact⟨fun l=>rfl,rfl,fun g=>rfl,rfl⟩
    ·split<;>rfl
   ·exact⟨_,mM (.inr ⟨rfl,rfl⟩),rfl,ajk⟩
  ·rw[ax he];exact⟨_,mM hc,rfl,aji hc he⟩
 obtain⟨o,h1,h2,h3⟩:=key;exact⟨o,Jo (bG.1.2.1 false) (bG.1.2.2.2 false) (as':=[]) (by rfl) Z Z hh (mM hc) h1 (fun _=>h2) h3 (asd _) (by show 2<=8;decide) hf⟩
theorem S7{a b}(oa:OkP a)(ob:OkP b):R 130 [bo a,bo b] []=some (B (B1 a b),[]):=by
 refine az Z3 rfl ?_;have h1:=xd oa;have h2:=xd ob;simp only[bo]at h1 h2;unfold B1;cases ha:vp a with
 |false=>
  rw[ha]at h1;simp only[wG,bo,go_sem,h1]
 |true=>
  rw[ha]at h1;cases hb:vp b with
  |false=>
   rw[hb]at h2;simp only[wG,bo,go_sem,h1,h2]
  |true=>
   rw[hb]at h2;simp only[wG,bo,go_sem,h1,h2]
structure ColE (v:Int) (l ts:List Rt) (e:Int) (c':AV) (l':List Rt) (e':Int):Prop where
 c:oB c' l'
 r:(e'=0/\e=0/\kT l ts=some l')\/(e'=9/\(e=0->kT l ts=none))
theorem ColE.fin{v}{ts}{c'}{l'}{e'}(h:ColE v [] ts 0 c' l' e'):(if e'=0 then pZ v (some l')else(p0,e'))=pZ v (kT [] ts):=by
 rcases h.r with⟨h1,_,h2⟩| ⟨h1,h2⟩
 ·rw[aq h1,h2]
 ·rw[h1,ax δ,h2 rfl];rfl
theorem ColE.step{v}{l ts}{t}{c}(hc:oB c l){e}(he:e=0\/e=9)(hC:e=0->Cl v l/\l.length+ts.length+1<=1000000)(vt:VT v t){v'}:
  ∃c1 l1 e1,R 80 [ac 1000,.sl 1 (aZ t.exps),ae t.c] [t3 v' c e]=some (.tup [],[t3 v' c1 e1])/\oB c1 l1/\(e1=0\/e1=9)/\(e1=0->Cl v l1/\l1.length+ts.length<=1000000)/\∀c' l' e',ColE v l1 ts e1 c' l' e'->ColE v l (t::ts) e c' l' e':=by
 rcases he with rfl|rfl
 ·obtain⟨h1,h2⟩:=hC rfl;obtain⟨c1,l1,e1,g1,g2,g3⟩:=SW (v':=v') h1 vt ω hc;refine⟨c1,l1,e1,g1,g2,?_,fun h0=>?_,fun c' l' e' h=>⟨h.c,?_⟩⟩
  ·omega
  ·rcases g3 with⟨_,g⟩| ⟨g,_⟩
   ·have:=OP g;exact⟨(Mj h1 vt g).1,by omega⟩
   omega
  ·rcases g3 with⟨g,k⟩| ⟨g,k,_⟩
   ·rcases h.r with⟨q1,_,q2⟩| ⟨q1,q2⟩
    ·unfold kT;grind
    ·unfold kT;grind
   ·rcases h.r with⟨_,q1,_⟩| ⟨q1,_⟩
    ·omega
    ·unfold kT;grind
 ·refine⟨c,l,9,Ym hc δ,hc,.inr rfl,fun h=>by omega,fun c' l' e' h=>⟨h.c,?_⟩⟩;rcases h.r with⟨_,q1,_⟩| ⟨q1,_⟩
  all_goals omega
theorem af8{v v'}{T}(hT:∀t∈T,VT v t)(hn:T.length<=100000):∀ (k i:Nat),i+k=T.length->∀c l e,oB c l->(e=0\/e=9)->(e=0->Cl v l/\l.length+k<=1000000)->
  ∀s h,s 4=ac 4->s 6=ac 2128->s 22=.sl 4 (aT T)->s 23=I T.length->s 24=I i->h 4=.bx [I 0,.emp]->h 2128=t3 v' c e->
  ∃hh c' l' e',ao 0 [4,6] (aD (ap R (aC false) uS) [4,6,22,23,24] [4,2128] s h)=some (.normal,⟨upd (upd cr 6 (ac 2128)) 4 (ac 4),hh⟩)/\
   hh 4=.bx [I 0,.emp]/\hh 2128=t3 v' c' e'/\(∀a,a≠4->a≠2128->hh a=.dead)/\ColE v l (T.drop i) e c' l' e':=by
 intro k;induction k with
 |zero=>
  intro i hi c l e hc he hC s h h4 h6 h22 h23 h24 k4 k6;have e1:((i:Int)<T.length)=False:=ff;have ho:=(mM (v:=v') (e:=e) hc).cl [4,2128];rw[ai];refine⟨?hh0,c,l,e,?_,?_,?_,?_,?_⟩;rotate_left
  ·simp only[uS,go_sem,h4,h6,h22,h23,h24,k4,k6,ho,e1];rfl
  ·rfl
  ·rfl
  ·simp_all[dv,if_false]
  ·rw[aBQ ω];refine⟨hc,?_⟩;rcases he with rfl|rfl
   ·exact .inl ⟨rfl,rfl,rfl⟩
   omega
 |succ k ih=>
  intro i hi c l e hc he hC s h h4 h6 h22 h23 h24 k4 k6;have hlt:i<T.length:=ω
  have e1:((i:Int)<T.length)=True:=tt;have e2:=my rfl (aBp hlt);have e5:aS (i+1)=(i+1:Nat):=wi;have ho:=(mM (v:=v') (e:=e) hc).cl [4,2128];have hdl:(T.drop (i+1)).length=k:=γ
  obtain⟨c1,l1,ee,g1,g2,g3,g4,g5⟩:=ColE.step (ts:=T.drop (i+1)) hc he (fun h=>by grind) (hT _ (aBT hlt)) (v':=v');rw[hdl]at g4;have ih':=ih (i+1) ω c1 l1 ee g2 g3 g4;rw[aBJ hlt,ai];have hcall:=fun(h:ah) (hh:h 2128=t3 v' c e) d=>dQ (aV.1.2.1 false) rfl (ri (d:=d) hh hc g2 g1);simp only[ae,aj]at hcall;simp only[dB]at e2;simp only[uS,go_sem,h4,h6,h22,h23,h24,k4,k6,ho,e1,e2];rw[hcall _ rfl];simp only[go_sem,e5];refine(ih' _ _ ?_ ?_ ?_ ?_ ?_ ?_ ?_).imp fun hh ⟨c',l',e',q1,q2,q3,q4,q5⟩=>⟨c',l',e',q1,q2,q3,q4,g5 _ _ _ q5⟩
  all_goals rfl
theorem abm:Rl .emp=some (I 0):=rfl
theorem Yu(h):Iq h .emp=h:=rfl
theorem adZ:fm 4 .emp none (some (I 0)) none=some .emp:=rfl
theorem ajl{h}{d}{z}{n:Nat}(h0:0<n)(h1:n<=1000000):Gh h d 4 64 z .emp (I n)=dw h d 4 (aBg n z) n []:=by
 simp only[Gh];grind
theorem ajm:R 232 [.emp,I 0] []=some (.emp,[]):=by
 refine az pW rfl ?_;have e1:((0:Int)<0)=False:=ff δ;have w1:aS (0-0)=0:=δ
 simp only[fS,go_sem,e1,w1,abm,Yu]
theorem ajn{n:Nat}(h0:0<n)(h1:n<=1000000):R 232 [.emp,I n] []=some (.osl 4 [],[]):=by
 refine az pW rfl ?_;have e1:((n:Int)<0)=False:=ff;have e2:(0< (n:Int))=True:=tt;have w0:aS (0-0)=0:=δ
 have w1:aS (n-0)=n:=wi;have e5:fm 4 (.rsl 22 none 4 0 n) none (some (I 0)) none=some (.rsl 22 none 4 0 0):=by
  simp[fm,me,lQ]
 have e4:=fun h d z=>ajl (h:=h) (d:=d) (z:=z) h0 h1;simp only[fS,go_sem,e1,e2,e4,w0,w1,abm,Yu,adZ,e5,List.take_zero]
 done
theorem af9{a b}(ha:a.length<=100000)(hb:b.length<=100000):R 188 [.sl 1 [[.sl 4 (aT a)],[.sl 4 (aT b)]]] []=some (.sl 4 (aT (a++b)),[]):=by
 refine az yX rfl ?_;have w1:aS (0+a.length)=a.length:=wi;have w2:aS (a.length+b.length)=(a.length+b.length:Nat):=wi;have e1:((a.length:Int)<0)=False:=ff;have e2:(((a.length+b.length:Nat):Int)<0)=False:=ff;have c1:(0< ((0+1+1:Nat):Int))=True:=tt δ;have c2:(1< ((0+1+1:Nat):Int))=True:=tt δ;have c3:(2< ((0+1+1:Nat):Int))=False:=ff δ;have r0:dX [[AV.sl 4 (aT a)],[.sl 4 (aT b)]] 0=some (.ipt [.sl 4 (aT a)]):=rfl;have r1:dX [[AV.sl 4 (aT a)],[.sl 4 (aT b)]] 1=some (.ipt [.sl 4 (aT b)]):=rfl;have i1:aS (0+1)=1:=δ
 have i2:aS (1+1)=2:=δ
 simp only[iV,nV,go_sem,aB0,aB1];rw[ai];simp only[mC,go_sem,c1,r0,w1,e1,i1];rw[ai];simp only[go_sem,c2,r1,w2,e2,i2];rw[ai];simp only[go_sem,c3];by_cases hz:a.length+b.length=0
 ·have ea:a=[]:=List.length_eq_zero_iff.1 ω;have eb:b=[]:=List.length_eq_zero_iff.1 ω;subst ea eb;have hg:=ajm;have a0:∀h d,NJ h d 4 64 .emp (.sl 4 [])=some (.emp,h,[]):=fun h d=>rfl;have hcr:m9 (fun _=>.dead) 24 (some (.emp,[]))=some (.emp,fun _=>.dead,[]):=rfl;rw[show aT []=[]from rfl]at*
  simp only[go_sem,hg,hcr,aB1,aBR,aBV];rw[ai];simp only[hH,go_sem,c1,r0,i1,a0];rw[ai];simp only[go_sem,c2,r1,i2,a0];rw[ai];rfl
 ·have hg:=ajn (n:=a.length+b.length) ω ω;have b1:(a.length*64<=140737488355328)=True:=tt;have b2:((a.length+b.length)*64<=140737488355328)=True:=tt;simp only[go_sem,hg,aB1];rw[ai];simp only[hH,go_sem,c1,r0,i1,b1,or_true,aBi,aBw,aB1];rw[ai];simp only[go_sem,c2,r1,i2,b2,or_true];rw[ai];simp only[go_sem,c3,aBi];have hl:(aT a++aT b).length=a.length+b.length:=by grind[List.length_append,tq]
  have hab:aT a++aT b=aT (a++b):=by simp[aT]
  rw[hl,aq (aBh _),aq rfl,hab];have h:=H2 (a++b);show some (AV.sl 4 ((aT (a++b)).map _),[])=_;rw[h]
theorem rk(h)(d)(v):m9 h d (some (.obx [I v,.emp,I 0],[]))=if bX (h (2000+8*d))=true then some (.ref (2000+8*d) none 0 0 0,upd h (2000+8*d) (.bx [I v,.emp,I 0]),[])else none:=by
 simp[m9,cM,cj,ku,gr,oE,aH,bH,mat,ez]
theorem ao9{v v'}{T}(hT:∀t∈T,VT v t)(hn:T.length<=100000)(s)(h)(X)(hX:ao 0 [4,6] (aD (ap R (aC false) uS) [4,6,22,23,24] [4,2128] s h)=X)(h4:s 4=ac 4)(h6:s 6=ac 2128)(h22:s 22=.sl 4 (aT T))(h23:s 23=I T.length)(h24:s 24=I 0)(k4:h 4=.bx [I 0,.emp])(k6:h 2128=t3 v' .emp 0):
  ∃hh c' l' e',X=some (.normal,⟨upd (upd cr 6 (ac 2128)) 4 (ac 4),hh⟩)/\
   hh 4=.bx [I 0,.emp]/\hh 2128=t3 v' c' e'/\(∀a,a≠4->a≠2128->hh a=.dead)/\ColE v [] T 0 c' l' e':=by
 subst hX;exact af8 hT hn T.length 0 (aBi _) .emp [] 0 (.inr ⟨rfl,rfl⟩) (.inl rfl) (fun _=>⟨Cl.nil _,by grind⟩) s h h4 h6 h22 h23 h24 k4 k6
theorem abn{a b}(oa:OkP a)(ob:OkP b):R 144 [bo a,bo b] []=some (pV (Ao a b),[]):=by
 refine az ady rfl ?_;have hp:=S7 oa ob;simp only[bo]at hp;unfold Ao;cases hb:B1 a b with
 |false=>
  rw[hb]at hp;simp only[Df,IP,bo,go_sem,hp];rfl
 |true=>
  rw[hb]at hp;obtain⟨va,vb,hv⟩:=mX.1 hb;obtain⟨ca,a0,a8,al⟩:=gj oa va;obtain⟨cb,b0,b8,bl⟩:=gj ob vb;rw[←hv]at cb;have hT:∀t∈a.terms++b.terms,VT a.vars t:=fun t ht=>by
   rcases List.mem_append.1 ht with ht|ht
   ·exact ca.t t ht
   ·exact cb.t t ht
  have hemp:=CT (v:=a.vars);have hcat:=af9 (a:=a.terms) (b:=b.terms) ω ω;have hl:=ao9 (v':=a.vars) hT γ;simp only[Df,IP,bo,go_sem,hp,hemp,rk,hcat,aB0,aB1];generalize hX:ao 0 [4,6] _=X;obtain⟨hh,c',l',e',rfl,q2,q3,q4,q5⟩:=hl _ _ _ hX Z Z Z Z Z Z Z;obtain⟨o,hd⟩:=DI (d:=36) q3 q5.c (by grind[cj,bX]);have hd':=dQ (bG.1.2.1 false) rfl hd;rw[q5.fin]at hd';simp only[pV,bo,go_sem,q2,hd']
theorem amj{v}{t}(vt:VT v t):R 112 [ae t.c] []=some (ae (tv t).c,[]):=by
 have h:=BX vt.c;have hvc:=vt.vc;rw[ax (by rw[hvc];exact fun h=>h.elim (fun h=>by cases h) vt.nz)]at h;exact h
def t2(v:Int)(c:AV):Ob:=.bx [I v,c]
theorem akQ{v}{c}{l}(hc:oB c l)(ids):aE ids (t2 v c)=true:=by
 rcases hc with rfl| ⟨rfl,_⟩<;>rfl
theorem aga{v v'}{a:Rp}{T}(hT:∀t∈T,VT v t)(hn:T.length<=100000){o3}(ho3:aE [2,3,4,6] o3=true):∀ (k i:Nat),i+k=T.length->∀c,oB c ((T.take i).map tv)->
  ∀s h,s 2=ac 2->s 4=ac 4->s 6=ac 6->s 18=.sl 4 (aT T)->s 19=I T.length->s 20=I i->h 2=.bx [I a.vars,.sl 4 (aT a.terms)]->h 3=o3->h 4=.bx [I 0,.emp]->h 6=t2 v' c->
  ∃hh c',ao 0 [2,4,6] (aD (ap R (aC false) qB) [2,4,6,18,19,20] [2,3,4,6] s h)=some (.normal,⟨upd (upd (upd cr 6 (ac 6)) 4 (ac 4)) 2 (ac 2),hh⟩)/\
   hh 2=.bx [I a.vars,.sl 4 (aT a.terms)]/\hh 4=.bx [I 0,.emp]/\hh 6=t2 v' c'/\(∀a,a≠2->a≠3->a≠4->a≠6->hh a=.dead)/\oB c' (T.map tv):=by
 intro k;induction k with
 |zero=>
  intro i hi c hc s h h2 h4 h6 h18 h19 h20 k2 k3 k4 k6;have e1:((i:Int)<T.length)=False:=ff;rw[aBE ω]at hc;have ho:=akQ (v:=v') hc [2,3,4,6];rw[ai];refine⟨?hh0,c,?_,?_,?_,?_,?_,hc⟩;rotate_left
  ·simp only[qB,go_sem,h2,h4,h6,h18,h19,h20,k2,k3,k4,k6,ho,ho3,e1];rfl
  ·rfl
  ·rfl
  ·rfl
  ·intro a a1 a2 a3 a4;simp only[dv,if_false, *]
 |succ k ih=>
  intro i hi c hc s h h2 h4 h6 h18 h19 h20 k2 k3 k4 k6;have hlt:i<T.length:=ω
  have e1:((i:Int)<T.length)=True:=tt;have e2:=my rfl (aBp hlt);have e5:aS (i+1)=(i+1:Nat):=wi;have hng:=amj (hT _ (aBT hlt));have ho:=akQ (v:=v') hc [2,3,4,6];have ih':=ih (i+1) ω;rw[List.take_succ_eq_append_getElem hlt,List.map_append,List.map_singleton]at ih';have hlen:((T.take i).map tv).length=i:=by rw[List.length_map,aBN];omega
  generalize T[i]=t at e2 hng ih';generalize(T.take i).map tv=l at hc ih' hlen;rw[ai];generalize aD _ _ _=L at ih'⊢;simp only[ae,aj,tv]at hng;simp only[dB]at e2;rcases hc with rfl| ⟨rfl,rfl⟩
  ·simp only[t2]at k6;have b1:((l.length+1)*64<=140737488355328)=True:=tt;simp only[qB,go_sem,h2,h4,h6,h18,h19,h20,k2,k3,k4,k6,ho3,e1,e2,hng,b1,true_or];rw[aq (by rfl),yk rfl (by rw[List.length_append,tq];rfl) rfl δ (by show 1<2;decide)];simp only[go_sem,e5];refine(ih' (.osl 4 (aT l++[[.sl 1 (aZ t.exps),B (!t.c.neg),lm t.c.m,I t.c.e]])) (.inl ?_) _ _ ?_ ?_ ?_ ?_ ?_ ?_ ?_ ?_ ?_ ?_).imp fun hh ⟨c',q⟩=>⟨c',q⟩
   ·simp[aT,dB,tv]
   all_goals rfl
  ·simp only[t2]at k6;simp only[qB,go_sem,h2,h4,h6,h18,h19,h20,k2,k3,k4,k6,ho3,e1,e2,hng];rw[aq (by rfl),yk rfl (show 1=List.length [[AV.sl 1 (aZ t.exps),B (!t.c.neg),lm t.c.m,I t.c.e]]from rfl) rfl δ (by show 1<2;decide)];simp only[go_sem,e5];refine(ih' (.osl 4 [[.sl 1 (aZ t.exps),B (!t.c.neg),lm t.c.m,I t.c.e]]) (.inl ?_) _ _ ?_ ?_ ?_ ?_ ?_ ?_ ?_ ?_ ?_ ?_).imp fun hh ⟨c',q⟩=>⟨c',q⟩
   all_goals rfl
theorem apa{v v'}{a:Rp}{T}(hT:∀t∈T,VT v t)(hn:T.length<=100000){o3}(ho3:aE [2,3,4,6] o3=true)(s)(h)(X)(hX:ao 0 [2,4,6] (aD (ap R (aC false) qB) [2,4,6,18,19,20] [2,3,4,6] s h)=X)
  (h2:s 2=ac 2) (h4:s 4=ac 4) (h6:s 6=ac 6) (h18:s 18=.sl 4 (aT T)) (h19:s 19=I T.length) (h20:s 20=I 0) (k2:h 2=.bx [I a.vars,.sl 4 (aT a.terms)]) (k3:h 3=o3) (k4:h 4=.bx [I 0,.emp]) (k6:h 6=.bx [I v',.emp]):
  ∃hh c',X=some (.normal,⟨upd (upd (upd cr 6 (ac 6)) 4 (ac 4)) 2 (ac 2),hh⟩)/\
   hh 2=.bx [I a.vars,.sl 4 (aT a.terms)]/\hh 4=.bx [I 0,.emp]/\hh 6=t2 v' c'/\(∀a,a≠2->a≠3->a≠4->a≠6->hh a=.dead)/\oB c' (T.map tv):=by
 subst hX;exact aga hT hn ho3 T.length 0 (aBi _) .emp (.inr ⟨rfl,rfl⟩) s h h2 h4 h6 h18 h19 h20 k2 k3 k4 k6
theorem amk{a b}(_oa:OkP a)(ob:OkP b)(h:B1 a b=true):OkP ⟨b.vars,b.terms.map tv⟩/\Ao a ⟨b.vars,b.terms.map tv⟩=y8 a b:=by
 obtain⟨va,vb,hv⟩:=mX.1 h;obtain⟨cb,b0,b8,bl⟩:=gj ob vb;have hp:∀l,Cl b.vars l->Cl b.vars (l.map tv):=by
  intro l;induction l with
  |nil=>exact fun c=>c
  |cons t l ih=>
   intro c;obtain⟨c1,c2,c3⟩:=c.cons;refine Cl.mk' (SX c1) (fun x hx=>?_) (ih c3);obtain⟨q,hq,rfl⟩:=List.mem_map.1 hx;exact c2 q hq
 have hn:=hp _ cb;refine⟨kS hn,?_⟩;have h2:=mX.2 ⟨va,B0 hn b0 b8 (by rw[List.length_map];exact bl),hv⟩;unfold Ao y8;rw[aq h2,aq h]
theorem aml{a b}(oa:OkP a)(ob:OkP b):R 143 [bo a,bo b] []=some (pV (y8 a b),[]):=by
 refine az adx rfl ?_;have hp:=S7 oa ob;simp only[bo]at hp;cases hb:B1 a b with
 |false=>
  rw[hb]at hp;unfold y8;rw[hb,ax aBu];simp only[De,IN,bo,go_sem,hp];rfl
 |true=>
  rw[hb]at hp;obtain⟨va,vb,hv⟩:=mX.1 hb;obtain⟨cb,b0,b8,bl⟩:=gj ob vb;obtain⟨on,e1⟩:=amk oa ob hb;have hadd:=abn oa on;rw[e1]at hadd;have hl:=apa (v':=b.vars) (a:=a) (T:=b.terms) cb.t ω (o3:=.bx [I b.vars,.sl 4 (aT b.terms)]) rfl;simp only[De,IN,bo,go_sem,hp];generalize hX:ao 0 [2,4,6] _=X;obtain⟨hh,c',rfl,q2,q3,q4,q5,q6⟩:=hl _ _ _ hX Z Z Z Z Z Z Z Z Z Z;have d1:hh 2304=.dead:=q5 _ δ δ δ δ;have d2:hh 2305=.dead:=q5 _ δ δ δ δ;generalize y8 a b=r at hadd⊢;obtain⟨r1,r2⟩:=r;simp only[pV,bo]at hadd;rcases q6 with rfl| ⟨rfl,q6⟩
  ·simp only[t2]at q4;simp only[pV,bo,go_sem,q2,q3,q4,d1,d2,zD,xe,hadd]
  ·simp only[t2]at q4;rw[q6]at hadd;rw[show aT []=[]from rfl]at hadd;simp only[pV,bo,go_sem,q2,q3,q4,d1,d2,hadd]
theorem lmB(m):(aK m).map (fun r=>match r with|[.v (.int _ x)]=>x.toNat|_=>0)=m:=by
 grind[aK,List.map_map,aBK,aB2]
theorem izB(m):(aZ m).map (fun r=>match r with|[.v (.int _ x)]=>x|_=>0)=m:=by
 grind[aZ,List.map_map,aBK,aB2]
def tmB:List AV->Rt
 |[.sl _ m1,.v (.bool n2),.sl _ m2,.v (.int _ e2)]=>⟨m1.map (fun r=>match r with|[.v (.int _ x)]=>x|_=>0),⟨n2,m2.map (fun r=>match r with|[.v (.int _ x)]=>x.toNat|_=>0),e2⟩⟩
 |_=>⟨[],aG⟩
theorem ase(t):tmB (dB t)=t:=by
 show⟨(aZ t.exps).map _,⟨t.c.neg,(aK t.c.m).map _,t.c.e⟩⟩=t;rw[lmB,izB]
def plC(a:Rp):List AV:=[I a.vars,.sl 4 (aT a.terms)]
def plR(l:List Rp):List (List AV):=l.map plC
@[go_sem] theorem aze(l):(plR l).length=l.length:=by simp[plR]
@[go_sem] theorem aws(l):(aT l).map (eP [.o 2 [],.o 0 [],.o 0 [],.o 0 []])=aT l:=by
 refine tH fun x hx=>?_;simp only[aT,aB7]at hx;obtain⟨t,ht,rfl⟩:=hx;simp only[dB,go_sem]
@[go_sem] theorem azf(l):(plR l).map (eP [.o 0 [],.o 5 [.o 2 [],.o 0 [],.o 0 [],.o 0 []]])=plR l:=by
 refine tH fun x hx=>?_;simp only[plR,aB7]at hx;obtain⟨t,ht,rfl⟩:=hx;simp only[plC,go_sem]
structure Res (r:Rp×Int):Prop where
 cl:Cl r.1.vars r.1.terms
 len:r.1.terms.length<=100000
 z:r.2=0\/r.1=p0
theorem abo(l)(n)(x):(aZ l).set n [I x]=aZ (l.set n x):=by simp[aZ,List.map_set]
theorem ajo{a b}{i:Nat}{x y}(hx:a[i]?=some x)(hy:b[i]?=some y):(jX a b)[i]?=some (x+y):=by
 unfold jX;rw[List.getElem?_zipWith,hx,hy]
def J4(a b:List Int)(i:Nat):List Int:=(jX a b).take i++a.drop i
theorem amm{a b}(h:a.length=b.length){i}{x}(hx:a[i]?=some x):(J4 a b i)[i]?=some x:=by
 have hlt:=(List.getElem?_eq_some_iff.1 hx).1;unfold J4;rw[List.getElem?_append_right (by rw[aBN,Ap h];omega),aBN,Ap h,List.getElem?_drop,show i+(i-min i a.length)=i by omega];exact hx
theorem amn{a b}(h:a.length=b.length){i}{x y}(hx:a[i]?=some x)(hy:b[i]?=some y):(J4 a b i).set i (x+y)=J4 a b (i+1):=by
 have hlt:=(List.getElem?_eq_some_iff.1 hx).1;have hg:=ajo hx hy;have hlen:=Ap h;unfold J4;have ht:((jX a b).take i).length=i:=by rw[aBN];omega
 rw[List.set_append_right _ _ ω,ht,Nat.sub_self,aBJ hlt,List.set_cons_zero,List.take_succ_eq_append_getElem ω,aCd];have:=(List.getElem?_eq_some_iff.1 hg).2;rw[this];rfl
theorem amo{a b}(h:a.length=b.length){i}(hi:a.length<=i):J4 a b i=jX a b:=by
 unfold J4;rw[aBE (by rw[Ap h];omega),aBQ hi,aBz]
theorem agc{v}{p q}(vp:VT v p)(vq:VT v q){A Bt}{nA iA nB iB}{o2 o3 o4 o8 o10 o11 o2352}(c2:aE [2,3,4,8,10,11,2352,2576] o2=true)(c3:aE [2,3,4,8,10,11,2352,2576] o3=true)(c4:aE [2,3,4,8,10,11,2352,2576] o4=true)(c8:aE [2,3,4,8,10,11,2352,2576] o8=true)(c10:aE [2,3,4,8,10,11,2352,2576] o10=true)(c11:aE [2,3,4,8,10,11,2352,2576] o11=true)(cc:aE [2,3,4,8,10,11,2352,2576] o2352=true):
  ∀k i,i+k=p.exps.length->∀s h,s 3=ac 3->s 4=ac 4->s 6=ac 2352->s 8=ac 8->s 11=ac 11->s 13=.rsl 2576 none 1 0 p.exps.length->s 46=.sl 4 (aT A)->s 47=I nA->s 48=I iA->s 53=.sl 4 (aT Bt)->s 54=I nB->s 55=I iB->s 74=.sl 1 (aZ q.exps)->s 75=I q.exps.length->s 76=I i->h 2=o2->h 3=o3->h 4=o4->h 8=o8->h 10=o10->h 11=o11->h 2352=o2352->h 2576=.ar 1 (aZ (J4 p.exps q.exps i))->
  ∃hh,ao 5 [3,4,6,8,11,13,46,47,48,53,54,55] (aD (ap R (aC false) lB) [3,4,6,8,11,13,46,47,48,53,54,55,74,75,76] [2,3,4,8,10,11,2352,2576] s h)=some (.normal,⟨upd (upd (upd (upd (upd (upd (upd (upd (upd (upd (upd (upd cr 55 (I iB)) 54 (I nB)) 53 (.sl 4 (aT Bt))) 48 (I iA)) 47 (I nA)) 46 (.sl 4 (aT A))) 13 (.rsl 2576 none 1 0 p.exps.length)) 11 (ac 11)) 8 (ac 8)) 6 (ac 2352)) 4 (ac 4)) 3 (ac 3),hh⟩)/\
   hh 2=o2/\hh 3=o3/\hh 4=o4/\hh 8=o8/\hh 10=o10/\hh 11=o11/\hh 2352=o2352/\hh 2576=.ar 1 (aZ (jX p.exps q.exps))/\∀a,a≠2->a≠3->a≠4->a≠8->a≠10->a≠11->a≠2352->a≠2576->hh a=.dead:=by
 have hl:=vp.l2 vq;have hs:=vp.ok.len;intro k;induction k with
 |zero=>
  intro i hi s h g3 g4 g6 g8 g11 g13 g46 g47 g48 g53 g54 g55 g74 g75 g76 k2 k3 k4 k8 k10 k11 k2352 k2576;have e1:(i< (q.exps.length:Int))=False:=ff;rw[amo hl ω]at k2576;rw[ai];refine⟨?hh0,?_,?_,?_,?_,?_,?_,?_,?_,?_,?_⟩;rotate_left
  ·simp only[lB,go_sem,g3,g4,g6,g8,g11,g13,g46,g47,g48,g53,g54,g55,g74,g75,g76,k2,k3,k4,k8,k10,k11,k2352,k2576,c2,c3,c4,c8,c10,c11,cc,e1];rfl
  all_goals first|rfl| (intro a a1 a2 a3 a4 a5 a6 a7 a8;simp only[dv,if_false, *])
 |succ k ih=>
  intro i hi s h g3 g4 g6 g8 g11 g13 g46 g47 g48 g53 g54 g55 g74 g75 g76 k2 k3 k4 k8 k10 k11 k2352 k2576;have hlt:i<p.exps.length:=ω
  have hlt2:i<q.exps.length:=ω
  have e1:(i< (q.exps.length:Int))=True:=tt;have hq:=aBp hlt2;have hp:=aBp hlt;have e2:=yf rfl hq;have e3:=amm hl hp (b:=q.exps);have e3':(aZ (J4 p.exps q.exps i))[i]?=some [I p.exps[i]]:=by simp[aZ,e3]
  have e4:=amn hl hp hq;have b1:=vp.b _ (aBT hlt);have b2:=vq.b _ (aBT hlt2);have e5:aS (i+1)=(i+1:Nat):=wi;have e6:(0<=(i:Int)/\i< (p.exps.length:Int))=True:=eq_true ⟨by omega,by omega⟩;have e7:aS (p.exps[i]+q.exps[i])=p.exps[i]+q.exps[i]:=i64_in _ ⟨by omega,by omega⟩;have ih':=ih (i+1) ω;rw[←e4,←abo]at ih';generalize p.exps[i]=x at e3' e7 ih';generalize q.exps[i]=y at e2 e7 ih';rw[ai];generalize aD _ _ _=L at ih'⊢;simp only[lB,go_sem,g3,g4,g6,g8,g11,g13,g46,g47,g48,g53,g54,g55,g74,g75,g76,k2,k3,k4,k8,k10,k11,k2352,k2576,c2,c3,c4,c8,c10,c11,cc,e1,e2,e3',e5,e6,e7,aBr,aBi];apply ih'<;>rfl
theorem apc{v}{p q}(vp:VT v p)(vq:VT v q){A Bt}{nA iA nB iB}{o2 o3 o4 o8 o10 o11 o2352}(s)(h)(X)(hX:ao 5 [3,4,6,8,11,13,46,47,48,53,54,55] (aD (ap R (aC false) lB) [3,4,6,8,11,13,46,47,48,53,54,55,74,75,76] [2,3,4,8,10,11,2352,2576] s h)=X)
  (g3:s 3=ac 3) (g4:s 4=ac 4) (g6:s 6=ac 2352) (g8:s 8=ac 8) (g11:s 11=ac 11) (g13:s 13=.rsl 2576 none 1 0 p.exps.length) (g46:s 46=.sl 4 (aT A)) (g47:s 47=I nA) (g48:s 48=I iA) (g53:s 53=.sl 4 (aT Bt)) (g54:s 54=I nB) (g55:s 55=I iB) (g74:s 74=.sl 1 (aZ q.exps)) (g75:s 75=I q.exps.length) (g76:s 76=I 0) (k2:h 2=o2) (k3:h 3=o3) (k4:h 4=o4) (k8:h 8=o8) (k10:h 10=o10) (k11:h 11=o11) (k2352:h 2352=o2352) (k2576:h 2576=.ar 1 (aZ p.exps)) (c2:aE [2,3,4,8,10,11,2352,2576] o2=true) (c3:aE [2,3,4,8,10,11,2352,2576] o3=true) (c4:aE [2,3,4,8,10,11,2352,2576] o4=true) (c8:aE [2,3,4,8,10,11,2352,2576] o8=true) (c10:aE [2,3,4,8,10,11,2352,2576] o10=true) (c11:aE [2,3,4,8,10,11,2352,2576] o11=true) (c2352:aE [2,3,4,8,10,11,2352,2576] o2352=true):
  ∃hh,X=some (.normal,⟨upd (upd (upd (upd (upd (upd (upd (upd (upd (upd (upd (upd cr 55 (I iB)) 54 (I nB)) 53 (.sl 4 (aT Bt))) 48 (I iA)) 47 (I nA)) 46 (.sl 4 (aT A))) 13 (.rsl 2576 none 1 0 p.exps.length)) 11 (ac 11)) 8 (ac 8)) 6 (ac 2352)) 4 (ac 4)) 3 (ac 3),hh⟩)/\hh 2=o2/\hh 3=o3/\hh 4=o4/\hh 8=o8/\hh 10=o10/\hh 11=o11/\hh 2352=o2352/\hh 2576=.ar 1 (aZ (jX p.exps q.exps))/\∀a,a≠2->a≠3->a≠4->a≠8->a≠10->a≠11->a≠2352->a≠2576->hh a=.dead:=by
 subst hX;have hc:J4 p.exps q.exps 0=p.exps:=by simp[J4]
 rw[←hc]at k2576;exact agc vp vq c2 c3 c4 c8 c10 c11 c2352 p.exps.length 0 (aBi _) s h g3 g4 g6 g8 g11 g13 g46 g47 g48 g53 g54 g55 g74 g75 g76 k2 k3 k4 k8 k10 k11 k2352 k2576
theorem ColE.stepN{v}{l}{t}{c}(hc:oB c l){e}(he:e=0\/e=9)(N)(hC:e=0->Cl v l/\l.length+N+1<=1000000)(vt:VT v t){v'}:
  ∃c1 l1 e1,R 80 [ac 1000,.sl 1 (aZ t.exps),ae t.c] [t3 v' c e]=some (.tup [],[t3 v' c1 e1])/\oB c1 l1/\(e1=0\/e1=9)/\(e1=0->Cl v l1/\l1.length+N<=1000000)/\∀ts c' l' e',ColE v l1 ts e1 c' l' e'->ColE v l (t::ts) e c' l' e':=by
 obtain⟨c1,l1,e1,g1,g2,g3,g4,_⟩:=ColE.step (ts:=aBg N t) hc he (by rw[aCk];exact hC) vt (v':=v');rw[aCk]at g4;refine⟨c1,l1,e1,g1,g2,g3,g4,fun ts c' l' e' h=>?_⟩;rcases he with rfl|rfl
 ·obtain⟨h1,h2⟩:=hC rfl;obtain⟨c2,l2,e2,k1,k2,k3⟩:=SW (v':=v') h1 vt ω hc;rw[k1]at g1;simp only[Option.some.injEq,Prod.mk.injEq,List.cons.injEq,and_true,true_and,t3,Ob.bx.injEq,AV.v.injEq,Value.int.injEq]at g1;obtain⟨rfl,rfl⟩:=g1;have hl:l2=l1:=by
   rcases k2 with rfl| ⟨rfl,rfl⟩
   ·rcases g2 with g2| ⟨g2,_⟩
    ·simp only[AV.osl.injEq,true_and]at g2;have:=congrArg (List.map tmB) g2;unfold aT at this;rw[List.map_map,List.map_map]at this;have hid:∀l:List Rt,l.map (tmB∘dB)=l:=fun l=>(aBK (g:=fun c=>c) fun x _=>ase x).trans (aB2 l);rw[hid,hid]at this;exact this
    ·cases g2
   ·rcases g2 with g2| ⟨_,g2⟩
    ·cases g2
    ·exact g2.symm
  subst hl;refine⟨h.c,?_⟩;rcases k3 with⟨g,k⟩| ⟨g,k,_⟩
  ·subst g;rcases h.r with⟨q1,_,q2⟩| ⟨q1,q2⟩
   ·refine .inl ⟨q1,rfl,?_⟩;unfold kT;rw[k];exact q2
   ·refine .inr ⟨q1,fun _=>?_⟩;unfold kT;rw[k];exact q2 rfl
  ·subst g;rcases h.r with⟨_,q1,_⟩| ⟨q1,_⟩
   ·omega
   ·refine .inr ⟨q1,fun _=>?_⟩;unfold kT;rw[k];rfl
 ·refine⟨h.c,?_⟩;have:=Ym (v:=v') (x:=.sl 1 (aZ t.exps)) (d:=t.c) hc (by decide:(9:Int)≠0);rw[this]at g1;simp only[Option.some.injEq,Prod.mk.injEq,List.cons.injEq,and_true,true_and,t3,Ob.bx.injEq,AV.v.injEq,Value.int.injEq]at g1;obtain⟨_,rfl⟩:=g1;rcases h.r with⟨_,q1,_⟩| ⟨q1,_⟩
  ·omega
  ·exact .inr ⟨q1,fun h=>by omega⟩
def Jp(blk:Option (Ex×St))(S:aN)(o2 o3:Ob)(v v':Int)(l:List Rt)(e:Int):Option (List Rt)->Prop
 |some r=>∃hh c' l' e',blk=some (.normal,⟨S,hh⟩)/\hh 2=o2/\hh 3=o3/\hh 4=.bx [I 0,.emp]/\hh 2352=t3 v' c' e'/\(∀a,a≠2->a≠3->a≠4->a≠8->a≠2352->hh a=.dead)/\ColE v l r e c' l' e'
 |none=>∃hh,blk=some (.ret,⟨upd (upd cr 5 (I 9)) 4 (ac 4),hh⟩)/\hh 4=.bx [I 0,.emp]
theorem agd{v v'}{p}(vp:VT v p){A Bt}(hB:∀q∈Bt,VT v q/\bO p.exps+bO q.exps<=32)(hn:Bt.length<=100000){nA iA}{o2}(c2:∀ids,aE ids o2=true){vb}:
  ∀ (k i:Nat),i+k=Bt.length->∀c l e,oB c l->(e=0\/e=9)->(e=0->Cl v l/\l.length+k<=1000000)->∀s h,s 3=ac 3->s 4=ac 4->s 6=ac 2352->s 8=ac 8->s 46=.sl 4 (aT A)->s 47=I nA->s 48=I iA->s 53=.sl 4 (aT Bt)->s 54=I Bt.length->s 55=I i->h 2=o2->h 3=.bx [I vb,.sl 4 (aT Bt)]->h 4=.bx [I 0,.emp]->h 8=.bx (dB p)->h 2352=t3 v' c e->
  Jp (ao 3 [3,4,6,46,47,48] (aD (ap R (aC false) lC) [3,4,6,8,46,47,48,53,54,55] [2,3,4,8,2352] s h)) (upd (upd (upd (upd (upd (upd cr 48 (I iA)) 47 (I nA)) 46 (.sl 4 (aT A))) 6 (ac 2352)) 4 (ac 4)) 3 (ac 3)) o2 (.bx [I vb,.sl 4 (aT Bt)]) v v' l e (oC p (Bt.drop i)):=by
 intro k;induction k with
 |zero=>
  intro i hi c l e hc he hC s h g3 g4 g6 g8 g46 g47 g48 g53 g54 g55 k2 k3 k4 k8 k2352;have e1:(i< (Bt.length:Int))=False:=ff;have ho:=(mM (v:=v') (e:=e) hc).cl [2,3,4,8,2352];have ho2:=c2 [2,3,4,8,2352];rw[aBQ ω,ai];simp only[dB]at k8;refine⟨?hh0,c,l,e,?_,?_,?_,?_,?_,?_,⟨hc,?_⟩⟩;rotate_left
  ·simp only[lC,go_sem,g3,g4,g6,g8,g46,g47,g48,g53,g54,g55,k2,k3,k4,k8,k2352,ho,ho2,e1];rfl
  ·rfl
  ·rfl
  ·rfl
  ·rfl
  ·intro a a1 a2 a3 a4 a5;simp only[dv,if_false, *]
  ·rcases he with rfl|rfl
   ·exact .inl ⟨rfl,rfl,rfl⟩
   ·exact .inr ⟨rfl,fun h=>by omega⟩
 |succ k ih=>
  intro i hi c l e hc he hC s h g3 g4 g6 g8 g46 g47 g48 g53 g54 g55 k2 k3 k4 k8 k2352;have hlt:i<Bt.length:=ω
  have e1:((i:Int)< (Bt.length:Int))=True:=tt;have e2:=my rfl (aBp hlt);have e5:aS ((i:Int)+1)=((i+1:Nat):Int):=wi;have ho:=(mM (v:=v') (e:=e) hc).cl;obtain⟨vq,hd⟩:=hB _ (aBT hlt);have hmul:=SQ vp.c vq.c;have hdl:(Bt.drop (i+1)).length=k:=by rw[List.length_drop];omega
  rw[aBJ hlt];have ih':=ih (i+1) ω;have hrow:∀q ts,oC p (q::ts)=(Mm p q).bind fun x=>(oC p ts).map (x::·):=fun q ts=>rfl;rw[hrow];generalize hqq:Bt[i]=q at e2 vq hd hmul⊢;have hVT:=fun x=>Yr (x:=x) vp vq hd;rw[ai];generalize aD _ _ _=L at ih'⊢;unfold Mm at hVT⊢;have ho1:=ho [2,3,4,8,2352];have ho2:=c2 [2,3,4,8,2352];have hle:=vp.l2 vq;simp only[dB]at k8 e2;generalize gS p.c q.c=m at hmul hVT⊢;obtain⟨m,em⟩:=m;simp only[rV,ae,aj]at hmul;by_cases hm:em=0
  ·subst hm;simp only[if_true,aBl]at hVT⊢;have vx:=hVT _ rfl;obtain⟨c1,l1,e1',s1,s2,s3,s4,s5⟩:=ColE.stepN (t:=⟨jX p.exps q.exps,m⟩) hc he k (fun h=>by have:=hC h;exact⟨this.1,by omega⟩) vx (v':=v');have ih2:=ih' c1 l1 e1' s2 s3 s4;have hcall:=fun(h:ah) (hh:h 2352=t3 v' c e) d=>dQ (aV.1.2.1 false) rfl (ri (d:=d) hh hc s2 s1);simp only[ae,aj]at hcall;have hpush:∀ (S:aN) (H:ah),Jp (ao 3 [3,4,6,46,47,48] (L S H)) (upd (upd (upd (upd (upd (upd cr 48 (I iA)) 47 (I nA)) 46 (.sl 4 (aT A))) 6 (ac 2352)) 4 (ac 4)) 3 (ac 3)) o2 (.bx [I vb,.sl 4 (aT Bt)]) v v' l1 e1' (oC p (Bt.drop (i+1)))->Jp (ao 3 [3,4,6,46,47,48] (L S H)) (upd (upd (upd (upd (upd (upd cr 48 (I iA)) 47 (I nA)) 46 (.sl 4 (aT A))) 6 (ac 2352)) 4 (ac 4)) 3 (ac 3)) o2 (.bx [I vb,.sl 4 (aT Bt)]) v v' l e ((oC p (Bt.drop (i+1))).map (⟨jX p.exps q.exps,m⟩::·)):=fun S H h=>by
    cases hr:oC p (Bt.drop (i+1))with
    |none=>rw[hr]at h;exact h
    |some r=>
     rw[hr]at h;obtain⟨hh,c',l',e',q1,q2,q3,q4,q5,q6,q7⟩:=h;exact⟨hh,c',l',e',q1,q2,q3,q4,q5,q6,s5 _ _ _ _ q7⟩
   cases hx:p.exps with
   |nil=>
    have hcl:R 132 [lm []] []=some (lm [],[]):=Uq;have hq0:=List.length_eq_zero_iff.1 (by rw[←hle,hx];rfl);rw[hx]at hpush;rw[hx,hq0]at hcall;rw[hx]at k8;rw[hq0]at e2;have i0:aZ []=[]:=rfl;have a0:jX [] []=[]:=rfl;have z0:((0:Int)<0)=False:=ff δ;have ho2':=c2 [2,3,4,8,10,11,2352,2576];have ho1':=ho [2,3,4,8,10,11,2352,2576];rw[i0]at k8 e2;rw[a0,i0,aoJ]at hcall;simp only[lC,go_sem,g3,g4,g6,g8,g46,g47,g48,g53,g54,g55,k2,k3,k4,k8,k2352,ho1,ho2,e1,e2,hmul,hcl,aB1,aBV];rw[ai];simp only[lB,go_sem,ho1',ho2',z0];rw[hcall _ rfl];simp only[go_sem,e5];refine hpush _ _ (ih2 _ _ Z Z Z Z Z Z Z Z Z Z Z Z Z ?_ rfl);simp only[dB,hx];rfl
   |cons x xs=>
    have hcl:R 132 [.sl 1 (aZ p.exps)] []=some (.osl 1 (aZ p.exps),[]):=by
     rw[hx];exact Ur (by have:=vp.ok.len;rw[hx]at this;simp at this;omega)
    rw[←hx];have hX0:=apc vp vq (A:=A) (Bt:=Bt) (nA:=nA) (iA:=iA) (nB:=Bt.length) (iB:=i) (o2:=o2) (o3:=.bx [I vb,.sl 4 (aT Bt)]) (o4:=.bx [I 0,.emp]) (o8:=.bx [.sl 1 (aZ p.exps),B p.c.neg,lm p.c.m,I p.c.e]) (o10:=.bx [.sl 1 (aZ q.exps),B q.c.neg,lm q.c.m,I q.c.e]) (o11:=.bx [B m.neg,lm m.m,I m.e]) (o2352:=t3 v' c e);have k9:=aBE (by rw[EJ,Ap hle];exact aBh _);have k8l:=Ap hle;simp only[lC,go_sem,g3,g4,g6,g8,g46,g47,g48,g53,g54,g55,k2,k3,k4,k8,k2352,ho1,ho2,e1,e2,hmul,hcl];generalize hXX:ao 5 _ _=X;obtain⟨hh,rfl,q2,q3,q4,q8,q10,q11,qc,q25,qd⟩:=hX0 _ _ _ hXX Z Z Z Z Z Z Z Z Z Z Z Z Z Z Z Z Z Z Z Z Z Z Z (c2 _) Z Z Z Z Z (ho _);simp only[go_sem,q11,q25,k9,k8l,aBi,aBh];rw[hcall (upd hh 2576 (.fz 1 (aZ (jX p.exps q.exps)))) (by rw[dv,ax δ];exact qc)];simp only[go_sem,e5];refine hpush _ _ (ih2 _ _ ?_ ?_ ?_ ?_ ?_ ?_ ?_ ?_ ?_ ?_ ?_ ?_ ?_ ?_ ?_)
    all_goals first|rfl| (simp only[dv,Nat.reduceEqDiff,↓reduceIte, *];done)| (simp only[dv,Nat.reduceEqDiff,↓reduceIte,q8];rfl)
  ·have f1:=ff hm;simp only[ax hm,Option.bind_none];refine⟨?hh1,?_,?_⟩;rotate_left
   ·simp only[lC,go_sem,g3,g4,g6,g8,g46,g47,g48,g53,g54,g55,k2,k3,k4,k8,k2352,ho1,ho2,e1,e2,hmul,f1];rfl
   ·rfl
theorem apd{v v'}{p}(vp:VT v p){A Bt}(hB:∀q∈Bt,VT v q/\bO p.exps+bO q.exps<=32)(hn:Bt.length<=100000){nA iA}{o2}(c2:∀ids,aE ids o2=true){vb}
  {c} {l} {e} (hc:oB c l) (he:e=0\/e=9) (hC:e=0->Cl v l/\l.length+Bt.length<=1000000) (s) (h) (X) (hX:ao 3 [3,4,6,46,47,48] (aD (ap R (aC false) lC) [3,4,6,8,46,47,48,53,54,55] [2,3,4,8,2352] s h)=X)
  (g3:s 3=ac 3) (g4:s 4=ac 4) (g6:s 6=ac 2352) (g8:s 8=ac 8) (g46:s 46=.sl 4 (aT A)) (g47:s 47=I nA) (g48:s 48=I iA) (g53:s 53=.sl 4 (aT Bt)) (g54:s 54=I Bt.length) (g55:s 55=I 0) (k2:h 2=o2) (k3:h 3=.bx [I vb,.sl 4 (aT Bt)]) (k4:h 4=.bx [I 0,.emp]) (k8:h 8=.bx [.sl 1 (aZ p.exps),B p.c.neg,lm p.c.m,I p.c.e]) (k2352:h 2352=t3 v' c e):
  Jp X (upd (upd (upd (upd (upd (upd cr 48 (I iA)) 47 (I nA)) 46 (.sl 4 (aT A))) 6 (ac 2352)) 4 (ac 4)) 3 (ac 3)) o2 (.bx [I vb,.sl 4 (aT Bt)]) v v' l e (oC p Bt):=by
 subst hX;exact agd vp hB hn c2 Bt.length 0 (aBi _) c l e hc he hC s h g3 g4 g6 g8 g46 g47 g48 g53 g54 g55 k2 k3 k4 k8 k2352
theorem ColE.app{v}{l r r2}{e}{c1}{l1}{e1}{c'}{l'}{e'}(h1:ColE v l r e c1 l1 e1)(h2:ColE v l1 r2 e1 c' l' e'):ColE v l (r++r2) e c' l' e':=by
 refine⟨h2.c,?_⟩;rw[Yk];rcases h1.r with⟨a1,a2,a3⟩| ⟨a1,a2⟩
 ·rw[a3];rcases h2.r with⟨b1,b2,b3⟩| ⟨b1,b2⟩
  ·exact .inl ⟨b1,a2,b3⟩
  ·exact .inr ⟨b1,fun _=>b2 a1⟩
 ·rcases h2.r with⟨b1,b2,b3⟩| ⟨b1,b2⟩
  ·omega
  ·exact .inr ⟨b1,fun h=>by rw[a2 h];rfl⟩
theorem ColE.nx{v}{l r}{e}{c1}{l1}{e1}(h:ColE v l r e c1 l1 e1)(hC:e=0->Cl v l)(hr:∀t∈r,VT v t):(e1=0\/e1=9)/\(e1=0->e=0/\Cl v l1/\l1.length<=l.length+r.length):=by
 rcases h.r with⟨a1,a2,a3⟩| ⟨a1,a2⟩
 ·exact⟨.inl a1,fun _=>⟨a2,AM (hC a2) hr a3⟩⟩
 ·exact⟨.inr a1,fun h=>by omega⟩
theorem age{v v'}{A Bt}(hA:∀p∈A,VT v p)(hB:∀q∈Bt,VT v q)(hd:∀p∈A,∀q∈Bt,bO p.exps+bO q.exps<=32)(hn:Bt.length<=1000)(hm:A.length<=1000){o2}(c2:∀ids,aE ids o2=true){vb}:
  ∀ (k i:Nat),i+k=A.length->∀c l e,oB c l->(e=0\/e=9)->(e=0->Cl v l/\l.length+k*Bt.length<=1000000)->∀s h,s 3=ac 3->s 4=ac 4->s 6=ac 2352->s 46=.sl 4 (aT A)->s 47=I A.length->s 48=I i->h 2=o2->h 3=.bx [I vb,.sl 4 (aT Bt)]->h 4=.bx [I 0,.emp]->h 2352=t3 v' c e->
  Jp (ao 1 [4,6] (aD (ap R (aC false) uM) [3,4,6,46,47,48] [2,3,4,2352] s h)) (upd (upd cr 6 (ac 2352)) 4 (ac 4)) o2 (.bx [I vb,.sl 4 (aT Bt)]) v v' l e (l8 (A.drop i) Bt):=by
 intro k;induction k with
 |zero=>
  intro i hi c l e hc he hC s h g3 g4 g6 g46 g47 g48 k2 k3 k4 k2352;have e1:(i< (A.length:Int))=False:=ff;have ho:=(mM (v:=v') (e:=e) hc).cl [2,3,4,2352];have ho2:=c2 [2,3,4,2352];rw[aBQ ω,ai];refine⟨?hh0,c,l,e,?_,?_,?_,?_,?_,?_,⟨hc,?_⟩⟩;rotate_left
  ·simp only[uM,go_sem,g3,g4,g6,g46,g47,g48,k2,k3,k4,k2352,ho,ho2,e1];rfl
  ·rfl
  ·rfl
  ·rfl
  ·rfl
  ·intro a a1 a2 a3 a4 a5;simp only[dv,if_false, *]
  ·rcases he with rfl|rfl
   ·exact .inl ⟨rfl,rfl,rfl⟩
   ·exact .inr ⟨rfl,fun h=>by omega⟩
 |succ k ih=>
  intro i hi c l e hc he hC s h g3 g4 g6 g46 g47 g48 k2 k3 k4 k2352;have hlt:i<A.length:=ω
  have e1:(i< (A.length:Int))=True:=tt;have e2:=my rfl (aBp hlt);have e5:aS (i+1)=(i+1:Nat):=wi;have ho:=(mM (v:=v') (e:=e) hc).cl;have vp:=hA _ (aBT hlt);have hdp:=hd _ (aBT hlt);rw[aBJ hlt];have ih':=ih (i+1) ω;have hall:∀q ts,l8 (q::ts) Bt=(oC q Bt).bind fun r=>(l8 ts Bt).map (r++·):=fun q ts=>rfl;rw[hall];generalize A[i]=p at e2 vp hdp⊢;have hl1:=apd vp (A:=A) (Bt:=Bt) (nA:=A.length) (iA:=i) (fun q hq=>⟨hB q hq,hdp q hq⟩) ω c2 (vb:=vb) (v':=v') hc he (fun h=>by have:=hC h;rw[Nat.succ_mul]at this;exact⟨this.1,by omega⟩);have hRV:=fun r=>Ln (r:=r) vp (fun q hq=>⟨hB q hq,hdp q hq⟩);rw[ai];generalize aD _ _ _=L at ih'⊢;have ho1:=ho [2,3,4,2352];have ho2:=c2 [2,3,4,2352];simp only[dB]at e2;simp only[uM,go_sem,g3,g4,g6,g46,g47,g48,k2,k3,k4,k2352,ho1,ho2,e1,e2];generalize hXX:ao 3 _ _=X;have hM:=hl1 _ _ _ hXX Z Z Z Z Z Z Z Z Z Z Z Z Z Z Z;cases hr:oC p Bt with
  |none=>
   rw[hr]at hM;obtain⟨hh,rfl,q4⟩:=hM;refine⟨hh,?_,q4⟩;simp only[go_sem]
  |some r=>
   rw[hr]at hM;obtain⟨hh,c1,l1,e1',rfl,q2,q3,q4,qc,qd,qe⟩:=hM;obtain⟨w1,w2⟩:=hRV r hr;obtain⟨n1,n2⟩:=qe.nx (fun h=>(hC h).1) w1;have ih2:=ih' c1 l1 e1' qe.c n1 (fun h=>by
    obtain⟨m1,m2,m3⟩:=n2 h;have:=(hC m1).2;rw[Nat.succ_mul]at this;exact⟨m2,by omega⟩)
   simp only[aBl];have hpush:∀S H,Jp (ao 1 [4,6] (L S H)) (upd (upd cr 6 (ac 2352)) 4 (ac 4)) o2 (.bx [I vb,.sl 4 (aT Bt)]) v v' l1 e1' (l8 (A.drop (i+1)) Bt)->Jp (ao 1 [4,6] (L S H)) (upd (upd cr 6 (ac 2352)) 4 (ac 4)) o2 (.bx [I vb,.sl 4 (aT Bt)]) v v' l e ((l8 (A.drop (i+1)) Bt).map (r++·)):=fun S H h=>by
    cases hr2:l8 (A.drop (i+1)) Bt with
    |none=>rw[hr2]at h;exact h
    |some r2=>
     rw[hr2]at h;obtain⟨hh,c',l',e',q1,q2,q3,q4,q5,q6,q7⟩:=h;exact⟨hh,c',l',e',q1,q2,q3,q4,q5,q6,qe.app q7⟩
   simp only[go_sem,e5];refine hpush _ _ (ih2 _ _ ?_ ?_ ?_ ?_ ?_ ?_ ?_ ?_ ?_ ?_)
   all_goals first|rfl|assumption
theorem ape{v v'}{A Bt}(hA:∀p∈A,VT v p)(hB:∀q∈Bt,VT v q)(hd:∀p∈A,∀q∈Bt,bO p.exps+bO q.exps<=32)(hn:Bt.length<=500)(hm:A.length<=500){o2}(c2:∀ids,aE ids o2=true){vb}
  (s) (h) (X) (hX:ao 1 [4,6] (aD (ap R (aC false) uM) [3,4,6,46,47,48] [2,3,4,2352] s h)=X) (g3:s 3=ac 3) (g4:s 4=ac 4) (g6:s 6=ac 2352) (g46:s 46=.sl 4 (aT A)) (g47:s 47=I A.length) (g48:s 48=I 0) (k2:h 2=o2) (k3:h 3=.bx [I vb,.sl 4 (aT Bt)]) (k4:h 4=.bx [I 0,.emp]) (k2352:h 2352=.bx [I v',.emp,I 0]):
  Jp X (upd (upd cr 6 (ac 2352)) 4 (ac 4)) o2 (.bx [I vb,.sl 4 (aT Bt)]) v v' [] 0 (l8 A Bt):=by
 subst hX;exact age hA hB hd ω ω c2 A.length 0 (aBi _) .emp [] 0 (.inr ⟨rfl,rfl⟩) (.inl rfl) (fun _=>⟨Cl.nil _,by
  have:=Nat.mul_le_mul hm hn;show 0+_<=_;omega⟩) s h g3 g4 g6 g46 g47 g48 k2 k3 k4 k2352
theorem apf{v}{t}(h:VT v t):0<=bO t.exps:=(EK fun x hx=>(h.b x hx).1).1
theorem abp{a}(oa:OkP a):-1<=mA a/\mA a<=32:=by
 unfold mA;split
 ·rename_i h;cases hg:a.terms.getLast? with
  |none=>simp
  |some t=>
   have vt:=(gj oa h).1.t t (List.mem_of_getLast? hg);have:=apf vt;have:=vt.d;simp only[];omega
 ·omega
theorem amp{a b}(oa:OkP a)(ob:OkP b):R 76 [bo a,bo b] []=some (pV (vO a b),[]):=by
 refine az adu rfl ?_;have hp:=S7 oa ob;have hda:=GI oa;have hdb:=GI ob;have bda:=abp oa;have bdb:=abp ob;simp only[bo]at hp hda hdb;unfold vO;cases hb:B1 a b with
 |false=>
  rw[hb]at hp;rw[ax aBu];simp only[rC,xL,bo,go_sem,hp];rfl
 |true=>
  rw[hb]at hp;rw[aq rfl];obtain⟨va,vb,hv⟩:=mX.1 hb;obtain⟨ka,a0,a8,al⟩:=gj oa va;obtain⟨kb,b0,b8,bl⟩:=gj ob vb;rw[←hv]at kb;have w1:aS (mA a+mA b)=mA a+mA b:=i64_in _ ⟨by omega,by omega⟩;by_cases hd:a.terms.length≠0/\b.terms.length≠0/\32<mA a+mA b
  ·rw[aq hd];have e1:(0< (a.terms.length:Int))=True:=tt;have e2:(0< (b.terms.length:Int))=True:=tt;have e3:=eq_true hd.2.2;simp only[rC,xL,bo,go_sem,hp,hda,hdb,w1,e1,e2,e3];rfl
  ·rw[ax hd];have hf:=Jn oa ob va vb hd;have hemp:=CT (v:=a.vars);have hl:=ape (v':=a.vars) (A:=a.terms) (Bt:=b.terms) ka.t kb.t hf ω ω (o2:=.bx [I a.vars,.sl 4 (aT a.terms)]) (fun _=>rfl) (vb:=b.vars);have fin:∀X,Jp X (upd (upd cr 6 (ac 2352)) 4 (ac 4)) (.bx [I a.vars,.sl 4 (aT a.terms)]) (.bx [I b.vars,.sl 4 (aT b.terms)]) a.vars a.vars [] 0 (l8 a.terms b.terms)->
     lI false [[.o 0 [],.o 5 [.o 2 [],.o 0 [],.o 2 [],.o 0 []]],[]] [.cell 4 2 true,.t 5] 0 (dD X (ap R (aC false) (.seq (.ops [4,5] [cm 95 6,ca 96 81 [.t 95],co 97 (.ext 0 (.t 96)),co 98 (.ext 1 (.t 96)),sr 2 (.t 4) (.t 97),cm 5 98]) .ret)))=some (pV (pZ a.vars ((l8 a.terms b.terms).bind (kT []))),[]):=by
    intro X hM;cases hr:l8 a.terms b.terms with
    |none=>
     rw[hr]at hM;obtain⟨hh,rfl,q4⟩:=hM;simp only[Option.bind_none,pZ,pV,p0,bo,go_sem,q4];rfl
    |some r=>
     rw[hr]at hM;obtain⟨hh,c',l',e',rfl,q2,q3,q4,qc,qd,qe⟩:=hM;obtain⟨o,hdn⟩:=DI (d:=96) qc qe.c (by simp[cj,qd,bX]);have hd':=dQ (bG.1.2.1 false) rfl hdn;rw[qe.fin]at hd';rw[aBl];generalize pZ a.vars (kT [] r)=z at hd'⊢;obtain⟨z1,z2⟩:=z;simp only[pV,bo]at hd';simp only[pV,bo,go_sem,q4,hd']
   by_cases h1:a.terms.length=0
   ·have e1:(0< (a.terms.length:Int))=False:=ff;simp only[rC,xL,bo,go_sem,hp,e1,hemp,rk];generalize hX:ao 1 _ _=X;exact fin X (hl _ _ _ hX Z Z Z Z Z Z Z Z Z Z)
   ·have e1:(0< (a.terms.length:Int))=True:=tt;by_cases h2:b.terms.length=0
    ·have e2:(0< (b.terms.length:Int))=False:=ff;simp only[rC,xL,bo,go_sem,hp,e1,e2,hemp,rk];generalize hX:ao 1 _ _=X;exact fin X (hl _ _ _ hX Z Z Z Z Z Z Z Z Z Z)
    ·have e2:(0< (b.terms.length:Int))=True:=tt;have e3:=eq_false fun h=>hd ⟨h1,h2,h⟩;simp only[rC,xL,bo,go_sem,hp,hda,hdb,w1,e1,e2,e3,hemp,rk];generalize hX:ao 1 _ _=X;exact fin X (hl _ _ _ hX Z Z Z Z Z Z Z Z Z Z)
def IsL(x:AV)(l:List Rt):Prop:=x=.sl 4 (aT l)\/(x=.emp/\l=[])
theorem IsL.keep{x}{l}(h:IsL x l)(hs):iS hs x=x:=by
 rcases h with rfl| ⟨rfl,_⟩<;>rfl
theorem B3{f}{fd}{args}{o}{r}(hE:cQ.E f=none)(hC:cQ.C f=some fd)(hk:cQ.md.keep f=true)(h1:args.length=fd.np)
  (hz:lI true fd.rs fd.res 1 (ap R (aC true) fd.body (vH args) (upd (fun _=>.dead) 1000 o))=some r):R f args [o]=some r:=by
 refine KV true hE hC hk h1 σ ?_;rw[Yl];exact hz
theorem Lq{f}{h}{d id}{zas as'}{o o'}{res}(hm:(aC false).m f=[])(hk:(aC false).keep f=true)(hn:bv ((aC false).sh f) (zas++[ac id])=as'++[ac id])(hd:zas.all dat=true)(hd':as'.all dat=true)
  (hh:h id=o) (ho:OC o) (ho':OC o') (hb:bf o=true->bf o'=true) (hR:R f (as'++[ac 1000]) [o]=some (res,[o'])) (hr:RT res) (h8:cM res<=8) (hfr:cj h (2000+8*d) (cM res)=true):
  bB R (aC false) h d zas (.fn f [] [ac id])=some (res,upd h id o',[]):=by
 have hin:∀l,l.all dat=true->ce h [] (l++[ac id])=some (l++[ac id],h,[]):=by
  intro l;induction l with
  |nil=>intro _;rfl
  |cons x l ih=>
   intro h2;simp only[aBO,aBk]at h2;simp only[aBF,ce,List.headD_nil,Lp h2.1,aBl,List.tail_nil,ih h2.2,aBz]
 have h1:=hin zas hd;have hp:bC [] ((zas++[ac id]).flatMap cH)=[id]:=by
  rw[List.flatMap_append,Aq fun x hx=>EL (List.all_eq_true.1 hd x hx)];rfl
 have hre:bU h 40 [id] 0=[id]:=by
  simp[bU,hh,ho.ids,bC]
 have h3:bg [id] id=1000:=by simp[bg]
 have hall:(as'++[ac id]).all (be [id])=true:=by
  rw[List.all_append,aBk];exact⟨List.all_eq_true.2 fun x hx=>H7 (List.all_eq_true.1 hd' x hx) _,by simp[be,bw]⟩
 have hmap:(as'++[ac id]).map (dS (bg [id]))=as'++[ac 1000]:=by
  rw[List.map_append,(aBK (g:=fun c=>c) fun x hx=>EM (List.all_eq_true.1 hd' x hx) _).trans (aB2 as')];simp[dS,ko,h3]
 have hob:([id].map fun a=>dY (bg [id]) (h a))=[o]:=by simp[hh,ho.ren]
 have hids:([id].all fun a=>aE [id] (h a)&&!bX (h a))=true:=by simp[hh,ho.cl,ho.nd]
 unfold bB;rw[ax (by simp[kC,hm])];simp only[dZ,aBw,aBl, *];unfold ke;rw[hall,hids,hmap,hob,hR,aB3,aq rfl,aBl,hk,hm,tw];unfold eJ;have hbf:cY h [] [id] [o']=true:=by
  have:=ho'.nd;cases h5:bf o with
  |false=>simp[cY, *]
  |true=>simp[cY,hb h5, *]
 have hend:mG h [id] [] (res,[o'])=true:=by
  simp[mG,A7,hr.ok,ho'.cl]
 rw[aq ⟨rfl,by simp,h8,hfr,hbf,hend⟩];simp[eB,gD,hr.mat,hr.ren,ho'.ren]
theorem Ar{f g}{h}{d id}{zas as'}{o o'}{res}(hm:(aC false).m f=[])(hk:(aC false).keep f=false)(hn:bv ((aC false).sh f) (zas++[.fn g [] [ac id]])=as'++[.fn g [] [ac id]])(hd:zas.all dat=true)(hd':as'.all dat=true)
  (hh:h id=o) (ho:OC o) (ho':OC o') (hb:bf o=true->bf o'=true) (hR:R f (as'++[.fn g [] [ac 1000]]) [o]=some (res,[o'])) (hr:RT res) (h8:cM res<=8) (hfr:cj h (2000+8*d) (cM res)=true):
  bB R (aC false) h d (zas++[.fn g [] [ac id]]) (.fn f [] [])=some (res,upd h id o',[(id,true)]):=by
 have hin:∀l,l.all dat=true->ce h [] (l++[.fn g [] [ac id]])=some (l++[.fn g [] [ac id]],h,[]):=by
  intro l;induction l with
  |nil=>intro _;rfl
  |cons x l ih=>
   intro h2;simp only[aBO,aBk]at h2;simp only[aBF,ce,List.headD_nil,Lp h2.1,aBl,List.tail_nil,ih h2.2,aBz]
 have h1:=hin zas hd;have hp:bC [] ((zas++[AV.fn g [] [ac id]]).flatMap cH)=[id]:=by
  rw[List.flatMap_append,Aq fun x hx=>EL (List.all_eq_true.1 hd x hx)];rfl
 have hre:bU h 40 [id] 0=[id]:=by
  simp[bU,hh,ho.ids,bC]
 have h3:bg [id] id=1000:=by simp[bg]
 have hall:(as'++[AV.fn g [] [ac id]]).all (be [id])=true:=by
  rw[List.all_append,aBk];exact⟨List.all_eq_true.2 fun x hx=>H7 (List.all_eq_true.1 hd' x hx) _,by simp[be,bw]⟩
 have hmap:(as'++[AV.fn g [] [ac id]]).map (dS (bg [id]))=as'++[.fn g [] [ac 1000]]:=by
  rw[List.map_append,(aBK (g:=fun c=>c) fun x hx=>EM (List.all_eq_true.1 hd' x hx) _).trans (aB2 as')];simp[dS,ko,h3]
 have hob:([id].map fun a=>dY (bg [id]) (h a))=[o]:=by simp[hh,ho.ren]
 have hids:([id].all fun a=>aE [id] (h a)&&!bX (h a))=true:=by simp[hh,ho.cl,ho.nd]
 unfold bB;rw[ax (by simp[kC,hm])];simp only[dZ,aBw,aBz,aBl, *];unfold ke;rw[hall,hids,hmap,hob,hR,aB3,aq rfl,aBl,hk,hm,tw];unfold eJ;have hbf:cY h [] [id] [o']=true:=by
  have:=ho'.nd;cases h5:bf o with
  |false=>simp[cY, *]
  |true=>simp[cY,hb h5, *]
 have hend:mG h [id] [] (res,[o'])=true:=by
  simp[mG,A7,hr.ok,ho'.cl]
 rw[aq ⟨rfl,by simp,h8,hfr,hbf,hend⟩];simp[eB,gD,hr.mat,hr.ren,ho'.ren]
theorem ajp(x):OC (.bx (am x)):=⟨fun _=>rfl,rfl,fun _=>rfl,rfl⟩
section
variable {α:Type} {Frow:α→List AV} {l:List α} {q:α→Bool}
def apg(f:FuncId)(o:Ob)(k:Nat)(g:Bool)(Frow:α->List AV)(l:List α)(q:α->Bool):Prop:=
 ∀x∈l,∃a a',mF k g (Frow x) 0=some a/\dat a=true/\dat a'=true/\bv ((aC false).sh f) [a,ac 1000]=[a',ac 1000]/\R f [a',ac 1000] [o]=some (B (q x),[o])
def awt(f:FuncId)(k:Nat)(g:Bool)(Frow:α->List AV)(l:List α)(q:α->Bool):Prop:=
 ∀x∈l,∃a,mF k g (Frow x) 0=some a/\dat a=true/\R f (bv ((aC false).sh f) [a]) []=some (B (q x),[])
theorem agf{k}{g}{f}{o}{cap}(hc:cap=[]/\o=.dead/\(aC false).m f=[]/\awt f k g Frow l q\/cap=[ac 1000]/\OC o/\(aC false).m f=[]/\(aC false).keep f=true/\apg f o k g Frow l q)(hl:l.length<4611686018427387904):∀rest n,l.drop n=rest->n<=l.length->
  ∀s h,s 0=.sl k (l.map Frow)->s 1=.fn f [] cap->s 7=I l.length->s 8=I n->h 1000=o->
   ∃hh,dD (ao 0 [] (aD (ap R (aC false) (sW k g)) [0,1,7,8] [1000] s h)) (ap R (aC false) vD)=some (.ret,⟨upd cr 4 (I (BT q rest n)),hh⟩)/\hh 1000=o:=by
 have hcl:∀ids,aE ids o=true:=by
  rcases hc with⟨_,rfl,_⟩| ⟨_,h,_⟩
  ·exact fun _=>rfl
  ·exact h.cl
 have hcap:=hc.imp (·.1) (·.1);intro rest;induction rest with
 |nil=>
  intro n hd hn s h h0 h1 h7 h8 h9;have e:n=l.length:=by
   have:=congrArg List.length hd;grind
  subst e;rw[ai];refine⟨?hh0,?_,?_⟩;rotate_left
  ·rcases hcap with rfl|rfl<;> (simp only[sW,vD,go_sem,h0,h1,h7,h8,h9,hcl,aCh,BT];try rfl)
  ·rfl
 |cons x rest ih=>
  intro n hd hn s h h0 h1 h7 h8 h9;have hlt:n<l.length:=by
   grind
  have hr:l[n]?=some x:=by
   have:=congrArg (·[0]?) hd;grind
  have ih':=ih (n+1) (by rw[←List.drop_drop,hd];rfl) hlt;have e1:(n< (l.length:Int))=True:=tt;have e2:dX (l.map Frow) n=some (.ipt (Frow x)):=by grind[dX]
  have e3:aS (n+1)=(n+1:Nat):=by grind[i64_in]
  rw[ai];simp only[BT];rcases hc with⟨rfl,rfl,hm,hf⟩| ⟨rfl,ho,hm,hk,hf⟩
  ·obtain⟨a,ha,hda,hc⟩:=hf x (aBs hr);simp only[sW,go_sem,h0,h1,h7,h8,h9,e1,e2,ha,Ds _ hm,hda,hc];cases hp:q x with
   |true=>exact⟨_,by rfl,rfl⟩
   |false=>
    simp only[go_sem,e3,aBu];apply ih'<;>rfl
  ·obtain⟨a,a',ha,hda,hda',hn2,hc⟩:=hf x (aBs hr);have hcc:=fun h d hh (hf:h (2000+8*d)=.dead)=>Lq (f:=f) (h:=h) (d:=d) (id:=1000) (zas:=[a]) (as':=[a']) hm hk γ γ γ hh ho ho (fun h=>h) hc (S6 _) (aBI rfl) (by grind[cj,cM,bX]);simp only[sW,go_sem,h0,h1,h7,h8,h9,hcl,e1,e2,ha];rw[hcc _ _ Z Z];cases hp:q x with
   |true=>
    exact⟨_,rfl,rfl⟩
   |false=>
    simp only[go_sem,e3,aBu];apply ih'<;>rfl
noncomputable abbrev aph (k:Nat) (g:Bool):FD:=⟨2,[[]],[.t 4],.seq (.ops [0,1] [co 4 (.mv (.c (I 0)))]) (.seq (.seq (.ops [0,1,7,8] [cm 6 0,co 7 (.len false (.t 6)),co 8 (.mv (.c (I 0)))]) (.block 0 [] (.loop [0,1,7,8] [1000] (sW k g)))) vD)⟩
variable {ci fi:FuncId} {fd fc:FD} {k:Nat} {g:Bool} {cs:List Sh}
structure Src (ci fi:FuncId) (k:Nat) (g:Bool) (cs:List Sh):Prop where
 iE:cQ.E fi=none
 iC:cQ.C fi=some (aph k g)
 ik:cQ.md.keep fi=false
 im:(aC false).m fi=[]
 ik':(aC false).keep fi=false
 ish:(aC false).sh fi=[[.o (k+1) cs],[]]
 cE:cQ.E ci=none
 cC:cQ.C ci=some (Qn fi)
 ck:cQ.md.keep ci=false
theorem Mp(S:Src ci fi k g cs){f}{o}(ho:OC o)(hm:(aC false).m f=[])(hk:(aC false).keep f=true)(hl:l.length<4611686018427387904)(hr:(l.map Frow).map (eP cs)=l.map Frow)(hf:apg f o k g Frow l q):
  R ci [.sl k (l.map Frow),.fn f [] [ac 1000]] [o]=some (B (l.any q),[o]):=by
 have h:R fi [.sl k (l.map Frow),.fn f [] [ac 1000]] [o]=some (I (BT q l 0),[o]):=by
  refine rh S.iE S.iC S.ik rfl ?_;have hL:=agf (Frow:=Frow) (q:=q) (k:=k) (g:=g) (Or.inr ⟨rfl,ho,hm,hk,hf⟩) hl l 0 rfl (aBB _);simp only[go_sem,akG];have hL2:∀S H X,dD (ao 0 [] (aD (ap R (aC false) (sW k g)) [0,1,7,8] [1000] S H)) (ap R (aC false) vD)=X->S 0=.sl k (l.map Frow)->S 1=.fn f [] [ac 1000]->S 7=I l.length->S 8=I 0->H 1000=o->
    ∃hh,X=some (.ret,⟨upd cr 4 (I (BT q l 0)),hh⟩)/\hh 1000=o:=fun S H X hX a b c d e=>by
   rw[←hX];exact hL S H a b c d e
  generalize hX:dD (ao 0 [] (aD _ _ [1000] _ _)) (ap R (aC false) vD)=X;obtain⟨hh,e,e9⟩:=hL2 _ _ _ hX Z Z (by simp only[go_sem,List.length_map]) Z Z;rw[e];exact lP rfl e9 (ho.cl _) Z Z
 refine rh S.cE S.cC S.ck rfl ?_;have ha:=Ov q l 0;have hc:=fun h' d hh (hf:h' (2000+8*d)=.dead)=>Ar (f:=fi) (g:=f) (h:=h') (d:=d) (id:=1000) (zas:=[.sl k (l.map Frow)]) (as':=[.sl k (l.map Frow)]) S.im S.ik'
  (by rw[S.ish];simp only[go_sem,hr,aBF,aBw]) Z Z hh ho ho (fun h=>h) h (ao7 _) (aBI rfl) (by grind[cj,cM,bX])
 simp only[aBF,aBw]at hc;simp only[Qn,go_sem];rw[hc _ _ Z Z];simp only[go_sem,ha];exact lP Z Z (ho.cl _) Z Z
end
theorem Lr{q}{u}(hu:-16384<=u)(h:(cS (bu false q u)).2=0):zI (cS (bu false q u)).1=(q*2^ (u+16384).toNat:Nat):=by
 have e1:bu false q u=fj (q*2^ (u+16384).toNat:Nat) (-16384- (0:Nat)):=by
  unfold fj;rw[decide_eq_false ω,Int.natAbs_natCast,mJ];grind
 rw[e1]at h⊢;have:=Mi (j:=0) h;omega
theorem S8{q}{n}(h:n<ag q):2^n<=q:=by
 refine Nat.le_of_not_lt fun h1=>?_;have:=bT.2 h1;omega
theorem Jq{M}{p f:Int}{s t:Nat}{more w}(h0:M≠0)(hp:8<=p/\p<=512)(hf:f+16384=s-t)(hm:more=true->p< (ag M))(h:(cO M f more p w).2=0):
  ∃n:Nat,zI (cO M f more p w).1=n/\(w=true->(M+more.toNat)*2^s<=n*2^t)/\(w=false->n*2^t<=M*2^s):=by
 obtain⟨u,hu⟩:∃u,eZ M f p=u:=⟨_,rfl⟩;have hu1:-16384<=u/\f+(ag M)-p<=u/\(u=-16384\/u=f+(ag M)-p):=by
  grind[eZ]
 unfold cO at h⊢;rw[hu]at h⊢;obtain⟨q,hq⟩:∃q,pe w (pY M f more u)=q:=⟨_,rfl⟩;rw[hq]at h⊢;have hT:(w=true->(M+more.toNat)*2^s<=q*2^ ((u+16384).toNat+t))/\(w=false->q*2^ ((u+16384).toNat+t)<=M*2^s):=by
  unfold pY at hq;by_cases h1:u<=f
  ·have hmf:more=false:=by
    grind
   subst hmf;have hq2:q=M*2^ (f-u).toNat:=by
    grind[pe]
   rw[hq2,aBH,←aBx,show(f-u).toNat+((u+16384).toNat+t)=s by omega];grind
  ·rw[ax h1]at hq;obtain⟨d,hd⟩:∃d,(u-f).toNat=d:=⟨_,rfl⟩;rw[hd]at hq;rw[show(u+16384).toNat+t=d+s by omega,aBx,←aBH];have hd:=aCb M (2^d);have hm:=aBW M (aBA d);unfold pe at hq;constructor
   ·intro hw;subst hw;refine aBv _ ?_;by_cases hz:(more||decide (M%2^d≠0))=true
    ·rw[hz,Bool.and_true,aq rfl]at hq;subst hq;have:=Bool.toNat_le more;grind
    grind
   ·intro hw;subst hw;subst hq;refine aBv _ ?_;grind
 obtain⟨h1,h2⟩:=hT;unfold uA at h⊢;by_cases hb:16384< (ag q)+u
 ·rw[aq hb]at h⊢;cases w with
  |true=>grind
  |false=>
   refine⟨_,Lr ω h,fun hw=>absurd hw aBu,fun _=>?_⟩;have h3:=h2 rfl;have h4:2^ (32768+t)<=M*2^s:=by
    by_cases hb0:ag q=0
    ·have hbm:=ju h0;have h5:=S8 (show ag M-1<ag M by omega);refine aBq ?_ (aBv _ h5);rw[←aBx];exact aB4 δ ω
    ·have h5:=S8 (show ag q-1<ag q by omega);refine aBq ?_ (aBq (aBv _ h5) h3);rw[←aBx];exact aB4 δ ω
   have h7:(2^p.toNat-1)*2^ (16384-p+16384).toNat*2^t<=2^ (32768+t):=by
    rw[aBH,←aBx];refine aBq (aBv _ (Nat.sub_le _ 1)) ?_;rw[←aBx];exact aB4 δ ω
   omega
 ·rw[ax hb]at h⊢;refine⟨_,Lr hu1.1 h,fun hw=>?_,fun hw=>?_⟩
  all_goals grind
theorem S9{M}{f p}{more w}:vd (cO M f more p w).1=true:=by
 have hc:∀q u,vd (cS (bu false q u)).1=true:=fun q u=>by
  have:=(yj (z:=q) (f:=u)).1;grind[fj,decide_eq_false,Int.natAbs_natCast]
 grind[cO,uA,vd,aG]
theorem Mr{z p}{up}(hp:8<=p/\p<=512)(h:(iL z (-16384-j) p up).2=0):(up=true->z<=zI (iL z (-16384-j) p up).1*2^j)/\(up=false->zI (iL z (-16384-j) p up).1*2^j<=z):=by
 unfold iL at h⊢;by_cases h0:z=0
 ·rw[aq h0,cT rfl,Int.zero_mul,h0];omega
 ·unfold iX at h⊢;have key:∀w,(cO z.natAbs (-16384-j) false p w).2=0->∃n,zI (cO z.natAbs (-16384-j) false p w).1=n/\(w=true->z.natAbs<=n*2^j)/\(w=false->n*2^j<=z.natAbs):=fun w hc=>by
   obtain⟨n,g1,g2,g3⟩:=Jq (s:=0) (t:=j) ω hp ω (fun h=>absurd h aBu) hc;refine⟨n,g1,fun hw=>?_,fun hw=>?_⟩
   all_goals grind
  by_cases hn:z<0
  ·grind[yi,S9,Int.neg_mul]
  grind
theorem amq{c}{p}(vc:vd c=true)(hp:bE p=true)(h:(cx c p false).2=0):zI (cx c p false).1<=zI c:=by
 have hp2:8<=p/\p<=512:=by
  simp_all[bE,aBk,decide_eq_true_eq]
 have hf:bh p [c]=0:=by grind[bh]
 unfold cx at h⊢;rw[aq hf]at h⊢;have:=(Mr (j:=0) hp2 h).2 rfl;grind
theorem amr{c}{p}(vc:vd c=true)(hp:bE p=true)(h:(cx c p true).2=0):zI c<=zI (cx c p true).1:=by
 have hp2:8<=p/\p<=512:=by
  simp_all[bE,aBk,decide_eq_true_eq]
 have hf:bh p [c]=0:=by grind[bh]
 unfold cx at h⊢;rw[aq hf]at h⊢;have:=(Mr (j:=0) hp2 h).1 rfl;grind
def yx(T V:Nat):Nat:=min 4294967295 (T/V)
theorem ajq{T L V2 M v w k W V}(hW:W=T*4294967296^k+L)(hV:V=V2*4294967296^k+M)(hL:L<4294967296^k)(hM:M<4294967296^k)(h2:V2=v*4294967296+w)(hv:2147483648<=v)(hlt:W<4294967296*V):
  W/V<=yx T V2/\yx T V2<=W/V+1:=by
 generalize 4294967296^k=b at*
 have hV2:9223372036854775808<=V2:=ω
 have hVp:0<V:=by
  omega
 have hV2p:0<V2:=ω
 constructor
 ·refine Nat.le_min.2 ⟨?_,?_⟩
  ·have:=(Nat.div_lt_iff_lt_mul hVp).2 hlt;omega
  ·rw[Nat.le_div_iff_mul_le hV2p];have h1:=Nat.div_mul_le_self W V;have h3:W/V*V2*b<=W/V*V:=by
    simp_all[aBH,aCg]
   have h4:W/V*V2*b< (T+1)*b:=by
    grind
   have:=Nat.lt_of_mul_lt_mul_right h4;omega
 ·have hg:yx T V2*V2<=T:=by
   refine aBq (aBv V2 (Nat.min_le_right _ _)) (Nat.div_mul_le_self T V2)
  have hg2:yx T V2<=4294967295:=Nat.min_le_left _ _;generalize yx T V2=g at*
  have h1:g*V=g*V2*b+g*M:=γ
  have h2':=aBv b hg;have h3:=Nat.mul_le_mul hg2 (Nat.le_of_lt hM);have h4:=aBv b hV2;have h5:g*V<W+V:=ω
  cases g with
  |zero=>grind
  |succ g=>
   rw[aBG,Nat.one_mul]at h5;exact Nat.succ_le_succ ((Nat.le_div_iff_mul_le hVp).2 ω)
theorem Yv{q rest third v w T V}(hT:T=(q*v+rest)*4294967296+third)(hV:V=v*4294967296+w)(hVp:0<V)(hw:w<4294967296)(hq:q<=4294967296):
  (rest<4294967296/\rest*4294967296+third<q*w->T/V<q)/\(¬ (rest<4294967296/\rest*4294967296+third<q*w)->q<=T/V):=by
 have e1:q*V=q*v*4294967296+q*w:=γ
 constructor
 ·rw[Nat.div_lt_iff_lt_mul hVp];omega
 ·rw[Nat.le_div_iff_mul_le hVp];by_cases h1:rest<4294967296
  ·omega
  ·have:=Nat.mul_le_mul hq (Nat.le_of_lt hw);omega
theorem aad{top next third v w}(hv:0<v)(hvb:v<4294967296)(ht:top<=v)(hn:next<4294967296)(h3:third<4294967296):
  min (if v<=top then 4294967295 else(top*4294967296+next)/v) (((top*4294967296+next)*4294967296+third)/ (v*4294967296+w))=yx ((top*4294967296+next)*4294967296+third) (v*4294967296+w):=by
 unfold yx;by_cases h:v<=top
 ·rw[aq h]
 ·rw[ax h];have h1:((top*4294967296+next)*4294967296+third)/ (v*4294967296+w)<=(top*4294967296+next)/v:=by
   rw[Nat.le_div_iff_mul_le hv];have h2:=Nat.div_mul_le_self ((top*4294967296+next)*4294967296+third) (v*4294967296+w);grind
  have h2:(top*4294967296+next)/v<4294967296:=by
   rw[Nat.div_lt_iff_lt_mul hv];omega
  omega
def vj(q:Nat):List Nat->List Nat->Nat->Nat->List Nat×Nat×Nat
 |u::us,y::vs,c,b=>(((u+18446744073709551616- (q*y+c) %4294967296-b) %18446744073709551616%4294967296)::(vj q us vs ((q*y+c)/4294967296) ((u+18446744073709551616- (q*y+c) %4294967296-b) %18446744073709551616/9223372036854775808)).1,(vj q us vs ((q*y+c)/4294967296) ((u+18446744073709551616- (q*y+c) %4294967296-b) %18446744073709551616/9223372036854775808)).2)
 |_,_,c,b=>([],c,b)
theorem Ta{u s b}(hu:u<4294967296)(hs:s<4294967296)(hb:b<=1):
  (u+18446744073709551616-s-b) %18446744073709551616/9223372036854775808<=1/\(u+18446744073709551616-s-b) %18446744073709551616%4294967296+s+b=u+4294967296*((u+18446744073709551616-s-b) %18446744073709551616/9223372036854775808):=by
 omega
theorem Yw{q}(hq:q<4294967296):∀ {us vs} {c b},Lb us->Lb vs->us.length=vs.length->c<4294967296->b<=1->
  ab us+4294967296^vs.length*((vj q us vs c b).2.1+(vj q us vs c b).2.2)=ab (vj q us vs c b).1+q*ab vs+c+b/\(vj q us vs c b).2.1<4294967296/\(vj q us vs c b).2.2<=1/\Lb (vj q us vs c b).1/\(vj q us vs c b).1.length=vs.length
 |[],[],c,b,_,_,_,hc,hb=>by
  refine⟨?_,hc,hb,fun x hx=>(nomatch hx),rfl⟩;show 0+4294967296^0*(c+b)=0+q*0+c+b;omega
 |u::us,y::vs,c,b,hu,hv,hl,hc,hb=>by
  have hu0:=hu u σ;have hy0:=hv y σ;have hp:=by
   have h1:q*y<=4294967295*4294967295:=Nat.mul_le_mul ω ω;omega
  have hs:=aBW (q*y+c) (by decide:0<4294967296);have hd:=aCb (q*y+c) 4294967296;have hc2:(q*y+c)/4294967296<4294967296:=by
   omega
  obtain⟨k1,k2⟩:=Ta (b:=b) hu0 hs hb;have ih:=Yw hq (us:=us) (vs:=vs) (c:=(q*y+c)/4294967296) (b:=(u+18446744073709551616- (q*y+c) %4294967296-b) %18446744073709551616/9223372036854775808) (fun x hx=>hu x γ) (fun x hx=>hv x γ) γ hc2 k1;obtain⟨i1,i2,i3,i4,i5⟩:=ih;unfold vj;generalize(u+18446744073709551616- (q*y+c) %4294967296-b) %18446744073709551616/9223372036854775808=b2 at*
  generalize(q*y+c)/4294967296=c2 at*
  generalize vj q us vs c2 b2=r at*
  refine⟨?_,i2,i3,fun x hx=>?_,by grind⟩
  ·grind[ab,aB6,aBD,aBH,Nat.mul_add,Nat.mul_left_comm]
  ·rcases List.mem_cons.1 hx with rfl|hx
   ·omega
   ·exact i4 x hx
 |[],_::_,_,_,_,_,h,_,_=>by grind
 |_::_,[],_,_,_,_,h,_,_=>by grind
def qf(q top:Nat)(us vs:List Nat):List Nat×Nat×Bool:=
 ((vj q us vs 0 0).1,(top+18446744073709551616- (vj q us vs 0 0).2.1- (vj q us vs 0 0).2.2) %18446744073709551616%4294967296,decide ((top+18446744073709551616- (vj q us vs 0 0).2.1- (vj q us vs 0 0).2.2) %18446744073709551616/9223372036854775808=1))
theorem Tb{q top}{us vs}(hq:q<4294967296)(ht:top<4294967296)(hu:Lb us)(hv:Lb vs)(hl:us.length=vs.length):
  (ab us+4294967296^vs.length*top+(if(qf q top us vs).2.2=true then 4294967296^vs.length*4294967296 else 0)=ab (qf q top us vs).1+4294967296^vs.length*(qf q top us vs).2.1+q*ab vs)/\(qf q top us vs).2.1<4294967296/\Lb (qf q top us vs).1/\(qf q top us vs).1.length=vs.length:=by
 obtain⟨h1,h2,h3,h4,h5⟩:=Yw hq hu hv hl (c:=0) (b:=0) δ δ;unfold qf;generalize vj q us vs 0 0=r at*
 obtain⟨r1,c,b⟩:=r;refine⟨?_,aBW _ δ,h4,h5⟩;obtain⟨k1,k2⟩:=Ta (u:=top) (s:=c) (b:=b) ht h2 h3;generalize(top+18446744073709551616-c-b) %18446744073709551616/9223372036854775808=f at*
 generalize(top+18446744073709551616-c-b) %18446744073709551616%4294967296=t2 at*
 have e1:4294967296^vs.length*(c+b)+4294967296^vs.length*t2=4294967296^vs.length*top+4294967296^vs.length*4294967296*f:=by
  grind
 grind
def Cf(top:Nat)(us:List Nat):Nat:=(top*4294967296+us.getD (us.length-1) 0)*4294967296+us.getD (us.length-2) 0
def AN(vs:List Nat):Nat:=vs.getD (vs.length-1) 0*4294967296+vs.getD (vs.length-2) 0
def zE(top:Nat)(us vs:List Nat):List Nat×Nat×Nat:=
 if(qf (yx (Cf top us) (AN vs)) top us vs).2.2=true then
  (fV (qf (yx (Cf top us) (AN vs)) top us vs).1 vs vs.length,((qf (yx (Cf top us) (AN vs)) top us vs).2.1+kP (qf (yx (Cf top us) (AN vs)) top us vs).1 vs vs.length) %4294967296,yx (Cf top us) (AN vs)-1)
 else((qf (yx (Cf top us) (AN vs)) top us vs).1,(qf (yx (Cf top us) (AN vs)) top us vs).2.1,yx (Cf top us) (AN vs))
theorem Yx{l}{k}(h:l.length=k+2):ab l=(l.getD (k+1) 0*4294967296+l.getD k 0)*4294967296^k+ab (l.take k):=by
 have h1:=iK l (k+1);have h2:=iK l k;grind
theorem agh{top}{us vs}{k}(ht:top<4294967296)(hu:Lb us)(hv:Lb vs)(hul:us.length=k+2)(hvl:vs.length=k+2)(hn:2147483648<=vs.getD (k+1) 0)(hlt:ab us+4294967296^ (k+2)*top<4294967296*ab vs):
  ab (zE top us vs).1+4294967296^ (k+2)*(zE top us vs).2.1=(ab us+4294967296^ (k+2)*top) %ab vs/\(zE top us vs).2.2=(ab us+4294967296^ (k+2)*top)/ab vs/\Lb (zE top us vs).1/\(zE top us vs).1.length=k+2/\(zE top us vs).2.1<4294967296:=by
 obtain⟨W,hW⟩:∃W,ab us+4294967296^ (k+2)*top=W:=⟨_,rfl⟩;obtain⟨V,hV⟩:∃V,ab vs=V:=⟨_,rfl⟩;have a1:=Yx hul;have a2:=Yx hvl;have l1:=dN (iW hu k);have l2:=dN (iW hv k);rw[aBN,aCc ω]at l1 l2;have hT:W=Cf top us*4294967296^k+ab (us.take k):=by
  unfold Cf;grind
 have hV2:V=AN vs*4294967296^k+ab (vs.take k):=by
  grind[AN]
 rw[hW]at hlt⊢;rw[hV]at hlt⊢;obtain⟨g1,g2⟩:=ajq hT hV2 l1 l2 (show AN vs=vs.getD (k+1) 0*4294967296+vs.getD k 0 by grind[AN]) hn hlt;have hgb:yx (Cf top us) (AN vs)<4294967296:=by
  grind[yx,Cf,AN,Nat.min_le_left]
 unfold zE;generalize yx (Cf top us) (AN vs)=g at*
 obtain⟨t1,t2,t3,t4⟩:=Tb (q:=g) hgb ht hu hv ω;generalize qf g top us vs=r at*
 obtain⟨r1,r2,f⟩:=r;simp only at t1 t2 t3 t4⊢;rw[hvl,hW,hV]at t1;rw[hvl]at t4;have hVp:0<V:=by
  omega
 have hdm:=aCb W V;have hml:=aBW W hVp;have hVb:V<4294967296^ (k+2):=by grind[dN]
 have hrb:ab r1<4294967296^ (k+2):=by grind[dN]
 generalize hB:4294967296^ (k+2)=b at*
 cases f with
 |false=>
  simp only[aCa,if_false,aBR]at t1⊢;have h1:g<=W/V:=(Nat.le_div_iff_mul_le hVp).2 ω;have h2:=Nat.le_antisymm h1 g1;refine⟨?_,h2,t3,t4,t2⟩;rw[h2,aBD (W/V) V]at t1;omega
 |true=>
  simp only[if_true]at t1⊢;have hbr:=by
   have h1:b*(r2+1)<=b*4294967296:=aCg b ω;rw[Nat.mul_add,Nat.mul_one]at h1;omega
  have h1:¬g<=W/V:=fun h=>by
   have:=(Nat.le_div_iff_mul_le hVp).1 h;omega
  have h2:g=W/V+1:=ω
  have s1:=Ox r1 vs (k+2);rw[hB,aBE ω,aBE ω,hV]at s1;have s2:=aaI r1 vs (k+2);have s3:(fV r1 vs (k+2)).length=k+2:=by unfold fV;rw[List.length_map,List.length_range]
  have s4:=by
   have:=dN s2;rw[s3,hB]at this;exact this
  rw[hvl];refine⟨?_,by show g-1=W/V;rw[h2,Nat.add_sub_cancel],s2,s3,aBW _ δ⟩;rw[h2,aBG,Nat.one_mul,aBD (W/V) V]at t1;have e1:ab (fV r1 vs (k+2))+b*(kP r1 vs (k+2)+r2)=b*4294967296+W%V:=by
   rw[Nat.mul_add];omega
  have hc:kP r1 vs (k+2)+r2=4294967296:=by
   have h3:=fun h=>by
    have h4:b*(kP r1 vs (k+2)+r2+1)<=b*4294967296:=aCg b h;rw[Nat.mul_add b _ 1,Nat.mul_one]at h4;omega
   have h5:=fun h=>by
    have h4:b*(4294967296+1)<=b*(kP r1 vs (k+2)+r2):=aCg b h;omega
   omega
  rw[hc]at e1;rw[Nat.add_comm r2,hc,Nat.mod_self,Nat.mul_zero];omega
def qA(u:List Nat)(j:Nat)(us:List Nat)(top:Nat):List Nat:=u.take j++(us++top::u.drop (j+us.length+1))
def AO(vs:List Nat):Nat->List Nat->List Nat×List Nat
 |0,u=>(u,[])
 |j+1,u=>((AO vs j (qA u j (zE (u.getD (j+vs.length) 0) ((u.drop j).take vs.length) vs).1 (zE (u.getD (j+vs.length) 0) ((u.drop j).take vs.length) vs).2.1)).1,
   (AO vs j (qA u j (zE (u.getD (j+vs.length) 0) ((u.drop j).take vs.length) vs).1 (zE (u.getD (j+vs.length) 0) ((u.drop j).take vs.length) vs).2.1)).2++[(zE (u.getD (j+vs.length) 0) ((u.drop j).take vs.length) vs).2.2])
theorem GL(l)(i)(h:i<=l.length):ab l=ab (l.take i)+4294967296^i*ab (l.drop i):=by
 grind[fM,List.take_append_drop,aBN,aCc]
theorem ajr(l)(x):ab (l++[x])=ab l+4294967296^l.length*x:=by
 rw[fM];show _+_*(x+4294967296*0)=_;grind
theorem abq{u}{j n V}(hu:Lb u)(hl:j+n<u.length)(hV:V<4294967296^n)(h:ab (u.drop (j+1))<V):
  ab ((u.drop j).take n)+4294967296^n*u.getD (j+n) 0=ab (u.drop j)/\ab (u.drop (j+n+1))=0/\ab (u.drop j)<4294967296*V:=by
 have h0:=gx u j;have hj:=cX hu j;have h1:=GL (u.drop j) (n+1) γ;rw[List.drop_drop,iK]at h1;have h2:(u.drop j).getD n 0=u.getD (j+n) 0:=by
  grind
 rw[h2,show j+(n+1)=j+n+1 by omega]at h1;have h4:ab (u.drop (j+n+1))=0:=by
  refine Nat.eq_zero_of_not_pos fun hp=>?_;have:4294967296^ (n+1)*1<=4294967296^ (n+1)*ab (u.drop (j+n+1)):=aCg _ hp;omega
 grind
theorem FP{u us}{j top}(h:j+us.length<u.length):(qA u j us top).length=u.length:=by
 grind[qA,List.length_append,aB0,aBN,List.length_drop]
theorem Tc{u us}{j top}(hu:Lb u)(hs:Lb us)(ht:top<4294967296):Lb (qA u j us top):=by
 grind[qA,tG,lk,iW,pA]
theorem Ls{u us}{j top}(h:j<=u.length):(qA u j us top).drop j=us++top::u.drop (j+us.length+1):=by
 unfold qA;rw[List.drop_append_of_le_length (by rw[aBN];omega),List.drop_of_length_le (by rw[aBN];omega),aBw]
theorem agi{u us}{j top}(h:j<=u.length):(qA u j us top).take j=u.take j:=by
 unfold qA;rw[List.take_append_of_le_length (by rw[aBN];omega),List.take_take,Nat.min_self]
theorem w2'{u:List Nat}{j n s2}(h:ab (u.drop (j+n+1))=0):ab (s2::u.drop (j+n+1))=s2:=by
 simp_all[ab,Nat.mul_zero,aBR]
theorem agj{vs}{k}(hv:Lb vs)(hvl:vs.length=k+2)(hn:2147483648<=vs.getD (k+1) 0):
  ∀j u,Lb u->j+(k+2)<=u.length->ab (u.drop j)<ab vs->ab u=ab (AO vs j u).1+ab vs*ab (AO vs j u).2/\ab (AO vs j u).1<ab vs/\(AO vs j u).2.length=j/\(AO vs j u).1.length=u.length/\Lb (AO vs j u).1/\Lb (AO vs j u).2
 |0,u,hu,_,h=>by
  refine⟨?_,h,rfl,rfl,hu,fun x hx=>(nomatch hx)⟩;show ab u=ab u+ab vs*0;omega
 |j+1,u,hu,hl,h=>by
  have hVb:ab vs<4294967296^ (k+2):=by grind[dN]
  obtain⟨w1,w2,w3⟩:=abq (n:=k+2) hu ω hVb h;have hlen:((u.drop j).take (k+2)).length=k+2:=γ
  have hs:=agh (top:=u.getD (j+(k+2)) 0) (cX hu _) (iW (pA hu j) (k+2)) hv hlen hvl hn ω;rw[w1]at hs;unfold AO;rw[hvl];generalize zE (u.getD (j+(k+2)) 0) ((u.drop j).take (k+2)) vs=s at*
  obtain⟨s1,s2,s3⟩:=s;obtain⟨d1,d2,d3,d4,d5⟩:=hs;simp only at d1 d2 d3 d4 d5⊢;have hd:ab ((qA u j s1 s2).drop j)=ab (u.drop j) %ab vs:=by
   grind[Ls,fM,w2']
  have hVp:0<ab vs:=ω
  have ih:=agj hv hvl hn j (qA u j s1 s2) (Tc hu d3 d5) (by grind[FP]) (by simp_all[aBW]);obtain⟨i1,i2,i3,i4,i5,i6⟩:=ih;have hval:=GL (qA u j s1 s2) j (by grind[FP]);rw[agi ω,hd]at hval;have hval2:=GL u j ω;generalize AO vs j (qA u j s1 s2)=r at*
  obtain⟨r1,r2⟩:=r;refine⟨?_,i2,by grind,by rw[i4,FP ω],i5,?_⟩
  ·grind[ajr,Nat.mul_add,aCb,ab,Nat.mul_left_comm,Nat.add_comm]
  ·rw[tG];refine⟨i6,fun x hx=>?_⟩
   simp_all[Nat.div_lt_iff_lt_mul]
attribute [-go_sem] PK L8 in
theorem ad0{v T V:Nat}(hV:V=v*4294967296+w)(hv:2147483648<=v)(hvb:v<4294967296)(hw:w<4294967296)(h3:third<4294967296):
  ∀ (k q rest:Nat),4294967296<=rest+k*2147483648->q<=4294967295->rest<8589934592->T=(q*v+rest)*4294967296+third->∀ (s:aN) (h:ah),s 0=W q->s 1=W rest->s 2=U third->s 3=U v->s 4=U w->
  ∃hh,ao 0 [0] (aD (ap R (aC false) iI) [0,1,2,3,4] [] s h)=some (.normal,⟨upd cr 0 (W (min q (T/V):Nat)),hh⟩):=by
 intro k;induction k with
 |zero=>
  intro q rest hk hq hr hT s h g0 g1 g2 g3 g4;have hs:=(Yv (q:=q) hT hV ω hw ω).2 (fun h=>by omega);have e1:((rest:Int)<4294967296)=False:=ff;rw[aCc hs,ai];refine⟨fun _=>.dead,?_⟩;simp only[iI,go_sem,g0,g1,g2,g3,g4,e1]
 |succ k ih=>
  intro q rest hk hq hr hT s h g0 g1 g2 g3 g4;have hd:=Yv (q:=q) hT hV ω hw ω;by_cases hlt:rest<4294967296
  ·have e1:((rest:Int)<4294967296)=True:=tt;have hqw:q*w<=4294967295*4294967295:=Nat.mul_le_mul hq ω;have e2:IntKind.u64.wrap ((q:Int)*(w:Int))=((q*w:Nat):Int):=ip σ ω;have e3:=Jb (n:=rest) (k:=32) (i:=(rest:Int)) (kk:=.u64) (j:=32) Z Z δ ω;have e4:=SD (m:=rest*2^32) (n:=third) (i:=((rest*2^32:Nat):Int)) (j:=(third:Int)) Z Z ω ω;rw[HW (x:=rest) (c:=third) (k:=32) ω]at e4;have e5:IntKind.u64.wrap (third:Int)=third:=ip rfl ω;have e6:IntKind.u64.wrap (w:Int)=w:=ip rfl ω;have e7:IntKind.u64.wrap (v:Int)=v:=ip rfl ω;by_cases hc:rest*4294967296+third<q*w
   ·have e8:(((rest*2^32+third:Nat):Int)< ((q*w:Nat):Int))=True:=tt;have hq1:1<=q:=Nat.pos_of_ne_zero fun h0=>by grind
    have e9:IntKind.u64.wrap ((q:Int)-1)=((q-1:Nat):Int):=ip ω ω;have e10:IntKind.u64.wrap ((rest:Int)+(v:Int))=((rest+v:Nat):Int):=ip σ ω;have hT2:T=((q-1)*v+(rest+v))*4294967296+third:=by
     rw[hT,Nat.sub_mul,Nat.one_mul];have:v<=q*v:=Nat.le_mul_of_pos_left v hq1;omega
    have ih':=ih (q-1) (rest+v) ω ω ω hT2;have hm:min q (T/V)=min (q-1) (T/V):=ω
    rw[hm,ai];simp only[iI,go_sem,g0,g1,g2,g3,g4,e1,e2,e3,e4,e5,e6,e7,e8,e9,e10];apply ih'<;>rfl
   ·have e8:(((rest*2^32+third:Nat):Int)< ((q*w:Nat):Int))=False:=ff;have hs:=hd.2 (fun h=>hc h.2);rw[aCc hs,ai];refine⟨fun _=>.dead,?_⟩;simp only[iI,go_sem,g0,g1,g2,g3,g4,e1,e2,e3,e4,e5,e6,e8]
  ·have hs:=hd.2 (fun h=>hlt h.1);have e1:((rest:Int)<4294967296)=False:=ff;rw[aCc hs,ai];refine⟨fun _=>.dead,?_⟩;simp only[iI,go_sem,g0,g1,g2,g3,g4,e1]
theorem ams{q rest v V:Nat}(hV:V=v*4294967296+w)(hv:2147483648<=v)(hvb:v<4294967296)(hw:w<4294967296)(h3:third<4294967296)(hq:q<=4294967295)(hr:rest<8589934592)(hT:T=(q*v+rest)*4294967296+third)(s)(h)(X)(hX:ao 0 [0] (aD (ap R (aC false) iI) [0,1,2,3,4] [] s h)=X)(g0:s 0=W q)(g1:s 1=W rest)(g2:s 2=U third)(g3:s 3=U v)(g4:s 4=U w):
  ∃hh,X=some (.normal,⟨upd cr 0 (W (min q (T/V):Nat)),hh⟩):=by
 subst hX;exact ad0 hV hv hvb hw h3 2 q rest ω hq hr hT s h g0 g1 g2 g3 g4
theorem Yy{q rest v V:Nat}(hV:V=v*4294967296+w)(hv:2147483648<=v)(hvb:v<4294967296)(hw:w<4294967296)(h3:third<4294967296)(hq:q<=4294967295)(hr:rest<8589934592)(hT:T=(q*v+rest)*4294967296+third):
  R 276 [W q,W rest,U third,U v,U w] []=some (W (min q (T/V):Nat),[]):=by
 refine az Ql rfl ?_;have hl:=ams hV hv hvb hw h3 hq hr hT;simp only[Ag,Gz,go_sem];generalize hX:ao 0 _ _=X;obtain⟨hh,rfl⟩:=hl _ _ _ hX Z Z Z Z Z;simp only[go_sem]
attribute [-go_sem] PK L8 in
theorem ajs{next v:Nat}(hv:2147483648<=v)(hvb:v<4294967296)(ht:top<=v)(hn:next<4294967296)(h3:third<4294967296)(hw:w<4294967296):
  R 267 [U top,U next,U third,U v,U w] []=some (W (yx ((top*4294967296+next)*4294967296+third) (v*4294967296+w):Nat),[]):=by
 refine az Qj rfl ?_;rw[←aad ω hvb ht hn h3];have c1:IntKind.u64.wrap (next:Int)=next:=ip rfl ω
 have c2:IntKind.u64.wrap (v:Int)=v:=ip rfl ω;have c3:IntKind.u64.wrap (top:Int)=top:=ip rfl ω;by_cases h:v<=top
 ·have e1:((v:Int)<=(top:Int))=True:=tt;rw[aq h];have e2:IntKind.u32.wrap ((top:Int)- (v:Int))=0:=by
   rw[show(top:Int)- (v:Int)=0 by omega];rfl
  have e3:IntKind.u64.wrap 0=0:=rfl;have e4:=Jb (n:=0) (k:=32) (i:=0) (kk:=.u64) (j:=32) Z Z δ δ;have e5:IntKind.u64.wrap (0+(next:Int))=next:=ip ω ω
  have e6:IntKind.u64.wrap ((next:Int)+(v:Int))=((next+v:Nat):Int):=ip σ ω;have hd:=Yy (q:=4294967295) (rest:=next+v) (third:=third) (v:=v) (w:=w) (T:=(top*4294967296+next)*4294967296+third) rfl hv hvb hw h3 δ ω (by
   omega)
  have e7:(((4294967295:Nat):Int))=4294967295:=rfl;rw[e7]at hd;rw[Nat.zero_mul]at e4;simp only[aBV]at e4;simp only[uv,go_sem,e1,e2,e3,e4,e5,e6,c1,c2,hd]
 ·have e1:((v:Int)<=(top:Int))=False:=ff;rw[ax h];have e4:=Jb (n:=top) (k:=32) (i:=(top:Int)) (kk:=.u64) (j:=32) Z Z δ ω;have e5:=SD (m:=top*2^32) (n:=next) (i:=((top*2^32:Nat):Int)) (j:=(next:Int)) Z Z ω ω;rw[HW (x:=top) (c:=next) (k:=32) ω,show top*2^32+next=top*4294967296+next from rfl]at e5;obtain⟨N,hN⟩:∃N,top*4294967296+next=N:=⟨_,rfl⟩
  rw[hN]at e5⊢;have hNb:N<18446744073709551616:=ω
  have e6:eN .quo (W N) (W v)=some (W (N/v:Nat)):=by
   rw[RI,ax ω,Int.tdiv_eq_ediv_of_nonneg ω];have:N/v<=N:=Nat.div_le_self _ _;grind[ip]
  have e7:eN .rem (W N) (W v)=some (W (N%v:Nat)):=by
   rw[L7,ax ω,Int.tmod_eq_emod_of_nonneg ω];rfl
  have hm:=aBW N (show 0<v by omega);have hq:N/v<=4294967295:=by
   have:N/v<4294967296:=by
    rw[Nat.div_lt_iff_lt_mul ω];omega
   omega
  have hd:=Yy (q:=N/v) (rest:=N%v) (third:=third) (v:=v) (w:=w) (T:=N*4294967296+third) rfl hv hvb hw h3 hq ω (by
   rw[aBD (N/v) v,aCb])
  simp only[uv,go_sem,e1,e4,e5,e6,e7,c1,c2,c3,hd]
attribute [-go_sem] PK L8 in
theorem ajt{a b:Nat}(hay:a<y)(hy:y<4294967296)(hb:b<4294967296):
  R 275 [U a,U b,U y] []=some (.tup [U ((a*4294967296+b)/y:Nat),U ((a*4294967296+b) %y:Nat)],[]):=by
 refine az XH rfl ?_;have e1:((y:Int)=0)=False:=ff;have e2:((y:Int)<=(a:Int))=False:=ff;have c1:IntKind.u64.wrap (a:Int)=a:=ip rfl ω;have c2:IntKind.u64.wrap (b:Int)=b:=ip rfl ω;have c3:IntKind.u64.wrap (y:Int)=y:=ip rfl ω;have e4:=Jb (n:=a) (k:=32) (i:=(a:Int)) (kk:=.u64) (j:=32) Z Z δ ω;have e5:=SD (m:=a*2^32) (n:=b) (i:=((a*2^32:Nat):Int)) (j:=(b:Int)) Z Z ω ω;rw[HW (x:=a) (c:=b) (k:=32) ω,show a*2^32+b=a*4294967296+b from rfl]at e5;rw[show a*2^32=a*4294967296 from rfl]at e4 e5;obtain⟨N,hN⟩:∃N,a*4294967296+b=N:=⟨_,rfl⟩;rw[hN]at e5⊢;have e6:eN .quo (W N) (W y)=some (W (N/y:Nat)):=by
  rw[RI,ax ω,Int.tdiv_eq_ediv_of_nonneg ω];have:N/y<=N:=Nat.div_le_self _ _;rw[ip (n:=N/y) σ ω]
 have e7:eN .rem (W N) (W y)=some (W (N%y:Nat)):=by
  rw[L7,ax ω,Int.tmod_eq_emod_of_nonneg ω];rfl
 have hm:=aBW N (show 0<y by omega);have hq:N/y<4294967296:=by
  rw[Nat.div_lt_iff_lt_mul ω];have h3:(a+1)*4294967296<=y*4294967296:=aBv _ ω;rw[aBD 4294967296 y];omega
 have w1:IntKind.u32.wrap ((N/y:Nat):Int)=((N/y:Nat):Int):=K1 rfl hq;have w2:IntKind.u32.wrap ((N%y:Nat):Int)=((N%y:Nat):Int):=K1 rfl ω;simp only[D3,go_sem,e1,e2,e4,e5,e6,e7,c1,c2,c3,w1,w2]
def gk(y:Nat):List Nat->List Nat×Nat
 |[]=>([],0)
 |x::l=>(((gk y l).2*4294967296+x)/y::(gk y l).1,((gk y l).2*4294967296+x) %y)
theorem EN{y}(hy:0<y):∀ {l},Lb l->ab l=ab (gk y l).1*y+(gk y l).2/\(gk y l).2<y/\(gk y l).1.length=l.length
 |[],_=>⟨by simp[gk,ab],hy,rfl⟩
 |x::l,hl=>by
  obtain⟨h1,h2,h3⟩:=EN hy (l:=l) fun z hz=>hl z (by simp[hz]);unfold gk;refine⟨?_,aBW _ hy,by simp[h3]⟩;show x+4294967296*ab l=(((gk y l).2*4294967296+x)/y+4294967296*ab (gk y l).1)*y+((gk y l).2*4294967296+x) %y;have hm:=aCb ((gk y l).2*4294967296+x) y;rw[aBD]at hm;rw[aBG,aBH];generalize((gk y l).2*4294967296+x)/y*y=A at*
  omega
theorem abr{y}(hy:0<y)(hyb:y<4294967296):∀ {l},Lb l->Lb (gk y l).1
 |[],_=>fun x hx=>(nomatch hx)
 |x::l,hl=>by
  have hl':Lb l:=fun z hz=>hl z (by simp[hz]);have h2:=(EN hy hl').2.1;have hx:=hl x σ;intro z hz;rcases List.mem_cons.1 hz with h|h
  ·rw[h];show((gk y l).2*4294967296+x)/y<4294967296;rw[Nat.div_lt_iff_lt_mul hy];have h3:((gk y l).2+1)*4294967296<=y*4294967296:=aBv _ ω;rw[aBD 4294967296 y];omega
  ·exact abr hy hyb hl' z h
theorem aju{a}(ha:Lb a)(hy:0<y)(hyb:y<4294967296)(h1:a.length<=100000):
  ∀m,m<=a.length->∀s h,s 0=lm a->s 1=U y->s 6=.rsl 11 none 1 0 a.length->s 7=U (gk y (a.drop m)).2->s 8=I (m-1)->h 11=.ar 1 (aK (aBg m 0++(gk y (a.drop m)).1))->
  ∃hh,ao 0 [6,7] (aD (ap R (aC false) mQ) [0,1,6,7,8] [11] s h)=some (.normal,⟨upd (upd cr 7 (U (gk y a).2)) 6 (.rsl 11 none 1 0 a.length),hh⟩)/\hh 11=.ar 1 (aK (gk y a).1)/\(∀x,x≠11->hh x=.dead):=by
 intro m;induction m with
 |zero=>
  intro hm s h g0 g1 g6 g7 g8 k11;have e1:(0<=((0:Int)-1))=False:=ff;rw[ai];refine⟨?hh0,?_,?_,?_⟩;rotate_left
  ·simp only[mQ,go_sem,g0,g1,g6,g7,g8,k11,e1];rfl
  all_goals simp_all[dv,if_false]
 |succ m ih=>
  intro hm s h g0 g1 g6 g7 g8 k11;have hlt:m<a.length:=ω
  have hd:a.drop m=a.getD m 0::a.drop (m+1):=by
   simp_all
  have ha':Lb (a.drop (m+1)):=pA ha _;obtain⟨q1,q2,q3⟩:=EN hy ha';have e0:((m+1:Nat)-1)=(m:Int):=ω
  rw[e0]at g8;have e1:(0<=(m:Int))=True:=tt;have e2:=dj rfl ω;have e3:aS (m-1)=m-1:=i64_in _ ⟨by omega,by omega⟩;have e5:(m< (a.length:Int))=True:=tt;have e6:=ajt (a:=(gk y (a.drop (m+1))).2) (b:=a.getD m 0) q2 hyb (cX ha m);have ih':=ih ω;rw[hd]at ih';have hs1:(gk y (a.getD m 0::a.drop (m+1))).1=((gk y (a.drop (m+1))).2*4294967296+a.getD m 0)/y::(gk y (a.drop (m+1))).1:=rfl;have hs2:(gk y (a.getD m 0::a.drop (m+1))).2=((gk y (a.drop (m+1))).2*4294967296+a.getD m 0) %y:=rfl;rw[hs1,hs2]at ih';generalize((gk y (a.drop (m+1))).2*4294967296+a.getD m 0)/y=qd at*
  have e7:(aK (aBg (m+1) 0++(gk y (a.drop (m+1))).1))[m]?=some [U 0]:=by
   rw[mu γ,aCl,List.getElem?_append_left σ,List.getElem?_replicate,aq ω];rfl
  have e8:(aK (aBg (m+1) 0++(gk y (a.drop (m+1))).1)).set m [U qd]=aK (aBg m 0++qd::(gk y (a.drop (m+1))).1):=by
   rw[qF];rw[List.replicate_succ',aCd,List.set_append_right _ _ σ];simp
  rw[ai];simp only[mQ,go_sem,g0,g1,g6,g7,g8,k11,e1,e2,e3,e5,e6,e7,e8,aBr,aBi];apply ih'<;>rfl
theorem asf{a}(ha:Lb a)(hy:0<y)(hyb:y<4294967296)(h1:a.length<=100000)(s)(h)(X)(hX:ao 0 [6,7] (aD (ap R (aC false) mQ) [0,1,6,7,8] [11] s h)=X)
  (g0:s 0=lm a) (g1:s 1=U y) (g6:s 6=.rsl 11 none 1 0 a.length) (g7:s 7=U 0) (g8:s 8=I (a.length-1)) (k11:h 11=.ar 1 (aK (aBg a.length 0))):
  ∃hh,X=some (.normal,⟨upd (upd cr 7 (U (gk y a).2)) 6 (.rsl 11 none 1 0 a.length),hh⟩)/\hh 11=.ar 1 (aK (gk y a).1)/\(∀x,x≠11->hh x=.dead):=by
 subst hX;have hn:a.drop a.length=[]:=List.drop_of_length_le (aBh _);refine aju ha hy hyb h1 a.length (aBh _) s h g0 g1 g6 ?_ g8 ?_
 ·rw[hn];exact g7
 ·rw[hn];show h 11=.ar 1 (aK (aBg a.length 0++[]));grind
theorem ajv{a}(ha:Lb a)(hy:0<y)(hyb:y<4294967296)(h1:a.length<=100000):R 265 [lm a,U y] []=some (.tup [lm (gk y a).1,U (gk y a).2],[]):=by
 refine az Qi rfl ?_;have hl:=asf ha hy hyb h1;have e3:aS (a.length-1)=a.length-1:=i64_in _ ⟨by omega,by omega⟩;have e4:=wU (i:=a.length) (j:=a.length) Z Z (aBh _) ω;have e5:(a.length*4<=140737488355328)=True:=tt;simp only[Af,Gx,go_sem,e3,e4,e5,EG];generalize hX:ao 0 _ _=X;obtain⟨hh,rfl,q11,qd⟩:=hl _ _ _ hX Z Z Z Z Z Z;have hlen:=(EN hy ha).2.2;simp only[go_sem,q11,hlen,aBi,aBh]
theorem Yz{u s b:Nat}(hu:u<4294967296)(hs:s<4294967296)(hb:b<4294967296):IntKind.u64.wrap (IntKind.u64.wrap (u-s)-b)=((u+18446744073709551616-s-b) %18446744073709551616:Nat):=by
 grind[IntKind.wrap,IntKind.bits,IntKind.signed]
attribute [-go_sem] RJ Hw in
theorem agk{V Z:List Nat}{q:Nat}(hV:Lb V)(hq:q<4294967296)(hn:V.length<=100000)(hlo:lo<=100000):
  ∀ (vs us P:List Nat) (i c b:Nat),i+vs.length=V.length->V.drop i=vs->us.length=vs.length->P.length=lo+i->Lb us->c<4294967296->b<=1->∀ (s:aN) (h:ah),s 0=.rsl 1000 none 1 lo (V.length+1)->s 1=lm V->s 2=W q->s 7=W c->s 8=W b->s 14=lm V->s 15=I V.length->s 16=I i->h 1000=.ar 1 (aK (P++(us++Z)))->
  ∃hh,ao 0 [0,1,7,8] (aD (ap R (aC false) n9) [0,1,2,7,8,14,15,16] [1000] s h)=some (.normal,⟨upd (upd (upd (upd cr 8 (W ((vj q us vs c b).2.2:Nat))) 7 (W ((vj q us vs c b).2.1:Nat))) 1 (lm V)) 0 (.rsl 1000 none 1 lo (V.length+1)),hh⟩)/\hh 1000=.ar 1 (aK (P++((vj q us vs c b).1++Z))):=by
 intro vs;induction vs with
 |nil=>
  intro us P i c b hi hd hl hP hu hc hb s h g0 g1 g2 g7 g8 g14 g15 g16 k;have hus:us=[]:=List.length_eq_zero_iff.1 hl;subst hus;have hi':i=V.length:=ω
  subst hi';rw[ai];refine⟨?hh0,?_,?_⟩;rotate_left
  ·simp only[n9,go_sem,g0,g1,g2,g7,g8,g14,g15,g16,k,aCh];rfl
  ·rfl
 |cons y vs ih=>
  intro us P i c b hi hd hl hP hu hc hb s h g0 g1 g2 g7 g8 g14 g15 g16 k;obtain⟨u,us,rfl⟩:∃u us',us=u::us':=by
   cases us with
   |nil=>grind
   |cons u us=>grind
  have hi2:i<V.length:=γ
  have hy:V.getD i 0=y/\V.drop (i+1)=vs:=by
   grind[aBJ]
  have hyb:y<4294967296:=by grind[cX]
  have hub:=hu u σ;have hqy:q*y<=4294967295*4294967295:=Nat.mul_le_mul ω ω;have e1:((i:Int)< (V.length:Int))=True:=tt;have e2:dX (aK V) (i:Int)=some (.ipt [U (y:Nat)]):=by
   grind[dj]
  have e3:aS ((i:Int)+1)=((i+1:Nat):Int):=wi;have e4:(0<=(i:Int))=True:=tt;have e5:((i:Int)< ((V.length+1:Nat):Int))=True:=tt;have c1:IntKind.u64.wrap (y:Int)=y:=ip rfl ω;have c2:IntKind.u64.wrap ((q:Int)*(y:Int))=((q*y:Nat):Int):=ip σ ω;have c3:IntKind.u64.wrap (((q*y:Nat):Int)+(c:Int))=((q*y+c:Nat):Int):=ip σ ω;have c4:=yb (n:=q*y+c) (k:=32) (i:=((q*y+c:Nat):Int)) (kk:=.u64) (j:=32) rfl rfl ω;rw[show(2:Nat)^32=4294967296 from rfl]at c4;have c5:IntKind.u64.wrap (u:Int)=u:=ip rfl ω;have c6:=Lg (n:=q*y+c) (i:=((q*y+c:Nat):Int)) rfl ω;have hs:=aBW (q*y+c) (by decide:0<4294967296);have hc2:(q*y+c)/4294967296<4294967296:=by
   omega
  have c7:=Yz (b:=b) hub hs ω;obtain⟨k1,_⟩:=Ta (b:=b) hub hs hb;have ih':=ih us (P++[(u+18446744073709551616- (q*y+c) %4294967296-b) %18446744073709551616%4294967296]) (i+1) ((q*y+c)/4294967296) ((u+18446744073709551616- (q*y+c) %4294967296-b) %18446744073709551616/9223372036854775808) γ hy.2 γ γ (fun x hx=>hu x (by simp[hx])) hc2 k1;unfold vj;generalize(u+18446744073709551616- (q*y+c) %4294967296-b) %18446744073709551616=x at*
  have c8:IntKind.u32.wrap (x:Int)=((x%4294967296:Nat):Int):=Ja rfl;have c9:=yb (n:=x) (k:=63) (i:=(x:Int)) (kk:=.u64) (j:=63) rfl rfl ω;rw[show(2:Nat)^63=9223372036854775808 from rfl]at c9;have e7:(aK (P++(u::us++Z)))[lo+i]?=some [U (u:Nat)]:=by
   rw[mu (by simp[hP]),aCl,List.getElem?_append_right ω,hP,Nat.sub_self];rfl
  have e8:(aK (P++(u::us++Z))).set (lo+i) [U ((x%4294967296:Nat):Int)]=aK (P++[x%4294967296]++(us++Z)):=by
   rw[qF,←hP,List.set_append_right _ _ (aBh _),Nat.sub_self,aCd];rfl
  simp only[aCd,aBF,aBw]at ih' e7 e8 k⊢;rw[ai];generalize aD _ _ _=L at ih'⊢;simp only[n9,go_sem,g0,g1,g2,g7,g8,g14,g15,g16,k,e1,e2,e3,e4,e5,e7,e8,c1,c2,c3,c4,c5,c6,c7,c8,c9,aBr];apply ih'<;>rfl
theorem apj{V Z us P}{q:Nat}(hV:Lb V)(hq:q<4294967296)(hn:V.length<=100000)(hlo:lo<=100000)(hl:us.length=V.length)(hP:P.length=lo)(hu:Lb us)(s)(h)(X)(hX:ao 0 [0,1,7,8] (aD (ap R (aC false) n9) [0,1,2,7,8,14,15,16] [1000] s h)=X)
  (g0:s 0=.rsl 1000 none 1 lo (V.length+1)) (g1:s 1=lm V) (g2:s 2=W q) (g7:s 7=W 0) (g8:s 8=W 0) (g14:s 14=lm V) (g15:s 15=I V.length) (g16:s 16=I 0) (k:h 1000=.ar 1 (aK (P++(us++Z)))):
  ∃hh,X=some (.normal,⟨upd (upd (upd (upd cr 8 (W (vj q us V 0 0).2.2)) 7 (W (vj q us V 0 0).2.1)) 1 (lm V)) 0 (.rsl 1000 none 1 lo (V.length+1)),hh⟩)/\hh 1000=.ar 1 (aK (P++((vj q us V 0 0).1++Z))):=by
 subst hX
 simp_all[agk]
attribute [-go_sem] Hw in
theorem amt{V us P Q:List Nat}{q:Nat}(hV:Lb V)(hq:q<4294967296)(hn:V.length<=100000)(hlo:lo<=100000)(hl:us.length=V.length)(hP:P.length=lo)(hu:Lb us)(ht:top<4294967296):
  R 268 [.rsl 1000 none 1 lo (V.length+1),lm V,W q] [.ar 1 (aK (P++(us++top::Q)))]=some (B (qf q top us V).2.2,[.ar 1 (aK (P++((qf q top us V).1++(qf q top us V).2.1::Q)))]):=by
 refine rh Sy Sx (Ee false) rfl ?_;have hx:=apj (Z:=top::Q) hV hq hn hlo hl hP hu;obtain⟨t1,t2,t3,t4,t5⟩:=Yw hq hu hV hl (c:=0) (b:=0) δ δ;unfold qf;have e4:(0<=(V.length:Int))=True:=tt;have e5:((V.length:Int)< ((V.length+1:Nat):Int))=True:=tt;simp only[BK,HK,go_sem];generalize hX:ao 0 _ _=X;obtain⟨hh,rfl,q1⟩:=hx _ _ _ hX rfl rfl rfl rfl rfl rfl rfl rfl rfl;generalize vj q us V 0 0=r at*
 obtain⟨r1,c,b⟩:=r;simp only at t2 t3 t4 t5 q1⊢;have c5:IntKind.u64.wrap (top:Int)=top:=ip rfl ω;have c7:=Yz (u:=top) (s:=c) (b:=b) ht t2 ω;generalize(top+18446744073709551616-c-b) %18446744073709551616=x at*
 have c8:IntKind.u32.wrap (x:Int)=((x%4294967296:Nat):Int):=Ja rfl;have c9:=yb (n:=x) (k:=63) (i:=(x:Int)) (kk:=.u64) (j:=63) rfl rfl ω;have e7:(aK (P++(r1++top::Q)))[lo+V.length]?=some [U (top:Nat)]:=by
  simp_all[mu,Nat.add_sub_cancel_left,Nat.sub_self]
 have e8:(aK (P++(r1++top::Q))).set (lo+V.length) [U ((x%4294967296:Nat):Int)]=aK (P++(r1++x%4294967296::Q)):=by
  rw[qF,List.set_append_right _ _ ω,List.set_append_right _ _ ω,hP,t5,Nat.add_sub_cancel_left,Nat.sub_self];rfl
 have e9:(((x/9223372036854775808:Nat):Int)=1)=(x/9223372036854775808=1):=by
  grind
 simp only[go_sem,q1,e4,e5,e7,e8,c5,c7,c8,c9,e9,aBr];rfl
theorem agl{V us P Q}{q:Nat}(hV:Lb V)(hq:q<4294967296)(hn:V.length<=100000)(hlo:lo<=100000)(hl:us.length=V.length)(hP:P.length=lo)(hu:Lb us)(ht:top<4294967296){h}{d id}(hh:h id=.ar 1 (aK (P++(us++top::Q))))(hd:h (2000+8*d)=.dead):
  bB R (aC false) h d [.rsl id none 1 lo (V.length+1),lm V,W q] (.fn 268 [] [])=some (B (qf q top us V).2.2,upd h id (.ar 1 (aK (P++((qf q top us V).1++(qf q top us V).2.1::Q)))),[(id,true)]):=by
 have hm:=Sz false;have hs:=Qk false;have hk:=Ee false;have hf:=amt (Q:=Q) hV hq hn hlo hl hP hu ht;have hb':kC (aC false) [.rsl id none 1 lo (V.length+1),lm V,W q] (.fn 268 [] [])=false:=by
  grind[kC]
 have h1:ce h [1,0,0] [.rsl id none 1 lo (V.length+1),.sl 1 (aK V),W q]=some ([.rsl id none 1 lo (V.length+1),.sl 1 (aK V),W q],h,[]):=by
  simp[ce,dV,yq,gZ,aH]
 have hr:bU h 40 [id] 0=[id]:=by
  grind[bU,lH,bC]
 have hp:bC [] ([AV.rsl id none 1 lo (V.length+1),.sl 1 (aK V),W q].flatMap cH)=[id]:=by
  simp[cH,gN,bC]
 have h3:bg [id] id=1000:=by simp[bg]
 have hnr:cM (B (qf q top us V).2.2)=1:=rfl;have hnm:bv [[.o 2 []],[.o 2 []],[]] [.rsl id none 1 lo (V.length+1),.sl 1 (aK V),W q]=[.rsl id none 1 lo (V.length+1),.sl 1 (aK V),W q]:=by
  simp only[go_sem];rfl
 unfold bB;rw[ax γ];simp only[lm]at hf⊢;simp only[dZ,aBw,aBz,aBl, *];simp[ke,be,bw,aE,bX,dS,ko,dY,eJ,cj,cY,bf,mG,A7,tQ,gN,ku,gr,Gi,eB,mat,ez,gD,G1, *]
theorem ajw{V us P Z Qr}{sh n j g:Int}{UL QL J:Nat}(hV:Lb V)(hu:Lb us)(hl:us.length=V.length)(hn:V.length<=100000)(hP:P.length=J)(hj:j=J)(hJ:J<=100000)(hUL:J+V.length<=UL):
  ∀k i,i+k=V.length->∀s h,s 8=I sh->s 9=.rsl 2408 none 1 0 UL->s 10=lm V->s 11=I n->s 12=.rsl 70 none 1 0 QL->s 13=I j->s 14=W g->s 15=U (kP us V i)->s 123=lm V->s 124=I V.length->s 125=I i->h 63=.dead->h 70=.ar 1 (aK Qr)->h 2408=.ar 1 (aK (P++(fV us V i++(us.drop i++Z))))->
  ∃hh,ao 4 [8,9,10,11,12,13,14,15] (aD (ap R (aC false) jH) [8,9,10,11,12,13,14,15,123,124,125] [63,70,2408] s h)=some (.normal,⟨upd (upd (upd (upd (upd (upd (upd (upd cr 15 (U (kP us V V.length))) 14 (W g)) 13 (I j)) 12 (.rsl 70 none 1 0 QL)) 11 (I n)) 10 (lm V)) 9 (.rsl 2408 none 1 0 UL)) 8 (I sh),hh⟩)/\hh 70=.ar 1 (aK Qr)/\hh 2408=.ar 1 (aK (P++(fV us V V.length++Z)))/\(∀a,a≠70->a≠2408->hh a=.dead):=by
 subst hj;intro k;induction k with
 |zero=>
  intro i hi s h g8 g9 g10 g11 g12 g13 g14 g15 g123 g124 g125 k63 k70 k2408;have hi':i=V.length:=ω
  subst hi';rw[List.drop_of_length_le ω,aBw]at k2408;rw[ai];refine⟨?hh0,?_,?_,?_,?_⟩;rotate_left
  ·simp only[jH,go_sem,g8,g9,g10,g11,g12,g13,g14,g15,g123,g124,g125,k63,k70,k2408,aCh];rfl
  all_goals simp_all[dv,if_false,ite_self]
 |succ k ih=>
  intro i hi s h g8 g9 g10 g11 g12 g13 g14 g15 g123 g124 g125 k63 k70 k2408;have hlt:i<V.length:=ω
  have hd:us.drop i=us.getD i 0::us.drop (i+1):=by
   simp_all
  have hsl:=rG us V i;rw[hd,aBF]at k2408;have e1:(i< (V.length:Int))=True:=tt;have e2:=dj rfl ω;have e3:aS (i+1)=(i+1:Nat):=wi;have e4:aS (J+i)=(J+i:Nat):=wi;have e5:(0<=((J+i:Nat):Int))=True:=tt;have e6:((J+i:Nat)< (UL:Int))=True:=tt;have e9:=Ow (cX hu i) (cX hV i) (K2 hu hV i);have e7:(aK (P++(fV us V i++(us.getD i 0::(us.drop (i+1)++Z)))))[J+i]?=some [U (us.getD i 0)]:=by
   simp_all[mu,Nat.add_sub_cancel_left,Nat.sub_self]
  have e8:(aK (P++(fV us V i++(us.getD i 0::(us.drop (i+1)++Z))))).set (J+i) [U ((us.getD i 0+V.getD i 0+kP us V i) %4294967296:Nat)]=aK (P++(fV us V (i+1)++(us.drop (i+1)++Z))):=by
   rw[qF,List.set_append_right _ _ ω,List.set_append_right _ _ ω,hP,hsl,Nat.add_sub_cancel_left,Nat.sub_self];simp[fV,List.range_succ,SC]
  have ih':=ih (i+1) ω;have hc:kP us V (i+1)=(us.getD i 0+V.getD i 0+kP us V i)/4294967296:=rfl;rw[ai];simp only[jH,go_sem,g8,g9,g10,g11,g12,g13,g14,g15,g123,g124,g125,k63,k70,k2408,e1,e2,e3,e4,e5,e6,e7,e8,e9,aBr,aBi];apply ih'<;>rfl
theorem apk{U V}{j k}(hU:Lb U)(hV:Lb V)(hvl:V.length=k+2)(h:ab (U.drop (j+1))<ab V):U.getD (j+(k+2)) 0<=V.getD (k+1) 0:=by
 have h1:ab V=ab (V.take (k+1))+4294967296^ (k+1)*V.getD (k+1) 0:=by
  rw[←iK,aBE ω]
 have h2:=dN (iW hV (k+1));rw[aBN,aCc ω]at h2;have h3:4294967296^ (k+1)*U.getD (j+(k+2)) 0<=ab (U.drop (j+1)):=by
  by_cases hl:j+1+(k+1)<=U.length
  ·have h4:=GL (U.drop (j+1)) (k+1) (by rw[List.length_drop];omega);rw[List.drop_drop]at h4;have h5:=gx U (j+1+(k+1));rw[show j+1+(k+1)=j+(k+2)by omega]at h4 h5;rw[h4,h5,Nat.mul_add];omega
  grind
 refine Nat.le_of_not_lt fun hc=>?_;have h6:4294967296^ (k+1)*(V.getD (k+1) 0+1)<=4294967296^ (k+1)*U.getD (j+(k+2)) 0:=aCg _ hc;rw[Nat.mul_add,Nat.mul_one]at h6;omega
theorem agm{U}{j n}(h:j+n<U.length):U=U.take j++((U.drop j).take n++U.getD (j+n) 0::U.drop (j+n+1)):=by
 grind[aBJ,List.drop_drop,List.take_append_drop]
theorem abt{U:List Nat}{j n i}(hi:i<n):((U.drop j).take n).getD i 0=U.getD (j+i) 0:=by
 rw[aCl,aCl,List.getElem?_take,aq hi,List.getElem?_drop]
theorem asg{V us P Z Qr}{sh n j g:Int}{UL QL J:Nat}(hV:Lb V)(hu:Lb us)(hl:us.length=V.length)(hn:V.length<=100000)(hP:P.length=J)(hj:j=J)(hJ:J<=100000)(hUL:J+V.length<=UL)(s)(h)(X)(hX:ao 4 [8,9,10,11,12,13,14,15] (aD (ap R (aC false) jH) [8,9,10,11,12,13,14,15,123,124,125] [63,70,2408] s h)=X)
  (g8:s 8=I sh) (g9:s 9=.rsl 2408 none 1 0 UL) (g10:s 10=lm V) (g11:s 11=I n) (g12:s 12=.rsl 70 none 1 0 QL) (g13:s 13=I j) (g14:s 14=W g) (g15:s 15=U 0) (g123:s 123=lm V) (g124:s 124=I V.length) (g125:s 125=I 0) (k63:h 63=.dead) (k70:h 70=.ar 1 (aK Qr)) (k2408:h 2408=.ar 1 (aK (P++(us++Z)))):
  ∃hh,X=some (.normal,⟨upd (upd (upd (upd (upd (upd (upd (upd cr 15 (U (kP us V V.length))) 14 (W g)) 13 (I j)) 12 (.rsl 70 none 1 0 QL)) 11 (I n)) 10 (lm V)) 9 (.rsl 2408 none 1 0 UL)) 8 (I sh),hh⟩)/\hh 70=.ar 1 (aK Qr)/\hh 2408=.ar 1 (aK (P++(fV us V V.length++Z)))/\(∀a,a≠70->a≠2408->hh a=.dead):=by
 subst hX;exact ajw hV hu hl hn hP hj hJ hUL V.length 0 (aBi _) s h g8 g9 g10 g11 g12 g13 g14 g15 g123 g124 g125 k63 k70 k2408
theorem apl{q top}{us vs}(hq:q<4294967296)(ht:top<4294967296)(hu:Lb us)(hv:Lb vs)(hl:us.length=vs.length)(hf:(qf q top us vs).2.2=true):1<=q:=by
 obtain⟨t1,t2,t3,t4⟩:=Tb hq ht hu hv hl;rw[aq hf]at t1;refine Nat.pos_of_ne_zero fun h0=>?_;rw[h0,Nat.zero_mul,aBR]at t1;have h1:=dN t3;rw[h0]at t2 h1 t4;rw[t4]at h1;have h2:4294967296^vs.length*((qf 0 top us vs).2.1+1)<=4294967296^vs.length*4294967296:=aCg _ ω;rw[Nat.mul_add,Nat.mul_one]at h2;omega
theorem agn{A r}{j k t}(h:r.length=k+2):A.take j++(r++t::A.drop (j+(k+2)+1))=qA A j r t:=by
 grind[qA]
theorem ajx{V}{k}{sh}{UL QL}(hV:Lb V)(hvl:V.length=k+2)(hn2:2147483648<=V.getD (k+1) 0)(hn:V.length<=100000)(hUL:UL<=100000):
  ∀m A Dn,Lb A->A.length=UL->m+(k+2)<=UL->m+Dn.length=QL->ab (A.drop m)<ab V->∀s h,s 8=I sh->s 9=.rsl 2408 none 1 0 UL->s 10=lm V->s 11=I (k+2:Nat)->s 12=.rsl 70 none 1 0 QL->s 13=I (m-1)->h 63=.dead->h 70=.ar 1 (aK (aBg m 0++Dn))->h 2408=.ar 1 (aK A)->
  ∃hh,ao 2 [8,9,11,12] (aD (ap R (aC false) l7) [8,9,10,11,12,13] [63,70,2408] s h)=some (.normal,⟨upd (upd (upd (upd cr 12 (.rsl 70 none 1 0 QL)) 11 (I (k+2:Nat))) 9 (.rsl 2408 none 1 0 UL)) 8 (I sh),hh⟩)/\hh 70=.ar 1 (aK ((AO V m A).2++Dn))/\hh 2408=.ar 1 (aK (AO V m A).1)/\(∀a,a≠70->a≠2408->hh a=.dead):=by
 intro m;induction m with
 |zero=>
  intro A Dn hA hl hm hq hlt s h g8 g9 g10 g11 g12 g13 k63 k70 k2408;have e1:(0<=(((0:Nat):Int)-1))=False:=ff;rw[ai];refine⟨?hh0,?_,?_,?_,?_⟩;rotate_left
  ·simp only[l7,go_sem,g8,g9,g10,g11,g12,g13,k63,k70,k2408,e1];rfl
  ·rfl
  ·rfl
  simp_all[dv,if_false,ite_self]
 |succ j ih=>
  intro A Dn hA hl hm hq hlt s h g8 g9 g10 g11 g12 g13 k63 k70 k2408;have e0:(((j+1:Nat):Int)-1)=(j:Int):=ω
  rw[e0]at g13;have e1:(0<=(j:Int))=True:=tt;have w1:aS ((j:Int)+((k+2:Nat):Int))=((j+(k+2):Nat):Int):=wi σ ω;have w2:IntKind.i64.wrap (((j+(k+2):Nat):Int)-1)=((j+(k+1):Nat):Int):=wi;have w3:aS (((j+(k+2):Nat):Int)-2)=((j+k:Nat):Int):=wi;have w4:aS (((k+2:Nat):Int)-1)=((k+1:Nat):Int):=wi;have w5:aS (((k+2:Nat):Int)-2)=((k:Nat):Int):=wi;have w6:aS (((j+(k+2):Nat):Int)+1)=((j+(k+2)+1:Nat):Int):=wi;have w7:aS ((j:Int)-1)=(j:Int)-1:=i64_in _ ⟨by omega,by omega⟩;have r1:dX (aK V) ((k+1:Nat):Int)=some (.ipt [U (V.getD (k+1) 0:Nat)]):=dj rfl ω;have r2:dX (aK V) ((k:Nat):Int)=some (.ipt [U (V.getD k 0:Nat)]):=dj rfl ω;have b1:(0<=((j+(k+2):Nat):Int))=True:=tt;have b2:(0<=((j+(k+1):Nat):Int))=True:=tt;have b3:(0<=((j+k:Nat):Int))=True:=tt;have b4:(((j+(k+2):Nat):Int)< (UL:Int))=True:=tt;have b5:(((j+(k+1):Nat):Int)< (UL:Int))=True:=tt;have b6:(((j+k:Nat):Int)< (UL:Int))=True:=tt;have l1:(aK A)[j+(k+2)]?=some [U (A.getD (j+(k+2)) 0:Nat)]:=mu ω;have l2:(aK A)[j+(k+1)]?=some [U (A.getD (j+(k+1)) 0:Nat)]:=mu ω;have l3:(aK A)[j+k]?=some [U (A.getD (j+k) 0:Nat)]:=mu ω;have htop:=apk hA hV hvl hlt;have hg:=ajs (top:=A.getD (j+(k+2)) 0) (next:=A.getD (j+(k+1)) 0) (third:=A.getD (j+k) 0) (v:=V.getD (k+1) 0) (w:=V.getD k 0) hn2 (cX hV _) htop (cX hA _) (cX hA _) (cX hV _);have hT:Cf (A.getD (j+(k+2)) 0) ((A.drop j).take (k+2))=(A.getD (j+(k+2)) 0*4294967296+A.getD (j+(k+1)) 0)*4294967296+A.getD (j+k) 0:=by
   unfold Cf;have h1:((A.drop j).take (k+2)).length=k+2:=γ
   rw[h1,show k+2-1=k+1 by omega,show k+2-2=k by omega,abt ω,abt ω]
  have hW:AN V=V.getD (k+1) 0*4294967296+V.getD k 0:=by
   grind[AN]
  rw[←hT,←hW]at hg;have hgb:yx (Cf (A.getD (j+(k+2)) 0) ((A.drop j).take (k+2))) (AN V)<4294967296:=by
   grind[yx,Cf,AN,Nat.min_le_left]
  obtain⟨G,hG⟩:∃G,yx (Cf (A.getD (j+(k+2)) 0) ((A.drop j).take (k+2))) (AN V)=G:=⟨_,rfl⟩;rw[hG]at hg hgb;have hsp:=agm (U:=A) (j:=j) (n:=k+2) ω;have hwl:((A.drop j).take (k+2)).length=V.length:=γ
  have hpl:(A.take j).length=j:=γ
  have htk:=fun(h:ah) (d:Nat) (hh:h 2408=.ar 1 (aK A)) (hd:h (2000+8*d)=.dead)=>agl (V:=V) (us:=(A.drop j).take (k+2)) (P:=A.take j) (Q:=A.drop (j+(k+2)+1)) (q:=G) (lo:=j) (top:=A.getD (j+(k+2)) 0) hV hgb hn ω hwl hpl (iW (pA hA j) _) (cX hA _) (h:=h) (d:=d) (id:=2408) γ hd;rw[hvl]at htk;have sl:fm 1 (.rsl 2408 none 1 0 UL) (some (I (j:Int))) (some (I ((j+(k+2)+1:Nat):Int))) none=some (.rsl 2408 none 1 j (k+2+1)):=by
   have h1:lQ UL UL (some (I ((j+(k+2)+1:Nat):Int)))=some (j+(k+2)+1):=wS rfl ω;have h2:lQ 0 (j+(k+2)+1) (some (I (j:Int)))=some j:=wS rfl ω;have h3:j+(k+2)+1-j=k+2+1:=ω
   simp only[fm,me,h1,h2,aBl,aBZ,aBi,h3,if_true,Option.isNone_none]
  rw[ai];generalize aD _ _ _=L at ih⊢;simp only[l7,go_sem,g8,g9,g10,g11,g12,g13,k63,k70,k2408,e1,w1,w2,w3,w4,w5,w6,r1,r2,b1,b2,b3,b4,b5,b6,l1,l2,l3,hg,sl,aBr,aBi];rw[htk _ _ rfl rfl];have hpos:=apl (q:=G) (top:=A.getD (j+(k+2)) 0) (us:=(A.drop j).take (k+2)) (vs:=V) hgb (cX hA _) (iW (pA hA j) _) hV hwl;obtain⟨q1,q2,q3,q4⟩:=Tb (q:=G) (top:=A.getD (j+(k+2)) 0) (us:=(A.drop j).take (k+2)) (vs:=V) hgb (cX hA _) (iW (pA hA j) _) hV hwl;have hVb:ab V<4294967296^ (k+2):=by grind[dN]
  obtain⟨x1,x2,x3⟩:=abq (n:=k+2) hA ω hVb hlt;have hs:=agh (top:=A.getD (j+(k+2)) 0) (cX hA _) (iW (pA hA j) (k+2)) hV (by rw[hwl,hvl]) hvl hn2 ω;have hdv:AO V (j+1) A=((AO V j (qA A j (zE (A.getD (j+(k+2)) 0) ((A.drop j).take (k+2)) V).1 (zE (A.getD (j+(k+2)) 0) ((A.drop j).take (k+2)) V).2.1)).1,(AO V j (qA A j (zE (A.getD (j+(k+2)) 0) ((A.drop j).take (k+2)) V).1 (zE (A.getD (j+(k+2)) 0) ((A.drop j).take (k+2)) V).2.1)).2++[(zE (A.getD (j+(k+2)) 0) ((A.drop j).take (k+2)) V).2.2]):=by
   rw[←hvl];rfl
  rw[x1]at hs;rw[hdv];have hds:zE (A.getD (j+(k+2)) 0) ((A.drop j).take (k+2)) V=if(qf G (A.getD (j+(k+2)) 0) ((A.drop j).take (k+2)) V).2.2=true then(fV (qf G (A.getD (j+(k+2)) 0) ((A.drop j).take (k+2)) V).1 V V.length,((qf G (A.getD (j+(k+2)) 0) ((A.drop j).take (k+2)) V).2.1+kP (qf G (A.getD (j+(k+2)) 0) ((A.drop j).take (k+2)) V).1 V V.length) %4294967296,G-1)else((qf G (A.getD (j+(k+2)) 0) ((A.drop j).take (k+2)) V).1,(qf G (A.getD (j+(k+2)) 0) ((A.drop j).take (k+2)) V).2.1,G):=by
   unfold zE;rw[hG]
  generalize qf G (A.getD (j+(k+2)) 0) ((A.drop j).take (k+2)) V=r at*
  obtain⟨ra,rt,rf⟩:=r;generalize zE (A.getD (j+(k+2)) 0) ((A.drop j).take (k+2)) V=sd at*
  have wg:IntKind.u32.wrap (G:Int)=G:=K1 rfl hgb;have o1:(aK (aBg (j+1) 0++Dn))[j]?=some [U (0:Nat)]:=by
   rw[mu (by simp;omega),aCl,List.getElem?_append_left σ,List.getElem?_replicate,aq ω];rfl
  have o2:∀z:Nat,(aK (aBg (j+1) 0++Dn)).set j [U (z:Int)]=aK (aBg j 0++z::Dn):=fun z=>by
   rw[qF];congr 1;rw[List.replicate_succ',aCd,List.set_append_right _ _ σ];simp
  have o3:((j:Int)< (QL:Int))=True:=tt;cases rf with
  |false=>
   simp only[aCa,if_false]at hds;subst hds;simp only at hs⊢;obtain⟨d1,d2,d3,d4,d5⟩:=hs;rw[agn d4];have ih':=ih (qA A j ra rt) (G::Dn) (Tc hA d3 d5) (by rw[FP ω];exact hl) ω (by simp;omega) (by
    rw[Ls ω,fM,d4,w2' x2,d1];exact aBW _ ω)
   simp only[go_sem,w7,wg,o1,o2,o3,e1,aBr,aBi];rw[aCd];apply ih'<;>rfl
  |true=>
   simp only[if_true]at hds;subst hds;simp only at hs q2 q3 q4⊢;obtain⟨d1,d2,d3,d4,d5⟩:=hs;have hG1:1<=G:=hpos rfl;have wq:IntKind.u64.wrap ((G:Int)-1)=((G-1:Nat):Int):=ip ω ω;have wg1:IntKind.u32.wrap ((G-1:Nat):Int)=((G-1:Nat):Int):=K1 rfl ω;have hx:=asg (V:=V) (us:=ra) (P:=A.take j) (Z:=rt::A.drop (j+(k+2)+1)) (Qr:=aBg (j+1) 0++Dn) (sh:=sh) (n:=(k+2:Nat)) (j:=(j:Int)) (g:=((G-1:Nat):Int)) (UL:=UL) (QL:=QL) (J:=j) hV q3 q4 hn hpl rfl ω ω;simp only[go_sem,wq];generalize hX:ao 4 _ _=X;obtain⟨hh,rfl,y70,y2408,yd⟩:=hx _ _ _ hX rfl rfl rfl rfl rfl rfl rfl rfl rfl rfl rfl rfl rfl rfl;have y63:hh 63=.dead:=yd _ δ δ;have hsl:(fV ra V V.length).length=k+2:=by rw[rG,hvl]
   have wc:IntKind.u32.wrap ((rt:Int)+(kP ra V V.length:Int))=(((rt+kP ra V V.length) %4294967296:Nat):Int):=Ja σ;have z1:(aK (A.take j++(fV ra V V.length++rt::A.drop (j+(k+2)+1))))[j+(k+2)]?=some [U (rt:Nat)]:=by
    rw[mu (by simp[hpl,hsl]),aCl,List.getElem?_append_right ω,List.getElem?_append_right ω,hpl,hsl,Nat.add_sub_cancel_left,Nat.sub_self];rfl
   have z2:(aK (A.take j++(fV ra V V.length++rt::A.drop (j+(k+2)+1)))).set (j+(k+2)) [U (((rt+kP ra V V.length) %4294967296:Nat):Int)]=aK (qA A j (fV ra V V.length) ((rt+kP ra V V.length) %4294967296)):=by
    rw[qF,List.set_append_right _ _ ω,List.set_append_right _ _ ω,hpl,hsl,Nat.add_sub_cancel_left,Nat.sub_self,←agn hsl];rfl
   have ih':=ih (qA A j (fV ra V V.length) ((rt+kP ra V V.length) %4294967296)) ((G-1)::Dn) (Tc hA d3 d5) (by rw[FP ω];exact hl) ω (by simp;omega) (by
    rw[Ls ω,fM,hsl,w2' x2,d1];exact aBW _ ω)
   generalize qA A j (fV ra V V.length) ((rt+kP ra V V.length) %4294967296)=A2 at*
   generalize(rt+kP ra V V.length) %4294967296=rc at*
   simp only[go_sem,w1,w7,wg1,wc,z1,z2,o1,o2,o3,e1,b1,b4,y63,y70,y2408,aBr,aBi];rw[aCd];exact ih' _ _ rfl rfl rfl rfl rfl rfl y63 rfl rfl
theorem amu{x:Nat}(hx:x<4294967296):R 266 [U x] []=some (I (32-ag x:Nat),[]):=by
 refine az HR rfl ?_;have hb:ag x<=32:=bT.2 hx;have hl:=XU hx;have w1:aS (32- (ag x))=(32-ag x:Nat):=wi;simp only[rD,go_sem,hl,w1]
theorem ash{V A}{k}{sh}{UL m}(hV:Lb V)(hvl:V.length=k+2)(hn2:2147483648<=V.getD (k+1) 0)(hn:V.length<=100000)(hUL:UL<=100000)(hA:Lb A)(hl:A.length=UL)(hm:m+(k+2)<=UL)(hlt:ab (A.drop m)<ab V)(s)(h)(X)(hX:ao 2 [8,9,11,12] (aD (ap R (aC false) l7) [8,9,10,11,12,13] [63,70,2408] s h)=X)
  (g8:s 8=I sh) (g9:s 9=.rsl 2408 none 1 0 UL) (g10:s 10=lm V) (g11:s 11=I (k+2:Nat)) (g12:s 12=.rsl 70 none 1 0 m) (g13:s 13=I (m-1)) (k63:h 63=.dead) (k70:h 70=.ar 1 (aK (aBg m 0))) (k2408:h 2408=.ar 1 (aK A)):
  ∃hh,X=some (.normal,⟨upd (upd (upd (upd cr 12 (.rsl 70 none 1 0 m)) 11 (I (k+2:Nat))) 9 (.rsl 2408 none 1 0 UL)) 8 (I sh),hh⟩)/\hh 70=.ar 1 (aK (AO V m A).2)/\hh 2408=.ar 1 (aK (AO V m A).1)/\(∀a,a≠70->a≠2408->hh a=.dead):=by
 subst hX;have:=ajx (sh:=sh) (QL:=m) hV hvl hn2 hn hUL m A [] hA hl hm σ hlt s h g8 g9 g10 g11 g12 g13 k63 (by rw[aBz];exact k70) k2408;rw[aBz]at this;exact this
theorem ajy{b}{k}(hb:Lb b)(hl:b.length=k+2)(ht:b.getD (k+1) 0≠0):2147483648*4294967296^ (k+1)<=ab b*2^ (32-ag (b.getD (k+1) 0))/\ab b*2^ (32-ag (b.getD (k+1) 0))<4294967296^ (k+2):=by
 have h1:ab b=ab (b.take (k+1))+4294967296^ (k+1)*b.getD (k+1) 0:=by
  rw[←iK,aBE ω]
 have h2:=dN (iW hb (k+1));rw[aBN,aCc ω]at h2;have h3:=cX hb (k+1);generalize b.getD (k+1) 0=x at*
 have h4:ag x<=32:=bT.2 h3;have h5:=ju ht;have h6:=ed (n:=x) (32-ag x) ht;have h7:2147483648<=x*2^ (32-ag x):=by
  refine Nat.le_of_not_lt fun hc=>?_;have:=bT.2 (show x*2^ (32-ag x)<2^31 from hc);omega
 have h8:=by
  have h9:x<2^ag x:=bT.1 (aBh _);have h10:(x+1)*2^ (32-ag x)<=2^ag x*2^ (32-ag x):=aBv _ h9;rw[←aBx,show ag x+(32-ag x)=32 by omega]at h10;exact h10
 rw[h1];have e:4294967296^ (k+2)=4294967296^ (k+1)*4294967296:=aB6 ..;rw[e];generalize 4294967296^ (k+1)=B at*
 generalize 2^ (32-ag x)=S at*
 have h11:B*2147483648<=B*(x*S):=aCg _ h7;have h12:B*((x+1)*S)<=B*4294967296:=aCg _ h8;have h13:(ab (b.take (k+1))+B*x)*S=ab (b.take (k+1))*S+B*(x*S):=by rw[aBG,aBH]
 rw[h13];constructor
 ·omega
 ·have hS:0<S:=by
   rcases Nat.eq_zero_or_pos S with h0|h0
   ·rw[h0]at h7;omega
   ·exact h0
  have h14:=Nat.mul_lt_mul_of_pos_right h2 hS;rw[aBG,Nat.one_mul,Nat.mul_add]at h12;omega
theorem aae{a b}(ha:Lb a)(hb:Lb b)(h1:a.length<=50000)(h2:b.length<=50000)(hl:(aA (ab b)).length=1)(hge:ab b<=ab a):R 233 [lm a,lm b] []=some (.tup [lm (gk (ab b) (aA (ab a))).1,lm [ab a%ab b]],[]):=by
 refine az FA rfl ?_;have t1:=dU ha ω;have t2:=dU hb ω;have la:=dM a ha;have hc:=BU (bJ (ab a)) (bJ (ab b)) ω ω;rw[bp,bp]at hc;have e1:(eE (ab a) (ab b)<0)=False:=by
  unfold eE;grind
 obtain⟨y,hy⟩:=List.length_eq_one_iff.1 hl;have hv:ab b=y:=by
  grind[bp,ab]
 have hyb:=by
  have:=bJ (ab b);rw[hy]at this;exact this y σ
 have hy0:0<y:=by
  grind[gh]
 have hs:=ajv (bJ (ab a)) hy0 hyb ω;obtain⟨s1,s2,s3⟩:=EN hy0 (bJ (ab a));rw[bp]at s1;have s4:(gk y (aA (ab a))).2=ab a%y:=by
  grind[aBD,Nat.mul_add_mod,aB8]
 rw[hv]at hge⊢;rw[s4]at hs;rw[hy]at t2 hc;have e2:dX (aK [y]) 0=some (.ipt [U y]):=dj (n:=0) rfl σ;have e3:([y]:List Nat).length=1:=rfl;have e4:((1:Nat):Int)=1:=rfl;simp only[rZ,Ae,go_sem,t1,t2,hc,e1,e2,e3,e4,hs,decide_true];rfl
theorem aaf{a b}{k}(ha:Lb a)(hb:Lb b)(h1:a.length<=50000)(h2:b.length<=50000)(hl:(aA (ab b)).length=k+2)(hge:ab b<=ab a):∃Q Rr,R 233 [lm a,lm b] []=some (.tup [lm Q,lm Rr],[])/\Lb Q/\Lb Rr/\ab Q=ab a/ab b/\ab Rr=ab a%ab b/\Q.length<=100000/\Rr.length<=100000:=by
 have t1:=dU ha ω;have t2:=dU hb ω;have la:=dM a ha;have lb:=dM b hb;have hc:=BU (bJ (ab a)) (bJ (ab b)) ω ω;rw[bp,bp]at hc;have e1:(eE (ab a) (ab b)<0)=False:=by
  unfold eE;grind
 have hvd:=bp (ab b);have hLd:=bJ (ab b);have hb0:ab b≠0:=fun h=>by
  rw[py.2 h]at hl;grind
 have ht:(aA (ab b)).getD (k+1) 0≠0:=by
  intro h0;have q1:ab (aA (ab b))=ab ((aA (ab b)).take (k+1))+4294967296^ (k+1)*(aA (ab b)).getD (k+1) 0:=by
   rw[←iK,aBE ω]
  have q2:=dN (iW hLd (k+1));have q3:=Ud hb0;rw[aBN,aCc ω]at q2;rw[hl,show k+2-1=k+1 from rfl]at q3;rw[h0,Nat.mul_zero,hvd]at q1;omega
 obtain⟨n1,n2⟩:=ajy hLd hl ht;rw[hvd]at n1 n2;have hy:=cX hLd (k+1);have hyl:dX (aK (aA (ab b))) ((k+1:Nat):Int)=some (.ipt [U ((aA (ab b)).getD (k+1) 0:Nat)]):=dj (n:=k+1) rfl ω;generalize(aA (ab b)).getD (k+1) 0=y at*
 have hlz:=amu hy;have hbl:ag y<=32:=bT.2 hy;have hbp:=ju ht;generalize hs:32-ag y=s at*
 have hs32:=ω
 have s1:=Qq (bJ (ab a)) (n:=s) ω ω;have s2:=Qq hLd (n:=s) ω ω;rw[bp,show s/32=0 by omega,aBi]at s1 s2;have hsp:=aB4 (n:=2) (i:=s) (j:=31) δ ω;have hAl:=iO (ab a);have hBl:=iO (ab b);have hle:k+2<=(aA (ab a)).length:=by
  rw[←hl];refine Nat.le_of_not_lt fun hc=>?_;have:=Eu hc;omega
 have hA2:ab a*2^s<4294967296^ ((aA (ab a)).length+1):=by
  rw[aB6];exact Nat.mul_lt_mul_of_lt_of_le hAl ω δ
 have hB2:ab b*2^s<4294967296^ ((aA (ab b)).length+1):=by
  rw[aB6];exact Nat.mul_lt_mul_of_lt_of_le hBl ω δ
 have t3:=dU (m:=fw ((aA (ab b)).length+1) (ab b*2^s)) (sR _ _) (by rw[dO];omega);rw[rF,aB8 hB2]at t3;have hVv:=bp (ab b*2^s);have hVb:=bJ (ab b*2^s);have hVl:=by
  have q1:=lE n2;have q2:=iO (ab b*2^s);refine Nat.le_antisymm q1 (Nat.le_of_not_lt fun hc=>?_);have q3:4294967296^ (aA (ab b*2^s)).length<=4294967296^ (k+1):=aB4 δ ω;omega
 have hVt:2147483648<=(aA (ab b*2^s)).getD (k+1) 0:=by
  have q1:ab (aA (ab b*2^s))=ab ((aA (ab b*2^s)).take (k+1))+4294967296^ (k+1)*(aA (ab b*2^s)).getD (k+1) 0:=by
   rw[←iK,aBE ω]
  have q2:=dN (iW hVb (k+1));rw[aBN,aCc ω]at q2;refine Nat.le_of_not_lt fun hc=>?_;have q3:4294967296^ (k+1)*((aA (ab b*2^s)).getD (k+1) 0+1)<=4294967296^ (k+1)*2147483648:=aCg _ hc;rw[Nat.mul_add,Nat.mul_one]at q3;omega
 generalize aA (ab b*2^s)=V at*
 obtain⟨m,hm⟩:∃m,(aA (ab a)).length=m+(k+1):=⟨_,(Nat.sub_add_cancel ω).symm⟩;have hUv:ab (fw ((aA (ab a)).length+1) (ab a*2^s))=ab a*2^s:=by rw[rF,aB8 hA2]
 have hUb:=sR ((aA (ab a)).length+1) (ab a*2^s);have hUl:=dO ((aA (ab a)).length+1) (ab a*2^s);have hlt:ab ((fw ((aA (ab a)).length+1) (ab a*2^s)).drop m)<ab V:=by
  rw[Ak hUb,hUv,hVv];refine aCf (Nat.div_lt_of_lt_mul ?_) n1;rw[aBD 2147483648,←aBH,←aBx,←hm];exact Nat.mul_lt_mul_of_lt_of_le hAl hsp δ
 generalize fw ((aA (ab a)).length+1) (ab a*2^s)=A at*
 obtain⟨d1,d2,d3,d4,d5,d6⟩:=agj hVb hVl hVt m A hUb ω hlt;have hdx:=ash (sh:=s) hVb hVl hVt ω (UL:=A.length) ω hUb rfl (m:=m) ω hlt;generalize(AO V m A).1=rr at*
 generalize(AO V m A).2=qq at*
 have hrt:ab (rr.take (k+2))=ab rr:=by
  have q1:=fM (rr.take (k+2)) (rr.drop (k+2));rw[List.take_append_drop]at q1;have q2:=Ak d5 (k+2);rw[Nat.div_eq_of_lt (Nat.lt_trans d2 (by rw[hVv];exact n2))]at q2;rw[q2]at q1;omega
 have s3:=afA (iW d5 (k+2)) (n:=s) (by rw[aBN];omega) ω;rw[hrt,show s/32=0 by omega,Nat.sub_zero]at s3;have hrr:ab rr/2^s=ab a%ab b/\ab qq=ab a/ab b:=by
  rw[hUv,hVv]at d1;rw[hVv]at d2;have q0:=aBA s;have q1:=by
   have:ab a*2^s%2^s=0:=Nat.mul_mod_left ..;rw[d1,aBH,aBD (ab b),aBH,Nat.add_mul_mod_self_left]at this;exact this
  obtain⟨r,hr⟩:=Nat.dvd_of_mod_eq_zero q1;rw[hr,Nat.mul_div_cancel_left _ q0];rw[hr]at d1 d2;have q2:ab a=r+ab b*ab qq:=by
   refine Nat.eq_of_mul_eq_mul_right q0 ?_;rw[d1];grind
  have q3:r<ab b:=by
   refine Nat.lt_of_mul_lt_mul_right (a:=2^s) ?_;rw[aBD r];exact d2
  rw[q2,Nat.add_mul_mod_self_left,aB8 q3,Nat.add_mul_div_left _ _ ω,Nat.div_eq_of_lt q3,aBi];exact⟨rfl,rfl⟩
 refine⟨qq,fw (aA (ab rr)).length (ab rr/2^s),?_,d6,sR _ _,hrr.2,?_,by omega,?_⟩;rotate_left
 ·rw[rF,aB8 (aBU (Nat.div_le_self _ _) (iO _))];exact hrr.1
 ·rw[dO];have:=dM rr d5;omega
 refine az FA rfl ?_;generalize fw ((aA (ab b)).length+1) (ab b*2^s)=B2 at s2 t3;have tk:List.take B2.length (aK B2)=aK B2:=aBE (by simp[aK]);have e2:(((aA (ab b)).length:Int)=1)=False:=ff;have w1:aS (((aA (ab b)).length:Int)-1)=((k+1:Nat):Int):=wi;have e3:((A.length:Int)<=(aA (ab a)).length)=False:=ff;have w2:aS ((A.length:Int)-V.length)=((m:Nat):Int):=wi;have w3:aS ((m:Int)-1)=(m:Int)-1:=i64_in _ ⟨by omega,by omega⟩;have z1:qk (.v (.int .i64 (m:Int))) (.v (.int .i64 (m:Int)))=some (m,m):=by
  simp only[qk];rw[aq ⟨by omega,by omega,by omega⟩];rfl
 have z2:(m*4<=140737488355328)=True:=tt;simp only[rZ,Ae,go_sem,t1,t2,hc,e1,e2,aBi,aBh,e3,w1,hyl,hlz,s1,s2,tk,t3];rw[ai];simp only[B9,go_sem,e3,w2,w3,z1,z2];generalize hX:ao 2 _ _=X;obtain⟨hh,rfl,q70,q2408,qd⟩:=hdx _ _ _ hX Z Z Z (by rw[hVl];rfl) Z Z Z (by simp[aK];rfl) rfl;have e4:∀n:Nat,n<=A.length->fm 1 (.rsl 2408 none 1 0 A.length) none (some (I (n:Int))) none=some (.rsl 2408 none 1 0 n):=fun n hn=>by simp[fm,me,lQ,hn]
 have e4:=e4 (k+2) ω;have e5:(0+(k+2)<=rr.length)=True:=tt;have e6:List.take (k+2) (aK rr)=aK (rr.take (k+2)):=(List.map_take ..).symm;simp only[go_sem,q70,q2408,qd 3336 δ δ,e4,e5,e6,s3];rw[d3,aq ω,aq rfl];simp only[go_sem]
theorem ago{a b}(ha:Lb a)(hb:Lb b)(h1:a.length<=50000)(h2:b.length<=50000)(h0:ab b≠0)(hge:ab b<=ab a):∃Q Rr,R 233 [lm a,lm b] []=some (.tup [lm Q,lm Rr],[])/\Lb Q/\Lb Rr/\ab Q=ab a/ab b/\ab Rr=ab a%ab b/\Q.length<=100000/\Rr.length<=100000:=by
 have la:=dM a ha;have lb:=dM b hb;have hn:(aA (ab b)).length≠0:=fun h=>h0 (py.1 (List.length_eq_zero_iff.1 h));by_cases hl:(aA (ab b)).length=1
 ·have:=aae ha hb h1 h2 hl hge;have hb1:=iO (ab b);rw[hl,Nat.pow_one]at hb1;obtain⟨s1,s2,s3⟩:=EN (Nat.pos_of_ne_zero h0) (bJ (ab a));rw[bp]at s1;have s4:=abr (Nat.pos_of_ne_zero h0) hb1 (bJ (ab a));refine⟨_,_,this,s4,fun x hx=>?_,?_,?_,by omega,by simp⟩
  ·have:=by simpa using hx
   have:=aBW (ab a) (Nat.pos_of_ne_zero h0);omega
  ·generalize(gk (ab b) (aA (ab a))).2=r at*
   generalize(gk (ab b) (aA (ab a))).1=q at*
   rw[s1,aBD,Nat.mul_add_div (Nat.pos_of_ne_zero h0),Nat.div_eq_of_lt s2,aBR]
  ·simp[ab]
 ·obtain⟨k,hk⟩:∃k,(aA (ab b)).length=k+2:=⟨(aA (ab b)).length-2,by omega⟩;exact aaf ha hb h1 h2 hk hge
theorem agp{a b}(ha:Lb a)(hb:Lb b)(h1:a.length<=256)(h2:b.length<=256)(h0:ab b≠0)(hge:ab b<=ab a):R 189 [lm a,lm b] []=some (.tup [lm (aA (ab a/ab b)),lm (aA (ab a%ab b)),I 0],[]):=by
 refine az Om rfl ?_;have e1:(256<a.length)=False:=ff;have e2:(256<b.length)=False:=ff;obtain⟨Q,Rr,hd,q1,q2,q3,q4,q5,q6⟩:=ago ha hb ω ω h0 hge;have t1:=dU q1 ω;have t2:=dU q2 ω;rw[q3]at t1;rw[q4]at t2;have e3:(((aA (ab b)).length:Int)=0)=False:=eq_false fun h=>h0 (py.1 (List.length_eq_zero_iff.1 ω));simp only[yL,go_sem,e1,e2,e3,wT,dU hb ω,hd,t1,t2,SB]
def y9(a b:Rd)(p:Int):Nat:=(p+3+ag (ab b.m)-ag (ab a.m)).toNat
def uC(a b:Rd)(p:Int)(up:Bool):Rd×Int:=if bh p [a,b]=0 then(if b.m.length=0 then(aG,10)else if a.m.length=0 then(aG,0)else
 iX (a.neg !=b.neg) (cO (ab a.m*2^y9 a b p/ab b.m) (a.e-y9 a b p-b.e) (decide (ab a.m*2^y9 a b p%ab b.m≠0)) p (up != (a.neg !=b.neg))))else(aG,bh p [a,b])
theorem abu{a b}(oa:Ok0 a)(ob:Ok0 b){p}{up}:R 146 [ae a,ae b,I p,B up] []=some (rV (uC a b p up),[]):=by
 refine az Z5 rfl ?_;have hf:R 65 [I p,.sl 3 [[B a.neg,lm a.m,I a.e],[B b.neg,lm b.m,I b.e]]] []=some (I (bh p [a,b]),[]):=CH (p:=p) (l:=[a,b]) (fun x hx=>by
  grind) (show 2<=100000 by decide)
 unfold uC;by_cases h0:bh p [a,b]=0
 ·obtain⟨v1,v2,v3⟩:=wY h0;have v4:vd a=true/\vd b=true:=γ
  obtain⟨va,vb⟩:=v4;obtain⟨a1,a2,a3,a4⟩:=fA va oa.lb;obtain⟨b1,b2,b3,b4⟩:=fA vb ob.lb;rw[aq h0];rw[h0]at hf;by_cases b0:b.m.length=0
  ·have e1:((b.m.length:Int)=0)=True:=tt;rw[aq b0];simp only[sE,rV,ae,aj,aG,go_sem,hf,e1]
  have e1:((b.m.length:Int)=0)=False:=ff;rw[ax b0];by_cases a0:a.m.length=0
  ·have e2:((a.m.length:Int)=0)=True:=tt;rw[aq a0];simp only[sE,rV,ae,aj,aG,go_sem,hf,e1,e2]
  have e2:((a.m.length:Int)=0)=False:=ff;rw[ax a0];have hA:=ef va a0;have hB:=ef vb b0;obtain⟨n,rfl⟩:=aCj (show 0<=p by omega);have d1:=OD oa;have d2:=OD ob;rw[aq va]at d1;rw[aq vb]at d2;have hk:y9 a b (n:Nat)=((n:Int)+3+ag (ab b.m)-ag (ab a.m)).toNat:=rfl;generalize y9 a b n=k at*
  have hm2:=ed k hA;have hl2:(aA (ab a.m*2^k)).length<=256:=bk ω;have hs:=CG oa.lb a1 (k:=k) ω hl2;have hge:ab b.m<=ab (aA (ab a.m*2^k)):=by
   rw[bp];refine Nat.le_of_not_lt fun hc=>?_;have:=AI (Nat.le_of_lt hc) (aBh _);omega
  have hd:=agp (bJ (ab a.m*2^k)) ob.lb hl2 b1 hB hge;rw[bp]at hd;have hqb:ag (ab a.m*2^k/ab b.m)<=8192:=AI (Nat.div_le_self _ _) ω;have hrb:ag (ab a.m*2^k%ab b.m)<=8192:=AI (Nat.mod_le _ _) ω;have hbt:=HX (bJ (ab a.m*2^k%ab b.m)) (aBq (bk (k:=256) ω) δ);rw[bp]at hbt;have hsg:=GF (M:=aA (ab a.m*2^k/ab b.m)) (e:=a.e-k-b.e) (n:=n) (more:=decide (ab a.m*2^k%ab b.m≠0)) (up:=up) (neg:=a.neg !=b.neg) (bJ _) (bk ω) ⟨by omega,by omega⟩ ⟨by omega,by omega⟩;rw[bp]at hsg;have hmr:decide (ab a.m*2^k%ab b.m≠0)=decide ((0:Int)< (ag (ab a.m*2^k%ab b.m):Nat)):=by
   grind[AJ,decide_eq_true,ju]
  rw[hmr]at hsg⊢;have w1:aS ((n:Int)+3)=(n:Int)+3:=i64_in _ ⟨by omega,by omega⟩;have w2:aS ((n:Int)+3+(ag (ab b.m):Nat))=(n:Int)+3+(ag (ab b.m):Nat):=i64_in _ ⟨by omega,by omega⟩;have w3:aS ((n:Int)+3+(ag (ab b.m):Nat)- (ag (ab a.m):Nat))=(n:Int)+3+(ag (ab b.m):Nat)- (ag (ab a.m):Nat):=i64_in _ ⟨by omega,by omega⟩;have w4:aS (a.e- (k:Int))=a.e-k:=i64_in _ ⟨by omega,by omega⟩;have w5:aS (a.e- (k:Int)-b.e)=a.e-k-b.e:=i64_in _ ⟨by omega,by omega⟩;have em:(if(0:Int)< (n:Int)+3+(ag (ab b.m):Nat)- (ag (ab a.m):Nat)then(n:Int)+3+(ag (ab b.m):Nat)- (ag (ab a.m):Nat)else 0)=(k:Int):=ω
  simp only[rV,ae,aj,zB]at hsg d1 d2;simp only[sE,rV,ae,aj,go_sem,hf,e1,e2,d1,d2,w1,w2,w3,w4,w5,em,hs,hd,hbt,BY,hsg]
 ·have e1:(bh p [a,b]=0)=False:=ff h0;rw[ax h0];simp only[sE,rV,ae,aj,aG,go_sem,hf,e1]
theorem ajz{a b}(oa:Ok0 a)(ob:Ok0 b){p}:R 94 [ae a,ae b,I p] []=some (rV (uC a b p true),[]):=by
 refine az uZ rfl ?_;have hr:=abu oa ob (p:=p) (up:=true);simp only[rV,ae,aj]at hr;simp only[Cq,rV,ae,aj,go_sem,hr]
theorem ad1{a b}(oa:Ok0 a)(ob:Ok0 b){p}:R 93 [ae a,ae b,I p] []=some (rV (uC a b p false),[]):=by
 refine az re rfl ?_;have hr:=abu oa ob (p:=p) (up:=false);simp only[rV,ae,aj]at hr;simp only[zX,rV,ae,aj,go_sem,hr]
theorem EO{a b}{p}{up}:vd (uC a b p up).1=true/\Ok0 (uC a b p up).1:=by
 unfold uC;split
 ·split
  ·exact aO
  ·split
   ·exact aO
   ·exact afJ
 ·exact aO
def jY(x y:Ri)(p:Int):Ri:=if(kI x&&kI y&&bE p)=true then(if J2 y=0 then cG else H1 (sf (fun a b=>uC a b p false) (fun a b=>uC a b p true) (gM x y)))else cG
theorem H8{x y}(ox:OkI x)(oy:OkI y){p}:R 39 [af x,af y,I p] []=some (af (jY x y p),[]):=by
 refine az R9 rfl ?_;have hk:=GH ox oy;have hp:=mV (p:=p);have hw:=gP;have hs:=FJ oy;have hf:=aa0 ox oy (p:=p) (dn:=fun a b=>uC a b p false) (up:=fun a b=>uC a b p true) ⟨fun h1 h2=>ad1 h1 h2,EO.2,re.1.1,re.1.2.1,re.1.2.2.2,re.1.2.2.1⟩ ⟨fun h1 h2=>ajz h1 h2,EO.2,uZ.1.1,uZ.1.2.1,uZ.1.2.2.2,uZ.1.2.2.1⟩;unfold jY;generalize H1 (sf (fun a b=>uC a b p false) (fun a b=>uC a b p true) (gM x y))=z at hf⊢;generalize J2 y=sg at*
 simp only[af,am,cG,aG]at hw hf hs;cases h1:(kI x&&kI y)with
 |false=>
  rw[h1]at hk;rw[aBy,ax aBu];simp only[ng,af,am,cG,aG,go_sem,hk,hw]
 |true=>
  rw[h1]at hk;have hs:=hs ((aBk _ _).mp h1).2;cases h2:bE p with
  |false=>
   rw[h2]at hp;rw[aBt,ax aBu];simp only[ng,af,am,cG,aG,go_sem,hk,hp,hw]
  |true=>
   rw[h2]at hp;rw[aBt,aq rfl];by_cases h3:sg=0
   ·have e3:=eq_true h3;rw[aq h3];simp only[ng,af,am,cG,aG,go_sem,hk,hp,hw,hs,e3]
   ·have e3:=eq_false h3;rw[ax h3];simp only[ng,af,am,cG,aG,go_sem,hk,hp,hf,hs,e3]
theorem Ut{x}(ox:OkI x){p}:R 151 [af x,I p] []=some (af (tr x p),[]):=by
 refine az Og rfl ?_;have hk:=pg ox;have hp:=mV (p:=p);have hw:=gP;have hd:=Lc ox.lo (p:=p);have hu:=SK ox.hi (p:=p);unfold tr;generalize cx x.lo p false=r at hd⊢;generalize cx x.hi p true=q at hu⊢;obtain⟨r1,r2⟩:=r;obtain⟨q1,q2⟩:=q;have hm:=EH (a:=r1) (b:=q1) (e:=r2) (f:=q2);simp only[af,am,rV,ae,aj]at hw hd hu hm;cases h1:kI x with
 |false=>
  rw[h1]at hk;rw[Bool.and_false,ax aBu];simp only[nU,af,am,go_sem,hk,hw]
 |true=>
  rw[h1]at hk;cases h2:bE p with
  |false=>
   rw[h2]at hp;simp only[nU,af,am,go_sem,hk,hp,hw]
  |true=>
   rw[h2]at hp;simp only[nU,af,am,go_sem,hk,hp,hw,hd,hu,hm]
def D7(x:Ri):Ri:=if kI x=true then⟨fC x.hi,fC x.lo,false⟩else cG
theorem abv{x}(ox:OkI x):OkI (D7 x):=by
 unfold D7;split
 ·exact⟨AK ox.hi,AK ox.lo⟩
 ·exact⟨aO.2,aO.2⟩
theorem abw{x}(ox:OkI x):R 56 [af x] []=some (af (D7 x),[]):=by
 refine az Sf rfl ?_;have hk:=pg ox;have hw:=gP;have h1:R 112 [ae x.lo] []=some (ae (fC x.lo),[]):=BX ox.lo;have h2:R 112 [ae x.hi] []=some (ae (fC x.hi),[]):=BX ox.hi;unfold D7;simp only[af,am,ae,aj]at hw h1 h2;cases h0:kI x with
 |false=>
  rw[h0]at hk;simp only[vX,af,am,go_sem,hk,hw]
 |true=>
  rw[h0]at hk;simp only[vX,af,am,go_sem,hk,h1,h2]
def B4(x y:Ri)(p:Int):Ri:=dk x (D7 y) p
theorem Ms{x y}(ox:OkI x)(oy:OkI y){p}:R 87 [af x,af y,I p] []=some (af (B4 x y p),[]):=by
 refine az Sj rfl ?_;have h1:=abw oy;have h2:=te ox (abv oy) (p:=p);unfold B4;simp only[af,am]at h1 h2;simp only[Bz,af,am,go_sem,h1,h2]
def Mt(x y:Ri):Ri:=if(kI x&&kI y)=true then⟨mK x.lo y.lo,mL x.hi y.hi,false⟩else cG
theorem ajA{x y}(ox:OkI x)(oy:OkI y):R 209 [af x,af y] []=some (af (Mt x y),[]):=by
 refine az Qh rfl ?_;have hk:=GH ox oy;have hw:=gP;have h1:=SL ox.lo oy.lo;have h2:=SM ox.hi oy.hi;unfold Mt;simp only[af,am,ae,aj]at hw h1 h2;cases h0:(kI x&&kI y)with
 |false=>
  rw[h0]at hk;simp only[uq,af,am,go_sem,hk,hw]
 |true=>
  rw[h0]at hk;simp only[uq,af,am,go_sem,hk,h1,h2]
def QG:Ri:=⟨aG,aG,false⟩
def wo(x y:Ri):Ri×Bool:=if(vi x&&vi y)=true then(if x.all=true then(y,true)else if y.all=true then(x,true)else if iY (mL x.lo y.lo) (mK x.hi y.hi)<=0 then(⟨mL x.lo y.lo,mK x.hi y.hi,false⟩,true)else(QG,false))else(QG,false)
theorem ajB{x y}(ox:OkI x)(oy:OkI y):R 159 [af x,af y] []=some (.tup [af (wo x y).1,B (wo x y).2],[]):=by
 refine az Qe rfl ?_;have hx:=pf ox;have hy:=pf oy;have h1:=SM ox.lo oy.lo;have h2:=SL ox.hi oy.hi;have hc:=pF (OM ox.lo oy.lo) (X8 ox.hi oy.hi);rw[show(if vd (mL x.lo y.lo)=true/\vd (mK x.hi y.hi)=true then gy (zI (mL x.lo y.lo)) (zI (mK x.hi y.hi))else 0)=iY (mL x.lo y.lo) (mK x.hi y.hi)from rfl]at hc;unfold wo;generalize iY (mL x.lo y.lo) (mK x.hi y.hi)=cc at hc⊢;simp only[af,am,ae,aj]at hx hy h1 h2 hc;cases v1:vi x with
 |false=>
  rw[v1]at hx;simp only[iF,af,am,QG,aG,go_sem,hx]
  try rfl
 |true=>
  rw[v1]at hx;cases v2:vi y with
  |false=>
   rw[v2]at hy;simp only[iF,af,am,QG,aG,go_sem,hx,hy]
   try rfl
  |true=>
   rw[v2]at hy;cases a1:x.all with
   |true=>
    rw[a1]at hx;simp only[iF,af,am,go_sem,hx,hy,a1]
   |false=>
    rw[a1]at hx;cases a2:y.all with
    |true=>
     rw[a2]at hy;simp only[iF,af,am,go_sem,hx,hy,a1,a2]
    |false=>
     rw[a2]at hy;by_cases h3:cc<=0
     ·have e1:(0<cc)=False:=ff;rw[aq h3];simp only[iF,af,am,go_sem,hx,hy,a1,a2,h1,h2,hc,e1]
     ·have e1:(0<cc)=True:=tt;rw[ax h3];simp only[iF,af,am,QG,aG,go_sem,hx,hy,a1,a2,h1,h2,hc,e1]
      try rfl
abbrev G:=Nat->Rat
def pl(x:Rat)(v:G):Nat->Nat->Rat
 |_,0=>0
 |i,c+1=>v i+x*pl x v (i+1) c
def nw(t:Rat)(v:G):Nat->Nat->Rat
 |0,i=>v i
 |n+1,i=>nw t v n i+t*nw t v n (i+1)
def dc(t:Rat)(v:G):Nat->Nat->Rat
 |0,i=>v i
 |n+1,i=>(1-t)*dc t v n i+t*dc t v n (i+1)
def gs(g:G)(a:Nat)(x:Rat):G:=fun i=>if i=a then x else g i
def ND(lo:Rat)(ad:Nat->Nat)(i:Nat):Nat->G->G
 |0,g=>g
 |k+1,g=>ND lo ad i k (gs g (ad (i+k)) (g (ad (i+k))+lo*g (ad (i+k+1))))
def NE(lo:Rat)(ad:Nat->Nat):Nat->Nat->G->G
 |0,_,g=>g
 |k+1,i,g=>NE lo ad k (i+1) (ND lo ad i (k+1) g)
def Uu(w:Rat)(ad:Nat->Nat):Nat->Nat->Rat->G->G
 |0,_,_,g=>g
 |k+1,j,b,g=>Uu w ad k (j+1) (b*w) (gs g (ad j) (g (ad j)*(b*w)))
def NF(n:Nat)(ad:Nat->Nat):Nat->Nat->Rat->G->G
 |0,_,_,g=>g
 |k+1,j,b,g=>NF n ad k (j+1) (b*(n-j+1)/j) (gs g (ad j) (g (ad j)/ (b*(n-j+1)/j)))
def QH(ad:Nat->Nat)(j:Nat):Nat->G->G
 |0,g=>g
 |k+1,g=>QH ad j k (gs g (ad (j+k+1)) (g (ad (j+k+1))+g (ad (j+k))))
def Uv(ad:Nat->Nat):Nat->Nat->G->G
 |0,_,g=>g
 |k+1,j,g=>Uv ad k (j+1) (QH ad j (k+1) g)
def jU:Nat->Nat->Nat
 |_,0=>1
 |0,_+1=>0
 |n+1,k+1=>jU n k+jU n (k+1)
theorem apm{lo}{ad}(hi:∀a b,ad a=ad b↔a=b){i}:∀k g,(∀a,(∀m,i<=m->m<i+k->a≠ad m)->ND lo ad i k g a=g a)/\(∀m,i<=m->m<i+k->ND lo ad i k g (ad m)=g (ad m)+lo*ND lo ad i k g (ad (m+1))):=by
 intro k;induction k with
 |zero=>exact fun g=>⟨fun _ _=>rfl,fun m h1 h2=>by omega⟩
 |succ k ih=>
  intro g;have e:ND lo ad i (k+1) g=ND lo ad i k (gs g (ad (i+k)) (g (ad (i+k))+lo*g (ad (i+k+1)))):=rfl;rw[e];obtain⟨h1,h2⟩:=ih (gs g (ad (i+k)) (g (ad (i+k))+lo*g (ad (i+k+1))));constructor
  ·intro a ha;rw[h1 a fun m hm hk=>ha m hm ω,gs,ax (ha _ ω ω)]
  ·intro m hm hk;by_cases hq:m=i+k
   ·grind[gs]
   ·rw[h2 m hm ω,gs,ax γ]
theorem apn{x u lo}(hx:x=lo+u){v w}:∀k i,(∀m,i<=m->m<i+k->w m=v m+lo*w (m+1))->w (i+k)=v (i+k)->pl x v i (k+1)=w i+u*pl x w (i+1) k:=by
 intro k;induction k with
 |zero=>grind[pl]
 |succ k ih=>
  intro i h1 h2;have h3:=ih (i+1) (fun m a b=>h1 m ω ω) γ;grind[pl]
theorem apo{x u lo}(hx:x=lo+u){ad}(hi:∀a b,ad a=ad b↔a=b):∀k i g,(∀a,(∀m,i<=m->m<i+k->a≠ad m)->NE lo ad k i g a=g a)/\pl x (fun m=>g (ad m)) i (k+1)=pl u (fun m=>NE lo ad k i g (ad m)) i (k+1):=by
 intro k;induction k with
 |zero=>simp_all[pl,NE]
 |succ k ih=>
  intro i g;obtain⟨h1,h2⟩:=apm (lo:=lo) hi (i:=i) (k+1) g;have e:NE lo ad (k+1) i g=NE lo ad k (i+1) (ND lo ad i (k+1) g):=rfl;rw[e];generalize ND lo ad i (k+1) g=g1 at*
  obtain⟨h3,h4⟩:=ih (i+1) g1;constructor
  ·grind
  ·rw[apn hx (v:=fun m=>g (ad m)) (w:=fun m=>g1 (ad m)) (k+1) i h2 (h1 _ fun m _ hk=>by grind),h4];show _=NE lo ad k (i+1) g1 (ad i)+u*_;grind
theorem apq{w}{ad}(hi:∀a b,ad a=ad b↔a=b):∀k j b g,(∀a,(∀m,j<=m->m<j+k->a≠ad m)->Uu w ad k j b g a=g a)/\(∀m,m<k->Uu w ad k j b g (ad (j+m))=g (ad (j+m))*(b*w^ (m+1))):=by
 intro k;induction k with
 |zero=>exact fun j b g=>⟨fun _ _=>rfl,fun m h=>by omega⟩
 |succ k ih=>
  intro j b g;have e:Uu w ad (k+1) j b g=Uu w ad k (j+1) (b*w) (gs g (ad j) (g (ad j)*(b*w))):=rfl;rw[e];obtain⟨h1,h2⟩:=ih (j+1) (b*w) (gs g (ad j) (g (ad j)*(b*w)));constructor
  ·intro a ha;rw[h1 a fun m hm hk=>ha m ω ω,gs,ax (ha _ ω ω)]
  ·intro m hm;cases m with
   |zero=>
    rw[h1 _ fun m hm hk=>by grind];simp[gs]
   |succ m=>
    have:=h2 m ω;rw[show j+1+m=j+(m+1)by omega]at this;rw[this,gs,ax γ,Rat.pow_succ w (m+1),Rat.pow_succ w m];grind
theorem apr{w t}{v z}:∀c i,(∀m,i<=m->m<i+c->z m=v m*w^m)->pl t z i c=w^i*pl (w*t) v i c:=by
 intro c;induction c with
 |zero=>grind[pl]
 |succ c ih=>
  grind[pl,Rat.pow_succ]
theorem FQ(n):jU n 0=1:=by cases n<;>rfl
theorem H9:∀n k,n<k->jU n k=0
 |_,0,h=>by omega
 |0,_+1,_=>rfl
 |n+1,k+1,h=>by
  show jU n k+jU n (k+1)=0;rw[H9 n k ω,H9 n (k+1) ω]
theorem Mu:∀n k,k<=n->(jU n (k+1))*(k+1)=jU n k*((n:Int)-k)
 |0,k,h=>by
  have:k=0:=ω
  subst this;rfl
 |n+1,0,_=>by
  have:=Mu n 0 ω;show(jU n 0+jU n 1:Nat)*_=(jU (n+1) 0:Int)*_;simp only[FQ]at this⊢;simp at this⊢;omega
 |n+1,k+1,h=>by
  have h1:=Mu n k ω;show(jU n (k+1)+jU n (k+1+1):Nat)*_=((jU n k+jU n (k+1)):Int)*_;by_cases hk:k+1<=n
  ·have h2:=Mu n (k+1) hk;grind
  ·have:n=k:=ω
   subst this;rw[H9 n (n+1) ω,H9 n (n+1+1) ω];simp
theorem abx:∀n k,k<=n->0<jU n k
 |n,0,_=>by grind[FQ]
 |n+1,k+1,h=>Nat.add_pos_left (abx n k ω) _
theorem aps{n}{ad}(hi:∀a b,ad a=ad b↔a=b):∀k j (b:Rat) g,j+1+k=n+1->b=jU n j->(∀a,(∀m,j+1<=m->m<j+1+k->a≠ad m)->NF n ad k (j+1) b g a=g a)/\(∀m,m<k->NF n ad k (j+1) b g (ad (j+1+m))*jU n (j+1+m)=g (ad (j+1+m))):=by
 intro k;induction k with
 |zero=>exact fun j b g _ _=>⟨fun _ _=>rfl,fun m h=>by omega⟩
 |succ k ih=>
  intro j b g hk hb;have e:NF n ad (k+1) (j+1) b g=NF n ad k (j+1+1) (b*(n- (j+1:Nat)+1)/ (j+1:Nat)) (gs g (ad (j+1)) (g (ad (j+1))/ (b*(n- (j+1:Nat)+1)/ (j+1:Nat)))):=rfl;have hb2:b*(n- (j+1:Nat)+1)/ (j+1:Nat)=jU n (j+1):=by
   have h1:=Mu n j ω;have h2:=by
    have:=congrArg (fun z:Int=>(z:Rat)) h1;simp only[Rat.intCast_mul,Rat.intCast_sub,Rat.intCast_add,Rat.intCast_natCast]at this;omega
   grind
  rw[e,hb2];have hp:(jU n (j+1):Rat)≠0:=by
   have:=abx n (j+1) ω;intro h0
   simp_all
  obtain⟨h1,h2⟩:=ih (j+1) (jU n (j+1)) (gs g (ad (j+1)) (g (ad (j+1))/jU n (j+1))) ω rfl;constructor
  ·intro a ha;rw[h1 a fun m hm hk=>ha m ω ω,gs,ax (ha _ ω ω)]
  ·intro m hm;cases m with
   |zero=>
    rw[h1 _ fun m hm hk=>by grind];simp only[gs,aBR,if_true];grind
   |succ m=>
    have:=h2 m ω;rw[show j+1+1+m=j+1+(m+1)by omega]at this
    simp_all[gs,ax]
theorem apt{t}{u v w}:∀c i,(∀m,i<=m->m<i+c->w m=u m+v m)->pl t w i c=pl t u i c+pl t v i c:=by
 intro c;induction c with
 |zero=>grind[pl]
 |succ c ih=>
  grind[pl]
theorem OW{t}{v w}{d}:∀c i,(∀m,i<=m->m<i+c->w m=v (m+d))->pl t w i c=pl t v (i+d) c:=by
 intro c;induction c with
 |zero=>intro i _;rfl
 |succ c ih=>
  grind[pl]
theorem amv{t}{v}:∀c i,v (i+c)=0->pl t v i (c+1)=pl t v i c:=by
 intro c;induction c with
 |zero=>grind[pl]
 |succ c ih=>
  grind[pl]
theorem asi{t}{v}:∀n i,nw t v n i=pl t (fun m=>jU n m*v (i+m)) 0 (n+1):=by
 intro n;induction n with
 |zero=>simp only[nw,pl,jU,aBR];grind
 |succ n ih=>
  intro i;have e1:=amv (t:=t) (v:=fun m=>(jU n m)*v (i+m)) (n+1) 0 (by simp_all[H9]);have e2:pl t (fun m=>(jU n m)*v (i+m)) 0 (n+1+1)=(jU n 0)*v (i+0)+t*pl t (fun m=>(jU n m)*v (i+m)) (0+1) (n+1):=rfl;have e3:pl t (fun m=>(jU (n+1) m)*v (i+m)) 0 (n+1+1)=(jU (n+1) 0)*v (i+0)+t*pl t (fun m=>(jU (n+1) m)*v (i+m)) (0+1) (n+1):=rfl;have e4:=OW (t:=t) (d:=1) (w:=fun m=>(jU n (m+1))*v (i+(m+1))) (v:=fun m=>(jU n m)*v (i+m)) (n+1) 0 (fun m _ _=>rfl);have e5:=OW (t:=t) (d:=1) (w:=fun m=>(jU (n+1) (m+1))*v (i+(m+1))) (v:=fun m=>(jU (n+1) m)*v (i+m)) (n+1) 0 (fun m _ _=>rfl);have e6:=apt (t:=t) (w:=fun m=>(jU (n+1) (m+1))*v (i+(m+1))) (u:=fun m=>(jU n m)*v (i+1+m)) (v:=fun m=>(jU n (m+1))*v (i+(m+1))) (n+1) 0 (fun m _ _=>by
   have:jU (n+1) (m+1)=jU n m+jU n (m+1):=rfl;simp only[this,show i+1+m=i+(m+1)by omega,Rat.natCast_add];grind)
  grind[nw,FQ]
theorem apu{ad}(hi:∀a b,ad a=ad b↔a=b){j}:∀k g,(∀a,(∀m,j<=m->m<j+k->a≠ad (m+1))->QH ad j k g a=g a)/\(∀m,j<=m->m<j+k->QH ad j k g (ad (m+1))=g (ad (m+1))+g (ad m)):=by
 intro k;induction k with
 |zero=>exact fun g=>⟨fun _ _=>rfl,fun m h1 h2=>by omega⟩
 |succ k ih=>
  intro g;have e:QH ad j (k+1) g=QH ad j k (gs g (ad (j+k+1)) (g (ad (j+k+1))+g (ad (j+k)))):=rfl;rw[e];obtain⟨h1,h2⟩:=ih (gs g (ad (j+k+1)) (g (ad (j+k+1))+g (ad (j+k))));constructor
  ·intro a ha;rw[h1 a fun m hm hk=>ha m hm ω,gs,ax (ha _ ω ω)]
  ·intro m hm hk;by_cases hq:m=j+k
   ·subst hq;rw[h1 _ fun m hm hk=>by grind];simp[gs]
   ·rw[h2 m hm ω,gs,gs,ax γ,ax γ]
theorem apv{t}{v w}{j k}(h:∀m,j<=m->m<=j+k->w (m+1)=v (m+1)+v m):∀d m,j<=m->m+d<=j+k->nw t w d (m+1)=nw t v d (m+1)+nw t v d m:=by
 intro d;induction d with
 |zero=>exact fun m h1 h2=>h m h1 h2
 |succ d ih=>
  grind[nw]
theorem apw{t}{ad}(hi:∀a b,ad a=ad b↔a=b):∀k j g,(∀a,(∀m,j<=m->m<j+k->a≠ad (m+1))->Uv ad k j g a=g a)/\∀d,d<=k->dc t (fun m=>Uv ad k j g (ad m)) d j=nw t (fun m=>g (ad m)) d j:=by
 intro k;induction k with
 |zero=>
  intro j g;refine⟨fun _ _=>rfl,fun d hd=>?_⟩;have:d=0:=ω
  subst this;rfl
 |succ k ih=>
  intro j g;obtain⟨h1,h2⟩:=apu hi (j:=j) (k+1) g;have e:Uv ad (k+1) j g=Uv ad k (j+1) (QH ad j (k+1) g):=rfl;rw[e];generalize QH ad j (k+1) g=g1 at*
  obtain⟨h3,h4⟩:=ih (j+1) g1;refine⟨fun a ha=>by rw[h3 a fun m hm hk=>ha m ω ω,h1 a fun m hm hk=>ha m hm hk],fun d=>?_⟩;induction d with
  |zero=>
   intro _;show Uv ad k (j+1) g1 (ad j)=g (ad j);grind
  |succ d ihd=>
   intro hd;have q3:=apv (t:=t) (v:=fun m=>g (ad m)) (w:=fun m=>g1 (ad m)) (j:=j) (k:=k) (fun m a b=>h2 m a ω) d j (aBh _) ω;grind[dc,nw]
def QI(lo w:Rat)(n:Nat)(ad:Nat->Nat)(g:G):G:=Uu w ad n 1 1 (NE lo ad n 0 g)
def QJ(n:Nat)(ad:Nat->Nat)(g:G):G:=Uv ad n 0 (NF n ad n 1 1 g)
theorem apx{x t lo w}(hx:x=lo+w*t){ad}(hi:∀a b,ad a=ad b↔a=b)(n)(g):(∀a,(∀m,m<=n->a≠ad m)->QI lo w n ad g a=g a)/\pl x (fun m=>g (ad m)) 0 (n+1)=pl t (fun m=>QI lo w n ad g (ad m)) 0 (n+1):=by
 obtain⟨a1,a2⟩:=apo hx hi n 0 g;unfold QI;generalize NE lo ad n 0 g=g1 at*
 obtain⟨b1,b2⟩:=apq (w:=w) hi n 1 1 g1;generalize Uu w ad n 1 1 g1=g2 at*
 rw[a2,apr (w:=w) (t:=t) (v:=fun m=>g1 (ad m)) (z:=fun m=>g2 (ad m)) (n+1) 0 (fun m _ hm=>by
  cases m with
  |zero=>
   grind
  |succ m=>
   grind),Rat.pow_zero]
 grind
theorem apy{t}{ad}(hi:∀a b,ad a=ad b↔a=b)(n)(g):(∀a,(∀m,m<=n->a≠ad m)->QJ n ad g a=g a)/\pl t (fun m=>g (ad m)) 0 (n+1)=dc t (fun m=>QJ n ad g (ad m)) n 0:=by
 obtain⟨c1,c2⟩:=aps (n:=n) hi n 0 1 g ω (by rw[FQ];rfl);unfold QJ;generalize NF n ad n 1 1 g=g3 at*
 obtain⟨d1,d2⟩:=apw (t:=t) hi n 0 g3;rw[d2 n (aBh _),asi];have e:=OW (t:=t) (d:=0) (v:=fun m=>g (ad m)) (w:=fun m=>(jU n m)*g3 (ad (0+m))) (n+1) 0 (fun m _ hm=>by
  cases m with
  |zero=>
   have q1:=c1 (ad 0) fun m h _=>by grind
   simp_all[aBR,FQ]
  |succ m=>
   grind)
 grind
def pQ(n:Nat):Rat:=(2^n:Int)
def eQ(n:Nat):Rat:=1/pQ n
theorem agq(n):0<pQ n:=by
 have:(0:Int)<2^n:=Int.pow_pos δ;unfold pQ;exact_mod_cast this
theorem Ia(n):eQ n*pQ n=1:=by
 grind[agq,eQ]
theorem YA(n):0<eQ n:=by
 have h:=Ia n;refine Rat.not_le.1 fun hn=>?_;have:=aB9 hn (Rat.le_of_lt (agq n));grind
def EQ:Rat:=eQ 16384
theorem Ib:0<EQ:=YA _
def qv(d:Rd):Rat:=(zI d)*EQ
theorem Ic{a b:Int}(h:a<=b):(a:Rat)<=b:=by exact_mod_cast h
theorem uD{a b}:qv a<=qv b↔zI a<=zI b:=by
 unfold qv;constructor
 ·intro h;refine Int.not_lt.1 fun hc=>?_;have h1:(zI b:Rat)<zI a:=by exact_mod_cast hc
  have:=Rat.mul_lt_mul_of_pos_right h1 Ib;grind
 grind[aB9,Ic,Rat.le_of_lt,Ib]
theorem Hm:qv aG=0:=by
 unfold qv;rw[cT rfl];grind
theorem Ie{d}(h:vd d=true):qv (fC d)=-qv d/\vd (fC d)=true:=by
 obtain⟨a,b⟩:=yi h;unfold qv;rw[a,Rat.intCast_neg];grind
def In(q:Rat)(x:Ri):Prop:=x=cG\/x.all=false/\VI x/\qv x.lo<=q/\q<=qv x.hi
theorem In.vi{q}{x}(h:In q x):VI x:=by
 rcases h with rfl|h
 ·exact CR
 grind
theorem In.ok{q}{x}(h:In q x):OkI x:=⟨h.vi.1.2,h.vi.2.2⟩
theorem In.k{q}{x}(h:In q x):x=cG/\kI x=false\/kI x=true/\qv x.lo<=q/\q<=qv x.hi:=by
 rcases h with rfl| ⟨h1,h2,h3,h4⟩
 ·exact Or.inl ⟨rfl,rfl⟩
 ·exact Or.inr ⟨ar8 h2.1.1 h2.2.1 (uD.1 (Rat.le_trans h3 h4)) h1,h3,h4⟩
theorem In.v{q}{x}(h:In q x):Ab.vi x=true:=by
 rcases h.k with⟨rfl,_⟩| ⟨h,_⟩
 ·rfl
 ·unfold kI at h;grind
theorem VP{q}{r s}(vr:vd r.1=true/\Ok0 r.1)(vs:vd s.1=true/\Ok0 s.1)(h1:r.2=0->qv r.1<=q)(h2:s.2=0->q<=qv s.1):In q (nC r s):=by
 unfold nC;split
 ·next h=>exact Or.inr ⟨rfl,⟨vr,vs⟩,h1 h.1,h2 h.2⟩
 ·exact Or.inl rfl
theorem jC{d}(h:vd d=true)(ok:Ok0 d):In (qv d) ⟨d,d,false⟩:=Or.inr ⟨rfl,⟨⟨h,ok⟩,⟨h,ok⟩⟩,Rat.le_refl,Rat.le_refl⟩
theorem vo{p}(hp:bE p=true):8<=p/\p<=512:=by
 simp_all[bE,aBk,decide_eq_true_eq]
theorem QK{a b}{p}(ha:vd a=true)(hb:vd b=true)(hp:bE p=true):bh p [a,b]=0:=by
 grind[vo,bh]
theorem YB{a b}{p}{up}(ha:vd a=true)(hb:vd b=true)(hp:bE p=true)(h:(dq a b p up).2=0):(up=true->qv a+qv b<=qv (dq a b p up).1)/\(up=false->qv (dq a b p up).1<=qv a+qv b):=by
 unfold dq at h⊢;rw[aq (QK ha hb hp)]at h⊢;have hh:=Mr (j:=0) (vo hp) h;obtain⟨h1,h2⟩:=hh;simp only[Int.pow_zero,Int.mul_one]at h1 h2;have e:qv a+qv b=(zI a+zI b:Int)*EQ:=by unfold qv;grind
 rw[e];exact⟨fun hu=>aB9 (Ic (h1 hu)) (Rat.le_of_lt Ib),fun hu=>aB9 (Ic (h2 hu)) (Rat.le_of_lt Ib)⟩
theorem QM{z r:Int}(n):(z<=r*2^n->z*eQ n*eQ n<=r*eQ n)/\(r*2^n<=z->r*eQ n<=z*eQ n*eQ n):=by
 have e:r*eQ n=(r*2^n:Int)*eQ n*eQ n:=by
  rw[Rat.intCast_mul,show((2:Int)^n:Int)=pQ n from rfl];grind[Ia]
 rw[e];have h0:=Rat.le_of_lt (YA n);exact⟨fun h=>aB9 (aB9 (Ic h) h0) h0,fun h=>aB9 (aB9 (Ic h) h0) h0⟩
theorem QN{a b}{p}{up}(ha:vd a=true)(hb:vd b=true)(hp:bE p=true)(h:(eA a b p up).2=0):(up=true->qv a*qv b<=qv (eA a b p up).1)/\(up=false->qv (eA a b p up).1<=qv a*qv b):=by
 unfold eA at h⊢;rw[aq (QK ha hb hp)]at h⊢;obtain⟨h1,h2⟩:=Mr (j:=16384) (vo hp) h;have e:qv a*qv b=(zI a*zI b:Int)*EQ*EQ:=by unfold qv;grind
 rw[e];exact⟨fun hu=>(QM _).1 (h1 hu),fun hu=>(QM _).2 (h2 hu)⟩
theorem iq{x y}{a b}{p}(hx:In a x)(hy:In b y):In (a+b) (dk x y p):=by
 unfold dk;split
 ·next h=>
  simp only[aBk]at h;obtain⟨⟨kx,ky⟩,hp⟩:=h;rcases hx.k with⟨rfl,h⟩| ⟨_,x1,x2⟩
  ·grind
  rcases hy.k with⟨rfl,h⟩| ⟨_,y1,y2⟩
  ·grind
  have ok:∀ {a b} {up},vd (dq a b p up).1=true/\Ok0 (dq a b p up).1:=fun{a b up}=>by
   grind[dq,vf,aO]
  refine VP ok ok (fun h=>?_) (fun h=>?_)
  ·have:=(YB hx.vi.1.1 hy.vi.1.1 hp h).2 rfl;grind
  ·have:=(YB hx.vi.2.1 hy.vi.2.1 hp h).1 rfl;grind
 ·exact Or.inl rfl
theorem Td{x}{a}(hx:In a x):In (-a) (D7 x):=by
 unfold D7;split
 ·next h=>
  rcases hx.k with⟨rfl,h1⟩| ⟨_,x1,x2⟩
  ·grind
  have n1:=Ie hx.vi.1.1;have n2:=Ie hx.vi.2.1;exact Or.inr ⟨rfl,⟨⟨n2.2,AK hx.ok.hi⟩,⟨n1.2,AK hx.ok.lo⟩⟩,by grind,by grind⟩
 ·exact Or.inl rfl
theorem AP{x y}{a b}{p}(hx:In a x)(hy:In b y):In (a-b) (B4 x y p):=by
 have:=iq (p:=p) hx (Td hy);rw[show a+-b=a-b by grind]at this;exact this
theorem Lt{a b}(ha:vd a=true)(hb:vd b=true):(iY a b<0->qv a<=qv b)/\(¬iY a b<0->qv b<=qv a)/\(0<iY a b->qv b<=qv a)/\(¬0<iY a b->qv a<=qv b)/\(iY a b<=0↔qv a<=qv b)/\(0<=iY a b↔qv b<=qv a):=by
 unfold iY;grind[uD,gy]
theorem Te{a b}(ha:vd a=true/\Ok0 a)(hb:vd b=true/\Ok0 b):qv (mK a b)<=qv a/\qv (mK a b)<=qv b/\vd (mK a b)=true/\Ok0 (mK a b)/\(∀q,q<=qv a->q<=qv b->q<=qv (mK a b)):=by
 obtain⟨c1,c2,c3,c4,c5,c6⟩:=Lt ha.1 hb.1;grind[mK,Rat.le_refl]
theorem Tf{a b}(ha:vd a=true/\Ok0 a)(hb:vd b=true/\Ok0 b):qv a<=qv (mL a b)/\qv b<=qv (mL a b)/\vd (mL a b)=true/\Ok0 (mL a b)/\(∀q,qv a<=q->qv b<=q->qv (mL a b)<=q):=by
 obtain⟨c1,c2,c3,c4,c5,c6⟩:=Lt ha.1 hb.1;grind[mL,Rat.le_refl]
theorem Jr{x y}{a b}(hx:In a x)(hy:In b y):(In a (Mt x y)/\In b (Mt x y)):=by
 unfold Mt;split
 ·next h=>
  rcases hx.k with⟨rfl,h1⟩| ⟨_,x1,x2⟩
  ·grind
  rcases hy.k with⟨rfl,h1⟩| ⟨_,y1,y2⟩
  ·grind
  obtain⟨l1,l2,l3,l4,l5⟩:=Te hx.vi.1 hy.vi.1;obtain⟨m1,m2,m3,m4,m5⟩:=Tf hx.vi.2 hy.vi.2;exact⟨Or.inr ⟨rfl,⟨⟨l3,l4⟩,⟨m3,m4⟩⟩,by grind,by grind⟩,Or.inr ⟨rfl,⟨⟨l3,l4⟩,⟨m3,m4⟩⟩,by grind,by grind⟩⟩
 ·exact⟨Or.inl rfl,Or.inl rfl⟩
theorem Js{x y}{q}(hx:In q x)(hy:In q y):(wo x y).2=true/\In q (wo x y).1:=by
 unfold wo;rw[aq (by rw[hx.v,hy.v];rfl)];rcases hx with rfl| ⟨ha,hv,h1,h2⟩
 ·rw[aq (show cG.all=true from rfl)];grind
 ·rw[ax γ];rcases hy with rfl| ⟨hb,hw,h3,h4⟩
  ·exact⟨rfl,Or.inr ⟨ha,hv,h1,h2⟩⟩
  ·rw[ax γ];obtain⟨l1,l2,l3,l4,l5⟩:=Te hv.2 hw.2;obtain⟨m1,m2,m3,m4,m5⟩:=Tf hv.1 hw.1;have a:=l5 q h2 h4;have b:=m5 q h1 h3;rw[aq ((Lt m3 l3).2.2.2.2.1.2 (Rat.le_trans b a))];exact⟨rfl,Or.inr ⟨rfl,⟨⟨m3,m4⟩,⟨l3,l4⟩⟩,b,a⟩⟩
theorem aby{dn up}{pr}(okd:∀a b,vd (dn a b).1=true/\Ok0 (dn a b).1)(oku:∀a b,vd (up a b).1=true/\Ok0 (up a b).1){v:Nat->Rat}
  (hd:∀i,i<4->(dn (pr i).1 (pr i).2).2=0->qv (dn (pr i).1 (pr i).2).1<=v i) (hu:∀i,i<4->(up (pr i).1 (pr i).2).2=0->v i<=qv (up (pr i).1 (pr i).2).1) {q} (hq:∀lo hi,(∀i,i<4->lo<=v i/\v i<=hi)->lo<=q/\q<=hi):In q (H1 (sf dn up pr)):=by
 have key:∀k i o,i+k=4->(vd o.1=true/\Ok0 o.1)->(vd o.2=true/\Ok0 o.2)->(∀j,j<i->qv o.1<=v j/\v j<=qv o.2)->In q (H1 (BZ dn up pr k i o)):=by
  intro k;induction k with
  |zero=>
   intro i o hi v1 v2 h;have:=hq _ _ fun j hj=>h j ω;exact Or.inr ⟨rfl,⟨v1,v2⟩,this.1,this.2⟩
  |succ k ih=>
   intro i o hi v1 v2 h;unfold BZ;split
   ·next he=>
    have od:=okd (pr i).1 (pr i).2;have ou:=oku (pr i).1 (pr i).2;obtain⟨c1,c2,_,_⟩:=Lt od.1 v1.1;obtain⟨_,_,c3,c4,_⟩:=Lt ou.1 v2.1;grind
   ·exact Or.inl rfl
 unfold sf;split
 ·grind
 ·exact Or.inl rfl
theorem amw{xl xh x y lo hi:Rat}(h1:xl<=x)(h2:x<=xh)(a:lo<=xl*y/\xl*y<=hi)(b:lo<=xh*y/\xh*y<=hi):lo<=x*y/\x*y<=hi:=by
 by_cases h:0<=y
 ·have:=aB9 h1 h;have:=aB9 h2 h;grind
 ·have h:0≤-y:=γ
  have:=aB9 h1 h;have:=aB9 h2 h;grind
theorem abz{xl xh x yl yh y lo hi:Rat}(h1:xl<=x)(h2:x<=xh)(h3:yl<=y)(h4:y<=yh)(a:lo<=xl*yl/\xl*yl<=hi)(b:lo<=xl*yh/\xl*yh<=hi)(c:lo<=xh*yl/\xh*yl<=hi)(d:lo<=xh*yh/\xh*yh<=hi):lo<=x*y/\x*y<=hi:=by
 grind[Rat.mul_comm,amw]
theorem jI{x y}{a b}{p}(hx:In a x)(hy:In b y):In (a*b) (cU x y p):=by
 unfold cU;split
 ·next h=>
  simp only[aBk]at h;obtain⟨⟨kx,ky⟩,hp⟩:=h;rcases hx.k with⟨rfl,h⟩| ⟨_,x1,x2⟩
  ·grind
  rcases hy.k with⟨rfl,h⟩| ⟨_,y1,y2⟩
  ·grind
  have ok:∀up a b,vd (eA a b p up).1=true/\Ok0 (eA a b p up).1:=fun up a b=>by
   grind[eA,vf,aO]
  have hv:∀i,vd (gM x y i).1=true/\vd (gM x y i).2=true:=fun i=>by
   unfold gM;split
   ·exact⟨hx.vi.1.1,hy.vi.1.1⟩
   ·exact⟨hx.vi.1.1,hy.vi.2.1⟩
   ·exact⟨hx.vi.2.1,hy.vi.1.1⟩
   ·exact⟨hx.vi.2.1,hy.vi.2.1⟩
  refine aby (v:=fun i=>qv (gM x y i).1*qv (gM x y i).2) (ok false) (ok true) (fun i _ h=>(QN (hv i).1 (hv i).2 hp h).2 rfl) (fun i _ h=>(QN (hv i).1 (hv i).2 hp h).1 rfl) fun lo hi h=>?_;exact abz x1 x2 y1 y2 (h 0 δ) (h 1 δ) (h 2 δ) (h 3 δ)
 ·exact Or.inl rfl
abbrev LF:=G->Rat
def AQ(W v:G):Nat->Rat
 |0=>0
 |d+1=>AQ W v d+W d*v d
def rN(d:Nat)(L:LF):Prop:=∃W,∀v,L v=AQ W v d
theorem ags{W v w}:∀d,(∀j,j<d->v j=w j)->AQ W v d=AQ W w d
 |0,_=>rfl
 |d+1,h=>by simp only[AQ];rw[ags d fun j hj=>h j ω,h d ω]
theorem abA{W v w}{a b}:∀d,AQ W (fun j=>a*v j+b*w j) d=a*AQ W v d+b*AQ W w d
 |0=>by grind[AQ]
 |d+1=>by simp only[AQ];rw[abA d];grind
theorem akR{U W v}{a b}:∀d,AQ (fun j=>a*U j+b*W j) v d=a*AQ U v d+b*AQ W v d
 |0=>by grind[AQ]
 |d+1=>by simp only[AQ];rw[akR d];grind
theorem rN.cg{d}{L}(h:rN d L){v w}(e:∀j,j<d->v j=w j):L v=L w:=by
 obtain⟨W,h⟩:=h;rw[h,h,ags d e]
theorem rN.lin{d}{L}(h:rN d L){v w}{a b}:L (fun j=>a*v j+b*w j)=a*L v+b*L w:=by
 obtain⟨W,h⟩:=h;rw[h,h,h,abA d]
theorem rN.zero{d}{L}(h:rN d L):L (fun _=>0)=0:=by
 have:=h.lin (v:=fun _=>0) (w:=fun _=>0) (a:=0) (b:=0);grind
theorem rN.swap{d c}{L P}(h:rN d L)(hP:rN c P)(f:Nat->Nat->Rat):P (fun j=>L (fun r=>f r j))=L (fun r=>P (fun j=>f r j)):=by
 obtain⟨W,hP⟩:=hP;simp only[hP];clear hP;induction c with
 |zero=>exact h.zero.symm
 |succ c ih=>
  simp only[AQ];have:=h.lin (v:=fun r=>AQ W (fun j=>f r j) c) (w:=fun r=>f r c) (a:=1) (b:=W c);grind
theorem agt{d i}(h:i<d):rN d fun v=>v i:=by
 refine⟨fun j=>if j=i then 1 else 0,fun v=>?_⟩;have:∀c,AQ (fun j=>if j=i then 1 else 0) v c=if i<c then v i else 0:=by
  intro c;induction c with
  |zero=>rfl
  |succ c ih=>
   simp only[AQ,ih];grind
 grind
theorem rN.comb{d}{L M}(h:rN d L)(h':rN d M)(a b):rN d fun v=>a*L v+b*M v:=by
 obtain⟨W,h⟩:=h;obtain⟨U,h'⟩:=h';exact⟨fun j=>a*W j+b*U j,fun v=>by
  show a*L v+b*M v=_;rw[akR,h,h']⟩
theorem ajC{d}:rN d fun _=>0:=⟨fun _=>0,fun v=>by
 induction d with
 |zero=>rfl
 |succ d ih=>grind[AQ]⟩
theorem Lu{x}{d}:∀c i,i+c<=d->rN d fun v=>pl x v i c
 |0,_,_=>ajC
 |c+1,i,h=>by
  have:=(agt (d:=d) (i:=i) ω).comb (Lu (x:=x) c (i+1) ω) 1 x;simp only[Rat.one_mul]at this;exact this
theorem QO{t}{d}:∀n i,i+n<d->rN d fun v=>dc t v n i
 |0,i,h=>agt h
 |n+1,i,h=>(QO (t:=t) n i ω).comb (QO n (i+1) ω) (1-t) t
theorem YC{t lo hi}(h0:0<=t)(h1:t<=1){v}:∀n i,(∀j,i<=j->j<=i+n->lo<=v j/\v j<=hi)->lo<=dc t v n i/\dc t v n i<=hi
 |0,i,h=>h i (aBh _) (aBh _)
 |n+1,i,h=>by
  have a:=YC h0 h1 n i fun j a b=>h j a ω;have b:=YC h0 h1 n (i+1) fun j a b=>h j ω ω;have h2:0<=1-t:=γ
  simp only[dc];have q1:=Rat.mul_le_mul_of_nonneg_left a.1 h2;have q2:=Rat.mul_le_mul_of_nonneg_left a.2 h2;have q3:=Rat.mul_le_mul_of_nonneg_left b.1 h0;have q4:=Rat.mul_le_mul_of_nonneg_left b.2 h0;grind
def jO:List (Nat×LF)->Nat->Nat->G->Rat
 |[],_,i,g=>g i
 |p::ls,s,i,g=>p.2 fun j=>jO ls (s*(p.1+1)) (i+j*s) g
def Cg:List (Nat×LF)->Nat->Nat
 |[],s=>s
 |p::ls,s=>Cg ls (s*(p.1+1))
def QP(ls:List (Nat×LF)):Prop:=∀p∈ls,rN (p.1+1) p.2
theorem agu{g1 g2}:∀ls,QP ls->∀s i,(∀q,q*s+s<=Cg ls s->g1 (i+q*s)=g2 (i+q*s))->jO ls s i g1=jO ls s i g2
 |[],_,s,i,h=>by
  have:=h 0 (by grind[Cg]);grind[jO]
 |p::ls,ok,s,i,h=>by
  refine(ok p σ).cg fun j hj=>agu ls (fun q hq=>ok q γ) _ _ fun q hq=>?_;have e:i+j*s+q*(s*(p.1+1))=i+(j+q*(p.1+1))*s:=γ
  rw[e];refine h _ (aBq ?_ hq);have:(j+1)*s<=(p.1+1)*s:=aBv _ hj;grind
theorem OX{c}{P}(hP:rN c P){g}(a:Nat->Nat):∀ls,QP ls->∀s i,P (fun j=>jO ls s (i+a j) g)=jO ls s i fun i'=>P fun j=>g (i'+a j)
 |[],_,_,_=>rfl
 |p::ls,ok,s,i=>by
  show P (fun j=>p.2 fun r=>jO ls (s*(p.1+1)) (i+a j+r*s) g)=p.2 fun r=>jO ls (s*(p.1+1)) (i+r*s) _;rw[(ok p σ).swap hP];refine congrArg p.2 (funext fun r=>?_);rw[←OX hP a ls (fun q hq=>ok q γ)];grind
theorem YD{d}{P B}(hP:rN (d+1) P)(hB:rN (d+1) B){post}(op:QP post){g g'}:∀pre,QP pre->∀s i,i<s->
  (∀i0 q,i0<Cg pre s->q*(Cg pre s*(d+1))+Cg pre s*(d+1)<=Cg post (Cg pre s*(d+1))->P (fun j=>g (i0+q*(Cg pre s*(d+1))+j*Cg pre s))=B (fun j=>g' (i0+q*(Cg pre s*(d+1))+j*Cg pre s)))->
  jO (pre++(d,P)::post) s i g=jO (pre++(d,B)::post) s i g'
 |[],_,s,i,hi,h=>by
  show P (fun j=>jO post (s*(d+1)) (i+j*s) g)=B (fun j=>jO post (s*(d+1)) (i+j*s) g');rw[OX hP _ post op,OX hB _ post op];exact agu post op _ _ fun q hq=>h i q hi hq
 |p::pre,ok,s,i,hi,h=>by
  refine(ok p σ).cg fun j hj=>YD hP hB op pre (fun q hq=>ok q (by simp[hq])) _ _ ?_ h;have:j*s<=p.1*s:=aBv _ ω;grind
theorem abB{lo hi}{g}:∀ls,(∀p∈ls,∀v,(∀j,j<=p.1->lo<=v j/\v j<=hi)->lo<=p.2 v/\p.2 v<=hi)->∀s i,(∀q,q*s+s<=Cg ls s->lo<=g (i+q*s)/\g (i+q*s)<=hi)->lo<=jO ls s i g/\jO ls s i g<=hi
 |[],_,s,i,h=>by
  have:=h 0 (by grind[Cg]);grind[jO]
 |p::ls,ok,s,i,h=>by
  refine ok p σ _ fun j hj=>abB ls (fun q hq=>ok q γ) _ _ fun q hq=>?_;have e:i+j*s+q*(s*(p.1+1))=i+(j+q*(p.1+1))*s:=γ
  rw[e];refine h _ (aBq ?_ hq);have:j*s<=p.1*s:=aBv _ hj;grind
def ps(op:Nat->G->G)(s n:Nat):Nat->Nat->G->G
 |0,_,g=>g
 |k+1,i,g=>ps op s n k (i+1) (if i/s% (n+1)=0 then op i g else g)
theorem amx{s n f f' m m'}(hs:0<s)(h1:f/s% (n+1)=0)(h2:f'/s% (n+1)=0)(hm:m<=n)(hm':m'<=n)(e:f+m*s=f'+m'*s):f=f':=by
 have h3:(f+m*s)/s% (n+1)=m:=by
  rw[Nat.add_mul_div_right _ _ hs,Nat.add_mod,h1,aBi,Nat.mod_mod,aB8 ω]
 have h4:(f'+m'*s)/s% (n+1)=m':=by
  rw[Nat.add_mul_div_right _ _ hs,Nat.add_mod,h2,aBi,Nat.mod_mod,aB8 ω]
 grind
theorem asj{L L'}{s n}(hs:0<s)(cL:rN (n+1) L)(cL':rN (n+1) L'){op}(hop:∀f g,(∀a,(∀m,m<=n->a≠f+m*s)->op f g a=g a)/\L (fun m=>g (f+m*s))=L' (fun m=>op f g (f+m*s))):
  ∀k i g,(∀f m,f<i->f/s% (n+1)=0->m<=n->ps op s n k i g (f+m*s)=g (f+m*s))/\∀f,i<=f->f<i+k->f/s% (n+1)=0->L (fun m=>g (f+m*s))=L' (fun m=>ps op s n k i g (f+m*s)):=by
 intro k;induction k with
 |zero=>exact fun i g=>⟨fun _ _ _ _ _=>rfl,fun f h1 h2=>by omega⟩
 |succ k ih=>
  intro i g;have e:ps op s n (k+1) i g=ps op s n k (i+1) (if i/s% (n+1)=0 then op i g else g):=rfl;rw[e];have hg:∀f m,f≠i->f/s% (n+1)=0->m<=n->(if i/s% (n+1)=0 then op i g else g) (f+m*s)=g (f+m*s):=fun f m hf h0 hm=>by
   grind[amx]
  have hi:i/s% (n+1)=0->L (fun m=>g (i+m*s))=L' (fun m=>(if i/s% (n+1)=0 then op i g else g) (i+m*s)):=fun h=>by
   simp_all
  generalize(if i/s% (n+1)=0 then op i g else g)=g1 at*
  obtain⟨a,b⟩:=ih (i+1) g1;refine⟨fun f m hf h0 hm=>by rw[a f m ω h0 hm,hg f m ω h0 hm],fun f h1 h2 h0=>?_⟩;by_cases hq:f=i
  ·subst hq;rw[hi h0];exact cL'.cg fun m hm=>(a f m ω h0 ω).symm
  ·rw[←b f ω ω h0];exact cL.cg fun m hm=>(hg f m hq h0 ω).symm
def dl(a:Nat):G:=fun b=>if b=a then 1 else 0
theorem Tg{a c}{g h}:∀ls,QP ls->∀s i,jO ls s i (fun b=>a*g b+c*h b)=a*jO ls s i g+c*jO ls s i h
 |[],_,_,_=>rfl
 |p::ls,ok,s,i=>by
  show p.2 (fun j=>jO ls _ (i+j*s) _)=a*p.2 _+c*p.2 _;rw[← (ok p σ).lin];refine congrArg p.2 (funext fun j=>?_);exact Tg ls (fun q hq=>ok q γ) _ _
theorem apz{ls}(ok:QP ls){s i a}{g}{y}:jO ls s i (gs g a y)=jO ls s i g+(y-g a)*jO ls s i (dl a):=by
 have:gs g a y=fun b=>1*g b+(y-g a)*dl a b:=by
  grind[gs,dl]
 rw[this,Tg ls ok];grind
def rJ:List Nat->List Rat->List (Nat×LF)
 |d::ds,x::xs=>(d,fun v=>pl x v 0 (d+1))::rJ ds xs
 |_,_=>[]
theorem Mv:∀ds xs,QP (rJ ds xs)
 |d::ds,x::xs=>fun p hp=>by
  rcases List.mem_cons.1 hp with rfl|hp
  ·simp_all[Lu]
  ·exact Mv ds xs p hp
 |[],_=>fun _ h=>by grind[rJ]
 |_::_,[]=>fun _ h=>by grind[rJ]
def zF:List Rat->List Nat->Rat
 |x::xs,e::es=>x^e*zF xs es
 |_,_=>1
def pos:List Nat->List Nat->Nat->Nat
 |d::ds,e::es,s=>e*s+pos ds es (s*(d+1))
 |_,_,_=>0
def QQ:List Nat->List Nat->Prop
 |d::ds,e::es=>e<=d/\QQ ds es
 |[],[]=>True
 |_,_=>False
theorem akS{x y}{e}:∀c i,(e<i->pl x (fun j=>if j=e then y else 0) i c=0)/\(i<=e->e<i+c->pl x (fun j=>if j=e then y else 0) i c=x^ (e-i)*y)
 |0,i=>⟨fun _=>rfl,fun h1 h2=>by omega⟩
 |c+1,i=>by
  obtain⟨a,b⟩:=akS (x:=x) (y:=y) (e:=e) c (i+1);simp only[pl];constructor
  ·grind
  ·intro h1 h2;by_cases h:i=e
   ·subst h;grind
   ·rw[ax h,b ω ω,show e-i=e- (i+1)+1 by omega,Rat.pow_succ];grind
theorem akT{s i i0 e:Nat}(h1:i<s)(h2:i0<s):i+j*s=i0+e*s↔i=i0/\j=e:=by
 constructor
 ·intro h;have a:(i+j*s) %s=i:=by rw[Nat.add_mul_mod_self_right,aB8 h1]
  have b:(i0+e*s) %s=i0:=by rw[Nat.add_mul_mod_self_right,aB8 h2]
  have c:i=i0:=γ
  subst c;exact⟨rfl,Nat.eq_of_mul_eq_mul_right ω (Nat.add_left_cancel h)⟩
 grind
theorem FR{s i j d}(h:i<s)(hj:j<=d):i+j*s<s*(d+1):=by
 have:j*s<=d*s:=aBv _ hj;grind
theorem abC:∀ds es xs,QQ ds es->xs.length=ds.length->∀s i i0,i<s->i0<s->jO (rJ ds xs) s i (dl (i0+pos ds es s))=if i=i0 then zF xs es else 0
 |[],[],xs,_,hx,s,i,i0,_,_=>by
  have:=List.length_eq_zero_iff.1 hx;subst this;rfl
 |d::ds,e::es,x::xs,h,hx,s,i,i0,h1,h2=>by
  show pl x (fun j=>jO (rJ ds xs) (s*(d+1)) (i+j*s) (dl (i0+(e*s+pos ds es (s*(d+1)))))) 0 (d+1)=_;have hc:=(Lu (x:=x) (d:=d+1) (d+1) 0 σ).cg (v:=fun j=>jO (rJ ds xs) (s*(d+1)) (i+j*s) (dl (i0+(e*s+pos ds es (s*(d+1)))))) (w:=fun j=>if j=e then(if i=i0 then zF xs es else 0)else 0) (fun j hj=>by
   rw[←aCe,abC ds es xs h.2 γ (s*(d+1)) _ _ (FR h1 ω) (FR h2 h.1)];grind[akT])
  rw[hc,(akS (d+1) 0).2 ω (by have:=h.1;omega)];by_cases ha:i=i0
  ·rw[aq ha,aq ha];rfl
  grind
 |[],_::_,_,h,_,_,_,_,_,_=>h.elim
 |_::_,[],_,h,_,_,_,_,_,_=>h.elim
 |_::_,_::_,[],_,hx,_,_,_,_,_=>by grind
theorem agv:∀ds es xs,QQ ds es->xs.length=ds.length->∀s i0,i0<s->i0+pos ds es s<Cg (rJ ds xs) s
 |[],[],xs,_,hx,s,i0,h2=>by
  exact h2
 |d::ds,e::es,x::xs,h,hx,s,i0,h2=>by
  show i0+(e*s+pos ds es (s*(d+1)))<Cg (rJ ds xs) (s*(d+1));rw[←aCe];exact agv ds es xs h.2 γ _ _ (FR h2 h.1)
 |[],_::_,_,h,_,_,_,_=>h.elim
 |_::_,[],_,h,_,_,_,_=>h.elim
 |_::_,_::_,[],_,hx,_,_,_=>by grind
theorem abD:∀ds es es',QQ ds es->QQ ds es'->∀s i i0,i<s->i0<s->i+pos ds es s=i0+pos ds es' s->i=i0/\es=es'
 |[],[],[],_,_,_,_,_,_,_,h=>⟨h,rfl⟩
 |d::ds,e::es,e'::es',h,h',s,i,i0,h1,h2,hq=>by
  have:i+(e*s+pos ds es (s*(d+1)))=i0+(e'*s+pos ds es' (s*(d+1))):=hq;rw[←aCe,←aCe]at this;obtain⟨a,b⟩:=abD ds es es' h.2 h'.2 _ _ _ (FR h1 h.1) (FR h2 h'.1) this;obtain⟨c,d⟩:=(akT h1 h2).1 a;exact⟨c,by rw[d,b]⟩
 |[],_::_,_,h,_,_,_,_,_,_,_=>h.elim
 |_::_,[],_,h,_,_,_,_,_,_,_=>h.elim
 |[],[],_::_,_,h,_,_,_,_,_,_=>h.elim
 |_::_,_::_,[],_,h,_,_,_,_,_,_=>h.elim
end Go.Ab
