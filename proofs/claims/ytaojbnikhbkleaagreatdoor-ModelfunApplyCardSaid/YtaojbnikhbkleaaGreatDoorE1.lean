/-
  ModelfunApply holds at every input of its card. Part E1.
-/
import Derived.Test.YtaojbnikhbkleaaGreatDoorD1
open Nat renaming add_mul → aFf, add_zero → aFA, div_add_mod → aFM, div_le_self → aF1, le_of_ble_eq_true → aFp, le_refl → aET, le_trans → aEX, lt_of_le_of_lt → aFl, lt_of_lt_of_le → aFQ, min_eq_left → aFW, mod_eq_of_lt → aFG, mod_lt → aFx, mul_assoc → aFj, mul_comm → aFd, mul_le_mul_left → aFV, mul_le_mul_right → aE4, pow_add → aE2, pow_le_pow_right → aFu, pow_succ → aFJ, reduceMod → aFD, reduceSub → aFt, two_pow_pos → aE7, zero_add → aES, zero_le → aE9
open Int renaming eq_ofNat_of_zero_le → aFy, lt_irrefl → aFC, natCast_zero → aFz, reduceEq → aEP, reduceLE → aEO, reduceLT → aEN, reduceToNat → aFo, toNat_natCast → aEY
open Bool renaming and_eq_true → aEV, and_false → aFT, and_self → aFI, and_true → aFE, false_and → aE0, false_eq_true → aFv, false_ne_true → aE3, not_eq_true' → aFS, not_false → aFY, not_true → aMD, true_and → aEW
open List renaming length → O, all_cons → aFa, all_eq_true → aFc, append_assoc → aFO, append_nil → aE8, cons_append → aFb, drop_eq_getElem_cons → aFe, drop_eq_nil_of_le → aFq, drop_zero → aFX, getD_eq_getElem?_getD → aF3, getElem?_eq_getElem → aE1, getElem_mem → aFg, length_cons → aFk, length_map → aFh, length_nil → aFs, length_replicate → aFU, length_set → aFR, length_take → aFm, map_congr_left → aFn, map_cons → aFr, map_id' → aFH, map_nil → aFB, mem_map → aFN, mem_of_getElem? → aE6, nil_append → aE5, replicate → aER, take_of_length_le → aFi
open Option renaming bind_eq_some_iff → aEQ, bind_some → aEZ, map_eq_some_iff → aEU, map_some → aFK
set_option linter.all false
namespace Go.Ab
open Go Go.IntWalk
set_option maxRecDepth 4000
set_option maxHeartbeats 8000000
variable{T lo third top w y:Nat}{a:Rp}
def aJK{a b}(ha:Lb a)(hb:Lb b)(hl:O a=O b)(h2:O a<=100000):∀k,k<=O a->∀s h,s 0=lm a->s 1=lm b->s 5=I (k-1)->
  dx (ao 0 [] (aB (am R (aA false) ake) [0,1,5] [] s h)) (am R (aA false) J5)=some (.ret,⟨upd ce 4 (I (dM (ab (a.take k)) (ab (b.take k)))),fun _=>.dead⟩):=by
 intro k;induction k with
 |zero=>
  intro hk s h h0 h1 h5;rw[ai];have e1:=aP (0<=((0:Nat):Int)-1);have e2:dM (ab []) (ab [])=0:=rfl;simp only[ake,J5,go_sem,h0,h1,h5,e1,e2]
 |succ k ih=>
  intro hk s h h0 h1 h5;have ih':=ih ω;have e1:=aa (0<=((k+1:Nat):Int)-1);have e2:dF (aS a) ((k+1:Nat)-1)=some (.ipt [U (a.getD k 0)]):=dV ω ω;have e3:dF (aS b) ((k+1:Nat)-1)=some (.ipt [U (b.getD k 0)]):=dV ω ω;have e4:aG ((k+1:Nat)-1-1)=k-1:=by grind[i64_in]
  have va:=jg a k;have vb:=jg b k;have la:=ft (jy ha k);have lb:=ft (jy hb k);rw[aFm,aFW ω]at la lb;rw[ai];rcases Nat.lt_trichotomy (a.getD k 0) (b.getD k 0)with hlt|heq|hgt
  ·have e5:=aa ((a.getD k 0)< (b.getD k 0:Int));have e6:dM (ab (a.take (k+1))) (ab (b.take (k+1)))=-1:=by
    have:4294967296^k*(a.getD k 0+1)<=4294967296^k*b.getD k 0:=aFV _ hlt;rw[Nat.mul_add]at this;simp only[dM];omega
   simp only[ake,J5,go_sem,h0,h1,h5,e1,e2,e3,e5,e6]
  ·have e5:=aP ((a.getD k 0)< (b.getD k 0:Int));have e7:=aP ((b.getD k 0)< (a.getD k 0:Int));have e6:dM (ab (a.take (k+1))) (ab (b.take (k+1)))=dM (ab (a.take k)) (ab (b.take k)):=by
    grind[dM]
   simp only[ake,go_sem,h0,h1,h5,e1,e2,e3,e5,e6,e7,e4];apply ih'<;>rfl
  ·have e5:=aP ((a.getD k 0)< (b.getD k 0:Int));have e7:=aa ((b.getD k 0)< (a.getD k 0:Int));have e6:dM (ab (a.take (k+1))) (ab (b.take (k+1)))=1:=by
    have:4294967296^k*(b.getD k 0+1)<=4294967296^k*a.getD k 0:=aFV _ hgt;rw[Nat.mul_add]at this;simp only[dM];omega
   simp only[ake,J5,go_sem,h0,h1,h5,e1,e2,e3,e5,e6,e7]
def aHj{a b}(ha:Lb a)(hb:Lb b)(h1:O a<=100000)(_h2:O b<=100000)(hc:O a=O b\/(K2 a/\K2 b)):R 119 [lm a,lm b] []=some (I (dM (ab a) (ab b)),[]):=by
 refine au aHX ?_;by_cases hl:O a=O b
 ·have e1:=aa (O a=(O b:Int));have e3:IntKind.i64.wrap (O a-1)=O a-1:=i64_in _ ⟨by omega,by omega⟩;have hL:=aJK ha hb hl h1 (O a) (aET _);rw[List.take_length,hl,List.take_length,←hl]at hL;generalize hLL:aB (am R (aA false) ake) [0,1,5] []=L at hL;have hX:∀s h,am R (aA false) (.loop [0,1,5] [] ake) s h=L s h:=fun s h=>by rw[←hLL];rfl
  have hL2:∀s h,s 0=lm a->s 1=lm b->s 5=I (O a-1)->fk false [[]] [.t 4] 0 (dx (ao 0 [] (L s h)) (am R (aA false) (.seq (.ops [4] [co 4 (.mv (.c (I 0)))]) (.ret))))=some (I (dM (ab a) (ab b)),[]):=fun s h a0 a1 a5=>by
   rw[show(.seq (.ops [4] [co 4 (.mv (.c (I 0)))]) (.ret))=J5 from rfl,hL s h a0 a1 a5];simp only[go_sem]
  show fk false [[]] [.t 4] 0 (am R (aA false) aEa _ _)=_;unfold aEa;show fk false [[]] [.t 4] 0 (dx (am R (aA false) (.ops [0,1] [co 4 (.mv (.c (I 0)))]) _ _) fun s h=>dx (am R (aA false) (.seq (.ops [0,1,10] [cm 6 0,co 7 (.len false (.t 6)),cm 8 1,co 9 (.len false (.t 8)),co 10 (.bin .neq (.t 7) (.t 9))]) (.cond (.t 10) (.seq (.seq (.ops [15] [cm 11 0,co 12 (.len false (.t 11)),cm 13 1,co 14 (.len false (.t 13)),co 15 (.bin .lss (.t 12) (.t 14))]) (.cond (.t 15) (.seq (.ops [4] [co 4 (.mv (.c (.v (.int .i64 (-1)))))]) (.ret)) (.skip))) (.seq (.ops [4] [co 4 (.mv (.c (I 1)))]) (.ret))) (.skip))) s h) fun s h=>dx (dx (am R (aA false) (.ops [0,1,5] [cm 16 0,co 17 (.len false (.t 16)),co 18 (.bin .sub (.t 17) (.c (I 1))),cm 5 18]) s h) fun s h=>ao 0 [] (am R (aA false) (.loop [0,1,5] [] ake) s h)) (am R (aA false) (.seq (.ops [4] [co 4 (.mv (.c (I 0)))]) (.ret))))=_;simp only[hX];simp only[go_sem,e1,e3];exact hL2 _ _ Z Z Z
 ·have e1:=aP (O a=(O b:Int));obtain⟨ca,cb⟩:=hc.resolve_left hl;by_cases hlt:O a<O b
  ·have e2:=aa (O a< (O b:Int));have e3:dM (ab a) (ab b)=-1:=by
    simp_all[GH,ab,adF,ca,dM,ap]
   rw[e3];simp only[aF8,aEa,go_sem,e1,e2]
  ·have e2:=aP (O a< (O b:Int));have e3:dM (ab a) (ab b)=1:=by
    have:=GH (x:=ab b) (y:=ab a) (by grind[adF,ca]);unfold dM;omega
   rw[e3];simp only[aF8,aEa,go_sem,e1,e2]
def aG2{d}(ok:Ok0 d):R 35 [af d] []=some (B (vd d),[]):=by
 refine au aIu ?_;unfold vd;have hl:=ok.len;by_cases a0:O d.m=0
 ·rw[ap a0];have e1:=aa ((O d.m:Int)=0);cases hn:d.neg with
  |true=>simp only[aoF,af,ak,hn,go_sem,e1,aMD,aE0]
  |false=>simp only[aoF,af,ak,hn,go_sem,e1,aFY,aEW]
 rw[av a0];have e1:=aP ((O d.m:Int)=0);by_cases a1:¬(O d.m)<=256
 ·have e2:=aa (256< (O d.m:Int));rw[decide_eq_false a1,aE0];simp only[aoF,af,ak,go_sem,e1,e2]
 replace a1:=Decidable.not_not.1 a1
 have e2:=aP (256< (O d.m:Int));have e3:dF (aS d.m) 0=some (.ipt [U (d.m.getD 0 0:Nat)]):=dV rfl ω;have e6:aG ((O d.m:Int)-1)=((O d.m-1:Nat):Int):=wi;have e7:dF (aS d.m) ((O d.m-1:Nat):Int)=some (.ipt [U (d.m.getD (O d.m-1) 0:Nat)]):=dV rfl ω;have hx:=dD ok.lb 0;rw[decide_eq_true a1,aEW];by_cases a3:d.m.getD (O d.m-1) 0=0
 ·have e8:=aa ((d.m.getD (O d.m-1) 0:Int)=0);rw[decide_eq_false (p:=d.m.getD (O d.m-1) 0≠0) (fun h=>h a3),aE0,aFT];simp only[aoF,af,ak,go_sem,e1,e2,e6,e7,e8]
 have e8:=aP ((d.m.getD (O d.m-1) 0:Int)=0);rw[decide_eq_true (p:=d.m.getD (O d.m-1) 0≠0) a3,aEW];have e4:=aH3 (n:=d.m.getD 0 0) rfl hx;by_cases a2:¬d.m.getD 0 0%2=1
 ·have e5:=aa (((d.m.getD 0 0%2:Nat):Int)=0);rw[decide_eq_false a2,aE0];simp only[aoF,af,ak,go_sem,e1,e2,e3,e4,e5,e6,e7,e8]
 replace a2:=Decidable.not_not.1 a2
 have e5:=aP (((d.m.getD 0 0%2:Nat):Int)=0);rw[decide_eq_true a2,aEW];have hv:=ai6 (Or.inr a3) (fun h=>a0 γ);have hbp:=fE hv;unfold rP;rw[decide_eq_false (p:=ag (ab d.m)=0) ω,Bool.false_or];by_cases a4:d.e< -16384
 ·have f1:=tt a4;rw[decide_eq_false (p:=-16384<=d.e) ω,aE0,aFT];simp only[aoF,af,ak,go_sem,e1,e2,e3,e4,e5,e6,e7,e8,f1]
 have f1:=ff a4;rw[decide_eq_true (p:=-16384<=d.e) ω,aEW];by_cases a5:16384<d.e
 ·have f2:=tt a5;rw[decide_eq_false (p:=d.e<=16384) ω,aE0,aFT];simp only[aoF,af,ak,go_sem,e1,e2,e3,e4,e5,e6,e7,e8,f1,f2]
 have f2:=ff a5;rw[decide_eq_true (p:=d.e<=16384) ω,aEW];have hb:=aH4 ok.lb ω (Or.inr a3);have hbl:=HP ok.lb;have w1:aG (((ag (ab d.m):Nat):Int)+d.e)=((ag (ab d.m):Nat):Int)+d.e:=i64_in _ ⟨by omega,by omega⟩;by_cases a6:ag (ab d.m)<=4096
 ·have f3:=aa (((ag (ab d.m):Nat):Int)<=4096);rw[decide_eq_true a6,aEW];simp only[aoF,af,ak,go_sem,e1,e2,e3,e4,e5,e6,e7,e8,f1,f2,hb,f3,w1]
 ·have f3:=aP (((ag (ab d.m):Nat):Int)<=4096);rw[decide_eq_false a6,aE0];simp only[aoF,af,ak,go_sem,e1,e2,e3,e4,e5,e6,e7,e8,f1,f2,hb,f3]
def aHy{neg}{m}{e}(hb:Lb m)(h1:O m<=9000)(he:-1000000<=e/\e<=1000000):R 94 [B neg,lm m,I e] []=some (af (aZ neg (ab m) e),[]):=by
 refine au aKd ?_;have ht:=aGy hb ω;have la:=eA m hb;obtain⟨M,hM⟩:∃M,ab m=M:=⟨_,rfl⟩;rw[hM]at ht la⊢;by_cases h0:M=0
 ·have e1:((O (ax M):Int)=0)=True:=tt (by grind[cO]);rw[h0,kT];simp only[aGC,af,ak,aC,go_sem,ht,e1]
 ·have e1:((O (ax M):Int)=0)=False:=ff (fun h=>h0 (sj.1 (List.length_eq_zero_iff.1 ω)));have hz:=aJD (aH M) ω (by grind[aJ]);rw[aJ]at hz;have htz:tz M<32*O (ax M):=by
   refine agT h0 ?_;grind[ft,aH,aJ,Nat.pow_mul]
  have hr:=aJG (aH M) (n:=tz M) ω ω;rw[aJ]at hr;have w1:aG (e+(tz M:Nat))=e+(tz M:Nat):=i64_in _ ⟨by omega,by omega⟩;rw[l7 h0];simp only[aGC,af,ak,go_sem,ht,e1,hz,hr,w1]
def aJf(d:Rd):Rd:=⟨!d.neg&&decide (0<O d.m),d.m,d.e⟩
def aKJ{d}:R 232 [af d] []=some (af (aJf d),[]):=by
 refine au aJA ?_;unfold aJf;cases hn:d.neg with
 |true=>simp only[aGq,af,ak,go_sem,hn,aMD,aE0]
 |false=>
  have e:decide (0< (O d.m:Int))=decide (0<O d.m):=γ
  simp only[aGq,af,ak,go_sem,hn,aFY,aEW,e]
theorem aKK{d}(h:vd d=true):aJf d=gW d:=by
 unfold aJf gW;by_cases h0:O d.m=0
 ·have:=GY h h0;subst this;rfl
 ·rw[av (fun h2=>h2.elim (fun h3=>by grind) h0),decide_eq_true ω,aFE]
theorem Cx{d}(h:vd d=true):zI (gW d)=-zI d/\vd (gW d)=true:=by
 unfold gW;by_cases h0:O d.m=0
 ·rw[ap (Or.inr h0),cS h0];exact⟨by rw[cS rfl];rfl,rfl⟩
 ·constructor
  ·grind[zI,mg]
  simp_all[vd,av]
def aHn{d}:R 230 [af d] []=some (I (kl d),[]):=by
 refine au aI8 ?_;unfold kl;by_cases h0:O d.m=0
 ·have e1:=aa ((O d.m:Int)=0);rw[ap h0];simp only[aGa,af,ak,go_sem,e1]
 ·have e1:=aP ((O d.m:Int)=0);rw[av h0];cases hn:d.neg with
  |true=>
   simp only[aGa,af,ak,go_sem,e1,hn]
  |false=>
   simp only[aGa,af,ak,go_sem,e1,hn]
theorem amV{d}(h:vd d=true):K2 d.m:=by
 by_cases h0:O d.m=0
 ·exact Or.inl (List.length_eq_zero_iff.1 h0)
 ·exact Or.inr (FE h h0).2.2.1
def aIG{d}(ok:Ok0 d)(h:vd d=true):R 34 [af d] []=some (I (aQ d),[]):=by
 refine au aHM ?_;by_cases h0:O d.m=0
 ·have e1:=aa ((O d.m:Int)=0);rw[aQ,ap (Or.inr h0)];simp only[aF5,af,ak,go_sem,e1]
 ·have e1:=aP ((O d.m:Int)=0);obtain⟨h1,h2,h3,h4⟩:=dT h ok.lb;rw[kJ h h0];have hb:=aH4 ok.lb ω (amV h);have w1:aG ((ag (ab d.m):Nat)+d.e)=(ag (ab d.m):Nat)+d.e:=i64_in _ ⟨by omega,by omega⟩;simp only[aF5,af,ak,go_sem,e1,hb,w1]
def fF(z f:Int):Rd:=aZ (decide (z<0)) z.natAbs f
theorem ED{neg}{n}{f}:aZ neg n f=fF (cG neg n) f:=by
 unfold fF;by_cases h0:n=0
 ·subst h0;cases neg<;>exact kT.symm
 ·cases neg with
  |false=>
   rw[wI,Int.natAbs_natCast,decide_eq_false ω]
  |true=>
   rw[yC,Int.natAbs_neg,Int.natAbs_natCast,decide_eq_true ω]
theorem ajG{n}(h:n%2=1)(k):tz (n*2^k)=k:=by
 rw[aFd,M9 k ω,Du h,aFA]
theorem Kc{d}(ok:Ok0 d)(h:vd d=true):fF (zI d) (-16384)=d:=by
 by_cases h0:O d.m=0
 ·rw[cS h0];have:=GY h h0;subst this;exact kT
 ·obtain⟨h1,h2,h3,h4⟩:=FE h h0;obtain⟨g1,g2,g3,g4⟩:=dT h ok.lb;have hz:zI d=cG d.neg (mg d):=by
   grind[zI,cG]
  rw[hz,←ED];unfold mg;rw[nR,l7 (dN h h0)];have ho:ab d.m%2=1:=by
   have:=jk d.m 0;grind
  rw[Du ho,Nat.pow_zero,Nat.div_one,adF ok.lb (amV h)];obtain⟨n,m,e⟩:=d;grind
def aGl{x y}(h:x<=y):O (ax x)<=O (ax y):=Nat.not_lt.1 fun h2=>by
 have:=GH h2;omega
def aKL{a b}(oa:Ok0 a)(ob:Ok0 b)(va:vd a=true)(vb:vd b=true):R 231 [af a,af b] []=some (af (fF (zI a+zI b) (-16384)),[]):=by
 refine au aJz ?_;by_cases a0:O a.m=0
 ·have e1:=aa ((O a.m:Int)=0);rw[cS a0,Int.zero_add,Kc ob vb];simp only[aD8,af,ak,go_sem,e1]
 have e1:=aP ((O a.m:Int)=0);by_cases b0:O b.m=0
 ·have e2:=aa ((O b.m:Int)=0);rw[cS b0,Int.add_zero,Kc oa va];simp only[aD8,af,ak,go_sem,e1,e2]
 have e2:=aP ((O b.m:Int)=0);obtain⟨a1,a2,a3,a4⟩:=dT va oa.lb;obtain⟨b1,b2,b3,b4⟩:=dT vb ob.lb;obtain⟨e,he⟩:∃e,(if b.e<a.e then b.e else a.e)=e:=⟨_,rfl⟩;have he1:=by
  omega
 have w1:aG (a.e-e)=(((a.e-e).toNat:Nat):Int):=wi;have w2:aG (b.e-e)=(((b.e-e).toNat:Nat):Int):=wi;have l1:=aH6 oa.lb (n:=(a.e-e).toNat) ω ω;have l2:=aH6 ob.lb (n:=(b.e-e).toNat) ω ω;have z1:zI a=cG a.neg (ab a.m*2^ (a.e-e).toNat*2^ (e+16384).toNat):=by
  grind[zI,cG,mg,Ey]
 have z2:zI b=cG b.neg (ab b.m*2^ (b.e-e).toNat*2^ (e+16384).toNat):=by
  grind[zI,cG,mg,Ey]
 have bx:ag (ab a.m*2^ (a.e-e).toNat)<=36864:=by
  grind[eB,dN]
 have by':ag (ab b.m*2^ (b.e-e).toNat)<=36864:=by
  grind[eB,dN]
 rw[z1,z2];generalize ab a.m*2^ (a.e-e).toNat=x at l1 bx⊢;generalize ab b.m*2^ (b.e-e).toNat=y at l2 by'⊢;have lx:O (ax x)<=1152:=bk ω;have ly:O (ax y)<=1152:=bk ω;have hsum:∀ (n:Bool) (z:Nat),aZ n z e=fF (cG n (z*2^ (e+16384).toNat)) (-16384):=fun n z=>by
  rw[←ED,nR,show-16384+(((e+16384).toNat:Nat):Int)=e by omega]
 have hcp:=aHj (aH x) (aH y) ω ω (Or.inr ⟨ai7 x,ai7 y⟩);rw[aJ,aJ]at hcp;by_cases hs:a.neg=b.neg
 ·have p1:=aKf (aH x) (aH y) ω ω;rw[aJ,aJ]at p1;have bz:ag (x+y)<=36865:=Lq bx by';have o1:=aHy (neg:=a.neg) (m:=ax (x+y)) (e:=e) (aH _) (aEX (bk (k:=1153) ω) δ) ⟨by omega,by omega⟩;rw[aJ,hsum]at o1;have hz:cG a.neg (x*2^ (e+16384).toNat)+cG b.neg (y*2^ (e+16384).toNat)=cG a.neg ((x+y)*2^ (e+16384).toNat):=by
   rw[←hs,aFf];cases a.neg
   all_goals grind[wI,yC]
  rw[hz];generalize fF (cG a.neg ((x+y)*2^ (e+16384).toNat)) (-16384)=r at o1⊢;have hs2:(a.neg==b.neg)=true:=γ
  have hs3:(false != (a.neg==b.neg))=true:=γ
  simp only[af,ak]at o1;simp only[aD8,af,ak,go_sem,e1,e2,he,w1,w2,l1,l2,hs3,p1,o1]
 ·have hs2:(a.neg==b.neg)=false:=by
   grind
  have hs3:(false != (a.neg==b.neg))=false:=γ
  have hbn:b.neg=!a.neg:=by
   grind
  by_cases hlt:x<y
  ·have e5:(0<=dM x y)=False:=ff (by simp_all[dM,ap]);have m1:=aHO (aH y) (aH x) ω (aGl ω) (by grind[aJ]);rw[aJ,aJ]at m1;have o1:=aHy (neg:=b.neg) (m:=ax (y-x)) (e:=e) (aH _) (aEX (aGl (Nat.sub_le _ _)) ω) ⟨by omega,by omega⟩;rw[aJ,hsum]at o1;have hz:cG a.neg (x*2^ (e+16384).toNat)+cG b.neg (y*2^ (e+16384).toNat)=cG b.neg ((y-x)*2^ (e+16384).toNat):=by
    grind[aMD,wI,yC]
   rw[hz];generalize fF (cG b.neg ((y-x)*2^ (e+16384).toNat)) (-16384)=r at o1⊢;simp only[af,ak]at o1;simp only[aD8,af,ak,go_sem,e1,e2,he,w1,w2,l1,l2,hs3,hcp,e5,m1,o1]
  ·have e5:(0<=dM x y)=True:=tt (by unfold dM;omega);have m1:=aHO (aH x) (aH y) ω (aGl ω) (by grind[aJ]);rw[aJ,aJ]at m1;have o1:=aHy (neg:=a.neg) (m:=ax (x-y)) (e:=e) (aH _) (aEX (aGl (Nat.sub_le _ _)) ω) ⟨by omega,by omega⟩;rw[aJ,hsum]at o1;have hz:cG a.neg (x*2^ (e+16384).toNat)+cG b.neg (y*2^ (e+16384).toNat)=cG a.neg ((x-y)*2^ (e+16384).toNat):=by
    grind[aMD,wI,yC]
   rw[hz];generalize fF (cG a.neg ((x-y)*2^ (e+16384).toNat)) (-16384)=r at o1⊢;simp only[af,ak]at o1;simp only[aD8,af,ak,go_sem,e1,e2,he,w1,w2,l1,l2,hs3,hcp,e5,m1,o1]
theorem aMd:(true==true)=true:=rfl
theorem aMe:(true==false)=false:=rfl
theorem aMf:(false==true)=false:=rfl
theorem aMg:(false==false)=true:=rfl
theorem aLc:(false !=true)=true:=rfl
theorem aLd:(false !=false)=false:=rfl
theorem aKg(z f):kl (fF z f)=if z<0 then-1 else if 0<z then 1 else 0:=by
 unfold fF;by_cases h0:z=0
 ·subst h0;rfl
 ·have hn:z.natAbs≠0:=ω
  rw[l7 hn];obtain⟨h1,h2⟩:=Cj hn;have hl:O (ax (z.natAbs/2^tz z.natAbs))≠0:=fun h=>by
   have:=sj.1 (List.length_eq_zero_iff.1 h);omega
  unfold kl;grind
def aJL{a b}(oa:Ok0 a)(ob:Ok0 b)(va:vd a=true)(vb:vd b=true)(na:O a.m≠0)(nb:O b.m≠0)(h:aQ a<aQ b):mg a<mg b:=by
 have h1:=J7 va oa.lb na;have h2:=J7 vb ob.lb nb;exact Tm ω
def aHH{a b}(oa:Ok0 a)(ob:Ok0 b)(va:vd a=true)(vb:vd b=true):R 172 [af a,af b] []=some (I (gH (zI a) (zI b)),[]):=by
 refine au aJy ?_;have s1:=aHn (d:=a);have s2:=aHn (d:=b);have t1:=aIG oa va;have t2:=aIG ob vb;have n1:=aKJ (d:=b);rw[aKK vb]at n1;obtain⟨hz,hvn⟩:=Cx vb;have u1:=aKL oa (Cv ob) va hvn;rw[hz]at u1;have u2:=aHn (d:=fF (zI a+-zI b) (-16384));rw[aKg]at u2;have hca:=Q9 a va;have hcb:=Q9 b vb;generalize gW b=nb at n1 u1;simp only[af,ak]at s1 s2 t1 t2 n1 u1 u2;by_cases hs:kl a=kl b
 ·have e1:=tt hs;by_cases h0:kl a=0
  ·have e2:=tt h0;have hr:gH (zI a) (zI b)=0:=by
    have:zI a=0:=ω
    have:zI b=0:=ω
    simp_all[gH,av]
   rw[hr];simp only[ar3,af,ak,go_sem,s1,s2,e1,e2]
   try simp only[↓reduceIte,Nat.reduceEqDiff,Nat.reduceMul,Nat.reduceAdd,aFt,Nat.reduceLeDiff,Nat.reduceLT,aEN,aEO,aEP,aFo,Nat.reduceBEq,aFD, *]
  ·have e2:=ff h0;have na:O a.m≠0:=ω
   have nb':O b.m≠0:=ω
   by_cases ht:aQ a=aQ b
   ·have e3:=tt ht;have hr:gH (zI a) (zI b)=if zI a+-zI b<0 then-1 else if 0<zI a+-zI b then 1 else 0:=by
     grind[gH]
    rw[hr];simp only[ar3,af,ak,go_sem,s1,s2,t1,t2,e1,e2,e3,n1,u1,u2]
   ·have e3:=ff ht;by_cases hlt:aQ a<aQ b
    ·have e4:=tt hlt;have hm:=aJL oa ob va vb na nb' hlt;by_cases hp:0<kl a
     ·have e5:=tt hp;have hr:gH (zI a) (zI b)=-1:=by
       unfold gH;omega
      rw[hr];simp only[ar3,af,ak,go_sem,s1,s2,t1,t2,e1,e2,e3,e4,e5,decide_true,aMd,aLc]
     ·have e5:=ff hp;have hr:gH (zI a) (zI b)=1:=by
       unfold gH;omega
      rw[hr];simp only[ar3,af,ak,go_sem,s1,s2,t1,t2,e1,e2,e3,e4,e5,decide_true,decide_false,aMe,aLd]
    ·have e4:(aQ a<aQ b)=False:=ff hlt;have hm:=aJL ob oa vb va nb' na ω;by_cases hp:0<kl a
     ·have e5:(0<kl a)=True:=tt hp;have hr:gH (zI a) (zI b)=1:=by
       unfold gH;omega
      rw[hr];simp only[ar3,af,ak,go_sem,s1,s2,t1,t2,e1,e2,e3,e4,e5,decide_true,decide_false,aMf,aLd]
     ·have e5:(0<kl a)=False:=ff hp;have hr:gH (zI a) (zI b)=-1:=by
       unfold gH;omega
      rw[hr];simp only[ar3,af,ak,go_sem,s1,s2,t1,t2,e1,e2,e3,e4,e5,decide_true,decide_false,aMg,aLc]
 ·have e1:(kl a=kl b)=False:=ff hs;by_cases hlt:kl a<kl b
  ·have e2:(kl a<kl b)=True:=tt hlt;have hr:gH (zI a) (zI b)=-1:=by
    unfold gH;omega
   rw[hr];simp only[ar3,af,ak,go_sem,s1,s2,e1,e2]
  ·have e2:(kl a<kl b)=False:=ff hlt;have hr:gH (zI a) (zI b)=1:=by
    unfold gH;omega
   rw[hr];simp only[ar3,af,ak,go_sem,s1,s2,e1,e2]
def aG3{d}(hb:Lb d.m)(hl:O d.m<=100000):R 48 [af d,af d] []=some (B true,[]):=by
 refine au aIv ?_;have hc:=aHj hb hb hl hl (Or.inl rfl);have e1:dM (ab d.m) (ab d.m)=0:=by
  simp_all[dM,av,Nat.lt_irrefl]
 rw[e1]at hc;have e2:(false != (d.neg==d.neg))=true:=γ
 simp only[aGu,af,ak,go_sem,e2,hc]
def aKM:R 29 [I 1] []=some (af one,[]):=by
 refine au aJw ?_;have h:=aHy (neg:=false) (m:=[1,0]) (e:=0) (fun x hx=>by
  grind) δ ⟨by decide,by decide⟩
 have h2:aZ false (ab [1,0]) 0=one:=by
  show aZ false 1 0=one;grind[l7,Du,ax,one,vj,cO]
 rw[h2]at h;have h3:R 94 [B false,.sl 1 [[U 1],[U 0]],I 0] []=some (af one,[]):=h;have w1:IntKind.u64.wrap 1=1:=rfl;have w2:=ajF (n:=1) (i:=1) rfl δ;have w3:=Fb (n:=1) (i:=1) (k:=32) (kk:=.u64) (j:=32) Z Z ω;rw[show((1%4294967296:Nat):Int)=1 from rfl]at w2;rw[show((1/2^32:Nat):Int)=0 from rfl]at w3;have w4:IntKind.u32.wrap 1=1:=rfl;have w5:IntKind.u32.wrap 0=0:=rfl;simp only[aGR,one,af,ak,go_sem,aEN,w1,w2,w3,w4,w5,h3]
theorem ajH{a b}(oa:Ok0 a)(ob:Ok0 b)(va:vd a=true)(vb:vd b=true):aZ (a.neg !=b.neg) (ab a.m*ab b.m) (a.e+b.e)=fF (zI a*zI b) (-32768):=by
 obtain⟨a1,a2,a3,a4⟩:=dT va oa.lb;obtain⟨b1,b2,b3,b4⟩:=dT vb ob.lb;have hz:zI a*zI b=cG (a.neg !=b.neg) (mg a*mg b):=by
  unfold zI cG;cases a.neg<;>cases b.neg<;>simp[Int.mul_neg,Int.neg_mul]
 have hm:mg a*mg b=ab a.m*ab b.m*2^ ((a.e+16384).toNat+(b.e+16384).toNat):=by
  unfold mg;rw[aE2]
  ac_rfl
 rw[hz,←ED,hm,nR,show-32768+((a.e+16384).toNat+(b.e+16384).toNat:Nat)=a.e+b.e by omega]
def OI{a b}{p}{up}:vd (dh a b p up).1=true:=by
 unfold dh;split
 ·exact xw.1
 ·exact aO.1
theorem Vp{d}{p}{up}:vd (bY d p up).1=true:=by
 unfold bY;split
 ·exact xw.1
 ·exact aO.1
def aH7{d}:R 171 [af d] []=some (B (z0 d),[]):=by
 refine au aI7 ?_;unfold z0;cases hn:d.neg with
 |true=>simp only[aEc,af,ak,go_sem,hn,aMD,aE0]
 |false=>
  by_cases h1:O d.m=0
  ·have e1:=aa ((O d.m:Int)=0);by_cases h2:d.e=0
   ·have e2:=tt h2;rw[decide_eq_true h1,decide_eq_true h2];simp only[aEc,af,ak,go_sem,hn,e1,e2,aFY,aEW]
   ·have e2:=ff h2;rw[decide_eq_true h1,decide_eq_false h2];simp only[aEc,af,ak,go_sem,hn,e1,e2,aFY,aEW]
  ·have e1:=aP ((O d.m:Int)=0);rw[decide_eq_false h1];simp only[aEc,af,ak,go_sem,hn,e1,aFY,aEW,aE0]
def aG4{x}(ok:OkI x):R 105 [ae x] []=some (B (vi x),[]):=by
 refine au aIw ?_;unfold vi;have zl:=aH7 (d:=x.lo);have zh:=aH7 (d:=x.hi);have vl:=aG2 ok.lo;have vh:=aG2 ok.hi;simp only[af,ak]at zl zh vl vh;cases ha:x.all with
 |true=>
  cases h1:z0 x.lo with
  |true=>
   rw[h1]at zl;simp only[aym,ae,ah,go_sem,ha,zl,zh,aEW]
  |false=>
   rw[h1]at zl;simp only[aym,ae,ah,go_sem,ha,zl,aE0]
 |false=>
  cases h1:vd x.lo with
  |false=>
   rw[h1]at vl;simp only[aym,ae,ah,go_sem,ha,vl,aE0]
  |true=>
   rw[h1]at vl;cases h2:vd x.hi with
   |false=>
    rw[h2]at vh;simp only[aym,ae,ah,go_sem,ha,vl,vh,aEW,aE0]
   |true=>
    rw[h2]at vh;have hc:=aHH ok.lo ok.hi h1 h2;simp only[af,ak]at hc;simp only[aym,ae,ah,go_sem,ha,vl,vh,hc,GZ,aEW]
def aKh{p}:R 104 [I p] []=some (B (bv p),[]):=by
 refine au aI4 ?_;unfold bv;by_cases h1:8<=p
 ·have e1:=tt h1;simp only[aGn,go_sem,e1,decide_true,aEW]
 ·have e1:=ff h1;simp only[aGn,go_sem,e1,decide_false,aE0]
theorem Vq{a b}(va:vd a=true)(vb:vd b=true):jz a b=gH (zI a) (zI b):=by simp_all[jz,ap]
def aHz{a b}(oa:Ok0 a)(ob:Ok0 b)(va:vd a=true)(vb:vd b=true)(h:zI a=zI b):a=b:=by
 rw[←Kc oa va,←Kc ob vb,h]
theorem apU{d}(h:vd d=true):zI (py d)=(zI d).natAbs/\vd (py d)=true:=by
 unfold py;by_cases h0:O d.m=0
 ·rw[ap (Or.inr h0),cS h0];exact⟨by rw[cS rfl];rfl,rfl⟩
 ·rw[av (fun h2=>h2.elim (fun h3=>by rw[h]at h3;exact aE3 h3.symm) h0)];constructor
  ·have e1:zI ⟨false,d.m,d.e⟩=(mg d):=rfl;rw[e1];unfold zI;split<;>omega
  ·unfold vd at h⊢;rw[av h0]at h⊢;exact h
theorem uE(x y):(x<y/\gH x y=-1)\/(x=y/\gH x y=0)\/(y<x/\gH x y=1):=by
 unfold gH;rcases Int.lt_trichotomy x y with h|h|h
 ·exact Or.inl ⟨h,ap h⟩
 ·exact Or.inr (Or.inl ⟨h,by rw[av ω];exact av ω⟩)
 ·exact Or.inr (Or.inr ⟨h,by rw[av ω];exact ap h⟩)
structure Len1 (x:Ri):Prop where
 lo:Lb x.lo.m/\O x.lo.m<=100000
 hi:Lb x.hi.m/\O x.hi.m<=100000
def VI(x:Ri):Prop:=(vd x.lo=true/\Ok0 x.lo)/\(vd x.hi=true/\Ok0 x.hi)
theorem VI.len{x}(h:VI x):Len1 x:=⟨⟨h.1.2.1,aEX (vB h.1.1 h.1.2.1) δ⟩,⟨h.2.2.1,aEX (vB h.2.1 h.2.2.1) δ⟩⟩
def gX:VI bt:=⟨aO,aO⟩
def apV{x y}{p}:VI (de x y p):=by
 unfold de;split
 ·unfold kD;split
  ·exact⟨⟨OI,Kb⟩,⟨OI,Kb⟩⟩
  ·exact gX
 ·exact gX
def asQ{p}{dom}:∀l s,VI s->VI (Tu p dom l s):=by
 intro l;induction l with
 |nil=>exact fun s h=>h
 |cons t l ih=>exact fun s h=>ih _ apV
def ajI{a}{dom}{p}:VI (tD a dom p):=by
 unfold tD;split
 ·exact asQ _ _ ⟨aO,aO⟩
 ·exact gX
def nH(a:Rp):Int:=if vp a=true then(match a.terms.getLast? with|none=>-1|some t=>cp t.exps)else-1
def Tv{a}(h:vp a=true):0<=a.vars/\a.vars<=8/\O a.terms<=500/\FI a.vars none a.terms=true:=by
 simp_all[vp,aEV,decide_eq_true_eq]
def OJ{a}(h:vp a=true){t}(ht:t∈a.terms):sm t.exps/\O t.exps=a.vars/\vd t.c=true/\O t.c.m≠0/\cp t.exps<=32:=by
 obtain⟨v1,v2,v3,v4⟩:=Tv h;obtain⟨c1,c2,c3,c4,c5⟩:=HX (OH _ _ v4 t ht);exact⟨⟨by omega,EC c4⟩,c1,c2,c3,c5⟩
def IZ{a}(ok:OkP a):R 101 [bj a] []=some (I (nH a),[]):=by
 refine au XU ?_;have hv:=vP ok;unfold nH;simp only[bj]at hv;cases hb:vp a with
 |false=>
  rw[hb]at hv;simp only[uN,bj,go_sem,hv]
 |true=>
  rw[hb]at hv;obtain⟨v1,v2,v3,v4⟩:=Tv hb;by_cases h0:O a.terms=0
  ·have e1:=aa ((O a.terms:Int)=0);have e4:a.terms.getLast?=none:=by
    grind
   rw[e4];simp only[uN,bj,go_sem,hv,e1]
  ·have e1:=aP ((O a.terms:Int)=0);have e2:aG (O a.terms-1)=(O a.terms-1:Nat):=by grind[i64_in]
   have hlt:O a.terms-1<O a.terms:=ω
   have e3:=kV rfl (aE1 hlt);have e4:a.terms.getLast?=some a.terms[O a.terms-1]:=γ
   obtain⟨c1,c2,c3,c4,c5⟩:=OJ hb (aFg hlt);rw[e4];have hd:=Cw c1;simp only[dE]at e3;simp only[uN,bj,go_sem,hv,e1,e2,e3,hd]
def A7(x:Int):List Int->Nat->Int
 |[],_=>-1
 |y::l,i=>if x=y then i else A7 x l (i+1)
def amW{l}(h2:O l<=100000)(x):∀ (k i:Nat),i+k=O l->∀s h,s 0=.sl 1 (aY l)->s 1=I x->s 7=I (O l)->s 8=I i->
  ∃hh,dx (ao 0 [] (aB (am R (aA false) fH) [0,1,7,8] [] s h)) (am R (aA false) (.seq (.ops [4] [co 4 (.mv (.c (I (-1))))]) (.ret)))=some (.ret,⟨upd ce 4 (I (A7 x (l.drop i) i)),hh⟩):=by
 intro k;induction k with
 |zero=>
  intro i hi s h h0 h1 h7 h8;have e1:=aP ((i:Int)<O l);rw[aFq ω,ai];refine⟨?hh0,?_⟩;rotate_left
  ·simp only[fH,A7,go_sem,aFt,aEN,aEO,aEP,aFo,aFD,h0,h1,h7,h8,e1];rfl
 |succ k ih=>
  intro i hi s h h0 h1 h7 h8;have hlt:i<O l:=ω
  have e1:=aa ((i:Int)<O l);have e2:=vE rfl (aE1 hlt);have e5:aG (i+1)=(i+1:Nat):=wi;have ih':=ih (i+1) ω;rw[aFe hlt,ai];unfold A7;generalize l[i]=y at e2⊢;by_cases hxy:x=y
  ·have e3:=tt hxy;refine⟨?hh1,?_⟩;rotate_left
   ·simp only[fH,go_sem,aFt,aEN,aEO,aEP,aFo,aFD,h0,h1,h7,h8,e1,e2,e3];rfl
  ·have e3:=ff hxy;simp only[fH,go_sem,aFt,aEN,aEO,aEP,aFo,aFD,h0,h1,h7,h8,e1,e2,e3,e5]at ih'⊢;apply ih'<;>rfl
def amX{l}(h2:O l<=100000){x}:R 299 [.sl 1 (aY l),I x] []=some (I (A7 x l 0),[]):=by
 refine au It ?_;have h:=amW h2 x (O l) 0 (aES _);have h':∀S H X,dx (ao 0 [] (aB (am R (aA false) fH) [0,1,7,8] [] S H)) (am R (aA false) (.seq (.ops [4] [co 4 (.mv (.c (I (-1))))]) (.ret)))=X->S 0=.sl 1 (aY l)->S 1=I x->S 7=I (O l)->S 8=I 0->∃hh,X=some (.ret,⟨upd ce 4 (I (A7 x l 0)),hh⟩):=fun S H X hX=>by
  rw[←hX];exact h S H
 simp only[rA,Aw,go_sem,aFt,aEN,aEO,aEP,aFo,aFD];generalize hB:dx (ao 0 [] (aB _ _ _ _ _)) _=X;obtain⟨hh,h3⟩:=h' _ _ _ hB Z Z Z Z;rw[h3];simp only[go_sem,aFt,aEN,aEO,aEP,aFo,aFD]
def WJ:Option Rd->List AV
 |none=>[B false,.emp,I 0]
 |some d=>ak d
def HY(l:List (Option Rd)):List (List AV):=l.map WJ
@[go_sem] theorem aCn(l):O (HY l)=O l:=by simp[HY]
def apW{l}{i:Nat}{o}(h:l[i]?=some o):(HY l)[i]?=some (WJ o):=by grind[HY]
theorem apX(l)(i)(d):(HY l).set i (ak d)=HY (l.set i (some d)):=by simp[HY,List.map_set,WJ]
theorem apY(n):aER n [B false,.emp,I 0]=HY (aER n none):=by simp[HY,WJ]
def odV(l:List (Option Rd)):List Rd:=l.map fun o=>o.getD aC
def apZ(l):(HY l).map (fj [a9,aR,a9])=IT (odV l):=by
 simp only[HY,odV,IT,List.map_map];refine aFn fun o _=>?_;cases o with
 |none=>simp only[Function.comp,WJ,ak,aC,Option.getD,go_sem]
 |some d=>simp only[Function.comp,WJ,ak,Option.getD,go_sem]
def ap0(o)(d):(((WJ o).set 0 (B d.neg)).set 1 (lm d.m)).set 2 (I d.e)=ak d/\(3<=O (WJ o))=True:=by
 cases o<;>exact⟨rfl,tt (aET 3)⟩
def EE:List Rt->List (Option Rd)->List (Option Rd)
 |[],o=>o
 |t::l,o=>EE l (o.set (A7 1 t.exps 0+1).toNat (some t.c))
def aeb(x):∀l i,-1<=A7 x l i/\A7 x l i<O l+i
 |[],i=>by
  grind[A7,aFs]
 |y::l,i=>by
  unfold A7;have:=aeb x l (i+1);grind
def amY(hv:∀t∈a.terms,O t.exps=a.vars)(h8:a.vars<=8)(h5:O a.terms<=500):∀k i,i+k=O a.terms->∀o,O o=a.vars+1->∀s h,
  s 4=.rsl 18 none 3 0 (O o)->s 20=.sl 4 (aU a.terms)->s 21=I (O a.terms)->s 22=I i->h 1=.bx [I a.vars,.sl 4 (aU a.terms)]->h 18=.ar 3 (HY o)->
  ∃hh,ao 0 [4] (aB (am R (aA false) pN) [4,20,21,22] [1,18] s h)=some (.normal,⟨upd ce 4 (.rsl 18 none 3 0 (O o)),hh⟩)/\hh 18=.ar 3 (HY (EE (a.terms.drop i) o)):=by
 intro k;induction k with
 |zero=>
  intro i hi o ho s h h4 h20 h21 h22 k1 k18;have e1:=aP ((i:Int)<O a.terms);rw[aFq ω,ai];refine⟨?hh0,?_,?_⟩;rotate_left
  ·simp only[pN,go_sem,aFt,aEN,aEO,aEP,aFo,aFD,h4,h20,h21,h22,k1,k18,e1];rfl
  ·rfl
 |succ k ih=>
  intro i hi o ho s h h4 h20 h21 h22 k1 k18;have hlt:i<O a.terms:=ω
  have e1:=aa ((i:Int)<O a.terms);have e2:=kV rfl (aE1 hlt);have e5:aG (i+1)=(i+1:Nat):=wi;have c1:=hv a.terms[i] (aFg hlt);rw[aFe hlt,ai];have ih':=ih (i+1) ω;unfold EE;generalize a.terms[i]=t at e2 c1⊢;have hx:=amX (l:=t.exps) (x:=1) ω;obtain⟨x1,x2⟩:=aeb 1 t.exps 0;have e6:aG (A7 1 t.exps 0+1)=(A7 1 t.exps 0+1).toNat:=by grind[i64_in]
  generalize hn:(A7 1 t.exps 0+1).toNat=n at e6⊢;have hn2:n<O o:=ω
  have e7:=aa (0<=(n:Int));have e8:=aa (n< (O o:Int));have e9:=apW (aE1 hn2);obtain⟨e10,e11⟩:=ap0 o[n] t.c;have ih2:=ih' (o.set n (some t.c)) γ;rw[aFR]at ih2;simp only[dE]at e2;simp only[pN,go_sem,aFt,aEN,aEO,aEP,aFo,aFD,h4,h20,h21,h22,k1,k18,e1,e2,hx,e6,e7,e8,e9,e10,e11,e5,apX,aEY,aES];exact ih2 _ _ Z Z Z Z Z Z
theorem Rh:∀l o,O (EE l o)=O o
 |[],o=>rfl
 |t::l,o=>by
  unfold EE;rw[Rh l,aFR]
def I1(a:Rp):Bool:=vp a&&decide (nH a<=1)
def Lv(a:Rp):List Rd:=odV (EE a.terms (aER (a.vars.toNat+1) none))
def aa3(a:Rp):AV:=if I1 a=true then .tup [FF (Lv a),B true]else .tup [FF [],B false]
def WK{a}(ok:OkP a):R 257 [bj a] []=some (aa3 a,[]):=by
 refine au U2 ?_;have hv:=vP ok;have hd:=IZ ok;unfold aa3 I1;simp only[bj]at hv hd;cases hb:vp a with
 |false=>
  rw[hb]at hv;simp only[tp,Ah,bj,go_sem,aFt,aEN,aEO,aEP,aFo,aFD,hv,FF,IT]
 |true=>
  rw[hb]at hv;rw[aEW];generalize hg:nH a=g at hd⊢;by_cases h1:g<=1
  ·have e1:=aP (1<g);rw[ap (decide_eq_true h1)];obtain⟨v1,v2,v3,v4⟩:=Tv hb;have hl:=amY (a:=a) (fun t ht=>(OJ hb ht).2.1) v2 v3 (O a.terms) 0 (aES _) (aER (a.vars.toNat+1) none) γ;simp only[aFX,aFz,aFU]at hl;have hl2:=Rh a.terms (aER (a.vars.toNat+1) none);have hn:=apZ (EE a.terms (aER (a.vars.toNat+1) none));unfold Lv;generalize EE a.terms (aER (a.vars.toNat+1) none)=br at hl hl2 hn⊢;rw[aFU]at hl2;generalize hN:a.vars.toNat+1=N at hl hl2⊢;have e2:aG (a.vars+1)=N:=by grind[i64_in]
   have e3:=zA (i:=N) (j:=N) (l:=N) (c:=N) Z Z (aET _) ω;have e4:=aa (N*40<=140737488355328);have e5:=aa (0+N<=O br);have e6:=tt hl2.symm;have h':∀S H X,ao 0 [4] (aB (am R (aA false) pN) [4,20,21,22] [1,18] S H)=X->S 4=.rsl 18 none 3 0 N->S 20=.sl 4 (aU a.terms)->S 21=I (O a.terms)->S 22=I 0->H 1=.bx [I a.vars,.sl 4 (aU a.terms)]->H 18=.ar 3 (HY (aER N none))->
     ∃hh,X=some (.normal,⟨upd ce 4 (.rsl 18 none 3 0 N),hh⟩)/\hh 18=.ar 3 (HY br):=fun S H X hX=>by
    rw[←hX];exact hl S H
   simp only[tp,Ah,bj,go_sem,aFt,aEN,aEO,aEP,aFo,aFD,hv,hd,e1,e2,e3,e4,apY];generalize hB:ao 0 [4] (aB _ _ _ _ _)=X;obtain⟨hh,g0,g1⟩:=h' _ _ _ hB Z Z Z Z Z Z;rw[g0];simp only[go_sem,aFt,aEN,aEO,aEP,aFo,aFD,g1,e5,e6,hn,FF]
  ·have e1:=aa (1<g);rw[av (fun h=>h1 (of_decide_eq_true h))];simp only[tp,Ah,bj,go_sem,aFt,aEN,aEO,aEP,aFo,aFD,hv,hd,e1,FF,IT]
def dX(a b:Rd):Rd×Int:=if(vd a&&vd b)=true then cA (fF (zI a*zI b) (-32768))else(aC,1)
def qC(a b:Rd):Rd×Int:=if(vd a&&vd b)=true then cA (fF (zI a+zI b) (-16384))else(aC,1)
theorem xO{z f}:vd (cA (fF z f)).1=true/\Ok0 (cA (fF z f)).1:=by
 unfold cA fF;by_cases h:rP (ag (ab (aZ (decide (z<0)) z.natAbs f).m)) (aZ (decide (z<0)) z.natAbs f).e=true
 ·rw[ap h];have hv:=J9 h;have hb:=sx (decide (z<0)) z.natAbs f;exact⟨hv,hb,aFl (vB hv hb) δ⟩
 simp_all[av,aO]
def OK(a b):vd (dX a b).1=true/\Ok0 (dX a b).1:=by
 grind[dX,xO,aO]
def ap1(a b):vd (qC a b).1=true/\Ok0 (qC a b).1:=by
 grind[qC,xO,aO]
theorem Kd{d}(h:vd d=true)(h0:O d.m≠0):ab d.m%2=1:=by
 obtain⟨h1,h2,h3,h4⟩:=FE h h0;cases hm:d.m with
 |nil=>grind
 |cons x l=>
  grind[ab]
def aa4{x y}(hx:x≠0)(hy:y≠0):ag x+ag y-2<ag (x*y):=by
 have h1:=fE hx;have h2:=fE hy;have h3:2^ (ag x-1)<=x:=mE.1 ω;have h4:2^ (ag y-1)<=y:=mE.1 ω;rw[mE,show ag x+ag y-2=(ag x-1)+(ag y-1)by omega,aE2];exact Nat.mul_le_mul h3 h4
theorem ap2{a b}(oa:Ok0 a)(ob:Ok0 b):YB a b=rV (dX a b):=by
 unfold YB dX;by_cases hv:vd a=true/\vd b=true
 ·obtain⟨va,vb⟩:=hv;rw[ap ⟨va,vb⟩,va,vb,aEW,ap rfl,←ajH oa ob va vb];by_cases h0:O a.m=0\/O b.m=0
  ·rw[ap h0];have:ab a.m*ab b.m=0:=by
    rcases h0 with h0|h0
    ·rw[List.length_eq_zero_iff.1 h0];exact Nat.zero_mul _
    ·rw[List.length_eq_zero_iff.1 h0];exact Nat.mul_zero _
   rw[this,kT];rfl
  ·rw[av h0];have a0:=fun h=>h0 (.inl h);have b0:=fun h=>h0 (.inr h);have x0:=dN va a0;have y0:=dN vb b0;by_cases hb:4096<ag (ab a.m)+ag (ab b.m)-1
   ·rw[ap hb];have h1:=aa4 x0 y0;have ho:ab a.m*ab b.m%2=1:=by grind[Nat.mul_mod,Kd]
    have ht:=ajG ho 0;rw[Nat.pow_zero,Nat.mul_one]at ht;obtain⟨g1,g2,g3,g4⟩:=tV (neg:=a.neg !=b.neg) (e:=a.e+b.e) (Nat.mul_ne_zero x0 y0);unfold cA;rw[av]
    ·rfl
    ·intro h2;rw[g1,ht,Nat.pow_zero,Nat.div_one]at h2;have h3:=(Ew h2 ω).1;omega
   simp_all[av,Oz]
 ·rw[av hv,av]
  ·rfl
  grind
def OL{a b}(oa:Ok0 a)(ob:Ok0 b):R 133 [af a,af b] []=some (rV (dX a b),[]):=by
 grind[ap2,apI]
def WL(m:Rd)(x:Ri):Rd:=if kl m<0 then x.hi else x.lo
def WM(m:Rd)(x:Ri):Rd:=if kl m<0 then x.lo else x.hi
def aho(c:Rd)(a b:Rd×Int)(p:Int):Ri:=if a.2=0/\b.2=0 then kD (dh c a.1 p false) (dh c b.1 p true)else bt
def Lw(c m:Rd)(x:Ri)(p:Int):Ri:=aho c (dX m (WL m x)) (dX m (WM m x)) p
def ap3{c m}{x}(oc:Ok0 c)(om:Ok0 m)(vm:vd m=true)(ox:OkI x){p}:R 258 [af c,af m,ae x,I p] []=some (ae (Lw c m x p),[]):=by
 refine au aau ?_;have hs:=tT om vm;have hw:=Lu;unfold Lw aho kD;simp only[af,ak]at hs;simp only[ae,ah,bt]at hw;have key:∀lo hi:Rd,lo=WL m x->hi=WM m x->Ok0 lo->Ok0 hi->fk false jj.rs jj.res 0 (am R (aA false) jj.body (iW [af c,af m,ae x,I p]) fun _=>.dead)=some (ae (if(dX m lo).2=0/\(dX m hi).2=0 then(if(dh c (dX m lo).1 p false).2=0/\(dh c (dX m hi).1 p true).2=0 then⟨(dh c (dX m lo).1 p false).1,(dh c (dX m hi).1 p true).1,false⟩else bt)else bt),[]):=by
  intro lo hi e1 e2 ol oh;have h1:=OL om ol;have h2:=OL om oh;have o1:=(OK m lo).2;have o2:=(OK m hi).2;generalize dX m lo=A at h1 o1⊢;generalize dX m hi=D at h2 o2⊢;have h3:=Ls oc o1 (p:=p);have h4:=Rg oc o2 (p:=p);generalize dh c A.1 p false=Y at h3⊢;generalize dh c D.1 p true=Z at h4⊢;obtain⟨A1,A2⟩:=A;obtain⟨D1,D2⟩:=D;obtain⟨Y1,Y2⟩:=Y;obtain⟨Z1,Z2⟩:=Z;unfold WL at e1;unfold WM at e2;simp only[rV,af,ak]at h1 h2 h3 h4;have hc:((kl m<0)=True/\lo=x.hi/\hi=x.lo)\/((kl m<0)=False/\lo=x.lo/\hi=x.hi):=by
   grind
  clear e1 e2;rcases hc with⟨e0,rfl,rfl⟩| ⟨e0,rfl,rfl⟩
  all_goals
   by_cases a1:A2=0
   ·have f1:=tt a1;by_cases a2:D2=0
    ·have f2:=tt a2;rw[ap ⟨a1,a2⟩];by_cases a3:Y2=0
     ·have f3:=tt a3;by_cases a4:Z2=0
      ·have f4:=tt a4;rw[ap ⟨a3,a4⟩];simp only[jj,af,ak,ae,ah,bt,go_sem,aFt,aEN,aEO,aEP,aFo,aFD,hs,e0,h1,h2,h3,h4,f1,f2,f3,f4]
      ·have f4:=ff a4;rw[av (fun h=>a4 h.2)];simp only[jj,af,ak,ae,ah,bt,go_sem,aFt,aEN,aEO,aEP,aFo,aFD,hs,e0,h1,h2,h3,h4,f1,f2,f3,f4,hw]
     ·have f3:(Y2=0)=False:=ff a3;rw[av (fun h=>a3 h.1)];simp only[jj,af,ak,ae,ah,bt,go_sem,aFt,aEN,aEO,aEP,aFo,aFD,hs,e0,h1,h2,h3,h4,f1,f2,f3,hw]
    ·have f2:(D2=0)=False:=ff a2;rw[av (fun h=>a2 h.2)];simp only[jj,af,ak,ae,ah,bt,go_sem,aFt,aEN,aEO,aEP,aFo,aFD,hs,e0,h1,h2,h3,h4,f1,f2,hw]
   ·have f1:(A2=0)=False:=ff a1;rw[av (fun h=>a1 h.1)];simp only[jj,af,ak,ae,ah,bt,go_sem,aFt,aEN,aEO,aEP,aFo,aFD,hs,e0,h1,h2,h3,h4,f1,hw]
 by_cases hm:kl m<0
 ·exact key _ _ rfl rfl (by unfold WL;rw[ap hm];exact ox.hi) (by unfold WM;rw[ap hm];exact ox.lo)
 ·exact key _ _ rfl rfl (by unfold WL;rw[av hm];exact ox.lo) (by unfold WM;rw[av hm];exact ox.hi)
def aec:∀l o,(∀t∈l,vd t.c=true/\Ok0 t.c)->(∀x∈o,∀d,x=some d->vd d=true/\Ok0 d)->∀x∈EE l o,∀d,x=some d->vd d=true/\Ok0 d
 |[],o,_,ho=>ho
 |t::l,o,hl,ho=>by
  unfold EE;refine aec l _ (fun u hu=>hl u (List.mem_cons_of_mem _ hu)) fun x hx d hd=>?_;rcases List.mem_or_eq_of_mem_set hx with h|h
  ·exact ho x h d hd
  ·rw[h]at hd;obtain rfl:=Option.some.inj hd;exact hl t (List.mem_cons_self ..)
def aed{a}(oa:OkP a)(hv:vp a=true):(∀d∈Lv a,vd d=true/\Ok0 d)/\O (Lv a)=a.vars.toNat+1:=by
 constructor
 ·intro d hd;simp only[Lv,odV,aFN]at hd;obtain⟨o,ho,rfl⟩:=hd;have:=aec a.terms (aER (a.vars.toNat+1) none) (fun t ht=>⟨(OJ hv ht).2.2.1,(oa.t t ht).c⟩) (fun x hx d hd=>by
   rw[List.eq_of_mem_replicate hx]at hd;exact nomatch hd) o ho
  cases o with
  |none=>exact aO
  |some d=>exact this d rfl
 ·simp[Lv,odV,Rh]
theorem asR(a l):dF (a::l) 0=some (.ipt a):=by simp[dF]
theorem asS(a b l):dF (a::b::l) 1=some (.ipt b):=by simp[dF]
def amZ{a}{dom}(oa:OkP a)(od:∀x∈dom,OkI x){p}(hf:(rT a dom&&bv p)=true)(hl:I1 a=true)(h1:a.vars=1){c m}{x}(hlin:Lv a=[c,m])(hdom:dom=[x]):
  R 197 [bj a,.sl 7 (cT dom),I p] []=some (ae (Lw c m x p),[]):=by
 refine au mD ?_;have h2:O dom<=100000:=by rw[hdom];exact(by decide:1<=100000)
 have hf1:=OG oa od h2 (p:=p);rw[hf]at hf1;have hL:=WK oa;unfold aa3 at hL;rw[ap hl,hlin]at hL;have hv:=by
  simp only[I1,aEV]at hl;exact hl.1
 obtain⟨k1,k2⟩:=aed oa hv;rw[hlin]at k1;have kc:=k1 c (List.mem_cons_self ..);have km:=k1 m (List.mem_cons_of_mem _ (List.mem_cons_self ..));have hn:=ap3 kc.2 km.2 km.1 (od x (by rw[hdom];exact List.mem_cons_self ..)) (p:=p);generalize Lw c m x p=z at hn⊢;subst hdom;have e1:=tt h1;simp only[bj,cT,aFr,aFB,ah]at hf1 hL;simp only[FF,IT,aFr,aFB,ak]at hL;simp only[af,ak,ae,ah]at hn;simp only[jd,mu,bj,cT,aFr,aFB,ae,ah,go_sem,aFt,aEN,aEO,aEP,aFo,aFD,hf1,hL,hn,e1,asR,asS]
def OM{z}{j:Nat}(h:(cA (fF z (-16384-j))).2=0):zI (cA (fF z (-16384-j))).1*2^j=z:=by
 unfold cA at h⊢;by_cases hr:rP (ag (ab (fF z (-16384-j)).m)) (fF z (-16384-j)).e=true
 ·rw[ap hr];unfold fF at hr⊢;by_cases h0:z.natAbs=0
  ·have:z=0:=ω
   rw[this,cS rfl,Int.zero_mul]
  ·obtain⟨g1,g2,g3,g4⟩:=tV (neg:=decide (z<0)) (e:=-16384-j) h0;obtain⟨t1,t2⟩:=Cj h0;have hp:ag (ab (aZ (decide (z<0)) z.natAbs (-16384-j)).m)≠0:=by
    grind[fE]
   have he:=Ew hr hp;rw[l7 h0];unfold zI mg;rw[aJ];have ht:(-16384- (j:Int)+(tz z.natAbs)+16384).toNat+j=tz z.natAbs:=ω
   generalize(-16384- (j:Int)+(tz z.natAbs)+16384).toNat=k at ht⊢;have hm:(((z.natAbs/2^tz z.natAbs*2^k):Int))*2^j=z.natAbs:=by
    have:z.natAbs/2^tz z.natAbs*2^k*2^j=z.natAbs:=by
     grind[aFj,aE2,aFd]
    grind
   grind
 grind
theorem aee{a b}(h:(qC a b).2=0):zI (qC a b).1=zI a+zI b:=by
 unfold qC at h⊢;split at h
 ·have:=OM (z:=zI a+zI b) (j:=0) h;grind
 omega
def ap4{a b}(h:(dX a b).2=0):zI (dX a b).1*2^16384=zI a*zI b:=by
 unfold dX at h⊢;split at h
 ·rename_i h1;rw[ap h1];exact OM (z:=zI a*zI b) (j:=16384) h
 omega
def oA(x:Ri)(p:Int):Ri:=if(bv p&&kI x)=true then kD (bY x.lo p false) (bY x.hi p true)else bt
def asT{q t}(h:dO q t<0):cp q<=cp t:=by
 unfold dO gH at h;omega
def aef{v}:∀l pr,FI v pr l=true->∀u∈l.getLast?,∀t∈l,cp t.exps<=cp u.exps
 |[],_,_,u,hu,_,_=>nomatch hu
 |[t],_,_,u,hu,w,hw=>by
  grind
 |t::s::l,pr,h,u,hu,w,hw=>by
  have h2:FI v (some t) (s::l)=true:=by
   simp_all[FI,aEV]
  have hu2:u∈ (s::l).getLast?:=γ
  have ih:=aef (s::l) (some t) h2 u hu2;rcases List.mem_cons.1 hw with h3|h3
  ·rw[h3];unfold FI at h2;simp only[aEV]at h2;have h4:=of_decide_eq_true h2.2.1;exact Int.le_trans (asT h4) (ih s (List.mem_cons_self ..))
  grind
def ap5{a}(h:I1 a=true):vp a=true/\∀t∈a.terms,cp t.exps<=1:=by
 simp only[I1,aEV,decide_eq_true_eq]at h;refine⟨h.1,fun t ht=>?_⟩;have h2:=h.2;unfold nH at h2;rw[ap h.1]at h2;cases hl:a.terms.getLast? with
 |none=>grind
 |some u=>
  rw[hl]at h2;exact Int.le_trans (aef a.terms none (Tv h.1).2.2.2 u ω t ht) h2
def ap6{t:Rt}(h:(O t.exps:Int)=1):∃e,t.exps=[e]:=by
 match t.exps,h with
 |[e],_=>grind
 |[],h=>grind
 |_::_::l,h=>grind
abbrev zb:List AV:=[B false,.emp,I 0]
@[go_sem] theorem aCo(l):(IT l).map (fj [a9,aR,a9])=IT l:=by
 refine vO fun x hx=>?_;simp only[IT,aFN]at hx;obtain⟨t,ht,rfl⟩:=hx;simp only[ak,go_sem]
theorem HZ{d}(h:vd d=true):cA d=(d,0):=by
 unfold cA;by_cases h0:O d.m=0
 ·rw[GY h h0];rfl
 simp_all[ap,FE]
theorem I2{d}(ok:Ok0 d)(h:vd d=true):aZ d.neg (ab d.m) d.e=d:=by
 have h1:=Kc ok h;obtain⟨g1,g2,g3,g4⟩:=dT h ok.lb;have hz:zI d=cG d.neg (mg d):=rfl;rw[hz,←ED]at h1;grind[mg,nR]
theorem aeg{N k}{neg}(ho:N%2=1)(hb:4096<ag N):cA (aZ neg (N*2^k) (-16384))=(aC,9):=by
 have h0:N≠0:=ω
 rw[nR];obtain⟨g1,g2,g3,g4⟩:=tV (neg:=neg) (e:=-16384+k) h0;have ht:=ajG ho 0;rw[Nat.pow_zero,Nat.mul_one]at ht;unfold cA;rw[av];intro h2;rw[g1,ht,Nat.pow_zero,Nat.div_one]at h2;have h3:=(Ew h2 ω).1;omega
def aa5{a b}(oa:Ok0 a)(ob:Ok0 b)(va:vd a=true)(vb:vd b=true)(na:O a.m≠0)(nb:O b.m≠0){e}(he:e=if b.e<a.e then b.e else a.e)(h:4097<aQ a-e)(hg:1<aQ a-aQ b):
  cA (fF (zI a+zI b) (-16384))=(aC,9)/\cA (fF (zI b+zI a) (-16384))=(aC,9):=by
 obtain⟨a1,a2,a3,a4⟩:=dT va oa.lb;obtain⟨b1,b2,b3,b4⟩:=dT vb ob.lb;have e1:=kJ va na;have e2:=kJ vb nb;have he1:-16384<=e/\e<=a.e/\e<=b.e/\(e=a.e\/e=b.e):=by
  omega
 have hne:=ω
 have z1:zI a=cG a.neg (ab a.m*2^ (a.e-e).toNat*2^ (e+16384).toNat):=by
  grind[zI,cG,mg,Ey]
 have z2:zI b=cG b.neg (ab b.m*2^ (b.e-e).toNat*2^ (e+16384).toNat):=by
  rw[show zI b=cG b.neg (mg b)from rfl,Ey he1.1 he1.2.2.1]
 have bx:(ag (ab a.m*2^ (a.e-e).toNat))=aQ a-e:=by
  grind[eB,dN]
 have by':(ag (ab b.m*2^ (b.e-e).toNat))=aQ b-e:=by
  grind
 have oX:=Kd va na;have oY:=Kd vb nb;have odd:(ab a.m*2^ (a.e-e).toNat+ab b.m*2^ (b.e-e).toNat) %2=1:=by
  rcases he1.2.2.2 with h1|h1
  ·omega
  ·obtain⟨k,hk⟩:∃k,(a.e-e).toNat=k+1:=⟨(a.e-e).toNat-1,by omega⟩;rw[show(b.e-e).toNat=0 by omega,hk,Nat.pow_zero,Nat.mul_one,aFJ,←aFj];omega
 rw[Int.add_comm (zI b),and_self,z1,z2];generalize ab a.m*2^ (a.e-e).toNat=x at bx odd⊢;generalize ab b.m*2^ (b.e-e).toNat=y at by' odd⊢;generalize(e+16384).toNat=k;have hx:2^ (ag x-1)<=x:=mE.1 ω;have hy:y<2^ (ag x-2):=by
  have h3:y<2^ag y:=bH.1 (aET _);grind[aFQ,aFu]
 have hp:2^ (ag x-1)=2^ (ag x-2)*2:=by
  rw[←aFJ];grind
 have hbig:∀N,x-y<=N->4096<ag N:=fun N hN=>by
  have h5:ag x-2<ag N:=mE.2 ω;omega
 have hsum:∀n z,fF (cG n (z*2^k)) (-16384)=aZ n (z*2^k) (-16384):=fun n z=>ED.symm;by_cases hs:a.neg=b.neg
 ·have hz:cG a.neg (x*2^k)+cG b.neg (y*2^k)=cG a.neg ((x+y)*2^k):=by
   rw[←hs,aFf];cases a.neg
   all_goals grind[wI,yC]
  grind[aeg]
 ·have hbn:b.neg=!a.neg:=by
   grind
  have hz:cG a.neg (x*2^k)+cG b.neg (y*2^k)=cG a.neg ((x-y)*2^k):=by
   grind[aMD,wI,yC]
  rw[hz,hsum];exact aeg ω (hbig _ (aET _))
noncomputable def vF:Cmd:=.seq (.dops [2,3,4,6,9,10] [fa 65 1 2,ld 66 1 65,fa 67 2 2,ld 68 1 67,cm 69 6,b2 70 .sub 68 69,ca 71 223 [.t 66,.t 70],fa 72 1 3,ld 73 1 72,fa 74 2 3,ld 75 1 74,cm 76 6,b2 77 .sub 75 76,ca 78 223 [.t 73,.t 77],cm 9 71,cm 10 78] [(6,8),(6,10)]) (.seq (.seq (.ops [2,3,4,6,9,10,83] [fa 79 0 2,ld 80 1 79,fa 81 0 3,ld 82 1 81,co 83 (.eqc false 0 (.t 80) (.t 82))]) (.cond (.t 83) (.seq (.ops [2,4,6,11] [cm 85 9,cm 86 10,ca 87 291 [.t 85,.t 86],cm 84 87,co 88 (.ext 0 (.t 84)),co 89 (.ext 1 (.t 84)),cm 11 88,cm 12 89]) (.seq (.ops [4,5] [fa 90 0 2,ld 91 1 90,cm 92 11,cm 93 6,ca 94 139 [.t 91,.t 92,.t 93],ca 95 192 [.t 94],co 96 (.ext 0 (.t 95)),co 97 (.ext 1 (.t 95)),sr 3 (.t 4) (.t 96),cm 5 97]) (.ret))) (.skip))) (.seq (.seq (.ops [2,3,4,6,9,10,101] [cm 98 9,cm 99 10,ca 100 222 [.t 98,.t 99],co 101 (.bin .lss (.t 100) (.c (I 0)))]) (.cond (.t 101) (.ops [2,4,6,9,10] [la 102 3 3,cm 103 10,cm 104 9,sr 3 (.t 2) (.t 102),cm 9 103,cm 10 104]) (.skip))) (.seq (.ops [2,4,6,13] [cm 106 9,cm 107 10,ca 108 292 [.t 106,.t 107],cm 105 108,co 109 (.ext 0 (.t 105)),co 110 (.ext 1 (.t 105)),cm 13 109,cm 14 110]) (.seq (.ops [4,5] [fa 111 0 2,ld 112 1 111,cm 113 13,cm 114 6,ca 115 139 [.t 112,.t 113,.t 114],ca 116 192 [.t 115],co 117 (.ext 0 (.t 116)),co 118 (.ext 1 (.t 116)),sr 3 (.t 4) (.t 117),cm 5 118]) (.ret)))))
theorem xZ:Dj=.seq (.ops [2,3,4] [bx 2 3 (.t 0),bx 3 3 (.t 1),al 4 [B false,.emp,I 0],co 5 (.mv (.c (I 0)))]) (.seq (.seq (.ops [2,3,4,24] [fa 15 1 2,ld 16 1 15,co 17 (.len false (.t 16)),co 18 (.bin .eql (.t 17) (.c (I 0))),cm 19 18,cg 20 19 false (.fadr 1 (.t 3)),⟨(some 21),(some (19,false)),.load 1 false (.t 20)⟩,cg 22 19 false (.len false (.t 21)),cg 23 19 false (.bin .eql (.t 22) (.c (I 0))),co 24 (.pick (.t 19) (.c (B true)) (.t 23))]) (.cond (.t 24) (.seq (.seq (.ops [2,3,4,28] [fa 25 1 2,ld 26 1 25,co 27 (.len false (.t 26)),co 28 (.bin .eql (.t 27) (.c (I 0)))]) (.cond (.t 28) (.ops [2,4] [la 29 3 3,sr 3 (.t 2) (.t 29)]) (.skip))) (.seq (.ops [4,5] [fa 30 0 2,ld 31 1 30,fa 32 1 2,ld 33 1 32,fa 34 2 2,ld 35 1 34,ca 36 139 [.t 31,.t 33,.t 35],sr 3 (.t 4) (.t 36),co 5 (.mv (.c (I 0)))]) (.ret))) (.skip))) (.seq (.ops [2,3,4,6] [fa 37 2 2,ld 38 1 37,fa 39 2 3,ld 40 1 39,co 41 (.mnx true (.t 38) [.t 40]),cm 6 41]) (.seq (.dops [2,3,4,6,7,8] [la 42 3 2,ca 43 218 [.t 42],la 44 3 3,ca 45 218 [.t 44],cm 7 43,cm 8 45] [(1,2)]) (.seq (.seq (.ops [2,3,4,6,63] [cm 46 7,cm 47 8,co 48 (.mnx false (.t 46) [.t 47]),cm 49 6,b2 50 .sub 48 49,co 51 (.bin .gtr (.t 50) (.c (I 4097))),cm 52 51,cg 53 52 true (.mv (.t 7)),cg 54 52 true (.mv (.t 8)),cg 55 52 true (.bin .sub (.t 53) (.t 54)),cg 56 52 true (.bin .gtr (.t 55) (.c (I 1))),cg 57 52 true (.mv (.t 56)),cg 58 57 false (.mv (.t 8)),cg 59 57 false (.mv (.t 7)),cg 60 57 false (.bin .sub (.t 58) (.t 59)),cg 61 57 false (.bin .gtr (.t 60) (.c (I 1))),cg 62 52 true (.pick (.t 57) (.c (B true)) (.t 61)),co 63 (.pick (.t 52) (.t 62) (.c (B false)))]) (.cond (.t 63) (.seq (.ops [4,5] [co 64 (.build [B false,.emp,I 0] []),sr 3 (.t 4) (.t 64),co 5 (.mv (.c (I 9)))]) (.ret)) (.skip))) vF)))):=rfl
def ajJ{a b}(oa:Ok0 a)(ob:Ok0 b)(va:vd a=true)(vb:vd b=true)(na:O a.m≠0)(nb:O b.m≠0){e}(he1:-16384<=e/\e<=a.e/\e<=b.e)(hX:aQ a-e<=5000)(hY:aQ b-e<=5000)(s)
  (h2:s 2=ac 2) (h3:s 3=ac 3) (h4:s 4=ac 4) (h6:s 6=I e):
  fk false [[a9,aR,a9],[]] [.cell 4 3 true,.t 5] 0 (am R (aA false) vF s (upd (upd (upd (fun _=>.dead) 2 (.bx (ak a))) 3 (.bx (ak b))) 4 (.bx [B false,.emp,I 0])))=some (rV (cA (fF (zI a+zI b) (-16384))),[]):=by
 obtain⟨a1,a2,a3,a4⟩:=dT va oa.lb;obtain⟨b1,b2,b3,b4⟩:=dT vb ob.lb;have e1:=kJ va na;have e2:=kJ vb nb;have w1:aG (a.e-e)=(((a.e-e).toNat:Nat):Int):=wi;have w2:aG (b.e-e)=(((b.e-e).toNat:Nat):Int):=wi;have z1:zI a=cG a.neg (ab a.m*2^ (a.e-e).toNat*2^ (e+16384).toNat):=by
  grind[zI,cG,mg,Ey]
 have z2:zI b=cG b.neg (ab b.m*2^ (b.e-e).toNat*2^ (e+16384).toNat):=by
  rw[show zI b=cG b.neg (mg b)from rfl,Ey he1.1 he1.2.2]
 have bx:ag (ab a.m*2^ (a.e-e).toNat)<=5000:=by
  grind[eB,dN]
 have by':ag (ab b.m*2^ (b.e-e).toNat)<=5000:=by
  grind[eB,dN]
 have l1:=GJ oa.lb a1 (k:=(a.e-e).toNat) ω (aEX (bk (k:=157) ω) δ);have l2:=GJ ob.lb b1 (k:=(b.e-e).toNat) ω (aEX (bk (k:=157) ω) δ);rw[z1,z2];generalize ab a.m*2^ (a.e-e).toNat=x at l1 bx⊢;generalize ab b.m*2^ (b.e-e).toNat=y at l2 by'⊢;have hsum:∀ (n:Bool) (z:Nat),aZ n z e=fF (cG n (z*2^ (e+16384).toNat)) (-16384):=fun n z=>by
  rw[←ED,nR,show-16384+((e+16384).toNat:Nat)=e by omega]
 have lx:O (ax x)<=157:=bk ω;have ly:O (ax y)<=157:=bk ω;have hq:Exq e:=⟨by omega,by omega⟩;have hcp:=tC (aH x) (aH y) ω ω;rw[aJ,aJ]at hcp;have chk:∀ (n:Bool) (z:Nat),ag z<=5001->R 139 [B n,lm (ax z),I e] []=some (af (aZ n z e),[])/\R 192 [af (aZ n z e)] []=some (rV (cA (aZ n z e)),[]):=fun n z hz=>by
  have hl:O (ax z)<=157:=bk ω;have c1:=l6 (neg:=n) (m:=ax z) (e:=e) (aH z) ω hq;rw[aJ]at c1;refine⟨c1,?_⟩;rw[Ar (sx n z e) (aEX (pq (k:=157) ω) δ)];exact congrArg (fun v=>some (v,[])) (Oz _)
 by_cases hs:a.neg=b.neg
 ·have p1:=ad0 (x:=x) (y:=y) bx by';obtain⟨c1,c2⟩:=chk a.neg (x+y) (Lq bx by');have hz:cG a.neg (x*2^ (e+16384).toNat)+cG b.neg (y*2^ (e+16384).toNat)=cG a.neg ((x+y)*2^ (e+16384).toNat):=by
   rw[←hs,aFf];cases a.neg
   all_goals grind[wI,yC]
  rw[hz,←hsum];generalize aZ a.neg (x+y) e=r at c1 c2⊢;generalize cA r=q at c2⊢;obtain⟨q1,q2⟩:=q;have hs2:(a.neg==b.neg)=true:=γ
  have hs3:(false != (a.neg==b.neg))=true:=γ
  simp only[rV,af,ak]at c1 c2;simp only[vF,rV,af,ak,go_sem,h2,h3,h4,h6,w1,w2,l1,l2,hs3,p1,c1,c2]
 ·have hs2:(a.neg==b.neg)=false:=by
   grind
  have hs3:(false != (a.neg==b.neg))=false:=γ
  have hbn:b.neg=!a.neg:=by
   grind
  have hb1:∀u v:Nat,ag u<=5000->ag (u-v)<=5001:=fun u v hu=>Cq (Nat.sub_le u v) (aEX hu δ);by_cases hlt:x<y
  ·have e5:(dM x y<0)=True:=tt (by simp_all[dM,ap]);have m1:=OA (x:=y) (y:=x) by' bx ω;obtain⟨c1,c2⟩:=chk b.neg (y-x) (hb1 _ _ by');have hz:cG a.neg (x*2^ (e+16384).toNat)+cG b.neg (y*2^ (e+16384).toNat)=cG b.neg ((y-x)*2^ (e+16384).toNat):=by
    grind[aMD,wI,yC]
   rw[hz,←hsum];generalize aZ b.neg (y-x) e=r at c1 c2⊢;generalize cA r=q at c2⊢;obtain⟨q1,q2⟩:=q;simp only[rV,af,ak]at c1 c2;simp only[vF,rV,af,ak,go_sem,h2,h3,h4,h6,w1,w2,l1,l2,hs3,hcp,e5,m1,c1,c2]
  ·have e5:(dM x y<0)=False:=ff (by unfold dM;omega);have m1:=OA (x:=x) (y:=y) bx by' ω;obtain⟨c1,c2⟩:=chk a.neg (x-y) (hb1 _ _ bx);have hz:cG a.neg (x*2^ (e+16384).toNat)+cG b.neg (y*2^ (e+16384).toNat)=cG a.neg ((x-y)*2^ (e+16384).toNat):=by
    grind[aMD,wI,yC]
   rw[hz,←hsum];generalize aZ a.neg (x-y) e=r at c1 c2⊢;generalize cA r=q at c2⊢;obtain⟨q1,q2⟩:=q;simp only[rV,af,ak]at c1 c2;simp only[vF,rV,af,ak,go_sem,h2,h3,h4,h6,w1,w2,l1,l2,hs3,hcp,e5,m1,c1,c2]
def aeh{a b}(oa:Ok0 a)(ob:Ok0 b)(va:vd a=true)(vb:vd b=true):R 242 [af a,af b] []=some (rV (cA (fF (zI a+zI b) (-16384))),[]):=by
 refine au aar ?_;by_cases a0:O a.m=0
 ·have e1:=aa ((O a.m:Int)=0);have hz:=GY va a0;obtain⟨b1,b2,b3,b4⟩:=dT vb ob.lb;have c1:=l6 (neg:=b.neg) (m:=b.m) (e:=b.e) ob.lb ω ⟨by omega,by omega⟩;have hr:=I2 ob vb;have hk:cA (fF (zI a+zI b) (-16384))=(b,0):=by
   simp_all[cS,Int.zero_add,Kc,HZ]
  rw[hr]at c1;rw[hk];simp only[af,ak]at c1;simp only[pn,Dj,rV,af,ak,go_sem,e1,c1]
 have e1:=aP ((O a.m:Int)=0);obtain⟨a1,a2,a3,a4⟩:=dT va oa.lb;by_cases b0:O b.m=0
 ·have e2:=aa ((O b.m:Int)=0);have c1:=l6 (neg:=a.neg) (m:=a.m) (e:=a.e) oa.lb ω ⟨by omega,by omega⟩;have hr:=I2 oa va;have hk:cA (fF (zI a+zI b) (-16384))=(a,0):=by
   simp_all[cS,Int.add_zero,Kc,HZ]
  rw[hr]at c1;rw[hk];simp only[af,ak]at c1;simp only[pn,Dj,rV,af,ak,go_sem,e1,e2,c1]
 have e2:=aP ((O b.m:Int)=0);obtain⟨b1,b2,b3,b4⟩:=dT vb ob.lb;have ta:=pW oa;have tb:=pW ob;have q1:=kJ va a0;have q2:=kJ vb b0;have p1:=fE (dN va a0);have p2:=fE (dN vb b0);simp only[af,ak]at ta tb;have g1:=fun h2 h3=>(aa5 oa ob va vb a0 b0 rfl h2 h3).1;have g2:=fun h2 h3=>(aa5 ob oa vb va b0 a0 rfl h2 h3).2;obtain⟨e,he⟩:∃e,(if b.e<a.e then b.e else a.e)=e:=⟨_,rfl⟩;have he2:(if a.e<b.e then a.e else b.e)=e:=by
  omega
 rw[he]at g1;rw[he2]at g2;have he1:-16384<=e/\e<=a.e/\e<=b.e:=by
  omega
 obtain⟨M,hM⟩:∃M,(if aQ a<aQ b then aQ b else aQ a)=M:=⟨_,rfl⟩;have w1:aG (M-e)=M-e:=i64_in _ ⟨by omega,by omega⟩;have w2:aG (aQ a-aQ b)=aQ a-aQ b:=i64_in _ ⟨by omega,by omega⟩;have w3:aG (aQ b-aQ a)=aQ b-aQ a:=i64_in _ ⟨by omega,by omega⟩;by_cases h1:4097<M-e
 ·have f1:=tt h1;by_cases h2:1<aQ a-aQ b
  ·have f2:=tt h2;rw[g1 ω h2];simp only[pn,xZ,rV,aC,af,ak,go_sem,e1,e2,he,ta,tb,hM,w1,w2,f1,f2]
  ·have f2:(1<aQ a-aQ b)=False:=ff h2;by_cases h3:1<aQ b-aQ a
   ·have f3:(1<aQ b-aQ a)=True:=tt h3;rw[g2 ω h3];simp only[pn,xZ,rV,aC,af,ak,go_sem,e1,e2,he,ta,tb,hM,w1,w2,w3,f1,f2,f3]
   omega
 ·have f1:(4097<M-e)=False:=ff h1;simp only[pn,xZ,rV,af,ak,go_sem,e1,e2,he,ta,tb,hM,w1,f1];exact ajJ oa ob va vb a0 b0 he1 ω ω _ Z Z Z Z
def ap7{a b}(oa:Ok0 a)(ob:Ok0 b):R 184 [af a,af b] []=some (rV (qC a b),[]):=by
 refine au aai ?_;have v1:=eC oa;have v2:=eC ob;simp only[af,ak]at v1 v2;unfold qC;cases va:vd a with
 |false=>
  rw[va]at v1;simp only[xd,rV,aC,af,ak,go_sem,v1]
 |true=>
  rw[va]at v1;cases vb:vd b with
  |false=>
   rw[vb]at v2;simp only[xd,rV,aC,af,ak,go_sem,v1,v2]
  |true=>
   rw[vb]at v2;have hs:=aeh oa ob va vb;simp only[rV,af,ak]at hs;simp only[xd,rV,af,ak,go_sem,v1,v2,hs]
theorem WN:∀a,tW a a=0
 |[]=>rfl
 |x::a=>by
  unfold tW;rw[ap (by unfold gH;simp),WN a]
theorem aei:∀ {a b},O a=O b->tW a b=0->a=b
 |[],[],_,_=>rfl
 |x::a,y::b,h,h2=>by
  unfold tW at h2;rcases uE x y with⟨g,e⟩| ⟨g,e⟩| ⟨g,e⟩<;>rw[e]at h2
  ·omega
  ·rw[g,aei (by simpa using h) h2]
  omega
 |[],_::_,h,_=>by grind
 |_::_,[],h,_=>by grind
theorem WO:∀ {a b},O a=O b->tW b a=-tW a b
 |[],[],_=>rfl
 |x::a,y::b,h=>by
  unfold tW;rcases uE x y with⟨g,e⟩| ⟨g,e⟩| ⟨g,e⟩<;>rcases uE y x with⟨g',e'⟩| ⟨g',e'⟩| ⟨g',e'⟩<;>rw[e,e']<;>first|omega| (simp;done)|skip
  exact WO (by simpa using h)
 |[],_::_,h=>by grind
 |_::_,[],h=>by grind
def aej:∀ {a b c},O a=O b->O b=O c->(tW a b<=0->tW b c<0->tW a c<0)/\(tW a b<0->tW b c<=0->tW a c<0)
 |[],[],[],_,_=>⟨fun _ h=>by omega,fun h _=>by omega⟩
 |x::a,y::b,z::c,h,h'=>by
  have ih:=aej (a:=a) (b:=b) (c:=c) γ γ;unfold tW;rcases uE x y with⟨g,e⟩| ⟨g,e⟩| ⟨g,e⟩<;>rcases uE y z with⟨g',e'⟩| ⟨g',e'⟩| ⟨g',e'⟩<;>rcases uE x z with⟨g2,e2⟩| ⟨g2,e2⟩| ⟨g2,e2⟩<;>rw[e,e',e2]<;>first|omega|skip
  all_goals first|exact ih|omega
 |[],[],_::_,_,h=>by grind
 |[],_::_,_,h,_=>by grind
 |_::_,[],_,h,_=>by grind
 |_::_,_::_,[],_,h=>by grind
theorem ajK(a):dO a a=0:=by
 simp_all[dO,ap,gH,WN]
def ap8{a b}(h:O a=O b)(h2:dO a b=0):a=b:=by
 unfold dO at h2;rcases uE (cp a) (cp b)with⟨g,e⟩| ⟨g,e⟩| ⟨g,e⟩<;>rw[e]at h2
 ·omega
 ·grind[aei]
 omega
theorem Ny{a b}(h:O a=O b):dO b a=-dO a b:=by
 unfold dO;rcases uE (cp a) (cp b)with⟨g,e⟩| ⟨g,e⟩| ⟨g,e⟩<;>rcases uE (cp b) (cp a)with⟨g',e'⟩| ⟨g',e'⟩| ⟨g',e'⟩<;>rw[e,e']<;>first|omega| (simp;done)|skip
 grind[WO]
def Vr{a b c}(h:O a=O b)(h':O b=O c):(dO a b<=0->dO b c<0->dO a c<0)/\(dO a b<0->dO b c<=0->dO a c<0):=by
 have ih:=aej (a:=c) (b:=b) (c:=a) h'.symm h.symm;unfold dO;rcases uE (cp a) (cp b)with⟨g,e⟩| ⟨g,e⟩| ⟨g,e⟩<;>rcases uE (cp b) (cp c)with⟨g',e'⟩| ⟨g',e'⟩| ⟨g',e'⟩<;>rcases uE (cp a) (cp c)with⟨g2,e2⟩| ⟨g2,e2⟩| ⟨g2,e2⟩<;>rw[e,e',e2]<;>first|omega|skip
 all_goals first|exact⟨fun x y=>ih.2 y x,fun x y=>ih.1 y x⟩|omega
structure VT (v:Int) (t:Rt):Prop where
 c:Ok0 t.c
 len:(O t.exps:Int)=v
 v8:v<=8
 vc:vd t.c=true
 nz:O t.c.m≠0
 b:∀e∈t.exps,0<=e/\e<=32
 d:cp t.exps<=32
def VT.sm{v}{t}(h:VT v t):sm t.exps:=⟨by have:=h.len;have:=h.v8;omega,h.b⟩
theorem VT.ok{v}{t}(h:VT v t):OkT t:=⟨h.c,by have:=h.len;have:=h.v8;omega⟩
theorem VT.l2{v}{t q}(h:VT v t)(h2:VT v q):O t.exps=O q.exps:=by have:=h.len;have:=h2.len;omega
structure Cl (v:Int) (l:List Rt):Prop where
 t:∀t∈l,VT v t
 s:l.Pairwise fun a b=>dO a.exps b.exps<0
theorem Cl.nil(v):Cl v []:=⟨(fun _ h=>nomatch h),List.Pairwise.nil⟩
def Cl.cons{v}{q}{l}(h:Cl v (q::l)):VT v q/\(∀t∈l,dO q.exps t.exps<0)/\Cl v l:=
 ⟨h.t q σ,(List.pairwise_cons.1 h.s).1,fun t ht=>h.t t γ,(List.pairwise_cons.1 h.s).2⟩
theorem Cl.mk'{v}{q}{l}(h1:VT v q)(h2:∀t∈l,dO q.exps t.exps<0)(h3:Cl v l):Cl v (q::l):=
 ⟨fun t ht=>(List.mem_cons.1 ht).elim (fun e=>e▸h1) (h3.t t),List.pairwise_cons.2 ⟨h2,h3.s⟩⟩
def ajL{v}(hv:v<=8):∀l pr,(∀t∈l,OkT t)->FI v pr l=true->Cl v l/\∀q,pr=some q->O q.exps=v->∀t∈l,dO q.exps t.exps<0
 |[],pr,_,_=>⟨Cl.nil v,fun _ _ _ t ht=>by grind⟩
 |t::l,pr,ok,h=>by
  unfold FI at h;simp only[aEV]at h;obtain⟨h1,h2,h3⟩:=h;obtain⟨g1,g2⟩:=ajL hv l (some t) (fun x hx=>ok x γ) h3;obtain⟨k1,k2,k3,k4,k5⟩:=HX h1;have vt:VT v t:=⟨(ok t σ).c,k1,hv,k2,k3,EC k4,k5⟩;have gt:=g2 t rfl k1;refine⟨Cl.mk' vt gt g1,fun q hq hl x hx=>?_⟩;subst hq;have h4:=of_decide_eq_true h2;rcases List.mem_cons.1 hx with rfl|hx
  ·omega
  ·exact(Vr ω (vt.l2 (g1.t x hx))).1 ω (gt x hx)
theorem gw{a}(oa:OkP a)(h:vp a=true):Cl a.vars a.terms/\0<=a.vars/\a.vars<=8/\O a.terms<=500:=by
 unfold vp at h;simp only[aEV,decide_eq_true_eq]at h;exact⟨(ajL h.2.1 _ none oa.t h.2.2.2).1,h.1,h.2.1,h.2.2.1⟩
theorem ajM{v}:∀l pr,Cl v l->(∀q,pr=some q->∀t∈l,dO q.exps t.exps<0)->FI v pr l=true
 |[],pr,_,_=>by grind[FI]
 |t::l,pr,c,h=>by
  obtain⟨c1,c2,c3⟩:=c.cons;unfold FI;simp only[aEV];refine⟨?_,?_,ajM l (some t) c3 fun q hq=>by grind⟩
  ·unfold Ts;simp only[aEV,decide_eq_true_eq];refine⟨c1.len,c1.vc,c1.nz,?_,c1.d⟩;rw[aFS,List.any_eq_false];intro e he;have:=c1.b e he;grind[HW]
  ·unfold ahm;grind
theorem Lx{v}{l}(h:Cl v l)(h0:0<=v)(h8:v<=8)(hl:O l<=500):vp ⟨v,l⟩=true:=by
 simp_all[vp,aEV,decide_eq_true_eq,ajM]
theorem pX{v}{l}(h:Cl v l):OkP ⟨v,l⟩:=⟨fun t ht=>(h.t t ht).ok⟩
def dq:List Rt->List Int->Nat
 |[],_=>0
 |q::l,x=>if dO q.exps x<0 then dq l x+1 else 0
def wJ:List Rt->Rt->Option (List Rt)
 |[],t=>some [t]
 |q::l,t=>if dO q.exps t.exps<0 then(wJ l t).map (q::·)else if dO q.exps t.exps=0 then(if(qC q.c t.c).2=0 then some (if(qC q.c t.c).1.m.length=0 then l else⟨q.exps,(qC q.c t.c).1⟩::l)else none)else some (t::q::l)
theorem Vs:∀l x,dq l x<=O l
 |[],x=>aET _
 |q::l,x=>by
  unfold dq;split
  all_goals simp_all[Nat.succ_le_succ,Vs,aE9]
theorem aek:∀ {l} {x} {i} {q},i<dq l x->l[i]?=some q->dO q.exps x<0
 |[],x,i,q,h,_=>by grind
 |p::l,x,i,q,h,hq=>by
  unfold dq at h;split at h
  ·cases i with
   |zero=>grind
   |succ i=>exact aek (l:=l) (i:=i) ω γ
  omega
def Vt:∀ {l} {x} {q},l[dq l x]?=some q->0<=dO q.exps x
 |[],x,q,h=>by grind
 |p::l,x,q,h=>by
  unfold dq at h;split at h
  ·exact Vt (l:=l) γ
  grind
def ap9{v}{l}{x}(c:Cl v l)(hx:O x=v){i}{q}(hi:dq l x<i)(h:l[i]?=some q):0<dO q.exps x:=by
 have hlt:=(List.getElem?_eq_some_iff.1 h).1;have h1:l[dq l x]?=some l[dq l x]:=aE1 ω;have h2:=Vt h1;have h3:=(List.getElem?_eq_some_iff.1 h).2;have h4:dO (l[dq l x]).exps q.exps<0:=by
  rw[←h3];exact List.pairwise_iff_getElem.1 c.s _ _ ω hlt hi
 have v1:=c.t _ (aFg (by omega:dq l x<O l));have v2:=c.t q (aE6 h);generalize l[dq l x]=p at*
 have l1:O x=O p.exps:=by have:=v1.len;omega
 have h5:=(Vr l1 (v1.l2 v2)).1 (by grind[Ny]) h4;rw[Ny (by have:=v2.len;omega)];omega
theorem ael:∀l t,wJ l t=match l[dq l t.exps]? with
  |none=>some (l.take (dq l t.exps)++t::l.drop (dq l t.exps))
  |some q=>if dO q.exps t.exps=0 then(if(qC q.c t.c).2=0 then some (if(qC q.c t.c).1.m.length=0 then l.take (dq l t.exps)++l.drop (dq l t.exps+1)else l.set (dq l t.exps) ⟨q.exps,(qC q.c t.c).1⟩)else none)else some (l.take (dq l t.exps)++t::l.drop (dq l t.exps))
 |[],t=>rfl
 |q::l,t=>by
  unfold wJ dq;by_cases h:dO q.exps t.exps<0
  ·simp only[ap h,List.getElem?_cons_succ];rw[ael l t];cases l[dq l t.exps]? with
   |none=>rfl
   |some p=>
    simp only[];split
    ·split
     ·split<;>rfl
     ·rfl
    ·rfl
  grind
theorem ON{v}:∀ {l l'} {t},Cl v l->VT v t->wJ l t=some l'->Cl v l'/\∀q,O q=v->(∀x∈l,dO q x.exps<0)->dO q t.exps<0->∀x∈l',dO q x.exps<0
 |[],l',t,c,vt,h=>by
  cases h;grind[Cl.mk']
 |p::l,l',t,c,vt,h=>by
  obtain⟨c1,c2,c3⟩:=c.cons;unfold wJ at h;split at h
  ·rename_i h1;rw[aEU]at h;obtain⟨l2,h2,rfl⟩:=h;obtain⟨g1,g2⟩:=ON c3 vt h2;refine⟨Cl.mk' c1 (g2 p.exps c1.len c2 h1) g1,fun q hq k1 k2 x hx=>?_⟩;grind
  ·split at h
   ·split at h
    ·cases h;split
     ·grind
     ·rename_i h4;obtain⟨a1,a2⟩:=ap1 p.c t.c;refine⟨Cl.mk' ⟨a2,c1.len,c1.v8,a1,h4,c1.b,c1.d⟩ c2 c3,fun q hq k1 k2 x hx=>?_⟩;grind
    grind
   ·cases h;have h3:dO t.exps p.exps<0:=by
     rw[Ny (c1.l2 vt)];omega
    refine⟨Cl.mk' vt (fun x hx=>?_) c,fun q hq k1 k2 x hx=>?_⟩
    ·rcases List.mem_cons.1 hx with rfl|hx
     ·omega
     ·exact(Vr (vt.l2 c1) (c1.l2 (c3.t x hx))).1 ω (c2 x hx)
    grind
def Rj:∀ {l l'} {t},wJ l t=some l'->O l'<=O l+1
 |[],l',t,h=>by cases h;simp
 |p::l,l',t,h=>by
  unfold wJ at h;split at h
  ·rw[aEU]at h;obtain⟨l2,h2,rfl⟩:=h;simpa using Rj h2
  grind
theorem Rk:∀ {l} {t},(∀q∈l,dO q.exps t.exps<0)->wJ l t=some (l++[t])
 |[],t,_=>rfl
 |p::l,t,h=>by
  unfold wJ;rw[ap (h p σ),Rk fun q hq=>h q (by simp[hq])];rfl
def lB:List Rt->List Rt->Option (List Rt)
 |l,[]=>some l
 |l,t::ts=>(wJ l t).bind fun l'=>lB l' ts
theorem aa6:∀ts us l,lB l (ts++us)=(lB l ts).bind fun l'=>lB l' us
 |[],us,l=>rfl
 |t::ts,us,l=>by
  show(wJ l t).bind _=((wJ l t).bind _).bind _;cases wJ l t with
  |none=>rfl
  |some l'=>exact aa6 ts us l'
def Cy{v}:∀ {ts l l'},Cl v l->(∀t∈ts,VT v t)->lB l ts=some l'->Cl v l'/\O l'<=O l+O ts
 |[],l,l',c,_,h=>by cases h;grind
 |t::ts,l,l',c,vt,h=>by
  unfold lB at h;rw[aEQ]at h;obtain⟨l2,h2,h3⟩:=h;obtain⟨g1,g2⟩:=Cy (ON c (vt t σ) h2).1 (fun x hx=>vt x γ) h3;have:=Rj h2;grind
theorem aa7{v}:∀ {ts l},Cl v (l++ts)->lB l ts=some (l++ts)
 |[],l,_=>by simp[lB]
 |t::ts,l,c=>by
  have h1:wJ l t=some (l++[t]):=Rk fun q hq=>by
   have:=List.pairwise_append.1 c.s;grind
  unfold lB;rw[h1];show lB (l++[t]) ts=_;rw[aa7 (v:=v) γ,aFO];rfl
section
variable {call:j8} {md:Mode} {s:aM} {h:aj}
def aCp(d k x y rest):aK call md (⟨some d,none,.cpy k x y⟩::rest) s h=bG (eH md.nm s (some d) (Ul h k (ev s x) (ev s y))) (aK call md rest):=θ _
def azZ(d k x lo hi rest):aK call md (⟨some d,none,.slcM k x lo hi⟩::rest) s h=bG (eH md.nm s (some d) (Of h k (ev s x) (evo s lo) (evo s hi))) (aK call md rest):=θ _
def aCq(d k z x rest):aK call md (⟨d,none,.clr k z x⟩::rest) s h=bG (eH md.nm s d (Um h k z (ev s x))) (aK call md rest):=θ _
def az0(d k b z x n rest):aK call md (⟨some d,none,.appz k b z x n⟩::rest) s h=bG (eH md.nm s (some d) (Iv h d k b z (ev s x) (ev s n))) (aK call md rest):=θ _
def az1(d x rest):aK call md (⟨some d,none,.take x⟩::rest) s h=bG (eH md.nm s (some d) (R2 h d (ev s x))) (aK call md rest):=θ _
def aya(d f zas rest):aK call md (⟨some d,none,.callC f zas⟩::rest) s h=bG (eH md.nm s (some d) ((bF call md h d (zas.map (ev s)) (ev s f)).bind (CR d))) (aK call md rest):=θ _
def avT(d k z n ps rest):aK call md (⟨some d,none,.buildC k z n ps⟩::rest) s h=bG (eH md.nm s (some d) (((gB k h (aER n z) (ps.map fun p=>(p.1,ev s p.2))).bind fun q=>dH q.2.1 d k q.1 n q.2.2).bind Ix)) (aK call md rest):=θ _
def auQ(d k z n ps):step call md d (.buildC k z n ps) s h=((gB k h (aER n z) (ps.map fun p=>(p.1,ev s p.2))).bind fun q=>dH q.2.1 d k q.1 n q.2.2).bind Ix:=θ _
def auR(ps acc d k z n qs rest):dK call md ps acc (⟨some d,none,.buildC k z n qs⟩::rest) s h=lh call md ps acc rest s (some d) (fun _=>if(qs.all fun p=>dat (ev s p.2))=true then some ([],[du d])else none) (((gB k h (aER n z) (qs.map fun p=>(p.1,ev s p.2))).bind fun q=>dH q.2.1 d k q.1 n q.2.2).bind Ix):=gk _ _ _ _ rfl
def ayb(d k z n qs h'):jl d (.buildC k z n qs) s h h'=if(qs.all fun p=>dat (ev s p.2))=true then some ([],[du d])else none:=θ _
def ayc(id k lo n h ks):Ix (.rsl id none k lo n,h,ks)=(qX h id k lo n (h id)).map (fun q=>(q.1,q.2.1,ks++q.2.2)):=θ _
def az2(ps acc d k x y rest):dK call md ps acc (⟨some d,none,.cpy k x y⟩::rest) s h=lh call md ps acc rest s (some d) (fun _=>none) (Ul h k (ev s x) (ev s y)):=gk _ _ _ _ rfl
def az3(ps acc d k b x y rest):dK call md ps acc (⟨some d,none,.app k b x y⟩::rest) s h=lh call md ps acc rest s (some d) (fun _=>none) (Qh h d k b (ev s x) (ev s y)):=gk _ _ _ _ rfl
def avU(ps acc d f zas rest):dK call md ps acc (⟨some d,none,.callC f zas⟩::rest) s h=lh call md ps acc rest s (some d) (fun _=>MB d h (sF (zas.map (ev s)) (ev s f))) ((bF call md h d (zas.map (ev s)) (ev s f)).bind (CR d)):=gk _ _ _ _ rfl
def ayd(d h l):MB d h l=if l.all dat=true then some ([],[2000+8*d])else none:=θ _
def aCr(d k r h ks):CR d (.sl k r,h,ks)=some (.sl k r,h,ks):=θ _
def az4(d h ks):CR d (.emp,h,ks)=some (.emp,h,ks):=θ _
def az5(d id k lo n h ks):CR d (.rsl id none k lo n,h,ks)=if id=2000+8*d then(qX h id k lo n (h id)).map (fun q=>(q.1,q.2.1,ks++q.2.2))else none:=θ _
def aCs(h k id k' lo n y):Ul h k (.rsl id none k' lo n) y=(YT y).bind fun l=>(zS h k (YS n y)).bind fun ys=>YV h id k k' lo n l ys (h id):=θ _
def aCt(k r):YT (.sl k r)=some (O r):=θ _
def az6(id sub k lo n):YT (.rsl id sub k lo n)=some n:=θ _
def aCu(m k r):YS m (.sl k r)=.sl k (r.take m):=θ _
def az7(m id sub k lo n):YS m (.rsl id sub k lo n)=.rsl id sub k lo (min m n):=θ _
def aCv(h id k lo n l ys r):YV h id k k lo n l ys (.ar k r)=if lo<=O r/\O ys=min l n then some (.v (.int .i64 (O ys)),upd h id (.ar k (r.take lo++ys++r.drop (lo+O ys))),[])else none:=by simp[YV]
def az8(h k id l0 n lo hi):Of h k (.rsl id none k l0 n) lo hi=RZ h k id l0 lo hi (h id):=by simp[Of]
def az9(h k id l0 lo hi r):RZ h k id l0 lo hi (.ar k r)=if hi.isSome=true/\l0<=O r then(nc (O r-l0) lo hi none).map fun p=>(.rsl id none k (l0+p.1) (p.2-p.1),h,[])else none:=by simp[RZ]
def aCw(h k z id lo n):Um h k z (.rsl id none k lo n)=YW h k id lo n z (h id):=by simp[Um]
def aCx(h k id lo n z r):YW h k id lo n z (.ar k r)=if lo+n<=O r then some (.tup [],upd h id (.ar k (r.take lo++aER n z++r.drop (lo+n))),[])else none:=by simp[YW]
def aAa(h d k b z id i c m):Iv h d k b z (.rsc id k 0 i c) (.v (.int .i64 m))=if 0<m/\c<i+m.toNat then R1 h d k b id i m.toNat z (h id)else none:=by simp[Iv]
def aAb(h d k b id i m z r):R1 h d k b id i m z (.ar k r)=if i<=O r/\(i+m)*b<=140737488355328 then dH h d k (r.take i++aER m z) (i+m) []else none:=by simp[R1]
def aCy(id k lo n c):uF false (.rsc id k lo n c)=some (I n):=θ _
def aCz(id k lo n c):Uh (.rsc id k lo n c)=some (I c):=θ _
def aCA(k id l0 n c lo hi mx):gA k (.rsc id k l0 n c) lo hi mx=YN k id l0 n c lo hi mx:=by simp[gA]
def aCB(k id l0 n c x):YN k id l0 n c none (some x) none=(mS n c (some x)).map fun r=>.rsc id k l0 r c:=θ _
def aCC(k id l0 n c x hi):YN k id l0 n c (some x) hi none=(nc n (some x) hi none).map fun p=>.rsl id none k (l0+p.1) (p.2-p.1):=θ _
def aCD(ks id k lo n c):yc ks (.rsc id k lo n c)=if lF ks id none=true then .any else .rsc id k lo n c:=θ _
def aAc(h d id k i j):R2 h d (.ref id none k i j)=Yt h d id (i*k+j) (h id):=θ _
def aAd(h d id p cs):Yt h d id p (.bx cs)=Og h d id p cs cs[p]?:=θ _
def aye(h d id p cs k r):Og h d id p cs (some (.osl k r))=dH (upd h id (.bx (cs.set p .any))) d k r (O r) [(id,true)]:=θ _
def ayf(h d id p cs):Og h d id p cs (some .emp)=some (.emp,h,[]):=θ _
def aAe(nm)(s h):D4 nm [] s h=some ⟨s,h⟩:=θ _
def ayg(nm)(i l s h):D4 nm (i::l) s h=if 200000<=i then(Up (i-200000) s h (s (i-200000))).bind (fun r=>if vZ nm r.2.2 then D4 nm l r.1 r.2.1 else none)else if 100000<=i then D4 nm l s (KB h (s (i-100000)))else(Uo i s h (s i)).bind fun r=>if vZ nm r.2.2 then D4 nm l r.1 r.2.1 else none:=θ _
def avV(ks):vZ false ks=true:=θ _
def aCE(i s h id k lo n):Up i s h (.rsl id none k lo n)=MC i s h id k lo n (h id):=θ _
def aCF(i s h id k lo n c):Up i s h (.rsc id k lo n c)=MC i s h id k lo n (h id):=θ _
def aCG(i s h id k lo n r):MC i s h id k lo n (.ar k r)=if lo=0/\bu i=false/\bS (h i)=true then some (upd (ng [(id,false)] s) i (.rsl i none k 0 n),upd (upd h id .dead) i (.ar k r),[(id,false)])else none:=by simp[MC]
def aAf(h id k lo n):KB h (.rsl id none k lo n)=(match h id with| .ar k rows=>upd h id (.ar k (rows.take (lo+n)))|_=>h):=θ _
def aCH(nm)(s h):ye nm 0 s h=some ⟨s,h⟩:=θ _
def aCI(nm)(i s h):ye nm (i+1) s h=(Wa i s h (s i)).bind fun r=>if vZ nm r.2.2 then some ⟨r.1,r.2.1⟩else none:=θ _
def aCJ(i s h):Wa i s h .emp=some (s,h,[]):=θ _
def aCK(i s h id p k lo n):Wa i s h (.rsl id (some p) k lo n)=if bu i=false then ghO i s h id p k lo n (h id)else none:=θ _
def aD6(i s h id p k lo n cs):ghO i s h id p k lo n (.bx cs)=R8 i s h id p k lo n cs cs[p]?:=θ _
def aCL(i s h id p k lo n cs r):R8 i s h id p k lo n cs (some (.osl k r))=if lo=0/\n=O r/\bS (h i)=true then some (upd (ng [(id,true)] s) i (.rsl i none k 0 n),upd (upd h id (.bx (cs.set p .any))) i (.ar k r),[(id,true)])else none:=by simp[R8]
def aCM(m g ps l):ami call md m g ps l s h=bG (dK call md ps [] (l.take m) s h) fun s h=>bG (ye md.nm g s h) (aK call md (l.drop m)):=θ _
attribute [go_sem] aCp azZ aCq az0 az1 aya avT auQ auR ayb ayc az2 az3 avU ayd aCr az4 az5 aCs aCt az6 aCu az7 aCv az8 az9 aCw aCx aAa aAb aCy aCz aCA aCB aCC aCD aAc aAd aye ayf aAe ayg avV aCE aCF aCG aAf aCH aCI aCJ aCK aD6 aCL aCM
end
def aem{t}{x}(ht:sm t.exps)(hx:sm x)(hl:O t.exps=O x):R 181 [.agg (dE t),.sl 1 (aY x)] []=some (I (dO t.exps x),[]):=by
 refine au Jr ?_;have ho:=aa2 ht hx hl;simp only[rR,dE,go_sem,ho]
def aqa{v}{l}{x}(c:Cl v l)(hx:sm x)(hl:O x=v)(h2:O l<=1000000):∀k i j,j-i<=k->i<=dq l x->dq l x<=j->j<=O l->∀s h,s 0=.sl 4 (aU l)->s 1=.sl 1 (aY x)->s 2=.fn 181 [] []->s 8=I (O l)->s 9=I i->s 10=I j->
  ao 0 [0,1,2,8,9] (aB (am R (aA false) cj) [0,1,2,8,9,10] [] s h)=some (.normal,⟨upd (upd (upd (upd (upd ce 9 (I (dq l x))) 8 (I (O l))) 2 (.fn 181 [] [])) 1 (.sl 1 (aY x))) 0 (.sl 4 (aU l)),fun _=>.dead⟩):=by
 intro k;induction k with
 |zero=>
  intro i j hk hi hj hn s h h0 h1 h2' h8 h9 h10;have e1:=aP (i< (j:Int));obtain rfl:i=dq l x:=ω
  rw[ai];simp only[cj,go_sem,h0,h1,h2',h8,h9,h10,e1]
 |succ k ih=>
  intro i j hk hi hj hn s h h0 h1 h2' h8 h9 h10;by_cases hij:i<j
  ·have e1:=aa (i< (j:Int));have e2:aG (i+j)=(i+j:Nat):=wi;have hlt:(i+j)/2<O l:=ω
   have g1:IntKind.u64.wrap ((i+j:Nat))=((i+j:Nat):Int):=iH rfl ω;have g2:((1:Int)<0)=False:=ff δ;have g3:Int.fdiv ((i+j:Nat):Int) (2^ (min (Int.toNat 1) 64))=(((i+j)/2:Nat):Int):=by
    grind
   have g4:aG (((i+j)/2:Nat):Int)=(((i+j)/2:Nat):Int):=wi;have e3:=kV rfl (aE1 hlt);have q:=c.t _ (aFg hlt);have hc:=aem q.sm hx (by have:=q.len;omega);have p1:dO (l[(i+j)/2]).exps x<0->(i+j)/2<dq l x:=fun ho=>by
    rcases Nat.lt_trichotomy ((i+j)/2) (dq l x)with h|h|h
    ·omega
    ·have:=Vt (l:=l) (x:=x) (q:=l[(i+j)/2]) γ;omega
    ·have:=ap9 c hl h (aE1 hlt);omega
   have p2:¬dO (l[(i+j)/2]).exps x<0->dq l x<=(i+j)/2:=fun ho=>by
    grind[absurd,aek]
   have i1:=ih ((i+j)/2+1) j ω;have i2:=ih i ((i+j)/2) ω hi;generalize l[(i+j)/2]=t at e3 q hc p1 p2;rw[ai];generalize aB _ _ _=L at i1 i2⊢;simp only[dE]at hc e3;by_cases ho:dO t.exps x<0
   ·have e4:=tt ho;have e5:aG ((((i+j)/2:Nat):Int)+1)=(((i+j)/2+1:Nat):Int):=wi;have:=p1 ho;simp only[cj,go_sem,h0,h1,h2',h8,h9,h10,e1,e2,g1,g2,g3,g4,e3,hc,e4,e5];exact i1 ω hj hn _ _ Z Z Z Z Z Z
   ·have e4:=ff ho;have:=p2 ho;simp only[cj,go_sem,h0,h1,h2',h8,h9,h10,e1,e2,g1,g2,g3,g4,e3,hc,e4];exact i2 this ω _ _ Z Z Z Z Z Z
  grind
def Nz(l:List Rt)(x:List Int):Bool:=match l[dq l x]? with
 |some q=>decide (dO q.exps x=0)
 |none=>false
def ahp{v}{l}{x}(c:Cl v l)(hx:sm x)(hl:O x=v)(h2:O l<=1000000):R 180 [.sl 4 (aU l),.sl 1 (aY x),.fn 181 [] []] []=some (.tup [I (dq l x),B (Nz l x)],[]):=by
 refine Eu qV qU (hH false) rfl ?_;have h3:=aqa c hx hl h2 (O l) 0 (O l) ω (aE9 _) (Vs l x) (aET _);simp only[ez,iP,go_sem];rw[h3 _ _ Z Z Z Z Z Z];unfold Nz;cases hq:l[dq l x]? with
 |none=>
  have:=List.getElem?_eq_none_iff.1 hq;have e1:=aP ((dq l x)< (O l:Int));simp only[go_sem,e1]
 |some q=>
  have hlt:=(List.getElem?_eq_some_iff.1 hq).1;have e1:=aa ((dq l x)< (O l:Int));have vq:=c.t q (aE6 hq);have hc:=aem vq.sm hx (by have:=vq.len;omega);have e3:=kV rfl hq;simp only[dE]at hc e3;by_cases ho:dO q.exps x=0
  ·have e4:=tt ho;simp only[go_sem,e1,e3,hc,e4,decide_true]
  ·have e4:=ff ho;simp only[go_sem,e1,e3,hc,e4,decide_false]
def WP{d}(hn:O d.m≠0)(h1:O d.m<=100000):R 183 [af d] []=some (af d,[]):=by
 refine au X5 ?_;have hc:=HO (m:=d.m) (fun h=>hn γ) h1;simp only[Ed,af,ak,go_sem,hc]
theorem aen{h}{d id p n}{cs}{rows}{x}(hh:h id=.bx cs)(hp:cs[p]?=some (.osl 4 rows))(hn:n=O rows)(hx:∃r,x=.sl 1 r):
  bF R (aA false) h d [.rsl id (some p) 4 0 n,x,.fn 181 [] []] (.fn 180 [] [])=(R 180 (bC [[.o 5 [aR,a9,aR,a9]],[aR],[]] [.sl 4 rows,x,.fn 181 [] []]) []).bind (YX h):=by
 obtain⟨r,rfl⟩:=hx;unfold bF
 simp_all[ap,lH,iT,R4,R5,Un,afP,CO,ni,BA,kN,aE5,aE8,iG]
theorem aa8(o):az [o]=upd (fun _=>.dead) 1000 o:=by
 unfold az upd;grind
def tE{f}{fd}{args}{o}{r}(hE:cB.E f=none)(hC:cB.C f=some fd)(hk:cB.md.keep f=false)(h1:O args=fd.np)
  (hz:fk false fd.rs fd.res 1 (am R (aA false) fd.body (iW args) (upd (fun _=>.dead) 1000 o))=some r):R f args [o]=some r:=by
 grind[Na,aa8]
theorem Tw{f}{g}{args}{hs}(hE:cB.E f=some g):R f args hs=g args hs:=BC hE
def WQ:R 134 [.sl 1 []] []=some (.sl 1 [],[]):=by
 rw[Tw (g:=clF) κ];rfl
def WR{x}{l}(h:O l<=1000000):R 134 [.sl 1 (aY (x::l))] []=some (.osl 1 (aY (x::l)),[]):=by
 rw[Tw (g:=clF) κ];show(if((O (aY l)+1)*8<=140737488355328)then _ else _)=_;rw[ap (by grind[qW])];rfl
def oB(c:AV)(l:List Rt):Prop:=c=.osl 4 (aU l)\/(c=.emp/\l=[])
def t3(v:Int)(c:AV)(e:Int):Ob:=.bx [I v,c,I e]
def Ke{h}{v e}{c}{l}(hc:oB c l)(hh:h 1000=t3 v c e):xT [] 1 h []=some (.tup [],[t3 v c e]):=by
 have hp:dJ 1=[1000]:=rfl;have h2:aE [1000] (t3 v c e)=true:=by
  rcases hc with rfl| ⟨rfl,_⟩<;>rfl
 grind[xT,mT,yf,zT,bC]
def aa9{v e}{c x}{d}{l}(hc:oB c l)(he:e≠0):R 124 [ac 1000,x,af d] [t3 v c e]=some (.tup [],[t3 v c e]):=by
 refine tE aV.2.1 aV.2.2 (aV.1.2.2.2 false) rfl ?_;have e1:=ff he;simp only[iO,t3,af,ak,go_sem,e1];exact Ke hc rfl
theorem OP(h)(i)(b):YX h (.tup [I i,B b],[])=some (.tup [I i,B b],h,[]):=rfl
theorem Au{h}{id p id2 k n}{rows}{cs}(h1:h id2=.ar k rows)(hn:n=O rows)(h2:h id=.bx cs)(hne:id≠id2)(hp:p<O cs):
  wN h id p 1 [.rsl id2 none k 0 n]=some (upd (upd h id2 .dead) id (.bx (cs.set p (.osl k rows))),(id2,false)::(if cs[p]?.any bI then [(id,true)]else [])):=by
 simp_all[upd,av,wN,LS,V9,Qe,Gz]
def asU{l}{t}{n i}(hn:n=O l)(hi:i<=n)(h2:n<=1000000):R 182 [.rsl 1000 none 4 0 n,I i,.sl 4 [dE t]] [.ar 4 (aU l)]=some (.osl 4 (aU (l.take i++t::l.drop i)),[.dead]):=by
 rw[Tw (g:=Z0 4 64) κ];show(if 4=4/\4=4/\4=4/\n=O (aU l)/\0<=(i:Int)/\i<=(n:Int)/\(n+1)*64<=140737488355328 then some (AV.osl 4 ((aU l).take (i:Int).toNat++dE t::(aU l).drop (i:Int).toNat),[Ob.dead])else none)=_;rw[ap ⟨rfl,rfl,rfl,by rw[sz,hn],by omega,by omega,by omega⟩,aEY];simp[aU,List.map_take,List.map_drop]
def aqb{t}:R 182 [.emp,I 0,.sl 4 [dE t]] []=some (.osl 4 (aU [t]),[]):=by
 rw[Tw (g:=Z0 4 64) κ];rfl
theorem ajN(t):nrmV [.o 5 [aR,a9,aR,a9]] (.sl 4 [dE t])=.sl 4 [dE t]:=by
 have:=Ka [t];simp only[aU,aFr,aFB]at this;simp only[nrmV,List.headD_cons,nrmL,aFr,aFB,this]
theorem am0{l}{t}{h}{d a b n i}(ha:h a=.ar 4 (aU l))(hb:h b=.ar 4 [dE t])(hab:a≠b)(_hda:2000+8*d≠a)(hdb:2000+8*d≠b)(hd:h (2000+8*d)=.dead)(hn:n=O l)(hi:i<=n)(h2:n<=1000000):
  bF R (aA false) h d [.rsl a none 4 0 n,.v (.int .i64 i),.rsl b none 4 0 1] (.fn 182 [] [])=
   some (.rsl (2000+8*d) none 4 0 (O l+1),upd (upd (upd h b (.fz 4 [dE t])) a .dead) (2000+8*d) (.ar 4 (aU (l.take i++t::l.drop i))),[(a,true),(a,false)]):=by
 have hm:=pT false;have hs:=oV false;have hk:=nM false;have hf:=asU (t:=t) hn hi h2;have hb':lH (aA false) [.rsl a none 4 0 n,.v (.int .i64 i),.rsl b none 4 0 1] (.fn 182 [] [])=false:=by
  grind[lH]
 have h1:cr h [2,0,0] [.rsl a none 4 0 n,.v (.int .i64 i),.rsl b none 4 0 1]=some ([.rsl a none 4 0 n,.v (.int .i64 i),.sl 4 [dE t]],upd h b (.fz 4 [dE t]),[]):=by
  simp_all[cr,eM,Av,iJ,aI,alS,qX,tJ]
 have g1:upd h b (.fz 4 [dE t]) a=.ar 4 (aU l):=by
  simp_all[upd,av]
 have g2:upd h b (.fz 4 [dE t]) (2000+8*d)=.dead:=by
  simp_all[upd,av]
 have hr:bO (upd h b (.fz 4 [dE t])) 40 [a] 0=[a]:=by
  grind[bO,mP,bD]
 have hp:bD [] ([AV.rsl a none 4 0 n,.v (.int .i64 i),.sl 4 [dE t]].flatMap cF)=[a]:=by
  simp[cF,ip,bD]
 have h3:bh [a] a=1000:=by simp[bh]
 have hnr:cV (.osl 4 (aU (l.take i++t::l.drop i)))=1:=rfl;have hlen:O (aU (l.take i++t::l.drop i))=O l+1:=by
  grind[sz,List.length_append,aFm,aFk,List.length_drop]
 have hnm:bC [[],[],[.o 5 [aR,a9,aR,a9]]] [.rsl a none 4 0 n,.v (.int .i64 i),.sl 4 [dE t]]=[.rsl a none 4 0 n,.v (.int .i64 i),.sl 4 [dE t]]:=by
  simp only[bC,ajN];rfl
 unfold bF;simp only[eU,hm,aE5,aE8,h1,aEZ,hp,hr,hs,hnm];simp[lg,be,bA,g1,aE,bS,eG,lG,h3,eP,hf,fG,hnr,bV,g2,dk,bf,nP,CP,vY,ip,kZ,gR,Iw,fw,mat,eS,ie,hk,Je,hm,hlen]
 simp_all[eW,av,JH]
theorem am1{h}{d}{r}{i}{b}(hR:R 180 [.sl 4 [],nrmV [aR] (.sl 1 r),.fn 181 [] []] []=some (.tup [I i,B b],[]))(h0:h (2000+8*d)=.dead)(h1:h (2000+8*d+1)=.dead):
  bF R (aA false) h d [.emp,.sl 1 r,.fn 181 [] []] (.fn 180 [] [])=some (.tup [I i,B b],h,[]):=by
 have hm:=iT false;have hs:=iG false;have hk:=hH false;have hb':lH (aA false) [.emp,.sl 1 r,.fn 181 [] []] (.fn 180 [] [])=false:=by
  grind[lH,R4]
 have h3:cr h [3,0,0] [.emp,.sl 1 r,.fn 181 [] []]=some ([.emp,.sl 1 r,.fn 181 [] []],h,[]):=by
  simp[cr,eM,Av,iJ,aI]
 have hp:bD [] ([AV.emp,.sl 1 r,.fn 181 [] []].flatMap cF)=[]:=by
  simp[cF,ip,bD]
 have hnm:bC [[.o 5 [aR,a9,aR,a9]],[aR],[]] [.emp,.sl 1 r,.fn 181 [] []]=[.sl 4 [],nrmV [aR] (.sl 1 r),.fn 181 [] []]:=by
  rfl
 obtain⟨q,hq⟩:∃q,nrmV [aR] (.sl 1 r)=.sl 1 q:=⟨_,rfl⟩;rw[hq]at hR hnm;have hr:∀n,bO h n [] 0=[]:=fun n=>by cases n<;>rfl
 unfold bF;rw[av γ];simp only[eU,aE5,aE8,aEZ, *];simp[lg,be,bA,eG,lG,fG,cV,bV,bS,dk,nP,CP,vY,kZ,gR,Iw,fw,mat,dB,eS,ie,Je, *]
theorem ajO{t}{h}{d b}(hb:h b=.ar 4 [dE t])(hdb:2000+8*d≠b)(hd:h (2000+8*d)=.dead):
  bF R (aA false) h d [.emp,I 0,.rsl b none 4 0 1] (.fn 182 [] [])=some (.rsl (2000+8*d) none 4 0 1,upd (upd h b (.fz 4 [dE t])) (2000+8*d) (.ar 4 (aU [t])),[]):=by
 have hm:=pT false;have hs:=oV false;have hk:=nM false;have hf:=aqb (t:=t);have hb':lH (aA false) [.emp,I 0,.rsl b none 4 0 1] (.fn 182 [] [])=false:=by
  grind[lH]
 have h1:cr h [2,0,0] [.emp,I 0,.rsl b none 4 0 1]=some ([.emp,I 0,.sl 4 [dE t]],upd h b (.fz 4 [dE t]),[]):=by
  simp[cr,eM,Av,iJ,aI,hb,qX,tJ]
 have g2:upd h b (.fz 4 [dE t]) (2000+8*d)=.dead:=by
  simp_all[upd,av]
 have hp:bD [] ([AV.emp,I 0,.sl 4 [dE t]].flatMap cF)=[]:=by
  simp[cF,ip,bD]
 have hnr:cV (.osl 4 (aU [t]))=1:=rfl;have hnm:bC [[],[],[.o 5 [aR,a9,aR,a9]]] [.emp,I 0,.sl 4 [dE t]]=[.emp,I 0,.sl 4 [dE t]]:=by
  simp only[bC,ajN];rfl
 have hr:∀h n,bO h n [] 0=[]:=fun h n=>by cases n<;>rfl
 have hlen:O (aU [t])=1:=rfl;unfold bF;simp only[eU,aE5,aE8,aEZ, *];simp[lg,be,bA,eG,lG,fG,bV,bS,dk,nP,CP,vY,ip,kZ,gR,Iw,fw,mat,eS,ie,Je, *]
 simp_all[eW,av]
def ClE(x:List Int):Prop:=R 134 [.sl 1 (aY x)] []=some (.osl 1 (aY x),[])\/R 134 [.sl 1 (aY x)] []=some (.sl 1 (aY x),[])
def ajP:∀ {x},O x<=100000->ClE x
 |[],_=>.inr WQ
 |x::l,h=>.inl (WR γ)
def aba{v v'}{l}{t}(c:Cl v l)(vt:VT v t)(hl:O l<=1000000)(hf:Nz l t.exps=false):
  R 124 [ac 1000,.sl 1 (aY t.exps),af t.c] [t3 v' (.osl 4 (aU l)) 0]=some (.tup [],[t3 v' (.osl 4 (aU (l.take (dq l t.exps)++t::l.drop (dq l t.exps)))) 0]):=by
 refine tE aV.2.1 aV.2.2 (aV.1.2.2.2 false) rfl ?_;have hbs:=ahp c vt.sm vt.len hl;rw[hf]at hbs;have hcp:=WP vt.nz (aEX (vB vt.vc vt.c.lb) δ);simp only[af,ak]at hcp;have k1:(aY t.exps).take (O t.exps)=aY t.exps:=aFi (by simp_all[qW,aET]);have hlen:O (l.take (dq l t.exps)++t::l.drop (dq l t.exps))=O l+1:=by
  grind
 have hp:=Vs l t.exps;simp only[iO,t3,af,ak,go_sem];rw[aen Z Z (sz l).symm ⟨_,rfl⟩];rcases ajP vt.ok.len with hcv|hcv
 all_goals
  simp only[go_sem,hbs,OP,hcv,hcp,aES,aET,k1];rw[am0 Z Z δ δ δ Z Z hp hl];generalize l.take (dq l t.exps)++t::l.drop (dq l t.exps)=L at hlen⊢;simp only[go_sem];rw[ap (by rfl),Au rfl (by rw[sz,hlen]) rfl δ (aFQ δ (aET 3))];simp only[go_sem];exact Ke (.inl rfl) rfl
def Rl{v'}{v}{t}(vt:VT v t):
  R 124 [ac 1000,.sl 1 (aY t.exps),af t.c] [t3 v' .emp 0]=some (.tup [],[t3 v' (.osl 4 (aU [t])) 0]):=by
 refine tE aV.2.1 aV.2.2 (aV.1.2.2.2 false) rfl ?_;have hbs:=ahp (l:=[]) (Cl.nil v) vt.sm vt.len (aE9 _);rw[show dq [] t.exps=0 from rfl,show Nz [] t.exps=false from rfl,aFz]at hbs;have hcp:=WP vt.nz (aEX (vB vt.vc vt.c.lb) δ);simp only[af,ak]at hcp;have k1:(aY t.exps).take (O t.exps)=aY t.exps:=aFi (by simp_all[qW,aET]);have k2:nrmV [aR] (.sl 1 (aY t.exps))=.sl 1 (aY t.exps):=by
  simp only[go_sem]
 simp only[iO,t3,af,ak,go_sem];rw[am1 (by rw[k2];exact hbs) Z Z];rcases ajP vt.ok.len with hcv|hcv
 all_goals
  simp only[go_sem,hcv,hcp,aES,aET,k1];rw[ajO rfl δ rfl];simp only[go_sem];rw[ap (by rfl),Au rfl (show 1=O (aU [t]) from rfl) rfl δ (aFQ δ (aET 3))];simp only[go_sem];exact Ke (.inl rfl) rfl
theorem NA{d n i}(h:i<=n):mS d n (some (I i))=some i:=by
 simp_all[mS,ap]
def asV{h}{j k n}{rows}(hj:bu j=false)(hh:h j=.ar k rows)(hn:n=O rows)(hc:aE [1000] (h 1000)=true):xT [[]] 1 h [.rsl j none k 0 n]=some (.osl k rows,[h 1000]):=by
 simp_all[dJ,xT,ap,yf,wj,qk,FU,zT,bC,nrmV,nrmL,mT,cF,ip]
def asW{rows}{n i}(hn:n=O rows)(hi:i<n)(h2:n<=1000000):R 185 [.rsl 1000 none 4 0 n,I i,I (i+1:Nat)] [.ar 4 rows]=some (.osl 4 (rows.take i++rows.drop (i+1)),[.dead]):=by
 refine tE AX AW (nN false) rfl ?_;subst hn;have b1:mS (O rows) (O rows) (some (I (O rows)))=some (O rows):=NA (aET _);have b2:∀d,mS d (O rows) (some (I (i+1:Nat)))=some (i+1):=fun d=>NA ω;have b3:∀d,mS d (i+1) (some (I i))=some i:=fun d=>NA ω;have b4:∀d,mS d (O rows) (some (I i))=some i:=fun d=>NA ω;have e1:=aP (i=((i+1:Nat):Int));have s1:gA 4 (.rsl 1000 none 4 0 (O rows)) (some (I i)) (some (I (i+1:Nat))) (some (I (O rows)))=some .any:=by
  simp_all[gA,if_true,nc,b2,aEZ,aFK,Option.isNone_some,av,aE3]
 have s2:gA 4 (.rsl 1000 none 4 0 (O rows)) none (some (I i)) none=some (.rsl 1000 none 4 0 i):=by
  simp_all[gA,if_true,nc,Q2,aEZ,aFK,Option.isNone_none,Nat.sub_zero,aFA]
 have s3:gA 4 (.rsl 1000 none 4 0 (O rows)) (some (I (i+1:Nat))) none none=some (.rsl 1000 none 4 (i+1) (O rows- (i+1))):=by
  simp only[gA,if_true,nc,b2,Q2,aEZ,aFK,Option.isNone_none,aES]
 have t1:(rows.drop (i+1)).take (O rows- (i+1))=rows.drop (i+1):=aFi γ;have t2:=aa (i+1+(O rows- (i+1))<=O rows);obtain⟨m,hm⟩:∃m,i+(O rows- (i+1))=m:=⟨_,rfl⟩;obtain⟨D,hD⟩:∃D,rows.take i++rows.drop (i+1)=D:=⟨_,rfl⟩;have d1:O D=m:=by
  grind
 obtain⟨A,hA⟩:∃A,D++rows.drop m=A:=⟨_,rfl⟩;have a1:O A=O rows:=by
  grind
 have a2:A.take m=D:=γ
 have e5:∀h,Qg h 26 4 64 1000 4 0 i (rows.drop (i+1)) 4 rows=some (.rsl 1000 none 4 0 m,upd h 1000 (.ar 4 A),[]):=fun h=>by
  unfold Qg;grind
 have e7:=aP (i=O rows);have b5:nc (O rows) (some (I m)) (some (I (O rows))) none=some (m,O rows):=by
  simp only[nc,b1,aEZ];rw[NA ω];rfl
 have c1:=aa (m+(O rows-m)<=O rows);have c2:∀z,(D++aER (O rows-m) z++A.drop (m+(O rows-m))).take m=D:=fun z=>by
  rw[aFO,List.take_append_of_le_length ω,aFi ω]
 rw[hD];simp only[jv,go_sem,s1,s2,s3,e1,t1,t2,e5,e7,false_and,and_false,a1,a2,b5,c1,c2,Nat.sub_zero,aES,aE9,aFt,decide_false];exact asV (by rfl) (by rfl) d1.symm (by rfl)
theorem am2{l}{h}{d a n i}(ha:h a=.ar 4 (aU l))(_hda:2000+8*d≠a)(hd:h (2000+8*d)=.dead)(hn:n=O l)(hi:i<n)(h2:n<=1000000):
  bF R (aA false) h d [.rsl a none 4 0 n,.v (.int .i64 i),.v (.int .i64 (i+1:Nat))] (.fn 185 [] [])=
   some (.rsl (2000+8*d) none 4 0 (O l-1),upd (upd h a .dead) (2000+8*d) (.ar 4 (aU (l.take i++l.drop (i+1)))),[(a,true),(a,false)]):=by
 have hm:=AY false;have hs:=Ap false;have hk:=nN false;have hf:=asW (rows:=aU l) (n:=n) (i:=i) (by rw[sz,hn]) hi h2;have e1:(aU l).take i++(aU l).drop (i+1)=aU (l.take i++l.drop (i+1)):=by simp[aU,List.map_take,List.map_drop]
 rw[e1]at hf;have hb':lH (aA false) [.rsl a none 4 0 n,.v (.int .i64 i),.v (.int .i64 (i+1:Nat))] (.fn 185 [] [])=false:=by
  grind[lH]
 have h1:cr h [2,0,0] [.rsl a none 4 0 n,.v (.int .i64 i),.v (.int .i64 (i+1:Nat))]=some ([.rsl a none 4 0 n,.v (.int .i64 i),.v (.int .i64 (i+1:Nat))],h,[]):=by
  simp[cr,eM,Av,iJ,aI,ha,alS]
 have hr:bO h 40 [a] 0=[a]:=by
  grind[bO,mP,bD]
 have hp:bD [] ([AV.rsl a none 4 0 n,.v (.int .i64 i),.v (.int .i64 (i+1:Nat))].flatMap cF)=[a]:=by
  simp[cF,ip,bD]
 have h3:bh [a] a=1000:=by simp[bh]
 have hnr:cV (.osl 4 (aU (l.take i++l.drop (i+1))))=1:=rfl;have hlen:O (aU (l.take i++l.drop (i+1)))=O l-1:=by
  grind[sz,List.length_append,aFm,List.length_drop]
 unfold bF;simp only[eU,hm,aE5,aE8,h1,aEZ,hp,hr,hs];simp only[Int.natCast_add,Int.natCast_one]at hf;simp[lg,bC,be,bA,ha,aE,bS,eG,lG,h3,eP,hf,fG,hnr,bV,hd,dk,bf,nP,CP,vY,ip,kZ,gR,Iw,fw,mat,eS,ie,hk,Je,hm,hlen]
 simp_all[eW,av,JH]
theorem aqc(h)(i)(xs)(a b)(r):Iu h 3 1000 1 4 i 1 xs [] (.bx [a,.osl 4 r,b])=(vX 3 4 i 1 xs 4 r).map fun q=>(.und,upd h 1000 (.bx [a,.osl 4 q,b]),[]):=rfl
theorem NB(a b)(k)(r):ni 1 (.bx [a,.osl k r,b])=some (k,r):=rfl
theorem Vu(h)(n)(g)(i j)(r):sE h n g 4 i j (some (4,r))=(r[i]?).bind fun row=>(nO n g row j).map fun a=>(a,h,[]):=rfl
def am3{v v'}{l}{t q}(c:Cl v l)(vt:VT v t)(hl:O l<=1000000)(hq:l[dq l t.exps]?=some q)(ho:dO q.exps t.exps=0):
  R 124 [ac 1000,.sl 1 (aY t.exps),af t.c] [t3 v' (.osl 4 (aU l)) 0]=some (.tup [],[if(qC q.c t.c).2=0 then(if(qC q.c t.c).1.m.length=0 then t3 v' (.osl 4 (aU (l.take (dq l t.exps)++l.drop (dq l t.exps+1)))) 0 else t3 v' (.osl 4 (aU (l.set (dq l t.exps) ⟨q.exps,(qC q.c t.c).1⟩))) 0)else t3 v' (.osl 4 (aU l)) 9]):=by
 refine tE aV.2.1 aV.2.2 (aV.1.2.2.2 false) rfl ?_;have hbs:=ahp c vt.sm vt.len hl;have hf:Nz l t.exps=true:=by
  grind[Nz,decide_eq_true]
 rw[hf]at hbs;have vq:=c.t q (aE6 hq);have hadd:=ap7 vq.c vt.c;have hlt:=(List.getElem?_eq_some_iff.1 hq).1;have hrow:(aU l)[dq l t.exps]?=some (dE q):=by grind[aU]
 have hi0:(0<=(dq l t.exps:Int)/\(dq l t.exps)< (O l:Int))=True:=eq_true ⟨by omega,by omega⟩;have hw:aG ((dq l t.exps)+1)=(dq l t.exps+1:Nat):=wi;generalize qC q.c t.c=r at hadd⊢;obtain⟨s,e⟩:=r;simp only[rV,af,ak]at hadd;simp only[dE]at hrow;simp only[iO,t3,af,ak,go_sem];rw[aen Z Z (sz l).symm ⟨_,rfl⟩];by_cases he:e=0
 ·subst he;by_cases hs:O s.m=0
  ·have e1:=tt;have hlen:O (l.take (dq l t.exps)++l.drop (dq l t.exps+1))=O l-1:=by
    grind
   simp only[go_sem,hbs,OP,hi0,hrow,hadd,hs,aEY,aFz,aES,NB,Vu,hw];rw[am2 rfl δ Z Z hlt hl];generalize l.take (dq l t.exps)++l.drop (dq l t.exps+1)=L at hlen⊢;simp only[go_sem];rw[Au rfl (by rw[sz,hlen]) rfl δ (aFQ δ (aET 3))];simp only[go_sem];exact Ke (.inl rfl) rfl
  ·have e1:=aP ((O s.m:Int)=0);have hset:(aU l).set (dq l t.exps) [.sl 1 (aY q.exps),B s.neg,lm s.m,I s.e]=aU (l.set (dq l t.exps) ⟨q.exps,s⟩):=by
    unfold aU;rw[List.map_set];rfl
   simp only[go_sem,hbs,OP,hi0,hrow,hadd,hs,e1,aEY,aES,NB,Vu,hw,aqc,hset];exact Ke (.inl rfl) rfl
 ·have e1:=ff he;simp only[go_sem,hbs,OP,hi0,hrow,hadd,e1,aEY,aES,NB,Vu,hw];exact Ke (.inl rfl) rfl
def Vv{v v'}{l}{t}{cell}(c:Cl v l)(vt:VT v t)(hl:O l<=1000000)(hc:oB cell l):
  ∃cell' l' e',R 124 [ac 1000,.sl 1 (aY t.exps),af t.c] [t3 v' cell 0]=some (.tup [],[t3 v' cell' e'])/\oB cell' l'/\((e'=0/\wJ l t=some l')\/(e'=9/\wJ l t=none/\l'=l)):=by
 rcases hc with rfl| ⟨rfl,rfl⟩
 ·rw[ael];cases hq:l[dq l t.exps]? with
  |none=>
   exact⟨_,_,_,aba c vt hl (by grind[Nz]),.inl rfl,.inl ⟨rfl,rfl⟩⟩
  |some q=>
   by_cases ho:dO q.exps t.exps=0
   ·have h1:=am3 (v':=v') c vt hl hq ho;simp only[ap ho];by_cases he:(qC q.c t.c).2=0
    ·rw[ap he]at h1⊢;by_cases hs:(qC q.c t.c).1.m.length=0
     ·rw[ap hs]at h1⊢;exact⟨_,_,_,h1,.inl rfl,.inl ⟨rfl,rfl⟩⟩
     ·rw[av hs]at h1⊢;exact⟨_,_,_,h1,.inl rfl,.inl ⟨rfl,rfl⟩⟩
    ·rw[av he]at h1⊢;exact⟨_,_,_,h1,.inl rfl,.inr ⟨rfl,rfl,rfl⟩⟩
   ·simp only[av ho];exact⟨_,_,_,aba c vt hl (by grind[Nz,decide_eq_false]),.inl rfl,.inl ⟨rfl,rfl⟩⟩
 ·exact⟨_,_,_,Rl vt,.inl rfl,.inl ⟨rfl,rfl⟩⟩
def mM:List Rt->(List Int->Int)->Int
 |[],_=>0
 |t::l,f=>zI t.c*f t.exps+mM l f
theorem OQ:∀l r f,mM (l++r) f=mM l f+mM r f
 |[],r,f=>by simp[mM]
 |t::l,r,f=>by
  show zI t.c*f t.exps+mM (l++r) f=zI t.c*f t.exps+mM l f+mM r f;rw[OQ l r f,Int.add_assoc]
theorem aGQ(k):∀l f,mM l (fun x=>k*f x)=k*mM l f
 |[],f=>by simp[mM]
 |t::l,f=>by
  show zI t.c*(k*f t.exps)+_=k*(zI t.c*f t.exps+_);rw[aGQ k l f,Int.mul_add,Int.mul_left_comm]
theorem aG5:∀ {l} {f g},(∀t∈l,f t.exps=g t.exps)->mM l f=mM l g
 |[],f,g,_=>rfl
 |t::l,f,g,h=>by
  show zI t.c*f t.exps+_=zI t.c*g t.exps+_;rw[h t σ,aG5 fun x hx=>h x (by simp[hx])]
theorem abb{v}{f}:∀ {l l'} {t},Cl v l->VT v t->wJ l t=some l'->mM l' f=mM l f+zI t.c*f t.exps
 |[],l',t,c,vt,h=>by
  cases h;show zI t.c*f t.exps+0=0+_;omega
 |q::l,l',t,c,vt,h=>by
  obtain⟨c1,c2,c3⟩:=c.cons;unfold wJ at h;split at h
  ·rw[aEU]at h;obtain⟨l2,h2,rfl⟩:=h;have ih:=abb c3 vt h2 (f:=f);show _+mM l2 f=(_+mM l f)+_;rw[ih,Int.add_assoc]
  ·split at h
   ·rename_i h1 h2;have he:=ap8 (c1.l2 vt) h2;split at h
    ·rename_i h3;have hz:=aee h3;grind[cS,mM,zI,qC,Int.add_mul,Int.add_right_comm]
    grind
   grind[zI,mM,Int.add_comm]
theorem Ly{v}{f}:∀ {ts l l'},Cl v l->(∀t∈ts,VT v t)->lB l ts=some l'->mM l' f=mM l f+mM ts f
 |[],l,l',c,_,h=>by
  cases h;exact(Int.add_zero _).symm
 |t::ts,l,l',c,vt,h=>by
  unfold lB at h;rw[aEQ]at h;obtain⟨l2,h2,h3⟩:=h;rw[Ly (ON c (vt t σ) h2).1 (fun x hx=>vt x γ) h3,abb c (vt t σ) h2];show _=_+(_+_);omega
def VT.zn{v}{t}(h:VT v t):zI t.c≠0:=by
 rcases Q9 t.c h.vc with⟨_,_,h2⟩| ⟨_,h1,h2,_⟩| ⟨_,h1,h2,_⟩
 ·exact absurd h2 h.nz
 all_goals omega
def WS{a b}(h:dO a b<0):b≠a:=by
 grind[ajK]
def p0:Rp:=⟨0,[]⟩
def pV(r:Rp×Int):AV:=.tup [bj r.1,I r.2]
def oC(v:Int):Option (List Rt)->Rp×Int
 |none=>(p0,9)
 |some l=>if 500<O l then(p0,5)else(⟨v,l⟩,0)
def DB(a b:Rp):Bool:=vp a&& (vp b&&decide (a.vars=b.vars))
def EF(a b:Rp):Rp×Int:=if DB a b=true then oC a.vars (lB [] (a.terms++b.terms))else(p0,1)
def qD(t:Rt):Rt:=⟨t.exps,⟨!t.c.neg,t.c.m,t.c.e⟩⟩
def BY(a b:Rp):Rp×Int:=if DB a b=true then oC a.vars (lB [] (a.terms++b.terms.map qD))else(p0,1)
def pA(a b:List Int):List Int:=List.zipWith (·+·) a b
def I3(s t:Rt):Option Rt:=if(dX s.c t.c).2=0 then some ⟨pA s.exps t.exps,(dX s.c t.c).1⟩else none
def pY(s:Rt):List Rt->Option (List Rt)
 |[]=>some []
 |t::ts=>(I3 s t).bind fun x=>(pY s ts).map (x::·)
def oE:List Rt->List Rt->Option (List Rt)
 |[],_=>some []
 |s::ss,ts=>(pY s ts).bind fun r=>(oE ss ts).map (r++·)
def DC(a b:Rp):Rp×Int:=if DB a b=true then(if O a.terms≠0/\O b.terms≠0/\32<nH a+nH b then(p0,5)else oC a.vars ((oE a.terms b.terms).bind (lB [])))else(p0,1)
def ajQ:∃K,K≠0/\∀a b,(dX a b).2=0->zI (dX a b).1*K=zI a*zI b:=by
 refine⟨2^16384,?_,fun a b h=>?_⟩
 ·omega
 ·unfold dX at h⊢;split at h
  ·rename_i hc;rw[ap hc];exact OM (j:=16384) h
  omega
noncomputable def KK:Int:=Classical.choose ajQ
theorem Vw{a b}(h:(dX a b).2=0):zI (dX a b).1*KK=zI a*zI b:=(Classical.choose_spec ajQ).2 a b h
theorem Tx{s}{f}:∀ {ts r},pY s ts=some r->mM r f*KK=zI s.c*mM ts fun v=>f (pA s.exps v)
 |[],r,h=>by
  cases h;show 0*KK=zI s.c*0;omega
 |t::ts,r,h=>by
  unfold pY at h;rw[aEQ]at h;obtain⟨x,h1,h2⟩:=h;rw[aEU]at h2;obtain⟨r2,h3,rfl⟩:=h2;unfold I3 at h1;split at h1
  ·rename_i h4;cases h1;show(zI (dX s.c t.c).1*f (pA s.exps t.exps)+mM r2 f)*KK=zI s.c*(zI t.c*f (pA s.exps t.exps)+mM ts _);rw[Int.add_mul,Tx h3,Int.mul_right_comm,Vw h4,Int.mul_add,Int.mul_assoc]
  ·cases h1
theorem Ty{f}:∀ {ss ts r},oE ss ts=some r->mM r f*KK=mM ss fun u=>mM ts fun v=>f (pA u v)
 |[],ts,r,h=>by
  cases h;show 0*KK=0;omega
 |s::ss,ts,r,h=>by
  unfold oE at h;rw[aEQ]at h;obtain⟨x,h1,h2⟩:=h;rw[aEU]at h2;obtain⟨r2,h3,rfl⟩:=h2;rw[OQ,Int.add_mul,Tx h1,Ty h3];rfl
theorem abc:∀ {a b},O a=O b->cp (pA a b)=cp a+cp b
 |[],[],_=>rfl
 |x::a,y::b,h=>by
  show x+y+cp (pA a b)=x+cp a+(y+cp b);rw[abc (by simpa using h)];omega
 |[],_::_,h=>by grind
 |_::_,[],h=>by grind
theorem Kf:∀ {l},(∀x∈l,0<=x)->0<=cp l/\∀x∈l,x<=cp l
 |[],_=>⟨Int.le_refl _,fun _ h=>by grind⟩
 |y::l,h=>by
  obtain⟨h1,h2⟩:=Kf fun x hx=>h x (List.mem_cons_of_mem _ hx);have h3:=h y σ;grind[cp]
def abd:∀ {a b},(∀x∈a,0<=x)->(∀x∈b,0<=x)->∀x∈pA a b,0<=x
 |[],b,_,_,x,hx=>by simp_all[pA]
 |_::_,[],_,_,x,hx=>by simp_all[pA]
 |y::a,z::b,h1,h2,x,hx=>by
  have hx':x∈ (y+z)::pA a b:=hx;rcases List.mem_cons.1 hx' with rfl|hx'
  ·have:=h1 y σ;have:=h2 z σ;omega
  ·exact abd (fun x hx=>h1 x γ) (fun x hx=>h2 x γ) x hx'
theorem BZ{a b}(h:O a=O b):O (pA a b)=O a:=by
 grind[pA,List.length_zipWith]
def Rn{v}{s t x}(vs:VT v s)(vt:VT v t)(hd:cp s.exps+cp t.exps<=32)(h:I3 s t=some x):VT v x:=by
 unfold I3 at h;split at h
 ·rename_i h0;cases h;have hl:=vs.l2 vt;have hp:=abd (fun x hx=>(vs.b x hx).1) (fun x hx=>(vt.b x hx).1);have hs:=abc hl;obtain⟨q1,q2⟩:vd (dX s.c t.c).1=true/\Ok0 (dX s.c t.c).1:=by
   grind[dX,xO,aO]
  refine⟨q2,by rw[BZ hl];exact vs.len,vs.v8,q1,fun h=>?_,fun e he=>⟨hp e he,?_⟩,by grind⟩
  ·have h1:=Vw h0;rw[cS h,Int.zero_mul]at h1;rcases Int.mul_eq_zero.1 h1.symm with h2|h2
   ·exact vs.zn h2
   ·exact vt.zn h2
  ·have:=(Kf hp).2 e he;omega
 grind
def NC{v}{s}(vs:VT v s):∀ {ts r},(∀t∈ts,VT v t/\cp s.exps+cp t.exps<=32)->pY s ts=some r->(∀x∈r,VT v x)/\O r=O ts
 |[],r,_,h=>by cases h;grind
 |t::ts,r,ht,h=>by
  unfold pY at h;rw[aEQ]at h;obtain⟨x,h1,h2⟩:=h;rw[aEU]at h2;obtain⟨r2,h3,rfl⟩:=h2;obtain⟨g1,g2⟩:=NC vs (fun y hy=>ht y γ) h3;have vx:=Rn vs (ht t σ).1 (ht t σ).2 h1;grind
def ND{v}:∀ {ss ts r},(∀s∈ss,VT v s)->(∀t∈ts,VT v t)->(∀s∈ss,∀t∈ts,cp s.exps+cp t.exps<=32)->oE ss ts=some r->(∀x∈r,VT v x)/\O r=O ss*O ts
 |[],ts,r,_,_,_,h=>by cases h;grind
 |s::ss,ts,r,vs,vt,hd,h=>by
  unfold oE at h;rw[aEQ]at h;obtain⟨x,h1,h2⟩:=h;rw[aEU]at h2;obtain⟨r2,h3,rfl⟩:=h2;obtain⟨g1,g2⟩:=NC (vs s σ) (fun t ht=>⟨vt t ht,hd s σ t ht⟩) h1;obtain⟨k1,k2⟩:=ND (fun y hy=>vs y γ) vt (fun y hy t ht=>hd y γ t ht) h3;grind
def aqd{a b}(h:dO a b<0):cp a<=cp b:=by
 unfold dO at h;rcases uE (cp a) (cp b)with⟨g,e⟩| ⟨g,e⟩| ⟨g,e⟩<;>rw[e]at h
 all_goals omega
def Ro{v}:∀ {l} {t q},Cl v l->l.getLast?=some q->t∈l->cp t.exps<=cp q.exps
 |[],t,q,_,h,_=>by grind
 |[x],t,q,_,h,ht=>by
  grind
 |x::y::l,t,q,c,h,ht=>by
  obtain⟨c1,c2,c3⟩:=c.cons;rcases List.mem_cons.1 ht with rfl|ht
  ·have h1:=aqd (c2 y σ);have h2:=Ro c3 h (t:=y) σ;omega
  ·exact Ro c3 h ht
def aeo{a}(oa:OkP a)(h:vp a=true):∀t∈a.terms,cp t.exps<=nH a:=by
 intro t ht;unfold nH;rw[ap h];cases hg:a.terms.getLast? with
 |none=>
  grind
 |some q=>exact Ro (gw oa h).1 hg ht
def oF{a b}:DB a b=true↔vp a=true/\vp b=true/\a.vars=b.vars:=by
 grind[DB]
def OR{v}{t}(h:VT v t):VT v (qD t):=by
 refine⟨⟨h.c.1,h.c.2⟩,h.len,h.v8,?_,h.nz,h.b,h.d⟩;have h1:=h.vc;have h2:=h.nz
 simp_all[vd,av,qD]
theorem aep(t):zI (qD t).c=-zI t.c:=by
 grind[zI,qD,mg]
theorem aeq(f):∀l,mM (l.map qD) f=-mM l f
 |[]=>rfl
 |t::l=>by
  show zI (qD t).c*f t.exps+mM (l.map qD) f=-(zI t.c*f t.exps+mM l f);rw[aeq f l,aep,Int.neg_mul];omega
def Vx{v}{o}(h:(oC v o).2=0):∃l,o=some l/\O l<=500/\(oC v o).1=⟨v,l⟩:=by
 unfold oC at h⊢;grind
structure Pv (v:Int) (a:Rp):Prop where
 v:a.vars=v
 p:vp a=true
 o:OkP a
theorem Pv.cl{v}{a}(h:Pv v a):Cl v a.terms:=by
 have:=(gw h.o h.p).1;rw[h.v]at this;omega
def aqe{a b}(oa:OkP a)(ob:OkP b)(h:(EF a b).2=0):Pv a.vars a/\Pv a.vars b/\Pv a.vars (EF a b).1/\∀f,mM (EF a b).1.terms f=mM a.terms f+mM b.terms f:=by
 unfold EF at h⊢;split at h
 ·rename_i hp;rw[ap hp];obtain⟨va,vb,hv⟩:=oF.1 hp;obtain⟨l,hl,h5,he⟩:=Vx h;obtain⟨ca,a0,a8,_⟩:=gw oa va;obtain⟨cb,_⟩:=gw ob vb;rw[←hv]at cb;have ht:∀t∈a.terms++b.terms,VT a.vars t:=fun t ht=>by
   rcases List.mem_append.1 ht with ht|ht
   ·exact ca.t t ht
   ·exact cb.t t ht
  have hc:=(Cy (Cl.nil _) ht hl).1;rw[he];refine⟨⟨rfl,va,oa⟩,⟨hv.symm,vb,ob⟩,⟨rfl,Lx hc a0 a8 h5,pX hc⟩,fun f=>?_⟩;have:=Ly (f:=f) (Cl.nil _) ht hl
  simp_all[OQ,mM,Int.zero_add]
 omega
def aqf{a b}(oa:OkP a)(ob:OkP b)(h:(BY a b).2=0):Pv a.vars a/\Pv a.vars b/\Pv a.vars (BY a b).1/\∀f,mM (BY a b).1.terms f=mM a.terms f-mM b.terms f:=by
 unfold BY at h⊢;split at h
 ·rename_i hp;rw[ap hp];obtain⟨va,vb,hv⟩:=oF.1 hp;obtain⟨l,hl,h5,he⟩:=Vx h;obtain⟨ca,a0,a8,_⟩:=gw oa va;obtain⟨cb,_⟩:=gw ob vb;rw[←hv]at cb;have ht:∀t∈a.terms++b.terms.map qD,VT a.vars t:=fun t ht=>by
   rcases List.mem_append.1 ht with ht|ht
   ·exact ca.t t ht
   ·obtain⟨q,hq,rfl⟩:=List.mem_map.1 ht;exact OR (cb.t q hq)
  have hc:=(Cy (Cl.nil _) ht hl).1;rw[he];refine⟨⟨rfl,va,oa⟩,⟨hv.symm,vb,ob⟩,⟨rfl,Lx hc a0 a8 h5,pX hc⟩,fun f=>?_⟩;have:=Ly (f:=f) (Cl.nil _) ht hl;rw[OQ,aeq]at this;rw[this];show 0+_=_;omega
 omega
def Rq{a b}(oa:OkP a)(ob:OkP b)(va:vp a=true)(vb:vp b=true)(h:¬ (O a.terms≠0/\O b.terms≠0/\32<nH a+nH b)):∀s∈a.terms,∀t∈b.terms,cp s.exps+cp t.exps<=32:=by
 intro s hs t ht;have h1:=aeo oa va s hs;have h2:=aeo ob vb t ht;grind
def aqg{a b}(oa:OkP a)(ob:OkP b)(h:(DC a b).2=0):Pv a.vars a/\Pv a.vars b/\Pv a.vars (DC a b).1/\∀f,mM (DC a b).1.terms f*KK=mM a.terms fun u=>mM b.terms fun v=>f (pA u v):=by
 unfold DC at h⊢;split at h
 ·rename_i hp;rw[ap hp];obtain⟨va,vb,hv⟩:=oF.1 hp;split at h
  ·omega
  ·rename_i hd;rw[av hd];have hf:=Rq oa ob va vb hd;obtain⟨l,hl,h5,he⟩:=Vx h;rw[aEQ]at hl;obtain⟨r,hr,hl⟩:=hl;obtain⟨ca,a0,a8,_⟩:=gw oa va;obtain⟨cb,_⟩:=gw ob vb;rw[←hv]at cb;have ht:=(ND ca.t cb.t hf hr).1;have hc:=(Cy (Cl.nil _) ht hl).1;rw[he];refine⟨⟨rfl,va,oa⟩,⟨hv.symm,vb,ob⟩,⟨rfl,Lx hc a0 a8 h5,pX hc⟩,fun f=>?_⟩;have:=Ly (f:=f) (Cl.nil _) ht hl;rw[this,←Ty hr];show(0+_)*_=_;grind
 omega
theorem Tz:OkP p0:=⟨fun _ h=>by cases h⟩
def Ru{v}{o}(h:∀l,o=some l->Cl v l):OkP (oC v o).1:=by
 unfold oC;grind[Tz,pX]
def abe{a b}(oa:OkP a)(ob:OkP b):OkP (EF a b).1:=by
 unfold EF;split
 ·rename_i hp;obtain⟨va,vb,hv⟩:=oF.1 hp;obtain⟨ca,_⟩:=gw oa va;obtain⟨cb,_⟩:=gw ob vb;rw[←hv]at cb;exact Ru fun l hl=>(Cy (Cl.nil _) (fun t ht=>by
   rcases List.mem_append.1 ht with ht|ht
   ·exact ca.t t ht
   ·exact cb.t t ht) hl).1
 ·exact Tz
def abf{a b}(oa:OkP a)(ob:OkP b):OkP (BY a b).1:=by
 unfold BY;split
 ·rename_i hp;obtain⟨va,vb,hv⟩:=oF.1 hp;obtain⟨ca,_⟩:=gw oa va;obtain⟨cb,_⟩:=gw ob vb;rw[←hv]at cb;exact Ru fun l hl=>(Cy (Cl.nil _) (fun t ht=>by
   rcases List.mem_append.1 ht with ht|ht
   ·exact ca.t t ht
   ·obtain⟨q,hq,rfl⟩:=List.mem_map.1 ht;exact OR (cb.t q hq)) hl).1
 ·exact Tz
def abg{a b}(oa:OkP a)(ob:OkP b):OkP (DC a b).1:=by
 unfold DC;split
 ·rename_i hp;obtain⟨va,vb,hv⟩:=oF.1 hp;split
  ·exact Tz
  ·rename_i hd;have hf:=Rq oa ob va vb hd;obtain⟨ca,_⟩:=gw oa va;obtain⟨cb,_⟩:=gw ob vb;rw[←hv]at cb;refine Ru fun l hl=>?_;rw[aEQ]at hl;obtain⟨r,hr,hl⟩:=hl;exact(Cy (Cl.nil _) (ND ca.t cb.t hf hr).1 hl).1
 ·exact Tz
def abh{a}(h:aI a=true):ip a=[]:=by cases a<;>simp[aI]at h<;>rfl
theorem aer{a}(h:aI a=true)(l):bA l a=true:=by cases a<;>simp[aI]at h<;>simp[bA,h]
theorem abi{a}(h:aI a=true)(g):lG g a=a:=by cases a<;>simp[aI]at h<;>rfl
theorem B0{α β:Type}{f:α->List β}:∀ {l:List α},(∀x∈l,f x=[])->l.flatMap f=[]
 |[],_=>rfl
 |x::l,h=>by
  simp_all
theorem G0{a}(h:dat a=true):cF a=[]:=by
 cases a<;>simp only[dat]at h<;>first|exact abh h|skip
 ·exact B0 fun x hx=>abh (List.all_eq_true.1 h x hx)
 ·simp[aI]at h;obtain⟨rfl,rfl⟩:=h;rfl
theorem Kg{a}(h:dat a=true)(l):be l a=true:=by
 cases a<;>simp only[dat]at h<;>first|exact aer h l|skip
 all_goals grind[be,aFc,aer,aI]
theorem G1{a}(h:dat a=true)(g):eG g a=a:=by
 cases a<;>simp only[dat]at h<;>first|exact abi h g|skip
 ·rename_i cs;show AV.agg (cs.map (lG g))=_;rw[(aFn (g:=fun c=>c) fun x hx=>abi (List.all_eq_true.1 h x hx) g).trans (aFH cs)]
 ·simp[aI]at h;obtain⟨rfl,rfl⟩:=h;rfl
theorem NE{a}(h:dat a=true)(hp):eM hp 0 a=some (a,hp,[]):=by
 by_cases hagg:∃cs,a=.agg cs
 ·grind[dat,eM,Av,qH]
 ·have h2:aI a=true:=by cases a<;>first|exact h|exact absurd ⟨_,rfl⟩ hagg
  cases a<;>first| (simp[aI]at h2;done)|rfl|skip
theorem OS(hp):∀ {l},l.all dat=true->cr hp [] l=some (l,hp,[])
 |[],_=>rfl
 |a::l,h=>by
  simp only[aFa,aEV]at h;simp only[cr,List.headD_nil,NE h.1,aEZ,List.tail_nil,OS hp h.2,aE8]
structure OC (o:Ob):Prop where
 cl:∀l,aE l o=true
 ids:mP o=[]
 ren:∀g,eP g o=o
 nd:bS o=false
structure RT (r:AV):Prop where
 ren:∀g,Je g r=r
 mat:∀n h,mat n h r=(r,h)
 ok:∀l,kZ l r=true
def asX(z):RT (I z):=⟨fun _=>rfl,fun _ _=>rfl,fun _=>rfl⟩
def abj(b):RT (B b):=⟨fun _=>rfl,fun _ _=>rfl,fun _=>rfl⟩
theorem vG:∀l,vY [] l=[]
 |[]=>rfl
 |a::l=>by
  show(if 0=2 then _ else [])++vY [] l=[];rw[vG l];rfl
def Lz{f}{h}{d id}{zas as'}{o o'}{res}(hm:(aA false).m f=[])(hk:(aA false).keep f=false)(hn:bC ((aA false).sh f) (ac id::zas)=ac id::as')(hd:zas.all dat=true)(hd':as'.all dat=true)
  (hh:h id=o) (ho:OC o) (ho':OC o') (hb:bf o=true->bf o'=true) (hR:R f (ac 1000::as') [o]=some (res,[o'])) (hr:RT res) (h8:cV res<=8) (hfr:bV h (2000+8*d) (cV res)=true):
  bF R (aA false) h d (ac id::zas) (.fn f [] [])=some (res,upd h id o',[(id,true)]):=by
 have h1:cr h [] (ac id::zas)=some (ac id::zas,h,[]):=by
  simp only[cr,eM,aEZ,List.tail_nil,OS h hd,aE8]
 have hp:bD [] ((ac id::zas).flatMap cF)=[id]:=by
  rw[List.flatMap_cons,B0 fun x hx=>G0 (List.all_eq_true.1 hd x hx)];rfl
 have hre:bO h 40 [id] 0=[id]:=by
  simp[bO,hh,ho.ids,bD]
 have h3:bh [id] id=1000:=by simp[bh]
 have hall:(ac id::as').all (be [id])=true:=by
  grind[be,bA,Kg]
 have hmap:(ac id::as').map (eG (bh [id]))=ac 1000::as':=by
  rw[aFr,(aFn (g:=fun c=>c) fun x hx=>G1 (List.all_eq_true.1 hd' x hx) _).trans (aFH as')];grind[eG,lG]
 have hob:([id].map fun a=>eP (bh [id]) (h a))=[o]:=by simp[hh,ho.ren]
 have hids:([id].all fun a=>aE [id] (h a)&&!bS (h a))=true:=by simp[hh,ho.cl,ho.nd]
 unfold bF;rw[av (by grind[lH])];simp only[eU,aE5,aE8,aEZ, *];unfold lg;rw[hall,hids,hmap,hob,hR,aFI,ap rfl,aEZ,hk,hm,vG];unfold fG;have hbf:dk h [] [id] [o']=true:=by
  have:=ho'.nd;grind[bf,dk]
 have hend:nP h [id] [] (res,[o'])=true:=by
  simp[nP,CP,hr.ok,ho'.cl]
 rw[ap ⟨rfl,by simp,h8,hfr,hbf,hend⟩];simp[fw,ie,hr.mat,hr.ren,ho'.ren]
def dQ{f}{h}{d id}{zas}{r}(hm:(aA false).m f=[])(hd:zas.all dat=true)(hc:bF R (aA false) h d (ac id::zas) (.fn f [] [])=r):KT R (aA false) d f (ac id::zas,h,[])=r:=by
 have h1:cr h [] (ac id::zas)=some (ac id::zas,h,[]):=by
  simp only[cr,eM,aEZ,List.tail_nil,OS h hd,aE8]
 rw[KU d hm,h1]at hc;exact hc
def me{v e}{c}{l}(hc:oB c l):OC (t3 v c e):=by
 rcases hc with rfl| ⟨rfl,_⟩
 ·exact⟨fun l=>rfl,rfl,fun g=>rfl,rfl⟩
 ·exact⟨fun l=>rfl,rfl,fun g=>rfl,rfl⟩
def am4:RT (.tup []):=⟨fun _=>rfl,fun _ _=>rfl,fun _=>rfl⟩
def qK{v e e'}{c c'}{l l'}{h}{d id}{x}{q}(hh:h id=t3 v c e)(hc:oB c l)(hc':oB c' l')(hR:R 124 [ac 1000,.sl 1 (aY x),af q] [t3 v c e]=some (.tup [],[t3 v c' e'])):
  bF R (aA false) h d [ac id,.sl 1 (aY x),af q] (.fn 124 [] [])=some (.tup [],upd h id (t3 v c' e'),[(id,true)]):=
 Lz (aV.1.2.1 false) (aV.1.2.2.2 false) (as':=[.sl 1 (aY x),af q]) (by simp only[af,ak,go_sem]) Z Z hh (me hc) (me hc') (fun _=>rfl) hR am4 δ rfl
def B1{v}:R 122 [I v] []=some (.obx [I v,.emp,I 0],[]):=by
 refine au aaa ?_;rfl
def avW(r):RT (pV r):=⟨fun _=>rfl,fun _ _=>rfl,fun _=>rfl⟩
def jY{h}{o}{rs}{vs us}{r}(h0:((vs.flatMap cF).filter fun i=>!bu i)=[])(h1:h 1000=o)(ho:aE [1000] o=true)(h2:yf h vs=some us)(h3:zT (bC rs us)=r):xT rs 1 h vs=some (r,[o]):=by
 have hp:dJ 1=[1000]:=rfl;unfold xT;rw[h0,hp,h2,ap (by grind[mT])];grind
theorem Bk(x):pe (.v x)=.v x:=rfl
theorem zG(k)(r):pe (.osl k r)=.sl k r:=rfl
theorem EG:pe .emp=.emp:=rfl
def asY{v e}{l}:zT (bC [[a9,.o 5 [aR,a9,aR,a9]],[]] [.agg [I v,.sl 4 (aU l)],I e])=pV (⟨v,l⟩,e):=by
 have h:=Ka l;show AV.tup [.agg [I v,.sl 4 ((aU l).map _)],I e]=_;rw[h];rfl
def am5{v e}{c}{l}(hc:oB c l)(he:e≠0):R 125 [ac 1000] [t3 v c e]=some (pV (p0,e),[t3 v c e]):=by
 refine tE bE.2.1 bE.2.2 (bE.1.2.2.2 false) rfl ?_;have e1:=ff he;simp only[ig,t3,go_sem,e1];exact jY rfl (by rfl) ((me hc).cl _) (by rfl) (by rfl)
def am6{v}{l}:R 125 [ac 1000] [t3 v (.osl 4 (aU l)) 0]=some (pV (oC v (some l)),[if 500<O l then t3 v (.osl 4 (aU l)) 0 else .bx [I v,.sl 4 (aU l),I 0]]):=by
 refine tE bE.2.1 bE.2.2 (bE.1.2.2.2 false) rfl ?_;unfold oC;by_cases h:500<O l
 ·have e1:=aa (500< (O l:Int));simp only[ap h];simp only[ig,t3,go_sem,e1];exact jY rfl (by rfl) rfl (by rfl) (by rfl)
 ·have e1:=aP (500< (O l:Int));simp only[av h];simp only[ig,t3,go_sem,e1,Bk,zG];exact jY rfl (by rfl) rfl (by rfl) asY
def am7{v}:R 125 [ac 1000] [t3 v .emp 0]=some (pV (oC v (some [])),[t3 v .emp 0]):=by
 refine tE bE.2.1 bE.2.2 (bE.1.2.2.2 false) rfl ?_;have e1:((500:Int)<0)=False:=ff δ;simp only[ig,t3,go_sem,e1];exact jY rfl (by rfl) rfl (by rfl) (by rfl)
def Cz{v e}{c}{l}{h}{d id}(hh:h id=t3 v c e)(hc:oB c l)(hf:bV h (2000+8*d) 2=true):
  ∃o,bF R (aA false) h d [ac id] (.fn 125 [] [])=some (pV (if e=0 then oC v (some l)else(p0,e)),upd h id o,[(id,true)]):=by
 have key:∃o,OC o/\bf o=true/\R 125 [ac 1000] [t3 v c e]=some (pV (if e=0 then oC v (some l)else(p0,e)),[o]):=by
  by_cases he:e=0
  ·subst he;rcases hc with rfl| ⟨rfl,rfl⟩
   ·refine⟨_,?_,?_,am6⟩
    ·split
     ·exact me (.inl rfl)
     ·exact⟨fun l=>rfl,rfl,fun g=>rfl,rfl⟩
    ·split<;>rfl
   ·exact⟨_,me (.inr ⟨rfl,rfl⟩),rfl,am7⟩
  ·rw[av he];exact⟨_,me hc,rfl,am5 hc he⟩
 obtain⟨o,h1,h2,h3⟩:=key;exact⟨o,Lz (bE.1.2.1 false) (bE.1.2.2.2 false) (as':=[]) (by rfl) Z Z hh (me hc) h1 (fun _=>h2) h3 (avW _) (by show 2<=8;decide) hf⟩
def Vy{a b}(oa:OkP a)(ob:OkP b):R 121 [bj a,bj b] []=some (B (DB a b),[]):=by
 refine au acX ?_;have h1:=vP oa;have h2:=vP ob;simp only[bj]at h1 h2;unfold DB;cases ha:vp a with
 |false=>
  rw[ha]at h1;simp only[yV,bj,go_sem,h1]
 |true=>
  rw[ha]at h1;cases hb:vp b with
  |false=>
   rw[hb]at h2;simp only[yV,bj,go_sem,h1,h2]
  |true=>
   rw[hb]at h2;simp only[yV,bj,go_sem,h1,h2]
structure ColE (v:Int) (l ts:List Rt) (e:Int) (c':AV) (l':List Rt) (e':Int):Prop where
 c:oB c' l'
 r:(e'=0/\e=0/\lB l ts=some l')\/(e'=9/\(e=0->lB l ts=none))
theorem ColE.fin{v}{ts}{c'}{l'}{e'}(h:ColE v [] ts 0 c' l' e'):(if e'=0 then oC v (some l')else(p0,e'))=oC v (lB [] ts):=by
 rcases h.r with⟨h1,_,h2⟩| ⟨h1,h2⟩
 ·rw[ap h1,h2]
 ·rw[h1,av δ,h2 rfl];rfl
theorem ColE.step{v}{l ts}{t}{c}(hc:oB c l){e}(he:e=0\/e=9)(hC:e=0->Cl v l/\O l+O ts+1<=1000000)(vt:VT v t){v'}:
  ∃c1 l1 e1,R 124 [ac 1000,.sl 1 (aY t.exps),af t.c] [t3 v' c e]=some (.tup [],[t3 v' c1 e1])/\oB c1 l1/\(e1=0\/e1=9)/\(e1=0->Cl v l1/\O l1+O ts<=1000000)/\∀c' l' e',ColE v l1 ts e1 c' l' e'->ColE v l (t::ts) e c' l' e':=by
 rcases he with rfl|rfl
 ·obtain⟨h1,h2⟩:=hC rfl;obtain⟨c1,l1,e1,g1,g2,g3⟩:=Vv (v':=v') h1 vt ω hc;refine⟨c1,l1,e1,g1,g2,?_,fun h0=>?_,fun c' l' e' h=>⟨h.c,?_⟩⟩
  ·omega
  ·rcases g3 with⟨_,g⟩| ⟨g,_⟩
   ·have:=Rj g;exact⟨(ON h1 vt g).1,by omega⟩
   omega
  ·rcases g3 with⟨g,k⟩| ⟨g,k,_⟩
   ·rcases h.r with⟨q1,_,q2⟩| ⟨q1,q2⟩
    ·unfold lB;grind
    ·unfold lB;grind
   ·rcases h.r with⟨_,q1,_⟩| ⟨q1,_⟩
    ·omega
    ·unfold lB;grind
 ·refine⟨c,l,9,aa9 hc δ,hc,.inr rfl,fun h=>by omega,fun c' l' e' h=>⟨h.c,?_⟩⟩;rcases h.r with⟨_,q1,_⟩| ⟨q1,_⟩
  all_goals omega
def ajR{v v'}{T}(hT:∀t∈T,VT v t)(hn:O T<=100000):∀ (k i:Nat),i+k=O T->∀c l e,oB c l->(e=0\/e=9)->(e=0->Cl v l/\O l+k<=1000000)->
  ∀s h,s 4=ac 4->s 6=ac 2128->s 22=.sl 4 (aU T)->s 23=I (O T)->s 24=I i->h 4=.bx [I 0,.emp]->h 2128=t3 v' c e->
  ∃hh c' l' e',ao 0 [4,6] (aB (am R (aA false) wU) [4,6,22,23,24] [4,2128] s h)=some (.normal,⟨upd (upd ce 6 (ac 2128)) 4 (ac 4),hh⟩)/\
   hh 4=.bx [I 0,.emp]/\hh 2128=t3 v' c' e'/\(∀a,a≠4->a≠2128->hh a=.dead)/\ColE v l (T.drop i) e c' l' e':=by
 intro k;induction k with
 |zero=>
  intro i hi c l e hc he hC s h h4 h6 h22 h23 h24 k4 k6;have e1:=aP ((i:Int)<O T);have ho:=(me (v:=v') (e:=e) hc).cl [4,2128];rw[ai];refine⟨?hh0,c,l,e,?_,?_,?_,?_,?_⟩;rotate_left
  ·simp only[wU,go_sem,h4,h6,h22,h23,h24,k4,k6,ho,e1];rfl
  ·rfl
  ·rfl
  ·simp_all[cz,if_false]
  ·rw[aFq ω];refine⟨hc,?_⟩;rcases he with rfl|rfl
   ·exact .inl ⟨rfl,rfl,rfl⟩
   omega
 |succ k ih=>
  intro i hi c l e hc he hC s h h4 h6 h22 h23 h24 k4 k6;have hlt:i<O T:=ω
  have e1:=aa ((i:Int)<O T);have e2:=kV rfl (aE1 hlt);have e5:aG (i+1)=(i+1:Nat):=wi;have ho:=(me (v:=v') (e:=e) hc).cl [4,2128];have hdl:O (T.drop (i+1))=k:=γ
  obtain⟨c1,l1,ee,g1,g2,g3,g4,g5⟩:=ColE.step (ts:=T.drop (i+1)) hc he (fun h=>by grind) (hT _ (aFg hlt)) (v':=v');rw[hdl]at g4;have ih':=ih (i+1) ω c1 l1 ee g2 g3 g4;rw[aFe hlt,ai];have hcall:=fun(h:aj) (hh:h 2128=t3 v' c e) d=>dQ (aV.1.2.1 false) rfl (qK (d:=d) hh hc g2 g1);simp only[af,ak]at hcall;simp only[dE]at e2;simp only[wU,go_sem,h4,h6,h22,h23,h24,k4,k6,ho,e1,e2];rw[hcall _ rfl];simp only[go_sem,e5];refine(ih' _ _ ?_ ?_ ?_ ?_ ?_ ?_ ?_).imp fun hh ⟨c',l',e',q1,q2,q3,q4,q5⟩=>⟨c',l',e',q1,q2,q3,q4,g5 _ _ _ q5⟩
  all_goals rfl
theorem aes:Uh .emp=some (I 0):=rfl
theorem abk(h):KB h .emp=h:=rfl
theorem ahq:gA 4 .emp none (some (I 0)) none=some .emp:=rfl
def am8{h}{d}{z}{n:Nat}(h0:0<n)(h1:n<=1000000):Iv h d 4 64 z .emp (I n)=dH h d 4 (aER n z) n []:=by
 simp only[Iv];grind
def am9:R 179 [.emp,I 0] []=some (.emp,[]):=by
 refine au rD ?_;have e1:((0:Int)<0)=False:=ff δ;have w1:aG (0-0)=0:=δ
 simp only[gN,go_sem,e1,w1,aes,abk]
def ana{n:Nat}(h0:0<n)(h1:n<=1000000):R 179 [.emp,I n] []=some (.osl 4 [],[]):=by
 refine au rD ?_;have e1:=aP ((n:Int)<0);have e2:=aa (0< (n:Int));have w0:aG (0-0)=0:=δ
 have w1:aG (n-0)=n:=wi;have e5:gA 4 (.rsl 22 none 4 0 n) none (some (I 0)) none=some (.rsl 22 none 4 0 0):=by
  simp[gA,nc,mS]
 have e4:=fun h d z=>am8 (h:=h) (d:=d) (z:=z) h0 h1;simp only[gN,go_sem,e1,e2,e4,w0,w1,aes,abk,ahq,e5,List.take_zero]
 done
def ajS{a b}(ha:O a<=100000)(hb:O b<=100000):R 123 [.sl 1 [[.sl 4 (aU a)],[.sl 4 (aU b)]]] []=some (.sl 4 (aU (a++b)),[]):=by
 refine au AU ?_;have w1:aG (0+O a)=O a:=wi;have w2:aG (O a+O b)=(O a+O b:Nat):=wi;have e1:=aP ((O a:Int)<0);have e2:=aP (((O a+O b:Nat):Int)<0);have c1:(0< ((0+1+1:Nat):Int))=True:=tt δ;have c2:(1< ((0+1+1:Nat):Int))=True:=tt δ;have c3:(2< ((0+1+1:Nat):Int))=False:=ff δ;have r0:dF [[AV.sl 4 (aU a)],[.sl 4 (aU b)]] 0=some (.ipt [.sl 4 (aU a)]):=rfl;have r1:dF [[AV.sl 4 (aU a)],[.sl 4 (aU b)]] 1=some (.ipt [.sl 4 (aU b)]):=rfl;have i1:aG (0+1)=1:=δ
 have i2:aG (1+1)=2:=δ
 simp only[jt,pH,go_sem,aFk,aFs];rw[ai];simp only[nK,go_sem,c1,r0,w1,e1,i1];rw[ai];simp only[go_sem,c2,r1,w2,e2,i2];rw[ai];simp only[go_sem,c3];by_cases hz:O a+O b=0
 ·have ea:a=[]:=List.length_eq_zero_iff.1 ω;have eb:b=[]:=List.length_eq_zero_iff.1 ω;subst ea eb;have hg:=am9;have a0:∀h d,Qh h d 4 64 .emp (.sl 4 [])=some (.emp,h,[]):=fun h d=>rfl;have hcr:mR (fun _=>.dead) 24 (some (.emp,[]))=some (.emp,fun _=>.dead,[]):=rfl;rw[show aU []=[]from rfl]at*
  simp only[go_sem,hg,hcr,aFs,aFA,aFz];rw[ai];simp only[iM,go_sem,c1,r0,i1,a0];rw[ai];simp only[go_sem,c2,r1,i2,a0];rw[ai];rfl
 ·have hg:=ana (n:=O a+O b) ω ω;have b1:=aa (O a*64<=140737488355328);have b2:=aa ((O a+O b)*64<=140737488355328);simp only[go_sem,hg,aFs];rw[ai];simp only[iM,go_sem,c1,r0,i1,b1,or_true,aES,aE5,aFs];rw[ai];simp only[go_sem,c2,r1,i2,b2,or_true];rw[ai];simp only[go_sem,c3,aES];have hl:O (aU a++aU b)=O a+O b:=by grind[List.length_append,sz]
  have hab:aU a++aU b=aU (a++b):=by simp[aU]
  rw[hl,ap (aET _),ap rfl,hab];have h:=Ka (a++b);show some (AV.sl 4 ((aU (a++b)).map _),[])=_;rw[h]
theorem qL(h)(d)(v):mR h d (some (.obx [I v,.emp,I 0],[]))=if bS (h (2000+8*d))=true then some (.ref (2000+8*d) none 0 0 0,upd h (2000+8*d) (.bx [I v,.emp,I 0]),[])else none:=by
 simp[mR,cV,bV,kZ,gR,qh,aI,bI,mat,eS]
def asZ{v v'}{T}(hT:∀t∈T,VT v t)(hn:O T<=100000)(s)(h)(X)(hX:ao 0 [4,6] (aB (am R (aA false) wU) [4,6,22,23,24] [4,2128] s h)=X)(h4:s 4=ac 4)(h6:s 6=ac 2128)(h22:s 22=.sl 4 (aU T))(h23:s 23=I (O T))(h24:s 24=I 0)(k4:h 4=.bx [I 0,.emp])(k6:h 2128=t3 v' .emp 0):
  ∃hh c' l' e',X=some (.normal,⟨upd (upd ce 6 (ac 2128)) 4 (ac 4),hh⟩)/\
   hh 4=.bx [I 0,.emp]/\hh 2128=t3 v' c' e'/\(∀a,a≠4->a≠2128->hh a=.dead)/\ColE v [] T 0 c' l' e':=by
 subst hX;exact ajR hT hn (O T) 0 (aES _) .emp [] 0 (.inr ⟨rfl,rfl⟩) (.inl rfl) (fun _=>⟨Cl.nil _,by grind⟩) s h h4 h6 h22 h23 h24 k4 k6
def aet{a b}(oa:OkP a)(ob:OkP b):R 54 [bj a,bj b] []=some (pV (EF a b),[]):=by
 refine au agU ?_;have hp:=Vy oa ob;simp only[bj]at hp;unfold EF;cases hb:DB a b with
 |false=>
  rw[hb]at hp;simp only[E6,KV,bj,go_sem,hp];rfl
 |true=>
  rw[hb]at hp;obtain⟨va,vb,hv⟩:=oF.1 hb;obtain⟨ca,a0,a8,al⟩:=gw oa va;obtain⟨cb,b0,b8,bl⟩:=gw ob vb;rw[←hv]at cb;have hT:∀t∈a.terms++b.terms,VT a.vars t:=fun t ht=>by
   rcases List.mem_append.1 ht with ht|ht
   ·exact ca.t t ht
   ·exact cb.t t ht
  have hemp:=B1 (v:=a.vars);have hcat:=ajS (a:=a.terms) (b:=b.terms) ω ω;have hl:=asZ (v':=a.vars) hT γ;simp only[E6,KV,bj,go_sem,hp,hemp,qL,hcat,aFk,aFs];generalize hX:ao 0 [4,6] _=X;obtain⟨hh,c',l',e',rfl,q2,q3,q4,q5⟩:=hl _ _ _ hX Z Z Z Z Z Z Z;obtain⟨o,hd⟩:=Cz (d:=36) q3 q5.c (by grind[bV,bS]);have hd':=dQ (bE.1.2.1 false) rfl hd;rw[q5.fin]at hd';simp only[pV,bj,go_sem,q2,hd']
def aqh{v}{t}(vt:VT v t):R 132 [af t.c] []=some (af (qD t).c,[]):=by
 have h:=Dz vt.c;have hvc:=vt.vc;rw[av (by rw[hvc];exact fun h=>h.elim (fun h=>by cases h) vt.nz)]at h;exact h
def t2(v:Int)(c:AV):Ob:=.bx [I v,c]
def aoP{v}{c}{l}(hc:oB c l)(ids):aE ids (t2 v c)=true:=by
 rcases hc with rfl| ⟨rfl,_⟩<;>rfl
def ajT{v v'}{a:Rp}{T}(hT:∀t∈T,VT v t)(hn:O T<=100000){o3}(ho3:aE [2,3,4,6] o3=true):∀ (k i:Nat),i+k=O T->∀c,oB c ((T.take i).map qD)->
  ∀s h,s 2=ac 2->s 4=ac 4->s 6=ac 6->s 18=.sl 4 (aU T)->s 19=I (O T)->s 20=I i->h 2=.bx [I a.vars,.sl 4 (aU a.terms)]->h 3=o3->h 4=.bx [I 0,.emp]->h 6=t2 v' c->
  ∃hh c',ao 0 [2,4,6] (aB (am R (aA false) rZ) [2,4,6,18,19,20] [2,3,4,6] s h)=some (.normal,⟨upd (upd (upd ce 6 (ac 6)) 4 (ac 4)) 2 (ac 2),hh⟩)/\
   hh 2=.bx [I a.vars,.sl 4 (aU a.terms)]/\hh 4=.bx [I 0,.emp]/\hh 6=t2 v' c'/\(∀a,a≠2->a≠3->a≠4->a≠6->hh a=.dead)/\oB c' (T.map qD):=by
 intro k;induction k with
 |zero=>
  intro i hi c hc s h h2 h4 h6 h18 h19 h20 k2 k3 k4 k6;have e1:=aP ((i:Int)<O T);rw[aFi ω]at hc;have ho:=aoP (v:=v') hc [2,3,4,6];rw[ai];refine⟨?hh0,c,?_,?_,?_,?_,?_,hc⟩;rotate_left
  ·simp only[rZ,go_sem,h2,h4,h6,h18,h19,h20,k2,k3,k4,k6,ho,ho3,e1];rfl
  ·rfl
  ·rfl
  ·rfl
  ·intro a a1 a2 a3 a4;simp only[cz,if_false, *]
 |succ k ih=>
  intro i hi c hc s h h2 h4 h6 h18 h19 h20 k2 k3 k4 k6;have hlt:i<O T:=ω
  have e1:=aa ((i:Int)<O T);have e2:=kV rfl (aE1 hlt);have e5:aG (i+1)=(i+1:Nat):=wi;have hng:=aqh (hT _ (aFg hlt));have ho:=aoP (v:=v') hc [2,3,4,6];have ih':=ih (i+1) ω;rw[List.take_succ_eq_append_getElem hlt,List.map_append,List.map_singleton]at ih';have hlen:O ((T.take i).map qD)=i:=by rw[aFh,aFm];omega
  generalize T[i]=t at e2 hng ih';generalize(T.take i).map qD=l at hc ih' hlen;rw[ai];generalize aB _ _ _=L at ih'⊢;simp only[af,ak,qD]at hng;simp only[dE]at e2;rcases hc with rfl| ⟨rfl,rfl⟩
  ·simp only[t2]at k6;have b1:=aa ((O l+1)*64<=140737488355328);simp only[rZ,go_sem,h2,h4,h6,h18,h19,h20,k2,k3,k4,k6,ho3,e1,e2,hng,b1,true_or];rw[ap (by rfl),Au rfl (by rw[List.length_append,sz];rfl) rfl δ (by show 1<2;decide)];simp only[go_sem,e5];refine(ih' (.osl 4 (aU l++[[.sl 1 (aY t.exps),B (!t.c.neg),lm t.c.m,I t.c.e]])) (.inl ?_) _ _ ?_ ?_ ?_ ?_ ?_ ?_ ?_ ?_ ?_ ?_).imp fun hh ⟨c',q⟩=>⟨c',q⟩
   ·simp[aU,dE,qD]
   all_goals rfl
  ·simp only[t2]at k6;simp only[rZ,go_sem,h2,h4,h6,h18,h19,h20,k2,k3,k4,k6,ho3,e1,e2,hng];rw[ap (by rfl),Au rfl (show 1=List.length [[AV.sl 1 (aY t.exps),B (!t.c.neg),lm t.c.m,I t.c.e]]from rfl) rfl δ (by show 1<2;decide)];simp only[go_sem,e5];refine(ih' (.osl 4 [[.sl 1 (aY t.exps),B (!t.c.neg),lm t.c.m,I t.c.e]]) (.inl ?_) _ _ ?_ ?_ ?_ ?_ ?_ ?_ ?_ ?_ ?_ ?_).imp fun hh ⟨c',q⟩=>⟨c',q⟩
   all_goals rfl
def as0{v v'}{T}(hT:∀t∈T,VT v t)(hn:O T<=100000){o3}(ho3:aE [2,3,4,6] o3=true)(s)(h)(X)(hX:ao 0 [2,4,6] (aB (am R (aA false) rZ) [2,4,6,18,19,20] [2,3,4,6] s h)=X)
  (h2:s 2=ac 2) (h4:s 4=ac 4) (h6:s 6=ac 6) (h18:s 18=.sl 4 (aU T)) (h19:s 19=I (O T)) (h20:s 20=I 0) (k2:h 2=.bx [I a.vars,.sl 4 (aU a.terms)]) (k3:h 3=o3) (k4:h 4=.bx [I 0,.emp]) (k6:h 6=.bx [I v',.emp]):
  ∃hh c',X=some (.normal,⟨upd (upd (upd ce 6 (ac 6)) 4 (ac 4)) 2 (ac 2),hh⟩)/\
   hh 2=.bx [I a.vars,.sl 4 (aU a.terms)]/\hh 4=.bx [I 0,.emp]/\hh 6=t2 v' c'/\(∀a,a≠2->a≠3->a≠4->a≠6->hh a=.dead)/\oB c' (T.map qD):=by
 subst hX;exact ajT hT hn ho3 (O T) 0 (aES _) .emp (.inr ⟨rfl,rfl⟩) s h h2 h4 h6 h18 h19 h20 k2 k3 k4 k6
def aqi{a b}(_oa:OkP a)(ob:OkP b)(h:DB a b=true):OkP ⟨b.vars,b.terms.map qD⟩/\EF a ⟨b.vars,b.terms.map qD⟩=BY a b:=by
 obtain⟨va,vb,hv⟩:=oF.1 h;obtain⟨cb,b0,b8,bl⟩:=gw ob vb;have hp:∀l,Cl b.vars l->Cl b.vars (l.map qD):=by
  intro l;induction l with
  |nil=>exact fun c=>c
  |cons t l ih=>
   intro c;obtain⟨c1,c2,c3⟩:=c.cons;refine Cl.mk' (OR c1) (fun x hx=>?_) (ih c3);obtain⟨q,hq,rfl⟩:=List.mem_map.1 hx;exact c2 q hq
 have hn:=hp _ cb;refine⟨pX hn,?_⟩;have h2:=oF.2 ⟨va,Lx hn b0 b8 (by rw[aFh];exact bl),hv⟩;unfold EF BY;rw[ap h2,ap h]
def aqj{a b}(oa:OkP a)(ob:OkP b):R 57 [bj a,bj b] []=some (pV (BY a b),[]):=by
 refine au agV ?_;have hp:=Vy oa ob;simp only[bj]at hp;cases hb:DB a b with
 |false=>
  rw[hb]at hp;unfold BY;rw[hb,av aE3];simp only[E7,KW,bj,go_sem,hp];rfl
 |true=>
  rw[hb]at hp;obtain⟨va,vb,hv⟩:=oF.1 hb;obtain⟨cb,b0,b8,bl⟩:=gw ob vb;obtain⟨on,e1⟩:=aqi oa ob hb;have hadd:=aet oa on;rw[e1]at hadd;have hl:=as0 (v':=b.vars) (a:=a) (T:=b.terms) cb.t ω (o3:=.bx [I b.vars,.sl 4 (aU b.terms)]) rfl;simp only[E7,KW,bj,go_sem,hp];generalize hX:ao 0 [2,4,6] _=X;obtain⟨hh,c',rfl,q2,q3,q4,q5,q6⟩:=hl _ _ _ hX Z Z Z Z Z Z Z Z Z Z;have d1:hh 2304=.dead:=q5 _ δ δ δ δ;have d2:hh 2305=.dead:=q5 _ δ δ δ δ;generalize BY a b=r at hadd⊢;obtain⟨r1,r2⟩:=r;simp only[pV,bj]at hadd;rcases q6 with rfl| ⟨rfl,q6⟩
  ·simp only[t2]at q4;simp only[pV,bj,go_sem,q2,q3,q4,d1,d2,Bk,zG,hadd]
  ·simp only[t2]at q4;rw[q6]at hadd;rw[show aU []=[]from rfl]at hadd;simp only[pV,bj,go_sem,q2,q3,q4,d1,d2,hadd]
theorem lmB(m):(aS m).map (fun r=>match r with|[.v (.int _ x)]=>x.toNat|_=>0)=m:=by
 grind[aS,List.map_map,aFn,aFH]
theorem izB(m):(aY m).map (fun r=>match r with|[.v (.int _ x)]=>x|_=>0)=m:=by
 grind[aY,List.map_map,aFn,aFH]
def tmB:List AV->Rt
 |[.sl _ m1,.v (.bool n2),.sl _ m2,.v (.int _ e2)]=>⟨m1.map (fun r=>match r with|[.v (.int _ x)]=>x|_=>0),⟨n2,m2.map (fun r=>match r with|[.v (.int _ x)]=>x.toNat|_=>0),e2⟩⟩
 |_=>⟨[],aC⟩
def avX(t):tmB (dE t)=t:=by
 show⟨(aY t.exps).map _,⟨t.c.neg,(aS t.c.m).map _,t.c.e⟩⟩=t;rw[lmB,izB]
def plC(a:Rp):List AV:=[I a.vars,.sl 4 (aU a.terms)]
def plR(l:List Rp):List (List AV):=l.map plC
@[go_sem] theorem aCN(l):O (plR l)=O l:=by simp[plR]
@[go_sem] theorem aAg(l):(aU l).map (fj [aR,a9,a9,a9])=aU l:=by
 refine vO fun x hx=>?_;simp only[aU,aFN]at hx;obtain⟨t,ht,rfl⟩:=hx;simp only[dE,go_sem]
@[go_sem] theorem aCO(l):(plR l).map (fj [a9,.o 5 [aR,a9,a9,a9]])=plR l:=by
 refine vO fun x hx=>?_;simp only[plR,aFN]at hx;obtain⟨t,ht,rfl⟩:=hx;simp only[plC,go_sem]
structure Res (r:Rp×Int):Prop where
 cl:Cl r.1.vars r.1.terms
 len:O r.1.terms<=100000
 z:r.2=0\/r.1=p0
theorem aeu(l)(n)(x):(aY l).set n [I x]=aY (l.set n x):=by simp[aY,List.map_set]
def anb{a b}{i:Nat}{x y}(hx:a[i]?=some x)(hy:b[i]?=some y):(pA a b)[i]?=some (x+y):=by
 unfold pA;rw[List.getElem?_zipWith,hx,hy]
def Mh(a b:List Int)(i:Nat):List Int:=(pA a b).take i++a.drop i
def aqk{a b}(h:O a=O b){i}{x}(hx:a[i]?=some x):(Mh a b i)[i]?=some x:=by
 have hlt:=(List.getElem?_eq_some_iff.1 hx).1;unfold Mh;rw[List.getElem?_append_right (by rw[aFm,BZ h];omega),aFm,BZ h,List.getElem?_drop,show i+(i-min i (O a))=i by omega];exact hx
def aql{a b}(h:O a=O b){i}{x y}(hx:a[i]?=some x)(hy:b[i]?=some y):(Mh a b i).set i (x+y)=Mh a b (i+1):=by
 have hlt:=(List.getElem?_eq_some_iff.1 hx).1;have hg:=anb hx hy;have hlen:=BZ h;unfold Mh;have ht:O ((pA a b).take i)=i:=by rw[aFm];omega
 rw[List.set_append_right _ _ ω,ht,Nat.sub_self,aFe hlt,List.set_cons_zero,List.take_succ_eq_append_getElem ω,aFO];have:=(List.getElem?_eq_some_iff.1 hg).2;rw[this];rfl
theorem aqm{a b}(h:O a=O b){i}(hi:O a<=i):Mh a b i=pA a b:=by
 unfold Mh;rw[aFi (by rw[BZ h];omega),aFq hi,aE8]
def ajV{v}{p q}(vp:VT v p)(vq:VT v q){A Bt}{nA iA nB iB}{o2 o3 o4 o8 o10 o11 o2352}(c2:aE [2,3,4,8,10,11,2352,2576] o2=true)(c3:aE [2,3,4,8,10,11,2352,2576] o3=true)(c4:aE [2,3,4,8,10,11,2352,2576] o4=true)(c8:aE [2,3,4,8,10,11,2352,2576] o8=true)(c10:aE [2,3,4,8,10,11,2352,2576] o10=true)(c11:aE [2,3,4,8,10,11,2352,2576] o11=true)(cc:aE [2,3,4,8,10,11,2352,2576] o2352=true):
  ∀k i,i+k=O p.exps->∀s h,s 3=ac 3->s 4=ac 4->s 6=ac 2352->s 8=ac 8->s 11=ac 11->s 13=.rsl 2576 none 1 0 (O p.exps)->s 46=.sl 4 (aU A)->s 47=I nA->s 48=I iA->s 53=.sl 4 (aU Bt)->s 54=I nB->s 55=I iB->s 74=.sl 1 (aY q.exps)->s 75=I (O q.exps)->s 76=I i->h 2=o2->h 3=o3->h 4=o4->h 8=o8->h 10=o10->h 11=o11->h 2352=o2352->h 2576=.ar 1 (aY (Mh p.exps q.exps i))->
  ∃hh,ao 5 [3,4,6,8,11,13,46,47,48,53,54,55] (aB (am R (aA false) mH) [3,4,6,8,11,13,46,47,48,53,54,55,74,75,76] [2,3,4,8,10,11,2352,2576] s h)=some (.normal,⟨upd (upd (upd (upd (upd (upd (upd (upd (upd (upd (upd (upd ce 55 (I iB)) 54 (I nB)) 53 (.sl 4 (aU Bt))) 48 (I iA)) 47 (I nA)) 46 (.sl 4 (aU A))) 13 (.rsl 2576 none 1 0 (O p.exps))) 11 (ac 11)) 8 (ac 8)) 6 (ac 2352)) 4 (ac 4)) 3 (ac 3),hh⟩)/\
   hh 2=o2/\hh 3=o3/\hh 4=o4/\hh 8=o8/\hh 10=o10/\hh 11=o11/\hh 2352=o2352/\hh 2576=.ar 1 (aY (pA p.exps q.exps))/\∀a,a≠2->a≠3->a≠4->a≠8->a≠10->a≠11->a≠2352->a≠2576->hh a=.dead:=by
 have hl:=vp.l2 vq;have hs:=vp.ok.len;intro k;induction k with
 |zero=>
  intro i hi s h g3 g4 g6 g8 g11 g13 g46 g47 g48 g53 g54 g55 g74 g75 g76 k2 k3 k4 k8 k10 k11 k2352 k2576;have e1:=aP (i< (O q.exps:Int));rw[aqm hl ω]at k2576;rw[ai];refine⟨?hh0,?_,?_,?_,?_,?_,?_,?_,?_,?_,?_⟩;rotate_left
  ·simp only[mH,go_sem,g3,g4,g6,g8,g11,g13,g46,g47,g48,g53,g54,g55,g74,g75,g76,k2,k3,k4,k8,k10,k11,k2352,k2576,c2,c3,c4,c8,c10,c11,cc,e1];rfl
  all_goals first|rfl| (intro a a1 a2 a3 a4 a5 a6 a7 a8;simp only[cz,if_false, *])
 |succ k ih=>
  intro i hi s h g3 g4 g6 g8 g11 g13 g46 g47 g48 g53 g54 g55 g74 g75 g76 k2 k3 k4 k8 k10 k11 k2352 k2576;have hlt:i<O p.exps:=ω
  have hlt2:i<O q.exps:=ω
  have e1:=aa (i< (O q.exps:Int));have hq:=aE1 hlt2;have hp:=aE1 hlt;have e2:=vE rfl hq;have e3:=aqk hl hp (b:=q.exps);have e3':(aY (Mh p.exps q.exps i))[i]?=some [I p.exps[i]]:=by simp[aY,e3]
  have e4:=aql hl hp hq;have b1:=vp.b _ (aFg hlt);have b2:=vq.b _ (aFg hlt2);have e5:aG (i+1)=(i+1:Nat):=wi;have e6:(0<=(i:Int)/\i< (O p.exps:Int))=True:=eq_true ⟨by omega,by omega⟩;have e7:aG (p.exps[i]+q.exps[i])=p.exps[i]+q.exps[i]:=i64_in _ ⟨by omega,by omega⟩;have ih':=ih (i+1) ω;rw[←e4,←aeu]at ih';generalize p.exps[i]=x at e3' e7 ih';generalize q.exps[i]=y at e2 e7 ih';rw[ai];generalize aB _ _ _=L at ih'⊢;simp only[mH,go_sem,g3,g4,g6,g8,g11,g13,g46,g47,g48,g53,g54,g55,g74,g75,g76,k2,k3,k4,k8,k10,k11,k2352,k2576,c2,c3,c4,c8,c10,c11,cc,e1,e2,e3',e5,e6,e7,aEY,aES];apply ih'<;>rfl
def as2{v}{p q}(vp:VT v p)(vq:VT v q){A Bt}{nA iA nB iB}{o2 o3 o4 o8 o10 o11 o2352}(s)(h)(X)(hX:ao 5 [3,4,6,8,11,13,46,47,48,53,54,55] (aB (am R (aA false) mH) [3,4,6,8,11,13,46,47,48,53,54,55,74,75,76] [2,3,4,8,10,11,2352,2576] s h)=X)
  (g3:s 3=ac 3) (g4:s 4=ac 4) (g6:s 6=ac 2352) (g8:s 8=ac 8) (g11:s 11=ac 11) (g13:s 13=.rsl 2576 none 1 0 (O p.exps)) (g46:s 46=.sl 4 (aU A)) (g47:s 47=I nA) (g48:s 48=I iA) (g53:s 53=.sl 4 (aU Bt)) (g54:s 54=I nB) (g55:s 55=I iB) (g74:s 74=.sl 1 (aY q.exps)) (g75:s 75=I (O q.exps)) (g76:s 76=I 0) (k2:h 2=o2) (k3:h 3=o3) (k4:h 4=o4) (k8:h 8=o8) (k10:h 10=o10) (k11:h 11=o11) (k2352:h 2352=o2352) (k2576:h 2576=.ar 1 (aY p.exps)) (c2:aE [2,3,4,8,10,11,2352,2576] o2=true) (c3:aE [2,3,4,8,10,11,2352,2576] o3=true) (c4:aE [2,3,4,8,10,11,2352,2576] o4=true) (c8:aE [2,3,4,8,10,11,2352,2576] o8=true) (c10:aE [2,3,4,8,10,11,2352,2576] o10=true) (c11:aE [2,3,4,8,10,11,2352,2576] o11=true) (c2352:aE [2,3,4,8,10,11,2352,2576] o2352=true):
  ∃hh,X=some (.normal,⟨upd (upd (upd (upd (upd (upd (upd (upd (upd (upd (upd (upd ce 55 (I iB)) 54 (I nB)) 53 (.sl 4 (aU Bt))) 48 (I iA)) 47 (I nA)) 46 (.sl 4 (aU A))) 13 (.rsl 2576 none 1 0 (O p.exps))) 11 (ac 11)) 8 (ac 8)) 6 (ac 2352)) 4 (ac 4)) 3 (ac 3),hh⟩)/\hh 2=o2/\hh 3=o3/\hh 4=o4/\hh 8=o8/\hh 10=o10/\hh 11=o11/\hh 2352=o2352/\hh 2576=.ar 1 (aY (pA p.exps q.exps))/\∀a,a≠2->a≠3->a≠4->a≠8->a≠10->a≠11->a≠2352->a≠2576->hh a=.dead:=by
 subst hX;have hc:Mh p.exps q.exps 0=p.exps:=by simp[Mh]
 rw[←hc]at k2576;exact ajV vp vq c2 c3 c4 c8 c10 c11 c2352 (O p.exps) 0 (aES _) s h g3 g4 g6 g8 g11 g13 g46 g47 g48 g53 g54 g55 g74 g75 g76 k2 k3 k4 k8 k10 k11 k2352 k2576
def ColE.stepN{v}{l}{t}{c}(hc:oB c l){e}(he:e=0\/e=9)(N)(hC:e=0->Cl v l/\O l+N+1<=1000000)(vt:VT v t){v'}:
  ∃c1 l1 e1,R 124 [ac 1000,.sl 1 (aY t.exps),af t.c] [t3 v' c e]=some (.tup [],[t3 v' c1 e1])/\oB c1 l1/\(e1=0\/e1=9)/\(e1=0->Cl v l1/\O l1+N<=1000000)/\∀ts c' l' e',ColE v l1 ts e1 c' l' e'->ColE v l (t::ts) e c' l' e':=by
 obtain⟨c1,l1,e1,g1,g2,g3,g4,_⟩:=ColE.step (ts:=aER N t) hc he (by rw[aFU];exact hC) vt (v':=v');rw[aFU]at g4;refine⟨c1,l1,e1,g1,g2,g3,g4,fun ts c' l' e' h=>?_⟩;rcases he with rfl|rfl
 ·obtain⟨h1,h2⟩:=hC rfl;obtain⟨c2,l2,e2,k1,k2,k3⟩:=Vv (v':=v') h1 vt ω hc;rw[k1]at g1;simp only[Option.some.injEq,Prod.mk.injEq,List.cons.injEq,and_true,true_and,t3,Ob.bx.injEq,AV.v.injEq,Value.int.injEq]at g1;obtain⟨rfl,rfl⟩:=g1;have hl:l2=l1:=by
   rcases k2 with rfl| ⟨rfl,rfl⟩
   ·rcases g2 with g2| ⟨g2,_⟩
    ·simp only[AV.osl.injEq,true_and]at g2;have:=congrArg (List.map tmB) g2;unfold aU at this;rw[List.map_map,List.map_map]at this;have hid:∀l:List Rt,l.map (tmB∘dE)=l:=fun l=>(aFn (g:=fun c=>c) fun x _=>avX x).trans (aFH l);rw[hid,hid]at this;exact this
    ·cases g2
   ·rcases g2 with g2| ⟨_,g2⟩
    ·cases g2
    ·exact g2.symm
  subst hl;refine⟨h.c,?_⟩;rcases k3 with⟨g,k⟩| ⟨g,k,_⟩
  ·subst g;rcases h.r with⟨q1,_,q2⟩| ⟨q1,q2⟩
   ·refine .inl ⟨q1,rfl,?_⟩;unfold lB;rw[k];exact q2
   ·refine .inr ⟨q1,fun _=>?_⟩;unfold lB;rw[k];exact q2 rfl
  ·subst g;rcases h.r with⟨_,q1,_⟩| ⟨q1,_⟩
   ·omega
   ·refine .inr ⟨q1,fun _=>?_⟩;unfold lB;rw[k];rfl
 ·refine⟨h.c,?_⟩;have:=aa9 (v:=v') (x:=.sl 1 (aY t.exps)) (d:=t.c) hc (by decide:(9:Int)≠0);rw[this]at g1;simp only[Option.some.injEq,Prod.mk.injEq,List.cons.injEq,and_true,true_and,t3,Ob.bx.injEq,AV.v.injEq,Value.int.injEq]at g1;obtain⟨_,rfl⟩:=g1;rcases h.r with⟨_,q1,_⟩| ⟨q1,_⟩
  ·omega
  ·exact .inr ⟨q1,fun h=>by omega⟩
def LA(blk:Option (Ex×St))(S:aM)(o2 o3:Ob)(v v':Int)(l:List Rt)(e:Int):Option (List Rt)->Prop
 |some r=>∃hh c' l' e',blk=some (.normal,⟨S,hh⟩)/\hh 2=o2/\hh 3=o3/\hh 4=.bx [I 0,.emp]/\hh 2352=t3 v' c' e'/\(∀a,a≠2->a≠3->a≠4->a≠8->a≠2352->hh a=.dead)/\ColE v l r e c' l' e'
 |none=>∃hh,blk=some (.ret,⟨upd (upd ce 5 (I 9)) 4 (ac 4),hh⟩)/\hh 4=.bx [I 0,.emp]
def ajW{v v'}{p}(vp:VT v p){A Bt}(hB:∀q∈Bt,VT v q/\cp p.exps+cp q.exps<=32)(hn:O Bt<=100000){nA iA}{o2}(c2:∀ids,aE ids o2=true){vb}:
  ∀ (k i:Nat),i+k=O Bt->∀c l e,oB c l->(e=0\/e=9)->(e=0->Cl v l/\O l+k<=1000000)->∀s h,s 3=ac 3->s 4=ac 4->s 6=ac 2352->s 8=ac 8->s 46=.sl 4 (aU A)->s 47=I nA->s 48=I iA->s 53=.sl 4 (aU Bt)->s 54=I (O Bt)->s 55=I i->h 2=o2->h 3=.bx [I vb,.sl 4 (aU Bt)]->h 4=.bx [I 0,.emp]->h 8=.bx (dE p)->h 2352=t3 v' c e->
  LA (ao 3 [3,4,6,46,47,48] (aB (am R (aA false) mI) [3,4,6,8,46,47,48,53,54,55] [2,3,4,8,2352] s h)) (upd (upd (upd (upd (upd (upd ce 48 (I iA)) 47 (I nA)) 46 (.sl 4 (aU A))) 6 (ac 2352)) 4 (ac 4)) 3 (ac 3)) o2 (.bx [I vb,.sl 4 (aU Bt)]) v v' l e (pY p (Bt.drop i)):=by
 intro k;induction k with
 |zero=>
  intro i hi c l e hc he hC s h g3 g4 g6 g8 g46 g47 g48 g53 g54 g55 k2 k3 k4 k8 k2352;have e1:=aP (i< (O Bt:Int));have ho:=(me (v:=v') (e:=e) hc).cl [2,3,4,8,2352];have ho2:=c2 [2,3,4,8,2352];rw[aFq ω,ai];simp only[dE]at k8;refine⟨?hh0,c,l,e,?_,?_,?_,?_,?_,?_,⟨hc,?_⟩⟩;rotate_left
  ·simp only[mI,go_sem,g3,g4,g6,g8,g46,g47,g48,g53,g54,g55,k2,k3,k4,k8,k2352,ho,ho2,e1];rfl
  ·rfl
  ·rfl
  ·rfl
  ·rfl
  ·intro a a1 a2 a3 a4 a5;simp only[cz,if_false, *]
  ·rcases he with rfl|rfl
   ·exact .inl ⟨rfl,rfl,rfl⟩
   ·exact .inr ⟨rfl,fun h=>by omega⟩
 |succ k ih=>
  intro i hi c l e hc he hC s h g3 g4 g6 g8 g46 g47 g48 g53 g54 g55 k2 k3 k4 k8 k2352;have hlt:i<O Bt:=ω
  have e1:=aa ((i:Int)< (O Bt:Int));have e2:=kV rfl (aE1 hlt);have e5:aG ((i:Int)+1)=((i+1:Nat):Int):=wi;have ho:=(me (v:=v') (e:=e) hc).cl;obtain⟨vq,hd⟩:=hB _ (aFg hlt);have hmul:=OL vp.c vq.c;have hdl:O (Bt.drop (i+1))=k:=by rw[List.length_drop];omega
  rw[aFe hlt];have ih':=ih (i+1) ω;have hrow:∀q ts,pY p (q::ts)=(I3 p q).bind fun x=>(pY p ts).map (x::·):=fun q ts=>rfl;rw[hrow];generalize hqq:Bt[i]=q at e2 vq hd hmul⊢;have hVT:=fun x=>Rn (x:=x) vp vq hd;rw[ai];generalize aB _ _ _=L at ih'⊢;unfold I3 at hVT⊢;have ho1:=ho [2,3,4,8,2352];have ho2:=c2 [2,3,4,8,2352];have hle:=vp.l2 vq;simp only[dE]at k8 e2;generalize dX p.c q.c=m at hmul hVT⊢;obtain⟨m,em⟩:=m;simp only[rV,af,ak]at hmul;by_cases hm:em=0
  ·subst hm;simp only[if_true,aEZ]at hVT⊢;have vx:=hVT _ rfl;obtain⟨c1,l1,e1',s1,s2,s3,s4,s5⟩:=ColE.stepN (t:=⟨pA p.exps q.exps,m⟩) hc he k (fun h=>by have:=hC h;exact⟨this.1,by omega⟩) vx (v':=v');have ih2:=ih' c1 l1 e1' s2 s3 s4;have hcall:=fun(h:aj) (hh:h 2352=t3 v' c e) d=>dQ (aV.1.2.1 false) rfl (qK (d:=d) hh hc s2 s1);simp only[af,ak]at hcall;have hpush:∀ (S:aM) (H:aj),LA (ao 3 [3,4,6,46,47,48] (L S H)) (upd (upd (upd (upd (upd (upd ce 48 (I iA)) 47 (I nA)) 46 (.sl 4 (aU A))) 6 (ac 2352)) 4 (ac 4)) 3 (ac 3)) o2 (.bx [I vb,.sl 4 (aU Bt)]) v v' l1 e1' (pY p (Bt.drop (i+1)))->LA (ao 3 [3,4,6,46,47,48] (L S H)) (upd (upd (upd (upd (upd (upd ce 48 (I iA)) 47 (I nA)) 46 (.sl 4 (aU A))) 6 (ac 2352)) 4 (ac 4)) 3 (ac 3)) o2 (.bx [I vb,.sl 4 (aU Bt)]) v v' l e ((pY p (Bt.drop (i+1))).map (⟨pA p.exps q.exps,m⟩::·)):=fun S H h=>by
    cases hr:pY p (Bt.drop (i+1))with
    |none=>rw[hr]at h;exact h
    |some r=>
     rw[hr]at h;obtain⟨hh,c',l',e',q1,q2,q3,q4,q5,q6,q7⟩:=h;exact⟨hh,c',l',e',q1,q2,q3,q4,q5,q6,s5 _ _ _ _ q7⟩
   cases hx:p.exps with
   |nil=>
    have hcl:R 134 [lm []] []=some (lm [],[]):=WQ;have hq0:=List.length_eq_zero_iff.1 (by rw[←hle,hx];rfl);rw[hx]at hpush;rw[hx,hq0]at hcall;rw[hx]at k8;rw[hq0]at e2;have i0:aY []=[]:=rfl;have a0:pA [] []=[]:=rfl;have z0:((0:Int)<0)=False:=ff δ;have ho2':=c2 [2,3,4,8,10,11,2352,2576];have ho1':=ho [2,3,4,8,10,11,2352,2576];rw[i0]at k8 e2;rw[a0,i0,asA]at hcall;simp only[mI,go_sem,g3,g4,g6,g8,g46,g47,g48,g53,g54,g55,k2,k3,k4,k8,k2352,ho1,ho2,e1,e2,hmul,hcl,aFs,aFz];rw[ai];simp only[mH,go_sem,ho1',ho2',z0];rw[hcall _ rfl];simp only[go_sem,e5];refine hpush _ _ (ih2 _ _ Z Z Z Z Z Z Z Z Z Z Z Z Z ?_ rfl);simp only[dE,hx];rfl
   |cons x xs=>
    have hcl:R 134 [.sl 1 (aY p.exps)] []=some (.osl 1 (aY p.exps),[]):=by
     rw[hx];exact WR (by have:=vp.ok.len;rw[hx]at this;simp at this;omega)
    rw[←hx];have hX0:=as2 vp vq (A:=A) (Bt:=Bt) (nA:=nA) (iA:=iA) (nB:=O Bt) (iB:=i) (o2:=o2) (o3:=.bx [I vb,.sl 4 (aU Bt)]) (o4:=.bx [I 0,.emp]) (o8:=.bx [.sl 1 (aY p.exps),B p.c.neg,lm p.c.m,I p.c.e]) (o10:=.bx [.sl 1 (aY q.exps),B q.c.neg,lm q.c.m,I q.c.e]) (o11:=.bx [B m.neg,lm m.m,I m.e]) (o2352:=t3 v' c e);have k9:=aFi (by rw[qW,BZ hle];exact aET _);have k8l:=BZ hle;simp only[mI,go_sem,g3,g4,g6,g8,g46,g47,g48,g53,g54,g55,k2,k3,k4,k8,k2352,ho1,ho2,e1,e2,hmul,hcl];generalize hXX:ao 5 _ _=X;obtain⟨hh,rfl,q2,q3,q4,q8,q10,q11,qc,q25,qd⟩:=hX0 _ _ _ hXX Z Z Z Z Z Z Z Z Z Z Z Z Z Z Z Z Z Z Z Z Z Z Z (c2 _) Z Z Z Z Z (ho _);simp only[go_sem,q11,q25,k9,k8l,aES,aET];rw[hcall (upd hh 2576 (.fz 1 (aY (pA p.exps q.exps)))) (by rw[cz,av δ];exact qc)];simp only[go_sem,e5];refine hpush _ _ (ih2 _ _ ?_ ?_ ?_ ?_ ?_ ?_ ?_ ?_ ?_ ?_ ?_ ?_ ?_ ?_ ?_)
    all_goals first|rfl| (simp only[cz,Nat.reduceEqDiff,↓reduceIte, *];done)| (simp only[cz,Nat.reduceEqDiff,↓reduceIte,q8];rfl)
  ·have f1:=ff hm;simp only[av hm,Option.bind_none];refine⟨?hh1,?_,?_⟩;rotate_left
   ·simp only[mI,go_sem,g3,g4,g6,g8,g46,g47,g48,g53,g54,g55,k2,k3,k4,k8,k2352,ho1,ho2,e1,e2,hmul,f1];rfl
   ·rfl
def as3{v v'}{p}(vp:VT v p){A Bt}(hB:∀q∈Bt,VT v q/\cp p.exps+cp q.exps<=32)(hn:O Bt<=100000){nA iA}{o2}(c2:∀ids,aE ids o2=true){vb}
  {c} {l} {e} (hc:oB c l) (he:e=0\/e=9) (hC:e=0->Cl v l/\O l+O Bt<=1000000) (s) (h) (X) (hX:ao 3 [3,4,6,46,47,48] (aB (am R (aA false) mI) [3,4,6,8,46,47,48,53,54,55] [2,3,4,8,2352] s h)=X)
  (g3:s 3=ac 3) (g4:s 4=ac 4) (g6:s 6=ac 2352) (g8:s 8=ac 8) (g46:s 46=.sl 4 (aU A)) (g47:s 47=I nA) (g48:s 48=I iA) (g53:s 53=.sl 4 (aU Bt)) (g54:s 54=I (O Bt)) (g55:s 55=I 0) (k2:h 2=o2) (k3:h 3=.bx [I vb,.sl 4 (aU Bt)]) (k4:h 4=.bx [I 0,.emp]) (k8:h 8=.bx [.sl 1 (aY p.exps),B p.c.neg,lm p.c.m,I p.c.e]) (k2352:h 2352=t3 v' c e):
  LA X (upd (upd (upd (upd (upd (upd ce 48 (I iA)) 47 (I nA)) 46 (.sl 4 (aU A))) 6 (ac 2352)) 4 (ac 4)) 3 (ac 3)) o2 (.bx [I vb,.sl 4 (aU Bt)]) v v' l e (pY p Bt):=by
 subst hX;exact ajW vp hB hn c2 (O Bt) 0 (aES _) c l e hc he hC s h g3 g4 g6 g8 g46 g47 g48 g53 g54 g55 k2 k3 k4 k8 k2352
def ColE.app{v}{l r r2}{e}{c1}{l1}{e1}{c'}{l'}{e'}(h1:ColE v l r e c1 l1 e1)(h2:ColE v l1 r2 e1 c' l' e'):ColE v l (r++r2) e c' l' e':=by
 refine⟨h2.c,?_⟩;rw[aa6];rcases h1.r with⟨a1,a2,a3⟩| ⟨a1,a2⟩
 ·rw[a3];rcases h2.r with⟨b1,b2,b3⟩| ⟨b1,b2⟩
  ·exact .inl ⟨b1,a2,b3⟩
  ·exact .inr ⟨b1,fun _=>b2 a1⟩
 ·rcases h2.r with⟨b1,b2,b3⟩| ⟨b1,b2⟩
  ·omega
  ·exact .inr ⟨b1,fun h=>by rw[a2 h];rfl⟩
theorem ColE.nx{v}{l r}{e}{c1}{l1}{e1}(h:ColE v l r e c1 l1 e1)(hC:e=0->Cl v l)(hr:∀t∈r,VT v t):(e1=0\/e1=9)/\(e1=0->e=0/\Cl v l1/\O l1<=O l+O r):=by
 rcases h.r with⟨a1,a2,a3⟩| ⟨a1,a2⟩
 ·exact⟨.inl a1,fun _=>⟨a2,Cy (hC a2) hr a3⟩⟩
 ·exact⟨.inr a1,fun h=>by omega⟩
def ajX{v v'}{A Bt}(hA:∀p∈A,VT v p)(hB:∀q∈Bt,VT v q)(hd:∀p∈A,∀q∈Bt,cp p.exps+cp q.exps<=32)(hn:O Bt<=1000)(hm:O A<=1000){o2}(c2:∀ids,aE ids o2=true){vb}:
  ∀ (k i:Nat),i+k=O A->∀c l e,oB c l->(e=0\/e=9)->(e=0->Cl v l/\O l+k*O Bt<=1000000)->∀s h,s 3=ac 3->s 4=ac 4->s 6=ac 2352->s 46=.sl 4 (aU A)->s 47=I (O A)->s 48=I i->h 2=o2->h 3=.bx [I vb,.sl 4 (aU Bt)]->h 4=.bx [I 0,.emp]->h 2352=t3 v' c e->
  LA (ao 1 [4,6] (aB (am R (aA false) wW) [3,4,6,46,47,48] [2,3,4,2352] s h)) (upd (upd ce 6 (ac 2352)) 4 (ac 4)) o2 (.bx [I vb,.sl 4 (aU Bt)]) v v' l e (oE (A.drop i) Bt):=by
 intro k;induction k with
 |zero=>
  intro i hi c l e hc he hC s h g3 g4 g6 g46 g47 g48 k2 k3 k4 k2352;have e1:=aP (i< (O A:Int));have ho:=(me (v:=v') (e:=e) hc).cl [2,3,4,2352];have ho2:=c2 [2,3,4,2352];rw[aFq ω,ai];refine⟨?hh0,c,l,e,?_,?_,?_,?_,?_,?_,⟨hc,?_⟩⟩;rotate_left
  ·simp only[wW,go_sem,g3,g4,g6,g46,g47,g48,k2,k3,k4,k2352,ho,ho2,e1];rfl
  ·rfl
  ·rfl
  ·rfl
  ·rfl
  ·intro a a1 a2 a3 a4 a5;simp only[cz,if_false, *]
  ·rcases he with rfl|rfl
   ·exact .inl ⟨rfl,rfl,rfl⟩
   ·exact .inr ⟨rfl,fun h=>by omega⟩
 |succ k ih=>
  intro i hi c l e hc he hC s h g3 g4 g6 g46 g47 g48 k2 k3 k4 k2352;have hlt:i<O A:=ω
  have e1:=aa (i< (O A:Int));have e2:=kV rfl (aE1 hlt);have e5:aG (i+1)=(i+1:Nat):=wi;have ho:=(me (v:=v') (e:=e) hc).cl;have vp:=hA _ (aFg hlt);have hdp:=hd _ (aFg hlt);rw[aFe hlt];have ih':=ih (i+1) ω;have hall:∀q ts,oE (q::ts) Bt=(pY q Bt).bind fun r=>(oE ts Bt).map (r++·):=fun q ts=>rfl;rw[hall];generalize A[i]=p at e2 vp hdp⊢;have hl1:=as3 vp (A:=A) (Bt:=Bt) (nA:=O A) (iA:=i) (fun q hq=>⟨hB q hq,hdp q hq⟩) ω c2 (vb:=vb) (v':=v') hc he (fun h=>by have:=hC h;rw[Nat.succ_mul]at this;exact⟨this.1,by omega⟩);have hRV:=fun r=>NC (r:=r) vp (fun q hq=>⟨hB q hq,hdp q hq⟩);rw[ai];generalize aB _ _ _=L at ih'⊢;have ho1:=ho [2,3,4,2352];have ho2:=c2 [2,3,4,2352];simp only[dE]at e2;simp only[wW,go_sem,g3,g4,g6,g46,g47,g48,k2,k3,k4,k2352,ho1,ho2,e1,e2];generalize hXX:ao 3 _ _=X;have hM:=hl1 _ _ _ hXX Z Z Z Z Z Z Z Z Z Z Z Z Z Z Z;cases hr:pY p Bt with
  |none=>
   rw[hr]at hM;obtain⟨hh,rfl,q4⟩:=hM;refine⟨hh,?_,q4⟩;simp only[go_sem]
  |some r=>
   rw[hr]at hM;obtain⟨hh,c1,l1,e1',rfl,q2,q3,q4,qc,qd,qe⟩:=hM;obtain⟨w1,w2⟩:=hRV r hr;obtain⟨n1,n2⟩:=qe.nx (fun h=>(hC h).1) w1;have ih2:=ih' c1 l1 e1' qe.c n1 (fun h=>by
    obtain⟨m1,m2,m3⟩:=n2 h;have:=(hC m1).2;rw[Nat.succ_mul]at this;exact⟨m2,by omega⟩)
   simp only[aEZ];have hpush:∀S H,LA (ao 1 [4,6] (L S H)) (upd (upd ce 6 (ac 2352)) 4 (ac 4)) o2 (.bx [I vb,.sl 4 (aU Bt)]) v v' l1 e1' (oE (A.drop (i+1)) Bt)->LA (ao 1 [4,6] (L S H)) (upd (upd ce 6 (ac 2352)) 4 (ac 4)) o2 (.bx [I vb,.sl 4 (aU Bt)]) v v' l e ((oE (A.drop (i+1)) Bt).map (r++·)):=fun S H h=>by
    cases hr2:oE (A.drop (i+1)) Bt with
    |none=>rw[hr2]at h;exact h
    |some r2=>
     rw[hr2]at h;obtain⟨hh,c',l',e',q1,q2,q3,q4,q5,q6,q7⟩:=h;exact⟨hh,c',l',e',q1,q2,q3,q4,q5,q6,qe.app q7⟩
   simp only[go_sem,e5];refine hpush _ _ (ih2 _ _ ?_ ?_ ?_ ?_ ?_ ?_ ?_ ?_ ?_ ?_)
   all_goals first|rfl|assumption
def as4{v v'}{A Bt}(hA:∀p∈A,VT v p)(hB:∀q∈Bt,VT v q)(hd:∀p∈A,∀q∈Bt,cp p.exps+cp q.exps<=32)(hn:O Bt<=500)(hm:O A<=500){o2}(c2:∀ids,aE ids o2=true){vb}
  (s) (h) (X) (hX:ao 1 [4,6] (aB (am R (aA false) wW) [3,4,6,46,47,48] [2,3,4,2352] s h)=X) (g3:s 3=ac 3) (g4:s 4=ac 4) (g6:s 6=ac 2352) (g46:s 46=.sl 4 (aU A)) (g47:s 47=I (O A)) (g48:s 48=I 0) (k2:h 2=o2) (k3:h 3=.bx [I vb,.sl 4 (aU Bt)]) (k4:h 4=.bx [I 0,.emp]) (k2352:h 2352=.bx [I v',.emp,I 0]):
  LA X (upd (upd ce 6 (ac 2352)) 4 (ac 4)) o2 (.bx [I vb,.sl 4 (aU Bt)]) v v' [] 0 (oE A Bt):=by
 subst hX;exact ajX hA hB hd ω ω c2 (O A) 0 (aES _) .emp [] 0 (.inr ⟨rfl,rfl⟩) (.inl rfl) (fun _=>⟨Cl.nil _,by
  have:=Nat.mul_le_mul hm hn;show 0+_<=_;omega⟩) s h g3 g4 g6 g46 g47 g48 k2 k3 k4 k2352
def as5{v}{t}(h:VT v t):0<=cp t.exps:=(Kf fun x hx=>(h.b x hx).1).1
def aev{a}(oa:OkP a):-1<=nH a/\nH a<=32:=by
 unfold nH;split
 ·rename_i h;cases hg:a.terms.getLast? with
  |none=>simp
  |some t=>
   have vt:=(gw oa h).1.t t (List.mem_of_getLast? hg);have:=as5 vt;have:=vt.d;simp only[];omega
 ·omega
def aqn{a b}(oa:OkP a)(ob:OkP b):R 59 [bj a,bj b] []=some (pV (DC a b),[]):=by
 refine au agW ?_;have hp:=Vy oa ob;have hda:=IZ oa;have hdb:=IZ ob;have bda:=aev oa;have bdb:=aev ob;simp only[bj]at hp hda hdb;unfold DC;cases hb:DB a b with
 |false=>
  rw[hb]at hp;rw[av aE3];simp only[tM,zX,bj,go_sem,hp];rfl
 |true=>
  rw[hb]at hp;rw[ap rfl];obtain⟨va,vb,hv⟩:=oF.1 hb;obtain⟨ka,a0,a8,al⟩:=gw oa va;obtain⟨kb,b0,b8,bl⟩:=gw ob vb;rw[←hv]at kb;have w1:aG (nH a+nH b)=nH a+nH b:=i64_in _ ⟨by omega,by omega⟩;by_cases hd:O a.terms≠0/\O b.terms≠0/\32<nH a+nH b
  ·rw[ap hd];have e1:=aa (0< (O a.terms:Int));have e2:=aa (0< (O b.terms:Int));have e3:=eq_true hd.2.2;simp only[tM,zX,bj,go_sem,hp,hda,hdb,w1,e1,e2,e3];rfl
  ·rw[av hd];have hf:=Rq oa ob va vb hd;have hemp:=B1 (v:=a.vars);have hl:=as4 (v':=a.vars) (A:=a.terms) (Bt:=b.terms) ka.t kb.t hf ω ω (o2:=.bx [I a.vars,.sl 4 (aU a.terms)]) (fun _=>rfl) (vb:=b.vars);have fin:∀X,LA X (upd (upd ce 6 (ac 2352)) 4 (ac 4)) (.bx [I a.vars,.sl 4 (aU a.terms)]) (.bx [I b.vars,.sl 4 (aU b.terms)]) a.vars a.vars [] 0 (oE a.terms b.terms)->
     fk false [[a9,.o 5 [aR,a9,aR,a9]],[]] [.cell 4 2 true,.t 5] 0 (dx X (am R (aA false) (.seq (.ops [4,5] [cm 95 6,ca 96 125 [.t 95],co 97 (.ext 0 (.t 96)),co 98 (.ext 1 (.t 96)),sr 2 (.t 4) (.t 97),cm 5 98]) .ret)))=some (pV (oC a.vars ((oE a.terms b.terms).bind (lB []))),[]):=by
    intro X hM;cases hr:oE a.terms b.terms with
    |none=>
     rw[hr]at hM;obtain⟨hh,rfl,q4⟩:=hM;simp only[Option.bind_none,oC,pV,p0,bj,go_sem,q4];rfl
    |some r=>
     rw[hr]at hM;obtain⟨hh,c',l',e',rfl,q2,q3,q4,qc,qd,qe⟩:=hM;obtain⟨o,hdn⟩:=Cz (d:=96) qc qe.c (by simp[bV,qd,bS]);have hd':=dQ (bE.1.2.1 false) rfl hdn;rw[qe.fin]at hd';rw[aEZ];generalize oC a.vars (lB [] r)=z at hd'⊢;obtain⟨z1,z2⟩:=z;simp only[pV,bj]at hd';simp only[pV,bj,go_sem,q4,hd']
   by_cases h1:O a.terms=0
   ·have e1:=aP (0< (O a.terms:Int));simp only[tM,zX,bj,go_sem,hp,e1,hemp,qL];generalize hX:ao 1 _ _=X;exact fin X (hl _ _ _ hX Z Z Z Z Z Z Z Z Z Z)
   ·have e1:=aa (0< (O a.terms:Int));by_cases h2:O b.terms=0
    ·have e2:=aP (0< (O b.terms:Int));simp only[tM,zX,bj,go_sem,hp,e1,e2,hemp,qL];generalize hX:ao 1 _ _=X;exact fin X (hl _ _ _ hX Z Z Z Z Z Z Z Z Z Z)
    ·have e2:=aa (0< (O b.terms:Int));have e3:=eq_false fun h=>hd ⟨h1,h2,h⟩;simp only[tM,zX,bj,go_sem,hp,hda,hdb,w1,e1,e2,e3,hemp,qL];generalize hX:ao 1 _ _=X;exact fin X (hl _ _ _ hX Z Z Z Z Z Z Z Z Z Z)
def IsL(x:AV)(l:List Rt):Prop:=x=.sl 4 (aU l)\/(x=.emp/\l=[])
def IsL.keep{x}{l}(h:IsL x l)(hs):jn hs x=x:=by
 rcases h with rfl| ⟨rfl,_⟩<;>rfl
def eqZ:List Int->List Int->Bool
 |[],[]=>true
 |x::xs,y::ys=>decide (x=y)&&eqZ xs ys
 |_,_=>false
theorem aII:∀ {a b},O a≠O b->eqZ a b=false
 |[],[],h=>absurd rfl h
 |x::a,y::b,h=>by
  unfold eqZ;rw[aII (fun e=>h (by simp[e])),aFT]
 |[],_::_,_=>rfl
 |_::_,[],_=>rfl
def aKi{a b}(hl:O a=O b)(h2:O a<=100000):∀ (k i:Nat),i+k=O a->∀s h,s 0=.sl 1 (aY a)->s 1=.sl 1 (aY b)->s 12=I (O a)->s 13=I i->
  ∃hh,ao 0 [] (aB (am R (aA false) aiq) [0,1,12,13] [] s h)=if eqZ (a.drop i) (b.drop i)=true then some (.normal,⟨fun _=>.any,hh⟩)else some (.ret,⟨upd ce 4 (B false),hh⟩):=by
 intro k;induction k with
 |zero=>
  intro i hi s h g0 g1 g12 g13;have e1:=aP ((i:Int)<O a);rw[aFq ω,aFq ω,ai];refine⟨?hh0,?_⟩;rotate_left
  ·simp only[aiq,eqZ,go_sem,g0,g1,g12,g13,e1];rfl
 |succ k ih=>
  intro i hi s h g0 g1 g12 g13;have hlt:i<O a:=ω
  have hlt2:i<O b:=ω
  have e1:=aa ((i:Int)<O a);have e2:=vE rfl (aE1 hlt);have e3:=vE rfl (aE1 hlt2);have e5:aG (i+1)=(i+1:Nat):=wi;have ih':=ih (i+1) ω;rw[aFe hlt,aFe hlt2,ai];generalize a[i]=p at e2⊢;generalize b[i]=q at e3⊢;generalize aB _ _ _=L at ih'⊢;unfold eqZ;by_cases hpq:p=q
  ·have e4:=eq_true hpq;rw[decide_eq_true hpq,aEW];simp only[aiq,go_sem,g0,g1,g12,g13,e1,e2,e3,e4,e5];apply ih'<;>rfl
  ·have e4:=eq_false hpq;rw[decide_eq_false hpq,aE0];simp only[av aE3];refine⟨?hh1,?_⟩;rotate_left
   ·simp only[aiq,go_sem,g0,g1,g12,g13,e1,e2,e3,e4];rfl
def aLJ{a b}(hl:O a=O b)(h2:O a<=100000)(s)(h)(X)(hX:ao 0 [] (aB (am R (aA false) aiq) [0,1,12,13] [] s h)=X)(g0:s 0=.sl 1 (aY a))(g1:s 1=.sl 1 (aY b))(g12:s 12=I (O a))(g13:s 13=I 0):
  ∃hh,X=if eqZ a b=true then some (.normal,⟨fun _=>.any,hh⟩)else some (.ret,⟨upd ce 4 (B false),hh⟩):=by
 subst hX;exact aKi hl h2 (O a) 0 (aES _) s h g0 g1 g12 g13
def aLf{a b}(h2:O a<=100000):R 51 [.sl 1 (aY a),.sl 1 (aY b)] []=some (B (eqZ a b),[]):=by
 refine au aGB ?_;by_cases h3:O a=O b
 ·have e3:=aa (O a=(O b:Int));have hl:=aLJ (a:=a) (b:=b) h3 h2;simp only[ao8,ayo,go_sem,e3];generalize hX:ao 0 [] _=X;obtain⟨hh,rfl⟩:=hl _ _ _ hX Z Z Z Z;cases eqZ a b with
  |true=>simp only[go_sem]
  |false=>simp only[go_sem]
 ·have e3:=aP (O a=(O b:Int));rw[aII h3];simp only[ao8,ayo,go_sem,e3]
def xz{f}{fd}{args}{o}{r}(hE:cB.E f=none)(hC:cB.C f=some fd)(hk:cB.md.keep f=true)(h1:O args=fd.np)
  (hz:fk true fd.rs fd.res 1 (am R (aA true) fd.body (iW args) (upd (fun _=>.dead) 1000 o))=some r):R f args [o]=some r:=by
 refine Na true hE hC hk h1 σ ?_;rw[aa8];exact hz
def NF{f}{h}{d id}{zas as'}{o o'}{res}(hm:(aA false).m f=[])(hk:(aA false).keep f=true)(hn:bC ((aA false).sh f) (zas++[ac id])=as'++[ac id])(hd:zas.all dat=true)(hd':as'.all dat=true)
  (hh:h id=o) (ho:OC o) (ho':OC o') (hb:bf o=true->bf o'=true) (hR:R f (as'++[ac 1000]) [o]=some (res,[o'])) (hr:RT res) (h8:cV res<=8) (hfr:bV h (2000+8*d) (cV res)=true):
  bF R (aA false) h d zas (.fn f [] [ac id])=some (res,upd h id o',[]):=by
 have hin:∀l,l.all dat=true->cr h [] (l++[ac id])=some (l++[ac id],h,[]):=by
  intro l;induction l with
  |nil=>intro _;rfl
  |cons x l ih=>
   intro h2;simp only[aFa,aEV]at h2;simp only[aFb,cr,List.headD_nil,NE h2.1,aEZ,List.tail_nil,ih h2.2,aE8]
 have h1:=hin zas hd;have hp:bD [] ((zas++[ac id]).flatMap cF)=[id]:=by
  rw[List.flatMap_append,B0 fun x hx=>G0 (List.all_eq_true.1 hd x hx)];rfl
 have hre:bO h 40 [id] 0=[id]:=by
  simp[bO,hh,ho.ids,bD]
 have h3:bh [id] id=1000:=by simp[bh]
 have hall:(as'++[ac id]).all (be [id])=true:=by
  rw[List.all_append,aEV];exact⟨List.all_eq_true.2 fun x hx=>Kg (List.all_eq_true.1 hd' x hx) _,by simp[be,bA]⟩
 have hmap:(as'++[ac id]).map (eG (bh [id]))=as'++[ac 1000]:=by
  rw[List.map_append,(aFn (g:=fun c=>c) fun x hx=>G1 (List.all_eq_true.1 hd' x hx) _).trans (aFH as')];simp[eG,lG,h3]
 have hob:([id].map fun a=>eP (bh [id]) (h a))=[o]:=by simp[hh,ho.ren]
 have hids:([id].all fun a=>aE [id] (h a)&&!bS (h a))=true:=by simp[hh,ho.cl,ho.nd]
 unfold bF;rw[av (by simp[lH,hm])];simp only[eU,aE5,aEZ, *];unfold lg;rw[hall,hids,hmap,hob,hR,aFI,ap rfl,aEZ,hk,hm,vG];unfold fG;have hbf:dk h [] [id] [o']=true:=by
  have:=ho'.nd;cases h5:bf o with
  |false=>simp[dk, *]
  |true=>simp[dk,hb h5, *]
 have hend:nP h [id] [] (res,[o'])=true:=by
  simp[nP,CP,hr.ok,ho'.cl]
 rw[ap ⟨rfl,by simp,h8,hfr,hbf,hend⟩];simp[fw,ie,hr.mat,hr.ren,ho'.ren]
def B3{f g}{h}{d id}{zas as'}{o o'}{res}(hm:(aA false).m f=[])(hk:(aA false).keep f=false)(hn:bC ((aA false).sh f) (zas++[.fn g [] [ac id]])=as'++[.fn g [] [ac id]])(hd:zas.all dat=true)(hd':as'.all dat=true)
  (hh:h id=o) (ho:OC o) (ho':OC o') (hb:bf o=true->bf o'=true) (hR:R f (as'++[.fn g [] [ac 1000]]) [o]=some (res,[o'])) (hr:RT res) (h8:cV res<=8) (hfr:bV h (2000+8*d) (cV res)=true):
  bF R (aA false) h d (zas++[.fn g [] [ac id]]) (.fn f [] [])=some (res,upd h id o',[(id,true)]):=by
 have hin:∀l,l.all dat=true->cr h [] (l++[.fn g [] [ac id]])=some (l++[.fn g [] [ac id]],h,[]):=by
  intro l;induction l with
  |nil=>intro _;rfl
  |cons x l ih=>
   intro h2;simp only[aFa,aEV]at h2;simp only[aFb,cr,List.headD_nil,NE h2.1,aEZ,List.tail_nil,ih h2.2,aE8]
 have h1:=hin zas hd;have hp:bD [] ((zas++[AV.fn g [] [ac id]]).flatMap cF)=[id]:=by
  rw[List.flatMap_append,B0 fun x hx=>G0 (List.all_eq_true.1 hd x hx)];rfl
 have hre:bO h 40 [id] 0=[id]:=by
  simp[bO,hh,ho.ids,bD]
 have h3:bh [id] id=1000:=by simp[bh]
 have hall:(as'++[AV.fn g [] [ac id]]).all (be [id])=true:=by
  rw[List.all_append,aEV];exact⟨List.all_eq_true.2 fun x hx=>Kg (List.all_eq_true.1 hd' x hx) _,by simp[be,bA]⟩
 have hmap:(as'++[AV.fn g [] [ac id]]).map (eG (bh [id]))=as'++[.fn g [] [ac 1000]]:=by
  rw[List.map_append,(aFn (g:=fun c=>c) fun x hx=>G1 (List.all_eq_true.1 hd' x hx) _).trans (aFH as')];simp[eG,lG,h3]
 have hob:([id].map fun a=>eP (bh [id]) (h a))=[o]:=by simp[hh,ho.ren]
 have hids:([id].all fun a=>aE [id] (h a)&&!bS (h a))=true:=by simp[hh,ho.cl,ho.nd]
 unfold bF;rw[av (by simp[lH,hm])];simp only[eU,aE5,aE8,aEZ, *];unfold lg;rw[hall,hids,hmap,hob,hR,aFI,ap rfl,aEZ,hk,hm,vG];unfold fG;have hbf:dk h [] [id] [o']=true:=by
  have:=ho'.nd;cases h5:bf o with
  |false=>simp[dk, *]
  |true=>simp[dk,hb h5, *]
 have hend:nP h [id] [] (res,[o'])=true:=by
  simp[nP,CP,hr.ok,ho'.cl]
 rw[ap ⟨rfl,by simp,h8,hfr,hbf,hend⟩];simp[fw,ie,hr.mat,hr.ren,ho'.ren]
def anc(x):OC (.bx (ah x)):=⟨fun _=>rfl,rfl,fun _=>rfl,rfl⟩
section
variable {α:Type} {Frow:α→List AV} {l:List α} {q:α→Bool}
def as6(f:FuncId)(o:Ob)(k:Nat)(g:Bool)(Frow:α->List AV)(l:List α)(q:α->Bool):Prop:=
 ∀x∈l,∃a a',nO k g (Frow x) 0=some a/\dat a=true/\dat a'=true/\bC ((aA false).sh f) [a,ac 1000]=[a',ac 1000]/\R f [a',ac 1000] [o]=some (B (q x),[o])
def as7(f:FuncId)(k:Nat)(g:Bool)(Frow:α->List AV)(l:List α)(q:α->Bool):Prop:=
 ∀x∈l,∃a,nO k g (Frow x) 0=some a/\dat a=true/\R f (bC ((aA false).sh f) [a]) []=some (B (q x),[])
def WT{k}{g}{f}{o}{cap}(hc:cap=[]/\o=.dead/\(aA false).m f=[]/\as7 f k g Frow l q\/cap=[ac 1000]/\OC o/\(aA false).m f=[]/\(aA false).keep f=true/\as6 f o k g Frow l q)(hl:O l<4611686018427387904):∀rest n,l.drop n=rest->n<=O l->
  ∀s h,s 0=.sl k (l.map Frow)->s 1=.fn f [] cap->s 7=I (O l)->s 8=I n->h 1000=o->
   ∃hh,dx (ao 0 [] (aB (am R (aA false) (su k g)) [0,1,7,8] [1000] s h)) (am R (aA false) sv)=some (.ret,⟨upd ce 4 (I (AZ q rest n)),hh⟩)/\hh 1000=o:=by
 have hcl:∀ids,aE ids o=true:=by
  rcases hc with⟨_,rfl,_⟩| ⟨_,h,_⟩
  ·exact fun _=>rfl
  ·exact h.cl
 have hcap:=hc.imp (·.1) (·.1);intro rest;induction rest with
 |nil=>
  intro n hd hn s h h0 h1 h7 h8 h9;have e:n=O l:=by
   have:=congrArg List.length hd;grind
  subst e;rw[ai];refine⟨?hh0,?_,?_⟩;rotate_left
  ·rcases hcap with rfl|rfl<;> (simp only[su,sv,go_sem,h0,h1,h7,h8,h9,hcl,aFC,AZ];try rfl)
  ·rfl
 |cons x rest ih=>
  intro n hd hn s h h0 h1 h7 h8 h9;have hlt:n<O l:=by
   grind
  have hr:l[n]?=some x:=by
   have:=congrArg (·[0]?) hd;grind
  have ih':=ih (n+1) (by rw[←List.drop_drop,hd];rfl) hlt;have e1:=aa (n< (O l:Int));have e2:dF (l.map Frow) n=some (.ipt (Frow x)):=by grind[dF]
  have e3:aG (n+1)=(n+1:Nat):=by grind[i64_in]
  rw[ai];simp only[AZ];rcases hc with⟨rfl,rfl,hm,hf⟩| ⟨rfl,ho,hm,hk,hf⟩
  ·obtain⟨a,ha,hda,hc⟩:=hf x (aE6 hr);simp only[su,go_sem,h0,h1,h7,h8,h9,e1,e2,ha,Ce _ hm,hda,hc];cases hp:q x with
   |true=>exact⟨_,by rfl,rfl⟩
   |false=>
    simp only[go_sem,e3,aE3];apply ih'<;>rfl
  ·obtain⟨a,a',ha,hda,hda',hn2,hc⟩:=hf x (aE6 hr);have hcc:=fun h d hh (hf:h (2000+8*d)=.dead)=>NF (f:=f) (h:=h) (d:=d) (id:=1000) (zas:=[a]) (as':=[a']) hm hk γ γ γ hh ho ho (fun h=>h) hc (abj _) (aFp rfl) (by grind[bV,cV,bS]);simp only[su,go_sem,h0,h1,h7,h8,h9,hcl,e1,e2,ha];rw[hcc _ _ Z Z];cases hp:q x with
   |true=>
    exact⟨_,rfl,rfl⟩
   |false=>
    simp only[go_sem,e3,aE3];apply ih'<;>rfl
noncomputable abbrev as8 (k:Nat) (g:Bool):FD:=⟨2,[[]],[.t 4],.seq (.ops [0,1] [co 4 (.mv (.c (I 0)))]) (.seq (.seq (.ops [0,1,7,8] [cm 6 0,co 7 (.len false (.t 6)),co 8 (.mv (.c (I 0)))]) (.block 0 [] (.loop [0,1,7,8] [1000] (su k g)))) sv)⟩
variable {ci fi:FuncId} {fd fc:FD} {k:Nat} {g:Bool} {cs:List Sh}
structure Src (ci fi:FuncId) (k:Nat) (g:Bool) (cs:List Sh):Prop where
 iE:cB.E fi=none
 iC:cB.C fi=some (as8 k g)
 ik:cB.md.keep fi=false
 im:(aA false).m fi=[]
 ik':(aA false).keep fi=false
 ish:(aA false).sh fi=[[.o (k+1) cs],[]]
 cE:cB.E ci=none
 cC:cB.C ci=some (Nj fi)
 ck:cB.md.keep ci=false
def OT(S:Src ci fi k g cs){f}{o}(ho:OC o)(hm:(aA false).m f=[])(hk:(aA false).keep f=true)(hl:O l<4611686018427387904)(hr:(l.map Frow).map (fj cs)=l.map Frow)(hf:as6 f o k g Frow l q):
  R ci [.sl k (l.map Frow),.fn f [] [ac 1000]] [o]=some (B (l.any q),[o]):=by
 have h:R fi [.sl k (l.map Frow),.fn f [] [ac 1000]] [o]=some (I (AZ q l 0),[o]):=by
  refine tE S.iE S.iC S.ik rfl ?_;have hL:=WT (Frow:=Frow) (q:=q) (k:=k) (g:=g) (Or.inr ⟨rfl,ho,hm,hk,hf⟩) hl l 0 rfl (aE9 _);simp only[go_sem,agJ];have hL2:∀S H X,dx (ao 0 [] (aB (am R (aA false) (su k g)) [0,1,7,8] [1000] S H)) (am R (aA false) sv)=X->S 0=.sl k (l.map Frow)->S 1=.fn f [] [ac 1000]->S 7=I (O l)->S 8=I 0->H 1000=o->
    ∃hh,X=some (.ret,⟨upd ce 4 (I (AZ q l 0)),hh⟩)/\hh 1000=o:=fun S H X hX a b c d e=>by
   rw[←hX];exact hL S H a b c d e
  generalize hX:dx (ao 0 [] (aB _ _ [1000] _ _)) (am R (aA false) sv)=X;obtain⟨hh,e,e9⟩:=hL2 _ _ _ hX Z Z (by simp only[go_sem,aFh]) Z Z;rw[e];exact jY rfl e9 (ho.cl _) Z Z
 refine tE S.cE S.cC S.ck rfl ?_;have ha:=Lh q l 0;have hc:=fun h' d hh (hf:h' (2000+8*d)=.dead)=>B3 (f:=fi) (g:=f) (h:=h') (d:=d) (id:=1000) (zas:=[.sl k (l.map Frow)]) (as':=[.sl k (l.map Frow)]) S.im S.ik'
  (by rw[S.ish];simp only[go_sem,hr,aFb,aE5]) Z Z hh ho ho (fun h=>h) h (asX _) (aFp rfl) (by grind[bV,cV,bS])
 simp only[aFb,aE5]at hc;simp only[Nj,go_sem];rw[hc _ _ Z Z];simp only[go_sem,ha];exact jY Z Z (ho.cl _) Z Z
end
theorem NG{q}{u}(hu:-16384<=u)(h:(cA (aZ false q u)).2=0):zI (cA (aZ false q u)).1=(q*2^ (u+16384).toNat:Nat):=by
 have e1:aZ false q u=fF (q*2^ (u+16384).toNat:Nat) (-16384- (0:Nat)):=by
  unfold fF;rw[decide_eq_false ω,Int.natAbs_natCast,nR];grind
 rw[e1]at h⊢;have:=OM (j:=0) h;omega
def Kh{q}{n}(h:n<ag q):2^n<=q:=by
 refine Nat.le_of_not_lt fun h1=>?_;have:=bH.2 h1;omega
def LB{M}{p f:Int}{s t:Nat}{more w}(h0:M≠0)(hp:8<=p/\p<=512)(hf:f+16384=s-t)(hm:more=true->p< (ag M))(h:(cx M f more p w).2=0):
  ∃n:Nat,zI (cx M f more p w).1=n/\(w=true->(M+more.toNat)*2^s<=n*2^t)/\(w=false->n*2^t<=M*2^s):=by
 obtain⟨u,hu⟩:∃u,fV M f p=u:=⟨_,rfl⟩;have hu1:-16384<=u/\f+(ag M)-p<=u/\(u=-16384\/u=f+(ag M)-p):=by
  grind[fV]
 unfold cx at h⊢;rw[hu]at h⊢;obtain⟨q,hq⟩:∃q,qI w (rF M f more u)=q:=⟨_,rfl⟩;rw[hq]at h⊢;have hT:(w=true->(M+more.toNat)*2^s<=q*2^ ((u+16384).toNat+t))/\(w=false->q*2^ ((u+16384).toNat+t)<=M*2^s):=by
  unfold rF at hq;by_cases h1:u<=f
  ·have hmf:more=false:=by
    grind
   subst hmf;have hq2:q=M*2^ (f-u).toNat:=by
    grind[qI]
   rw[hq2,aFj,←aE2,show(f-u).toNat+((u+16384).toNat+t)=s by omega];grind
  ·rw[av h1]at hq;obtain⟨d,hd⟩:∃d,(u-f).toNat=d:=⟨_,rfl⟩;rw[hd]at hq;rw[show(u+16384).toNat+t=d+s by omega,aE2,←aFj];have hd:=aFM M (2^d);have hm:=aFx M (aE7 d);unfold qI at hq;constructor
   ·intro hw;subst hw;refine aE4 _ ?_;by_cases hz:(more||decide (M%2^d≠0))=true
    ·rw[hz,aFE,ap rfl]at hq;subst hq;have:=Bool.toNat_le more;grind
    grind
   ·intro hw;subst hw;subst hq;refine aE4 _ ?_;grind
 obtain⟨h1,h2⟩:=hT;unfold tU at h⊢;by_cases hb:16384< (ag q)+u
 ·rw[ap hb]at h⊢;cases w with
  |true=>grind
  |false=>
   refine⟨_,NG ω h,fun hw=>absurd hw aE3,fun _=>?_⟩;have h3:=h2 rfl;have h4:2^ (32768+t)<=M*2^s:=by
    by_cases hb0:ag q=0
    ·have hbm:=fE h0;have h5:=Kh (show ag M-1<ag M by omega);refine aEX ?_ (aE4 _ h5);rw[←aE2];exact aFu δ ω
    ·have h5:=Kh (show ag q-1<ag q by omega);refine aEX ?_ (aEX (aE4 _ h5) h3);rw[←aE2];exact aFu δ ω
   have h7:(2^p.toNat-1)*2^ (16384-p+16384).toNat*2^t<=2^ (32768+t):=by
    rw[aFj,←aE2];refine aEX (aE4 _ (Nat.sub_le _ 1)) ?_;rw[←aE2];exact aFu δ ω
   omega
 ·rw[av hb]at h⊢;refine⟨_,NG hu1.1 h,fun hw=>?_,fun hw=>?_⟩
  all_goals grind
theorem OU{M}{f p}{more w}:vd (cx M f more p w).1=true:=by
 have hc:∀q u,vd (cA (aZ false q u)).1=true:=fun q u=>by
  have:=(xO (z:=q) (f:=u)).1;grind[fF,decide_eq_false,Int.natAbs_natCast]
 grind[cx,tU,vd,aC]
def OV{z p}{j:Nat}{up}(hp:8<=p/\p<=512)(h:(kS z (-16384-j) p up).2=0):(up=true->z<=zI (kS z (-16384-j) p up).1*2^j)/\(up=false->zI (kS z (-16384-j) p up).1*2^j<=z):=by
 unfold kS at h⊢;by_cases h0:z=0
 ·rw[ap h0,cS rfl,Int.zero_mul,h0];omega
 ·unfold iq at h⊢;have key:∀w,(cx z.natAbs (-16384-j) false p w).2=0->∃n,zI (cx z.natAbs (-16384-j) false p w).1=n/\(w=true->z.natAbs<=n*2^j)/\(w=false->n*2^j<=z.natAbs):=fun w hc=>by
   obtain⟨n,g1,g2,g3⟩:=LB (s:=0) (t:=j) ω hp ω (fun h=>absurd h aE3) hc;refine⟨n,g1,fun hw=>?_,fun hw=>?_⟩
   all_goals grind
  by_cases hn:z<0
  ·grind[Cx,OU,Int.neg_mul]
  grind
def aqo{c}{p}(vc:vd c=true)(hp:bv p=true)(h:(bY c p false).2=0):zI (bY c p false).1<=zI c:=by
 have hp2:8<=p/\p<=512:=by
  simp_all[bv,aEV,decide_eq_true_eq]
 have hf:bo p [c]=0:=by grind[bo]
 unfold bY at h⊢;rw[ap hf]at h⊢;have:=(OV (j:=0) hp2 h).2 rfl;grind
def aqp{c}{p}(vc:vd c=true)(hp:bv p=true)(h:(bY c p true).2=0):zI c<=zI (bY c p true).1:=by
 have hp2:8<=p/\p<=512:=by
  simp_all[bv,aEV,decide_eq_true_eq]
 have hf:bo p [c]=0:=by grind[bo]
 unfold bY at h⊢;rw[ap hf]at h⊢;have:=(OV (j:=0) hp2 h).1 rfl;grind
def AB(T V:Nat):Nat:=min 4294967295 (T/V)
def ane{T L V2 M v w k W V}(hW:W=T*4294967296^k+L)(hV:V=V2*4294967296^k+M)(hL:L<4294967296^k)(hM:M<4294967296^k)(h2:V2=v*4294967296+w)(hv:2147483648<=v)(hlt:W<4294967296*V):
  W/V<=AB T V2/\AB T V2<=W/V+1:=by
 generalize 4294967296^k=b at*
 have hV2:9223372036854775808<=V2:=ω
 have hVp:0<V:=by
  omega
 have hV2p:0<V2:=ω
 constructor
 ·refine Nat.le_min.2 ⟨?_,?_⟩
  ·have:=(Nat.div_lt_iff_lt_mul hVp).2 hlt;omega
  ·rw[Nat.le_div_iff_mul_le hV2p];have h1:=Nat.div_mul_le_self W V;have h3:W/V*V2*b<=W/V*V:=by
    simp_all[aFj,aFV]
   have h4:W/V*V2*b< (T+1)*b:=by
    grind
   have:=Nat.lt_of_mul_lt_mul_right h4;omega
 ·have hg:AB T V2*V2<=T:=by
   refine aEX (aE4 V2 (Nat.min_le_right _ _)) (Nat.div_mul_le_self T V2)
  have hg2:AB T V2<=4294967295:=Nat.min_le_left _ _;generalize AB T V2=g at*
  have h1:g*V=g*V2*b+g*M:=γ
  have h2':=aE4 b hg;have h3:=Nat.mul_le_mul hg2 (Nat.le_of_lt hM);have h4:=aE4 b hV2;have h5:g*V<W+V:=ω
  cases g with
  |zero=>grind
  |succ g=>
   rw[aFf,Nat.one_mul]at h5;exact Nat.succ_le_succ ((Nat.le_div_iff_mul_le hVp).2 ω)
def abl{q rest third v w T V}(hT:T=(q*v+rest)*4294967296+third)(hV:V=v*4294967296+w)(hVp:0<V)(hw:w<4294967296)(hq:q<=4294967296):
  (rest<4294967296/\rest*4294967296+third<q*w->T/V<q)/\(¬ (rest<4294967296/\rest*4294967296+third<q*w)->q<=T/V):=by
 have e1:q*V=q*v*4294967296+q*w:=γ
 constructor
 ·rw[Nat.div_lt_iff_lt_mul hVp];omega
 ·rw[Nat.le_div_iff_mul_le hVp];by_cases h1:rest<4294967296
  ·omega
  ·have:=Nat.mul_le_mul hq (Nat.le_of_lt hw);omega
theorem ade{top next third v w}(hv:0<v)(hvb:v<4294967296)(ht:top<=v)(hn:next<4294967296)(h3:third<4294967296):
  min (if v<=top then 4294967295 else(top*4294967296+next)/v) (((top*4294967296+next)*4294967296+third)/ (v*4294967296+w))=AB ((top*4294967296+next)*4294967296+third) (v*4294967296+w):=by
 unfold AB;by_cases h:v<=top
 ·rw[ap h]
 ·rw[av h];have h1:((top*4294967296+next)*4294967296+third)/ (v*4294967296+w)<=(top*4294967296+next)/v:=by
   rw[Nat.le_div_iff_mul_le hv];have h2:=Nat.div_mul_le_self ((top*4294967296+next)*4294967296+third) (v*4294967296+w);grind
  have h2:(top*4294967296+next)/v<4294967296:=by
   rw[Nat.div_lt_iff_lt_mul hv];omega
  omega
def xH(q:Nat):List Nat->List Nat->Nat->Nat->List Nat×Nat×Nat
 |u::us,y::vs,c,b=>(((u+18446744073709551616- (q*y+c) %4294967296-b) %18446744073709551616%4294967296)::(xH q us vs ((q*y+c)/4294967296) ((u+18446744073709551616- (q*y+c) %4294967296-b) %18446744073709551616/9223372036854775808)).1,(xH q us vs ((q*y+c)/4294967296) ((u+18446744073709551616- (q*y+c) %4294967296-b) %18446744073709551616/9223372036854775808)).2)
 |_,_,c,b=>([],c,b)
def VA{u s b}(hu:u<4294967296)(hs:s<4294967296)(hb:b<=1):
  (u+18446744073709551616-s-b) %18446744073709551616/9223372036854775808<=1/\(u+18446744073709551616-s-b) %18446744073709551616%4294967296+s+b=u+4294967296*((u+18446744073709551616-s-b) %18446744073709551616/9223372036854775808):=by
 omega
def abm{q}(hq:q<4294967296):∀ {us vs} {c b},Lb us->Lb vs->O us=O vs->c<4294967296->b<=1->
  ab us+4294967296^O vs*((xH q us vs c b).2.1+(xH q us vs c b).2.2)=ab (xH q us vs c b).1+q*ab vs+c+b/\(xH q us vs c b).2.1<4294967296/\(xH q us vs c b).2.2<=1/\Lb (xH q us vs c b).1/\(xH q us vs c b).1.length=O vs
 |[],[],c,b,_,_,_,hc,hb=>by
  refine⟨?_,hc,hb,fun x hx=>(nomatch hx),rfl⟩;show 0+4294967296^0*(c+b)=0+q*0+c+b;omega
 |u::us,y::vs,c,b,hu,hv,hl,hc,hb=>by
  have hu0:=hu u σ;have hy0:=hv y σ;have hp:=by
   have h1:q*y<=4294967295*4294967295:=Nat.mul_le_mul ω ω;omega
  have hs:=aFx (q*y+c) (by decide:0<4294967296);have hd:=aFM (q*y+c) 4294967296;have hc2:(q*y+c)/4294967296<4294967296:=by
   omega
  obtain⟨k1,k2⟩:=VA (b:=b) hu0 hs hb;have ih:=abm hq (us:=us) (vs:=vs) (c:=(q*y+c)/4294967296) (b:=(u+18446744073709551616- (q*y+c) %4294967296-b) %18446744073709551616/9223372036854775808) (fun x hx=>hu x γ) (fun x hx=>hv x γ) γ hc2 k1;obtain⟨i1,i2,i3,i4,i5⟩:=ih;unfold xH;generalize(u+18446744073709551616- (q*y+c) %4294967296-b) %18446744073709551616/9223372036854775808=b2 at*
  generalize(q*y+c)/4294967296=c2 at*
  generalize xH q us vs c2 b2=r at*
  refine⟨?_,i2,i3,fun x hx=>?_,by grind⟩
  ·grind[ab,aFJ,aFd,aFj,Nat.mul_add,Nat.mul_left_comm]
  ·rcases List.mem_cons.1 hx with rfl|hx
   ·omega
   ·exact i4 x hx
 |[],_::_,_,_,_,_,h,_,_=>by grind
 |_::_,[],_,_,_,_,h,_,_=>by grind
def rG(q top:Nat)(us vs:List Nat):List Nat×Nat×Bool:=
 ((xH q us vs 0 0).1,(top+18446744073709551616- (xH q us vs 0 0).2.1- (xH q us vs 0 0).2.2) %18446744073709551616%4294967296,decide ((top+18446744073709551616- (xH q us vs 0 0).2.1- (xH q us vs 0 0).2.2) %18446744073709551616/9223372036854775808=1))
def VB{q top}{us vs}(hq:q<4294967296)(ht:top<4294967296)(hu:Lb us)(hv:Lb vs)(hl:O us=O vs):
  (ab us+4294967296^O vs*top+(if(rG q top us vs).2.2=true then 4294967296^O vs*4294967296 else 0)=ab (rG q top us vs).1+4294967296^O vs*(rG q top us vs).2.1+q*ab vs)/\(rG q top us vs).2.1<4294967296/\Lb (rG q top us vs).1/\(rG q top us vs).1.length=O vs:=by
 obtain⟨h1,h2,h3,h4,h5⟩:=abm hq hu hv hl (c:=0) (b:=0) δ δ;unfold rG;generalize xH q us vs 0 0=r at*
 obtain⟨r1,c,b⟩:=r;refine⟨?_,aFx _ δ,h4,h5⟩;obtain⟨k1,k2⟩:=VA (u:=top) (s:=c) (b:=b) ht h2 h3;generalize(top+18446744073709551616-c-b) %18446744073709551616/9223372036854775808=f at*
 generalize(top+18446744073709551616-c-b) %18446744073709551616%4294967296=t2 at*
 have e1:4294967296^O vs*(c+b)+4294967296^O vs*t2=4294967296^O vs*top+4294967296^O vs*4294967296*f:=by
  grind
 grind
def DZ(top:Nat)(us:List Nat):Nat:=(top*4294967296+us.getD (O us-1) 0)*4294967296+us.getD (O us-2) 0
def CA(vs:List Nat):Nat:=vs.getD (O vs-1) 0*4294967296+vs.getD (O vs-2) 0
def Bl(top:Nat)(us vs:List Nat):List Nat×Nat×Nat:=
 if(rG (AB (DZ top us) (CA vs)) top us vs).2.2=true then
  (gP (rG (AB (DZ top us) (CA vs)) top us vs).1 vs (O vs),((rG (AB (DZ top us) (CA vs)) top us vs).2.1+lZ (rG (AB (DZ top us) (CA vs)) top us vs).1 vs (O vs)) %4294967296,AB (DZ top us) (CA vs)-1)
 else((rG (AB (DZ top us) (CA vs)) top us vs).1,(rG (AB (DZ top us) (CA vs)) top us vs).2.1,AB (DZ top us) (CA vs))
def abn{l}{k}(h:O l=k+2):ab l=(l.getD (k+1) 0*4294967296+l.getD k 0)*4294967296^k+ab (l.take k):=by
 have h1:=jg l (k+1);have h2:=jg l k;grind
def ajY{top}{us vs}{k}(ht:top<4294967296)(hu:Lb us)(hv:Lb vs)(hul:O us=k+2)(hvl:O vs=k+2)(hn:2147483648<=vs.getD (k+1) 0)(hlt:ab us+4294967296^ (k+2)*top<4294967296*ab vs):
  ab (Bl top us vs).1+4294967296^ (k+2)*(Bl top us vs).2.1=(ab us+4294967296^ (k+2)*top) %ab vs/\(Bl top us vs).2.2=(ab us+4294967296^ (k+2)*top)/ab vs/\Lb (Bl top us vs).1/\(Bl top us vs).1.length=k+2/\(Bl top us vs).2.1<4294967296:=by
 obtain⟨W,hW⟩:∃W,ab us+4294967296^ (k+2)*top=W:=⟨_,rfl⟩;obtain⟨V,hV⟩:∃V,ab vs=V:=⟨_,rfl⟩;have a1:=abn hul;have a2:=abn hvl;have l1:=ft (jy hu k);have l2:=ft (jy hv k);rw[aFm,aFW ω]at l1 l2;have hT:W=DZ top us*4294967296^k+ab (us.take k):=by
  unfold DZ;grind
 have hV2:V=CA vs*4294967296^k+ab (vs.take k):=by
  grind[CA]
 rw[hW]at hlt⊢;rw[hV]at hlt⊢;obtain⟨g1,g2⟩:=ane hT hV2 l1 l2 (show CA vs=vs.getD (k+1) 0*4294967296+vs.getD k 0 by grind[CA]) hn hlt;have hgb:AB (DZ top us) (CA vs)<4294967296:=by
  grind[AB,DZ,CA,Nat.min_le_left]
 unfold Bl;generalize AB (DZ top us) (CA vs)=g at*
 obtain⟨t1,t2,t3,t4⟩:=VB (q:=g) hgb ht hu hv ω;generalize rG g top us vs=r at*
 obtain⟨r1,r2,f⟩:=r;simp only at t1 t2 t3 t4⊢;rw[hvl,hW,hV]at t1;rw[hvl]at t4;have hVp:0<V:=by
  omega
 have hdm:=aFM W V;have hml:=aFx W hVp;have hVb:V<4294967296^ (k+2):=by grind[ft]
 have hrb:ab r1<4294967296^ (k+2):=by grind[ft]
 generalize hB:4294967296^ (k+2)=b at*
 cases f with
 |false=>
  simp only[aFv,if_false,aFA]at t1⊢;have h1:g<=W/V:=(Nat.le_div_iff_mul_le hVp).2 ω;have h2:=Nat.le_antisymm h1 g1;refine⟨?_,h2,t3,t4,t2⟩;rw[h2,aFd (W/V) V]at t1;omega
 |true=>
  simp only[if_true]at t1⊢;have hbr:=by
   have h1:b*(r2+1)<=b*4294967296:=aFV b ω;rw[Nat.mul_add,Nat.mul_one]at h1;omega
  have h1:¬g<=W/V:=fun h=>by
   have:=(Nat.le_div_iff_mul_le hVp).1 h;omega
  have h2:g=W/V+1:=ω
  have s1:=Q4 r1 vs (k+2);rw[hB,aFi ω,aFi ω,hV]at s1;have s2:=adP r1 vs (k+2);have s3:O (gP r1 vs (k+2))=k+2:=by unfold gP;rw[aFh,List.length_range]
  have s4:=by
   have:=ft s2;rw[s3,hB]at this;exact this
  rw[hvl];refine⟨?_,by show g-1=W/V;rw[h2,Nat.add_sub_cancel],s2,s3,aFx _ δ⟩;rw[h2,aFf,Nat.one_mul,aFd (W/V) V]at t1;have e1:ab (gP r1 vs (k+2))+b*(lZ r1 vs (k+2)+r2)=b*4294967296+W%V:=by
   rw[Nat.mul_add];omega
  have hc:lZ r1 vs (k+2)+r2=4294967296:=by
   have h3:=fun h=>by
    have h4:b*(lZ r1 vs (k+2)+r2+1)<=b*4294967296:=aFV b h;rw[Nat.mul_add b _ 1,Nat.mul_one]at h4;omega
   have h5:=fun h=>by
    have h4:b*(4294967296+1)<=b*(lZ r1 vs (k+2)+r2):=aFV b h;omega
   omega
  rw[hc]at e1;rw[Nat.add_comm r2,hc,Nat.mod_self,Nat.mul_zero];omega
def rU(u:List Nat)(j:Nat)(us:List Nat)(top:Nat):List Nat:=u.take j++(us++top::u.drop (j+O us+1))
def CB(vs:List Nat):Nat->List Nat->List Nat×List Nat
 |0,u=>(u,[])
 |j+1,u=>((CB vs j (rU u j (Bl (u.getD (j+O vs) 0) ((u.drop j).take (O vs)) vs).1 (Bl (u.getD (j+O vs) 0) ((u.drop j).take (O vs)) vs).2.1)).1,
   (CB vs j (rU u j (Bl (u.getD (j+O vs) 0) ((u.drop j).take (O vs)) vs).1 (Bl (u.getD (j+O vs) 0) ((u.drop j).take (O vs)) vs).2.1)).2++[(Bl (u.getD (j+O vs) 0) ((u.drop j).take (O vs)) vs).2.2])
def I4(l)(i)(h:i<=O l):ab l=ab (l.take i)+4294967296^i*ab (l.drop i):=by
 grind[gu,List.take_append_drop,aFm,aFW]
theorem anf(l)(x):ab (l++[x])=ab l+4294967296^O l*x:=by
 rw[gu];show _+_*(x+4294967296*0)=_;grind
def aew{u}{j n V}(hu:Lb u)(hl:j+n<O u)(hV:V<4294967296^n)(h:ab (u.drop (j+1))<V):
  ab ((u.drop j).take n)+4294967296^n*u.getD (j+n) 0=ab (u.drop j)/\ab (u.drop (j+n+1))=0/\ab (u.drop j)<4294967296*V:=by
 have h0:=jk u j;have hj:=dD hu j;have h1:=I4 (u.drop j) (n+1) γ;rw[List.drop_drop,jg]at h1;have h2:(u.drop j).getD n 0=u.getD (j+n) 0:=by
  grind
 rw[h2,show j+(n+1)=j+n+1 by omega]at h1;have h4:ab (u.drop (j+n+1))=0:=by
  refine Nat.eq_zero_of_not_pos fun hp=>?_;have:4294967296^ (n+1)*1<=4294967296^ (n+1)*ab (u.drop (j+n+1)):=aFV _ hp;omega
 grind
theorem H0{u us}{j top}(h:j+O us<O u):O (rU u j us top)=O u:=by
 grind[rU,List.length_append,aFk,aFm,List.length_drop]
def VC{u us}{j top}(hu:Lb u)(hs:Lb us)(ht:top<4294967296):Lb (rU u j us top):=by
 grind[rU,vL,mC,jy,sk]
theorem NH{u us}{j top}(h:j<=O u):(rU u j us top).drop j=us++top::u.drop (j+O us+1):=by
 unfold rU;rw[List.drop_append_of_le_length (by rw[aFm];omega),List.drop_of_length_le (by rw[aFm];omega),aE5]
theorem ajZ{u us}{j top}(h:j<=O u):(rU u j us top).take j=u.take j:=by
 unfold rU;rw[List.take_append_of_le_length (by rw[aFm];omega),List.take_take,Nat.min_self]
theorem w2'{u:List Nat}{j n s2}(h:ab (u.drop (j+n+1))=0):ab (s2::u.drop (j+n+1))=s2:=by
 simp_all[ab,Nat.mul_zero,aFA]
def aj0{vs}{k}(hv:Lb vs)(hvl:O vs=k+2)(hn:2147483648<=vs.getD (k+1) 0):
  ∀j u,Lb u->j+(k+2)<=O u->ab (u.drop j)<ab vs->ab u=ab (CB vs j u).1+ab vs*ab (CB vs j u).2/\ab (CB vs j u).1<ab vs/\(CB vs j u).2.length=j/\(CB vs j u).1.length=O u/\Lb (CB vs j u).1/\Lb (CB vs j u).2
 |0,u,hu,_,h=>by
  refine⟨?_,h,rfl,rfl,hu,fun x hx=>(nomatch hx)⟩;show ab u=ab u+ab vs*0;omega
 |j+1,u,hu,hl,h=>by
  have hVb:ab vs<4294967296^ (k+2):=by grind[ft]
  obtain⟨w1,w2,w3⟩:=aew (n:=k+2) hu ω hVb h;have hlen:O ((u.drop j).take (k+2))=k+2:=γ
  have hs:=ajY (top:=u.getD (j+(k+2)) 0) (dD hu _) (jy (sk hu j) (k+2)) hv hlen hvl hn ω;rw[w1]at hs;unfold CB;rw[hvl];generalize Bl (u.getD (j+(k+2)) 0) ((u.drop j).take (k+2)) vs=s at*
  obtain⟨s1,s2,s3⟩:=s;obtain⟨d1,d2,d3,d4,d5⟩:=hs;simp only at d1 d2 d3 d4 d5⊢;have hd:ab ((rU u j s1 s2).drop j)=ab (u.drop j) %ab vs:=by
   grind[NH,gu,w2']
  have hVp:0<ab vs:=ω
  have ih:=aj0 hv hvl hn j (rU u j s1 s2) (VC hu d3 d5) (by grind[H0]) (by simp_all[aFx]);obtain⟨i1,i2,i3,i4,i5,i6⟩:=ih;have hval:=I4 (rU u j s1 s2) j (by grind[H0]);rw[ajZ ω,hd]at hval;have hval2:=I4 u j ω;generalize CB vs j (rU u j s1 s2)=r at*
  obtain⟨r1,r2⟩:=r;refine⟨?_,i2,by grind,by rw[i4,H0 ω],i5,?_⟩
  ·grind[anf,Nat.mul_add,aFM,ab,Nat.mul_left_comm,Nat.add_comm]
  ·rw[vL];refine⟨i6,fun x hx=>?_⟩
   simp_all[Nat.div_lt_iff_lt_mul]
attribute [-go_sem] SB Ov in
def ahr{v T V:Nat}(hV:V=v*4294967296+w)(hv:2147483648<=v)(hvb:v<4294967296)(hw:w<4294967296)(h3:third<4294967296):
  ∀ (k q rest:Nat),4294967296<=rest+k*2147483648->q<=4294967295->rest<8589934592->T=(q*v+rest)*4294967296+third->∀ (s:aM) (h:aj),s 0=W q->s 1=W rest->s 2=U third->s 3=U v->s 4=U w->
  ∃hh,ao 0 [0] (aB (am R (aA false) jf) [0,1,2,3,4] [] s h)=some (.normal,⟨upd ce 0 (W (min q (T/V):Nat)),hh⟩):=by
 intro k;induction k with
 |zero=>
  intro q rest hk hq hr hT s h g0 g1 g2 g3 g4;have hs:=(abl (q:=q) hT hV ω hw ω).2 (fun h=>by omega);have e1:=aP ((rest:Int)<4294967296);rw[aFW hs,ai];refine⟨fun _=>.dead,?_⟩;simp only[jf,go_sem,g0,g1,g2,g3,g4,e1]
 |succ k ih=>
  intro q rest hk hq hr hT s h g0 g1 g2 g3 g4;have hd:=abl (q:=q) hT hV ω hw ω;by_cases hlt:rest<4294967296
  ·have e1:=aa ((rest:Int)<4294967296);have hqw:q*w<=4294967295*4294967295:=Nat.mul_le_mul hq ω;have e2:IntKind.u64.wrap ((q:Int)*(w:Int))=((q*w:Nat):Int):=iH σ ω;have e3:=Oy (n:=rest) (k:=32) (i:=(rest:Int)) (kk:=.u64) (j:=32) Z Z δ ω;have e4:=aaM (m:=rest*2^32) (n:=third) (i:=((rest*2^32:Nat):Int)) (j:=(third:Int)) Z Z ω ω;rw[Nm (x:=rest) (c:=third) (k:=32) ω]at e4;have e5:IntKind.u64.wrap (third:Int)=third:=iH rfl ω;have e6:IntKind.u64.wrap (w:Int)=w:=iH rfl ω;have e7:IntKind.u64.wrap (v:Int)=v:=iH rfl ω;by_cases hc:rest*4294967296+third<q*w
   ·have e8:=aa (((rest*2^32+third:Nat):Int)< ((q*w:Nat):Int));have hq1:1<=q:=Nat.pos_of_ne_zero fun h0=>by grind
    have e9:IntKind.u64.wrap ((q:Int)-1)=((q-1:Nat):Int):=iH ω ω;have e10:IntKind.u64.wrap ((rest:Int)+(v:Int))=((rest+v:Nat):Int):=iH σ ω;have hT2:T=((q-1)*v+(rest+v))*4294967296+third:=by
     rw[hT,Nat.sub_mul,Nat.one_mul];have:v<=q*v:=Nat.le_mul_of_pos_left v hq1;omega
    have ih':=ih (q-1) (rest+v) ω ω ω hT2;have hm:min q (T/V)=min (q-1) (T/V):=ω
    rw[hm,ai];simp only[jf,go_sem,g0,g1,g2,g3,g4,e1,e2,e3,e4,e5,e6,e7,e8,e9,e10];apply ih'<;>rfl
   ·have e8:=aP (((rest*2^32+third:Nat):Int)< ((q*w:Nat):Int));have hs:=hd.2 (fun h=>hc h.2);rw[aFW hs,ai];refine⟨fun _=>.dead,?_⟩;simp only[jf,go_sem,g0,g1,g2,g3,g4,e1,e2,e3,e4,e5,e6,e8]
  ·have hs:=hd.2 (fun h=>hlt h.1);have e1:=aP ((rest:Int)<4294967296);rw[aFW hs,ai];refine⟨fun _=>.dead,?_⟩;simp only[jf,go_sem,g0,g1,g2,g3,g4,e1]
def aqq{q rest v V:Nat}(hV:V=v*4294967296+w)(hv:2147483648<=v)(hvb:v<4294967296)(hw:w<4294967296)(h3:third<4294967296)(hq:q<=4294967295)(hr:rest<8589934592)(hT:T=(q*v+rest)*4294967296+third)(s)(h)(X)(hX:ao 0 [0] (aB (am R (aA false) jf) [0,1,2,3,4] [] s h)=X)(g0:s 0=W q)(g1:s 1=W rest)(g2:s 2=U third)(g3:s 3=U v)(g4:s 4=U w):
  ∃hh,X=some (.normal,⟨upd ce 0 (W (min q (T/V):Nat)),hh⟩):=by
 subst hX;exact ahr hV hv hvb hw h3 2 q rest ω hq hr hT s h g0 g1 g2 g3 g4
def abo{q rest v V:Nat}(hV:V=v*4294967296+w)(hv:2147483648<=v)(hvb:v<4294967296)(hw:w<4294967296)(h3:third<4294967296)(hq:q<=4294967295)(hr:rest<8589934592)(hT:T=(q*v+rest)*4294967296+third):
  R 339 [W q,W rest,U third,U v,U w] []=some (W (min q (T/V):Nat),[]):=by
 refine au Tg ?_;have hl:=aqq hV hv hvb hw h3 hq hr hT;simp only[BO,IM,go_sem];generalize hX:ao 0 _ _=X;obtain⟨hh,rfl⟩:=hl _ _ _ hX Z Z Z Z Z;simp only[go_sem]
attribute [-go_sem] SB Ov in
def ang{next v:Nat}(hv:2147483648<=v)(hvb:v<4294967296)(ht:top<=v)(hn:next<4294967296)(h3:third<4294967296)(hw:w<4294967296):
  R 330 [U top,U next,U third,U v,U w] []=some (W (AB ((top*4294967296+next)*4294967296+third) (v*4294967296+w):Nat),[]):=by
 refine au Te ?_;rw[←ade ω hvb ht hn h3];have c1:IntKind.u64.wrap (next:Int)=next:=iH rfl ω
 have c2:IntKind.u64.wrap (v:Int)=v:=iH rfl ω;have c3:IntKind.u64.wrap (top:Int)=top:=iH rfl ω;by_cases h:v<=top
 ·have e1:=aa ((v:Int)<=(top:Int));rw[ap h];have e2:IntKind.u32.wrap ((top:Int)- (v:Int))=0:=by
   rw[show(top:Int)- (v:Int)=0 by omega];rfl
  have e3:IntKind.u64.wrap 0=0:=rfl;have e4:=Oy (n:=0) (k:=32) (i:=0) (kk:=.u64) (j:=32) Z Z δ δ;have e5:IntKind.u64.wrap (0+(next:Int))=next:=iH ω ω
  have e6:IntKind.u64.wrap ((next:Int)+(v:Int))=((next+v:Nat):Int):=iH σ ω;have hd:=abo (q:=4294967295) (rest:=next+v) (third:=third) (v:=v) (w:=w) (T:=(top*4294967296+next)*4294967296+third) rfl hv hvb hw h3 δ ω (by
   omega)
  have e7:(((4294967295:Nat):Int))=4294967295:=rfl;rw[e7]at hd;rw[Nat.zero_mul]at e4;simp only[aFz]at e4;simp only[wE,go_sem,e1,e2,e3,e4,e5,e6,c1,c2,hd]
 ·have e1:=aP ((v:Int)<=(top:Int));rw[av h];have e4:=Oy (n:=top) (k:=32) (i:=(top:Int)) (kk:=.u64) (j:=32) Z Z δ ω;have e5:=aaM (m:=top*2^32) (n:=next) (i:=((top*2^32:Nat):Int)) (j:=(next:Int)) Z Z ω ω;rw[Nm (x:=top) (c:=next) (k:=32) ω,show top*2^32+next=top*4294967296+next from rfl]at e5;obtain⟨N,hN⟩:∃N,top*4294967296+next=N:=⟨_,rfl⟩
  rw[hN]at e5⊢;have hNb:N<18446744073709551616:=ω
  have e6:fK .quo (W N) (W v)=some (W (N/v:Nat)):=by
   rw[Uv,av ω,Int.tdiv_eq_ediv_of_nonneg ω];have:N/v<=N:=aF1 _ _;grind[iH]
  have e7:fK .rem (W N) (W v)=some (W (N%v:Nat)):=by
   rw[JI,av ω,Int.tmod_eq_emod_of_nonneg ω];rfl
  have hm:=aFx N (show 0<v by omega);have hq:N/v<=4294967295:=by
   have:N/v<4294967296:=by
    rw[Nat.div_lt_iff_lt_mul ω];omega
   omega
  have hd:=abo (q:=N/v) (rest:=N%v) (third:=third) (v:=v) (w:=w) (T:=N*4294967296+third) rfl hv hvb hw h3 hq ω (by
   rw[aFd (N/v) v,aFM])
  simp only[wE,go_sem,e1,e4,e5,e6,e7,c1,c2,c3,hd]
attribute [-go_sem] SB Ov in
def anh{a b:Nat}(hay:a<y)(hy:y<4294967296)(hb:b<4294967296):
  R 338 [U a,U b,U y] []=some (.tup [U ((a*4294967296+b)/y:Nat),U ((a*4294967296+b) %y:Nat)],[]):=by
 refine au aaA ?_;have e1:=aP ((y:Int)=0);have e2:=aP ((y:Int)<=(a:Int));have c1:IntKind.u64.wrap (a:Int)=a:=iH rfl ω;have c2:IntKind.u64.wrap (b:Int)=b:=iH rfl ω;have c3:IntKind.u64.wrap (y:Int)=y:=iH rfl ω;have e4:=Oy (n:=a) (k:=32) (i:=(a:Int)) (kk:=.u64) (j:=32) Z Z δ ω;have e5:=aaM (m:=a*2^32) (n:=b) (i:=((a*2^32:Nat):Int)) (j:=(b:Int)) Z Z ω ω;rw[Nm (x:=a) (c:=b) (k:=32) ω,show a*2^32+b=a*4294967296+b from rfl]at e5;rw[show a*2^32=a*4294967296 from rfl]at e4 e5;obtain⟨N,hN⟩:∃N,a*4294967296+b=N:=⟨_,rfl⟩;rw[hN]at e5⊢;have e6:fK .quo (W N) (W y)=some (W (N/y:Nat)):=by
  rw[Uv,av ω,Int.tdiv_eq_ediv_of_nonneg ω];have:N/y<=N:=aF1 _ _;rw[iH (n:=N/y) σ ω]
 have e7:fK .rem (W N) (W y)=some (W (N%y:Nat)):=by
  rw[JI,av ω,Int.tmod_eq_emod_of_nonneg ω];rfl
 have hm:=aFx N (show 0<y by omega);have hq:N/y<4294967296:=by
  rw[Nat.div_lt_iff_lt_mul ω];have h3:(a+1)*4294967296<=y*4294967296:=aE4 _ ω;rw[aFd 4294967296 y];omega
 have w1:IntKind.u32.wrap ((N/y:Nat):Int)=((N/y:Nat):Int):=WF rfl hq;have w2:IntKind.u32.wrap ((N%y:Nat):Int)=((N%y:Nat):Int):=WF rfl ω;simp only[Gb,go_sem,e1,e2,e4,e5,e6,e7,c1,c2,c3,w1,w2]
def gY(y:Nat):List Nat->List Nat×Nat
 |[]=>([],0)
 |x::l=>(((gY y l).2*4294967296+x)/y::(gY y l).1,((gY y l).2*4294967296+x) %y)
def G2{y}(hy:0<y):∀ {l},Lb l->ab l=ab (gY y l).1*y+(gY y l).2/\(gY y l).2<y/\(gY y l).1.length=O l
 |[],_=>⟨by simp[gY,ab],hy,rfl⟩
 |x::l,hl=>by
  obtain⟨h1,h2,h3⟩:=G2 hy (l:=l) fun z hz=>hl z (by simp[hz]);unfold gY;refine⟨?_,aFx _ hy,by simp[h3]⟩;show x+4294967296*ab l=(((gY y l).2*4294967296+x)/y+4294967296*ab (gY y l).1)*y+((gY y l).2*4294967296+x) %y;have hm:=aFM ((gY y l).2*4294967296+x) y;rw[aFd]at hm;rw[aFf,aFj];generalize((gY y l).2*4294967296+x)/y*y=A at*
  omega
def aex{y}(hy:0<y)(hyb:y<4294967296):∀ {l},Lb l->Lb (gY y l).1
 |[],_=>fun x hx=>(nomatch hx)
 |x::l,hl=>by
  have hl':Lb l:=fun z hz=>hl z (by simp[hz]);have h2:=(G2 hy hl').2.1;have hx:=hl x σ;intro z hz;rcases List.mem_cons.1 hz with h|h
  ·rw[h];show((gY y l).2*4294967296+x)/y<4294967296;rw[Nat.div_lt_iff_lt_mul hy];have h3:((gY y l).2+1)*4294967296<=y*4294967296:=aE4 _ ω;rw[aFd 4294967296 y];omega
  ·exact aex hy hyb hl' z h
def ani{a}(ha:Lb a)(hy:0<y)(hyb:y<4294967296)(h1:O a<=100000):
  ∀m,m<=O a->∀s h,s 0=lm a->s 1=U y->s 6=.rsl 11 none 1 0 (O a)->s 7=U (gY y (a.drop m)).2->s 8=I (m-1)->h 11=.ar 1 (aS (aER m 0++(gY y (a.drop m)).1))->
  ∃hh,ao 0 [6,7] (aB (am R (aA false) og) [0,1,6,7,8] [11] s h)=some (.normal,⟨upd (upd ce 7 (U (gY y a).2)) 6 (.rsl 11 none 1 0 (O a)),hh⟩)/\hh 11=.ar 1 (aS (gY y a).1)/\(∀x,x≠11->hh x=.dead):=by
 intro m;induction m with
 |zero=>
  intro hm s h g0 g1 g6 g7 g8 k11;have e1:=aP (0<=((0:Int)-1));rw[ai];refine⟨?hh0,?_,?_,?_⟩;rotate_left
  ·simp only[og,go_sem,g0,g1,g6,g7,g8,k11,e1];rfl
  all_goals simp_all[cz,if_false]
 |succ m ih=>
  intro hm s h g0 g1 g6 g7 g8 k11;have hlt:m<O a:=ω
  have hd:a.drop m=a.getD m 0::a.drop (m+1):=by
   simp_all
  have ha':Lb (a.drop (m+1)):=sk ha _;obtain⟨q1,q2,q3⟩:=G2 hy ha';have e0:((m+1:Nat)-1)=(m:Int):=ω
  rw[e0]at g8;have e1:=aa (0<=(m:Int));have e2:=dV rfl ω;have e3:aG (m-1)=m-1:=i64_in _ ⟨by omega,by omega⟩;have e5:=aa (m< (O a:Int));have e6:=anh (a:=(gY y (a.drop (m+1))).2) (b:=a.getD m 0) q2 hyb (dD ha m);have ih':=ih ω;rw[hd]at ih';have hs1:(gY y (a.getD m 0::a.drop (m+1))).1=((gY y (a.drop (m+1))).2*4294967296+a.getD m 0)/y::(gY y (a.drop (m+1))).1:=rfl;have hs2:(gY y (a.getD m 0::a.drop (m+1))).2=((gY y (a.drop (m+1))).2*4294967296+a.getD m 0) %y:=rfl;rw[hs1,hs2]at ih';generalize((gY y (a.drop (m+1))).2*4294967296+a.getD m 0)/y=qd at*
  have e7:(aS (aER (m+1) 0++(gY y (a.drop (m+1))).1))[m]?=some [U 0]:=by
   rw[nF γ,aF3,List.getElem?_append_left σ,List.getElem?_replicate,ap ω];rfl
  have e8:(aS (aER (m+1) 0++(gY y (a.drop (m+1))).1)).set m [U qd]=aS (aER m 0++qd::(gY y (a.drop (m+1))).1):=by
   rw[so];rw[List.replicate_succ',aFO,List.set_append_right _ _ σ];simp
  rw[ai];simp only[og,go_sem,g0,g1,g6,g7,g8,k11,e1,e2,e3,e5,e6,e7,e8,aEY,aES];apply ih'<;>rfl
def avY{a}(ha:Lb a)(hy:0<y)(hyb:y<4294967296)(h1:O a<=100000)(s)(h)(X)(hX:ao 0 [6,7] (aB (am R (aA false) og) [0,1,6,7,8] [11] s h)=X)
  (g0:s 0=lm a) (g1:s 1=U y) (g6:s 6=.rsl 11 none 1 0 (O a)) (g7:s 7=U 0) (g8:s 8=I (O a-1)) (k11:h 11=.ar 1 (aS (aER (O a) 0))):
  ∃hh,X=some (.normal,⟨upd (upd ce 7 (U (gY y a).2)) 6 (.rsl 11 none 1 0 (O a)),hh⟩)/\hh 11=.ar 1 (aS (gY y a).1)/\(∀x,x≠11->hh x=.dead):=by
 subst hX;have hn:a.drop (O a)=[]:=List.drop_of_length_le (aET _);refine ani ha hy hyb h1 (O a) (aET _) s h g0 g1 g6 ?_ g8 ?_
 ·rw[hn];exact g7
 ·rw[hn];show h 11=.ar 1 (aS (aER (O a) 0++[]));grind
def anj{a}(ha:Lb a)(hy:0<y)(hyb:y<4294967296)(h1:O a<=100000):R 328 [lm a,U y] []=some (.tup [lm (gY y a).1,U (gY y a).2],[]):=by
 refine au Td ?_;have hl:=avY ha hy hyb h1;have e3:aG (O a-1)=O a-1:=i64_in _ ⟨by omega,by omega⟩;have e4:=zA (i:=O a) (j:=O a) Z Z (aET _) ω;have e5:=aa (O a*4<=140737488355328);simp only[BN,IK,go_sem,e3,e4,e5,GW];generalize hX:ao 0 _ _=X;obtain⟨hh,rfl,q11,qd⟩:=hl _ _ _ hX Z Z Z Z Z Z;have hlen:=(G2 hy ha).2.2;simp only[go_sem,q11,hlen,aES,aET]
def abp{u s b:Nat}(hu:u<4294967296)(hs:s<4294967296)(hb:b<4294967296):IntKind.u64.wrap (IntKind.u64.wrap (u-s)-b)=((u+18446744073709551616-s-b) %18446744073709551616:Nat):=by
 grind[IntKind.wrap,IntKind.bits,IntKind.signed]
attribute [-go_sem] adC JJ in
theorem aj1{V Z:List Nat}{q:Nat}(hV:Lb V)(hq:q<4294967296)(hn:O V<=100000)(hlo:lo<=100000):
  ∀ (vs us P:List Nat) (i c b:Nat),i+O vs=O V->V.drop i=vs->O us=O vs->O P=lo+i->Lb us->c<4294967296->b<=1->∀ (s:aM) (h:aj),s 0=.rsl 1000 none 1 lo (O V+1)->s 1=lm V->s 2=W q->s 7=W c->s 8=W b->s 14=lm V->s 15=I (O V)->s 16=I i->h 1000=.ar 1 (aS (P++(us++Z)))->
  ∃hh,ao 0 [0,1,7,8] (aB (am R (aA false) pS) [0,1,2,7,8,14,15,16] [1000] s h)=some (.normal,⟨upd (upd (upd (upd ce 8 (W ((xH q us vs c b).2.2:Nat))) 7 (W ((xH q us vs c b).2.1:Nat))) 1 (lm V)) 0 (.rsl 1000 none 1 lo (O V+1)),hh⟩)/\hh 1000=.ar 1 (aS (P++((xH q us vs c b).1++Z))):=by
 intro vs;induction vs with
 |nil=>
  intro us P i c b hi hd hl hP hu hc hb s h g0 g1 g2 g7 g8 g14 g15 g16 k;have hus:us=[]:=List.length_eq_zero_iff.1 hl;subst hus;have hi':i=O V:=ω
  subst hi';rw[ai];refine⟨?hh0,?_,?_⟩;rotate_left
  ·simp only[pS,go_sem,g0,g1,g2,g7,g8,g14,g15,g16,k,aFC];rfl
  ·rfl
 |cons y vs ih=>
  intro us P i c b hi hd hl hP hu hc hb s h g0 g1 g2 g7 g8 g14 g15 g16 k;obtain⟨u,us,rfl⟩:∃u us',us=u::us':=by
   cases us with
   |nil=>grind
   |cons u us=>grind
  have hi2:i<O V:=γ
  have hy:V.getD i 0=y/\V.drop (i+1)=vs:=by
   grind[aFe]
  have hyb:y<4294967296:=by grind[dD]
  have hub:=hu u σ;have hqy:q*y<=4294967295*4294967295:=Nat.mul_le_mul ω ω;have e1:=aa ((i:Int)< (O V:Int));have e2:dF (aS V) (i:Int)=some (.ipt [U (y:Nat)]):=by
   grind[dV]
  have e3:aG ((i:Int)+1)=((i+1:Nat):Int):=wi;have e4:=aa (0<=(i:Int));have e5:=aa ((i:Int)< ((O V+1:Nat):Int));have c1:IntKind.u64.wrap (y:Int)=y:=iH rfl ω;have c2:IntKind.u64.wrap ((q:Int)*(y:Int))=((q*y:Nat):Int):=iH σ ω;have c3:IntKind.u64.wrap (((q*y:Nat):Int)+(c:Int))=((q*y+c:Nat):Int):=iH σ ω;have c4:=Fb (n:=q*y+c) (k:=32) (i:=((q*y+c:Nat):Int)) (kk:=.u64) (j:=32) rfl rfl ω;rw[show(2:Nat)^32=4294967296 from rfl]at c4;have c5:IntKind.u64.wrap (u:Int)=u:=iH rfl ω;have c6:=ajF (n:=q*y+c) (i:=((q*y+c:Nat):Int)) rfl ω;have hs:=aFx (q*y+c) (by decide:0<4294967296);have hc2:(q*y+c)/4294967296<4294967296:=by
   omega
  have c7:=abp (b:=b) hub hs ω;obtain⟨k1,_⟩:=VA (b:=b) hub hs hb;have ih':=ih us (P++[(u+18446744073709551616- (q*y+c) %4294967296-b) %18446744073709551616%4294967296]) (i+1) ((q*y+c)/4294967296) ((u+18446744073709551616- (q*y+c) %4294967296-b) %18446744073709551616/9223372036854775808) γ hy.2 γ γ (fun x hx=>hu x (by simp[hx])) hc2 k1;unfold xH;generalize(u+18446744073709551616- (q*y+c) %4294967296-b) %18446744073709551616=x at*
  have c8:IntKind.u32.wrap (x:Int)=((x%4294967296:Nat):Int):=Li rfl;have c9:=Fb (n:=x) (k:=63) (i:=(x:Int)) (kk:=.u64) (j:=63) rfl rfl ω;rw[show(2:Nat)^63=9223372036854775808 from rfl]at c9;have e7:(aS (P++(u::us++Z)))[lo+i]?=some [U (u:Nat)]:=by
   rw[nF (by simp[hP]),aF3,List.getElem?_append_right ω,hP,Nat.sub_self];rfl
  have e8:(aS (P++(u::us++Z))).set (lo+i) [U ((x%4294967296:Nat):Int)]=aS (P++[x%4294967296]++(us++Z)):=by
   rw[so,←hP,List.set_append_right _ _ (aET _),Nat.sub_self,aFO];rfl
  simp only[aFO,aFb,aE5]at ih' e7 e8 k⊢;rw[ai];generalize aB _ _ _=L at ih'⊢;simp only[pS,go_sem,g0,g1,g2,g7,g8,g14,g15,g16,k,e1,e2,e3,e4,e5,e7,e8,c1,c2,c3,c4,c5,c6,c7,c8,c9,aEY];apply ih'<;>rfl
def ata{V Z us P}{q:Nat}(hV:Lb V)(hq:q<4294967296)(hn:O V<=100000)(hlo:lo<=100000)(hl:O us=O V)(hP:O P=lo)(hu:Lb us)(s)(h)(X)(hX:ao 0 [0,1,7,8] (aB (am R (aA false) pS) [0,1,2,7,8,14,15,16] [1000] s h)=X)
  (g0:s 0=.rsl 1000 none 1 lo (O V+1)) (g1:s 1=lm V) (g2:s 2=W q) (g7:s 7=W 0) (g8:s 8=W 0) (g14:s 14=lm V) (g15:s 15=I (O V)) (g16:s 16=I 0) (k:h 1000=.ar 1 (aS (P++(us++Z)))):
  ∃hh,X=some (.normal,⟨upd (upd (upd (upd ce 8 (W (xH q us V 0 0).2.2)) 7 (W (xH q us V 0 0).2.1)) 1 (lm V)) 0 (.rsl 1000 none 1 lo (O V+1)),hh⟩)/\hh 1000=.ar 1 (aS (P++((xH q us V 0 0).1++Z))):=by
 subst hX
 simp_all[aj1]
attribute [-go_sem] JJ in
def aqr{V us P Q:List Nat}{q:Nat}(hV:Lb V)(hq:q<4294967296)(hn:O V<=100000)(hlo:lo<=100000)(hl:O us=O V)(hP:O P=lo)(hu:Lb us)(ht:top<4294967296):
  R 331 [.rsl 1000 none 1 lo (O V+1),lm V,W q] [.ar 1 (aS (P++(us++top::Q)))]=some (B (rG q top us V).2.2,[.ar 1 (aS (P++((rG q top us V).1++(rG q top us V).2.1::Q)))]):=by
 refine tE U8 U7 (Gu false) rfl ?_;have hx:=ata (Z:=top::Q) hV hq hn hlo hl hP hu;obtain⟨t1,t2,t3,t4,t5⟩:=abm hq hu hV hl (c:=0) (b:=0) δ δ;unfold rG;have e4:=aa (0<=(O V:Int));have e5:=aa ((O V:Int)< ((O V+1:Nat):Int));simp only[Ds,JU,go_sem];generalize hX:ao 0 _ _=X;obtain⟨hh,rfl,q1⟩:=hx _ _ _ hX rfl rfl rfl rfl rfl rfl rfl rfl rfl;generalize xH q us V 0 0=r at*
 obtain⟨r1,c,b⟩:=r;simp only at t2 t3 t4 t5 q1⊢;have c5:IntKind.u64.wrap (top:Int)=top:=iH rfl ω;have c7:=abp (u:=top) (s:=c) (b:=b) ht t2 ω;generalize(top+18446744073709551616-c-b) %18446744073709551616=x at*
 have c8:IntKind.u32.wrap (x:Int)=((x%4294967296:Nat):Int):=Li rfl;have c9:=Fb (n:=x) (k:=63) (i:=(x:Int)) (kk:=.u64) (j:=63) rfl rfl ω;have e7:(aS (P++(r1++top::Q)))[lo+O V]?=some [U (top:Nat)]:=by
  simp_all[nF,Nat.add_sub_cancel_left,Nat.sub_self]
 have e8:(aS (P++(r1++top::Q))).set (lo+O V) [U ((x%4294967296:Nat):Int)]=aS (P++(r1++x%4294967296::Q)):=by
  rw[so,List.set_append_right _ _ ω,List.set_append_right _ _ ω,hP,t5,Nat.add_sub_cancel_left,Nat.sub_self];rfl
 have e9:(((x/9223372036854775808:Nat):Int)=1)=(x/9223372036854775808=1):=by
  grind
 simp only[go_sem,q1,e4,e5,e7,e8,c5,c7,c8,c9,e9,aEY];rfl
def aj2{V us P Q}{q:Nat}(hV:Lb V)(hq:q<4294967296)(hn:O V<=100000)(hlo:lo<=100000)(hl:O us=O V)(hP:O P=lo)(hu:Lb us)(ht:top<4294967296){h}{d id}(hh:h id=.ar 1 (aS (P++(us++top::Q))))(hd:h (2000+8*d)=.dead):
  bF R (aA false) h d [.rsl id none 1 lo (O V+1),lm V,W q] (.fn 331 [] [])=some (B (rG q top us V).2.2,upd h id (.ar 1 (aS (P++((rG q top us V).1++(rG q top us V).2.1::Q)))),[(id,true)]):=by
 have hm:=U9 false;have hs:=Tf false;have hk:=Gu false;have hf:=aqr (Q:=Q) hV hq hn hlo hl hP hu ht;have hb':lH (aA false) [.rsl id none 1 lo (O V+1),lm V,W q] (.fn 331 [] [])=false:=by
  grind[lH]
 have h1:cr h [1,0,0] [.rsl id none 1 lo (O V+1),.sl 1 (aS V),W q]=some ([.rsl id none 1 lo (O V+1),.sl 1 (aS V),W q],h,[]):=by
  simp[cr,eM,Av,iJ,aI]
 have hr:bO h 40 [id] 0=[id]:=by
  grind[bO,mP,bD]
 have hp:bD [] ([AV.rsl id none 1 lo (O V+1),.sl 1 (aS V),W q].flatMap cF)=[id]:=by
  simp[cF,ip,bD]
 have h3:bh [id] id=1000:=by simp[bh]
 have hnr:cV (B (rG q top us V).2.2)=1:=rfl;have hnm:bC [[aR],[aR],[]] [.rsl id none 1 lo (O V+1),.sl 1 (aS V),W q]=[.rsl id none 1 lo (O V+1),.sl 1 (aS V),W q]:=by
  simp only[go_sem];rfl
 unfold bF;rw[av γ];simp only[lm]at hf⊢;simp only[eU,aE5,aE8,aEZ, *];simp[lg,be,bA,aE,bS,eG,lG,eP,fG,bV,dk,bf,nP,CP,vY,ip,kZ,gR,Iw,fw,mat,eS,ie,Je, *]
def ank{V us P Z Qr}{sh n j g:Int}{UL QL J:Nat}(hV:Lb V)(hu:Lb us)(hl:O us=O V)(hn:O V<=100000)(hP:O P=J)(hj:j=J)(hJ:J<=100000)(hUL:J+O V<=UL):
  ∀k i,i+k=O V->∀s h,s 8=I sh->s 9=.rsl 2408 none 1 0 UL->s 10=lm V->s 11=I n->s 12=.rsl 70 none 1 0 QL->s 13=I j->s 14=W g->s 15=U (lZ us V i)->s 123=lm V->s 124=I (O V)->s 125=I i->h 63=.dead->h 70=.ar 1 (aS Qr)->h 2408=.ar 1 (aS (P++(gP us V i++(us.drop i++Z))))->
  ∃hh,ao 4 [8,9,10,11,12,13,14,15] (aB (am R (aA false) j7) [8,9,10,11,12,13,14,15,123,124,125] [63,70,2408] s h)=some (.normal,⟨upd (upd (upd (upd (upd (upd (upd (upd ce 15 (U (lZ us V (O V)))) 14 (W g)) 13 (I j)) 12 (.rsl 70 none 1 0 QL)) 11 (I n)) 10 (lm V)) 9 (.rsl 2408 none 1 0 UL)) 8 (I sh),hh⟩)/\hh 70=.ar 1 (aS Qr)/\hh 2408=.ar 1 (aS (P++(gP us V (O V)++Z)))/\(∀a,a≠70->a≠2408->hh a=.dead):=by
 subst hj;intro k;induction k with
 |zero=>
  intro i hi s h g8 g9 g10 g11 g12 g13 g14 g15 g123 g124 g125 k63 k70 k2408;have hi':i=O V:=ω
  subst hi';rw[List.drop_of_length_le ω,aE5]at k2408;rw[ai];refine⟨?hh0,?_,?_,?_,?_⟩;rotate_left
  ·simp only[j7,go_sem,g8,g9,g10,g11,g12,g13,g14,g15,g123,g124,g125,k63,k70,k2408,aFC];rfl
  all_goals simp_all[cz,if_false,ite_self]
 |succ k ih=>
  intro i hi s h g8 g9 g10 g11 g12 g13 g14 g15 g123 g124 g125 k63 k70 k2408;have hlt:i<O V:=ω
  have hd:us.drop i=us.getD i 0::us.drop (i+1):=by
   simp_all
  have hsl:=tQ us V i;rw[hd,aFb]at k2408;have e1:=aa (i< (O V:Int));have e2:=dV rfl ω;have e3:aG (i+1)=(i+1:Nat):=wi;have e4:aG (J+i)=(J+i:Nat):=wi;have e5:=aa (0<=((J+i:Nat):Int));have e6:=aa ((J+i:Nat)< (UL:Int));have e9:=Q3 (dD hu i) (dD hV i) (Nk hu hV i);have e7:(aS (P++(gP us V i++(us.getD i 0::(us.drop (i+1)++Z)))))[J+i]?=some [U (us.getD i 0)]:=by
   simp_all[nF,Nat.add_sub_cancel_left,Nat.sub_self]
  have e8:(aS (P++(gP us V i++(us.getD i 0::(us.drop (i+1)++Z))))).set (J+i) [U ((us.getD i 0+V.getD i 0+lZ us V i) %4294967296:Nat)]=aS (P++(gP us V (i+1)++(us.drop (i+1)++Z))):=by
   rw[so,List.set_append_right _ _ ω,List.set_append_right _ _ ω,hP,hsl,Nat.add_sub_cancel_left,Nat.sub_self];simp[gP,List.range_succ,Vb]
  have ih':=ih (i+1) ω;have hc:lZ us V (i+1)=(us.getD i 0+V.getD i 0+lZ us V i)/4294967296:=rfl;rw[ai];simp only[j7,go_sem,g8,g9,g10,g11,g12,g13,g14,g15,g123,g124,g125,k63,k70,k2408,e1,e2,e3,e4,e5,e6,e7,e8,e9,aEY,aES];apply ih'<;>rfl
def atb{U V}{j k}(hU:Lb U)(hV:Lb V)(hvl:O V=k+2)(h:ab (U.drop (j+1))<ab V):U.getD (j+(k+2)) 0<=V.getD (k+1) 0:=by
 have h1:ab V=ab (V.take (k+1))+4294967296^ (k+1)*V.getD (k+1) 0:=by
  rw[←jg,aFi ω]
 have h2:=ft (jy hV (k+1));rw[aFm,aFW ω]at h2;have h3:4294967296^ (k+1)*U.getD (j+(k+2)) 0<=ab (U.drop (j+1)):=by
  by_cases hl:j+1+(k+1)<=O U
  ·have h4:=I4 (U.drop (j+1)) (k+1) (by rw[List.length_drop];omega);rw[List.drop_drop]at h4;have h5:=jk U (j+1+(k+1));rw[show j+1+(k+1)=j+(k+2)by omega]at h4 h5;rw[h4,h5,Nat.mul_add];omega
  grind
 refine Nat.le_of_not_lt fun hc=>?_;have h6:4294967296^ (k+1)*(V.getD (k+1) 0+1)<=4294967296^ (k+1)*U.getD (j+(k+2)) 0:=aFV _ hc;rw[Nat.mul_add,Nat.mul_one]at h6;omega
def aj3{U}{j n}(h:j+n<O U):U=U.take j++((U.drop j).take n++U.getD (j+n) 0::U.drop (j+n+1)):=by
 grind[aFe,List.drop_drop,List.take_append_drop]
theorem aey{U:List Nat}{j n i}(hi:i<n):((U.drop j).take n).getD i 0=U.getD (j+i) 0:=by
 rw[aF3,aF3,List.getElem?_take,ap hi,List.getElem?_drop]
def avZ{V us P Z Qr}{sh n j g:Int}{UL QL J:Nat}(hV:Lb V)(hu:Lb us)(hl:O us=O V)(hn:O V<=100000)(hP:O P=J)(hj:j=J)(hJ:J<=100000)(hUL:J+O V<=UL)(s)(h)(X)(hX:ao 4 [8,9,10,11,12,13,14,15] (aB (am R (aA false) j7) [8,9,10,11,12,13,14,15,123,124,125] [63,70,2408] s h)=X)
  (g8:s 8=I sh) (g9:s 9=.rsl 2408 none 1 0 UL) (g10:s 10=lm V) (g11:s 11=I n) (g12:s 12=.rsl 70 none 1 0 QL) (g13:s 13=I j) (g14:s 14=W g) (g15:s 15=U 0) (g123:s 123=lm V) (g124:s 124=I (O V)) (g125:s 125=I 0) (k63:h 63=.dead) (k70:h 70=.ar 1 (aS Qr)) (k2408:h 2408=.ar 1 (aS (P++(us++Z)))):
  ∃hh,X=some (.normal,⟨upd (upd (upd (upd (upd (upd (upd (upd ce 15 (U (lZ us V (O V)))) 14 (W g)) 13 (I j)) 12 (.rsl 70 none 1 0 QL)) 11 (I n)) 10 (lm V)) 9 (.rsl 2408 none 1 0 UL)) 8 (I sh),hh⟩)/\hh 70=.ar 1 (aS Qr)/\hh 2408=.ar 1 (aS (P++(gP us V (O V)++Z)))/\(∀a,a≠70->a≠2408->hh a=.dead):=by
 subst hX;exact ank hV hu hl hn hP hj hJ hUL (O V) 0 (aES _) s h g8 g9 g10 g11 g12 g13 g14 g15 g123 g124 g125 k63 k70 k2408
def atc{q top}{us vs}(hq:q<4294967296)(ht:top<4294967296)(hu:Lb us)(hv:Lb vs)(hl:O us=O vs)(hf:(rG q top us vs).2.2=true):1<=q:=by
 obtain⟨t1,t2,t3,t4⟩:=VB hq ht hu hv hl;rw[ap hf]at t1;refine Nat.pos_of_ne_zero fun h0=>?_;rw[h0,Nat.zero_mul,aFA]at t1;have h1:=ft t3;rw[h0]at t2 h1 t4;rw[t4]at h1;have h2:4294967296^O vs*((rG 0 top us vs).2.1+1)<=4294967296^O vs*4294967296:=aFV _ ω;rw[Nat.mul_add,Nat.mul_one]at h2;omega
theorem aj4{A r}{j k t}(h:O r=k+2):A.take j++(r++t::A.drop (j+(k+2)+1))=rU A j r t:=by
 grind[rU]
def anl{V}{k}{sh}{UL QL}(hV:Lb V)(hvl:O V=k+2)(hn2:2147483648<=V.getD (k+1) 0)(hn:O V<=100000)(hUL:UL<=100000):
  ∀m A Dn,Lb A->O A=UL->m+(k+2)<=UL->m+O Dn=QL->ab (A.drop m)<ab V->∀s h,s 8=I sh->s 9=.rsl 2408 none 1 0 UL->s 10=lm V->s 11=I (k+2:Nat)->s 12=.rsl 70 none 1 0 QL->s 13=I (m-1)->h 63=.dead->h 70=.ar 1 (aS (aER m 0++Dn))->h 2408=.ar 1 (aS A)->
  ∃hh,ao 2 [8,9,11,12] (aB (am R (aA false) mZ) [8,9,10,11,12,13] [63,70,2408] s h)=some (.normal,⟨upd (upd (upd (upd ce 12 (.rsl 70 none 1 0 QL)) 11 (I (k+2:Nat))) 9 (.rsl 2408 none 1 0 UL)) 8 (I sh),hh⟩)/\hh 70=.ar 1 (aS ((CB V m A).2++Dn))/\hh 2408=.ar 1 (aS (CB V m A).1)/\(∀a,a≠70->a≠2408->hh a=.dead):=by
 intro m;induction m with
 |zero=>
  intro A Dn hA hl hm hq hlt s h g8 g9 g10 g11 g12 g13 k63 k70 k2408;have e1:=aP (0<=(((0:Nat):Int)-1));rw[ai];refine⟨?hh0,?_,?_,?_,?_⟩;rotate_left
  ·simp only[mZ,go_sem,g8,g9,g10,g11,g12,g13,k63,k70,k2408,e1];rfl
  ·rfl
  ·rfl
  simp_all[cz,if_false,ite_self]
 |succ j ih=>
  intro A Dn hA hl hm hq hlt s h g8 g9 g10 g11 g12 g13 k63 k70 k2408;have e0:(((j+1:Nat):Int)-1)=(j:Int):=ω
  rw[e0]at g13;have e1:=aa (0<=(j:Int));have w1:aG ((j:Int)+((k+2:Nat):Int))=((j+(k+2):Nat):Int):=wi σ ω;have w2:IntKind.i64.wrap (((j+(k+2):Nat):Int)-1)=((j+(k+1):Nat):Int):=wi;have w3:aG (((j+(k+2):Nat):Int)-2)=((j+k:Nat):Int):=wi;have w4:aG (((k+2:Nat):Int)-1)=((k+1:Nat):Int):=wi;have w5:aG (((k+2:Nat):Int)-2)=((k:Nat):Int):=wi;have w6:aG (((j+(k+2):Nat):Int)+1)=((j+(k+2)+1:Nat):Int):=wi;have w7:aG ((j:Int)-1)=(j:Int)-1:=i64_in _ ⟨by omega,by omega⟩;have r1:dF (aS V) ((k+1:Nat):Int)=some (.ipt [U (V.getD (k+1) 0:Nat)]):=dV rfl ω;have r2:dF (aS V) ((k:Nat):Int)=some (.ipt [U (V.getD k 0:Nat)]):=dV rfl ω;have b1:=aa (0<=((j+(k+2):Nat):Int));have b2:=aa (0<=((j+(k+1):Nat):Int));have b3:=aa (0<=((j+k:Nat):Int));have b4:=aa (((j+(k+2):Nat):Int)< (UL:Int));have b5:=aa (((j+(k+1):Nat):Int)< (UL:Int));have b6:=aa (((j+k:Nat):Int)< (UL:Int));have l1:(aS A)[j+(k+2)]?=some [U (A.getD (j+(k+2)) 0:Nat)]:=nF ω;have l2:(aS A)[j+(k+1)]?=some [U (A.getD (j+(k+1)) 0:Nat)]:=nF ω;have l3:(aS A)[j+k]?=some [U (A.getD (j+k) 0:Nat)]:=nF ω;have htop:=atb hA hV hvl hlt;have hg:=ang (top:=A.getD (j+(k+2)) 0) (next:=A.getD (j+(k+1)) 0) (third:=A.getD (j+k) 0) (v:=V.getD (k+1) 0) (w:=V.getD k 0) hn2 (dD hV _) htop (dD hA _) (dD hA _) (dD hV _);have hT:DZ (A.getD (j+(k+2)) 0) ((A.drop j).take (k+2))=(A.getD (j+(k+2)) 0*4294967296+A.getD (j+(k+1)) 0)*4294967296+A.getD (j+k) 0:=by
   unfold DZ;have h1:O ((A.drop j).take (k+2))=k+2:=γ
   rw[h1,show k+2-1=k+1 by omega,show k+2-2=k by omega,aey ω,aey ω]
  have hW:CA V=V.getD (k+1) 0*4294967296+V.getD k 0:=by
   grind[CA]
  rw[←hT,←hW]at hg;have hgb:AB (DZ (A.getD (j+(k+2)) 0) ((A.drop j).take (k+2))) (CA V)<4294967296:=by
   grind[AB,DZ,CA,Nat.min_le_left]
  obtain⟨G,hG⟩:∃G,AB (DZ (A.getD (j+(k+2)) 0) ((A.drop j).take (k+2))) (CA V)=G:=⟨_,rfl⟩;rw[hG]at hg hgb;have hsp:=aj3 (U:=A) (j:=j) (n:=k+2) ω;have hwl:O ((A.drop j).take (k+2))=O V:=γ
  have hpl:O (A.take j)=j:=γ
  have htk:=fun(h:aj) (d:Nat) (hh:h 2408=.ar 1 (aS A)) (hd:h (2000+8*d)=.dead)=>aj2 (V:=V) (us:=(A.drop j).take (k+2)) (P:=A.take j) (Q:=A.drop (j+(k+2)+1)) (q:=G) (lo:=j) (top:=A.getD (j+(k+2)) 0) hV hgb hn ω hwl hpl (jy (sk hA j) _) (dD hA _) (h:=h) (d:=d) (id:=2408) γ hd;rw[hvl]at htk;have sl:gA 1 (.rsl 2408 none 1 0 UL) (some (I (j:Int))) (some (I ((j+(k+2)+1:Nat):Int))) none=some (.rsl 2408 none 1 j (k+2+1)):=by
   have h1:mS UL UL (some (I ((j+(k+2)+1:Nat):Int)))=some (j+(k+2)+1):=Et rfl ω;have h2:mS 0 (j+(k+2)+1) (some (I (j:Int)))=some j:=Et rfl ω;have h3:j+(k+2)+1-j=k+2+1:=ω
   simp only[gA,nc,h1,h2,aEZ,aFK,aES,h3,if_true,Option.isNone_none]
  rw[ai];generalize aB _ _ _=L at ih⊢;simp only[mZ,go_sem,g8,g9,g10,g11,g12,g13,k63,k70,k2408,e1,w1,w2,w3,w4,w5,w6,r1,r2,b1,b2,b3,b4,b5,b6,l1,l2,l3,hg,sl,aEY,aES];rw[htk _ _ rfl rfl];have hpos:=atc (q:=G) (top:=A.getD (j+(k+2)) 0) (us:=(A.drop j).take (k+2)) (vs:=V) hgb (dD hA _) (jy (sk hA j) _) hV hwl;obtain⟨q1,q2,q3,q4⟩:=VB (q:=G) (top:=A.getD (j+(k+2)) 0) (us:=(A.drop j).take (k+2)) (vs:=V) hgb (dD hA _) (jy (sk hA j) _) hV hwl;have hVb:ab V<4294967296^ (k+2):=by grind[ft]
  obtain⟨x1,x2,x3⟩:=aew (n:=k+2) hA ω hVb hlt;have hs:=ajY (top:=A.getD (j+(k+2)) 0) (dD hA _) (jy (sk hA j) (k+2)) hV (by rw[hwl,hvl]) hvl hn2 ω;have hdv:CB V (j+1) A=((CB V j (rU A j (Bl (A.getD (j+(k+2)) 0) ((A.drop j).take (k+2)) V).1 (Bl (A.getD (j+(k+2)) 0) ((A.drop j).take (k+2)) V).2.1)).1,(CB V j (rU A j (Bl (A.getD (j+(k+2)) 0) ((A.drop j).take (k+2)) V).1 (Bl (A.getD (j+(k+2)) 0) ((A.drop j).take (k+2)) V).2.1)).2++[(Bl (A.getD (j+(k+2)) 0) ((A.drop j).take (k+2)) V).2.2]):=by
   rw[←hvl];rfl
  rw[x1]at hs;rw[hdv];have hds:Bl (A.getD (j+(k+2)) 0) ((A.drop j).take (k+2)) V=if(rG G (A.getD (j+(k+2)) 0) ((A.drop j).take (k+2)) V).2.2=true then(gP (rG G (A.getD (j+(k+2)) 0) ((A.drop j).take (k+2)) V).1 V (O V),((rG G (A.getD (j+(k+2)) 0) ((A.drop j).take (k+2)) V).2.1+lZ (rG G (A.getD (j+(k+2)) 0) ((A.drop j).take (k+2)) V).1 V (O V)) %4294967296,G-1)else((rG G (A.getD (j+(k+2)) 0) ((A.drop j).take (k+2)) V).1,(rG G (A.getD (j+(k+2)) 0) ((A.drop j).take (k+2)) V).2.1,G):=by
   unfold Bl;rw[hG]
  generalize rG G (A.getD (j+(k+2)) 0) ((A.drop j).take (k+2)) V=r at*
  obtain⟨ra,rt,rf⟩:=r;generalize Bl (A.getD (j+(k+2)) 0) ((A.drop j).take (k+2)) V=sd at*
  have wg:IntKind.u32.wrap (G:Int)=G:=WF rfl hgb;have o1:(aS (aER (j+1) 0++Dn))[j]?=some [U (0:Nat)]:=by
   rw[nF (by simp;omega),aF3,List.getElem?_append_left σ,List.getElem?_replicate,ap ω];rfl
  have o2:∀z:Nat,(aS (aER (j+1) 0++Dn)).set j [U (z:Int)]=aS (aER j 0++z::Dn):=fun z=>by
   rw[so];congr 1;rw[List.replicate_succ',aFO,List.set_append_right _ _ σ];simp
  have o3:=aa ((j:Int)< (QL:Int));cases rf with
  |false=>
   simp only[aFv,if_false]at hds;subst hds;simp only at hs⊢;obtain⟨d1,d2,d3,d4,d5⟩:=hs;rw[aj4 d4];have ih':=ih (rU A j ra rt) (G::Dn) (VC hA d3 d5) (by rw[H0 ω];exact hl) ω (by simp;omega) (by
    rw[NH ω,gu,d4,w2' x2,d1];exact aFx _ ω)
   simp only[go_sem,w7,wg,o1,o2,o3,e1,aEY,aES];rw[aFO];apply ih'<;>rfl
  |true=>
   simp only[if_true]at hds;subst hds;simp only at hs q2 q3 q4⊢;obtain⟨d1,d2,d3,d4,d5⟩:=hs;have hG1:1<=G:=hpos rfl;have wq:IntKind.u64.wrap ((G:Int)-1)=((G-1:Nat):Int):=iH ω ω;have wg1:IntKind.u32.wrap ((G-1:Nat):Int)=((G-1:Nat):Int):=WF rfl ω;have hx:=avZ (V:=V) (us:=ra) (P:=A.take j) (Z:=rt::A.drop (j+(k+2)+1)) (Qr:=aER (j+1) 0++Dn) (sh:=sh) (n:=(k+2:Nat)) (j:=(j:Int)) (g:=((G-1:Nat):Int)) (UL:=UL) (QL:=QL) (J:=j) hV q3 q4 hn hpl rfl ω ω;simp only[go_sem,wq];generalize hX:ao 4 _ _=X;obtain⟨hh,rfl,y70,y2408,yd⟩:=hx _ _ _ hX rfl rfl rfl rfl rfl rfl rfl rfl rfl rfl rfl rfl rfl rfl;have y63:hh 63=.dead:=yd _ δ δ;have hsl:O (gP ra V (O V))=k+2:=by rw[tQ,hvl]
   have wc:IntKind.u32.wrap ((rt:Int)+(lZ ra V (O V):Int))=(((rt+lZ ra V (O V)) %4294967296:Nat):Int):=Li σ;have z1:(aS (A.take j++(gP ra V (O V)++rt::A.drop (j+(k+2)+1))))[j+(k+2)]?=some [U (rt:Nat)]:=by
    rw[nF (by simp[hpl,hsl]),aF3,List.getElem?_append_right ω,List.getElem?_append_right ω,hpl,hsl,Nat.add_sub_cancel_left,Nat.sub_self];rfl
   have z2:(aS (A.take j++(gP ra V (O V)++rt::A.drop (j+(k+2)+1)))).set (j+(k+2)) [U (((rt+lZ ra V (O V)) %4294967296:Nat):Int)]=aS (rU A j (gP ra V (O V)) ((rt+lZ ra V (O V)) %4294967296)):=by
    rw[so,List.set_append_right _ _ ω,List.set_append_right _ _ ω,hpl,hsl,Nat.add_sub_cancel_left,Nat.sub_self,←aj4 hsl];rfl
   have ih':=ih (rU A j (gP ra V (O V)) ((rt+lZ ra V (O V)) %4294967296)) ((G-1)::Dn) (VC hA d3 d5) (by rw[H0 ω];exact hl) ω (by simp;omega) (by
    rw[NH ω,gu,hsl,w2' x2,d1];exact aFx _ ω)
   generalize rU A j (gP ra V (O V)) ((rt+lZ ra V (O V)) %4294967296)=A2 at*
   generalize(rt+lZ ra V (O V)) %4294967296=rc at*
   simp only[go_sem,w1,w7,wg1,wc,z1,z2,o1,o2,o3,e1,b1,b4,y63,y70,y2408,aEY,aES];rw[aFO];exact ih' _ _ rfl rfl rfl rfl rfl rfl y63 rfl rfl
def aqs{x:Nat}(hx:x<4294967296):R 329 [U x] []=some (I (32-ag x:Nat),[]):=by
 refine au J4 ?_;have hb:ag x<=32:=bH.2 hx;have hl:=aaQ hx;have w1:aG (32- (ag x))=(32-ag x:Nat):=wi;simp only[tN,go_sem,hl,w1]
def av0{V A}{k}{sh}{UL m}(hV:Lb V)(hvl:O V=k+2)(hn2:2147483648<=V.getD (k+1) 0)(hn:O V<=100000)(hUL:UL<=100000)(hA:Lb A)(hl:O A=UL)(hm:m+(k+2)<=UL)(hlt:ab (A.drop m)<ab V)(s)(h)(X)(hX:ao 2 [8,9,11,12] (aB (am R (aA false) mZ) [8,9,10,11,12,13] [63,70,2408] s h)=X)
  (g8:s 8=I sh) (g9:s 9=.rsl 2408 none 1 0 UL) (g10:s 10=lm V) (g11:s 11=I (k+2:Nat)) (g12:s 12=.rsl 70 none 1 0 m) (g13:s 13=I (m-1)) (k63:h 63=.dead) (k70:h 70=.ar 1 (aS (aER m 0))) (k2408:h 2408=.ar 1 (aS A)):
  ∃hh,X=some (.normal,⟨upd (upd (upd (upd ce 12 (.rsl 70 none 1 0 m)) 11 (I (k+2:Nat))) 9 (.rsl 2408 none 1 0 UL)) 8 (I sh),hh⟩)/\hh 70=.ar 1 (aS (CB V m A).2)/\hh 2408=.ar 1 (aS (CB V m A).1)/\(∀a,a≠70->a≠2408->hh a=.dead):=by
 subst hX;have:=anl (sh:=sh) (QL:=m) hV hvl hn2 hn hUL m A [] hA hl hm σ hlt s h g8 g9 g10 g11 g12 g13 k63 (by rw[aE8];exact k70) k2408;rw[aE8]at this;exact this
def anm{b}{k}(hb:Lb b)(hl:O b=k+2)(ht:b.getD (k+1) 0≠0):2147483648*4294967296^ (k+1)<=ab b*2^ (32-ag (b.getD (k+1) 0))/\ab b*2^ (32-ag (b.getD (k+1) 0))<4294967296^ (k+2):=by
 have h1:ab b=ab (b.take (k+1))+4294967296^ (k+1)*b.getD (k+1) 0:=by
  rw[←jg,aFi ω]
 have h2:=ft (jy hb (k+1));rw[aFm,aFW ω]at h2;have h3:=dD hb (k+1);generalize b.getD (k+1) 0=x at*
 have h4:ag x<=32:=bH.2 h3;have h5:=fE ht;have h6:=eB (n:=x) (32-ag x) ht;have h7:2147483648<=x*2^ (32-ag x):=by
  refine Nat.le_of_not_lt fun hc=>?_;have:=bH.2 (show x*2^ (32-ag x)<2^31 from hc);omega
 have h8:=by
  have h9:x<2^ag x:=bH.1 (aET _);have h10:(x+1)*2^ (32-ag x)<=2^ag x*2^ (32-ag x):=aE4 _ h9;rw[←aE2,show ag x+(32-ag x)=32 by omega]at h10;exact h10
 rw[h1];have e:4294967296^ (k+2)=4294967296^ (k+1)*4294967296:=aFJ ..;rw[e];generalize 4294967296^ (k+1)=B at*
 generalize 2^ (32-ag x)=S at*
 have h11:B*2147483648<=B*(x*S):=aFV _ h7;have h12:B*((x+1)*S)<=B*4294967296:=aFV _ h8;have h13:(ab (b.take (k+1))+B*x)*S=ab (b.take (k+1))*S+B*(x*S):=by rw[aFf,aFj]
 rw[h13];constructor
 ·omega
 ·have hS:0<S:=by
   rcases Nat.eq_zero_or_pos S with h0|h0
   ·rw[h0]at h7;omega
   ·exact h0
  have h14:=Nat.mul_lt_mul_of_pos_right h2 hS;rw[aFf,Nat.one_mul,Nat.mul_add]at h12;omega
def adf{a b}(ha:Lb a)(hb:Lb b)(h1:O a<=50000)(h2:O b<=50000)(hl:O (ax (ab b))=1)(hge:ab b<=ab a):R 307 [lm a,lm b] []=some (.tup [lm (gY (ab b) (ax (ab a))).1,lm [ab a%ab b]],[]):=by
 refine au wG ?_;have t1:=cI ha ω;have t2:=cI hb ω;have la:=eA a ha;have hc:=tC (aH (ab a)) (aH (ab b)) ω ω;rw[aJ,aJ]at hc;have e1:(dM (ab a) (ab b)<0)=False:=by
  unfold dM;grind
 obtain⟨y,hy⟩:=List.length_eq_one_iff.1 hl;have hv:ab b=y:=by
  grind[aJ,ab]
 have hyb:=by
  have:=aH (ab b);rw[hy]at this;exact this y σ
 have hy0:0<y:=by
  grind[cO]
 have hs:=anj (aH (ab a)) hy0 hyb ω;obtain⟨s1,s2,s3⟩:=G2 hy0 (aH (ab a));rw[aJ]at s1;have s4:(gY y (ax (ab a))).2=ab a%y:=by
  grind[aFd,Nat.mul_add_mod,aFG]
 rw[hv]at hge⊢;rw[s4]at hs;rw[hy]at t2 hc;have e2:dF (aS [y]) 0=some (.ipt [U y]):=dV (n:=0) rfl σ;have e3:O ([y]:List Nat)=1:=rfl;have e4:((1:Nat):Int)=1:=rfl;simp only[mB,rB,go_sem,t1,t2,hc,e1,e2,e3,e4,hs,decide_true];rfl
def adg{a b}{k}(ha:Lb a)(hb:Lb b)(h1:O a<=50000)(h2:O b<=50000)(hl:O (ax (ab b))=k+2)(hge:ab b<=ab a):∃Q Rr,R 307 [lm a,lm b] []=some (.tup [lm Q,lm Rr],[])/\Lb Q/\Lb Rr/\ab Q=ab a/ab b/\ab Rr=ab a%ab b/\O Q<=100000/\O Rr<=100000:=by
 have t1:=cI ha ω;have t2:=cI hb ω;have la:=eA a ha;have lb:=eA b hb;have hc:=tC (aH (ab a)) (aH (ab b)) ω ω;rw[aJ,aJ]at hc;have e1:(dM (ab a) (ab b)<0)=False:=by
  unfold dM;grind
 have hvd:=aJ (ab b);have hLd:=aH (ab b);have hb0:ab b≠0:=fun h=>by
  rw[sj.2 h]at hl;grind
 have ht:(ax (ab b)).getD (k+1) 0≠0:=by
  intro h0;have q1:ab (ax (ab b))=ab ((ax (ab b)).take (k+1))+4294967296^ (k+1)*(ax (ab b)).getD (k+1) 0:=by
   rw[←jg,aFi ω]
  have q2:=ft (jy hLd (k+1));have q3:=WD hb0;rw[aFm,aFW ω]at q2;rw[hl,show k+2-1=k+1 from rfl]at q3;rw[h0,Nat.mul_zero,hvd]at q1;omega
 obtain⟨n1,n2⟩:=anm hLd hl ht;rw[hvd]at n1 n2;have hy:=dD hLd (k+1);have hyl:dF (aS (ax (ab b))) ((k+1:Nat):Int)=some (.ipt [U ((ax (ab b)).getD (k+1) 0:Nat)]):=dV (n:=k+1) rfl ω;generalize(ax (ab b)).getD (k+1) 0=y at*
 have hlz:=aqs hy;have hbl:ag y<=32:=bH.2 hy;have hbp:=fE ht;generalize hs:32-ag y=s at*
 have hs32:=ω
 have s1:=No (aH (ab a)) (n:=s) ω ω;have s2:=No hLd (n:=s) ω ω;rw[aJ,show s/32=0 by omega,aES]at s1 s2;have hsp:=aFu (n:=2) (i:=s) (j:=31) δ ω;have hAl:=fJ (ab a);have hBl:=fJ (ab b);have hle:k+2<=O (ax (ab a)):=by
  rw[←hl];refine Nat.le_of_not_lt fun hc=>?_;have:=GH hc;omega
 have hA2:ab a*2^s<4294967296^ (O (ax (ab a))+1):=by
  rw[aFJ];exact Nat.mul_lt_mul_of_lt_of_le hAl ω δ
 have hB2:ab b*2^s<4294967296^ (O (ax (ab b))+1):=by
  rw[aFJ];exact Nat.mul_lt_mul_of_lt_of_le hBl ω δ
 have t3:=cI (m:=fS (O (ax (ab b))+1) (ab b*2^s)) (qT _ _) (by rw[dv];omega);rw[po,aFG hB2]at t3;have hVv:=aJ (ab b*2^s);have hVb:=aH (ab b*2^s);have hVl:=by
  have q1:=eN n2;have q2:=fJ (ab b*2^s);refine Nat.le_antisymm q1 (Nat.le_of_not_lt fun hc=>?_);have q3:4294967296^ O (ax (ab b*2^s))<=4294967296^ (k+1):=aFu δ ω;omega
 have hVt:2147483648<=(ax (ab b*2^s)).getD (k+1) 0:=by
  have q1:ab (ax (ab b*2^s))=ab ((ax (ab b*2^s)).take (k+1))+4294967296^ (k+1)*(ax (ab b*2^s)).getD (k+1) 0:=by
   rw[←jg,aFi ω]
  have q2:=ft (jy hVb (k+1));rw[aFm,aFW ω]at q2;refine Nat.le_of_not_lt fun hc=>?_;have q3:4294967296^ (k+1)*((ax (ab b*2^s)).getD (k+1) 0+1)<=4294967296^ (k+1)*2147483648:=aFV _ hc;rw[Nat.mul_add,Nat.mul_one]at q3;omega
 generalize ax (ab b*2^s)=V at*
 obtain⟨m,hm⟩:∃m,O (ax (ab a))=m+(k+1):=⟨_,(Nat.sub_add_cancel ω).symm⟩;have hUv:ab (fS (O (ax (ab a))+1) (ab a*2^s))=ab a*2^s:=by rw[po,aFG hA2]
 have hUb:=qT (O (ax (ab a))+1) (ab a*2^s);have hUl:=dv (O (ax (ab a))+1) (ab a*2^s);have hlt:ab ((fS (O (ax (ab a))+1) (ab a*2^s)).drop m)<ab V:=by
  rw[Lj hUb,hUv,hVv];refine aFQ (Nat.div_lt_of_lt_mul ?_) n1;rw[aFd 2147483648,←aFj,←aE2,←hm];exact Nat.mul_lt_mul_of_lt_of_le hAl hsp δ
 generalize fS (O (ax (ab a))+1) (ab a*2^s)=A at*
 obtain⟨d1,d2,d3,d4,d5,d6⟩:=aj0 hVb hVl hVt m A hUb ω hlt;have hdx:=av0 (sh:=s) hVb hVl hVt ω (UL:=O A) ω hUb rfl (m:=m) ω hlt;generalize(CB V m A).1=rr at*
 generalize(CB V m A).2=qq at*
 have hrt:ab (rr.take (k+2))=ab rr:=by
  have q1:=gu (rr.take (k+2)) (rr.drop (k+2));rw[List.take_append_drop]at q1;have q2:=Lj d5 (k+2);rw[Nat.div_eq_of_lt (Nat.lt_trans d2 (by rw[hVv];exact n2))]at q2;rw[q2]at q1;omega
 have s3:=aaO (jy d5 (k+2)) (n:=s) (by rw[aFm];omega) ω;rw[hrt,show s/32=0 by omega,Nat.sub_zero]at s3;have hrr:ab rr/2^s=ab a%ab b/\ab qq=ab a/ab b:=by
  rw[hUv,hVv]at d1;rw[hVv]at d2;have q0:=aE7 s;have q1:=by
   have:ab a*2^s%2^s=0:=Nat.mul_mod_left ..;rw[d1,aFj,aFd (ab b),aFj,Nat.add_mul_mod_self_left]at this;exact this
  obtain⟨r,hr⟩:=Nat.dvd_of_mod_eq_zero q1;rw[hr,Nat.mul_div_cancel_left _ q0];rw[hr]at d1 d2;have q2:ab a=r+ab b*ab qq:=by
   refine Nat.eq_of_mul_eq_mul_right q0 ?_;rw[d1];grind
  have q3:r<ab b:=by
   refine Nat.lt_of_mul_lt_mul_right (a:=2^s) ?_;rw[aFd r];exact d2
  rw[q2,Nat.add_mul_mod_self_left,aFG q3,Nat.add_mul_div_left _ _ ω,Nat.div_eq_of_lt q3,aES];exact⟨rfl,rfl⟩
 refine⟨qq,fS (O (ax (ab rr))) (ab rr/2^s),?_,d6,qT _ _,hrr.2,?_,by omega,?_⟩;rotate_left
 ·rw[po,aFG (aFl (aF1 _ _) (fJ _))];exact hrr.1
 ·rw[dv];have:=eA rr d5;omega
 refine au wG ?_;generalize fS (O (ax (ab b))+1) (ab b*2^s)=B2 at s2 t3;have tk:List.take (O B2) (aS B2)=aS B2:=aFi (by simp[aS]);have e2:=aP ((O (ax (ab b)):Int)=1);have w1:aG ((O (ax (ab b)):Int)-1)=((k+1:Nat):Int):=wi;have e3:=aP ((O A:Int)<=O (ax (ab a)));have w2:aG ((O A:Int)-O V)=((m:Nat):Int):=wi;have w3:aG ((m:Int)-1)=(m:Int)-1:=i64_in _ ⟨by omega,by omega⟩;have z1:oH (.v (.int .i64 (m:Int))) (.v (.int .i64 (m:Int)))=some (m,m):=by
  simp only[oH];rw[ap ⟨by omega,by omega,by omega⟩];rfl
 have z2:=aa (m*4<=140737488355328);simp only[mB,rB,go_sem,t1,t2,hc,e1,e2,aES,aET,e3,w1,hyl,hlz,s1,s2,tk,t3];rw[ai];simp only[DT,go_sem,e3,w2,w3,z1,z2];generalize hX:ao 2 _ _=X;obtain⟨hh,rfl,q70,q2408,qd⟩:=hdx _ _ _ hX Z Z Z (by rw[hVl];rfl) Z Z Z (by simp[aS];rfl) rfl;have e4:∀n:Nat,n<=O A->gA 1 (.rsl 2408 none 1 0 (O A)) none (some (I (n:Int))) none=some (.rsl 2408 none 1 0 n):=fun n hn=>by simp[gA,nc,mS,hn]
 have e4:=e4 (k+2) ω;have e5:=aa (0+(k+2)<=O rr);have e6:List.take (k+2) (aS rr)=aS (rr.take (k+2)):=(List.map_take ..).symm;simp only[go_sem,q70,q2408,qd 3336 δ δ,e4,e5,e6,s3];rw[d3,ap ω,ap rfl];simp only[go_sem]
theorem WU{a b}(ha:Lb a)(hb:Lb b)(h1:O a<=50000)(h2:O b<=50000)(h0:ab b≠0)(hge:ab b<=ab a):∃Q Rr,R 307 [lm a,lm b] []=some (.tup [lm Q,lm Rr],[])/\Lb Q/\Lb Rr/\ab Q=ab a/ab b/\ab Rr=ab a%ab b/\O Q<=100000/\O Rr<=100000:=by
 have la:=eA a ha;have lb:=eA b hb;have hn:O (ax (ab b))≠0:=fun h=>h0 (sj.1 (List.length_eq_zero_iff.1 h));by_cases hl:O (ax (ab b))=1
 ·have:=adf ha hb h1 h2 hl hge;have hb1:=fJ (ab b);rw[hl,Nat.pow_one]at hb1;obtain⟨s1,s2,s3⟩:=G2 (Nat.pos_of_ne_zero h0) (aH (ab a));rw[aJ]at s1;have s4:=aex (Nat.pos_of_ne_zero h0) hb1 (aH (ab a));refine⟨_,_,this,s4,fun x hx=>?_,?_,?_,by omega,by simp⟩
  ·have:=by simpa using hx
   have:=aFx (ab a) (Nat.pos_of_ne_zero h0);omega
  ·generalize(gY (ab b) (ax (ab a))).2=r at*
   generalize(gY (ab b) (ax (ab a))).1=q at*
   rw[s1,aFd,Nat.mul_add_div (Nat.pos_of_ne_zero h0),Nat.div_eq_of_lt s2,aFA]
  ·simp[ab]
 ·obtain⟨k,hk⟩:∃k,O (ax (ab b))=k+2:=⟨O (ax (ab b))-2,by omega⟩;exact adg ha hb h1 h2 hk hge
theorem WV{a b}(ha:Lb a)(hb:Lb b)(h1:O a<=256)(h2:O b<=256)(h0:ab b≠0)(hge:ab b<=ab a):R 266 [lm a,lm b] []=some (.tup [lm (ax (ab a/ab b)),lm (ax (ab a%ab b)),I 0],[]):=by
 refine au BR ?_;have e1:=aP (256<O a);have e2:=aP (256<O b);obtain⟨Q,Rr,hd,q1,q2,q3,q4,q5,q6⟩:=WU ha hb ω ω h0 hge;have t1:=cI q1 ω;have t2:=cI q2 ω;rw[q3]at t1;rw[q4]at t2;have e3:((O (ax (ab b)):Int)=0)=False:=eq_false fun h=>h0 (sj.1 (List.length_eq_zero_iff.1 ω));simp only[pR,go_sem,e1,e2,e3,tP,cI hb ω,hd,t1,t2,Ox]
def yb(a b:Rd)(p:Int):Nat:=(p+3+ag (ab b.m)-ag (ab a.m)).toNat
def lC(a b:Rd)(p:Int)(up:Bool):Rd×Int:=if bo p [a,b]=0 then(if O b.m=0 then(aC,10)else if O a.m=0 then(aC,0)else
 iq (a.neg !=b.neg) (cx (ab a.m*2^yb a b p/ab b.m) (a.e-yb a b p-b.e) (decide (ab a.m*2^yb a b p%ab b.m≠0)) p (up != (a.neg !=b.neg))))else(aC,bo p [a,b])
def aez{a b}(oa:Ok0 a)(ob:Ok0 b){p}{up}:R 209 [af a,af b,I p,B up] []=some (rV (lC a b p up),[]):=by
 refine au ac2 ?_;have hf:R 169 [I p,.sl 3 [[B a.neg,lm a.m,I a.e],[B b.neg,lm b.m,I b.e]]] []=some (I (bo p [a,b]),[]):=BU (p:=p) (l:=[a,b]) (fun x hx=>by
  grind) (show 2<=100000 by decide)
 unfold lC;by_cases h0:bo p [a,b]=0
 ·obtain⟨v1,v2,v3⟩:=vM h0;have v4:vd a=true/\vd b=true:=γ
  obtain⟨va,vb⟩:=v4;obtain⟨a1,a2,a3,a4⟩:=dT va oa.lb;obtain⟨b1,b2,b3,b4⟩:=dT vb ob.lb;rw[ap h0];rw[h0]at hf;by_cases b0:O b.m=0
  ·have e1:=aa ((O b.m:Int)=0);rw[ap b0];simp only[uU,rV,af,ak,aC,go_sem,hf,e1]
  have e1:=aP ((O b.m:Int)=0);rw[av b0];by_cases a0:O a.m=0
  ·have e2:=aa ((O a.m:Int)=0);rw[ap a0];simp only[uU,rV,af,ak,aC,go_sem,hf,e1,e2]
  have e2:=aP ((O a.m:Int)=0);rw[av a0];have hA:=dN va a0;have hB:=dN vb b0;obtain⟨n,rfl⟩:=aFy (show 0<=p by omega);have d1:=Ln oa;have d2:=Ln ob;rw[ap va]at d1;rw[ap vb]at d2;have hk:yb a b (n:Nat)=((n:Int)+3+ag (ab b.m)-ag (ab a.m)).toNat:=rfl;generalize yb a b n=k at*
  have hm2:=eB k hA;have hl2:O (ax (ab a.m*2^k))<=256:=bk ω;have hs:=Ct oa.lb a1 (k:=k) ω hl2;have hge:ab b.m<=ab (ax (ab a.m*2^k)):=by
   rw[aJ];refine Nat.le_of_not_lt fun hc=>?_;have:=Cq (Nat.le_of_lt hc) (aET _);omega
  have hd:=WV (aH (ab a.m*2^k)) ob.lb hl2 b1 hB hge;rw[aJ]at hd;have hqb:ag (ab a.m*2^k/ab b.m)<=8192:=Cq (aF1 _ _) ω;have hrb:ag (ab a.m*2^k%ab b.m)<=8192:=Cq (Nat.mod_le _ _) ω;have hbt:=Cs (aH (ab a.m*2^k%ab b.m)) (aEX (bk (k:=256) ω) δ);rw[aJ]at hbt;have hsg:=IU (M:=ax (ab a.m*2^k/ab b.m)) (e:=a.e-k-b.e) (n:=n) (more:=decide (ab a.m*2^k%ab b.m≠0)) (up:=up) (neg:=a.neg !=b.neg) (aH _) (bk ω) ⟨by omega,by omega⟩ ⟨by omega,by omega⟩;rw[aJ]at hsg;have hmr:decide (ab a.m*2^k%ab b.m≠0)=decide ((0:Int)< (ag (ab a.m*2^k%ab b.m):Nat)):=by
   grind[Cr,decide_eq_true,fE]
  rw[hmr]at hsg⊢;have w1:aG ((n:Int)+3)=(n:Int)+3:=i64_in _ ⟨by omega,by omega⟩;have w2:aG ((n:Int)+3+(ag (ab b.m):Nat))=(n:Int)+3+(ag (ab b.m):Nat):=i64_in _ ⟨by omega,by omega⟩;have w3:aG ((n:Int)+3+(ag (ab b.m):Nat)- (ag (ab a.m):Nat))=(n:Int)+3+(ag (ab b.m):Nat)- (ag (ab a.m):Nat):=i64_in _ ⟨by omega,by omega⟩;have w4:aG (a.e- (k:Int))=a.e-k:=i64_in _ ⟨by omega,by omega⟩;have w5:aG (a.e- (k:Int)-b.e)=a.e-k-b.e:=i64_in _ ⟨by omega,by omega⟩;have em:(if(0:Int)< (n:Int)+3+(ag (ab b.m):Nat)- (ag (ab a.m):Nat)then(n:Int)+3+(ag (ab b.m):Nat)- (ag (ab a.m):Nat)else 0)=(k:Int):=ω
  simp only[rV,af,ak,Bj]at hsg d1 d2;simp only[uU,rV,af,ak,go_sem,hf,e1,e2,d1,d2,w1,w2,w3,w4,w5,em,hs,hd,hbt,DA,hsg]
 ·have e1:(bo p [a,b]=0)=False:=ff h0;rw[av h0];simp only[uU,rV,af,ak,aC,go_sem,hf,e1]
def abq{a b}(oa:Ok0 a)(ob:Ok0 b){p}:R 146 [af a,af b,I p] []=some (rV (lC a b p true),[]):=by
 refine au xr ?_;have hr:=aez oa ob (p:=p) (up:=true);simp only[rV,af,ak]at hr;simp only[Eb,rV,af,ak,go_sem,hr]
def TA{a b}(oa:Ok0 a)(ob:Ok0 b){p}:R 145 [af a,af b,I p] []=some (rV (lC a b p false),[]):=by
 refine au tw ?_;have hr:=aez oa ob (p:=p) (up:=false);simp only[rV,af,ak]at hr;simp only[BK,rV,af,ak,go_sem,hr]
def xQ{a b}{p}{up}:vd (lC a b p up).1=true/\Ok0 (lC a b p up).1:=by
 unfold lC;split
 ·split
  ·exact aO
  ·split
   ·exact aO
   ·exact aju
 ·exact aO
def dC(x y:Ri)(p:Int):Ri:=if(kI x&&kI y&&bv p)=true then(if HT y=0 then bt else Mg (uD (fun a b=>lC a b p false) (fun a b=>lC a b p true) (ed x y)))else bt
def sA{x y}(ox:OkI x)(oy:OkI y){p}:R 86 [ae x,ae y,I p] []=some (ae (dC x y p),[]):=by
 refine au UP ?_;have hk:=IY ox oy;have hp:=l8 (p:=p);have hw:=dW;have hs:=Lt oy;have hf:=ad6 ox oy (p:=p) (dn:=fun a b=>lC a b p false) (up:=fun a b=>lC a b p true) ⟨fun h1 h2=>TA h1 h2,xQ.2,tw.1.1,tw.1.2.1,tw.1.2.2.2,tw.1.2.2.1⟩ ⟨fun h1 h2=>abq h1 h2,xQ.2,xr.1.1,xr.1.2.1,xr.1.2.2.2,xr.1.2.2.1⟩;unfold dC;generalize Mg (uD (fun a b=>lC a b p false) (fun a b=>lC a b p true) (ed x y))=z at hf⊢;generalize HT y=sg at*
 simp only[ae,ah,bt,aC]at hw hf hs;cases h1:(kI x&&kI y)with
 |false=>
  rw[h1]at hk;rw[aE0,av aE3];simp only[oM,ae,ah,bt,aC,go_sem,hk,hw]
 |true=>
  rw[h1]at hk;have hs:=hs ((aEV _ _).mp h1).2;cases h2:bv p with
  |false=>
   rw[h2]at hp;rw[aEW,av aE3];simp only[oM,ae,ah,bt,aC,go_sem,hk,hp,hw]
  |true=>
   rw[h2]at hp;rw[aEW,ap rfl];by_cases h3:sg=0
   ·have e3:=eq_true h3;rw[ap h3];simp only[oM,ae,ah,bt,aC,go_sem,hk,hp,hw,hs,e3]
   ·have e3:=eq_false h3;rw[av h3];simp only[oM,ae,ah,bt,aC,go_sem,hk,hp,hf,hs,e3]
def FJ{x}(ox:OkI x){p}:R 220 [ae x,I p] []=some (ae (oA x p),[]):=by
 refine au QQ ?_;have hk:=kU ox;have hp:=l8 (p:=p);have hw:=dW;have hd:=IX ox.lo (p:=p);have hu:=OD ox.hi (p:=p);unfold oA;generalize bY x.lo p false=r at hd⊢;generalize bY x.hi p true=q at hu⊢;obtain⟨r1,r2⟩:=r;obtain⟨q1,q2⟩:=q;have hm:=Cu (a:=r1) (b:=q1) (e:=r2) (f:=q2);simp only[ae,ah,rV,af,ak]at hw hd hu hm;cases h1:kI x with
 |false=>
  rw[h1]at hk;rw[aFT,av aE3];simp only[pK,ae,ah,go_sem,hk,hw]
 |true=>
  rw[h1]at hk;cases h2:bv p with
  |false=>
   rw[h2]at hp;simp only[pK,ae,ah,go_sem,hk,hp,hw]
  |true=>
   rw[h2]at hp;simp only[pK,ae,ah,go_sem,hk,hp,hw,hd,hu,hm]
def rW(x:Ri):Ri:=if kI x=true then⟨gW x.hi,gW x.lo,false⟩else bt
theorem EH{x}(ox:OkI x):OkI (rW x):=by
 unfold rW;split
 ·exact⟨Cv ox.hi,Cv ox.lo⟩
 ·exact⟨aO.2,aO.2⟩
def G3{x}(ox:OkI x):R 65 [ae x] []=some (ae (rW x),[]):=by
 refine au UN ?_;have hk:=kU ox;have hw:=dW;have h1:R 132 [af x.lo] []=some (af (gW x.lo),[]):=Dz ox.lo;have h2:R 132 [af x.hi] []=some (af (gW x.hi),[]):=Dz ox.hi;unfold rW;simp only[ae,ah,af,ak]at hw h1 h2;cases h0:kI x with
 |false=>
  rw[h0]at hk;simp only[ym,ae,ah,go_sem,hk,hw]
 |true=>
  rw[h0]at hk;simp only[ym,ae,ah,go_sem,hk,h1,h2]
def EI(x y:Ri)(p:Int):Ri:=de x (rW y) p
def OW{x y}(ox:OkI x)(oy:OkI y){p}:R 58 [ae x,ae y,I p] []=some (ae (EI x y p),[]):=by
 refine au UJ ?_;have h1:=G3 oy;have h2:=xN ox (EH oy) (p:=p);unfold EI;simp only[ae,ah]at h1 h2;simp only[Da,ae,ah,go_sem,h1,h2]
def GL(x y:Ri):Ri:=if(kI x&&kI y)=true then⟨lw x.lo y.lo,nS x.hi y.hi,false⟩else bt
def abr{x y}(ox:OkI x)(oy:OkI y):R 262 [ae x,ae y] []=some (ae (GL x y),[]):=by
 refine au Ta ?_;have hk:=IY ox oy;have hw:=dW;have h1:=Vm ox.lo oy.lo;have h2:=Vn ox.hi oy.hi;unfold GL;simp only[ae,ah,af,ak]at hw h1 h2;cases h0:(kI x&&kI y)with
 |false=>
  rw[h0]at hk;simp only[wx,ae,ah,go_sem,hk,hw]
 |true=>
  rw[h0]at hk;simp only[wx,ae,ah,go_sem,hk,h1,h2]
def Mi:Ri:=⟨aC,aC,false⟩
def tF(x y:Ri):Ri×Bool:=if(vi x&&vi y)=true then(if x.all=true then(y,true)else if y.all=true then(x,true)else if jz (nS x.lo y.lo) (lw x.hi y.hi)<=0 then(⟨nS x.lo y.lo,lw x.hi y.hi,false⟩,true)else(Mi,false))else(Mi,false)
def abt{x y}(ox:OkI x)(oy:OkI y):R 195 [ae x,ae y] []=some (.tup [ae (tF x y).1,B (tF x y).2],[]):=by
 refine au S1 ?_;have hx:=mL ox;have hy:=mL oy;have h1:=Vn ox.lo oy.lo;have h2:=Vm ox.hi oy.hi;have hc:=mF (HU ox.lo oy.lo) (aa0 ox.hi oy.hi);rw[show(if vd (nS x.lo y.lo)=true/\vd (lw x.hi y.hi)=true then gH (zI (nS x.lo y.lo)) (zI (lw x.hi y.hi))else 0)=jz (nS x.lo y.lo) (lw x.hi y.hi)from rfl]at hc;unfold tF;generalize jz (nS x.lo y.lo) (lw x.hi y.hi)=cc at hc⊢;simp only[ae,ah,af,ak]at hx hy h1 h2 hc;cases v1:vi x with
 |false=>
  rw[v1]at hx;simp only[iZ,ae,ah,Mi,aC,go_sem,hx]
  try rfl
 |true=>
  rw[v1]at hx;cases v2:vi y with
  |false=>
   rw[v2]at hy;simp only[iZ,ae,ah,Mi,aC,go_sem,hx,hy]
   try rfl
  |true=>
   rw[v2]at hy;cases a1:x.all with
   |true=>
    rw[a1]at hx;simp only[iZ,ae,ah,go_sem,hx,hy,a1]
   |false=>
    rw[a1]at hx;cases a2:y.all with
    |true=>
     rw[a2]at hy;simp only[iZ,ae,ah,go_sem,hx,hy,a1,a2]
    |false=>
     rw[a2]at hy;by_cases h3:cc<=0
     ·have e1:=aP (0<cc);rw[ap h3];simp only[iZ,ae,ah,go_sem,hx,hy,a1,a2,h1,h2,hc,e1]
     ·have e1:=aa (0<cc);rw[av h3];simp only[iZ,ae,ah,Mi,aC,go_sem,hx,hy,a1,a2,h1,h2,hc,e1]
      try rfl
end Go.Ab
