/-
  A law of models holds at every input that the statement speaks of, under the conditions that its card names. Part G1.
-/
import Derived.Test.YtdhfcpbpdmmphaaGreatDoorProg
import Derived.Shelf.Spec.TrailingZeros
import Derived.Test.YtdhfcpbpdmmphaaGreatDoorRows
import Derived.Deep.Strs
import Derived.ProofKit
import Derived.LaidMore
import Derived.OpenShut
import Derived.Carry
import Derived.Lib.Overlaps
import Derived.Laws.Externs
import Derived.Shelf.Slices.Clone
import Derived.Test.YtdhfcpbpdmmphaaGreatDoorF1
open Nat renaming add_zero → ayF, div_add_mod → ay4, le_of_ble_eq_true → ayU, le_refl → ayd, le_trans → ayj, lt_of_le_of_lt → ayS, lt_of_lt_of_le → ay8, min_eq_left → ay0, mod_lt → ayI, mul_assoc → ayD, mul_comm → ayy, mul_le_mul_right → aym, pow_add → ayn, reduceMod → ayQ, reduceSub → ayG, two_pow_pos → ayr, zero_add → ayc, zero_le → ayB
open Int renaming eq_ofNat_of_zero_le → aze, lt_irrefl → ay6, reduceEq → ayH, toNat_natCast → ayk
open Bool renaming and_eq_true → ayf, and_false → ay1, and_self → ayK, false_and → ayh, false_eq_true → aza, false_ne_true → ayl, not_eq_true' → azf, true_and → ayg, true_or → ay9
open List renaming all_cons → ayJ, append_assoc → ayX, append_nil → ayp, cons_append → ayW, drop_eq_getElem_cons → ayv, drop_eq_nil_of_le → ayw, drop_zero → azb, getElem_mem → ayC, length_append → ay5, length_cons → ayL, length_drop → azd, length_nil → ayR, length_replicate → azc, length_take → ayo, map_cons → ays, map_nil → ayu, mem_append → aDh, mem_map → ay2, nil_append → ayq, replicate → aya, take_of_length_le → ayt
open Option renaming bind_eq_some_iff → ayb, bind_some → ayi, map_eq_some_iff → aye, map_some → ayT
set_option linter.all false
namespace Go.Ab
open Go Go.IntWalk Go.Proofs Go.Shelf Go.ChangeShapes Go.WideShapes Go.Deep Go.RowKit Go.Proofs.Tryz
set_option maxRecDepth 100000
set_option maxHeartbeats 8000000
def mF(a b:Rd):Rd×Int:=if(vd a&&vd b)=true then cH (df (zI a-zI b) (-16384))else(aH,1)
theorem Bu(a b:Rd):vd (mF a b).1=true/\Ok0 (mF a b).1:=by
 unfold mF;split
 ·exact yO
 ·exact⟨rfl,⟨fun x hx=>(nomatch hx),by decide⟩⟩
theorem aix{a b:Rd}(vb:vd b=true):mF a b=je a (gW b):=by
 grind[yM,mF,je,Int.sub_eq_add_neg]
theorem afV{neg:Bool}{M k:Nat}:zI (bk neg M (-16384+(k:Int)))=bE neg (M*2^k):=by
 by_cases h0:M=0
 ·subst h0;rw[lg,cO rfl,Nat.zero_mul];cases neg<;>rfl
 ·rw[iN h0];obtain⟨t1,t2⟩:=tC h0;unfold zI mg bE;rw[aN];have hk:(-16384+(k:Int)+((tz M:Nat):Int)+16384).toNat=tz M+k:=ω
  have hm:M/2^tz M*2^ (-16384+(k:Int)+((tz M:Nat):Int)+16384).toNat=M*2^k:=by
   grind
  grind
theorem XJ{neg:Bool}{p:Int}{q:Nat}{e:Int}(h:(Bi neg true p q e).2=0):Bi neg true p q e=(bk neg q e,0)/\¬ (q≠0/\16384< ((af q:Nat):Int)+e):=by
 unfold Bi at h⊢;grind
theorem aaF{neg:Bool}{p:Int}{q q':Nat}{e:Int}(hq:q<=q')(h:¬ (q'≠0/\16384< ((af q':Nat):Int)+e)):Bi neg false p q e=(bk neg q e,0):=by
 unfold Bi;rw[if_neg];have h1:=yF hq (ayd _);omega
structure NearF (d lo hi:Rd) (q q' r k:Nat):Prop where
 hz:mg d=q*2^k+r
 hr:r<2^k
 hq:q'=if r=0 then q else q+1
 hlo:lo=bk d.neg (if d.neg=true then q' else q) (-16384+(k:Int))
 hhi:hi=bk d.neg (if d.neg=true then q else q') (-16384+(k:Int))
 hw:r≠0->∃t v:Nat,mg d=v*2^t/\t<=k/\k-t<=af v-8/\8<=af v/\af v<=4096/\af v+t<=32768
theorem ajc(d:Rd):zI d=bE d.neg (mg d):=rfl
theorem afW{d:Rd}(ok:Ok0 d)(v:vd d=true){p:Int}(hp:8<=p/\p<=512)(h0:(bZ d p false).2=0)(h1:(bZ d p true).2=0):∃q q' r k,NearF d (bZ d p false).1 (bZ d p true).1 q q' r k:=by
 have hf:aZ p [d]=0:=by
  simp_all[aZ,ayJ,List.all_nil,Bool.and_true,if_true,if_pos]
 have hR:∀up,bZ d p up=ED d.neg (mg d) (-16384) false p up:=fun up=>by
  simp_all[bZ,if_pos,ajc,Pf]
 rw[hR]at h0 h1;rw[hR,hR];unfold ED QS at h0 h1⊢;obtain⟨k,hk⟩:∃k,J9 (mg d) (-16384) p=k:=⟨_,rfl⟩;rw[hk]at h0 h1⊢;obtain⟨q',hq'⟩:∃q',q'=if mg d%2^k=0 then mg d/2^k else mg d/2^k+1:=⟨_,rfl⟩
 have hle:mg d/2^k<=q':=by
  grind
 have e1:(if((false||decide (mg d%2^k≠0))&&true)=true then mg d/2^k+1 else mg d/2^k)=q':=by
  grind
 have e2:(if((false||decide (mg d%2^k≠0))&&false)=true then mg d/2^k+1 else mg d/2^k)=mg d/2^k:=by
  grind
 have hw:mg d%2^k≠0->∃t v:Nat,mg d=v*2^t/\t<=k/\k-t<=af v-8/\8<=af v/\af v<=4096/\af v+t<=32768:=by
  intro hr;have hm:d.m.length≠0:=fun h=>hr (by
   have:mg d=0:=by
    unfold mg;rw[List.length_eq_zero_iff.1 h];exact Nat.zero_mul _
   simp_all)
  obtain⟨g1,g2,g3,g4⟩:=Cd v hm;obtain⟨b1,b2,b3,b4⟩:=Bc g4 (Nat.pos_iff_ne_zero.1 (fu (dt v hm)));have hb:=dk (d.e+16384).toNat (dt v hm);have hmg:mg d=ab d.m*2^ (d.e+16384).toNat:=rfl;rw[←hmg]at hb;unfold J9 at hk;have ht:(d.e+16384).toNat<=k:=Nat.le_of_not_lt fun hlt=>hr (by
   rw[hmg,show(d.e+16384).toNat=k+((d.e+16384).toNat-k)by omega,ayn,←ayD,Nat.mul_right_comm]
   simp_all)
  have hk1:k≠0:=fun h=>hr (by rw[h,Nat.pow_zero,Nat.mod_one]);refine⟨(d.e+16384).toNat,ab d.m,rfl,ht,?_,?_,b1,?_⟩<;>omega
 refine⟨mg d/2^k,q',mg d%2^k,k,?_,ayI _ (ayr _),hq',?_,?_,hw⟩
 ·grind[ay4]
 all_goals
  cases hn:d.neg with
  |false=>
   rw[hn]at h0 h1;simp only[bne_self_eq_false,Bool.false_bne,e1,e2]at h0 h1⊢;obtain⟨k1,k2⟩:=XJ h1
   first
   | (rw[aaF hle k2];rfl)
   | (rw[k1];rfl)
  |true=>
   rw[hn]at h0 h1;simp only[bne_self_eq_false,Bool.bne_false,e1,e2]at h0 h1⊢;obtain⟨k1,k2⟩:=XJ h0
   first
   | (rw[aaF hle k2];rfl)
   | (rw[k1];rfl)
theorem XK{v t k x:Nat}{n:Bool}(h1:k-t<=af v-8)(h2:8<=af v)(h3:af v<=4096)(h4:af v+t<=32768)(hx:x<=2^ (k-t)):(cH (df (bE n (x*2^t)) (-16384))).2=0:=by
 have hb:af x<=k-t+1:=bD.2 (ayS hx (Nat.pow_lt_pow_right δ ω));rw[←yN,jC,EC ω ω ω]
def XL(lo hi:Rd):Rd:=if hi.m.length=0\/(lo.m.length≠0/\lo.e<hi.e)then hi else lo
def LD(z:Int)(lo hi:Rd):Rd:=if z-zI lo<zI hi-z then lo else if zI hi-z<z-zI lo then hi else XL lo hi
def mG(d:Rd)(p:Int):Rd×Int:=if(bZ d p false).2=0 then(if(bZ d p true).2=0 then(LD (zI d) (bZ d p false).1 (bZ d p true).1,0)else(aH,(bZ d p true).2))else(aH,(bZ d p false).2)
structure NearOk (d lo hi:Rd):Prop where
 below:(mF d lo).2=0
 above:(mF hi d).2=0
 tie:zI lo≠zI hi->zI d-zI lo=zI hi-zI d->lo.m.length≠0->hi.m.length≠0->lo.e≠hi.e
 le:zI lo<=zI d/\zI d<=zI hi
theorem S3{neg:Bool}{M:Nat}{e:Int}(h:(bk neg M e).m.length≠0):M≠0/\(bk neg M e).e=e+tz M:=by
 by_cases h0:M=0
 ·subst h0;exact absurd rfl h
 grind[iN]
theorem aaG{q:Nat}(h:q≠0):tz q≠tz (q+1):=by
 have hs:∀ {n:Nat},n≠0->tz n=0->n%2=1:=fun{n} h0 h1=>by
  have:=(tC h0).2;grind
 grind[xu]
theorem ak4{d:Rd}(ok:Ok0 d)(v:vd d=true){p:Int}(hp:8<=p/\p<=512)(h0:(bZ d p false).2=0)(h1:(bZ d p true).2=0):NearOk d (bZ d p false).1 (bZ d p true).1:=by
 obtain⟨q,q',r,k,Fm⟩:=afW ok v hp h0 h1;have vlo:vd (bZ d p false).1=true:=by
  unfold bZ;split
  ·exact td.1
  ·rfl
 have vhi:vd (bZ d p true).1=true:=by
  unfold bZ;split
  ·exact td.1
  ·rfl
 generalize(bZ d p false).1=lo at*
 generalize(bZ d p true).1=hi at*
 have zlo:zI lo=bE d.neg ((if d.neg=true then q' else q)*2^k):=by rw[Fm.hlo,afV]
 have zhi:zI hi=bE d.neg ((if d.neg=true then q else q')*2^k):=by rw[Fm.hhi,afV]
 have zd:=ajc d;have hz:=Fm.hz;have hr:=Fm.hr;have hq:=Fm.hq;have hs1:mF d lo=cH (df (zI d-zI lo) (-16384)):=by
  simp_all[mF,ayK,if_pos]
 have hs2:mF hi d=cH (df (zI hi-zI d) (-16384)):=by
  simp_all[mF,ayK,if_pos]
 by_cases r0:r=0
 ·rw[if_pos r0]at hq;rw[hq,ite_self,←hq]at zlo zhi;have e0:zI d=zI lo:=γ
  have e1:zI d=zI hi:=ω
  have h00:(cH (df 0 (-16384))).2=0:=by rw[show df 0 (-16384)=aH from lg];rfl
  refine⟨?_,?_,fun h=>absurd (e0.symm.trans e1) h,by omega⟩
  all_goals grind
 ·rw[if_neg r0]at hq;obtain⟨t,w,w1,w2,w3,w4,w5,w6⟩:=Fm.hw r0;have hp2:(2:Nat)^k=2^ (k-t)*2^t:=by rw[←ayn,show k-t+t=k by omega]
  have hrr:r=(w-q*2^ (k-t))*2^t:=by
   grind[Nat.sub_mul,ayD]
  obtain⟨x,hx⟩:∃x,w-q*2^ (k-t)=x:=⟨_,rfl⟩;rw[hx]at hrr;have hxl:x<2^ (k-t):=by
   rw[hrr,hp2]at hr;exact Nat.lt_of_mul_lt_mul_right hr
  have f1:∀n,(cH (df (bE n r) (-16384))).2=0:=fun n=>by
   grind[XK,Nat.le_of_lt]
  have f2:∀n,(cH (df (bE n (2^k-r)) (-16384))).2=0:=fun n=>by
   rw[hrr,hp2,←Nat.sub_mul];grind[XK,Nat.sub_le]
  have hq2:q'*2^k=q*2^k+2^k:=γ
  have htie:lo.m.length≠0->hi.m.length≠0->lo.e≠hi.e:=by
   intro m1 m2;rw[Fm.hlo]at m1⊢;rw[Fm.hhi]at m2⊢;obtain⟨a1,a2⟩:=S3 m1;obtain⟨b1,b2⟩:=S3 m2;rw[a2,b2];cases hn:d.neg with
   |false=>
    grind[aaG]
   |true=>
    grind[aaG]
  generalize 2^k=K at*
  refine⟨?_,?_,fun _ _=>htie,?_⟩
  ·rw[hs1];cases hn:d.neg with
   |false=>
    rw[hn]at zd zlo;have:zI d-zI lo=bE false r:=by grind[n7]
    grind
   |true=>
    rw[hn]at zd zlo;simp only[if_true,pH]at zd zlo;have:zI d-zI lo=bE false (K-r):=by grind[n7]
    grind
  ·rw[hs2];cases hn:d.neg with
   |false=>
    rw[hn]at zd zhi;have:zI hi-zI d=bE false (K-r):=by grind[n7]
    grind
   |true=>
    rw[hn]at zd zhi;simp only[if_true,pH]at zd zhi;have:zI hi-zI d=bE false r:=by grind[n7]
    grind
  ·cases hn:d.neg with
   |false=>
    rw[hn]at zd zlo zhi;simp only[aza,if_false,n7]at zd zlo zhi;omega
   |true=>
    rw[hn]at zd zlo zhi;simp only[if_true,pH]at zd zlo zhi;omega
theorem RA{a b:Rd}(oa:Ok0 a)(ob:Ok0 b):R F.dyadic_Sub [ae a,ae b] []=some (rV (mF a b),[]):=by
 refine au V8 rfl ?_;have v1:=eC oa;have v2:=eC ob;simp only[ae,ah]at v1 v2;unfold mF;cases va:vd a with
 |false=>
  rw[va]at v1;simp only[sP,zL,rV,aH,ae,ah,go_sem,v1]
 |true=>
  rw[va]at v1;cases vb:vd b with
  |false=>
   rw[vb]at v2;simp only[sP,zL,rV,aH,ae,ah,go_sem,v1,v2]
  |true=>
   rw[vb]at v2;obtain⟨z1,z2⟩:=yM vb;have hn:R F.dyadic_Neg [ae b] []=some (ae (gW b),[]):=GW ob;have hs:=Z4 oa (ws ob) va z2;rw[z1,←Int.sub_eq_add_neg]at hs;simp only[rV,ae,ah]at hn hs;simp only[sP,zL,rV,ae,ah,go_sem,v1,v2,hn,hs]
theorem ak5{d:Rd}{p:Int}{up:Bool}(h:(bZ d p up).2=0):vd d=true/\(8<=p/\p<=512):=by
 unfold bZ at h;by_cases hf:aZ p [d]=0
 ·unfold aZ at hf;grind
 grind
theorem aaH{a b:Rd}(vb:vd b=true)(h:(mF a b).2=0):zI (mF a b).1=zI a-zI b:=by
 grind[aix,ZZ,yM,Int.sub_eq_add_neg]
theorem ak6{d:Rd}(ok:Ok0 d){p:Int}:R F.round_Near [ae d,I p] []=some (rV (mG d p),[]):=by
 refine au V7 rfl ?_;have hd:=SA ok (p:=p);have hu:=ZN ok (p:=p);unfold mG;by_cases h0:(bZ d p false).2=0
 ·rw[if_pos h0];obtain⟨v,hp⟩:=ak5 h0;have vl:=Q0 (d:=d) (p:=p) (up:=false);have ol:=Dv (d:=d) (p:=p) (up:=false);by_cases h1:(bZ d p true).2=0
  ·rw[if_pos h1];have vh:=Q0 (d:=d) (p:=p) (up:=true);have oh:=Dv (d:=d) (p:=p) (up:=true);have hk:=ak4 ok v hp h0 h1;generalize bZ d p false=lo at*
   generalize bZ d p true=hi at*
   obtain⟨lo,el⟩:=lo;obtain⟨hi,eh⟩:=hi;have h0':el=0:=h0;have h1':eh=0:=h1;subst h0';subst h1';have s1:=RA ok ol;have s2:=RA oh ok;have c:=ri (Bu d lo).2 (Bu hi d).2;rw[if_pos ⟨(Bu d lo).1,(Bu hi d).1⟩,aaH vl hk.below,aaH v hk.above]at c;show _=some (rV (LD (zI d) lo hi,0),[]);unfold LD;generalize mF d lo=x at s1 c;generalize mF hi d=y at s2 c;simp only[rV,ae,ah]at hd hu s1 s2 c;rcases n8 (zI d-zI lo) (zI hi-zI d)with⟨g,e⟩| ⟨g,e⟩| ⟨g,e⟩
   ·rw[e]at c;rw[if_pos g];simp only[gx,jy,rV,ae,ah,go_sem,ayH,hd,hu,s1,s2,c]
   ·rw[e]at c;rw[if_neg ω,if_neg ω];unfold XL;by_cases m1:hi.m.length=0
    ·have e1:((hi.m.length:Int)=0)=True:=tt;rw[if_pos (.inl m1)];simp only[gx,jy,rV,ae,ah,go_sem,ayH,hd,hu,s1,s2,c,e1]
    ·have e1:((hi.m.length:Int)=0)=False:=ff;by_cases m2:lo.m.length=0
     ·have e2:(0< (lo.m.length:Int))=False:=ff;rw[if_neg ω];simp only[gx,jy,rV,ae,ah,go_sem,ayH,hd,hu,s1,s2,c,e1,e2]
     ·have e2:(0< (lo.m.length:Int))=True:=tt;by_cases m3:lo.e<hi.e
      ·have e3:(lo.e<hi.e)=True:=eq_true m3;rw[if_pos (.inr ⟨m2,m3⟩)];simp only[gx,jy,rV,ae,ah,go_sem,ayH,hd,hu,s1,s2,c,e1,e2,e3]
      ·have e3:(lo.e<hi.e)=False:=eq_false m3;rw[if_neg ω];simp only[gx,jy,rV,ae,ah,go_sem,ayH,hd,hu,s1,s2,c,e1,e2,e3]
   ·rw[e]at c;rw[if_neg ω,if_pos ω];simp only[gx,jy,rV,ae,ah,go_sem,ayH,hd,hu,s1,s2,c]
  ·rw[if_neg h1];generalize bZ d p false=lo at*
   generalize bZ d p true=hi at*
   have e1:(hi.2=0)=False:=eq_false h1;have e0:(lo.2=0)=True:=eq_true h0;simp only[rV,ae,ah]at hd hu;simp only[gx,jy,rV,aH,ae,ah,go_sem,hd,hu,e0,e1]
 ·rw[if_neg h0];generalize bZ d p false=lo at*
  have e0:(lo.2=0)=False:=eq_false h0;simp only[rV,ae,ah]at hd;simp only[gx,jy,rV,aH,ae,ah,go_sem,hd,e0]
theorem Io(d:Rd)(p:Int):vd (mG d p).1=true/\Ok0 (mG d p).1:=by
 unfold mG;split
 ·split
  ·unfold LD XL;grind[Q0,Dv]
  ·exact aU
 ·exact aU
def eu(x:List Int)(c:Rd)(l:List Rt):List Rt:=if c.m.length=0 then l else⟨x,c⟩::l
def Ap(p:Int):List Rt->Option (List Rt×List Rt)
 |[]=>some ([],[])
 |t::ts=>if(mG t.c p).2=0 then(if(mF t.c (mG t.c p).1).2=0 then(Ap p ts).map fun q=>(eu t.exps (mG t.c p).1 q.1,eu t.exps (mF t.c (mG t.c p).1).1 q.2)else none)else none
def dO(a:Rp)(p:Int):(Rp×Rp)×Int:=if vp a=true then(if p<8\/512<p then((p0,p0),2)else match Ap p a.terms with
 |none=>((p0,p0),9)
 |some q=>((⟨a.vars,q.1⟩,⟨a.vars,q.2⟩),0))else((p0,p0),1)
def S4(r:(Rp×Rp)×Int):AV:=.tup [aT r.1.1,aT r.1.2,I r.2]
def RB(blk:Option (Ex×St))(i1 i2:Nat)(S:ak)(v':Int)(l1 l2:List Rt):Option (List Rt×List Rt)->Prop
 |some q=>ES blk i1 i2 S v' l1 l2 q.1 q.2
 |none=>∃hh,blk=some (.ret,⟨upd (upd (upd (fun _=>.any) 6 (I 9)) 5 (.ref 5 none 0 0 0)) 4 (.ref 4 none 0 0 0),hh⟩)/\hh 4=.bx [I 0,.emp]/\hh 5=.bx [I 0,.emp]
theorem FN{x:List Int}{c:Rd}{l r:List Rt}:l++eu x c []++r=l++eu x c r:=by
 unfold eu;split
 ·rw[ayp]
 ·rw[ayX];rfl
theorem RB.step{blk:Option (Ex×St)}{i1 i2:Nat}{S:ak}{v':Int}{l1 l2:List Rt}{x:List Int}{c d:Rd}:∀ {o:Option (List Rt×List Rt)},RB blk i1 i2 S v' (l1++eu x c []) (l2++eu x d []) o->RB blk i1 i2 S v' l1 l2 (o.map fun q=>(eu x c q.1,eu x d q.2)):=by
 intro o h;cases o with
 |none=>exact h
 |some q=>
  obtain⟨hh,c1,c2,h1,h2,h3,h4,h5,h6,h7⟩:=h;exact⟨hh,c1,c2,h1,h2,h3,h4,h5,by rwa[FN]at h6,by rwa[FN]at h7⟩
theorem VT.put{v:Int}{t:Rt}{d:Rd}(h:VT v t)(od:Ok0 d)(vdd:vd d=true)(nd:d.m.length≠0):VT v ⟨t.exps,d⟩:=⟨od,h.len,h.v8,vdd,nd,h.b,h.d⟩
theorem aiy{v v' p:Int}{A:List Rt}(hA:Cl v A)(hn:A.length<=100000){o2:Ob}(k2c:∀ids,aD ids o2=true):
  ∀ (k i:Nat),i+k=A.length->∀ (c1 c2:AV) (l1 l2:List Rt),pJ c1 l1->pJ c2 l2->Bf v l1 (A.drop i)->Bf v l2 (A.drop i)->l1.length+k<=1000000->l2.length+k<=1000000->∀ (s:ak) (h:ac),s 1=I p->s 4=.ref 4 none 0 0 0->s 5=.ref 5 none 0 0 0->s 7=.ref 2248 none 0 0 0->s 8=.ref 2272 none 0 0 0->s 36=.sl 4 (aJ A)->s 37=I A.length->s 38=I i->h 2=o2->h 4=.bx [I 0,.emp]->h 5=.bx [I 0,.emp]->h 2248=t3 v' c1 0->h 2272=t3 v' c2 0->
  RB (ai 1 [4,5,7,8] (ax (aj R (az false) eU) [1,4,5,7,8,36,37,38] [2,4,5,2248,2272] s h)) 2248 2272 (upd (upd (upd (upd (fun _=>.any) 8 (.ref 2272 none 0 0 0)) 7 (.ref 2248 none 0 0 0)) 5 (.ref 5 none 0 0 0)) 4 (.ref 4 none 0 0 0)) v' l1 l2 (Ap p (A.drop i)):=by
 intro k;induction k with
 |zero=>
  intro i hi c1 c2 l1 l2 hc1 hc2 _ _ _ _ s h g1 g4 g5 g7 g8 g36 g37 g38 k2 k4 k5 k2248 k2272;have e1:((i:Int)< (A.length:Int))=False:=ff;have ho1:=(kP (v:=v') (e:=0) hc1).cl [2,4,5,2248,2272];have ho2:=(kP (v:=v') (e:=0) hc2).cl [2,4,5,2248,2272];have ho3:=k2c [2,4,5,2248,2272];rw[ayw ω,ag];refine⟨?hh0,c1,c2,?_,?_,?_,?_,?_,by grind,by grind⟩;rotate_left
  ·simp only[eU,go_sem,g1,g4,g5,g7,g8,g36,g37,g38,k2,k4,k5,k2248,k2272,ho1,ho2,ho3,e1];rfl
  ·rfl
  ·rfl
  ·rfl
  ·rfl
 |succ k ih=>
  intro i hi c1 c2 l1 l2 hc1 hc2 b1 b2 hl1 hl2 s h g1 g4 g5 g7 g8 g36 g37 g38 k2 k4 k5 k2248 k2272;have hlt:i<A.length:=ω
  have e1:((i:Int)< (A.length:Int))=True:=tt;have e2:aX (aJ A) (i:Int)=some (.ipt (bL A[i])):=fY rfl (List.getElem?_eq_getElem hlt);have e5:IntKind.i64.wrap ((i:Int)+1)=((i+1:Nat):Int):=wi;have ho1:=(kP (v:=v') (e:=0) hc1).cl [2,4,5,2248,2272];have ho2:=(kP (v:=v') (e:=0) hc2).cl [2,4,5,2248,2272];have ho3:=k2c [2,4,5,2248,2272];have hAd:=hA.dropN i;rw[ayv hlt]at b1 b2 hAd⊢;have ih':=ih (i+1) ω;have vt:=hAd.head;have hrow:∀q ts,Ap p (q::ts)=if(mG q.c p).2=0 then(if(mF q.c (mG q.c p).1).2=0 then(Ap p ts).map fun x=>(eu q.exps (mG q.c p).1 x.1,eu q.exps (mF q.c (mG q.c p).1).1 x.2)else none)else none:=fun q ts=>rfl
  rw[hrow];generalize A[i]=t at e2 vt b1 b2 hAd⊢;have hnr:=ak6 vt.c (p:=p);obtain⟨vm,om⟩:=Io t.c p;rw[ag];generalize ax _ _ _=L at ih'⊢;generalize mG t.c p=m at hnr vm om⊢;obtain⟨m,em⟩:=m;have hsb:=RA vt.c om;obtain⟨vq,oq⟩:=Bu t.c m;simp only at hsb vq oq;generalize mF t.c m=q at hsb vq oq⊢;obtain⟨q,eq⟩:=q;simp only[bL]at e2;simp only[rV,ae,ah]at hnr hsb;by_cases hm:em=0
  ·subst hm;rw[if_pos rfl];by_cases hq:eq=0
   ·subst hq;rw[if_pos rfl];refine RB.step ?_;simp only at vm om vq oq;by_cases zm:m.m.length=0
    ·have f1:(0< (m.m.length:Int))=False:=ff;have x1:l1++eu t.exps m []=l1:=by simp_all[eu,if_pos,ayp]
     simp only[x1];by_cases zq:q.m.length=0
     ·have f2:(0< (q.m.length:Int))=False:=ff;have x2:l2++eu t.exps q []=l2:=by simp_all[eu,if_pos,ayp]
      simp only[x2];have ih2:=ih' c1 c2 l1 l2 hc1 hc2 b1.drop b2.drop ω ω;simp only[eU,go_sem,g1,g4,g5,g7,g8,g36,g37,g38,k2,k4,k5,k2248,k2272,ho1,ho2,ho3,e1,e2,hnr,hsb,f1,f2,e5];refine ih2 _ _ ?_ ?_ ?_ ?_ ?_ ?_ ?_ ?_ ?_ ?_ ?_ ?_ ?_
      all_goals first|rfl|assumption
     ·have f2:(0< (q.m.length:Int))=True:=tt;have x2:l2++eu t.exps q []=l2++[⟨t.exps,q⟩]:=by simp_all[eu,if_neg]
      simp only[x2];obtain⟨c4,s3,s4⟩:=ER (v':=v') b2 (vt.put oq vq zq) ω hc2;have hcall2:=fun(h:ac) (hh:h 2272=t3 v' c2 0) (d:Nat)=>dy (aS.1.2.1 false) rfl (pK (d:=d) hh hc2 s4 s3);have ih2:=ih' c1 c4 l1 _ hc1 s4 b1.drop (b2.push hAd (vt.put oq vq zq)) ω γ;simp only[ae,ah]at hcall2;simp only[eU,go_sem,g1,g4,g5,g7,g8,g36,g37,g38,k2,k4,k5,k2248,k2272,ho1,ho2,ho3,e1,e2,hnr,hsb,f1,f2];rw[hcall2 _ rfl];simp only[go_sem,e5];refine ih2 _ _ ?_ ?_ ?_ ?_ ?_ ?_ ?_ ?_ ?_ ?_ ?_ ?_ ?_
      all_goals first|rfl|assumption
    ·have f1:(0< (m.m.length:Int))=True:=tt;have x1:l1++eu t.exps m []=l1++[⟨t.exps,m⟩]:=by simp_all[eu,if_neg]
     simp only[x1];obtain⟨c3,s1,s2⟩:=ER (v':=v') b1 (vt.put om vm zm) ω hc1;have hcall:=fun(h:ac) (hh:h 2248=t3 v' c1 0) (d:Nat)=>dy (aS.1.2.1 false) rfl (pK (d:=d) hh hc1 s2 s1);have bp1:=b1.push hAd (vt.put om vm zm);have lp1:(l1++[(⟨t.exps,m⟩:Rt)]).length+k<=1000000:=γ
     simp only[ae,ah]at hcall;by_cases zq:q.m.length=0
     ·have f2:(0< (q.m.length:Int))=False:=ff;have x2:l2++eu t.exps q []=l2:=by simp_all[eu,if_pos,ayp]
      simp only[x2];have ih2:=ih' c3 c2 _ l2 s2 hc2 bp1 b2.drop lp1 ω;simp only[eU,go_sem,g1,g4,g5,g7,g8,g36,g37,g38,k2,k4,k5,k2248,k2272,ho1,ho2,ho3,e1,e2,hnr,hsb,f1];rw[hcall _ rfl];simp only[go_sem,f2,e5];refine ih2 _ _ ?_ ?_ ?_ ?_ ?_ ?_ ?_ ?_ ?_ ?_ ?_ ?_ ?_
      all_goals first|rfl|assumption
     ·have f2:(0< (q.m.length:Int))=True:=tt;have x2:l2++eu t.exps q []=l2++[⟨t.exps,q⟩]:=by unfold eu;rw[if_neg zq]
      simp only[x2];obtain⟨c4,s3,s4⟩:=ER (v':=v') b2 (vt.put oq vq zq) ω hc2;have hcall2:=fun(h:ac) (hh:h 2272=t3 v' c2 0) (d:Nat)=>dy (aS.1.2.1 false) rfl (pK (d:=d) hh hc2 s4 s3);have ih2:=ih' c3 c4 _ _ s2 s4 bp1 (b2.push hAd (vt.put oq vq zq)) lp1 γ;simp only[ae,ah]at hcall2;simp only[eU,go_sem,g1,g4,g5,g7,g8,g36,g37,g38,k2,k4,k5,k2248,k2272,ho1,ho2,ho3,e1,e2,hnr,hsb,f1];rw[hcall _ rfl];simp only[go_sem,f2];rw[hcall2 _ rfl];simp only[go_sem,e5];refine ih2 _ _ ?_ ?_ ?_ ?_ ?_ ?_ ?_ ?_ ?_ ?_ ?_ ?_ ?_
      all_goals first|rfl|assumption
   ·rw[if_neg hq];have f1:(eq=0)=False:=ff hq;refine⟨?hh1,?_,?_,?_⟩;rotate_left
    ·simp only[eU,go_sem,g1,g4,g5,g7,g8,g36,g37,g38,k2,k4,k5,k2248,k2272,ho1,ho2,ho3,e1,e2,hnr,hsb,f1];rfl
    ·rfl
    ·rfl
  ·rw[if_neg hm];have f1:(em=0)=False:=ff hm;refine⟨?hh2,?_,?_,?_⟩;rotate_left
   ·simp only[eU,go_sem,g1,g4,g5,g7,g8,g36,g37,g38,k2,k4,k5,k2248,k2272,ho1,ho2,ho3,e1,e2,hnr,f1];rfl
   ·rfl
   ·rfl
theorem apR{v v' p:Int}{A:List Rt}(hA:Cl v A)(hn:A.length<=100000){o2:Ob}(k2c:∀ids,aD ids o2=true)(s:ak)(h:ac)(X:Option (Ex×St))(hX:ai 1 [4,5,7,8] (ax (aj R (az false) eU) [1,4,5,7,8,36,37,38] [2,4,5,2248,2272] s h)=X)
  (g1:s 1=I p) (g4:s 4=.ref 4 none 0 0 0) (g5:s 5=.ref 5 none 0 0 0) (g7:s 7=.ref 2248 none 0 0 0) (g8:s 8=.ref 2272 none 0 0 0) (g36:s 36=.sl 4 (aJ A)) (g37:s 37=I A.length) (g38:s 38=I 0) (k2:h 2=o2) (k4:h 4=.bx [I 0,.emp]) (k5:h 5=.bx [I 0,.emp]) (k2248:h 2248=t3 v' .emp 0) (k2272:h 2272=t3 v' .emp 0):
  RB X 2248 2272 (upd (upd (upd (upd (fun _=>.any) 8 (.ref 2272 none 0 0 0)) 7 (.ref 2248 none 0 0 0)) 5 (.ref 5 none 0 0 0)) 4 (.ref 4 none 0 0 0)) v' [] [] (Ap p A):=by
 subst hX;exact aiy hA hn k2c A.length 0 (ayc _) .emp .emp [] [] (.inr ⟨rfl,rfl⟩) (.inr ⟨rfl,rfl⟩) (Bf.nil _) (Bf.nil _) γ γ s h g1 g4 g5 g7 g8 g36 g37 g38 k2 k4 k5 k2248 k2272
theorem S5{a:Rp}{p:Int}(oa:OkP a):R F.poly_Round [aT a,I p] []=some (S4 (dO a p),[]):=by
 refine au VZ rfl ?_;have v1:=vj oa;simp only[aT]at v1;unfold dO;cases va:vp a with
 |false=>
  rw[va]at v1;simp only[oH,uI,aT,go_sem,v1];rfl
 |true=>
  rw[va]at v1;rw[if_pos rfl];by_cases h8:p<8
  ·have e0:(p<8)=True:=eq_true h8;simp only[oH,uI,aT,go_sem,v1,e0];rfl
  ·have e0:(p<8)=False:=eq_false h8;by_cases h9:512<p
   ·have e3:(512<p)=True:=eq_true h9;simp only[oH,uI,aT,go_sem,v1,e0,e3];rfl
   ·have e3:(512<p)=False:=eq_false h9;rw[if_neg ω];obtain⟨ka,a0,a8,al⟩:=lE oa va;have hemp:=Bp (v:=a.vars);have hl:=apR (v:=a.vars) (v':=a.vars) (p:=p) ka ω (o2:=.bx [I a.vars,.sl 4 (aJ a.terms)]) (fun _=>rfl);simp only[oH,uI,aT,go_sem,v1,e0,e3,hemp,pM];generalize hX:ai 1 _ _=X;have hM:=hl _ _ _ hX rfl rfl rfl rfl rfl rfl rfl rfl rfl rfl rfl rfl rfl;cases hr:Ap p a.terms with
    |none=>
     rw[hr]at hM;obtain⟨hh,rfl,q4,q5⟩:=hM;simp only[S4,p0,aT,go_sem,q4,q5];rfl
    |some q=>
     rw[hr]at hM;obtain⟨hh,c1,c2,rfl,q4,q5,q1,q2,i1,i2⟩:=hM;obtain⟨r1,r2⟩:=q;simp only[t3]at q1 q2;rcases i1 with rfl| ⟨rfl,rfl⟩
     ·rcases i2 with rfl| ⟨rfl,rfl⟩
      ·simp only[S4,aT,go_sem,ayG,ayQ,q4,q5,q1,q2,vz,yT,ays,ayu,Am,yr]
      ·simp only[S4,aT,go_sem,ayG,ayQ,q4,q5,q1,q2,vz,yT,ays,ayu,Am,yr,Bq];rfl
     ·rcases i2 with rfl| ⟨rfl,rfl⟩
      ·simp only[S4,aT,go_sem,ayG,ayQ,q4,q5,q1,q2,vz,yT,ays,ayu,Am,yr,Bq];rfl
      ·simp only[S4,aT,go_sem,ayG,ayQ,q4,q5,q1,q2,vz,yT,ays,ayu,Am,Bq];rfl
def NW(blk:Option (Ex×St))(i1 i2:Nat)(S:ak)(v':Int)(l1 l2 r1 r2:List Rt):Prop:=
 ∃hh c1 c2,blk=some (.normal,⟨S,hh⟩)/\hh 4=.bx [I 0,.emp]/\hh 5=.bx [I 0,.emp]/\hh i1=.bx [I v',c1]/\hh i2=.bx [I v',c2]/\pJ c1 (l1++r1)/\pJ c2 (l2++r2)
theorem NW.p1{blk:Option (Ex×St)}{i1 i2:Nat}{S:ak}{v':Int}{l1 l2 r1 r2:List Rt}{t:Rt}(h:NW blk i1 i2 S v' (l1++[t]) l2 r1 r2):NW blk i1 i2 S v' l1 l2 (t::r1) r2:=by
 obtain⟨hh,c1,c2,h1,h2,h3,h4,h5,h6,h7⟩:=h;exact⟨hh,c1,c2,h1,h2,h3,h4,h5,by rwa[List.append_cons],h7⟩
theorem NW.p2{blk:Option (Ex×St)}{i1 i2:Nat}{S:ak}{v':Int}{l1 l2 r1 r2:List Rt}{t:Rt}(h:NW blk i1 i2 S v' l1 (l2++[t]) r1 r2):NW blk i1 i2 S v' l1 l2 r1 (t::r2):=by
 obtain⟨hh,c1,c2,h1,h2,h3,h4,h5,h6,h7⟩:=h;exact⟨hh,c1,c2,h1,h2,h3,h4,h5,h6,by rwa[List.append_cons]⟩
def aiz(blk:Option (Ex×St))(i1 i2:Nat)(S:ak)(v':Int)(l1 l2:List Rt):Option (List Rt×List Rt)->Prop
 |some q=>NW blk i1 i2 S v' l1 l2 q.1 q.2
 |none=>∃hh,blk=some (.ret,⟨upd (upd (upd (fun _=>.any) 6 (I 9)) 5 (.ref 5 none 0 0 0)) 4 (.ref 4 none 0 0 0),hh⟩)/\hh 4=.bx [I 0,.emp]/\hh 5=.bx [I 0,.emp]
theorem aiz.step{blk:Option (Ex×St)}{i1 i2:Nat}{S:ak}{v':Int}{l1 l2:List Rt}{x:List Int}{c d:Rd}:∀ {o:Option (List Rt×List Rt)},aiz blk i1 i2 S v' (l1++eu x c []) (l2++eu x d []) o->aiz blk i1 i2 S v' l1 l2 (o.map fun q=>(eu x c q.1,eu x d q.2)):=by
 intro o h;cases o with
 |none=>exact h
 |some q=>
  obtain⟨hh,c1,c2,h1,h2,h3,h4,h5,h6,h7⟩:=h;exact⟨hh,c1,c2,h1,h2,h3,h4,h5,by rwa[FN]at h6,by rwa[FN]at h7⟩
theorem Cl.filter{v:Int}{l:List Rt}(h:Cl v l)(p:Rt->Bool):Cl v (l.filter p):=⟨fun t ht=>h.t t (List.mem_filter.1 ht).1,h.s.filter p⟩
theorem Cn{a:Rp}{o:Int}(oa:OkP a):(Cl (cR a o).1.vars (cR a o).1.terms/\(cR a o).1.terms.length<=100000)/\(Cl (cR a o).2.vars (cR a o).2.terms/\(cR a o).2.terms.length<=100000):=by
 unfold cR;cases va:vp a with
 |false=>
  rw[if_neg ayl];exact⟨⟨Cl.nil _,by decide⟩,⟨Cl.nil _,by decide⟩⟩
 |true=>
  obtain⟨ka,a0,a8,al⟩:=lE oa va;exact⟨⟨ka.filter _,by grind⟩,⟨ka.filter _,by grind⟩⟩
theorem LE{v p:Int}:∀ {ts:List Rt} {q:List Rt×List Rt},Cl v ts->Ap p ts=some q->(Cl v q.1/\q.1.length<=ts.length/\∀y∈q.1,∃t∈ts,y.exps=t.exps)/\(Cl v q.2/\q.2.length<=ts.length/\∀y∈q.2,∃t∈ts,y.exps=t.exps)
 |[],q,_,h=>by
  cases h;grind
 |t::ts,q,c,h=>by
  obtain⟨vt,ht,c2⟩:=c.cons;unfold Ap at h;split at h
  ·split at h
   ·rw[aye]at h;obtain⟨q2,h2,rfl⟩:=h;obtain⟨⟨k1,k2,k3⟩,⟨k4,k5,k6⟩⟩:=LE c2 h2;have key:∀ {d:Rd} {l:List Rt},vd d=true->Ok0 d->Cl v l->l.length<=ts.length->(∀y∈l,∃t∈ts,y.exps=t.exps)->Cl v (eu t.exps d l)/\(eu t.exps d l).length<=(t::ts).length/\∀y∈eu t.exps d l,∃q∈t::ts,y.exps=q.exps:=by
     intro d l vdd od cl hl hy;unfold eu;split
     ·refine⟨cl,by simp;omega,fun y h=>?_⟩;obtain⟨q,hq,he⟩:=hy y h;exact⟨q,by simp[hq],he⟩
     ·rename_i h0;refine⟨Cl.mk' (vt.put od vdd h0) (fun y h=>?_) cl,by simp;omega,fun y h=>?_⟩
      ·obtain⟨q,hq,he⟩:=hy y h;rw[he];exact ht q hq
      ·rcases List.mem_cons.1 h with rfl|h
       ·exact⟨t,by simp,rfl⟩
       ·obtain⟨q,hq,he⟩:=hy y h;exact⟨q,by simp[hq],he⟩
    exact⟨key (Io _ _).1 (Io _ _).2 k1 k2 k3,key (Bu _ _).1 (Bu _ _).2 k4 k5 k6⟩
   ·cases h
  ·cases h
theorem KE{a:Rp}{p:Int}(oa:OkP a):Res ((dO a p).1.1,(dO a p).2)/\Res ((dO a p).1.2,(dO a p).2):=by
 have h0:∀e,Res (p0,e):=fun e=>⟨Cl.nil _,ayB _,.inr rfl⟩;unfold dO;cases va:vp a with
 |false=>
  grind
 |true=>
  rw[if_pos rfl];split
  ·grind
  ·obtain⟨ka,a0,a8,al⟩:=lE oa va;cases hr:Ap p a.terms with
   |none=>grind
   |some q=>
    obtain⟨⟨k1,k2,_⟩,⟨k3,k4,_⟩⟩:=LE ka hr;exact⟨⟨k1,by grind,.inl rfl⟩,⟨k3,by grind,.inl rfl⟩⟩
theorem arF{a:Rp}{i:Int}{d:Rd}(oa:OkP a):Res (aff a i d):=by
 have h0:∀e,Res (p0,e):=fun e=>⟨Cl.nil _,ayB _,.inr rfl⟩;unfold aff;split
 ·rename_i hv;rw[ayf]at hv;obtain⟨ka,a0,a8,al⟩:=lE oa hv.1;split
  ·grind
  ·have hsm:=fun l h=>azu (v:=a.vars) (j:=i.toNat) (d:=d) (l:=l) ka.t h;generalize(agy i.toNat d a.terms).bind (oE [])=o at hsm⊢;cases o with
   |none=>exact h0 _
   |some l=>
    obtain⟨k1,k2⟩:=hsm l rfl;show Res (if 500<l.length then(p0,(5:Int))else(⟨a.vars,l⟩,0));rw[if_neg ω];exact⟨k1,by grind,.inl rfl⟩
 grind
abbrev KF(l:List Rm):List (List AV):=l.map fun m=>Hc m
theorem apS{s:Rs}{m:Rm}(os:OkS s)(om:OkM m):R F.model_every_1 [fh m,.ref 1000 none 0 0 0] [.bx (Cm s)]=some (B (!tl s m),[.bx (Cm s)]):=by
 refine EK O0 OZ (Ca false) rfl ?_;have h:=FM os om;generalize tl s m=b at h⊢;simp only[xZ,Fj,go_sem,h];exact sj rfl rfl rfl rfl rfl
theorem atG(l:List (List AV)):l.map (dQ [])=l:=rp fun x _=>Vs x
theorem anu:Src F.slices_ContainsFunc_api_Model_api_Model_ F.slices_IndexFunc_api_Model_api_Model_ 9 true [.o 0 [],.o 5 [],.o 0 [],.o 2 [],.o 0 [],.o 0 [],.o 2 [],.o 0 [],.o 0 []]:=
 ⟨bX.2.1,bX.2.2,bX.1.2.2.2 false,bX.1.2.1 false,bX.1.2.2.2 false,bX.1.1 false,
  aY.2.1,aY.2.2,aY.1.2.2.2 false⟩
theorem ak7(m:Rm):dQ [.o 0 [],.o 5 [],.o 0 [],.o 2 [],.o 0 [],.o 0 [],.o 2 [],.o 0 [],.o 0 []] (Hc m)=Hc m:=by
 simp only[go_sem,atG]
theorem LG(l:List Rm):(KF l).map (dQ [.o 0 [],.o 5 [],.o 0 [],.o 2 [],.o 0 [],.o 0 [],.o 2 [],.o 0 [],.o 0 []])=KF l:=by
 refine rp fun x hx=>?_;obtain⟨t,ht,rfl⟩:=List.mem_map.1 hx;exact ak7 t
def pN(s:Rs)(l:List Rm):Bool:=j7 s&&!(l.any fun m=>!tl s m)
theorem kD{s:Rs}{l:List Rm}(os:OkS s)(om:∀m∈l,OkM m)(hl:l.length<4611686018427387904):R F.model_every [mM s,.sl 9 (KF l)] []=some (B (pN s l),[]):=by
 refine au TL rfl ?_;have h1:=tj os.d os.n;unfold pN;cases g1:j7 s with
 |false=>
  rw[g1]at h1;simp only[vK,CA,go_sem,h1,ayh]
 |true=>
 rw[g1]at h1;have hc:=Lq anu (Frow:=fun m=>Hc m) (l:=l) (q:=fun m=>!tl s m) (LB s) (Fy false) (Ca false) hl (LG _) fun m hm=>⟨fh m,fh m,rfl,rfl,rfl,by rw[Nf];simp only[go_sem,EV],apS os (om m hm)⟩;generalize(l.any fun m=>!tl s m)=b at hc⊢;have hcc:=fun(h:ac) (d:Nat) (hh:h 2=.bx (Cm s)) (hf:h (2000+8*d)=.dead)=>EL (f:=F.slices_ContainsFunc_api_Model_api_Model_) (g:=F.model_every_1) (h:=h) (d:=d) (id:=2) (zas:=[.sl 9 (KF l)]) (as':=[.sl 9 (KF l)]) (aY.1.2.1 false) (aY.1.2.2.2 false)
  (by rw[aY.1.1];simp only[go_sem,LG,ayW,ayq]) rfl rfl hh (LB _) (LB _) (fun h=>h) hc (Xi _) (ayU rfl) (by simp[cA,cF,hf,bY])
 simp only[ayW,ayq,go_sem]at hcc;simp only[vK,CA,go_sem,h1];rw[hcc _ _ rfl rfl];simp only[go_sem]
def bV(s:Rs):Rm:=⟨⟨s.dom.length,[]⟩,dm⟩
theorem mY{s:Rs}:R F.model_none [mM s] []=some (fh (bV s),[]):=by
 refine au VR rfl ?_;have h:=jD;simp only[am,ap,dm,aH]at h;simp only[CB,JF,bV,dm,aH,ayu,go_sem,h];rfl
noncomputable def KG (a:Rp) (dom:List Ri) (p:Int):Ri:=open Classical in if h:∃z,R F.bound_Best [aT a,.sl 7 (bQ dom),I p] []=some (am z,[])/\OkI z/\vi z=true then Classical.choose h else dm
theorem LH{a:Rp}{dom:List Ri}{p:Int}(oa:OkP a)(od:∀x∈dom,OkI x)(h2:dom.length<=100000):R F.bound_Best [aT a,.sl 7 (bQ dom),I p] []=some (am (KG a dom p),[])/\OkI (KG a dom p)/\vi (KG a dom p)=true:=by
 have h:∃z,R F.bound_Best [aT a,.sl 7 (bQ dom),I p] []=some (am z,[])/\OkI z/\vi z=true:=by
  obtain⟨b,hB,hbr,hbn⟩:=XH oa od h2 (p:=p);cases hq:(nP a dom&&bG p)with
  |false=>
   have hb:=hbn hq;subst hb;refine⟨_,NV oa od h2 (p:=p) (b:=dm) Kf.ok' (fun _=>hB),?_⟩;unfold Im;rw[hq];exact⟨Kf.ok',rfl⟩
  |true=>
   have hq2:=hq;rw[ayf]at hq2;obtain⟨hv,hl,hk⟩:=PH od hq2.1;have i2:=hbr _ _ (LC dom);obtain⟨m1,m2⟩:=Ii (Ky (p:=p) oa (uq.inL hk (LC dom))) i2;refine⟨_,NV oa od h2 (p:=p) (b:=b) i2.ok (fun _=>hB),?_⟩;unfold Im;rw[if_pos hq,if_pos m1];exact⟨m2.ok,m2.v⟩
 unfold KG;rw[dif_pos h];exact Classical.choose_spec h
noncomputable def iO (a:Rp) (dom:List Ri) (p:Int):Ri:=if a.terms.length=0 then bN else KG a dom p
theorem yW{a:Rp}{dom:List Ri}{p:Int}(oa:OkP a)(od:∀x∈dom,OkI x)(h2:dom.length<=100000):OkI (iO a dom p)/\vi (iO a dom p)=true:=by
 unfold iO;split
 ·exact⟨⟨aU.2,aU.2⟩,by have v:=aU.1;unfold bN;grind[vi]⟩
 ·exact(LH oa od h2).2
theorem FO{a:Rp}{dom:List Ri}{p:Int}(oa:OkP a)(od:∀x∈dom,OkI x)(h2:dom.length<=100000):R F.model_ranged [aT a,.sl 7 (bQ dom),I p] []=some (am (iO a dom p),[]):=by
 refine au Qn rfl ?_;have h1:=S2;have h3:=(LH oa od h2 (p:=p)).1;unfold iO;generalize KG a dom p=z at h3⊢;simp only[aT,am,ap]at h1 h3;by_cases g:a.terms.length=0
 ·have f:((a.terms.length:Int)=0)=True:=tt;rw[if_pos g];simp only[tT,AI,aT,am,ap,go_sem,h1,f]
 ·have f:((a.terms.length:Int)=0)=False:=ff;rw[if_neg g];simp only[tT,AI,aT,am,ap,go_sem,h3,f]
noncomputable def vB (s:Rs) (q:Rp):(Rp×Ri)×Bool:=
 if(dO (cR q s.ord).1 s.p).2=0 then((⟨s.dom.length,(dO (cR q s.ord).1 s.p).1.1.terms⟩,eG (iO (cR q s.ord).2 s.dom s.p) (iO (dO (cR q s.ord).1 s.p).1.2 s.dom s.p) s.p),true)
 else(((dO (cR q s.ord).1 s.p).1.1,bN),false)
theorem ak8{s:Rs}{q:Rp}(os:OkS s)(oq:OkP q)(h2:s.dom.length<=100000):R F.model_cut [mM s,aT q] []=some (.tup [aT (vB s q).1.1,am (vB s q).1.2,B (vB s q).2],[]):=by
 refine au YQ rfl ?_;have h1:=SU (o:=s.ord) oq;obtain⟨⟨c1,_⟩,c2,_⟩:=Cn (o:=s.ord) oq;unfold vB;generalize cR q s.ord=sp at h1 c1 c2⊢;have h3:=S5 (p:=s.p) (iW c1);obtain⟨r1,r2⟩:=KE (p:=s.p) (iW c1);generalize dO sp.1 s.p=r at h3 r1 r2⊢;have h4:=FO (p:=s.p) (iW c2) os.d h2;have h5:=FO (p:=s.p) (iW r2.cl) os.d h2;have k4:=yW (p:=s.p) (iW c2) os.d h2;have k5:=yW (p:=s.p) (iW r2.cl) os.d h2;generalize iO sp.2 s.dom s.p=x at h4 k4⊢;simp only at h5 k5;generalize iO r.1.2 s.dom s.p=y at h5 k5⊢;have h6:=yH k4.1 k5.1 (p:=s.p);generalize eG x y s.p=z at h6⊢;simp only[Xv,S4,aT,am,ap]at h1 h3 h4 h5 h6;by_cases g:r.2=0
 ·have f:(r.2=0)=True:=eq_true g;rw[if_pos g];simp only[zH,F5,aT,am,ap,go_sem,h1,h3,h4,h5,h6,f]
 ·have f:(r.2=0)=False:=eq_false g;rw[if_neg g];simp only[zH,F5,aT,am,ap,bN,aH,go_sem,h1,h3,f]
noncomputable def jF (s:Rs) (q:Rp) (e:Int) (r:Ri):Rm:=if e=0 then(if(vB s q).2=true then⟨(vB s q).1.1,eG r (vB s q).1.2 s.p⟩else bV s)else bV s
theorem ak9{s:Rs}{q:Rp}:OkI (vB s q).1.2:=by
 unfold vB;split
 ·exact yL
 ·exact⟨aU.2,aU.2⟩
theorem NX{s:Rs}{q:Rp}{e:Int}{r:Ri}(os:OkS s)(oq:OkP q)(or:OkI r)(h2:s.dom.length<=100000):R F.model_made [mM s,aT q,I e,am r] []=some (fh (jF s q e r),[]):=by
 refine au VU rfl ?_;have h1:=mY (s:=s);have h3:=ak8 os oq h2;have h4:=yH or (ak9 (s:=s) (q:=q)) (p:=s.p);unfold jF;generalize vB s q=c at h3 h4⊢;generalize eG r c.1.2 s.p=z at h4⊢;simp only[aT,am,ap]at h3 h4;by_cases g:e=0
 ·have f:(e=0)=True:=eq_true g;rw[if_pos g];cases g2:c.2 with
  |true=>
   rw[g2]at h3;rw[if_pos rfl];simp only[sF,zB,aT,am,ap,go_sem,h3,h4,f]
  |false=>
   rw[g2]at h3;rw[if_neg ayl];generalize bV s=n at h1⊢;simp only[sF,zB,aT,am,ap,go_sem,h1,h3,f]
 ·have f:(e=0)=False:=eq_false g;rw[if_neg g];generalize bV s=n at h1⊢;simp only[sF,zB,aT,am,ap,go_sem,h1,f]
theorem anv:R F.r02_Int [I 0] []=some (ae aH,[]):=Rq (n:=60) κ
theorem afX:R F.r02_Int [I 1] []=some (ae one,[]):=Rq (n:=60) κ
theorem aiA:R F.r02_Int [I (-1)] []=some (ae yu,[]):=Rq (n:=60) κ
theorem PJ:R F.l25_n [I 0] []=some (am bN,[]):=by
 refine au Zv rfl ?_;have h1:=anv;have h2:=gX aU.2 aU.1;simp only[am,ap,ae,ah,aH]at h1 h2;simp only[HD,P8,am,ap,bN,aH,go_sem,h1,h2]
theorem aaI:R F.r25_Unit [] []=some (am lG,[]):=by
 refine au ach rfl ?_;have h1:=aiA;have h2:=afX;simp only[ae,ah,yu,one]at h1 h2;simp only[F4,OF,am,ap,lG,yu,one,go_sem,h1,h2]
theorem anw{d:Rd}{p:Int}(od:Ok0 d)(hl:d.m.length<=100000):R F.r03_Is [ae d,I p] []=some (B (vA d p),[]):=by
 refine au ag9 rfl ?_;have h1:=ahH (p:=p);have h2:=FF od;have h3:=ahF od.lb hl;unfold vA;simp only[ae,ah]at h2;cases g1:bG p with
 |false=>
  rw[g1]at h1;simp only[B4,HI,ae,ah,go_sem,h1,ayh]
 |true=>
 rw[g1]at h1;cases g2:vd d with
 |false=>
  rw[g2]at h2;simp only[B4,HI,ae,ah,go_sem,h1,h2,ayh,ay1]
 |true=>
 rw[g2]at h2;simp only[B4,HI,ae,ah,go_sem,h1,h2,h3,ayg]
theorem anx{x y:Ri}(h:vi x=false\/x.all=true)(hy:y.all=false):lS x y=false:=by
 grind[lS]
theorem ala{s:Rs}(os:OkS s)(hl:s.dom.length<=100000):∀ (rest:List Ri) (n:Nat),s.dom.drop n=rest->n<=s.dom.length->∀ (S:ak) (h:ac),S 1=.ref 1 none 0 0 0->S 3=I n->h 1=.bx (Cm s)->
  ∃hh,ai 0 [] (ax (aj R (az false) gG) [1,3] [1] S h)=if(rest.any fun x=>!lS x lG)=true then some (.ret,⟨upd (fun _=>.any) 2 (B false),hh⟩)else some (.normal,⟨fun _=>.any,hh⟩):=by
 intro rest;induction rest with
 |nil=>
  intro n hd hn S h h1 h3 k1;have e:n=s.dom.length:=by
   have:=congrArg List.length hd;grind
  subst e;rw[ag];refine⟨?hh0,?_⟩;rotate_left
  ·simp only[gG,go_sem,h1,h3,k1,ay6];rfl
 |cons x rest ih=>
  intro n hd hn S h h1 h3 k1;have hlt:n<s.dom.length:=by
   grind
  have hr:s.dom[n]?=some x:=by
   have:=congrArg (·[0]?) hd;grind
  have ih':=ih (n+1) (by rw[←List.drop_drop,hd];rfl) hlt;have e1:((n:Int)< (s.dom.length:Int))=True:=tt;have e2:aX (bQ s.dom) (n:Int)=some (.ipt (ap x)):=Ds rfl hr;have e3:IntKind.i64.wrap ((n:Int)+1)=((n+1:Nat):Int):=by grind[i64_in]
  have ox:=os.d x (List.mem_of_getElem? hr);have v1:=FG ox;have v2:=aaI;have v3:=adb ox LA.1;have hk:=anx (x:=x) (y:=lG);rw[List.any_cons,ag];generalize lS x lG=bi at v3 hk⊢;simp only[am,ap,lG,yu,one]at e2 v1 v2 v3;cases g1:vi x with
  |false=>
   rw[g1]at v1;rw[hk (Or.inl g1) rfl];refine⟨?hh1,?_⟩;rotate_left
   ·simp only[gG,go_sem,h1,h3,k1,e1,e2,v1];rfl
  |true=>
  rw[g1]at v1;cases g2:x.all with
  |true=>
   rw[hk (Or.inr g2) rfl];rw[g2]at v1 e2;refine⟨?hh2,?_⟩;rotate_left
   ·simp only[gG,go_sem,h1,h3,k1,e1,e2,v1];rfl
  |false=>
  rw[g2]at v1 e2 v3;cases bi with
  |false=>
   refine⟨?hh3,?_⟩;rotate_left
   ·simp only[gG,go_sem,h1,h3,k1,e1,e2,v1,v2,v3];rfl
  |true=>
   simp only[gG,go_sem,h1,h3,k1,e1,e2,e3,v1,v2,v3];exact ih' _ _ rfl rfl rfl
theorem XM{s:Rs}(os:OkS s):R F.r25_Space [mM s] []=some (B (j7 s),[]):=by
 refine au YJ rfl ?_;have hp:=ahI (p:=s.p);unfold j7;by_cases g1:(s.dom.length:Int)<1
 ·have f1:((s.dom.length:Int)<1)=True:=eq_true g1;rw[decide_eq_false (p:=1<=s.dom.length) ω,ayh];simp only[kU,pW,go_sem,f1]
 have f1:((s.dom.length:Int)<1)=False:=eq_false g1;rw[decide_eq_true (p:=1<=s.dom.length) ω,ayg];by_cases g2:8< (s.dom.length:Int)
 ·have f2:(8< (s.dom.length:Int))=True:=eq_true g2;rw[decide_eq_false (p:=s.dom.length<=8) ω,ayh];simp only[kU,pW,go_sem,f1,f2]
 have f2:(8< (s.dom.length:Int))=False:=eq_false g2;rw[decide_eq_true (p:=s.dom.length<=8) ω,ayg];by_cases g3:s.ord<1
 ·have f3:(s.ord<1)=True:=eq_true g3;rw[decide_eq_false (p:=1<=s.ord) ω,ayh];simp only[kU,pW,go_sem,f1,f2,f3]
 have f3:(s.ord<1)=False:=eq_false g3;rw[decide_eq_true (p:=1<=s.ord) ω,ayg];by_cases g4:16<s.ord
 ·have f4:(16<s.ord)=True:=eq_true g4;rw[decide_eq_false (p:=s.ord<=16) ω,ayh];simp only[kU,pW,go_sem,f1,f2,f3,f4]
 have f4:(16<s.ord)=False:=eq_false g4;rw[decide_eq_true (p:=s.ord<=16) ω,ayg];cases g5:bG s.p with
 |false=>
  rw[g5]at hp;simp only[kU,pW,go_sem,f1,f2,f3,f4,hp,ayh]
 |true=>
 rw[g5]at hp;have hL:=ala os ω s.dom 0 rfl (ayB _);generalize hLL:ax (aj R (az false) gG) [1,3] [1]=L at hL;have hXL:∀s h,aj R (az false) (.loop [1,3] [1] gG) s h=L s h:=fun s h=>by rw[←hLL];rfl
 clear hLL;rw[ayg];generalize(s.dom.any fun x=>!lS x lG)=b at hL⊢;have hL2:∀ (S:ak) (h:ac) (X:Option (Ex×St)),ai 0 [] (L S h)=X->S 1=.ref 1 none 0 0 0->S 3=I 0->h 1=.bx (Cm s)->∃hh,X=if b=true then some (.ret,⟨upd (fun _=>.any) 2 (B false),hh⟩)else some (.normal,⟨fun _=>.any,hh⟩):=fun S h X hX k1 k2 k3=>by
  rw[←hX];exact hL S h k1 k2 k3
 simp only[kU,pW,go_sem,f1,f2,f3,f4,hp,hXL];generalize hX2:ai 0 [] (L _ _)=X;obtain⟨hh,g0⟩:=hL2 _ _ _ hX2 rfl rfl rfl;rw[g0];cases b with
 |true=>
  rw[if_pos rfl];simp only[go_sem]
 |false=>
  rw[if_neg ayl];simp only[go_sem]
theorem alb{s:Rs}{m:Rm}(hc:∀t∈m.P.terms,Ok0 t.c/\t.c.m.length<=100000)(hl:m.P.terms.length<=100000):∀ (rest:List Rt) (n:Nat),m.P.terms.drop n=rest->n<=m.P.terms.length->∀ (S:ak) (h:ac),S 2=.ref 2 none 0 0 0->S 3=.ref 3 none 0 0 0->S 5=I n->h 2=.bx (Cm s)->h 3=.bx (Hc m)->
  ∃hh,ai 0 [] (ax (aj R (az false) kq) [2,3,5] [2,3] S h)=if(rest.any fun t=>!vA t.c s.p)=true then some (.ret,⟨upd (fun _=>.any) 4 (B false),hh⟩)else some (.normal,⟨fun _=>.any,hh⟩):=by
 intro rest;induction rest with
 |nil=>
  intro n hd hn S h h2 h3 h5 k2 k3;have e:n=m.P.terms.length:=by
   have:=congrArg List.length hd;grind
  subst e;rw[ag];refine⟨?hh0,?_⟩;rotate_left
  ·rw[List.any_nil,if_neg ayl];simp only[kq,go_sem,h2,h3,h5,k2,k3,ay6];rfl
 |cons x rest ih=>
  intro n hd hn S h h2 h3 h5 k2 k3;have hlt:n<m.P.terms.length:=by
   grind
  have hr:m.P.terms[n]?=some x:=by
   have:=congrArg (·[0]?) hd;grind
  have ih':=ih (n+1) (by rw[←List.drop_drop,hd];rfl) hlt;have e1:((n:Int)< (m.P.terms.length:Int))=True:=tt;have e2:aX (aJ m.P.terms) (n:Int)=some (.ipt (bL x)):=fY rfl hr;have e3:IntKind.i64.wrap ((n:Int)+1)=((n+1:Nat):Int):=by grind[i64_in]
  obtain⟨ox,lx⟩:=hc x (List.mem_of_getElem? hr);have v1:=anw (p:=s.p) ox lx;rw[ag];generalize ax _ _ _=L at ih'⊢;simp only[bL]at e2;simp only[ae,ah]at v1;rw[List.any_cons];cases g1:vA x.c s.p with
  |false=>
   rw[g1]at v1;refine⟨?hh1,?_⟩;rotate_left
   ·rw[Bool.not_false,ay9,if_pos rfl];simp only[kq,go_sem,h2,h3,h5,k2,k3,e1,e2,v1];rfl
  |true=>
   rw[g1]at v1;simp only[Bool.not_true,Bool.false_or];simp only[kq,go_sem,h2,h3,h5,k2,k3,e1,e2,e3,v1];exact ih' _ _ rfl rfl rfl rfl rfl
theorem afY{s:Rs}{m:Rm}(os:OkS s)(om:OkM m)(hm:∀t∈m.P.terms,t.c.m.length<=100000):R F.r25_Valid [mM s,fh m] []=some (B (tl s m),[]):=by
 refine au YI rfl ?_;have h1:=XM os;have h2:=MI om.c;have h4:=FG om.r;unfold tl;simp only[aT,am,ap]at h2 h4;cases g1:j7 s with
 |false=>
  rw[g1]at h1;simp only[kT,pU,go_sem,h1,ayh]
 |true=>
 rw[g1]at h1;cases g2:vp m.P with
 |false=>
  rw[g2]at h2;simp only[kT,pU,go_sem,h1,h2,ayh,ay1]
 |true=>
 rw[g2]at h2;by_cases g3:m.P.vars=(s.dom.length:Int)
 case neg=>
  have f3:(m.P.vars=(s.dom.length:Int))=False:=eq_false g3;simp only[kT,pU,go_sem,h1,h2,f3,ayh,ay1]
 have f3:(m.P.vars=(s.dom.length:Int))=True:=eq_true g3;have op:=XI om.c g2;have h3:=Y6 op;simp only[aT]at h3;by_cases g4:s.ord<eX m.P
 case pos=>
  have f4:(s.ord<eX m.P)=True:=eq_true g4;have f4':(eX m.P<=s.ord)=False:=ff;simp only[kT,pU,go_sem,h1,h2,h3,f3,f4,f4',ayh,ay1]
 have f4:(s.ord<eX m.P)=False:=eq_false g4;have f4':(eX m.P<=s.ord)=True:=tt;cases g5:vi m.R with
 |false=>
  rw[g5]at h4;simp only[kT,pU,go_sem,h1,h2,h3,h4,f3,f4,f4',ayh,ay1]
 |true=>
 rw[g5]at h4;have hL:=alb (s:=s) (m:=m) (fun t ht=>⟨om.c t ht,hm t ht⟩) (by have:=(lE op g2).2.2.2;omega) m.P.terms 0 rfl (ayB _);generalize hLL:ax (aj R (az false) kq) [2,3,5] [2,3]=L at hL;have hXL:∀s h,aj R (az false) (.loop [2,3,5] [2,3] kq) s h=L s h:=fun s h=>by rw[←hLL];rfl
 clear hLL;generalize(m.P.terms.any fun t=>!vA t.c s.p)=b at hL⊢;have hL2:∀ (S:ak) (h:ac) (X:Option (Ex×St)),ai 0 [] (L S h)=X->S 2=.ref 2 none 0 0 0->S 3=.ref 3 none 0 0 0->S 5=I 0->h 2=.bx (Cm s)->h 3=.bx (Hc m)->∃hh,X=if b=true then some (.ret,⟨upd (fun _=>.any) 4 (B false),hh⟩)else some (.normal,⟨fun _=>.any,hh⟩):=fun S h X hX k1 k2 k3 k4 k5=>by
  rw[←hX];exact hL S h k1 k2 k3 k4 k5
 simp only[kT,pU,go_sem,h1,h2,h3,h4,f3,f4,f4',hXL];generalize hX2:ai 0 [] (L _ _)=X;obtain⟨hh,g0⟩:=hL2 _ _ _ hX2 rfl rfl rfl rfl rfl;rw[g0];cases b with
 |true=>
  rw[if_pos rfl];simp only[go_sem]
 |false=>
  rw[if_neg ayl];simp only[go_sem]
theorem NY{s:Rs}:R F.l25_all [mM s] []=some (fh (bV s),[]):=by
 refine au ad7 rfl ?_;have h:=jD;simp only[am,ap,dm,aH]at h;simp only[HH,Sp,bV,dm,aH,ayu,go_sem,h];rfl
theorem S6{x:Ri}(h:vi x=true):lS x x=true:=by
 unfold lS;cases ha:x.all with
 |true=>simp[h]
 |false=>simp[h]
theorem S7{m:Rm}(hr:OkI m.R)(hv:vi m.R=true)(hc:Cl m.P.vars m.P.terms)(hn:m.P.terms.length<=100000):R F.l25_same [fh m,fh m] []=some (B true,[]):=by
 refine au ace rfl ?_;have h1:=S1 hr hr;rw[S6 hv,ayK]at h1;have h2:=ako hc hc hn;rw[acZ hc]at h2;simp only[aT,am,ap]at h1 h2;simp only[F3,OD,go_sem,h1,h2]
theorem S8{s:Rs}{a:Rp}(oa:OkP a)(os:OkS s)(h2:s.dom.length<=100000):R F.l25_span [mM s,aT a] []=some (am (iO a s.dom s.p),[]):=by
 refine au acb rfl ?_;have h1:=PJ;have h3:=(LH oa os.d h2 (p:=s.p)).1;unfold iO;generalize KG a s.dom s.p=z at h3⊢;simp only[aT,am,ap]at h1 h3;by_cases g:a.terms.length=0
 ·have f:((a.terms.length:Int)=0)=True:=tt;rw[if_pos g];simp only[BE,HC,aT,am,ap,go_sem,h1,f]
 ·have f:((a.terms.length:Int)=0)=False:=ff;rw[if_neg g];simp only[BE,HC,aT,am,ap,go_sem,h3,f]
def tM(p:Int):Ri->List Ri->Ri
 |x,[]=>x
 |x,y::l=>tM p (eG x y p) l
theorem aaJ{p:Int}:∀ {l:List Ri} {x:Ri},OkI x->OkI (tM p x l)
 |[],_,h=>h
 |y::l,x,_=>(aaJ (l:=l) yL:OkI (tM p (eG x y p) l))
theorem afZ{s:Rs}{l:List Ri}(ol:∀x∈l,OkI x)(hl:l.length<=100000):∀ (rest:List Ri) (n:Nat) (x:Ri),OkI x->l.drop n=rest->n<=l.length->∀ (S:ak) (h:ac),S 3=.ref 3 none 0 0 0->S 4=.ref 4 none 0 0 0->S 6=.ref 6 none 0 0 0->S 9=.sl 7 (bQ l)->S 10=I l.length->S 11=I n->h 3=.bx (Cm s)->h 4=.bx (ap x)->h 6=.bx [B false,.emp,I 0,B false,.emp,I 0,B false]->
  ∃hh,ai 0 [4,6] (ax (aj R (az false) qE) [3,4,6,9,10,11] [3,4,6] S h)=some (.normal,⟨upd (upd (fun _=>.any) 6 (.ref 6 none 0 0 0)) 4 (.ref 4 none 0 0 0),hh⟩)/\hh 4=.bx (ap (tM s.p x rest))/\hh 6=.bx [B false,.emp,I 0,B false,.emp,I 0,B false]:=by
 intro rest;induction rest with
 |nil=>
  intro n x ox hd hn S h h3 h4 h6 h9 h10 h11 k3 k4 k6;have e:n=l.length:=by
   have:=congrArg List.length hd;grind
  subst e;rw[ag];simp only[ap]at k4;refine⟨?hh0,?_,?_,?_⟩;rotate_left
  ·simp only[qE,go_sem,h3,h4,h6,h9,h10,h11,k3,k4,k6,ay6];rfl
  ·rfl
  ·rfl
 |cons y rest ih=>
  intro n x ox hd hn S h h3 h4 h6 h9 h10 h11 k3 k4 k6;have hlt:n<l.length:=by
   grind
  have hr:l[n]?=some y:=by
   have:=congrArg (·[0]?) hd;grind
  have ih':=ih (n+1) (eG x y s.p) yL (by rw[←List.drop_drop,hd];rfl) hlt;have e1:((n:Int)< (l.length:Int))=True:=tt;have e2:aX (bQ l) (n:Int)=some (.ipt (ap y)):=Ds rfl hr;have e3:IntKind.i64.wrap ((n:Int)+1)=((n+1:Nat):Int):=by grind[i64_in]
  have v1:=yH ox (ol y (List.mem_of_getElem? hr)) (p:=s.p);rw[ag];rw[show tM s.p x (y::rest)=tM s.p (eG x y s.p) rest from rfl];generalize ax _ _ _=L at ih'⊢;generalize eG x y s.p=z at v1 ih'⊢;simp only[ap]at e2 k4;simp only[am,ap]at v1;simp only[qE,go_sem,h3,h4,h6,h9,h10,h11,k3,k4,k6,e1,e2,e3,v1];exact ih' _ _ rfl rfl rfl rfl rfl rfl rfl rfl rfl
theorem XN{s:Rs}{l:List Ri}{x:Ri}(ox:OkI x)(ol:∀x∈l,OkI x)(hl:l.length<=100000):R F.l25_sum [mM s,am x,.sl 7 (bQ l)] []=some (am (tM s.p x l),[]):=by
 refine au ad3 rfl ?_;have hL:=afZ (s:=s) ol hl l 0 x ox rfl (ayB _);generalize hLL:ax (aj R (az false) qE) [3,4,6,9,10,11] [3,4,6]=L at hL;have hXL:∀s h,aj R (az false) (.loop [3,4,6,9,10,11] [3,4,6] qE) s h=L s h:=fun s h=>by rw[←hLL];rfl
 clear hLL;generalize tM s.p x l=z at hL⊢;have hL2:∀ (S:ak) (h:ac) (X:Option (Ex×St)),ai 0 [4,6] (L S h)=X->S 3=.ref 3 none 0 0 0->S 4=.ref 4 none 0 0 0->S 6=.ref 6 none 0 0 0->S 9=.sl 7 (bQ l)->S 10=I l.length->S 11=I 0->h 3=.bx (Cm s)->h 4=.bx (ap x)->h 6=.bx [B false,.emp,I 0,B false,.emp,I 0,B false]->
   ∃hh,X=some (.normal,⟨upd (upd (fun _=>.any) 6 (.ref 6 none 0 0 0)) 4 (.ref 4 none 0 0 0),hh⟩)/\hh 4=.bx (ap z)/\hh 6=.bx [B false,.emp,I 0,B false,.emp,I 0,B false]:=fun S h X hX a b c d e f g i j=>by
  rw[←hX];exact hL S h a b c d e f g i j
 simp only[HB,Sn,am,ap,go_sem,hXL];generalize hX2:ai 0 [4,6] (L _ _)=X;obtain⟨hh,g0,g4,g6⟩:=hL2 _ _ _ hX2 rfl rfl rfl rfl rfl rfl rfl rfl rfl;rw[g0];simp only[ap]at g4;simp only[go_sem,g4,g6]
theorem af0{p:Int}{l:List Ri}(ol:∀x∈l,OkI x)(hl:l.length<=100000):∀ (rest:List Ri) (n:Nat) (x:Ri),OkI x->l.drop n=rest->n<=l.length->∀ (S:ak) (h:ac),S 0=I p->S 4=.ref 4 none 0 0 0->S 6=.ref 6 none 0 0 0->S 9=.sl 7 (bQ l)->S 10=I l.length->S 11=I n->h 4=.bx (ap x)->h 6=.bx [B false,.emp,I 0,B false,.emp,I 0,B false]->
  ∃hh,ai 0 [4,6] (ax (aj R (az false) mP) [0,4,6,9,10,11] [4,6] S h)=some (.normal,⟨upd (upd (fun _=>.any) 6 (.ref 6 none 0 0 0)) 4 (.ref 4 none 0 0 0),hh⟩)/\hh 4=.bx (ap (tM p x rest))/\hh 6=.bx [B false,.emp,I 0,B false,.emp,I 0,B false]:=by
 intro rest;induction rest with
 |nil=>
  intro n x ox hd hn S h h0 h4 h6 h9 h10 h11 k4 k6;have e:n=l.length:=by
   have:=congrArg List.length hd;grind
  subst e;rw[ag];simp only[ap]at k4;refine⟨?hh0,?_,?_,?_⟩;rotate_left
  ·simp only[mP,go_sem,h0,h4,h6,h9,h10,h11,k4,k6,ay6];rfl
  ·rfl
  ·rfl
 |cons y rest ih=>
  intro n x ox hd hn S h h0 h4 h6 h9 h10 h11 k4 k6;have hlt:n<l.length:=by
   grind
  have hr:l[n]?=some y:=by
   have:=congrArg (·[0]?) hd;grind
  have ih':=ih (n+1) (eG x y p) yL (by rw[←List.drop_drop,hd];rfl) hlt;have e1:((n:Int)< (l.length:Int))=True:=tt;have e2:aX (bQ l) (n:Int)=some (.ipt (ap y)):=Ds rfl hr;have e3:IntKind.i64.wrap ((n:Int)+1)=((n+1:Nat):Int):=by grind[i64_in]
  have v1:=yH ox (ol y (List.mem_of_getElem? hr)) (p:=p);rw[ag];rw[show tM p x (y::rest)=tM p (eG x y p) rest from rfl];generalize ax _ _ _=L at ih'⊢;generalize eG x y p=z at v1 ih'⊢;simp only[ap]at e2 k4;simp only[am,ap]at v1;simp only[mP,go_sem,h0,h4,h6,h9,h10,h11,k4,k6,e1,e2,e3,v1];exact ih' _ _ rfl rfl rfl rfl rfl rfl rfl rfl
theorem alc{p:Int}{l:List Ri}{x:Ri}(ox:OkI x)(ol:∀x∈l,OkI x)(hl:l.length<=100000):R F.model_sum [I p,am x,.sl 7 (bQ l)] []=some (am (tM p x l),[]):=by
 refine au YM rfl ?_;have hL:=af0 (p:=p) ol hl l 0 x ox rfl (ayB _);generalize hLL:ax (aj R (az false) mP) [0,4,6,9,10,11] [4,6]=L at hL;have hXL:∀s h,aj R (az false) (.loop [0,4,6,9,10,11] [4,6] mP) s h=L s h:=fun s h=>by rw[←hLL];rfl
 clear hLL;generalize tM p x l=z at hL⊢;have hL2:∀ (S:ak) (h:ac) (X:Option (Ex×St)),ai 0 [4,6] (L S h)=X->S 0=I p->S 4=.ref 4 none 0 0 0->S 6=.ref 6 none 0 0 0->S 9=.sl 7 (bQ l)->S 10=I l.length->S 11=I 0->h 4=.bx (ap x)->h 6=.bx [B false,.emp,I 0,B false,.emp,I 0,B false]->
   ∃hh,X=some (.normal,⟨upd (upd (fun _=>.any) 6 (.ref 6 none 0 0 0)) 4 (.ref 4 none 0 0 0),hh⟩)/\hh 4=.bx (ap z)/\hh 6=.bx [B false,.emp,I 0,B false,.emp,I 0,B false]:=fun S h X hX a b c d e f i j=>by
  rw[←hX];exact hL S h a b c d e f i j
 simp only[DV,Mq,am,ap,go_sem,hXL];generalize hX2:ai 0 [4,6] (L _ _)=X;obtain⟨hh,g0,g4,g6⟩:=hL2 _ _ _ hX2 rfl rfl rfl rfl rfl rfl rfl rfl;rw[g0];simp only[ap]at g4;simp only[go_sem,g4,g6]
noncomputable def Uu (s:Rs) (q:Rp) (e:Int) (r:Ri):Rm:=
 if e=0 then(if(dO (cR q s.ord).1 s.p).2=0 then⟨(dO (cR q s.ord).1 s.p).1.1,eG r (eG (iO (cR q s.ord).2 s.dom s.p) (iO (dO (cR q s.ord).1 s.p).1.2 s.dom s.p) s.p) s.p⟩else bV s)else bV s
theorem ald{s:Rs}{q:Rp}{e:Int}{r:Ri}(os:OkS s)(oq:OkP q)(or:OkI r)(h2:s.dom.length<=100000):R F.l25_cut [mM s,aT q,I e,am r] []=some (fh (Uu s q e r),[]):=by
 refine au ad6 rfl ?_;have h0:=NY (s:=s);have h1:=SU (o:=s.ord) oq;obtain⟨⟨c1,_⟩,c2,_⟩:=Cn (o:=s.ord) oq;unfold Uu;generalize cR q s.ord=sp at h1 c1 c2⊢;have h3:=S5 (p:=s.p) (iW c1);obtain⟨r1,r2⟩:=KE (p:=s.p) (iW c1);generalize dO sp.1 s.p=rr at h3 r1 r2⊢;have h4:=S8 (iW c2) os h2;have h5:=S8 (iW r2.cl) os h2;have k4:=yW (p:=s.p) (iW c2) os.d h2;have k5:=yW (p:=s.p) (iW r2.cl) os.d h2;generalize iO sp.2 s.dom s.p=x at h4 k4⊢;generalize iO rr.1.2 s.dom s.p=y at h5 k5⊢;have h6:=XN (s:=s) k4.1 (l:=[y]) (fun z hz=>by grind) σ;have h7:=XN (s:=s) or (l:=[eG x y s.p]) (fun z hz=>by grind[yL]) σ;simp only[tM]at h6 h7;simp only[Xv,S4,aT,am,ap,bQ,ays,ayu]at h1 h3 h4 h5 h6 h7;by_cases g:e=0
 ·have f:(e=0)=True:=eq_true g;by_cases g2:rr.2=0
  ·have f2:(rr.2=0)=True:=eq_true g2;simp only[zo,Fc,aT,am,ap,go_sem,h1,h3,h4,h5,h6,h7,f,f2]
  ·have f2:(rr.2=0)=False:=eq_false g2;simp only[zo,Fc,aT,am,ap,go_sem,h0,h1,h3,f,f2]
 ·have f:(e=0)=False:=eq_false g;simp only[zo,Fc,aT,am,ap,go_sem,h0,h1,h3,f]
theorem af1{s:Rs}{q:Rp}{e:Int}{r:Ri}(hq:e=0->vp q=true/\q.vars=s.dom.length):Uu s q e r=jF s q e r:=by
 unfold Uu jF vB;by_cases g:e=0
 ·by_cases g2:(dO (cR q s.ord).1 s.p).2=0
  ·grind[dO,cR]
  grind
 grind
noncomputable def adM (s:Rs) (a b:Rm):Rm:=if pN s [a,b]=true then jF s (Kl a.P b.P).1 (Kl a.P b.P).2 (eG a.R b.R s.p)else bV s
theorem af2{s:Rs}{l:List Rm}(h:pN s l=true):j7 s=true/\∀m∈l,tl s m=true:=by
 simp_all[pN,ayf,azf,List.any_eq_false]
theorem iX{s:Rs}(h:j7 s=true):s.dom.length<=8/\bG s.p=true:=by
 simp_all[j7,ayf,decide_eq_true_eq]
theorem KH{s:Rs}{m:Rm}(om:OkM m)(h:tl s m=true):OkP m.P/\vp m.P=true/\m.P.vars=s.dom.length/\vi m.R=true:=by
 unfold tl at h;simp only[ayf,decide_eq_true_eq]at h;exact⟨XI om.c h.2.1,h.2.1,h.2.2.1,h.2.2.2.2.1⟩
theorem XO{α:Type}{p:α->Prop}{a b:α}(ha:p a)(hb:p b):∀m∈[a,b],p m:=fun m hm=>by
 grind
theorem ale{s:Rs}{a b:Rm}(os:OkS s)(oa:OkM a)(ob:OkM b):R F.model_Add [mM s,fh a,fh b] []=some (fh (adM s a b),[]):=by
 refine au ME rfl ?_;have h1:=kD os (l:=[a,b]) (XO oa ob) σ;have h2:=mY (s:=s);unfold adM;simp only[ays,ayu]at h1;cases g:pN s [a,b]with
 |false=>
  rw[g]at h1;simp only[uE,BG,go_sem,h1,h2]
 |true=>
  rw[g]at h1;obtain⟨q1,q2⟩:=af2 g;obtain⟨a1,_⟩:=KH oa (q2 a σ);obtain⟨b1,_⟩:=KH ob (q2 b σ);have h3:=akm a1 b1;have h4:=yH oa.r ob.r (p:=s.p);have h5:=NX (e:=(Kl a.P b.P).2) (r:=eG a.R b.R s.p) os (ahR a1 b1) yL (by grind[iX]);simp only[pV,aT,am,ap]at h3 h4 h5;simp only[uE,BG,go_sem,h1,h3,h4,h5]
theorem aiB{s:Rd}(ok:Ok0 s)(v:vd s=true):R F.dyadic_Scale [ae s,I (-1)] []=some (rV (PI s),[]):=by
 refine au Qq rfl ?_;obtain⟨h0,h1,h2,h3⟩:=ef v ok.lb;have hv:=eC ok;rw[v]at hv;have hx:=BO (e:=-1);have ho:=nN (neg:=s.neg) (m:=s.m) (e:=s.e+-1) ok.lb ω (by grind[Exq]);rw[Ry ok v]at ho;have hl:Ok0 (df (zI s) (-16384- (1:Nat))):=by
  rw[←Ry ok v];exact⟨yG _ _ _,ayS (Be (k:=128) ω) δ⟩
 have hc:=Dh hl.lb (by
  rw[←Ry ok v];exact ayj (Be (k:=128) ω) δ)
 have e:(if rh (af (ab (df (zI s) (-16384- (1:Nat))).m)) (df (zI s) (-16384- (1:Nat))).e=true then AV.tup [ae (df (zI s) (-16384- (1:Nat))),I 0]else .tup [ae aH,I 9])=rV (PI s):=by
  grind[PI,cH,rV]
 rw[e]at hc;have ew:IntKind.i64.wrap (s.e+-1)=s.e+-1:=by grind[i64_in]
 simp only[ae,ah,rV]at hv ho hc;simp only[zC,Gy,rV,ae,ah,go_sem,hv,hx,ho,hc,ew,show decide ((-32768:Int)≤-1)=true from rfl,show decide ((-1:Int)<=32768)=true from rfl]
def lh(x:Ri)(p:Int):Rd:=if(kI x&&bG p)=true then(if(du x.lo x.hi p false).2=0 then(if(PI (du x.lo x.hi p false).1).2=0 then(if Rz x (PI (du x.lo x.hi p false).1).1=true then(PI (du x.lo x.hi p false).1).1 else x.lo)else x.lo)else x.lo)else aH
theorem Uv{x:Ri}(h:kI x=true):x.all=false/\vd x.lo=true/\vd x.hi=true:=by
 grind[kI,vi]
theorem aaK{x:Ri}{p:Int}(ox:OkI x):vd (lh x p)=true/\Ok0 (lh x p):=by
 unfold lh;split
 ·rename_i h;rw[ayf]at h;have hl:=(Uv h.1).2.1;split
  ·split
   ·split
    ·exact yO
    ·exact⟨hl,ox.lo⟩
   ·exact⟨hl,ox.lo⟩
  ·exact⟨hl,ox.lo⟩
 ·exact aU
theorem af3{x:Ri}{p:Int}(ox:OkI x):R F.interval_Mid [am x,I p] []=some (ae (lh x p),[]):=by
 refine au Qh rfl ?_;have h1:=ve ox;have h2:=u9 (p:=p);unfold lh;cases g1:kI x with
 |false=>
  rw[g1]at h1;simp only[gY,ko,am,ap,ae,ah,aH,go_sem,h1,ayh,aza]
 |true=>
 rw[g1]at h1;cases g2:bG p with
 |false=>
  rw[g2]at h2;simp only[gY,ko,am,ap,ae,ah,aH,go_sem,h1,h2,ay1,aza]
 |true=>
 rw[g2]at h2;have h3:=H5 ox.lo ox.hi (p:=p);have h4:=aiB (Lc (a:=x.lo) (b:=x.hi) (p:=p) (up:=false)) QZ;have h5:=afU ox (d:=(PI (du x.lo x.hi p false).1).1) yO.2;generalize Rz x (PI (du x.lo x.hi p false).1).1=b at h5⊢;generalize PI (du x.lo x.hi p false).1=m at h4 h5⊢;generalize du x.lo x.hi p false=s at h3 h4⊢;simp only[am,ap,ae,ah,rV]at h3 h4 h5;by_cases k1:s.2=0
 case neg=>
  have f1:(s.2=0)=False:=eq_false k1;simp only[gY,ko,am,ap,ae,ah,go_sem,h1,h2,h3,f1]
 have f1:(s.2=0)=True:=eq_true k1;by_cases k2:m.2=0
 case neg=>
  have f2:(m.2=0)=False:=eq_false k2;simp only[gY,ko,am,ap,ae,ah,go_sem,h1,h2,h3,h4,f1,f2]
 have f2:(m.2=0)=True:=eq_true k2;cases b with
 |false=>
  simp only[gY,ko,am,ap,ae,ah,go_sem,h1,h2,h3,h4,h5,f1,f2]
 |true=>
  simp only[gY,ko,am,ap,ae,ah,go_sem,h1,h2,h3,h4,h5,f1,f2]
theorem arC{s:Rs}{x y:Ri}(ox:OkI x)(oy:OkI y):R F.l25_times [mM s,am x,am y] []=some (am (iu x y s.p),[]):=by
 refine au axB rfl ?_;have h:=Du ox oy (p:=s.p);simp only[am,ap]at h;simp only[ajq,amY,am,ap,go_sem,h]
def Ip(x:Ri):Bool:=decide (20<x.lo.m.length)||decide (20<x.hi.m.length)
theorem aje{x:Ri}:R F.l25_great_1 [am x] []=some (B (Ip x),[]):=by
 refine au CP rfl ?_;unfold Ip;by_cases g:20<x.lo.m.length
 ·have f:(20< (x.lo.m.length:Int))=True:=tt;rw[decide_eq_true g,ay9];simp only[vJ,Cz,am,ap,go_sem,f]
 ·have f:(20< (x.lo.m.length:Int))=False:=ff;have f2:(20< (x.hi.m.length:Int))=(20<x.hi.m.length):=γ
  rw[decide_eq_false g,Bool.false_or];simp only[vJ,Cz,am,ap,go_sem,f,f2]
theorem anz{t:Rt}:R F.l25_great_2_1 [.agg (bL t)] []=some (B (decide (20<t.c.m.length)),[]):=by
 refine au Fw rfl ?_;have f2:(20< (t.c.m.length:Int))=(20<t.c.m.length):=γ
 simp only[xT,Fd,bL,go_sem,f2]
def Hd(m:Rm):Bool:=decide (40<m.P.terms.length)|| (Ip m.R||m.P.terms.any fun t=>decide (20<t.c.m.length))
abbrev oG1:Ob:=.bx [.fn F.l25_great_1 [] []]
theorem adc:OC oG1:=⟨fun _=>rfl,rfl,fun _=>rfl,rfl⟩
theorem apT{m:Rm}(hn:m.P.terms.length<4611686018427387904):R F.l25_great_2 [fh m,.ref 1000 none 0 0 0] [oG1]=some (B (Hd m),[oG1]):=by
 refine EK TK TJ (Ek false) rfl ?_;unfold Hd;by_cases g:40<m.P.terms.length
 ·have f:(40< (m.P.terms.length:Int))=True:=tt;rw[decide_eq_true g,ay9];simp only[qJ,xG,go_sem,f];exact sj rfl rfl rfl rfl rfl
 have f:(40< (m.P.terms.length:Int))=False:=ff;rw[decide_eq_false g,Bool.false_or];have h1:=aje (x:=m.R);have h2:R F.slices_ContainsFunc_api_Term_api_Term_ [.sl 4 (aJ m.P.terms),.fn F.l25_great_2_1 [] []] []=some (B (m.P.terms.any fun t=>decide (20<t.c.m.length)),[]):=aai ajb (Frow:=bL) (f:=F.l25_great_2_1) (Fw.1.2.1 false) hn (EV _) fun t ht=>⟨.agg (bL t),rfl,rfl,by simp only[bL,go_sem];exact anz⟩;simp only[am,ap]at h1;cases g2:Ip m.R with
 |true=>
  rw[g2]at h1;simp only[qJ,xG,go_sem,f,h1];exact sj rfl rfl rfl rfl rfl
 |false=>
  rw[g2]at h1;simp only[qJ,xG,go_sem,f,h1,h2];exact sj rfl rfl rfl rfl rfl
def KI(s:Rs)(l:List Rm):Bool:=(decide (3< (s.dom.length:Int))&&decide ((s.dom.length:Int)<=8))|| ((decide (6<s.ord)&&decide (s.ord<=16))|| ((decide (64<s.p)&&decide (s.p<=512))|| (decide (100< (s.dom.length:Int))|| (s.dom.any Ip||l.any Hd))))
theorem pr3(x y:Bool):x=false\/x=true/\y=false\/x=true/\y=true:=by cases x<;>cases y<;>simp
theorem ade{s:Rs}{l:List Rm}(os:OkS s)(om:∀m∈l,OkM m)(hl:l.length<4611686018427387904):R F.l25_great [mM s,.sl 9 (KF l)] []=some (B (KI s l),[]):=by
 refine au YF rfl ?_;have h1:R F.slices_ContainsFunc_api_Interval_api_Interval_ [.sl 7 (bQ s.dom),.fn F.l25_great_1 [] []] []=some (B (s.dom.any Ip),[]):=aai ans (Frow:=ap) (f:=F.l25_great_1) (CP.1.2.1 false) os.n (ZT _) fun x hx=>⟨am x,rfl,rfl,by rw[CP.1.1];simp only[am,ap,go_sem];exact aje⟩;have h2:=Lq anu (Frow:=fun m=>Hc m) (l:=l) (q:=Hd) adc (IY false) (Ek false) hl (LG _) fun m hm=>⟨fh m,fh m,rfl,rfl,rfl,by rw[Ql];simp only[go_sem,EV],apT (om m hm).n⟩;have h2':=fun(h:ac) (d:Nat) (hh:h 5=oG1) (hf:h (2000+8*d)=.dead)=>EL (f:=F.slices_ContainsFunc_api_Model_api_Model_) (g:=F.l25_great_2) (h:=h) (d:=d) (id:=5) (zas:=[.sl 9 (KF l)]) (as':=[.sl 9 (KF l)]) (aY.1.2.1 false) (aY.1.2.2.2 false)
  (by rw[aY.1.1];simp only[go_sem,LG,ayW,ayq]) rfl rfl hh adc adc (fun h=>h) h2 (Xi _) (ayU rfl) (by grind[cA,cF,bY])
 simp only[ayW,ayq,go_sem]at h2';unfold KI;generalize s.dom.any Ip=b1 at h1⊢;generalize l.any Hd=b2 at h2'⊢;generalize d1:decide (3< (s.dom.length:Int))=x1;generalize d2:decide ((s.dom.length:Int)<=8)=x2;generalize d3:decide (6<s.ord)=x3;generalize d4:decide (s.ord<=16)=x4;generalize d5:decide (64<s.p)=x5;generalize d6:decide (s.p<=512)=x6;generalize d7:decide (100< (s.dom.length:Int))=x7;rcases pr3 x1 x2 with rfl| ⟨rfl,rfl⟩| ⟨rfl,rfl⟩
 case inr.inr=>simp only[kS,pS,go_sem,d1,d2,ayK,ay9]
 all_goals
  rcases pr3 x3 x4 with rfl| ⟨rfl,rfl⟩| ⟨rfl,rfl⟩
  case inr.inr=>simp only[kS,pS,go_sem,d1,d2,d3,d4,ayK,ay9,Bool.or_true]
  all_goals
   rcases pr3 x5 x6 with rfl| ⟨rfl,rfl⟩| ⟨rfl,rfl⟩
   case inr.inr=>simp only[kS,pS,go_sem,d1,d2,d3,d4,d5,d6,ayK,ay9,Bool.or_true]
   all_goals
    cases x7 with
    |true=>simp only[kS,pS,go_sem,d1,d2,d3,d4,d5,d6,d7,ayK,ay9,Bool.or_true]
    |false=>
     cases b1 with
     |true=>simp only[kS,pS,go_sem,d1,d2,d3,d4,d5,d6,d7,h1,ayK,ay9,Bool.or_true]
     |false=>
      simp only[kS,pS,go_sem,d1,d2,d3,d4,d5,d6,d7,h1];rw[h2' _ _ rfl rfl];simp only[go_sem]
noncomputable def RE (s:Rs) (a b:Rm):Rm:=if pN s [a,b]=true then jF s (Bo a.P b.P).1 (Bo a.P b.P).2 (tM s.p (iu (iO a.P s.dom s.p) b.R s.p) [iu (iO b.P s.dom s.p) a.R s.p,iu a.R b.R s.p])else bV s
theorem aaL{s:Rs}{a b:Rm}(os:OkS s)(oa:OkM a)(ob:OkM b):R F.model_Mul [mM s,fh a,fh b] []=some (fh (RE s a b),[]):=by
 refine au MF rfl ?_;have h1:=kD os (l:=[a,b]) (XO oa ob) σ;have h2:=mY (s:=s);unfold RE;simp only[ays,ayu]at h1;cases g:pN s [a,b]with
 |false=>
  rw[g]at h1;simp only[uF,BI,go_sem,h1,h2]
 |true=>
  rw[g]at h1;obtain⟨q1,q2⟩:=af2 g;obtain⟨a1,_⟩:=KH oa (q2 a σ);obtain⟨b1,_⟩:=KH ob (q2 b σ);have hl:s.dom.length<=100000:=by grind[iX]
  have h3:=aks a1 b1;have r1:=FO (p:=s.p) a1 os.d hl;have r2:=FO (p:=s.p) b1 os.d hl;have k1:=(yW (p:=s.p) a1 os.d hl).1;have k2:=(yW (p:=s.p) b1 os.d hl).1;generalize iO a.P s.dom s.p=x at r1 k1⊢;generalize iO b.P s.dom s.p=y at r2 k2⊢;have m1:=Du k1 ob.r (p:=s.p);have m2:=Du k2 oa.r (p:=s.p);have m3:=Du oa.r ob.r (p:=s.p);have h4:=alc (p:=s.p) (x:=iu x b.R s.p) (l:=[iu y a.R s.p,iu a.R b.R s.p]) Bk (XO Bk Bk) σ;have h5:=NX (q:=(Bo a.P b.P).1) (e:=(Bo a.P b.P).2) (r:=tM s.p (iu x b.R s.p) [iu y a.R s.p,iu a.R b.R s.p]) os (ahS a1 b1) (aaJ Bk) hl;simp only[pV,aT,am,ap]at h3 h5 r1 r2 m1 m2 m3;simp only[am,ap,bQ,ays,ayu]at h4;simp only[uF,BI,go_sem,h1,h3,h4,h5,r1,r2,m1,m2,m3]
theorem anB:∃W:Int,∀n:Nat,n≠0->zI (bk false n 0)=n*W:=by
 refine⟨((2^16384:Nat):Int),fun n hn=>?_⟩;obtain⟨q1,q2,_,_⟩:=pZ (neg:=false) (e:=0) hn;obtain⟨t1,_⟩:=tC hn;have hneg:(bk false n 0).neg=false:=by rw[iN hn]
 unfold zI mg;rw[hneg,if_neg ayl,q1,q2];have ht:((0:Int)+(tz n:Int)+16384).toNat=tz n+16384:=ω
 rw[ht];rw[ayn,←ayD,ayy (n/2^tz n),←t1,Int.natCast_mul]
theorem aaM{x y:Ri}{p:Int}:OkI (If x y p):=yL
theorem KJ{s:Rs}:OkI (bV s).R/\vi (bV s).R=true/\Cl (bV s).P.vars (bV s).P.terms/\(bV s).P.terms.length<=100000:=⟨Kf.ok',rfl,Cl.nil _,ayB _⟩
theorem ajg{d:Rd}(h:z0 d=true):d=aH:=by
 obtain⟨n,m,e⟩:=d;unfold z0 at h;simp only[ayf,azf,decide_eq_true_eq]at h;obtain⟨h1,h2,h3⟩:=h;subst h1 h3;rw[List.length_eq_zero_iff.1 h2];rfl
theorem Uw{x:Ri}(ox:OkI x)(v:vi x=true):∃q,In q x:=by
 cases ha:x.all with
 |true=>
  refine⟨0,Or.inl ?_⟩;unfold vi at v;rw[ha]at v;simp at v;obtain⟨l,h,a⟩:=x;simp only at v ha;rw[ajg v.1,ajg v.2,ha];rfl
 |false=>
  have hk:kI x=true:=by grind[kI]
  obtain⟨_,h1,h2⟩:=Uv hk;exact⟨qv x.lo,Or.inr ⟨ha,⟨⟨h1,ox.lo⟩,h2,ox.hi⟩,Rat.le_refl,Ao.2 (ai1 hk).2.2.1⟩⟩
theorem XP{s:Rs}{q:Rp}{e:Int}{r:Ri}(oq:OkP q)(os:OkS s)(hl:s.dom.length<=100000)(hv:e=0->vp q=true->q.vars=s.dom.length)(ir:∃q,In q r):OkI (jF s q e r).R/\vi (jF s q e r).R=true/\Cl (jF s q e r).P.vars (jF s q e r).P.terms/\(jF s q e r).P.terms.length<=100000:=by
 unfold jF;split
 ·rename_i he;have hv:=hv he;split
  ·rename_i hc;obtain⟨⟨c1,_⟩,c2,_⟩:=Cn (o:=s.ord) oq;obtain⟨r1,r2⟩:=KE (p:=s.p) (iW c1);unfold vB at hc⊢;split at hc
   ·rename_i h0;rw[if_pos h0];have k4:=yW (p:=s.p) (iW c2) os.d hl;have k5:=yW (p:=s.p) (iW r2.cl) os.d hl;obtain⟨q4,i4⟩:=Uw k4.1 k4.2;obtain⟨q5,i5⟩:=Uw k5.1 k5.2;obtain⟨q6,i6⟩:=ir;have ii:=ww (p:=s.p) i6 (ww (p:=s.p) i4 i5);refine⟨ii.ok,ii.v,?_,r1.len⟩;have hcl:=r1.cl;cases hq:vp q with
    |true=>
     have e1:(cR q s.ord).1.vars=q.vars:=by simp_all[cR,if_pos]
     have e2:(dO (cR q s.ord).1 s.p).1.1.vars=q.vars:=by
      unfold dO at h0⊢;grind
     rw[←hv hq,←e2];omega
    |false=>
     have e1:(cR q s.ord).1=p0:=by simp_all[cR,if_neg]
     have e2:(dO p0 s.p).1.1.terms=[]:=by
      unfold dO;split
      ·split
       ·rfl
       ·rfl
      ·rfl
     grind[Cl.nil]
   grind
  ·exact KJ
 ·exact KJ
theorem arJ{s:Rs}{q:Rp}{e:Int}{r:Ri}(oq:OkP q)(os:OkS s)(hl:s.dom.length<=100000)(hv:e=0->vp q=true->q.vars=s.dom.length)(ir:∃q,In q r):R F.l25_same [fh (jF s q e r),fh (jF s q e r)] []=some (B true,[]):=by
 grind[XP,S7]
theorem S9{s:Rs}:R F.l25_same [fh (bV s),fh (bV s)] []=some (B true,[]):=by
 grind[KJ,S7]
def inc(l:List Int)(i:Nat):List Int:=l.set i (l.getD i 0+1)
theorem aaN(l:List Int)(i:Nat):(inc l i).length=l.length:=by simp[inc]
theorem anC{l:List Int}{i:Nat}(h:i<l.length):(inc l i).getD i 0=l.getD i 0+1:=by
 grind[inc]
theorem alf{l:List Int}{i:Nat}(h:i<l.length):dec (inc l i) i=l:=by
 simp_all[dec,anC,inc,List.set_set,Int.add_sub_cancel,List.set_getElem_self]
theorem aaO{l:List Int}{i:Nat}(h:i<l.length):bj (inc l i)=bj l+1:=by
 grind[aay,inc,aaN,alf]
theorem azF{a b:List Int}{i:Nat}(h:i<a.length)(hl:a.length=b.length):bU (inc a i) (inc b i)=bU a b:=by
 grind[azA,inc,aaN,alf]
def aiC(x:List Int):Rt:=⟨x,one⟩
def atI(v:Int)(t:Rt)(i:Nat):Rp:=⟨v,[aiC (inc t.exps i)]⟩
def ad2(p:Int)(t:Rt)(i:Nat):Ri:=Rg ⟨t.c,t.c,false⟩ ⟨intD (t.exps.getD i 0+1),intD (t.exps.getD i 0+1),false⟩ p
def ajf(p:Int)(t:Rt)(i:Nat):Rd:=lh (ad2 p t i) p
noncomputable def aiX (v:Int) (dom:List Ri) (p:Int) (t:Rt) (i:Nat):Ri:=iu (If (ad2 p t i) ⟨ajf p t i,ajf p t i,false⟩ p) (iO (atI v t i) dom p) p
noncomputable def afC (v:Int) (dom:List Ri) (p:Int) (i:Nat):List Rt->List Rt->Ri->List Rt×Ri
 |[],q,e=>(q,e)
 |t::ts,q,e=>afC v dom p i ts (q++eu (inc t.exps i) (ajf p t i) []) (eG e (aiX v dom p t i) p)
structure VS (v:Int) (i:Nat) (t:Rt):Prop where
 vt:VT v t
 hd:bj t.exps<=16
 hi:i<t.exps.length
theorem aaP{l:List Int}{i:Nat}(h:∀e∈l,0<=e/\e<=32)(hi:i<l.length):0<=l.getD i 0/\l.getD i 0<=bj l:=by
 simp_all[Lm]
theorem VS.inc{v:Int}{i:Nat}{t:Rt}(h:VS v i t){d:Rd}(od:Ok0 d)(vdd:vd d=true)(nd:d.m.length≠0):VT v ⟨inc t.exps i,d⟩:=by
 obtain⟨x1,x2⟩:=aaP h.vt.b h.hi;have:=h.hd;refine⟨od,by rw[aaN];exact h.vt.len,h.vt.v8,vdd,nd,fun e he=>?_,by rw[aaO h.hi];omega⟩;rcases List.mem_or_eq_of_mem_set he with h2|rfl
 ·exact h.vt.b e h2
 omega
theorem VS.one{v:Int}{i:Nat}{t:Rt}(h:VS v i t):VT v (aiC (Go.Ab.inc t.exps i)):=h.inc dN.2 dN.1 δ
theorem VS.oneC{v:Int}{i:Nat}{t:Rt}(h:VS v i t):Cl v [aiC (Go.Ab.inc t.exps i)]:=Cl.mk' h.one (fun _ h=>nomatch h) (Cl.nil _)
theorem VS.vp{v:Int}{i:Nat}{t:Rt}(h:VS v i t)(h0:0<=v):vp (atI v t i)=true:=Li h.oneC h0 h.vt.v8 γ
theorem VS.intD{v:Int}{i:Nat}{t:Rt}(h:VS v i t):Ok0 (intD (t.exps.getD i 0+1))/\vd (intD (t.exps.getD i 0+1))=true:=by
 obtain⟨x1,x2⟩:=aaP h.vt.b h.hi;have:=h.hd;obtain⟨k1,k2,_⟩:=akH (e:=t.exps.getD i 0+1) ω ω;grind
theorem VS.inY{v p:Int}{i:Nat}{t:Rt}(h:VS v i t):In (qv t.c/qv (Go.Ab.intD (t.exps.getD i 0+1))) (ad2 p t i):=aaw (sn h.vt.vc h.vt.c) (sn h.intD.2 h.intD.1)
theorem atH{α:Type}{p:α->Prop}{a:α}(ha:p a):∀m∈[a],p m:=fun m hm=>by grind
theorem ajs(i id k lo n:Nat)(s:ak)(h:ac):PZ i s h (.rsl id none k lo n)=(mZ h id k lo n (h id)).map fun r=>(upd (ke r.2.2 s) i r.1,r.2.1,r.2.2):=rfl
theorem alO(k r):lH (.sl k r)=.sl k r:=rfl
theorem aAa{h:ac}{d n id:Nat}{ys rows:List (List AV)}{x:AV}(hn:n=rows.length)(hb:(n+ys.length)*64<=140737488355328):agD h d 4 64 id 1 4 0 n ys (.bx [x,.osl 4 rows])=cW (upd h id (.bx [x,.any])) d 4 (rows++ys) (n+ys.length) [(id,true)]:=by
 show(if _ then _ else _)=_;grind
theorem ai7(m:List Nat):lH (lm m)=lm m:=rfl
theorem VS.ct{v:Int}{i:Nat}{t:Rt}(h:VS v i t):R F.model_whole [I (t.exps.getD i 0+1)] []=some (am ⟨Go.Ab.intD (t.exps.getD i 0+1),Go.Ab.intD (t.exps.getD i 0+1),false⟩,[]):=by
 refine au TN rfl ?_;obtain⟨x1,x2⟩:=aaP h.vt.b h.hi;have:=h.hd;have k1:=azV (x:=t.exps.getD i 0+1) ω ω;have k2:=gX h.intD.1 h.intD.2;simp only[am,ap,ae,ah]at k1 k2;simp only[AK,IF,am,ap,go_sem,k1,k2]
def aAt(X:Option (Ex×St))(s:Rs)(a:Rm)(j:Nat)(r:List Rt×Ri):Prop:=
 ∃hh c,X=some (.normal,⟨upd (upd (upd (upd (upd (upd (upd (fun _=>.any) 9 (.ref 9 none 0 0 0)) 8 (.ref 8 none 0 0 0)) 7 (I s.p)) 6 (.ref 6 none 0 0 0)) 4 (.ref 4 none 0 0 0)) 3 (.ref 3 none 0 0 0)) 2 (I j),hh⟩)/\hh 3=.bx (Cm s)/\hh 4=.bx (Hc a)/\hh 6=.bx [I 0,.emp,B false,.emp,I 0,B false,.emp,I 0,B false]/\hh 8=.bx [I s.dom.length,c]/\hh 9=.bx (ap r.2)/\pJ c r.1/\∀i,10<=i->hh i=.dead
theorem azG{s:Rs}{a:Rm}{j:Nat}(os:OkS s)(hs:s.dom.length<=100000){A:List Rt}(hA:∀t∈A,VS s.dom.length j t)(hn:A.length<=100000):∀ (k i:Nat),i+k=A.length->∀ (c:AV) (q:List Rt) (e:Ri),pJ c q->q.length+k<=100000->OkI e->∀ (S:ak) (h:ac) (X:Option (Ex×St)),ai 0 [2,3,4,6,7,8,9] (ax (aj R (az false) HF) [2,3,4,6,7,8,9,53,54,55] [3,4,6,8,9] S h)=X->S 2=I j->S 3=.ref 3 none 0 0 0->S 4=.ref 4 none 0 0 0->S 6=.ref 6 none 0 0 0->S 7=I s.p->S 8=.ref 8 none 0 0 0->S 9=.ref 9 none 0 0 0->S 53=.sl 4 (aJ A)->S 54=I A.length->S 55=I i->h 3=.bx (Cm s)->h 4=.bx (Hc a)->h 6=.bx [I 0,.emp,B false,.emp,I 0,B false,.emp,I 0,B false]->h 8=.bx [I s.dom.length,c]->h 9=.bx (ap e)->
  aAt X s a j (afC s.dom.length s.dom s.p j (A.drop i) q e):=by
 intro k;induction k with
 |zero=>
  intro i hi c q e hc hq oe S h X hX g2 g3 g4 g6 g7 g8 g9 g53 g54 g55 k3 k4 k6 k8 k9;have e1:((i:Int)< (A.length:Int))=False:=ff;rw[ayw ω,←hX,ag];rcases hc with rfl| ⟨rfl,rfl⟩
  ·refine⟨?hh0,_,?_,?_,?_,?_,?_,?_,.inl rfl,?_⟩;rotate_left
   ·simp only[HF,go_sem,g2,g3,g4,g6,g7,g8,g9,g53,g54,g55,k3,k4,k6,k8,k9,e1];rfl
   ·rfl
   ·rfl
   ·rfl
   ·rfl
   ·rfl
   ·intro i a1;simp only[cV];grind
  ·refine⟨?hh1,_,?_,?_,?_,?_,?_,?_,.inr ⟨rfl,rfl⟩,?_⟩;rotate_left
   ·simp only[HF,go_sem,g2,g3,g4,g6,g7,g8,g9,g53,g54,g55,k3,k4,k6,k8,k9,e1];rfl
   ·rfl
   ·rfl
   ·rfl
   ·rfl
   ·rfl
   ·intro i a1;simp only[cV];grind
 |succ k ih=>
  intro i hi c q e hc hq oe S h X hX g2 g3 g4 g6 g7 g8 g9 g53 g54 g55 k3 k4 k6 k8 k9;have hlt:i<A.length:=ω
  have e1:((i:Int)< (A.length:Int))=True:=tt;have e2:aX (aJ A) (i:Int)=some (.ipt (bL A[i])):=fY rfl (List.getElem?_eq_getElem hlt);have e5:IntKind.i64.wrap ((i:Int)+1)=((i+1:Nat):Int):=wi;have vt:=hA _ (ayC hlt);have ih':=ih (i+1) ω;rw[ayv hlt];have hrow:∀t ts,afC s.dom.length s.dom s.p j (t::ts) q e=afC s.dom.length s.dom s.p j ts (q++eu (inc t.exps j) (ajf s.p t j) []) (eG e (aiX s.dom.length s.dom s.p t j) s.p):=fun t ts=>rfl;rw[hrow];generalize A[i]=t at e2 vt⊢;have hjl:=vt.hi;have hg:t.exps[j]?=some (t.exps.getD j 0):=γ
  have hle:=vt.vt.ok.len;obtain⟨x1,x2⟩:=vt.vt.b _ (ap5 hjl);have hat:=anC hjl;have hln:=aaN t.exps j;have hinc:(aO t.exps).set j [I (t.exps.getD j 0+1)]=aO (inc t.exps j):=aag _ _ _;have e3:aX (aO t.exps) (j:Int)=some (.ipt [I (t.exps.getD j 0)]):=oR rfl hg;have e4:(aO t.exps)[j]?=some [I (t.exps.getD j 0)]:=by simp_all[aO]
  have e4':aX (aO (inc t.exps j)) (j:Int)=some (.ipt [I (t.exps.getD j 0+1)]):=oR rfl γ;have hcl:R F.slices_Clone_int_int_ [.sl 1 (aO t.exps)] []=some (.osl 1 (aO t.exps),[]):=by
   cases hx:t.exps with
   |nil=>grind
   |cons x xs=>grind[SL]
  have e7:(0<=(j:Int)/\(j:Int)< (t.exps.length:Int))=True:=eq_true ⟨by omega,by omega⟩;have k10:(aO (inc t.exps j)).take t.exps.length=aO (inc t.exps j):=ayt (by simp_all[Dw,ayd]);have e8:IntKind.i64.wrap (t.exps.getD j 0+1)=t.exps.getD j 0+1:=i64_in _ ⟨by omega,by omega⟩;rw[←hX,ag];generalize ax _ _ _=L at ih'⊢;simp only[bL]at e2;have c1:=gX vt.vt.c vt.vt.vc;have c2:=vt.ct;have iy:=vt.inY (p:=s.p);have c3:R F.interval_Div [am ⟨t.c,t.c,false⟩,am ⟨intD (t.exps.getD j 0+1),intD (t.exps.getD j 0+1),false⟩,I s.p] []=some (am (ad2 s.p t j),[]):=aan ⟨vt.vt.c,vt.vt.c⟩ ⟨vt.intD.1,vt.intD.1⟩;have c4:=af3 iy.ok (p:=s.p);obtain⟨mv,mo⟩:=aaK (p:=s.p) iy.ok;have c5:=Kb;have o1:=iW vt.oneC;have c6:=vj o1;rw[show vp ⟨(s.dom.length:Int),[aiC (inc t.exps j)]⟩=true from vt.vp ω]at c6;have c7:=gX mo mv;have c8:=Rh (y:=⟨lh (ad2 s.p t j) s.p,lh (ad2 s.p t j) s.p,false⟩) iy.ok ⟨mo,mo⟩ (p:=s.p);have c9:=FO (p:=s.p) o1 os.d hs;have r1:=(yW (p:=s.p) o1 os.d hs).1;have c10:R F.interval_Mul [am (If (ad2 s.p t j) ⟨lh (ad2 s.p t j) s.p,lh (ad2 s.p t j) s.p,false⟩ s.p),am (iO ⟨(s.dom.length:Int),[aiC (inc t.exps j)]⟩ s.dom s.p),I s.p] []=some (am (aiX s.dom.length s.dom s.p t j),[]):=Du aaM r1;have c11:R F.model_sum [I s.p,am e,.sl 7 (bQ [aiX s.dom.length s.dom s.p t j])] []=some (am (eG e (aiX s.dom.length s.dom s.p t j) s.p),[]):=alc oe (atH Bk) σ;have c12:=QN mo;have oe2:OkI (eG e (aiX s.dom.length s.dom s.p t j) s.p):=yL;have hcl2:=vt.inc mo mv;rw[show ajf s.p t j=lh (ad2 s.p t j) s.p from rfl];clear iy hg hrow vt hcl2;generalize eG e _ s.p=en at*
  generalize aiX s.dom.length s.dom s.p t j=w at*
  generalize iO _ s.dom s.p=r at*
  generalize hm:lh (ad2 s.p t j) s.p=m at*
  clear hm;generalize ad2 s.p t j=y at*
  generalize If y ⟨m,m,false⟩ s.p=u at*
  generalize intD _=dz at*
  generalize t.exps.getD j 0=z at*
  generalize inc t.exps j=x at*
  have l1:∀y:Ri,bQ [y]=[ap y]:=fun y=>rfl;have l2:aJ [aiC x]=[[.sl 1 (aO x),B false,lm [1],I 0]]:=rfl;simp only[aT,am,ap,ae,ah,one,l1,l2]at c1 c2 c3 c4 c5 c6 c7 c8 c9 c10 c11 c12;have fz:(0≠ (0:Int))=False:=σ
  by_cases g:m.m.length=0
  ·have f1:((m.m.length:Int)=0)=True:=tt;rw[if_pos (.inr g)]at c12;unfold eu;rw[if_pos g,ayp];have ih2:=ih' c q en hc ω oe2;rcases hc with rfl| ⟨rfl,rfl⟩
   all_goals
    simp only[HF,ap,go_sem,g2,g3,g4,g6,g7,g8,g9,g53,g54,g55,k3,k4,k6,k8,k9,e1,e2,e4,e4',e5,e7,e8,hcl,hinc,hln,k10,ajs,alO,ai7,Am,vz,yT,ayk,ayc,ayd,ays,ayu,c1,c2,c3,c4,c5,c6,c7,c8,c9,c10,c11,c12];exact ih2 _ _ _ rfl rfl rfl rfl rfl rfl rfl rfl rfl rfl rfl rfl rfl rfl rfl rfl
  ·have f1:((m.m.length:Int)=0)=False:=ff;have hvm:vd m=true:=mv;rw[if_neg γ]at c12;have hs1:∀b:Bool,((if b=true then(-1:Int)else 1)=0)=False:=fun b=>by cases b<;>simp
   unfold eu;rw[if_neg g];have ih2:=ih' (.osl 4 (aJ (q++[⟨x,m⟩]))) (q++[⟨x,m⟩]) en (.inl rfl) (by simp;omega) oe2;rw[←azC]at ih2;simp only[bL]at ih2;have b1:((q.length+1)*64<=140737488355328)=True:=tt;rcases hc with rfl| ⟨rfl,rfl⟩
   ·simp only[HF,ap,go_sem,g2,g3,g4,g6,g7,g8,g9,g53,g54,g55,k3,k4,k6,k8,k9,e1,e2,e4,e4',e7,e8,hcl,hinc,hln,k10,ajs,alO,ai7,Am,vz,yT,ayk,ayc,ayd,ays,ayu,c1,c2,c3,c4,c5,c6,c7,c8,c9,c10,c11,c12,hs1];rw[aAa (tE q).symm γ];simp only[go_sem];rw[Dk rfl (by grind[ay5,tE]) rfl δ (by show 1<2;decide)];simp only[go_sem,e5];exact ih2 _ _ _ rfl rfl rfl rfl rfl rfl rfl rfl rfl rfl rfl rfl rfl rfl rfl rfl
   ·simp only[HF,ap,go_sem,g2,g3,g4,g6,g7,g8,g9,g53,g54,g55,k3,k4,k6,k8,k9,e1,e2,e4,e4',e7,e8,hcl,hinc,hln,k10,ajs,alO,ai7,Am,vz,yT,ayk,ayc,ayd,ays,ayu,c1,c2,c3,c4,c5,c6,c7,c8,c9,c10,c11,c12,hs1];rw[Dk rfl (show 1=List.length [[AV.sl 1 (aO x),B m.neg,lm m.m,I m.e]]from rfl) rfl δ (by show 1<2;decide)];simp only[go_sem,e5];exact ih2 _ _ _ rfl rfl rfl rfl rfl rfl rfl rfl rfl rfl rfl rfl rfl rfl rfl rfl
noncomputable def azH (s:Rs) (a:Rm) (i:Int):Rm:=if(pN s [a]&& (decide (0<=i/\i<s.dom.length)&&Rz (s.dom.getD i.toNat dm) aH))=true then jF s ⟨s.dom.length,(afC s.dom.length s.dom s.p i.toNat a.P.terms [] bN).1⟩ 0 (eG (iu a.R (s.dom.getD i.toNat dm) s.p) (afC s.dom.length s.dom s.p i.toNat a.P.terms [] bN).2 s.p)else bV s
noncomputable def azI (s:Rs) (a:Rm) (i:Int) (c:Rd):Rm:=if(pN s [a]&& (decide (0<=i/\i<s.dom.length)&&Rz (s.dom.getD i.toNat dm) c))=true then jF s (aff a.P i c).1 (aff a.P i c).2 a.R else bV s
theorem axu{l:List Ri}{n:Nat}(h:n<l.length):l.getD n dm=l[n]/\aX (bQ l) (n:Int)=some (.ipt (ap l[n])):=⟨by grind,Ds rfl (List.getElem?_eq_getElem h)⟩
theorem azJ{s:Rs}{a:Rm}{i:Int}{c:Rd}(os:OkS s)(oa:OkM a)(oc:Ok0 c):R F.model_Drop [mM s,fh a,I i,ae c] []=some (fh (azI s a i c),[]):=by
 refine au VL rfl ?_;have h1:=kD os (l:=[a]) (atH oa) σ;have h2:=mY (s:=s);unfold azI;simp only[ays,ayu]at h1;cases g:pN s [a]with
 |false=>
  rw[g]at h1;generalize bV s=n at h2⊢;simp only[Cy,JB,ae,ah,go_sem,h1,h2]
 |true=>
 rw[g]at h1;rw[ayg];by_cases g1:0<=i/\i<s.dom.length
 ·obtain⟨n,rfl⟩:=aze g1.1;have hn:n<s.dom.length:=ω
  have f1:((n:Int)<0)=False:=ff;have f2:((s.dom.length:Int)<=(n:Int))=False:=ff;obtain⟨e1,e2⟩:=axu hn;have h3:=afU (os.d _ (ayC hn)) oc;rw[decide_eq_true g1,ayg,ayk,e1];clear e1;generalize s.dom[n]=x at e2 h3⊢;simp only[am,ap,ae,ah]at e2 h3;cases g2:Rz x c with
  |false=>
   rw[g2]at h3;simp only[Cy,JB,ae,ah,go_sem,h1,h2,h3,f1,f2,e2]
  |true=>
   rw[g2]at h3;rw[if_pos rfl];obtain⟨q1,q2⟩:=af2 g;obtain⟨a1,_⟩:=KH oa (q2 a σ);have h4:=azh (i:=n) a1 oc;have h5:=NX (e:=(aff a.P n c).2) (r:=a.R) os (iW (arF (i:=n) (d:=c) a1).cl) oa.r (by grind[iX]);simp only[pV,aT,am,ap,ae,ah]at h4 h5;simp only[Cy,JB,ae,ah,go_sem,h1,h3,h4,h5,f1,f2,e2]
 ·rw[decide_eq_false g1,ayh,if_neg ayl];generalize bV s=n at h2⊢;by_cases g2:i<0
  ·have f1:(i<0)=True:=tt g2;simp only[Cy,JB,ae,ah,go_sem,h1,h2,f1]
  ·have f1:(i<0)=False:=ff g2;have f2:((s.dom.length:Int)<=i)=True:=tt;simp only[Cy,JB,ae,ah,go_sem,h1,h2,f1,f2]
theorem azK(k r):lH (.osl k r)=.sl k r:=rfl
theorem azL:lH .emp=.emp:=rfl
theorem azW{v:Int}{j:Nat}{a:Rt}(va:VS v j a){l:List Rt}(hl:∀t∈l,VS v j t)(ho:∀t∈l,bU a.exps t.exps<0):∀t∈l,bU (inc a.exps j) (inc t.exps j)<0:=fun t ht=>by
 rw[azF va.hi (va.vt.l2 (hl t ht).vt)];grind
theorem axv{v p:Int}{j:Nat}{t:Rt}{ts:List Rt}(hA:∀y∈t::ts,VS v j y)(hP:(t::ts).Pairwise fun a b=>bU a.exps b.exps<0){q:List Rt}(cq:Cl v q)(ho:∀x∈q,∀y∈t::ts,bU x.exps (inc y.exps j)<0):
  Cl v (q++eu (inc t.exps j) (ajf p t j) [])/\(∀x∈q++eu (inc t.exps j) (ajf p t j) [],∀y∈ts,bU x.exps (inc y.exps j)<0)/\(q++eu (inc t.exps j) (ajf p t j) []).length<=q.length+1:=by
 have vt:=hA t σ;obtain⟨p1,p2⟩:=List.pairwise_cons.1 hP;obtain⟨mv,mo⟩:=aaK (p:=p) (vt.inY (p:=p)).ok;unfold eu;split
 ·grind
 ·rename_i h0;have vn:=vt.inc mo mv h0;refine⟨⟨fun x hx=>?_,List.pairwise_append.2 ⟨cq.s,by simp,fun x hx y hy=>?_⟩⟩,fun x hx y hy=>?_,by simp⟩
  ·rcases List.mem_append.1 hx with h|h
   ·exact cq.t x h
   ·rw[List.mem_singleton.1 h];exact vn
  all_goals grind[azW]
theorem arG{v:Int}{dom:List Ri}{p:Int}{j:Nat}:∀ {A:List Rt},(∀t∈A,VS v j t)->(A.Pairwise fun a b=>bU a.exps b.exps<0)->∀ {q:List Rt} {e:Ri},Cl v q->(∀x∈q,∀t∈A,bU x.exps (inc t.exps j)<0)->OkI e->Cl v (afC v dom p j A q e).1/\(afC v dom p j A q e).1.length<=q.length+A.length/\OkI (afC v dom p j A q e).2
 |[],_,_,q,e,cq,_,oe=>⟨cq,ayd _,oe⟩
 |t::ts,hA,hP,q,e,cq,ho,oe=>by
  have hq:=axv (p:=p) hA hP cq ho;obtain⟨h1,h2,h3⟩:=arG (dom:=dom) (p:=p) (fun y hy=>hA y (by simp[hy])) (List.pairwise_cons.1 hP).2 hq.1 hq.2.1 (yL (x:=e) (y:=aiX v dom p t j) (p:=p));refine⟨h1,?_,h3⟩;show(afC v dom p j ts _ _).1.length<=q.length+(ts.length+1);omega
theorem azv{s:Rs}{a:Rm}{n:Nat}(oa:OkM a)(h:tl s a=true)(hn:n<s.dom.length):∀t∈a.P.terms,VS s.dom.length n t:=fun t ht=>by
 obtain⟨a1,a2,a3,_⟩:=KH oa h;obtain⟨c,_⟩:=lE a1 a2;have vt:=c.t t ht;rw[a3]at vt;have h1:=aab a1 a2 t ht;unfold tl at h;simp only[ayf,decide_eq_true_eq]at h;have h3:=h.1;unfold j7 at h3;simp only[ayf,decide_eq_true_eq]at h3;exact⟨vt,by omega,by have:=vt.len;omega⟩
theorem arK{s:Rs}{a:Rm}{i:Int}(os:OkS s)(oa:OkM a):R F.model_Integrate [mM s,fh a,I i] []=some (fh (azH s a i),[]):=by
 refine au LS rfl ?_;have h1:=kD os (l:=[a]) (atH oa) σ;have h2:=mY (s:=s);unfold azH;simp only[ays,ayu]at h1;cases g:pN s [a]with
 |false=>
  rw[g]at h1;generalize bV s=n at h2⊢;rw[ayh,if_neg ayl];simp only[uG,CT,go_sem,h1,h2]
 |true=>
 rw[g]at h1;rw[ayg];by_cases g1:0<=i/\i<s.dom.length
 ·obtain⟨n,rfl⟩:=aze g1.1;have hn:n<s.dom.length:=ω
  have f1:((n:Int)<0)=False:=ff;have f2:((s.dom.length:Int)<=(n:Int))=False:=ff;obtain⟨e1,e2⟩:=axu hn;have ox:=os.d _ (ayC hn);have h3:=afU ox aU.2;rw[decide_eq_true g1,ayg,ayk,e1];clear e1;generalize s.dom[n]=x at e2 h3 ox⊢;simp only[am,ap,ae,ah,aH]at e2 h3;cases g2:Rz x aH with
  |false=>
   have h3:=h3.trans (by rw[show Rz x ⟨false,[],0⟩=false from g2]);generalize bV s=n at h2⊢;rw[if_neg ayl];simp only[uG,CT,go_sem,h1,h2,h3,f1,f2,e2]
  |true=>
   have h3:=h3.trans (by rw[show Rz x ⟨false,[],0⟩=true from g2]);rw[if_pos rfl];obtain⟨q1,q2⟩:=af2 g;have va:=q2 a σ;obtain⟨a1,a2,a3,a4⟩:=KH oa va;obtain⟨ca,_,_,al⟩:=lE a1 a2;have hl:s.dom.length<=100000:=ω
   have hA:=azv oa va hn;have hw:=S2;have hL:=azG (a:=a) os hl hA ω a.P.terms.length 0 (ayc _) .emp [] bN (.inr ⟨rfl,rfl⟩) γ ⟨aU.2,aU.2⟩;obtain⟨j1,j2,j3⟩:=arG (dom:=s.dom) (p:=s.p) hA ca.s (Cl.nil _) (fun _ h=>nomatch h) (e:=bN) ⟨aU.2,aU.2⟩;rw[azb]at hL;generalize afC s.dom.length s.dom s.p n a.P.terms [] bN=r at hL j1 j2 j3⊢;obtain⟨r,e⟩:=r;have h4:=Du oa.r ox (p:=s.p);have h5:=alc (p:=s.p) (x:=iu a.R x s.p) (l:=[e]) Bk (atH j3) σ;have h6:=NX (q:=⟨s.dom.length,r⟩) (e:=0) (r:=eG (iu a.R x s.p) e s.p) os (iW j1) yL hl;simp only[tM]at h5;generalize jF s _ _ _=z at h6⊢;generalize eG (iu a.R x s.p) e s.p=t at h5 h6;generalize iu a.R x s.p=t2 at h4 h5;have l1:∀y:Ri,bQ [y]=[ap y]:=fun y=>rfl;simp only[aT,am,ap,l1,bN,aH]at hw h4 h5 h6;simp only[uG,CT,go_sem,h1,h3,f1,f2,e2,hw];generalize hX:ai 0 [2,3,4,6,7,8,9] _=X;obtain⟨hh,c,g4,k3,k4,k6,k8,k9,kc,kd⟩:=hL _ _ _ hX rfl rfl rfl rfl rfl rfl rfl rfl rfl rfl rfl rfl rfl rfl rfl;rw[g4];rcases kc with rfl| ⟨rfl,rfl⟩
   ·simp only[ap,go_sem,k3,k4,k6,k8,k9,kd,e2,h4,h5,h6,ai7,azK,Am,vz,yT,ays,ayu]
   ·simp only[show aJ []=[]from rfl]at h6;simp only[ap,go_sem,k3,k4,k6,k8,k9,kd,e2,h4,h5,h6,ai7,azL,Am,vz,yT,ays,ayu]
 ·rw[decide_eq_false g1,ayh,if_neg ayl];generalize bV s=n at h2⊢;by_cases g2:i<0
  ·have f1:(i<0)=True:=tt g2;simp only[uG,CT,go_sem,h1,h2,f1]
  ·have f1:(i<0)=False:=ff g2;have f2:((s.dom.length:Int)<=i)=True:=tt;simp only[uG,CT,go_sem,h1,h2,f1,f2]
theorem adi{z:Int}{k:Nat}{e:Int}:df (z*((2^k:Nat):Int)) e=df z (e+k):=by
 have hp:0< ((2^k:Nat):Int):=Int.natCast_pos.2 (ayr k);generalize hP:(2^k:Nat)=P at hp;grind[Int.mul_nonneg,Int.le_of_lt,Int.mul_neg_of_neg_of_pos,df,Int.natAbs_mul,Int.natAbs_natCast,jC]
theorem azX:∃k:Nat,(k:Int)=16384/\zI yu=-((2^k:Nat):Int):=by
 refine⟨(yu.e+16384).toNat,by simp[yu],?_⟩;grind[zI,yu,bE,mg,ab]
theorem af9{s:Rs}{l:List Rm}(h:KI s l=false):∀m∈l,m.P.terms.length<=40/\∀t∈m.P.terms,t.c.m.length<=100000:=by
 unfold KI at h;simp only[Bool.or_eq_false_iff]at h;intro m hm;have:=List.any_eq_false.1 h.2.2.2.2.2 m hm;unfold Hd at this;simp only[Bool.or_eq_true,not_or,decide_eq_true_eq,List.any_eq_true,not_exists,not_and]at this;exact⟨by omega,fun t ht=>by have:=this.2.2 t ht;omega⟩
theorem azY{s:Rs}{a b:Rm}(h1:tl s a=true)(h2:tl s b=true):pN s [a,b]=true/\pN s [a]=true:=by
 have:j7 s=true:=by unfold tl at h1;simp only[ayf]at h1;exact h1.1
 unfold pN;simp[this,h1,h2]
theorem azZ:zI one=-zI yu:=by
 grind[zI,yu,bE,mg,one]
theorem azM{d:Rd}(od:Ok0 d)(vdd:vd d=true):fS one d=(d,0):=by
 unfold fS;rw[vdd,dN.1,ayK,if_pos rfl];obtain⟨k,hk,hz⟩:=azX;rw[azZ,hz,Int.neg_neg,Int.mul_comm,adi,show(-32768:Int)+k=-16384 by omega,Bm od vdd,EI vdd]
theorem azw{v:Int}{i:Nat}{t:Rt}(h:VS v i t)(h0:0<=v){d:Rd}(od:Ok0 d)(vdd:vd d=true):ajd (atI v t i) d=(⟨v,eu (inc t.exps i) d []⟩,0):=by
 have hs:aiT d [aiC (inc t.exps i)]=some [⟨inc t.exps i,d⟩]:=by
  unfold aiT;rw[show(aiC (inc t.exps i)).c=one from rfl,azM od vdd,if_pos rfl];rfl
 unfold ajd eu;rw[if_pos ⟨h.vp h0,vdd⟩];grind[atI,aiC,inc]
theorem az0{v:Int}{q l:List Rt}(c:Cl v (q++l))(h0:0<=v)(h8:v<=8)(hl:(q++l).length<=500):Kl ⟨v,q⟩ ⟨v,l⟩=(⟨v,q++l⟩,0):=by
 have hq:Cl v q:=⟨fun t ht=>c.t t γ,(List.pairwise_append.1 c.s).1⟩;have hl2:Cl v l:=⟨fun t ht=>c.t t γ,(List.pairwise_append.1 c.s).2.1⟩;have hn:q.length+l.length<=500:=γ
 unfold Kl;rw[if_pos (Ci.2 ⟨Li hq h0 h8 ω,Li hl2 h0 h8 ω,rfl⟩)];rw[ap4 (l:=[]) (ts:=q++l) c]
 simp_all[tL,if_neg]
theorem VS.ct2{v:Int}{i:Nat}{t:Rt}(h:VS v i t):R F.l25_n [I (t.exps.getD i 0+1)] []=some (am ⟨Go.Ab.intD (t.exps.getD i 0+1),Go.Ab.intD (t.exps.getD i 0+1),false⟩,[]):=by
 refine au Zv rfl ?_;obtain⟨x1,x2⟩:=aaP h.vt.b h.hi;have:=h.hd;have k1:=aih (x:=t.exps.getD i 0+1) ω ω;have k2:=gX h.intD.1 h.intD.2;simp only[am,ap,ae,ah]at k1 k2;simp only[HD,P8,am,ap,go_sem,k1,k2]
theorem az1{s:Rs}{a y:Rm}{j:Nat}(os:OkS s)(h8:s.dom.length<=8){A:List Rt}(hA:∀t∈A,VS s.dom.length j t)(hP:A.Pairwise fun a b=>bU a.exps b.exps<0)(hn:A.length<=400):∀ (k i:Nat),i+k=A.length->∀ (c:AV) (q:List Rt) (e:Ri),(c=.sl 4 (aJ q)\/c=.emp/\q=[])->Cl s.dom.length q->(∀x∈q,∀t∈A.drop i,bU x.exps (inc t.exps j)<0)->q.length<=i->OkI e->∀ (S:ak) (h:ac) (X:Option (Ex×St)),ai 0 [2,4,5,9,13,14] (ax (aj R (az false) adm) [2,4,5,9,13,14,120,121,122] [4,5,9,13,14] S h)=X->S 2=I j->S 4=.ref 4 none 0 0 0->S 5=.ref 5 none 0 0 0->S 9=.ref 9 none 0 0 0->S 13=.ref 13 none 0 0 0->S 14=.ref 14 none 0 0 0->S 120=.sl 4 (aJ A)->S 121=I A.length->S 122=I i->h 4=.bx (Cm s)->h 5=.bx (Hc a)->h 9=.bx (Hc y)->h 13=.bx [I s.dom.length,c]->h 14=.bx (ap e)->
  ∃hh c,X=some (.normal,⟨upd (upd (upd (upd (upd (upd (fun _=>.any) 14 (.ref 14 none 0 0 0)) 13 (.ref 13 none 0 0 0)) 9 (.ref 9 none 0 0 0)) 5 (.ref 5 none 0 0 0)) 4 (.ref 4 none 0 0 0)) 2 (I j),hh⟩)/\hh 4=.bx (Cm s)/\hh 5=.bx (Hc a)/\hh 9=.bx (Hc y)/\hh 13=.bx [I s.dom.length,c]/\(c=.sl 4 (aJ (afC s.dom.length s.dom s.p j (A.drop i) q e).1)\/c=.emp/\(afC s.dom.length s.dom s.p j (A.drop i) q e).1=[])/\hh 14=.bx (ap (afC s.dom.length s.dom s.p j (A.drop i) q e).2)/\∀i,15<=i->hh i=.dead:=by
 intro k;induction k with
 |zero=>
  intro i hi c q e hc cq ho hq oe S h X hX g2 g4 g5 g9 g13 g14 g120 g121 g122 k4 k5 k9 k13 k14;have e1:((i:Int)< (A.length:Int))=False:=ff;rw[ayw ω,←hX,ag];rcases hc with rfl| ⟨rfl,rfl⟩
  ·refine⟨?hh0,_,?_,?_,?_,?_,?_,.inl rfl,?_,?_⟩;rotate_left
   ·simp only[adm,go_sem,g2,g4,g5,g9,g13,g14,g120,g121,g122,k4,k5,k9,k13,k14,e1];rfl
   ·rfl
   ·rfl
   ·rfl
   ·rfl
   ·rfl
   ·intro i a1;simp only[cV];grind
  ·refine⟨?hh1,_,?_,?_,?_,?_,?_,.inr ⟨rfl,rfl⟩,?_,?_⟩;rotate_left
   ·simp only[adm,go_sem,g2,g4,g5,g9,g13,g14,g120,g121,g122,k4,k5,k9,k13,k14,e1];rfl
   ·rfl
   ·rfl
   ·rfl
   ·rfl
   ·rfl
   ·intro i a1;simp only[cV];grind
 |succ k ih=>
  intro i hi c q e hc cq ho hq oe S h X hX g2 g4 g5 g9 g13 g14 g120 g121 g122 k4 k5 k9 k13 k14;have hlt:i<A.length:=ω
  have e1:((i:Int)< (A.length:Int))=True:=tt;have e2:aX (aJ A) (i:Int)=some (.ipt (bL A[i])):=fY rfl (List.getElem?_eq_getElem hlt);have e5:IntKind.i64.wrap ((i:Int)+1)=((i+1:Nat):Int):=wi;have vt:=hA _ (ayC hlt);have ih':=ih (i+1) ω;rw[ayv hlt]at ho⊢;have hst:=axv (p:=s.p) (fun t ht=>hA t γ) (by rw[←ayv hlt];grind) cq ho;have hrow:∀t ts,afC s.dom.length s.dom s.p j (t::ts) q e=afC s.dom.length s.dom s.p j ts (q++eu (inc t.exps j) (ajf s.p t j) []) (eG e (aiX s.dom.length s.dom s.p t j) s.p):=fun t ts=>rfl;rw[hrow];generalize A[i]=t at e2 vt hst⊢;clear ho;have hjl:=vt.hi;have hg:t.exps[j]?=some (t.exps.getD j 0):=γ
  have hle:=vt.vt.ok.len;obtain⟨x1,x2⟩:=vt.vt.b _ (ap5 hjl);have hat:=anC hjl;have hln:=aaN t.exps j;have hinc:(aO t.exps).set j [I (t.exps.getD j 0+1)]=aO (inc t.exps j):=aag _ _ _;have e3:aX (aO t.exps) (j:Int)=some (.ipt [I (t.exps.getD j 0)]):=oR rfl hg;have e4:(aO t.exps)[j]?=some [I (t.exps.getD j 0)]:=by grind[aO]
  have e4':aX (aO (inc t.exps j)) (j:Int)=some (.ipt [I (t.exps.getD j 0+1)]):=oR rfl γ;have hcl:R F.slices_Clone_int_int_ [.sl 1 (aO t.exps)] []=some (.osl 1 (aO t.exps),[]):=by
   cases hx:t.exps with
   |nil=>grind
   |cons x xs=>exact SL (by rw[hx]at hle;simp at hle;omega)
  have e7:(0<=(j:Int)/\(j:Int)< (t.exps.length:Int))=True:=eq_true ⟨by omega,by omega⟩;have k10:(aO (inc t.exps j)).take t.exps.length=aO (inc t.exps j):=ayt (by rw[Dw,hln];omega);have e8:IntKind.i64.wrap (t.exps.getD j 0+1)=t.exps.getD j 0+1:=i64_in _ ⟨by omega,by omega⟩;rw[←hX,ag];generalize ax _ _ _=L at ih'⊢;simp only[bL]at e2;have hl:s.dom.length<=100000:=ω
  have c1:=gX vt.vt.c vt.vt.vc;have c2:=vt.ct2;have iy:=vt.inY (p:=s.p);have c3:R F.interval_Div [am ⟨t.c,t.c,false⟩,am ⟨intD (t.exps.getD j 0+1),intD (t.exps.getD j 0+1),false⟩,I s.p] []=some (am (ad2 s.p t j),[]):=aan ⟨vt.vt.c,vt.vt.c⟩ ⟨vt.intD.1,vt.intD.1⟩;have c4:=af3 iy.ok (p:=s.p);obtain⟨mv,mo⟩:=aaK (p:=s.p) iy.ok;have c5:=afX;have o1:=iW vt.oneC;have c7:=gX mo mv;have c8:=Rh (y:=⟨lh (ad2 s.p t j) s.p,lh (ad2 s.p t j) s.p,false⟩) iy.ok ⟨mo,mo⟩ (p:=s.p);have c9:=S8 o1 os hl;have r1:=(yW (p:=s.p) o1 os.d hl).1;have c10:R F.l25_times [mM s,am (If (ad2 s.p t j) ⟨lh (ad2 s.p t j) s.p,lh (ad2 s.p t j) s.p,false⟩ s.p),am (iO ⟨(s.dom.length:Int),[aiC (inc t.exps j)]⟩ s.dom s.p)] []=some (am (aiX s.dom.length s.dom s.p t j),[]):=arC aaM r1;have c11:R F.l25_sum [mM s,am e,.sl 7 (bQ [aiX s.dom.length s.dom s.p t j])] []=some (am (eG e (aiX s.dom.length s.dom s.p t j) s.p),[]):=XN oe (atH Bk) σ;have c12:=azs (d:=lh (ad2 s.p t j) s.p) o1 mo;rw[show ajd ⟨(s.dom.length:Int),[aiC (inc t.exps j)]⟩ (lh (ad2 s.p t j) s.p)=(⟨s.dom.length,eu (inc t.exps j) (lh (ad2 s.p t j) s.p) []⟩,0)from azw vt ω mo mv]at c12;have oq:=iW cq;have cl2:Cl (s.dom.length:Int) (eu (inc t.exps j) (ajf s.p t j) []):=⟨fun y hy=>hst.1.t y (by simp[hy]),(List.pairwise_append.1 hst.1.s).2.1⟩;have c13:=akm oq (iW cl2);rw[az0 hst.1 ω ω ω]at c13;have oe2:OkI (eG e (aiX s.dom.length s.dom s.p t j) s.p):=yL;have ih2:=ih' _ _ _ (.inl rfl) hst.1 hst.2.1 ω oe2;clear ih' hst cl2 oe2;rw[show ajf s.p t j=lh (ad2 s.p t j) s.p from rfl]at*
  clear iy hg hrow vt o1 oq;generalize eG e _ s.p=en at*
  generalize aiX s.dom.length s.dom s.p t j=w at*
  generalize iO _ s.dom s.p=r at*
  generalize hm:lh (ad2 s.p t j) s.p=m at*
  clear hm;generalize ad2 s.p t j=z0 at*
  generalize If z0 ⟨m,m,false⟩ s.p=u at*
  generalize intD _=dz at*
  generalize t.exps.getD j 0=z at*
  generalize inc t.exps j=x at*
  generalize q++eu x m []=qn at*
  generalize eu x m []=qm at*
  have l1:∀y:Ri,bQ [y]=[ap y]:=fun y=>rfl;have l2:aJ [aiC x]=[[.sl 1 (aO x),B false,lm [1],I 0]]:=rfl;simp only[pV,aT,am,ap,ae,ah,one,l1,l2]at c1 c2 c3 c4 c5 c7 c8 c9 c10 c11 c12 c13;rcases hc with rfl| ⟨rfl,rfl⟩
  ·simp only[adm,ap,go_sem,g2,g4,g5,g9,g13,g14,g120,g121,g122,k4,k5,k9,k13,k14,e1,e2,e4,e4',e5,e7,e8,hcl,hinc,hln,k10,ajs,alO,ai7,Am,vz,yT,ayk,ayc,ayd,ays,ayu,c1,c2,c3,c4,c5,c7,c8,c9,c10,c11,c12,c13];exact ih2 _ _ _ rfl rfl rfl rfl rfl rfl rfl rfl rfl rfl rfl rfl rfl rfl rfl
  ·simp only[show aJ []=[]from rfl]at c13;simp only[adm,ap,go_sem,g2,g4,g5,g9,g13,g14,g120,g121,g122,k4,k5,k9,k13,k14,e1,e2,e4,e4',e5,e7,e8,hcl,hinc,hln,k10,ajs,alO,ai7,Am,vz,yT,ayk,ayc,ayd,ays,ayu,c1,c2,c3,c4,c5,c7,c8,c9,c10,c11,c12,c13];exact ih2 _ _ _ rfl rfl rfl rfl rfl rfl rfl rfl rfl rfl rfl rfl rfl rfl rfl
theorem aAb{s:Rs}(h:j7 s=true):∀y∈s.dom,vi y=true:=by
 intro y hy;unfold j7 at h;simp only[ayf,azf,List.any_eq_false]at h;have h1:=h.2.2.2.2.2 y hy;cases g:vi y with
 |true=>rfl
 |false=>
  rw[anx (x:=y) (y:=lG) (Or.inl g) rfl]at h1;simp at h1
theorem aAc{a:Rp}{i:Int}{c:Rd}(oa:OkP a)(h:(aff a i c).2=0):vp (aff a i c).1=true/\(aff a i c).1.vars=a.vars:=by
 have hr:=(arF (i:=i) (d:=c) oa).cl;unfold aff at h hr⊢;split at h
 ·rename_i hv;rw[if_pos hv]at hr⊢;rw[ayf]at hv;obtain⟨_,v0,v8,_⟩:=lE oa hv.1;split at h
  ·cases h
  ·rename_i hi;rw[if_neg hi]at hr⊢;generalize(agy i.toNat c a.terms).bind (oE [])=o at h hr⊢;cases o with
   |none=>cases h
   |some l=>
    unfold tL at h hr⊢;simp only at h hr⊢;split at h
    ·cases h
    ·rename_i h5;rw[if_neg h5]at hr⊢;exact⟨Li hr v0 v8 ω,rfl⟩
 ·cases h
theorem azi{s:Rs}{j:Nat}(os:OkS s)(hl:s.dom.length<=100000):∀ {A:List Rt},(∀t∈A,VS s.dom.length j t)->∀ {q:List Rt} {e:Ri},(∃z,In z e)->∃z,In z (afC s.dom.length s.dom s.p j A q e).2
 |[],_,_,_,h=>h
 |t::ts,hA,q,e,h=>by
  have vt:=hA t σ;have iy:=vt.inY (p:=s.p);obtain⟨mv,mo⟩:=aaK (p:=s.p) iy.ok;have o1:=iW vt.oneC;obtain⟨k1,k2⟩:=yW (p:=s.p) o1 os.d hl;obtain⟨_,k3⟩:=Uw k1 k2;obtain⟨_,k4⟩:=h;exact azi os hl (fun y hy=>hA y (by simp[hy])) (q:=q++eu (inc t.exps j) (ajf s.p t j) []) (e:=eG e (aiX s.dom.length s.dom s.p t j) s.p) ⟨_,ww k4 (Br (Rj iy (sn mv mo)) k3)⟩
theorem azN{s:Rs}{a:Rm}{i:Int}{c:Rd}(haw:R F.l25_awake [] []=some (B true,[]))(os:OkS s)(oa:OkM a)(oc:Ok0 c):R F.l25_ModelIntegrals [mM s,fh a,I i,ae c] []=some (B true,[]):=by
 refine au amr rfl ?_;have hg:=ade os (l:=[a]) (atH oa) σ;simp only[ays,ayu]at hg;cases g0:KI s [a]with
 |true=>
  rw[g0]at hg;simp only[aaz,aaB,ae,ah,go_sem,haw,hg]
 |false=>
 rw[g0]at hg;by_cases g1:20< (c.m.length:Int)
 case pos=>
  have f1:(20< (c.m.length:Int))=True:=eq_true g1;simp only[aaz,aaB,ae,ah,go_sem,haw,hg,f1]
 have f1:(20< (c.m.length:Int))=False:=eq_false g1;have hrv:=afY os oa (af9 g0 a σ).2;cases va:tl s a with
 |false=>
  rw[va]at hrv;simp only[aaz,aaB,ae,ah,go_sem,haw,hg,f1,hrv]
 |true=>
 rw[va]at hrv;have hI:=arK (i:=i) os oa;have hD:=azJ (i:=i) os oa oc;have hca:=NY (s:=s);have hsn:=S9 (s:=s);have e1:=(azY va va).2;have hs:=(af2 e1).1;have h8:=(iX hs).1;have hl:s.dom.length<=100000:=ω
 obtain⟨a1,a2,a3,a4⟩:=KH oa va;obtain⟨ca,_,_,al⟩:=lE a1 a2;obtain⟨_,ja⟩:=Uw oa.r a4;unfold azH at hI;unfold azI at hD;rw[e1,ayg]at hI hD;by_cases gi:0<=i/\i<s.dom.length
 case neg=>
  rw[decide_eq_false gi,ayh,if_neg ayl]at hI hD;generalize bV s=n at*
  simp only[ae,ah]at hD;rcases(show i<0\/¬i<0/\(s.dom.length:Int)<=i by omega)with g| ⟨g,g2⟩
  ·have f2:(i<0)=True:=tt g;simp only[aaz,aaB,ae,ah,go_sem,haw,hg,f1,hrv,hI,hD,hca,hsn,f2]
  ·have f2:(i<0)=False:=ff g;have f3:((s.dom.length:Int)<=i)=True:=tt g2;simp only[aaz,aaB,ae,ah,go_sem,haw,hg,f1,hrv,hI,hD,hca,hsn,f2,f3]
 obtain⟨n,rfl⟩:=aze gi.1;have hn:n<s.dom.length:=ω
 have f2:((n:Int)<0)=False:=ff;have f3:((s.dom.length:Int)<=(n:Int))=False:=ff;obtain⟨e0,e2⟩:=axu hn;have ox:=os.d _ (ayC hn);have hx:=aAb hs _ (ayC hn);have h3:=afU ox oc;have h4:=afU ox aU.2;have hA:=azv oa va hn;rw[decide_eq_true gi,ayg,ayk,e0]at hI hD;clear e0;generalize s.dom[n]=x at e2 h3 h4 ox hI hD hx;have hfix:=arF (i:=(n:Int)) (d:=c) a1;have hd:∃d,R F.model_Drop [mM s,fh a,I n,ae c] []=some (fh d,[])/\(Rz x c=false->R F.l25_same [fh d,fh (bV s)] []=some (B true,[]))/\(Rz x c=true->R F.l25_cut [mM s,aT (aff a.P n c).1,I (aff a.P n c).2,am a.R] []=some (fh d,[])/\R F.l25_same [fh d,fh d] []=some (B true,[])):=by
  cases gc:Rz x c with
  |false=>
   rw[gc,if_neg ayl]at hD;exact⟨_,hD,fun _=>hsn,(fun h=>nomatch h)⟩
  |true=>
   rw[gc,if_pos rfl]at hD;have hq:(aff a.P n c).2=0->vp (aff a.P n c).1=true/\(aff a.P n c).1.vars=s.dom.length:=fun h=>by
    obtain⟨q1,q2⟩:=aAc a1 h;exact⟨q1,q2.trans a3⟩
   have hcut:=ald (e:=(aff a.P n c).2) (r:=a.R) os (iW hfix.cl) oa.r hl;rw[af1 hq]at hcut;exact⟨_,hD,(fun h=>nomatch h),fun _=>⟨hcut,arJ (iW hfix.cl) os hl (fun h _=>(hq h).2) ⟨_,ja⟩⟩⟩
 obtain⟨d,d1,d2,d3⟩:=hd;have oz:OkI bN:=⟨aU.2,aU.2⟩;have hr:=arG (dom:=s.dom) (p:=s.p) hA ca.s (Cl.nil _) (fun _ h=>nomatch h) oz;obtain⟨_,ir⟩:=azi os hl hA (q:=[]) (e:=bN) ⟨_,sn aU.1 aU.2⟩;obtain⟨_,ix⟩:=Uw ox hx;have hL:=fun y=>az1 (a:=a) (y:=y) os h8 hA ca.s (by have:=(af9 g0 a σ).1;omega) a.P.terms.length 0 (ayc _) .emp [] bN (.inr ⟨rfl,rfl⟩) (Cl.nil _) (fun _ h=>nomatch h) (ayd _) oz;rw[azb]at hL;generalize afC s.dom.length s.dom s.p n a.P.terms [] bN=r at hr ir hL hI;obtain⟨r,e⟩:=r;obtain⟨j1,j2,j3⟩:=hr;have h5:=arC (s:=s) oa.r ox;have h6:=XN (s:=s) (x:=iu a.R x s.p) (l:=[e]) Bk (atH j3) σ;have hy:∃y,R F.model_Integrate [mM s,fh a,I n] []=some (fh y,[])/\(Rz x aH=false->R F.l25_same [fh y,fh (bV s)] []=some (B true,[]))/\(Rz x aH=true->R F.l25_cut [mM s,aT ⟨s.dom.length,r⟩,I 0,am (eG (iu a.R x s.p) e s.p)] []=some (fh y,[])/\R F.l25_same [fh y,fh y] []=some (B true,[])):=by
  cases gc:Rz x aH with
  |false=>
   rw[gc,if_neg ayl]at hI;exact⟨_,hI,fun _=>hsn,(fun h=>nomatch h)⟩
  |true=>
   rw[gc,if_pos rfl]at hI;have hq:(0:Int)=0->vp ⟨(s.dom.length:Int),r⟩=true/\(⟨(s.dom.length:Int),r⟩:Rp).vars=s.dom.length:=fun _=>⟨Li j1 ω ω (by have:=j2;simp at this;omega),rfl⟩;have hcut:=ald (q:=⟨(s.dom.length:Int),r⟩) (e:=0) (r:=eG (iu a.R x s.p) e s.p) os (iW j1) yL hl;rw[af1 hq]at hcut;exact⟨_,hI,(fun h=>nomatch h),fun _=>⟨hcut,arJ (iW j1) os hl (fun _ _=>rfl) ⟨_,ww (Br ja ix) ir⟩⟩⟩
 obtain⟨y,y1,y2,y3⟩:=hy;have n0:=PJ;have h7:=azh (i:=(n:Int)) a1 oc;clear hI hD hfix;generalize aff a.P n c=t at h7 d3;simp only[tM]at h6;generalize eG (iu a.R x s.p) e s.p=u1 at h6 y3;generalize iu a.R x s.p=u2 at h5 h6;generalize bV s=nm at*
 have l1:∀y:Ri,bQ [y]=[ap y]:=fun y=>rfl;have hL:=hL y;generalize Rz x c=gc at h3 d2 d3;generalize Rz x aH=gz at h4 y2 y3;simp only[pV,aT,am,ap,ae,ah,aH,bN,l1]at e2 h3 h4 h5 h6 h7 d1 d3 y1 y3 n0;cases gz with
 |false=>
  have y2:=y2 rfl;cases gc with
  |false=>
   have d2:=d2 rfl;simp only[aaz,aaB,ae,ah,go_sem,haw,hg,f1,hrv,d1,y1,hca,f2,f3,e2,h3,h4,h7,d2,y2]
  |true=>
   obtain⟨d3,d4⟩:=d3 rfl;simp only[aaz,aaB,ae,ah,go_sem,haw,hg,f1,hrv,d1,y1,hca,f2,f3,e2,h3,h4,h7,d3,d4,y2]
 |true=>
  obtain⟨y3,y4⟩:=y3 rfl;cases gc with
  |false=>
   have d2:=d2 rfl;simp only[aaz,aaB,ae,ah,go_sem,haw,hg,f1,hrv,d1,y1,hca,f2,f3,e2,h3,h4,h7,n0,d2];generalize hX:ai 0 [2,4,5,9,13,14] _=X;obtain⟨hh,c2,g4,k4,k5,k9,k13,kc,k14,kd⟩:=hL _ _ _ hX rfl rfl rfl rfl rfl rfl rfl rfl rfl rfl rfl rfl rfl rfl;rw[g4];rcases kc with rfl| ⟨rfl,rfl⟩
   ·simp only[ap,go_sem,k4,k5,k9,k13,k14,kd,e2,h5,h6,y3,y4]
   ·simp only[show aJ []=[]from rfl]at y3;simp only[ap,go_sem,k4,k5,k9,k13,k14,kd,e2,h5,h6,y3,y4]
  |true=>
   obtain⟨d3,d4⟩:=d3 rfl;simp only[aaz,aaB,ae,ah,go_sem,haw,hg,f1,hrv,d1,y1,hca,f2,f3,e2,h3,h4,h7,n0,d3,d4];generalize hX:ai 0 [2,4,5,9,13,14] _=X;obtain⟨hh,c2,g4,k4,k5,k9,k13,kc,k14,kd⟩:=hL _ _ _ hX rfl rfl rfl rfl rfl rfl rfl rfl rfl rfl rfl rfl rfl rfl;rw[g4];rcases kc with rfl| ⟨rfl,rfl⟩
   ·simp only[ap,go_sem,k4,k5,k9,k13,k14,kd,e2,h5,h6,y3,y4]
   ·simp only[show aJ []=[]from rfl]at y3;simp only[ap,go_sem,k4,k5,k9,k13,k14,kd,e2,h5,h6,y3,y4]
noncomputable def Gk:Env:=⟨fun f=>Um.lookup f,cK.C,cK.md⟩
noncomputable def R0:iG:=kj Gk
theorem Hg{f:FuncId}{fd:FD}{args:List AV}{hs:List Ob}{r:AV×List Ob}(hE:Gk.E f=none)(hC:Gk.C f=some fd)(hk:Gk.md.keep f=false)(h1:args.length=fd.np)(h2:hs.length<=1000)
  (hz:ip false fd.rs fd.res hs.length (aj R0 (az false) fd.body (uw args) (aq hs))=some r):R0 f args hs=some r:=by
 refine Sj hE hC ?_;unfold abV;rw[if_pos ⟨h1,h2⟩,hk];exact hz
theorem Aq(o:Ob):aq [o]=upd (fun _=>.dead) 1000 o:=by
 funext i;unfold aq upd;by_cases h:i=1000
 ·subst h;rfl
 ·rw[if_neg h];split
  ·rw[List.getElem?_eq_none (by simp;omega)];rfl
  ·rfl
theorem aiG{r:List AV}{rs:List (List AV)}(h:(rs.length+1)*8<=140737488355328):R0 F.slices_Clone_int_int_ [.sl 1 (r::rs)] []=some (.osl 1 (r::rs),[]):=by
 refine Hg (fd:=nc) κ κ κ rfl δ ?_;have e1:((rs.length+1)*8<=140737488355328)=True:=eq_true h;have e2:KO false (.sl 1 (r::rs))=some (B false):=rfl;simp only[nc,wz,go_sem,e1,e2,ayL,ayR,ayc,ayB,ayd,true_and,true_or,ayq]
theorem aiH:eA 4 .emp (some (I 0)) none none=some .emp:=rfl
theorem ali{r:List AV}:R0 F.slices_Insert_api_Term_api_Term_ [.emp,I 0,.sl 4 [r]] []=some (.osl 4 [r],[]):=by
 refine Hg (fd:=bu) κ κ κ rfl δ ?_;have e1:((1:Int)=0)=False:=δ
 simp only[bu,dq,go_sem,aiH,ayL,ayR,Int.natCast_one,e1,ayc]
theorem Bv{n i:Nat}(h:i<=n):j8 n (some (I i)) none none=some (i,n):=by
 simp only[j8,jW,ayi];rw[if_pos ⟨by omega,by omega⟩];rfl
theorem aga{id k l0 n i:Nat}(h:i<=n):eA k (.rsl id none k l0 n) (some (I i)) none none=some (.rsl id none k (l0+i) (n-i)):=by
 simp only[eA,if_true,Bv h,ayT,Option.isNone_none]
theorem RG{h:ac}{j k n:Nat}{rows:List (List AV)}(hj:bh j=false)(hh:h j=.ar k rows)(hn:n=rows.length)(hc:aD [1000] (h 1000)=true):wE [[]] 1 h [.rsl j none k 0 n]=some (.osl k rows,[h 1000]):=by
 subst hn;have hp:de 1=[1000]:=rfl;unfold wE;rw[if_pos]
 ·simp[vE,rG,mq,hj,hh,Cr,xC,bp,nrmV,nrmL,hp]
 ·simp[hp,hc,kR,cf,fI,hj]
theorem agb{r:List AV}{rows:List (List AV)}{n:Nat}(hn:n=rows.length)(hb:(n+1)*64<=140737488355328):R0 F.slices_Insert_api_Term_api_Term_ [.rsl 1000 none 4 0 n,I n,.sl 4 [r]] [.ar 4 rows]=some (.osl 4 (rows++[r]),[.dead]):=by
 refine Hg (fd:=bu) κ κ κ rfl σ ?_;subst hn;rw[Aq];have e1:((1:Int)=0)=False:=δ
 have e2:=aga (id:=1000) (k:=4) (l0:=0) (ayd rows.length);have e3:((rows.length+1)*64<=140737488355328)=True:=eq_true hb;have e4:(rows.length+1<=rows.length)=False:=ff;have e5:∀h,MQ h 25 4 64 1000 4 0 rows.length [r] 4 rows=cW (upd h 1000 .dead) 25 4 (rows++[r]) (rows.length+1) [(1000,false)]:=fun h=>by
  simp only[MQ,List.length_singleton];rw[if_neg ω,if_pos ⟨trivial,trivial,trivial,trivial,hb⟩]
 simp only[bu,dq,go_sem,ayL,ayR,Int.natCast_one,e1,e2,e3,e4,e5,ayc,ayF,Nat.sub_self,or_self,ayd,ay5];exact RG rfl rfl σ rfl
theorem anF{f:FuncId}{g:List AV->List Ob->Option (AV×List Ob)}{args:List AV}{hs:List Ob}(hE:Gk.E f=some g):R0 f args hs=g args hs:=MX hE
theorem alj{h:ac}{d:Nat}{r:List AV}{rows:List (List AV)}{lo m:Nat}(hh:h 1000=.ar 4 rows)(hd:h (2000+8*d)=.dead):
  bF R0 (az false) h d [.sl 4 [r],.rsl 1000 none 4 lo m] (.fn F.slices_overlaps_api_Term_ [] [])=some (B false,upd h 1000 (.ar 4 rows),[(1000,true)]):=by
 have hm:(az false).m F.slices_overlaps_api_Term_=[0,1]:=by kernel_rfl
 have hs:(az false).sh F.slices_overlaps_api_Term_=[]:=by kernel_rfl
 have hk:(az false).keep F.slices_overlaps_api_Term_=false:=by kernel_rfl
 have hf:R0 F.slices_overlaps_api_Term_ [.sl 4 [r],.rsl 1000 none 4 lo m] [.ar 4 rows]=some (B false,[.ar 4 rows]):=by
  rw[anF (g:=Zu 4) κ];simp[Zu]
 have hb:kh (az false) [.sl 4 [r],.rsl 1000 none 4 lo m] (.fn F.slices_overlaps_api_Term_ [] [])=false:=by
  simp[kh,hm]
 have hr:ce h 40 [1000] 0=[1000]:=by
  simp[ce,hh,oA,bH]
 have hn:cF (B false)=1:=rfl;unfold bF;rw[if_neg (by rw[hb];exact ayl)];have h1:bS h [0,1] [.sl 4 [r],.rsl 1000 none 4 lo m]=some ([.sl 4 [r],.rsl 1000 none 4 lo m],h,[]):=by
  simp[bS,dC,wx,fP,aE]
 have h2:bH [] ([AV.sl 4 [r],.rsl 1000 none 4 lo m].flatMap cf)=[1000]:=by
  simp[cf,fI,bH]
 have h3:bm [1000] 1000=1000:=rfl;simp only[dW,hm,ayq,ayp,h1,ayi,h2,hr,hs];simp[jV,bp,bg,bo,hh,aD,bY,dV,kg,h3,dS,hf,eP,hn,cA,hd,dh,bf,oT,Cp,rB,fI,jj,fy,E4,eE,mat,dL,gb,hk,FT,hm]
theorem Tc{id k l0 n i:Nat}:eA k (.rsl id none k l0 n) (some (I i)) none none=(j8 n (some (I i)) none none).map fun p=>.rsl id none k (l0+p.1) (p.2-p.1):=by
 simp only[eA,if_true,Option.isNone_none]
theorem agc{n c i:Nat}(h:i<=c):jW n c (some (I i))=some i:=by
 simp only[jW];rw[if_pos ⟨by omega,by omega⟩];rfl
theorem alk{r:List AV}{rows:List (List AV)}{n i:Nat}(hn:n=rows.length)(hi:i<n)(hb:(n+1)*64<=140737488355328):
  R0 F.slices_Insert_api_Term_api_Term_ [.rsc 1000 4 0 n n,I i,.sl 4 [r]] [.ar 4 rows]=some (.osl 4 (rows.take i++r::rows.drop i),[.ar 4 rows]):=by
 refine Hg (fd:=bu) κ κ κ rfl σ ?_;rw[Aq];have e1:((1:Int)=0)=False:=δ
 have e2:((i:Int)=(n:Int))=False:=ff;have e3:IntKind.i64.wrap ((n:Int)+1)=((n+1:Nat):Int):=wi;have e4:((n:Int)< ((n+1:Nat):Int))=True:=tt;have e5:IntKind.i64.wrap (((n+1:Nat):Int)- (i:Int))=((n+1-i:Nat):Int):=wi;have e6:IntKind.i64.wrap ((i:Int)+1)=((i+1:Nat):Int):=wi;have b1:=Bv (n:=n) (i:=i) ω;have b2:=agc (n:=n) (c:=n) (i:=i) ω;have b3:=Bv (n:=n+1) (i:=i) ω;have b4:=Bv (n:=n+1) (i:=i+1) ω;have f1:((0:Int)< ((n+1-i:Nat):Int))=True:=tt;have f2:(n<i+((n+1-i:Nat):Int).toNat)=True:=tt;have f3:i+((n+1-i:Nat):Int).toNat=n+1:=ω
 have f4:(i<=rows.length)=True:=tt;have f5:((n+1)*64<=140737488355328)=True:=eq_true hb;have f6:(n<n+1)=True:=tt;obtain⟨A,hA⟩:∃A,rows.take i++aya ((n+1-i:Nat):Int).toNat [AV.emp,B false,AV.emp,I 0]=A:=⟨_,rfl⟩;have a1:A.length=n+1:=by rw[←hA,ay5,ayo,azc];omega
 have a2:A.take i=rows.take i:=by
  rw[←hA,List.take_append_of_le_length (by rw[ayo];omega),ayt (by rw[ayo];omega)]
 have a3:(i<=A.length)=True:=tt;obtain⟨D,hD⟩:∃D,A.take i++[r]++A.drop (i+1)=D:=⟨_,rfl⟩;have d1:D.length=n+1:=by
  rw[←hD,ay5,ay5,ayo,azd,List.length_singleton];omega
 have d2:D.take (i+1)=rows.take i++[r]:=by
  rw[←hD,a2,List.take_append_of_le_length (by rw[ay5,ayo,List.length_singleton];omega),ayt (by rw[ay5,ayo,List.length_singleton];omega)]
 have d3:(i+1<=D.length)=True:=tt;have t1:List.take (n+1-i) [r]=[r]:=ayt (by rw[List.length_singleton];omega);have t2:(rows.drop i).take (n-i)=rows.drop i:=ayt (by rw[azd];omega);have t3:(1=min 1 (n+1-i))=True:=tt;have t4:n+1- (i+1)=n-i:=ω
 have t5:(i+(n-i)<=rows.length)=True:=tt;have t6:(rows.drop i).length=n-i:=by rw[azd];omega
 have t7:D.drop (i+1+(n-i))=[]:=ayw ω;simp only[bu,dq,go_sem,ayL,ayR,Int.natCast_one,e1,e2,e3,e4,e5,e6,b1,b2,b3,b4,f1,f2,f3,f4,f5,f6,hA,hD,a3,d3,t1,t2,t3,t4,t5,t6,t7,Nat.min_self,ayc,ayF,Nat.sub_self,or_self,ayd,Tc,and_self];rw[d2];have hfin:rows.take i++[r]++rows.drop i=rows.take i++r::rows.drop i:=by rw[ayX];rfl
 rw[hfin];exact RG rfl rfl (by rw[ay5,ayo,ayL,azd];omega) rfl
theorem alm{r:List AV}{rows:List (List AV)}{n i c:Nat}(hn:n=rows.length)(hi:i<n)(hc:n+1<=c)(hb:(n+1)*64<=140737488355328):
  R0 F.slices_Insert_api_Term_api_Term_ [.rsc 1000 4 0 n c,I i,.sl 4 [r]] [.ar 4 rows]=some (.osl 4 (rows.take i++r::rows.drop i),[.dead]):=by
 refine Hg (fd:=bu) κ κ κ rfl σ ?_;rw[Aq];have e1:((1:Int)=0)=False:=δ
 have e2:((i:Int)=(n:Int))=False:=ff;have e3:IntKind.i64.wrap ((n:Int)+1)=((n+1:Nat):Int):=wi;have e4:((c:Int)< ((n+1:Nat):Int))=False:=ff;have e6:IntKind.i64.wrap ((i:Int)+1)=((i+1:Nat):Int):=wi;have b1:=Bv (n:=n) (i:=i) ω;have b2:=agc (n:=n) (c:=c) (i:=n+1) hc;have b3:=Bv (n:=n+1) (i:=i) ω;have b4:=Bv (n:=n+1) (i:=i+1) ω;have o1:=fun(h:ac) (h0:h 1000=.ar 4 rows) (h1:h (2000+8*67)=.dead)=>alj (r:=r) (lo:=i+1) (m:=n-i) h0 h1;have t1:List.take (n+1-i) [r]=[r]:=ayt (by rw[List.length_singleton];omega);have t2:(rows.drop i).take (n-i)=rows.drop i:=ayt (by rw[azd];omega);have t3:(1=min 1 (n+1-i))=True:=tt;have t4:n+1- (i+1)=n-i:=ω
 have t5:(i+(n-i)<=rows.length)=True:=tt;have t6:(rows.drop i).length=n-i:=by rw[azd];omega
 have t8:min (n-i) (n+1-i)=n-i:=ω
 have t9:(n-i=min (n+1-i) (n-i))=True:=tt;have f4:(i+1<=rows.length)=True:=tt;have t7:rows.drop (i+1+(n-i))=[]:=ayw ω;obtain⟨A,hA⟩:∃A,rows.take (i+1)++rows.drop i=A:=⟨_,rfl⟩;have a1:A.length=n+1:=by
  rw[←hA,ay5,ayo,azd];omega
 have a2:A.take i=rows.take i:=by
  rw[←hA,List.take_append_of_le_length (by rw[ayo];omega),List.take_take,ay0 ω]
 have a4:A.drop (i+1)=rows.drop i:=by
  rw[←hA,List.drop_append_of_le_length (by rw[ayo];omega),ayw (by rw[ayo];omega),ayq]
 have a3:(i<=A.length)=True:=tt;simp only[bu,dq,go_sem,ayL,ayR,Int.natCast_one,e1,e2,e3,e4,e6,b1,b2,b3,b4,t4,ayc];rw[o1 _ rfl rfl];simp only[go_sem,ayL,ayR,Int.natCast_one,e1,e2,e3,e4,e6,b1,b2,b3,b4,t1,t2,t3,t4,t5,t6,t7,t8,t9,f4,a3,hA,ayc,ayF,Nat.sub_self,or_self,ayd,Tc,and_self];rw[a2,a4,show rows.take i++[r]++rows.drop i=rows.take i++r::rows.drop i by rw[ayX];rfl];exact RG rfl rfl (by rw[ay5,ayo,ayL,azd];omega) rfl
def aji:Ren:=⟨fun|28=>242|n=>n,fun|25=>121|27=>57|53=>218|n=>n,fun n=>n⟩
theorem agd:Lays7.n28 Tryz.prog aji where
 mixed:=by kernel_rfl
 f28:=by kernel_rfl
 t0:=by kernel_rfl
 a0:=Tryz.isAgg0
 z0:=Tryz.sizeOf0
 v0:=Tryz.zeroValue0
 i0:=by kernel_rfl
 t3:=by kernel_rfl
 a3:=Tryz.isAgg3
 z3:=Tryz.sizeOf3
 v3:=Tryz.zeroValue3
 i3:=by kernel_rfl
 t4:=by kernel_rfl
 a4:=Tryz.isAgg4
 z4:=Tryz.sizeOf4
 v4:=Tryz.zeroValue4
 i4:=by kernel_rfl
 t5:=by kernel_rfl
 a5:=Tryz.isAgg5
 z5:=Tryz.sizeOf5
 v5:=Tryz.zeroValue5
 i5:=by kernel_rfl
 t25:=by kernel_rfl
 a25:=Tryz.isAgg121
 z25:=Tryz.sizeOf121
 v25:=Tryz.zeroValue121
 i25:=by kernel_rfl
 t27:=by kernel_rfl
 a27:=Tryz.isAgg57
 z27:=Tryz.sizeOf57
 v27:=Tryz.zeroValue57
 i27:=by kernel_rfl
 t53:=by kernel_rfl
 a53:=Tryz.isAgg218
 z53:=Tryz.sizeOf218
 v53:=Tryz.zeroValue218
 i53:=by kernel_rfl
 g0:=by kernel_rfl
def KL:Inv where
 p w _:=TabAt 0 Lib.deBruijn32tab w
 stab:=fun{w w' X} h hs j hj=>by rw[pe (hs 0 (.inr rfl))];exact h j hj
 more:=fun h _=>h
theorem aaT:∀ (k x:Nat),Lib.ctzFrom k x=Su k x
 |0,x=>rfl
 |k+1,x=>by
  unfold Lib.ctzFrom Su;rw[aaT k (x/2),Nat.add_comm]
set_option maxRecDepth 100000 in
theorem ajj:qh Tryz.prog KL false F.bits_TrailingZeros32 tzF:=by
 intro args obs obs' res w X ρ vals n hz hn hi hr hs hv;unfold tzF at hz;split at hz
 ·rename_i x;by_cases hc:0<x/\x<4294967296/\obs=[]
  ·rw[if_pos hc]at hz;obtain⟨h0,h1,rfl⟩:=hc;simp only[Option.some.injEq,Prod.mk.injEq]at hz;obtain⟨rfl,rfl⟩:=hz;have hv0:=hv 0 (.v (.int .u32 x)) (vals.getD 0 undef) rfl (by simp at hs;simp[Array.getD_eq_getD_getElem?,hs]);have e0:vals=#[.int .u32 x]:=by
    simp only[ayL,ayR]at hs;have:=hv0.v_inv.1;apply Array.ext
    ·simpa using hs
    ·intro i h2 h3;have:i=0:=by simp at h3;exact h3
     subst this;simpa [Array.getD_eq_getD_getElem?,hs]using this
   subst e0;obtain⟨m,rfl⟩:∃m:Nat,x=m:=⟨x.toNat,by omega⟩;have key:=Any7.bits_TrailingZeros32 agd m ω w fun _=>hi;have he:(callFunc F.bits_TrailingZeros32 #[.int .u32 (m:Int)]).run Tryz.prog w=.ok (.enter F.bits_TrailingZeros32 #[.int .u32 (m:Int)]) w:=(enters_of (agd.f28) κ rfl:Proofs.Enters Tryz.prog (aji.f 28)) _ _;unfold Enters;rw[he];refine Calls.mono key fun e w' hw=>?_;obtain⟨rfl,rfl⟩:=hw;refine⟨ρ,hr,.refl _ _ _ _,?_⟩;refine .dat ?_;have:Lib.ctz 32 m=Su 32 m:=by
    unfold Lib.ctz;rw[if_neg ω,aaT]
   simp only[this,ayk,mat,dL];exact .v _ rfl
  ·rw[if_neg hc]at hz;cases hz
 ·cases hz
section
variable {H:Type} {enc:TypeId × Value→H} {w:World}
def I2(w:World)(b:Nat):Prop:=b<w.heap.size
def EW(w:World):Prop:=∀o v,w.cell? ⟨0,o,none⟩=some v->∃n,v=.int .u8 n
def EX(u:Value):Prop:=u=u
theorem anG(_:EW w){a:Addr}{u:Value}(h:w.cell? a=some u)(_:EX u):I2 w a.block/\a.spot=none:=by
 have h1:a.spot=none:=by
  unfold World.cell? at h;split at h
  ·split at h
   ·cases h
   ·rename_i hs;simpa using hs
  ·cases h
 refine⟨?_,h1⟩;unfold World.cell? at h;split at h
 ·rename_i hb;exact(Array.getElem?_eq_some_iff.1 hb).1
 ·cases h
def p8(w:World)(fs:List AV)(cs:List Value):Prop:=
 fs.length=cs.length/\∀ (j:Nat) (c:AV) (u:Value),fs[j]?=some c->cs[j]?=some u->RD w (I2 w) c u/\aE c=true/\u.oneCell'=true
theorem p8.app{fa fb:List AV}{ca cb:List Value}(ha:p8 w fa ca)(hb:p8 w fb cb):p8 w (fa++fb) (ca++cb):=by
 refine⟨by simp[ha.1,hb.1],fun j c u h1 h2=>?_⟩;by_cases hj:j<fa.length
 ·rw[List.getElem?_append_left hj]at h1;rw[List.getElem?_append_left (by rw[←ha.1];exact hj)]at h2;exact ha.2 j c u h1 h2
 ·rw[List.getElem?_append_right ω]at h1;rw[List.getElem?_append_right (by rw[←ha.1];omega),←ha.1]at h2;exact hb.2 _ c u h1 h2
theorem p8.one{c:AV}{u:Value}(h:RD w (I2 w) c u)(hd:aE c=true)(h1:u.oneCell'=true):p8 w [c] [u]:=by
 refine⟨rfl,fun j c' u' hc hu=>?_⟩;cases j with
 |zero=>simp at hc hu;subst hc hu;exact⟨h,hd,h1⟩
 |succ j=>simp at hc
noncomputable abbrev Tr (w:World) (enc:TypeId×Value->H) (n:Nat) (t:TypeId) (cs:List Value):Option (DataW H×List MemPlace):=DataW.trod enc Tryz.prog w 0 (fun _=>true) true n t cs
def tp(t:TypeId)(d:DataW H):Prop:=∀m∈DataW.weights Tryz.prog t d,m<=reachBytes
theorem anH{e:TypeId}:∀ {l:List (DataW H)} {d:DataW H} {m:Nat},d∈l->m∈DataW.weights Tryz.prog e d->m∈DataW.weightsAll Tryz.prog e l
 |[],d,m,h,_=>by simp at h
 |a::l,d,m,h,hm=>by
  simp only[DataW.weightsAll,aDh];rcases List.mem_cons.1 h with rfl|h
  ·exact .inl hm
  ·exact .inr (anH h hm)
theorem aaU{α:Type}{p:Nat->α->Prop}:∀ (n:Nat),(∀i,i<n->∃r,p i r)->∃l:List α,l.length=n/\∀ (i:Nat) (r:α),l[i]?=some r->p i r
 |0,_=>⟨[],rfl,fun i r h=>by simp at h⟩
 |n+1,h=>by
  obtain⟨l,h1,h2⟩:=aaU n fun i hi=>h i ω;obtain⟨r,hr⟩:=h n ω;refine⟨l++[r],by simp[h1],fun i r' hi=>?_⟩;by_cases hin:i<n
  ·rw[List.getElem?_append_left ω]at hi;exact h2 i r' hi
  ·rw[List.getElem?_append_right ω]at hi;have:i=n:=by
    have:=(List.getElem?_eq_some_iff.1 hi).1;simp at this;omega
   subst this;simp[h1]at hi;subst hi;exact hr
theorem LI{α:Type}{t e:TypeId}{k bs:Nat}(ht:Tryz.prog.underlying t=some (.slice e))(hk:Tryz.prog.cellsOf e=k)(h0:0<k)(hbs:Tryz.prog.bytesOf e=bs)(F:α->List AV)(Q:α->Prop)(hT:EW w)
  (hrow:∀n cs' x,Tr w enc n e cs'=some x->tp e x.1->∃r,Q r/\p8 w (F r) cs'/\∃u,cs'[0]?=some u/\EX u) {fuel:Nat} {cs:List Value} {x:DataW H×List MemPlace}
  (h:Tr w enc fuel t cs=some x) (hw:tp t x.1):∃ (l:List α) (v:Value),cs=[v]/\(∀r∈l,Q r)/\l.length*bs<=reachBytes/\RD w (I2 w) (.sl k (l.map F)) v/\v.oneCell'=true/\EX v:=by
 rcases open_slice ht h with⟨rfl,_⟩| ⟨a,len,cap,m,n,D,Pl,rfl,hb,hl,hm,hmm,rfl,hx⟩
 ·exact⟨[],_,rfl,fun r hr=>by simp at hr,by simp,.sl k [] none 0 ⟨0,0,none⟩ (fun _ _=>undef) σ (fun h=>absurd rfl h) (fun r hr=>by simp at hr) (fun i r j c hr=>by simp at hr) (fun r hr=>by simp at hr) (fun i r j c hr=>by simp at hr),rfl,rfl⟩
 ·have hlm:len<=m:=by rw[hmm];split<;>omega
  have hwe:∀i,i<len->tp e (D i):=fun i hi q hq=>by
   refine hw q ?_;simp only[DataW.weights,ht,List.mem_cons,aDh];exact .inr (.inl (anH (List.mem_map.2 ⟨i,List.mem_range.2 hi,rfl⟩) hq))
  have hbn:len*bs<=reachBytes:=by
   have:=hw ((((List.range len).map D).length+((List.range (m-len)).map fun j=>D (len+j)).length)*Tryz.prog.bytesOf e) (by simp[DataW.weights,ht]);simp only[List.length_map,List.length_range,hbs]at this;exact ayj (aym _ ω) this
  obtain⟨l,l1,l2⟩:=aaU (p:=fun i r=>Q r/\∃cs',w.cells? 0 (a.add (i*k)) k=some cs'/\p8 w (F r) cs'/\∃u,cs'[0]?=some u/\EX u) len fun i hi=>by
   obtain⟨cs',h1,h2⟩:=hx i ω;obtain⟨r,g1,g2,g3⟩:=hrow _ _ _ h2 (hwe i hi);rw[hk]at h1;exact⟨r,g1,cs',h1,g2,g3⟩
  have cell:∀ (i:Nat) (row:List AV) (j:Nat) (c:AV),(l.map F)[i]?=some row->row[j]?=some c->∃u,w.cell? (a.add (i*k+j))=some u/\RD w (I2 w) c u/\aE c=true:=fun i row j c hi hj=>by
   simp only[List.getElem?_map,aye]at hi;obtain⟨r,hr,rfl⟩:=hi;obtain⟨_,cs',c1,c2,_⟩:=l2 i r hr;obtain⟨_,c3,c4⟩:=World.cells?_some c1;have hjk:j<k:=by
    have:=(List.getElem?_eq_some_iff.1 hj).1;rw[c2.1,c3]at this;exact this
   have:=c4 j hjk;rw[DD]at this;obtain⟨u,hu⟩:∃u,cs'[j]?=some u:=⟨cs'[j]'(by omega),by simp⟩;exact⟨u,by rw[this,hu],(c2.2 j c u hj hu).1,(c2.2 j c u hj hu).2.1⟩
  refine⟨l,_,rfl,fun r hr=>?_,by rw[l1];exact hbn,?_,rfl,rfl⟩
  ·obtain⟨i,hi⟩:=List.getElem?_of_mem hr;exact(l2 i r hi).1
  ·have:=RD.sl (w:=w) (A:=I2 w) k (l.map F) (some a) cap a (fun i j=>(w.cell? (a.add (i*k+j))).getD undef) (by simp[l1,hl]) (fun hne=>?_) (fun row hr=>?_) (fun i row j c hi hj=>?_) (fun row hr c hc=>?_) (fun i row j c hi hj=>?_)
   ·simpa [l1]using this
   ·have hlen:0<l.length:=List.length_pos_iff.2 fun e=>hne (by simp[e]);obtain⟨_,cs',c1,c2,u,c3,c4⟩:=l2 0 l[0] σ;have:=(World.cells?_some c1).2.2 0 h0;rw[c3,Nat.zero_mul,E7,E7]at this;obtain⟨q1,q2⟩:=anG hT this c4;exact⟨rfl,q1,q2⟩
   ·simp only[ay2]at hr;obtain⟨r,hr,rfl⟩:=hr;obtain⟨i,hi⟩:=List.getElem?_of_mem hr;obtain⟨_,cs',c1,c2,_⟩:=l2 i r hi;rw[c2.1];exact(World.cells?_some c1).2.1
   ·obtain⟨u,q1,_⟩:=cell i row j c hi hj;rw[q1];rfl
   ·obtain⟨i,hi⟩:=List.getElem?_of_mem hr;obtain⟨j,hj⟩:=List.getElem?_of_mem hc;obtain⟨u,_,_,q⟩:=cell i row j c hi hj;exact q
   ·obtain⟨u,q1,q2,_⟩:=cell i row j c hi hj;rw[q1];exact q2
theorem aln{n:Nat}{cs:List Value}{x:DataW H×List MemPlace}(h:Tr w enc n 57 cs=some x)(_:tp 57 x.1):∃r:Nat,r<4294967296/\p8 w [U (r:Int)] cs/\∃u,cs[0]?=some u/\EX u:=by
 obtain⟨z,rfl,rfl,hw⟩:=DataW.trod_int Tryz.underlying57 h;simp only[Lit.wf,ayf,decide_eq_true_eq]at hw;have h1:(0:Int)<=z:=hw.1;have h2:z<=4294967295:=hw.2;obtain⟨m,rfl⟩:∃m:Nat,z=m:=⟨z.toNat,by omega⟩;exact⟨m,by omega,.one (.v _ rfl) rfl rfl,_,rfl,rfl⟩
theorem alp{n:Nat}{cs:List Value}{x:DataW H×List MemPlace}(h:Tr w enc n 3 cs=some x)(_:tp 3 x.1):∃r:Int,True/\p8 w [I r] cs/\∃u,cs[0]?=some u/\EX u:=by
 obtain⟨z,rfl,rfl,hw⟩:=DataW.trod_int Tryz.underlying3 h;exact⟨z,trivial,.one (.v _ rfl) rfl rfl,_,rfl,rfl⟩
theorem age(hT:EW w){n:Nat}{cs:List Value}{x:DataW H×List MemPlace}(h:Tr w enc n 28 cs=some x)(hw:tp 28 x.1):∃m:List Nat,(Lb m/\m.length<4611686018427387904)/\p8 w [lm m] cs/\∃u,cs[0]?=some u/\EX u:=by
 obtain⟨l,v,rfl,h1,h2,h3,h4,h5⟩:=LI (k:=1) (bs:=4) Tryz.underlying28 κ δ κ (fun(r:Nat)=>[U (r:Int)]) (fun r=>r<4294967296) hT (fun n cs' x=>aln) h hw;refine⟨l,⟨h1,?_⟩,.one h3 rfl h4,_,rfl,h5⟩;unfold reachBytes at h2;omega
theorem aiI(hT:EW w){n:Nat}{cs:List Value}{x:DataW H×List MemPlace}(h:Tr w enc n 54 cs=some x)(hw:tp 54 x.1):∃m:List Int,True/\p8 w [.sl 1 (aO m)] cs/\∃u,cs[0]?=some u/\EX u:=by
 obtain⟨l,v,rfl,h1,h2,h3,h4,h5⟩:=LI (k:=1) (bs:=8) Tryz.underlying54 κ δ κ (fun(r:Int)=>[I r]) (fun r=>True) hT (fun n cs' x=>alp) h hw;exact⟨l,trivial,.one h3 rfl h4,_,rfl,h5⟩
theorem XY(hT:EW w){n:Nat}{cs:List Value}{x:DataW H×List MemPlace}(h:Tr w enc n 30 cs=some x)(hw:tp 30 x.1):∃d:Rd,Ok0 d/\p8 w (ah d) cs/\∃u,cs[0]?=some u/\EX u:=by
 obtain⟨y0,y1,y2,m,rfl,hl,h0,h1,h2⟩:=trod_struct3 Tryz.underlying30 h;have hl3:cs.length=3:=hl.trans κ
 match cs,hl3 with
 |[a,b,c],_=>
  have k0:Tr w enc m 4 [a]=some y0:=h0;have k1:Tr w enc m 28 [b]=some y1:=h1;have k2:Tr w enc m 3 [c]=some y2:=h2;have w1:tp 28 y1.1:=fun q hq=>hw q (by simp[DataW.weights,DataW.weightsEach,Tryz.underlying30];exact .inr (.inl hq));obtain⟨bb,e0,e1⟩:=DataW.trod_bool Tryz.underlying4 k0;simp only[List.cons.injEq,and_true]at e0;subst e0;obtain⟨l,⟨q1,q2⟩,q3,_⟩:=age hT k1 w1;obtain⟨z,e2,e3,_⟩:=DataW.trod_int Tryz.underlying3 k2;simp only[List.cons.injEq,and_true]at e2;subst e2;exact⟨⟨bb,l,z⟩,⟨q1,q2⟩,(p8.one (.v _ rfl) rfl rfl).app (q3.app (.one (.v _ rfl) rfl rfl)),_,rfl,rfl⟩
theorem aiJ(hT:EW w){n:Nat}{cs:List Value}{x:DataW H×List MemPlace}(h:Tr w enc n 56 cs=some x)(hw:tp 56 x.1):∃d:Rt,Ok0 d.c/\p8 w (bL d) cs/\∃u,cs[0]?=some u/\EX u:=by
 obtain⟨y0,y1,m,rfl,hl,h0,h1⟩:=trod_struct2 Tryz.underlying56 h;have hl3:cs.length=4:=hl.trans κ
 match cs,hl3 with
 |[a,b,c,d],_=>
  have k0:Tr w enc m 54 [a]=some y0:=h0;have k1:Tr w enc m 30 [b,c,d]=some y1:=h1;have w0:tp 54 y0.1:=fun q hq=>hw q (by simp[DataW.weights,DataW.weightsEach,Tryz.underlying56];exact .inl hq);have w1:tp 30 y1.1:=fun q hq=>hw q (by simp[DataW.weights,DataW.weightsEach,Tryz.underlying56];exact .inr hq);obtain⟨l,_,q3,q4⟩:=aiI hT k0 w0;obtain⟨d,d1,d2,_⟩:=XY hT k1 w1;exact⟨⟨l,d⟩,d1,q3.app d2,q4⟩
theorem X1(hT:EW w){n:Nat}{cs:List Value}{x:DataW H×List MemPlace}(h:Tr w enc n 32 cs=some x)(hw:tp 32 x.1):∃d:Ri,OkI d/\p8 w (ap d) cs/\∃u,cs[0]?=some u/\EX u:=by
 obtain⟨y0,y1,y2,m,rfl,hl,h0,h1,h2⟩:=trod_struct3 Tryz.underlying32 h;have hl3:cs.length=7:=hl.trans κ
 match cs,hl3 with
 |[a,b,c,d,e,f,g],_=>
  have k0:Tr w enc m 30 [a,b,c]=some y0:=h0;have k1:Tr w enc m 30 [d,e,f]=some y1:=h1;have k2:Tr w enc m 4 [g]=some y2:=h2;have w0:tp 30 y0.1:=fun q hq=>hw q (by simp[DataW.weights,DataW.weightsEach,Tryz.underlying32];exact .inl hq);have w1:tp 30 y1.1:=fun q hq=>hw q (by simp[DataW.weights,DataW.weightsEach,Tryz.underlying32];exact .inr (.inl hq));obtain⟨d0,p1,p2,p3⟩:=XY hT k0 w0;obtain⟨d1,q1,q2,_⟩:=XY hT k1 w1;obtain⟨bb,e0,e1⟩:=DataW.trod_bool Tryz.underlying4 k2;simp only[List.cons.injEq,and_true]at e0;subst e0;exact⟨⟨d0,d1,bb⟩,⟨p1,q1⟩,p2.app (q2.app (.one (.v _ rfl) rfl rfl)),p3⟩
theorem RH{fs:List AV}{us:Array Value}(rc:p8 w fs us.toList):RD w (I2 w) (.agg fs) (.agg us):=by
 refine .agg _ _ (by have:=rc.1;simpa using this.symm) (fun i u hu=>?_) fun i c u hc hu=>(rc.2 i c u hc (by simpa using hu)).1;have hu':us.toList[i]?=some u:=by simpa using hu
 obtain⟨c,hc⟩:∃c,fs[i]?=some c:=⟨_,List.getElem?_eq_getElem (by rw[rc.1];exact(List.getElem?_eq_some_iff.1 hu').1)⟩;exact(rc.2 i c u hc hu').2.2
theorem az2(hT:EW w){n:Nat}{us:Array Value}{x:DataW H×List MemPlace}(h:Tr w enc n 30 us.toList=some x)(hw:tp 30 x.1):∃d:Rd,Ok0 d/\RD w (I2 w) (ae d) (.agg us):=by
 obtain⟨d,h1,h2,_⟩:=XY hT h hw;exact⟨d,h1,RH h2⟩
theorem agf(hT:EW w){n:Nat}{us:Array Value}{x:DataW H×List MemPlace}(h:Tr w enc n 24 us.toList=some x)(hw:tp 24 x.1):∃s:Rs,OkS s/\RD w (I2 w) (mM s) (.agg us):=by
 obtain⟨y0,y1,y2,m,rfl,hl,h0,h1,h2⟩:=trod_struct3 Tryz.underlying24 h;have hl3:us.toList.length=3:=hl.trans κ;obtain⟨cs⟩:=us;simp only at hl3 h0 h1 h2
 match cs,hl3 with
 |[a,b,c],_=>
  have k0:Tr w enc m 22 [a]=some y0:=h0;have k1:Tr w enc m 3 [b]=some y1:=h1;have k2:Tr w enc m 3 [c]=some y2:=h2;have w0:tp 22 y0.1:=fun q hq=>hw q (by simp[DataW.weights,DataW.weightsEach,Tryz.underlying24];exact .inl hq);obtain⟨z1,e2,e3,_⟩:=DataW.trod_int Tryz.underlying3 k1;obtain⟨z2,e4,e5,_⟩:=DataW.trod_int Tryz.underlying3 k2;simp only[List.cons.injEq,and_true]at e2 e4;subst e2 e4;obtain⟨l,v,e4,q1,q2,q3,q4,q5⟩:=LI (k:=7) (bs:=88) Tryz.underlying22 κ δ κ ap OkI hT (fun n cs' x=>X1 hT) k0 w0;simp only[List.cons.injEq,and_true]at e4;subst e4;exact⟨⟨l,z1,z2⟩,⟨q1,by show l.length<_;unfold reachBytes at q2;omega⟩,RH ((p8.one q3 rfl q4).app ((p8.one (.v _ rfl) rfl rfl).app (.one (.v _ rfl) rfl rfl)))⟩
theorem agh(hT:EW w){n:Nat}{us:Array Value}{x:DataW H×List MemPlace}(h:Tr w enc n 34 us.toList=some x)(hw:tp 34 x.1):∃s:Rm,OkM s/\RD w (I2 w) (fh s) (.agg us):=by
 obtain⟨y0,y1,m,rfl,hl,h0,h1⟩:=trod_struct2 Tryz.underlying34 h;have hl3:us.toList.length=9:=hl.trans κ;obtain⟨cs⟩:=us;simp only at hl3 h0 h1
 match cs,hl3 with
 |[a,b,c1,c2,c3,c4,c5,c6,c7],_=>
  have k0:Tr w enc m 27 [a,b]=some y0:=h0;have k1:Tr w enc m 32 [c1,c2,c3,c4,c5,c6,c7]=some y1:=h1;have w0:tp 27 y0.1:=fun q hq=>hw q (by simp[DataW.weights,DataW.weightsEach,Tryz.underlying34];exact .inl hq);have w1:tp 32 y1.1:=fun q hq=>hw q (by simp[DataW.weights,DataW.weightsEach,Tryz.underlying34];exact .inr hq);obtain⟨d,d1,d2,_⟩:=X1 hT k1 w1;obtain⟨u0,u1,m2,rfl,hl,h0,h1⟩:=trod_struct2 Tryz.underlying27 k0;have k2:Tr w enc m2 3 [a]=some u0:=h0;have k3:Tr w enc m2 25 [b]=some u1:=h1;have w2:tp 25 u1.1:=fun q hq=>w0 q (by simp[DataW.weights,DataW.weightsEach,Tryz.underlying27];exact .inr hq);obtain⟨z,e2,e3,_⟩:=DataW.trod_int Tryz.underlying3 k2;simp only[List.cons.injEq,and_true]at e2;subst e2;obtain⟨l,v,e4,q1,q2,q3,q4,q5⟩:=LI (k:=4) (bs:=64) Tryz.underlying25 κ δ κ bL (fun t=>Ok0 t.c) hT (fun n cs' x=>aiJ hT) k3 w2;simp only[List.cons.injEq,and_true]at e4;subst e4;exact⟨⟨⟨z,l⟩,d⟩,⟨q1,d1,by show l.length<_;unfold reachBytes at q2;omega⟩,RH ((p8.one (.v _ rfl) rfl rfl).app ((p8.one q3 rfl q4).app d2))⟩
end
theorem Ir{args:List AV}{vals:Array Value}(h:vals.size=args.length){i:Nat}{c:AV}(hc:args[i]?=some c):∃u,vals[i]?=some u:=by
 have:i<args.length:=(List.getElem?_eq_some_iff.1 hc).1;exact⟨vals[i]'(by omega),by simp[h,this]⟩
theorem atK{vals:Array Value}{a:Value}(h:vals.size=1)(h0:vals[0]?=some a):vals=#[a]:=by
 apply Array.ext_getElem?;intro i
 match i with
 |0=>simpa using h0
 |i+1=>simp[h]
theorem atL{vals:Array Value}{a b:Value}(h:vals.size=2)(h0:vals[0]?=some a)(h1:vals[1]?=some b):vals=#[a,b]:=by
 apply Array.ext_getElem?;intro i
 match i with
 |0=>simpa using h0
 |1=>simpa using h1
 |i+2=>simp[h]
theorem Td{w:World}{a:Addr}{us:Array Value}{e:TypeId}(h:w.heap[a.block]?=some (.cells us e (0,0))):w.frozen? a=false:=by
 simp[World.frozen?,h]
theorem alr{P:Program}(w:World)(tS tR e:TypeId)(ht:P.underlying tS=some (.slice e))(size:Nat)(hz:∀w,(Go.sizeOf e).run P w=.ok size w)(a:Addr)(b:Option Addr)(la ca cb:Nat):
  (Extern.SlicesOverlaps.overlaps #[tS,tS] #[tR] #[.slice (some a) la ca,.slice b 0 cb]).run P w=.ok (.bool false) w:=by
 change Sem.run P (α:=Value) (do
  let some t:= (#[tS,tS]:Array TypeId)[0]?|stuck "slices.overlaps: no parameter types"
  let .slice elem←underlying t|stuck "slices.overlaps: slice type expected"
  let size←sizeOf elem
  match (some a:Option Addr),b with
  |some a,some b=>
   if la=0\/0=0\/size=0 then pure (Value.bool false)
   else if a.block !=b.block&& (←frozen a)&& (←frozen b)then unsupported .addressObserved
   else do
    if a.block !=b.block then do
     noView a;noView b
     if←mayBeOne a b then return Value.bool ((←choose (.extern "sameAddr.stringBytes" 2))==1)
    pure (Value.bool (a.block==b.block&&a.off<b.off+0*size&&b.off<a.off+la*size))
  |_,_=>pure (Value.bool false)) w=_
 cases b<;>simp[run_underlying ht,hz]
theorem anI{P:Program}(w:World)(tS tR e:TypeId)(ht:P.underlying tS=some (.slice e))(size:Nat)(hz:∀w,(Go.sizeOf e).run P w=.ok size w)
  (a b:Addr) (la ca lb cb:Nat) (hne:a.block≠b.block) (tA:TypeId) (kA:Nat) {us:Array Value} {tB:TypeId}
  (hkA:kA≠0) (hsa:w.shape? a.block=some (tA,kA)) (hb:w.heap[b.block]?=some (.cells us tB (0,0))) (hu:us.size≠0):
  (Extern.SlicesOverlaps.overlaps #[tS,tS] #[tR] #[.slice (some a) la ca,.slice (some b) lb cb]).run P w=.ok (.bool false) w:=by
 have hnb:(a.block !=b.block)=true:=by simpa using hne
 have hnb':(a.block==b.block)=false:=by simpa using hne
 have hsb:w.shape? b.block=some (tB,us.size):=by simp[World.shape?,hb]
 have hfb:w.frozen? b=false:=Td hb;have hfe:w.frozen? {block:=b.block,off:=us.size}=false:=Td (a:=⟨b.block,us.size,none⟩) hb;change Sem.run P (α:=Value) (do
  let some t:= (#[tS,tS]:Array TypeId)[0]?|stuck "slices.overlaps: no parameter types"
  let .slice elem←underlying t|stuck "slices.overlaps: slice type expected"
  let size←sizeOf elem
  match (some a:Option Addr),(some b:Option Addr)with
  |some a,some b=>
   if la=0\/lb=0\/size=0 then pure (Value.bool false)
   else if a.block !=b.block&& (←frozen a)&& (←frozen b)then unsupported .addressObserved
   else do
    if a.block !=b.block then do
     noView a;noView b
     if←mayBeOne a b then return Value.bool ((←choose (.extern "sameAddr.stringBytes" 2))==1)
    pure (Value.bool (a.block==b.block&&a.off<b.off+lb*size&&b.off<a.off+la*size))
  |_,_=>pure (Value.bool false)) w=_
 by_cases h0:la=0\/lb=0\/size=0
 ·simp[run_underlying ht,hz,h0]
 ·obtain⟨n,hn⟩:∃n,us.size=n+1:=⟨us.size-1,by omega⟩;rw[hn]at hsb hfe;obtain⟨kA,rfl⟩:∃k,kA=k+1:=⟨kA-1,by omega⟩;cases hfa:w.frozen? a<;>cases hfa2:w.frozen? {block:=a.block,off:=kA+1}<;>
   simp[run_underlying ht,hz,h0,hnb,hnb',frozen,noView,viewAt,mayBeOne,stringish,shape,Sem.run,hsa,hsb,hfa,hfa2,hfb,hfe]
theorem adg{w:World}{a:Addr}{v:Value}(h:w.cell? a=some v):∃t k,k≠0/\w.shape? a.block=some (t,k):=by
 unfold World.cell? at h;split at h
 ·rename_i cs t fr hb;refine⟨t,cs.size,fun h0=>?_,by unfold World.shape?;rw[hb]⟩;split at h
  ·cases h
  ·have:=(Array.getElem?_eq_some_iff.1 h).1;omega
 ·cases h
theorem anJ{P:Program}{I:Inv}{f:FuncId}{fn:Func}{tS tR e:TypeId}{size:Nat}(hf:P.funcs[f]?=some fn)(hname: (fn.name== "runtime.NumGoroutine")=false)(hb:fn.body.isNone=true)(hn:Extern.findNext fn=none)
  (he:Extern.find fn=some (Extern.SlicesOverlaps.overlaps #[tS,tS] #[tR])) (ht:P.underlying tS=some (.slice e)) (hz:∀w,(Go.sizeOf e).run P w=.ok size w):qh P I false f (Zu 4):=by
 intro args obs obs' res w X ρ vals n hz' hn' hi hr hs hv;unfold Zu at hz';split at hz'
 ·rename_i k0 row rows k1 lo m k2 rows2;split at hz'
  ·rename_i hk;obtain⟨rfl,rfl,rfl⟩:=hk;cases hz';obtain⟨u0,h0⟩:=Ir hs (i:=0) rfl;obtain⟨u1,h1⟩:=Ir hs (i:=1) rfl;have e0:=hv 0 _ _ rfl h0;have e1:=hv 1 _ _ rfl h1;obtain rfl:=atL hs h0 h1;have d0:=e0.sl_inv;obtain⟨a1,cap1,rfl,hp,hn1,hb1,ha1⟩:=e1.rsl_inv;have ho:RO w (aI w X (aq [.ar 4 rows2]) ρ) ρ (aq [.ar 4 rows2]) 1000 (.ar 4 rows2):=hr.ob 1000;obtain⟨us,tB,g1,g2,g3,g4⟩:=ho;have hlive:live (aq [.ar 4 rows2]) 1000 none:=trivial;cases d0 with
   |sl _ _ a cap ad vs hc ha hk hv2 hl hr2=>
    obtain⟨rfl,hA,hsp⟩:=ha σ;have hlen:=hk row σ;obtain⟨c,hrow⟩:∃c,row[0]?=some c:=⟨row[0]'(by omega),by simp⟩;have hcell:=hv2 0 row 0 c rfl hrow;obtain⟨tA,kA,hkA,hsh⟩:=adg hcell;rw[oW]at hsh;have run:(callFunc f #[.slice (some ad) (row::rows).length cap,.slice a1 m cap1]).run P w=.ok (.value (.bool false)) w:=by
     rw[run_callFunc_extern hf hname hb hn he];by_cases hm:m=0
     ·subst hm;rw[alr w tS tR e ht size hz];rfl
     ·rcases ha1 with h|rfl
      ·omega
      ·rw[anI w tS tR e ht size hz ad ⟨(ρ 1000 none).1,lo*4,none⟩ _ cap m cap1 (fun hh=>hA.2.2 ⟨1000,none,hlive,hh.symm⟩) tA kA hkA hsh g1 ω];rfl
    unfold Enters;rw[run];exact⟨ρ,hr,.refl _ _ _ _,.dat (.v _ rfl)⟩
  ·cases hz'
 ·cases hz'
theorem als{P:Program}{I:Inv}(hR:qh P I false F.slices_Insert_api_Term_api_Term_ (R0 F.slices_Insert_api_Term_api_Term_)):qh P I false F.slices_Insert_api_Term_api_Term_ (VJ 4 64):=by
 intro args obs obs' res w X ρ vals n hz hn hi hr hs hv;unfold VJ at hz;split at hz
 ·rename_i k0 r;split at hz
  ·rename_i hk;subst hk;cases hz;exact hR ali hn hi hr hs hv
  ·cases hz
 ·rename_i k1 m i k0 r k2 rows;split at hz
  ·rename_i hk;obtain⟨rfl,rfl,rfl,rfl,hi0,hi1,hb⟩:=hk;cases hz;obtain⟨i,rfl⟩:=aze hi0;rw[ayk];by_cases hend:i=rows.length
   ·subst hend;have:=hR (agb (r:=r) rfl hb) hn hi hr hs hv;rw[ayt (ayd _),ayw (ayd _)];exact this
   ·have hlt:i<rows.length:=ω
    obtain⟨u0,h0⟩:=Ir hs (i:=0) rfl;obtain⟨a,cap,rfl,hp,hn1,hb1,ha⟩:=(hv 0 _ _ rfl h0).rsl_inv;have hv':∀ (j:Nat) (c:AV) (u:Value),[AV.rsc 1000 4 0 rows.length cap,.v (.int .i64 i),.sl 4 [r]][j]?=some c->vals[j]?=some u->RV w (aI w X (aq [.ar 4 rows]) ρ) ρ (aq [.ar 4 rows]) c u:=by
     intro j c u hc hu
     match j,hc with
     |0,hc=>
      cases hc;rw[h0]at hu;cases hu;exact .rsc 1000 4 0 _ cap a hp hn1 hb1 ha
     |j+1,hc=>exact hv (j+1) c u hc hu
    rcases Nat.lt_or_ge rows.length cap with hc|hc
    ·exact hR (alm rfl hlt hc hb) hn hi hr hs hv'
    ·obtain rfl:cap=rows.length:=ω
     refine(hR (alk rfl hlt hb) hn hi hr hs hv').mono fun v w' ⟨ρ',q1,q2,q3⟩=>?_;generalize rows.take i++r::rows.drop i=L at q1 q2 q3⊢;have hd:=Oi q1 (id:=1000) (k:=4) (rows:=rows) (by
      show(if 1000=n then _ else _)=_;rw[if_neg ω];rfl)
     have eq:upd (mat n (aq [.ar 4 rows]) (.osl 4 L)).2 1000 .dead=(mat n (aq [.dead]) (.osl 4 L)).2:=by
      show upd (upd (aq [.ar 4 rows]) n (.ar 4 L)) 1000 .dead=upd (aq [.dead]) n (.ar 4 L);rw[Aq,Aq];funext j;unfold upd;by_cases h1:j=1000
      ·rw[if_pos h1,if_neg ω,if_pos h1]
      ·rw[if_neg h1,if_neg h1,if_neg h1]
     rw[eq]at hd;refine⟨ρ',hd.1,q2.trans (hd.2.far rfl),hd.2.rvk q3 (.inr ?_)⟩;show ji [(1000,false)] n none=false;simp[ji];omega
  ·cases hz
 ·cases hz
theorem Te{w w':World}{X:Nat->Prop}{ρ:ey}(hr:Rel w X ρ (aq []))(hb:Below w.heap.size w w'):Rel w' X ρ (aq [])/\Far false w ρ (aq []) w' ρ (aq []):=by
 have hl:∀id sub,¬live (aq []) id sub:=fun id sub=>by
  have hd:aq [] id=.dead:=by
   unfold aq;split<;>simp
  cases sub with
  |none=>simp[live,hd]
  |some p=>simp[live,hd]
 refine⟨⟨fun id sub _ _ h=>(hl id sub h).elim,fun id sub h=>(hl id sub h).elim,fun id=>?_,fun b hb'=>ay8 (hr.xl b hb') hb.size⟩,hb.os,hb.tape,hb.output,hb.size,fun b h1 _=>hb.block b h1,fun b ⟨id,sub,h,_⟩=>(hl id sub h).elim,fun id _ h=>?_,fun h=>by cases h⟩
 ·have hd:aq [] id=.dead:=by
   unfold aq;split<;>simp
  rw[hd];trivial
 ·exfalso;apply h;unfold aq;split<;>simp
theorem anK{P:Program}{I:Inv}{ρ0:Ren}(L:Lays2.n15 P ρ0)(hf:ρ0.f 15=F.slices_Clone_int_int_)(he:∀a w,(callFunc F.slices_Clone_int_int_ a).run P w=.ok (.enter F.slices_Clone_int_int_ a) w)
  (hR:qh P I false F.slices_Clone_int_int_ (R0 F.slices_Clone_int_int_)):qh P I false F.slices_Clone_int_int_ clF:=by
 intro args obs obs' res w X ρ vals n hz hn hi hr hs hv;unfold clF at hz;split at hz
 ·cases hz;obtain⟨u0,h0⟩:=Ir hs (i:=0) rfl;have d0:=(hv 0 _ _ rfl h0).sl_inv;obtain rfl:=atK hs h0;cases d0 with
  |sl _ _ a cap ad vs hc ha hk hv2 hl hr2=>
   unfold Enters;rw[he];have fin:∀ (w':World) (b:Option Addr) (c:Nat),Below w.heap.size w w'->∃ρ',Rel w' X ρ' (mat n (aq []) (.sl 1 [])).2/\Far false w ρ (aq []) w' ρ' (mat n (aq []) (.sl 1 [])).2/\
     RV w' (aI w' X (mat n (aq []) (.sl 1 [])).2 ρ') ρ' (mat n (aq []) (.sl 1 [])).2 (mat n (aq []) (.sl 1 [])).1 (.slice b 0 c):=fun w' b c hb=>
    ⟨ρ,(Te hr hb).1,(Te hr hb).2,.dat (.sl 1 [] b c ad vs (ayB _) (fun h=>absurd rfl h) (fun _ h=>by cases h) (fun i row j c h=>by simp at h) (fun _ h=>by cases h) (fun i row j c h=>by simp at h))⟩
   cases a with
   |none=>
    have key:=Any.slices_Clone_int_nil L 0 cap w;rw[hf]at key;refine Calls.mono key fun e w' hw=>?_;obtain⟨rfl,rfl⟩:=hw;exact fin _ _ _ (Below.refl _ _)
   |some a0=>
    have key:=Any.slices_Clone_int_zero L a0 cap w;rw[hf]at key;refine Calls.mono key fun e w' hw=>?_;obtain⟨v',rfl,⟨_,hown⟩,_,hb⟩:=hw;rcases hown with⟨rfl,_⟩| ⟨g,c2,I1,rfl,_⟩
    ·exact fin _ _ _ hb
    ·exact fin _ _ _ hb
 ·rename_i r rs;split at hz
  ·rename_i hb;cases hz;exact hR (aiG hb) hn hi hr hs hv
  ·cases hz
 ·cases hz
abbrev TX(f:Nat)(fd:FD):Prop:=Text Go.Proofs.Tryz.prog f fd
theorem tx{f:Nat}{fd:FD}{fn:Func}(h:Go.Proofs.Tryz.prog.funcs[f]?=some fn)(h2: (fn.body.bind fun c=>i8 Go.Proofs.Tryz.prog fn.ntmps c fd.body,Hn Go.Proofs.Tryz.prog fn.results.toList,decide (fn.ntmps<=1000),fn.name== "runtime.NumGoroutine")= (some fd.body,some fd.res,true,false)):TX f fd:=by
 simp only[Prod.mk.injEq,ayb,decide_eq_true_eq]at h2;obtain⟨⟨c,h3,h4⟩,h5,h6,h7⟩:=h2;exact⟨⟨fn,c,_,h,h3,rfl,h6,h4,h5,h7⟩⟩
theorem tn:∀p∈ ([]:List (Nat×FD)),TX p.1 p.2:=fun _ h=>by cases h
theorem tc{f:Nat}{fd:FD}{l:List (Nat×FD)}(h1:TX f fd)(h2:∀p∈l,TX p.1 p.2):∀p∈ (f,fd)::l,TX p.1 p.2:=fun p hp=>by
 rcases List.mem_cons.1 hp with rfl|hp
 ·exact h1
 ·exact h2 p hp
set_option maxRecDepth 100000 in
theorem X3:∀p∈aiW,TX p.1 p.2:=tc (tx func239 κ) (tc (tx func249 κ) (tc (tx func260 κ) (tc (tx func261 κ) (tc (tx func263 κ) (tc (tx func266 κ) (tc (tx func267 κ) (tc (tx func269 κ) (tc (tx func161 κ) (tc (tx func198 κ) (tc (tx func206 κ) (tc (tx func207 κ) (tc (tx func208 κ) (tc (tx func209 κ) (tc (tx func210 κ) (tc (tx func213 κ) (tc (tx func231 κ) (tc (tx func234 κ) (tc (tx func237 κ) (tc (tx func238 κ) (tc (tx func241 κ) (tc (tx func243 κ) (tc (tx func250 κ) (tc (tx func251 κ) (tc (tx func253 κ) (tc (tx func254 κ) (tc (tx func262 κ) (tc (tx func264 κ) (tc (tx func265 κ) (tc (tx func270 κ) (tc (tx func200 κ) (tc (tx func235 κ) (tc (tx func26 κ) (tc (tx func37 κ) (tc (tx func54 κ) (tc (tx func59 κ) (tc (tx func78 κ) (tc (tx func89 κ) (tc (tx func121 κ) (tc (tx func122 κ) (tc (tx func141 κ) (tc (tx func145 κ) (tc (tx func148 κ) (tc (tx func151 κ) (tc (tx func154 κ) (tc (tx func158 κ) (tc (tx func201 κ) (tc (tx func205 κ) (tc (tx func214 κ) (tc (tx func223 κ) (tc (tx func224 κ) (tc (tx func240 κ) (tc (tx func255 κ) (tc (tx func85 κ) (tc (tx func86 κ) (tc (tx func88 κ) (tc (tx func98 κ) (tc (tx func102 κ) (tc (tx func103 κ) (tc (tx func119 κ) (tc (tx func146 κ) (tc (tx func147 κ) (tc (tx func153 κ) (tc (tx func160 κ) (tc (tx func162 κ) (tc (tx func163 κ) (tc (tx func177 κ) (tc (tx func179 κ) (tc (tx func196 κ) (tc (tx func197 κ) (tc (tx func199 κ) (tc (tx func204 κ) (tc (tx func211 κ) (tc (tx func212 κ) (tc (tx func256 κ) (tc (tx func268 κ) (tc (tx func118 κ) (tc (tx func134 κ) (tc (tx func135 κ) (tc (tx func140 κ) (tc (tx func143 κ) (tc (tx func164 κ) (tc (tx func165 κ) (tc (tx func176 κ) (tc (tx func178 κ) (tc (tx func194 κ) (tc (tx func195 κ) (tc (tx func215 κ) (tc (tx func216 κ) (tc (tx func217 κ) (tc (tx func218 κ) (tc (tx func219 κ) (tc (tx func220 κ) (tc (tx func232 κ) (tc (tx func233 κ) (tc (tx func244 κ) (tc (tx func245 κ) (tc (tx func246 κ) (tc (tx func17 κ) (tc (tx func22 κ) (tc (tx func45 κ) (tc (tx func47 κ) (tc (tx func49 κ) (tc (tx func50 κ) (tc (tx func61 κ) (tc (tx func63 κ) (tc (tx func64 κ) (tc (tx func68 κ) (tc (tx func82 κ) (tc (tx func100 κ) (tc (tx func115 κ) (tc (tx func116 κ) (tc (tx func117 κ) (tc (tx func125 κ) (tc (tx func132 κ) (tc (tx func133 κ) (tc (tx func144 κ) (tc (tx func181 κ) (tc (tx func182 κ) (tc (tx func189 κ) (tc (tx func222 κ) (tc (tx func247 κ) (tc (tx func248 κ) (tc (tx func257 κ) (tc (tx func258 κ) (tc (tx func259 κ) (tc (tx func65 κ) (tc (tx func123 κ) (tc (tx func124 κ) (tc (tx func126 κ) (tc (tx func127 κ) (tc (tx func180 κ) (tc (tx func183 κ) (tc (tx func184 κ) (tc (tx func185 κ) (tc (tx func186 κ) (tc (tx func187 κ) (tc (tx func188 κ) (tc (tx func221 κ) (tc (tx func225 κ) (tc (tx func226 κ) (tc (tx func227 κ) (tc (tx func228 κ) (tc (tx func229 κ) (tc (tx func230 κ) (tc (tx func27 κ) (tc (tx func31 κ) (tc (tx func32 κ) (tc (tx func48 κ) (tc (tx func67 κ) (tc (tx func75 κ) (tc (tx func84 κ) (tc (tx func90 κ) (tc (tx func91 κ) (tc (tx func92 κ) (tc (tx func96 κ) (tc (tx func97 κ) (tc (tx func113 κ) (tc (tx func114 κ) (tc (tx func131 κ) (tc (tx func149 κ) (tc (tx func150 κ) (tc (tx func152 κ) (tc (tx func159 κ) (tc (tx func29 κ) (tc (tx func33 κ) (tc (tx func34 κ) (tc (tx func53 κ) (tc (tx func69 κ) (tc (tx func71 κ) (tc (tx func73 κ) (tc (tx func81 κ) (tc (tx func83 κ) (tc (tx func94 κ) (tc (tx func95 κ) (tc (tx func99 κ) (tc (tx func101 κ) (tc (tx func136 κ) (tc (tx func139 κ) (tc (tx func142 κ) (tc (tx func157 κ) (tc (tx func193 κ) (tc (tx func35 κ) (tc (tx func41 κ) (tc (tx func58 κ) (tc (tx func104 κ) (tc (tx func105 κ) (tc (tx func110 κ) (tc (tx func111 κ) (tc (tx func112 κ) (tc (tx func166 κ) (tc (tx func167 κ) (tc (tx func168 κ) (tc (tx func169 κ) (tc (tx func172 κ) (tc (tx func173 κ) (tc (tx func174 κ) (tc (tx func175 κ) (tc (tx func130 κ) (tc (tx func192 κ) (tc (tx func129 κ) (tc (tx func137 κ) (tc (tx func138 κ) (tc (tx func191 κ) (tc (tx func66 κ) (tc (tx func70 κ) (tc (tx func76 κ) (tc (tx func93 κ) (tc (tx func108 κ) (tc (tx func128 κ) (tc (tx func155 κ) (tc (tx func156 κ) (tc (tx func171 κ) (tc (tx func190 κ) (tc (tx func10 κ) (tc (tx func12 κ) (tc (tx func13 κ) (tc (tx func18 κ) (tc (tx func19 κ) (tc (tx func25 κ) (tc (tx func28 κ) (tc (tx func42 κ) (tc (tx func43 κ) (tc (tx func46 κ) (tc (tx func77 κ) (tc (tx func79 κ) (tc (tx func80 κ) (tn)))))))))))))))))))))))))))))))))))))))))))))))))))))))))))))))))))))))))))))))))))))))))))))))))))))))))))))))))))))))))))))))))))))))))))))))))))))))))))))))))))))))))))))))))))))))))))))))))))))))))))))))))))))))))))))))))))
end Go.Ab
