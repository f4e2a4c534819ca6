/-
  A law of models holds at every input that the statement speaks of, under the conditions that its card names. Part G1.
-/
import Derived.Test.YtdhfcpbpdmmphaaGreatDoorProg
import Derived.Shelf.Spec.TrailingZeros
import Derived.Test.YtdhfcpbpdmmphaaGreatDoorRows
import Derived.Deep.Strs
import Derived.ProofKit
import Derived.LaidMore
import Derived.OpenShut
import Derived.Carry
import Derived.Lib.Overlaps
import Derived.Laws.Externs
import Derived.Shelf.Slices.Clone
import Derived.Test.YtdhfcpbpdmmphaaGreatDoorF1
open Nat renaming add_zero → axo, div_add_mod → axS, le_of_ble_eq_true → axJ, le_refl → awQ, le_trans → awX, lt_of_le_of_lt → axF, lt_of_lt_of_le → axX, min_eq_left → axP, mod_lt → axq, mul_assoc → axn, mul_comm → axf, mul_le_mul → aFW, mul_le_mul_right → awZ, pow_add → axa, pow_le_pow_right → axC, pow_succ → axO, reduceMod → axD, reduceSub → axw, two_pow_pos → axb, zero_add → awP, zero_le → axz
open Int renaming eq_ofNat_of_zero_le → ax5, lt_irrefl → axU, natCast_mul → aFX, reduceEq → axt, toNat_natCast → awY
open Bool renaming and_eq_true → awS, and_false → axx, and_self → axm, false_and → awU, false_eq_true → axV, false_ne_true → awW, false_or → axY, not_eq_true' → ax3, not_false → axZ, true_and → awT, true_or → axQ
open List renaming all_cons → axu, append_assoc → axL, append_nil → axe, cons_append → axM, drop_eq_getElem_cons → axh, drop_eq_nil_of_le → axi, drop_zero → ax0, getElem_mem → axr, length_append → axG, length_cons → axE, length_drop → ax2, length_nil → axI, length_replicate → ax1, length_take → axd, map_cons → axp, map_nil → axv, mem_append → ax4, mem_map → axR, nil_append → axc, replicate → awO, take_of_length_le → axg
open Option renaming bind_eq_some_iff → awN, bind_some → awV, map_eq_some_iff → awR, map_some → axH
open Rat renaming intCast_mul → aFn, le_trans → aDM, pow_succ → aDL
set_option linter.all false
namespace Go.Ab
open Go Go.IntWalk Go.Proofs Go.Shelf Go.ChangeShapes Go.WideShapes Go.Deep Go.RowKit Go.Proofs.Tryz
set_option maxRecDepth 100000
set_option maxHeartbeats 8000000
def l8(a b:Rd):Rd×Int:=if(vd a&&vd b)=true then cH (cM (zI a-zI b) (-16384))else(aI,1)
theorem AP(a b:Rd):vd (l8 a b).1=true/\Ok0 (l8 a b).1:=by
 unfold l8;split
 ·exact yj
 ·exact⟨rfl,⟨fun x hx=>(nomatch hx),by decide⟩⟩
theorem ahb{a b:Rd}(vb:vd b=true):l8 a b=iF a (gJ b):=by
 grind[vS,l8,iF,Int.sub_eq_add_neg]
theorem aeF{neg:Bool}{M k:Nat}:zI (bm neg M (-16384+(k:Int)))=bB neg (M*2^k):=by
 by_cases h0:M=0
 ·subst h0;rw[iN,cF rfl,Nat.zero_mul];cases neg<;>rfl
 ·rw[iw h0];obtain⟨t1,t2⟩:=sT h0;unfold zI mg bB;rw[aN];have hk:(-16384+(k:Int)+((tz M:Nat):Int)+16384).toNat=tz M+k:=by omega
  have hm:M/2^tz M*2^ (-16384+(k:Int)+((tz M:Nat):Int)+16384).toNat=M*2^k:=by
   grind
  grind
theorem Wr{neg:Bool}{p:Int}{q:Nat}{e:Int}(h:(AI neg true p q e).2=0):AI neg true p q e=(bm neg q e,0)/\¬ (q≠0/\16384< ((af q:Nat):Int)+e):=by
 unfold AI at h⊢;grind
theorem Zp{neg:Bool}{p:Int}{q q':Nat}{e:Int}(hq:q<=q')(h:¬ (q'≠0/\16384< ((af q':Nat):Int)+e)):AI neg false p q e=(bm neg q e,0):=by
 unfold AI;rw[if_neg];have h1:=yb hq (awQ _);omega
structure NearF (d lo hi:Rd) (q q' r k:Nat):Prop where
 hz:mg d=q*2^k+r
 hr:r<2^k
 hq:q'=if r=0 then q else q+1
 hlo:lo=bm d.neg (if d.neg=true then q' else q) (-16384+(k:Int))
 hhi:hi=bm d.neg (if d.neg=true then q else q') (-16384+(k:Int))
 hw:r≠0->∃t v:Nat,mg d=v*2^t/\t<=k/\k-t<=af v-8/\8<=af v/\af v<=4096/\af v+t<=32768
theorem ahV(d:Rd):zI d=bB d.neg (mg d):=rfl
theorem aeG{d:Rd}(ok:Ok0 d)(v:vd d=true){p:Int}(hp:8<=p/\p<=512)(h0:(bZ d p false).2=0)(h1:(bZ d p true).2=0):∃q q' r k,NearF d (bZ d p false).1 (bZ d p true).1 q q' r k:=by
 have hf:aY p [d]=0:=by
  simp_all[aY,axu,List.all_nil,Bool.and_true,if_true,if_pos]
 have hR:∀up,bZ d p up=DV d.neg (mg d) (-16384) false p up:=fun up=>by
  simp_all[bZ,if_pos,ahV,Oo]
 rw[hR]at h0 h1;rw[hR,hR];unfold DV MM at h0 h1⊢;obtain⟨k,hk⟩:∃k,Js (mg d) (-16384) p=k:=⟨_,rfl⟩;rw[hk]at h0 h1⊢;obtain⟨q',hq'⟩:∃q',q'=if mg d%2^k=0 then mg d/2^k else mg d/2^k+1:=⟨_,rfl⟩
 have hle:mg d/2^k<=q':=by
  grind
 have e1:(if((false||decide (mg d%2^k≠0))&&true)=true then mg d/2^k+1 else mg d/2^k)=q':=by
  grind
 have e2:(if((false||decide (mg d%2^k≠0))&&false)=true then mg d/2^k+1 else mg d/2^k)=mg d/2^k:=by
  grind
 have hw:mg d%2^k≠0->∃t v:Nat,mg d=v*2^t/\t<=k/\k-t<=af v-8/\8<=af v/\af v<=4096/\af v+t<=32768:=by
  intro hr;have hm:d.m.length≠0:=fun h=>hr (by
   have:mg d=0:=by
    unfold mg;rw[List.length_eq_zero_iff.1 h];exact Nat.zero_mul _
   simp_all)
  obtain⟨g1,g2,g3,g4⟩:=wT v hm;obtain⟨b1,b2,b3,b4⟩:=AE g4 (Nat.pos_iff_ne_zero.1 (eL (dh v hm)));have hb:=dq (d.e+16384).toNat (dh v hm);have hmg:mg d=ab d.m*2^ (d.e+16384).toNat:=rfl;rw[←hmg]at hb;unfold Js at hk;have ht:(d.e+16384).toNat<=k:=Nat.le_of_not_lt fun hlt=>hr (by
   rw[hmg,show(d.e+16384).toNat=k+((d.e+16384).toNat-k)by omega,axa,←axn,Nat.mul_right_comm]
   simp_all)
  have hk1:k≠0:=fun h=>hr (by rw[h,Nat.pow_zero,Nat.mod_one]);refine⟨(d.e+16384).toNat,ab d.m,rfl,ht,?_,?_,b1,?_⟩<;>omega
 refine⟨mg d/2^k,q',mg d%2^k,k,?_,axq _ (axb _),hq',?_,?_,hw⟩
 ·grind[axS]
 all_goals
  cases hn:d.neg with
  |false=>
   rw[hn]at h0 h1;simp only[bne_self_eq_false,Bool.false_bne,e1,e2]at h0 h1⊢;obtain⟨k1,k2⟩:=Wr h1
   first
   | (rw[Zp hle k2];rfl)
   | (rw[k1];rfl)
  |true=>
   rw[hn]at h0 h1;simp only[bne_self_eq_false,Bool.bne_false,e1,e2]at h0 h1⊢;obtain⟨k1,k2⟩:=Wr h0
   first
   | (rw[Zp hle k2];rfl)
   | (rw[k1];rfl)
theorem Ws{v t k x:Nat}{n:Bool}(h1:k-t<=af v-8)(h2:8<=af v)(h3:af v<=4096)(h4:af v+t<=32768)(hx:x<=2^ (k-t)):(cH (cM (bB n (x*2^t)) (-16384))).2=0:=by
 have hb:af x<=k-t+1:=bK.2 (axF hx (Nat.pow_lt_pow_right (by decide) (by omega)));rw[←yi,jk,DU (by omega) (by omega) (by omega)]
def abU(lo hi:Rd):Rd:=if hi.m.length=0\/(lo.m.length≠0/\lo.e<hi.e)then hi else lo
def OW(z:Int)(lo hi:Rd):Rd:=if z-zI lo<zI hi-z then lo else if zI hi-z<z-zI lo then hi else abU lo hi
def pT(d:Rd)(p:Int):Rd×Int:=if(bZ d p false).2=0 then(if(bZ d p true).2=0 then(OW (zI d) (bZ d p false).1 (bZ d p true).1,0)else(aI,(bZ d p true).2))else(aI,(bZ d p false).2)
structure NearOk (d lo hi:Rd):Prop where
 below:(l8 d lo).2=0
 above:(l8 hi d).2=0
 tie:zI lo≠zI hi->zI d-zI lo=zI hi-zI d->lo.m.length≠0->hi.m.length≠0->lo.e≠hi.e
 le:zI lo<=zI d/\zI d<=zI hi
theorem R5{neg:Bool}{M:Nat}{e:Int}(h:(bm neg M e).m.length≠0):M≠0/\(bm neg M e).e=e+tz M:=by
 by_cases h0:M=0
 ·subst h0;exact absurd rfl h
 grind[iw]
theorem Zq{q:Nat}(h:q≠0):tz q≠tz (q+1):=by
 have hs:∀ {n:Nat},n≠0->tz n=0->n%2=1:=fun{n} h0 h1=>by
  have:=(sT h0).2;grind
 grind[uA]
theorem ajO{d:Rd}(ok:Ok0 d)(v:vd d=true){p:Int}(hp:8<=p/\p<=512)(h0:(bZ d p false).2=0)(h1:(bZ d p true).2=0):NearOk d (bZ d p false).1 (bZ d p true).1:=by
 obtain⟨q,q',r,k,Fm⟩:=aeG ok v hp h0 h1;have vlo:vd (bZ d p false).1=true:=by
  unfold bZ;split
  ·exact sK.1
  ·rfl
 have vhi:vd (bZ d p true).1=true:=by
  unfold bZ;split
  ·exact sK.1
  ·rfl
 generalize(bZ d p false).1=lo at*
 generalize(bZ d p true).1=hi at*
 have zlo:zI lo=bB d.neg ((if d.neg=true then q' else q)*2^k):=by rw[Fm.hlo,aeF]
 have zhi:zI hi=bB d.neg ((if d.neg=true then q else q')*2^k):=by rw[Fm.hhi,aeF]
 have zd:=ahV d;have hz:=Fm.hz;have hr:=Fm.hr;have hq:=Fm.hq;have hs1:l8 d lo=cH (cM (zI d-zI lo) (-16384)):=by
  simp_all[l8,axm,if_pos]
 have hs2:l8 hi d=cH (cM (zI hi-zI d) (-16384)):=by
  simp_all[l8,axm,if_pos]
 by_cases r0:r=0
 ·rw[if_pos r0]at hq;rw[hq,ite_self,←hq]at zlo zhi;have e0:zI d=zI lo:=by grind
  have e1:zI d=zI hi:=by omega
  have h00:(cH (cM 0 (-16384))).2=0:=by rw[show cM 0 (-16384)=aI from iN];rfl
  refine⟨?_,?_,fun h=>absurd (e0.symm.trans e1) h,by omega⟩
  all_goals grind
 ·rw[if_neg r0]at hq;obtain⟨t,w,w1,w2,w3,w4,w5,w6⟩:=Fm.hw r0;have hp2:(2:Nat)^k=2^ (k-t)*2^t:=by rw[←axa,show k-t+t=k by omega]
  have hrr:r=(w-q*2^ (k-t))*2^t:=by
   grind[Nat.sub_mul,axn]
  obtain⟨x,hx⟩:∃x,w-q*2^ (k-t)=x:=⟨_,rfl⟩;rw[hx]at hrr;have hxl:x<2^ (k-t):=by
   rw[hrr,hp2]at hr;exact Nat.lt_of_mul_lt_mul_right hr
  have f1:∀n,(cH (cM (bB n r) (-16384))).2=0:=fun n=>by
   grind[Ws,Nat.le_of_lt]
  have f2:∀n,(cH (cM (bB n (2^k-r)) (-16384))).2=0:=fun n=>by
   rw[hrr,hp2,←Nat.sub_mul];grind[Ws,Nat.sub_le]
  have hq2:q'*2^k=q*2^k+2^k:=by grind
  have htie:lo.m.length≠0->hi.m.length≠0->lo.e≠hi.e:=by
   intro m1 m2;rw[Fm.hlo]at m1⊢;rw[Fm.hhi]at m2⊢;obtain⟨a1,a2⟩:=R5 m1;obtain⟨b1,b2⟩:=R5 m2;rw[a2,b2];cases hn:d.neg with
   |false=>
    grind[Zq]
   |true=>
    grind[Zq]
  generalize 2^k=K at*
  refine⟨?_,?_,fun _ _=>htie,?_⟩
  ·rw[hs1];cases hn:d.neg with
   |false=>
    rw[hn]at zd zlo;have:zI d-zI lo=bB false r:=by grind[lg]
    grind
   |true=>
    rw[hn]at zd zlo;simp only[if_true,pf]at zd zlo;have:zI d-zI lo=bB false (K-r):=by grind[lg]
    grind
  ·rw[hs2];cases hn:d.neg with
   |false=>
    rw[hn]at zd zhi;have:zI hi-zI d=bB false (K-r):=by grind[lg]
    grind
   |true=>
    rw[hn]at zd zhi;simp only[if_true,pf]at zd zhi;have:zI hi-zI d=bB false r:=by grind[lg]
    grind
  ·cases hn:d.neg with
   |false=>
    rw[hn]at zd zlo zhi;simp only[axV,if_false,lg]at zd zlo zhi;omega
   |true=>
    rw[hn]at zd zlo zhi;simp only[if_true,pf]at zd zlo zhi;omega
theorem Qx{a b:Rd}(oa:Ok0 a)(ob:Ok0 b):R F.dyadic_Sub [ae a,ae b] []=some (rV (l8 a b),[]):=by
 refine ax UV rfl ?_;have v1:=ef oa;have v2:=ef ob;simp only[ae,ah]at v1 v2;unfold l8;cases va:vd a with
 |false=>
  rw[va]at v1;simp only[sB,yX,rV,aI,ae,ah,go_sem,v1]
 |true=>
  rw[va]at v1;cases vb:vd b with
  |false=>
   rw[vb]at v2;simp only[sB,yX,rV,aI,ae,ah,go_sem,v1,v2]
  |true=>
   rw[vb]at v2;obtain⟨z1,z2⟩:=vS vb;have hn:R F.dyadic_Neg [ae b] []=some (ae (gJ b),[]):=Gl ob;have hs:=YE oa (vQ ob) va z2;rw[z1,←Int.sub_eq_add_neg]at hs;simp only[rV,ae,ah]at hn hs;simp only[sB,yX,rV,ae,ah,go_sem,v1,v2,hn,hs]
theorem ajP{d:Rd}{p:Int}{up:Bool}(h:(bZ d p up).2=0):vd d=true/\(8<=p/\p<=512):=by
 unfold bZ at h;by_cases hf:aY p [d]=0
 ·unfold aY at hf;grind
 grind
theorem Zr{a b:Rd}(vb:vd b=true)(h:(l8 a b).2=0):zI (l8 a b).1=zI a-zI b:=by
 grind[ahb,P9,vS,Int.sub_eq_add_neg]
theorem ajQ{d:Rd}(ok:Ok0 d){p:Int}:R F.round_Near [ae d,I p] []=some (rV (pT d p),[]):=by
 refine ax UU rfl ?_;have hd:=Ru ok (p:=p);have hu:=Yq ok (p:=p);unfold pT;by_cases h0:(bZ d p false).2=0
 ·rw[if_pos h0];obtain⟨v,hp⟩:=ajP h0;have vl:=CU (d:=d) (p:=p) (up:=false);have ol:=vP (d:=d) (p:=p) (up:=false);by_cases h1:(bZ d p true).2=0
  ·rw[if_pos h1];have vh:=CU (d:=d) (p:=p) (up:=true);have oh:=vP (d:=d) (p:=p) (up:=true);have hk:=ajO ok v hp h0 h1;generalize bZ d p false=lo at*
   generalize bZ d p true=hi at*
   obtain⟨lo,el⟩:=lo;obtain⟨hi,eh⟩:=hi;have h0':el=0:=h0;have h1':eh=0:=h1;subst h0';subst h1';have s1:=Qx ok ol;have s2:=Qx oh ok;have c:=qG (AP d lo).2 (AP hi d).2;rw[if_pos ⟨(AP d lo).1,(AP hi d).1⟩,Zr vl hk.below,Zr v hk.above]at c;show _=some (rV (OW (zI d) lo hi,0),[]);unfold OW;generalize l8 d lo=x at s1 c;generalize l8 hi d=y at s2 c;simp only[rV,ae,ah]at hd hu s1 s2 c;rcases nG (zI d-zI lo) (zI hi-zI d)with⟨g,e⟩| ⟨g,e⟩| ⟨g,e⟩
   ·rw[e]at c;rw[if_pos g];simp only[ge,jg,rV,ae,ah,go_sem,axt,hd,hu,s1,s2,c]
   ·rw[e]at c;rw[if_neg (by omega),if_neg (by omega)];unfold abU;by_cases m1:hi.m.length=0
    ·have e1:((hi.m.length:Int)=0)=True:=tt;rw[if_pos (.inl m1)];simp only[ge,jg,rV,ae,ah,go_sem,axt,hd,hu,s1,s2,c,e1]
    ·have e1:((hi.m.length:Int)=0)=False:=ff;by_cases m2:lo.m.length=0
     ·have e2:(0< (lo.m.length:Int))=False:=ff;rw[if_neg (by omega)];simp only[ge,jg,rV,ae,ah,go_sem,axt,hd,hu,s1,s2,c,e1,e2]
     ·have e2:(0< (lo.m.length:Int))=True:=tt;by_cases m3:lo.e<hi.e
      ·have e3:(lo.e<hi.e)=True:=eq_true m3;rw[if_pos (.inr ⟨m2,m3⟩)];simp only[ge,jg,rV,ae,ah,go_sem,axt,hd,hu,s1,s2,c,e1,e2,e3]
      ·have e3:(lo.e<hi.e)=False:=eq_false m3;rw[if_neg (by omega)];simp only[ge,jg,rV,ae,ah,go_sem,axt,hd,hu,s1,s2,c,e1,e2,e3]
   ·rw[e]at c;rw[if_neg (by omega),if_pos (by omega)];simp only[ge,jg,rV,ae,ah,go_sem,axt,hd,hu,s1,s2,c]
  ·rw[if_neg h1];generalize bZ d p false=lo at*
   generalize bZ d p true=hi at*
   have e1:(hi.2=0)=False:=eq_false h1;have e0:(lo.2=0)=True:=eq_true h0;simp only[rV,ae,ah]at hd hu;simp only[ge,jg,rV,aI,ae,ah,go_sem,hd,hu,e0,e1]
 ·rw[if_neg h0];generalize bZ d p false=lo at*
  have e0:(lo.2=0)=False:=eq_false h0;simp only[rV,ae,ah]at hd;simp only[ge,jg,rV,aI,ae,ah,go_sem,hd,e0]
theorem M7(d:Rd)(p:Int):vd (pT d p).1=true/\Ok0 (pT d p).1:=by
 unfold pT;split
 ·split
  ·unfold OW abU;grind[CU,vP]
  ·exact aU
 ·exact aU
def ey(x:List Int)(c:Rd)(l:List Rt):List Rt:=if c.m.length=0 then l else⟨x,c⟩::l
def Cg(p:Int):List Rt->Option (List Rt×List Rt)
 |[]=>some ([],[])
 |t::ts=>if(pT t.c p).2=0 then(if(l8 t.c (pT t.c p).1).2=0 then(Cg p ts).map fun q=>(ey t.exps (pT t.c p).1 q.1,ey t.exps (l8 t.c (pT t.c p).1).1 q.2)else none)else none
def eM(a:Rp)(p:Int):(Rp×Rp)×Int:=if vp a=true then(if p<8\/512<p then((p0,p0),2)else match Cg p a.terms with
 |none=>((p0,p0),9)
 |some q=>((⟨a.vars,q.1⟩,⟨a.vars,q.2⟩),0))else((p0,p0),1)
def R6(r:(Rp×Rp)×Int):AV:=.tup [aO r.1.1,aO r.1.2,I r.2]
def Qy(blk:Option (Ex×St))(i1 i2:Nat)(S:ak)(v':Int)(l1 l2:List Rt):Option (List Rt×List Rt)->Prop
 |some q=>Ea blk i1 i2 S v' l1 l2 q.1 q.2
 |none=>∃hh,blk=some (.ret,⟨upd (upd (upd (fun _=>.any) 6 (I 9)) 5 (.ref 5 none 0 0 0)) 4 (.ref 4 none 0 0 0),hh⟩)/\hh 4=.bx [I 0,.emp]/\hh 5=.bx [I 0,.emp]
theorem E8{x:List Int}{c:Rd}{l r:List Rt}:l++ey x c []++r=l++ey x c r:=by
 unfold ey;split
 ·rw[axe]
 ·rw[axL];rfl
theorem Qy.step{blk:Option (Ex×St)}{i1 i2:Nat}{S:ak}{v':Int}{l1 l2:List Rt}{x:List Int}{c d:Rd}:∀ {o:Option (List Rt×List Rt)},Qy blk i1 i2 S v' (l1++ey x c []) (l2++ey x d []) o->Qy blk i1 i2 S v' l1 l2 (o.map fun q=>(ey x c q.1,ey x d q.2)):=by
 intro o h;cases o with
 |none=>exact h
 |some q=>
  obtain⟨hh,c1,c2,h1,h2,h3,h4,h5,h6,h7⟩:=h;exact⟨hh,c1,c2,h1,h2,h3,h4,h5,by rwa[E8]at h6,by rwa[E8]at h7⟩
theorem VT.put{v:Int}{t:Rt}{d:Rd}(h:VT v t)(od:Ok0 d)(vdd:vd d=true)(nd:d.m.length≠0):VT v ⟨t.exps,d⟩:=⟨od,h.len,h.v8,vdd,nd,h.b,h.d⟩
theorem ahc{v v' p:Int}{A:List Rt}(hA:Cl v A)(hn:A.length<=100000){o2:Ob}(k2c:∀ids,aC ids o2=true):
  ∀ (k i:Nat),i+k=A.length->∀ (c1 c2:AV) (l1 l2:List Rt),nj c1 l1->nj c2 l2->Bf v l1 (A.drop i)->Bf v l2 (A.drop i)->l1.length+k<=1000000->l2.length+k<=1000000->∀ (s:ak) (h:ac),s 1=I p->s 4=.ref 4 none 0 0 0->s 5=.ref 5 none 0 0 0->s 7=.ref 2248 none 0 0 0->s 8=.ref 2272 none 0 0 0->s 36=.sl 4 (aH A)->s 37=I A.length->s 38=I i->h 2=o2->h 4=.bx [I 0,.emp]->h 5=.bx [I 0,.emp]->h 2248=t3 v' c1 0->h 2272=t3 v' c2 0->
  Qy (aj 1 [4,5,7,8] (au (ai R (az false) eO) [1,4,5,7,8,36,37,38] [2,4,5,2248,2272] s h)) 2248 2272 (upd (upd (upd (upd (fun _=>.any) 8 (.ref 2272 none 0 0 0)) 7 (.ref 2248 none 0 0 0)) 5 (.ref 5 none 0 0 0)) 4 (.ref 4 none 0 0 0)) v' l1 l2 (Cg p (A.drop i)):=by
 intro k;induction k with
 |zero=>
  intro i hi c1 c2 l1 l2 hc1 hc2 _ _ _ _ s h g1 g4 g5 g7 g8 g36 g37 g38 k2 k4 k5 k2248 k2272;have e1:((i:Int)< (A.length:Int))=False:=ff;have ho1:=(jn (v:=v') (e:=0) hc1).cl [2,4,5,2248,2272];have ho2:=(jn (v:=v') (e:=0) hc2).cl [2,4,5,2248,2272];have ho3:=k2c [2,4,5,2248,2272];rw[axi (by omega),ag];refine⟨?hh0,c1,c2,?_,?_,?_,?_,?_,by grind,by grind⟩;rotate_left
  ·simp only[eO,go_sem,g1,g4,g5,g7,g8,g36,g37,g38,k2,k4,k5,k2248,k2272,ho1,ho2,ho3,e1];rfl
  ·rfl
  ·rfl
  ·rfl
  ·rfl
 |succ k ih=>
  intro i hi c1 c2 l1 l2 hc1 hc2 b1 b2 hl1 hl2 s h g1 g4 g5 g7 g8 g36 g37 g38 k2 k4 k5 k2248 k2272;have hlt:i<A.length:=by omega
  have e1:((i:Int)< (A.length:Int))=True:=tt;have e2:aW (aH A) (i:Int)=some (.ipt (bD A[i])):=eZ rfl (List.getElem?_eq_getElem hlt);have e5:IntKind.i64.wrap ((i:Int)+1)=((i+1:Nat):Int):=wi;have ho1:=(jn (v:=v') (e:=0) hc1).cl [2,4,5,2248,2272];have ho2:=(jn (v:=v') (e:=0) hc2).cl [2,4,5,2248,2272];have ho3:=k2c [2,4,5,2248,2272];have hAd:=hA.dropN i;rw[axh hlt]at b1 b2 hAd⊢;have ih':=ih (i+1) (by omega);have vt:=hAd.head;have hrow:∀q ts,Cg p (q::ts)=if(pT q.c p).2=0 then(if(l8 q.c (pT q.c p).1).2=0 then(Cg p ts).map fun x=>(ey q.exps (pT q.c p).1 x.1,ey q.exps (l8 q.c (pT q.c p).1).1 x.2)else none)else none:=fun q ts=>rfl
  rw[hrow];generalize A[i]=t at e2 vt b1 b2 hAd⊢;have hnr:=ajQ vt.c (p:=p);obtain⟨vm,om⟩:=M7 t.c p;rw[ag];generalize au _ _ _=L at ih'⊢;generalize pT t.c p=m at hnr vm om⊢;obtain⟨m,em⟩:=m;have hsb:=Qx vt.c om;obtain⟨vq,oq⟩:=AP t.c m;simp only at hsb vq oq;generalize l8 t.c m=q at hsb vq oq⊢;obtain⟨q,eq⟩:=q;simp only[bD]at e2;simp only[rV,ae,ah]at hnr hsb;by_cases hm:em=0
  ·subst hm;rw[if_pos rfl];by_cases hq:eq=0
   ·subst hq;rw[if_pos rfl];refine Qy.step ?_;simp only at vm om vq oq;by_cases zm:m.m.length=0
    ·have f1:(0< (m.m.length:Int))=False:=ff;have x1:l1++ey t.exps m []=l1:=by simp_all[ey,if_pos,axe]
     simp only[x1];by_cases zq:q.m.length=0
     ·have f2:(0< (q.m.length:Int))=False:=ff;have x2:l2++ey t.exps q []=l2:=by simp_all[ey,if_pos,axe]
      simp only[x2];have ih2:=ih' c1 c2 l1 l2 hc1 hc2 b1.drop b2.drop (by omega) (by omega);simp only[eO,go_sem,g1,g4,g5,g7,g8,g36,g37,g38,k2,k4,k5,k2248,k2272,ho1,ho2,ho3,e1,e2,hnr,hsb,f1,f2,e5];refine ih2 _ _ ?_ ?_ ?_ ?_ ?_ ?_ ?_ ?_ ?_ ?_ ?_ ?_ ?_
      all_goals first|rfl|assumption
     ·have f2:(0< (q.m.length:Int))=True:=tt;have x2:l2++ey t.exps q []=l2++[⟨t.exps,q⟩]:=by simp_all[ey,if_neg]
      simp only[x2];obtain⟨c4,s3,s4⟩:=D9 (v':=v') b2 (vt.put oq vq zq) (by omega) hc2;have hcall2:=fun(h:ac) (hh:h 2272=t3 v' c2 0) (d:Nat)=>dF (aD6.1.2.1 false) rfl (pj (d:=d) hh hc2 s4 s3);have ih2:=ih' c1 c4 l1 _ hc1 s4 b1.drop (b2.push hAd (vt.put oq vq zq)) (by omega) (by grind);simp only[ae,ah]at hcall2;simp only[eO,go_sem,g1,g4,g5,g7,g8,g36,g37,g38,k2,k4,k5,k2248,k2272,ho1,ho2,ho3,e1,e2,hnr,hsb,f1,f2];rw[hcall2 _ rfl];simp only[go_sem,e5];refine ih2 _ _ ?_ ?_ ?_ ?_ ?_ ?_ ?_ ?_ ?_ ?_ ?_ ?_ ?_
      all_goals first|rfl|assumption
    ·have f1:(0< (m.m.length:Int))=True:=tt;have x1:l1++ey t.exps m []=l1++[⟨t.exps,m⟩]:=by simp_all[ey,if_neg]
     simp only[x1];obtain⟨c3,s1,s2⟩:=D9 (v':=v') b1 (vt.put om vm zm) (by omega) hc1;have hcall:=fun(h:ac) (hh:h 2248=t3 v' c1 0) (d:Nat)=>dF (aD6.1.2.1 false) rfl (pj (d:=d) hh hc1 s2 s1);have bp1:=b1.push hAd (vt.put om vm zm);have lp1:(l1++[(⟨t.exps,m⟩:Rt)]).length+k<=1000000:=by grind
     simp only[ae,ah]at hcall;by_cases zq:q.m.length=0
     ·have f2:(0< (q.m.length:Int))=False:=ff;have x2:l2++ey t.exps q []=l2:=by simp_all[ey,if_pos,axe]
      simp only[x2];have ih2:=ih' c3 c2 _ l2 s2 hc2 bp1 b2.drop lp1 (by omega);simp only[eO,go_sem,g1,g4,g5,g7,g8,g36,g37,g38,k2,k4,k5,k2248,k2272,ho1,ho2,ho3,e1,e2,hnr,hsb,f1];rw[hcall _ rfl];simp only[go_sem,f2,e5];refine ih2 _ _ ?_ ?_ ?_ ?_ ?_ ?_ ?_ ?_ ?_ ?_ ?_ ?_ ?_
      all_goals first|rfl|assumption
     ·have f2:(0< (q.m.length:Int))=True:=tt;have x2:l2++ey t.exps q []=l2++[⟨t.exps,q⟩]:=by unfold ey;rw[if_neg zq]
      simp only[x2];obtain⟨c4,s3,s4⟩:=D9 (v':=v') b2 (vt.put oq vq zq) (by omega) hc2;have hcall2:=fun(h:ac) (hh:h 2272=t3 v' c2 0) (d:Nat)=>dF (aD6.1.2.1 false) rfl (pj (d:=d) hh hc2 s4 s3);have ih2:=ih' c3 c4 _ _ s2 s4 bp1 (b2.push hAd (vt.put oq vq zq)) lp1 (by grind);simp only[ae,ah]at hcall2;simp only[eO,go_sem,g1,g4,g5,g7,g8,g36,g37,g38,k2,k4,k5,k2248,k2272,ho1,ho2,ho3,e1,e2,hnr,hsb,f1];rw[hcall _ rfl];simp only[go_sem,f2];rw[hcall2 _ rfl];simp only[go_sem,e5];refine ih2 _ _ ?_ ?_ ?_ ?_ ?_ ?_ ?_ ?_ ?_ ?_ ?_ ?_ ?_
      all_goals first|rfl|assumption
   ·rw[if_neg hq];have f1:(eq=0)=False:=ff hq;refine⟨?hh1,?_,?_,?_⟩;rotate_left
    ·simp only[eO,go_sem,g1,g4,g5,g7,g8,g36,g37,g38,k2,k4,k5,k2248,k2272,ho1,ho2,ho3,e1,e2,hnr,hsb,f1];rfl
    ·rfl
    ·rfl
  ·rw[if_neg hm];have f1:(em=0)=False:=ff hm;refine⟨?hh2,?_,?_,?_⟩;rotate_left
   ·simp only[eO,go_sem,g1,g4,g5,g7,g8,g36,g37,g38,k2,k4,k5,k2248,k2272,ho1,ho2,ho3,e1,e2,hnr,f1];rfl
   ·rfl
   ·rfl
theorem aoz{v v' p:Int}{A:List Rt}(hA:Cl v A)(hn:A.length<=100000){o2:Ob}(k2c:∀ids,aC ids o2=true)(s:ak)(h:ac)(X:Option (Ex×St))(hX:aj 1 [4,5,7,8] (au (ai R (az false) eO) [1,4,5,7,8,36,37,38] [2,4,5,2248,2272] s h)=X)
  (g1:s 1=I p) (g4:s 4=.ref 4 none 0 0 0) (g5:s 5=.ref 5 none 0 0 0) (g7:s 7=.ref 2248 none 0 0 0) (g8:s 8=.ref 2272 none 0 0 0) (g36:s 36=.sl 4 (aH A)) (g37:s 37=I A.length) (g38:s 38=I 0) (k2:h 2=o2) (k4:h 4=.bx [I 0,.emp]) (k5:h 5=.bx [I 0,.emp]) (k2248:h 2248=t3 v' .emp 0) (k2272:h 2272=t3 v' .emp 0):
  Qy X 2248 2272 (upd (upd (upd (upd (fun _=>.any) 8 (.ref 2272 none 0 0 0)) 7 (.ref 2248 none 0 0 0)) 5 (.ref 5 none 0 0 0)) 4 (.ref 4 none 0 0 0)) v' [] [] (Cg p A):=by
 subst hX;exact ahc hA hn k2c A.length 0 (awP _) .emp .emp [] [] (.inr ⟨rfl,rfl⟩) (.inr ⟨rfl,rfl⟩) (Bf.nil _) (Bf.nil _) (by grind) (by grind) s h g1 g4 g5 g7 g8 g36 g37 g38 k2 k4 k5 k2248 k2272
theorem R7{a:Rp}{p:Int}(oa:OkP a):R F.poly_Round [aO a,I p] []=some (R6 (eM a p),[]):=by
 refine ax UN rfl ?_;have v1:=qO oa;simp only[aO]at v1;unfold eM;cases va:vp a with
 |false=>
  rw[va]at v1;simp only[nR,ui,aO,go_sem,v1];rfl
 |true=>
  rw[va]at v1;rw[if_pos rfl];by_cases h8:p<8
  ·have e0:(p<8)=True:=eq_true h8;simp only[nR,ui,aO,go_sem,v1,e0];rfl
  ·have e0:(p<8)=False:=eq_false h8;by_cases h9:512<p
   ·have e3:(512<p)=True:=eq_true h9;simp only[nR,ui,aO,go_sem,v1,e0,e3];rfl
   ·have e3:(512<p)=False:=eq_false h9;rw[if_neg (by omega)];obtain⟨ka,a0,a8,al⟩:=il oa va;have hemp:=AN (v:=a.vars);have hl:=aoz (v:=a.vars) (v':=a.vars) (p:=p) ka (by omega) (o2:=.bx [I a.vars,.sl 4 (aH a.terms)]) (fun _=>rfl);simp only[nR,ui,aO,go_sem,v1,e0,e3,hemp,qR];generalize hX:aj 1 _ _=X;have hM:=hl _ _ _ hX rfl rfl rfl rfl rfl rfl rfl rfl rfl rfl rfl rfl rfl;cases hr:Cg p a.terms with
    |none=>
     rw[hr]at hM;obtain⟨hh,rfl,q4,q5⟩:=hM;simp only[R6,p0,aO,go_sem,q4,q5];rfl
    |some q=>
     rw[hr]at hM;obtain⟨hh,c1,c2,rfl,q4,q5,q1,q2,i1,i2⟩:=hM;obtain⟨r1,r2⟩:=q;simp only[t3]at q1 q2;rcases i1 with rfl| ⟨rfl,rfl⟩
     ·rcases i2 with rfl| ⟨rfl,rfl⟩
      ·simp only[R6,aO,go_sem,axw,axD,q4,q5,q1,q2,uL,yp,axp,axv,zK,xQ]
      ·simp only[R6,aO,go_sem,axw,axD,q4,q5,q1,q2,uL,yp,axp,axv,zK,xQ,AO];rfl
     ·rcases i2 with rfl| ⟨rfl,rfl⟩
      ·simp only[R6,aO,go_sem,axw,axD,q4,q5,q1,q2,uL,yp,axp,axv,zK,xQ,AO];rfl
      ·simp only[R6,aO,go_sem,axw,axD,q4,q5,q1,q2,uL,yp,axp,axv,zK,AO];rfl
def M8(blk:Option (Ex×St))(i1 i2:Nat)(S:ak)(v':Int)(l1 l2 r1 r2:List Rt):Prop:=
 ∃hh c1 c2,blk=some (.normal,⟨S,hh⟩)/\hh 4=.bx [I 0,.emp]/\hh 5=.bx [I 0,.emp]/\hh i1=.bx [I v',c1]/\hh i2=.bx [I v',c2]/\nj c1 (l1++r1)/\nj c2 (l2++r2)
theorem M8.p1{blk:Option (Ex×St)}{i1 i2:Nat}{S:ak}{v':Int}{l1 l2 r1 r2:List Rt}{t:Rt}(h:M8 blk i1 i2 S v' (l1++[t]) l2 r1 r2):M8 blk i1 i2 S v' l1 l2 (t::r1) r2:=by
 obtain⟨hh,c1,c2,h1,h2,h3,h4,h5,h6,h7⟩:=h;exact⟨hh,c1,c2,h1,h2,h3,h4,h5,by rwa[List.append_cons],h7⟩
theorem M8.p2{blk:Option (Ex×St)}{i1 i2:Nat}{S:ak}{v':Int}{l1 l2 r1 r2:List Rt}{t:Rt}(h:M8 blk i1 i2 S v' l1 (l2++[t]) r1 r2):M8 blk i1 i2 S v' l1 l2 r1 (t::r2):=by
 obtain⟨hh,c1,c2,h1,h2,h3,h4,h5,h6,h7⟩:=h;exact⟨hh,c1,c2,h1,h2,h3,h4,h5,h6,by rwa[List.append_cons]⟩
def ahd(blk:Option (Ex×St))(i1 i2:Nat)(S:ak)(v':Int)(l1 l2:List Rt):Option (List Rt×List Rt)->Prop
 |some q=>M8 blk i1 i2 S v' l1 l2 q.1 q.2
 |none=>∃hh,blk=some (.ret,⟨upd (upd (upd (fun _=>.any) 6 (I 9)) 5 (.ref 5 none 0 0 0)) 4 (.ref 4 none 0 0 0),hh⟩)/\hh 4=.bx [I 0,.emp]/\hh 5=.bx [I 0,.emp]
theorem ahd.step{blk:Option (Ex×St)}{i1 i2:Nat}{S:ak}{v':Int}{l1 l2:List Rt}{x:List Int}{c d:Rd}:∀ {o:Option (List Rt×List Rt)},ahd blk i1 i2 S v' (l1++ey x c []) (l2++ey x d []) o->ahd blk i1 i2 S v' l1 l2 (o.map fun q=>(ey x c q.1,ey x d q.2)):=by
 intro o h;cases o with
 |none=>exact h
 |some q=>
  obtain⟨hh,c1,c2,h1,h2,h3,h4,h5,h6,h7⟩:=h;exact⟨hh,c1,c2,h1,h2,h3,h4,h5,by rwa[E8]at h6,by rwa[E8]at h7⟩
theorem Cl.filter{v:Int}{l:List Rt}(h:Cl v l)(p:Rt->Bool):Cl v (l.filter p):=⟨fun t ht=>h.t t (List.mem_filter.1 ht).1,h.s.filter p⟩
theorem JW{a:Rp}{o:Int}(oa:OkP a):(Cl (cP a o).1.vars (cP a o).1.terms/\(cP a o).1.terms.length<=100000)/\(Cl (cP a o).2.vars (cP a o).2.terms/\(cP a o).2.terms.length<=100000):=by
 unfold cP;cases va:vp a with
 |false=>
  rw[if_neg awW];exact⟨⟨Cl.nil _,by decide⟩,⟨Cl.nil _,by decide⟩⟩
 |true=>
  obtain⟨ka,a0,a8,al⟩:=il oa va;exact⟨⟨ka.filter _,by grind⟩,⟨ka.filter _,by grind⟩⟩
theorem Zs{v p:Int}:∀ {ts:List Rt} {q:List Rt×List Rt},Cl v ts->Cg p ts=some q->(Cl v q.1/\q.1.length<=ts.length/\∀y∈q.1,∃t∈ts,y.exps=t.exps)/\(Cl v q.2/\q.2.length<=ts.length/\∀y∈q.2,∃t∈ts,y.exps=t.exps)
 |[],q,_,h=>by
  cases h;grind
 |t::ts,q,c,h=>by
  obtain⟨vt,ht,c2⟩:=c.cons;unfold Cg at h;split at h
  ·split at h
   ·rw[awR]at h;obtain⟨q2,h2,rfl⟩:=h;obtain⟨⟨k1,k2,k3⟩,⟨k4,k5,k6⟩⟩:=Zs c2 h2;have key:∀ {d:Rd} {l:List Rt},vd d=true->Ok0 d->Cl v l->l.length<=ts.length->(∀y∈l,∃t∈ts,y.exps=t.exps)->Cl v (ey t.exps d l)/\(ey t.exps d l).length<=(t::ts).length/\∀y∈ey t.exps d l,∃q∈t::ts,y.exps=q.exps:=by
     intro d l vdd od cl hl hy;unfold ey;split
     ·refine⟨cl,by simp;omega,fun y h=>?_⟩;obtain⟨q,hq,he⟩:=hy y h;exact⟨q,by simp[hq],he⟩
     ·rename_i h0;refine⟨Cl.mk' (vt.put od vdd h0) (fun y h=>?_) cl,by simp;omega,fun y h=>?_⟩
      ·obtain⟨q,hq,he⟩:=hy y h;rw[he];exact ht q hq
      ·rcases List.mem_cons.1 h with rfl|h
       ·exact⟨t,by simp,rfl⟩
       ·obtain⟨q,hq,he⟩:=hy y h;exact⟨q,by simp[hq],he⟩
    exact⟨key (M7 _ _).1 (M7 _ _).2 k1 k2 k3,key (AP _ _).1 (AP _ _).2 k4 k5 k6⟩
   ·cases h
  ·cases h
theorem JX{a:Rp}{p:Int}(oa:OkP a):Res ((eM a p).1.1,(eM a p).2)/\Res ((eM a p).1.2,(eM a p).2):=by
 have h0:∀e,Res (p0,e):=fun e=>⟨Cl.nil _,axz _,.inr rfl⟩;unfold eM;cases va:vp a with
 |false=>
  grind
 |true=>
  rw[if_pos rfl];split
  ·grind
  ·obtain⟨ka,a0,a8,al⟩:=il oa va;cases hr:Cg p a.terms with
   |none=>grind
   |some q=>
    obtain⟨⟨k1,k2,_⟩,⟨k3,k4,_⟩⟩:=Zs ka hr;exact⟨⟨k1,by grind,.inl rfl⟩,⟨k3,by grind,.inl rfl⟩⟩
abbrev R8(l:List Rm):List (List AV):=l.map fun m=>OV m
theorem aoA{s:Rs}{m:Rm}(os:OkS s)(om:OkM m):R F.model_every_1 [kO m,.ref 1000 none 0 0 0] [.bx (Ed s)]=some (B (!uN s m),[.bx (Ed s)]):=by
 refine D3 N7 N6 (BA false) rfl ?_;have h:=aeE os om;generalize uN s m=b at h⊢;simp only[xB,EG,go_sem,h];exact rO rfl rfl rfl rfl rfl
theorem amc(l:List (List AV)):l.map (dK [])=l:=qN fun x _=>Un x
theorem amd:Src F.slices_ContainsFunc_api_Model_api_Model_ F.slices_IndexFunc_api_Model_api_Model_ 9 true [.o 0 [],.o 5 [],.o 0 [],.o 2 [],.o 0 [],.o 0 [],.o 2 [],.o 0 [],.o 0 []]:=
 ⟨bT.2.1,bT.2.2,bT.1.2.2.2 false,bT.1.2.1 false,bT.1.2.2.2 false,bT.1.1 false,
  aX.2.1,aX.2.2,aX.1.2.2.2 false⟩
theorem ajR(m:Rm):dK [.o 0 [],.o 5 [],.o 0 [],.o 2 [],.o 0 [],.o 0 [],.o 2 [],.o 0 [],.o 0 []] (OV m)=OV m:=by
 simp only[go_sem,amc]
theorem KS(l:List Rm):(R8 l).map (dK [.o 0 [],.o 5 [],.o 0 [],.o 2 [],.o 0 [],.o 0 [],.o 2 [],.o 0 [],.o 0 []])=R8 l:=by
 refine qN fun x hx=>?_;obtain⟨t,ht,rfl⟩:=List.mem_map.1 hx;exact ajR t
def Ef(s:Rs)(l:List Rm):Bool:=mr s&&!(l.any fun m=>!uN s m)
theorem M9{s:Rs}{l:List Rm}(os:OkS s)(om:∀m∈l,OkM m)(hl:l.length<4611686018427387904):R F.model_every [uM s,.sl 9 (R8 l)] []=some (B (Ef s l),[]):=by
 refine ax SK rfl ?_;have h1:=Cf os.d os.n;unfold Ef;cases g1:mr s with
 |false=>
  rw[g1]at h1;simp only[uV,BU,go_sem,h1,awU]
 |true=>
 rw[g1]at h1;have hc:=KD amd (Frow:=fun m=>OV m) (l:=l) (q:=fun m=>!uN s m) (KQ s) (ES false) (BA false) hl (KS _) fun m hm=>⟨kO m,kO m,rfl,rfl,rfl,by rw[Ml];simp only[go_sem,Ee],aoA os (om m hm)⟩;generalize(l.any fun m=>!uN s m)=b at hc⊢;have hcc:=fun(h:ac) (d:Nat) (hh:h 2=.bx (Ed s)) (hf:h (2000+8*d)=.dead)=>D4 (f:=F.slices_ContainsFunc_api_Model_api_Model_) (g:=F.model_every_1) (h:=h) (d:=d) (id:=2) (zas:=[.sl 9 (R8 l)]) (as':=[.sl 9 (R8 l)]) (aX.1.2.1 false) (aX.1.2.2.2 false)
  (by rw[aX.1.1];simp only[go_sem,KS,axM,axc]) rfl rfl hh (KQ _) (KQ _) (fun h=>h) hc (V0 _) (axJ rfl) (by simp[cw,cz,hf,bS])
 simp only[axM,axc,go_sem]at hcc;simp only[uV,BU,go_sem,h1];rw[hcc _ _ rfl rfl];simp only[go_sem]
def fm(s:Rs):Rm:=⟨⟨s.dom.length,[]⟩,dN⟩
theorem GC{s:Rs}:R F.model_none [uM s] []=some (kO (fm s),[]):=by
 refine ax UG rfl ?_;have h:=lC;simp only[am,ao,dN,aI]at h;simp only[BV,IY,fm,dN,aI,axv,go_sem,h];rfl
noncomputable def JY (a:Rp) (dom:List Ri) (p:Int):Ri:=open Classical in if h:∃z,R F.bound_Best [aO a,.sl 7 (bL dom),I p] []=some (am z,[])/\OkI z/\vi z=true then Classical.choose h else dN
theorem KT{a:Rp}{dom:List Ri}{p:Int}(oa:OkP a)(od:∀x∈dom,OkI x)(h2:dom.length<=100000):R F.bound_Best [aO a,.sl 7 (bL dom),I p] []=some (am (JY a dom p),[])/\OkI (JY a dom p)/\vi (JY a dom p)=true:=by
 have h:∃z,R F.bound_Best [aO a,.sl 7 (bL dom),I p] []=some (am z,[])/\OkI z/\vi z=true:=by
  obtain⟨b,hB,hbr,hbn⟩:=Wp oa od h2 (p:=p);cases hq:(ni a dom&&bJ p)with
  |false=>
   have hb:=hbn hq;subst hb;refine⟨_,M6 oa od h2 (p:=p) (b:=dN) MR.ok' (fun _=>hB),?_⟩;unfold HH;rw[hq];exact⟨MR.ok',rfl⟩
  |true=>
   have hq2:=hq;rw[awS]at hq2;obtain⟨hv,hl,hk⟩:=OU od hq2.1;have i2:=hbr _ _ (KR dom);obtain⟨m1,m2⟩:=HE (JP (p:=p) oa (tP.inL hk (KR dom))) i2;refine⟨_,M6 oa od h2 (p:=p) (b:=b) i2.ok (fun _=>hB),?_⟩;unfold HH;rw[if_pos hq,if_pos m1];exact⟨m2.ok,m2.v⟩
 unfold JY;rw[dif_pos h];exact Classical.choose_spec h
noncomputable def dH (a:Rp) (dom:List Ri) (p:Int):Ri:=if a.terms.length=0 then bU else JY a dom p
theorem qK{a:Rp}{dom:List Ri}{p:Int}(oa:OkP a)(od:∀x∈dom,OkI x)(h2:dom.length<=100000):OkI (dH a dom p)/\vi (dH a dom p)=true:=by
 unfold dH;split
 ·exact⟨⟨aU.2,aU.2⟩,by have v:=aU.1;unfold bU;grind[vi]⟩
 ·exact(KT oa od h2).2
theorem BJ{a:Rp}{dom:List Ri}{p:Int}(oa:OkP a)(od:∀x∈dom,OkI x)(h2:dom.length<=100000):R F.model_ranged [aO a,.sl 7 (bL dom),I p] []=some (am (dH a dom p),[]):=by
 refine ax Pz rfl ?_;have h1:=R4;have h3:=(KT oa od h2 (p:=p)).1;unfold dH;generalize JY a dom p=z at h3⊢;simp only[aO,am,ao]at h1 h3;by_cases g:a.terms.length=0
 ·have f:((a.terms.length:Int)=0)=True:=tt;rw[if_pos g];simp only[tw,Ah,aO,am,ao,go_sem,h1,f]
 ·have f:((a.terms.length:Int)=0)=False:=ff;rw[if_neg g];simp only[tw,Ah,aO,am,ao,go_sem,h3,f]
noncomputable def wF (s:Rs) (q:Rp):(Rp×Ri)×Bool:=
 if(eM (cP q s.ord).1 s.p).2=0 then((⟨s.dom.length,(eM (cP q s.ord).1 s.p).1.1.terms⟩,cW (dH (cP q s.ord).2 s.dom s.p) (dH (eM (cP q s.ord).1 s.p).1.2 s.dom s.p) s.p),true)
 else(((eM (cP q s.ord).1 s.p).1.1,bU),false)
theorem ajS{s:Rs}{q:Rp}(os:OkS s)(oq:OkP q)(h2:s.dom.length<=100000):R F.model_cut [uM s,aO q] []=some (.tup [aO (wF s q).1.1,am (wF s q).1.2,B (wF s q).2],[]):=by
 refine ax Xt rfl ?_;have h1:=RR (o:=s.ord) oq;obtain⟨⟨c1,_⟩,c2,_⟩:=JW (o:=s.ord) oq;unfold wF;generalize cP q s.ord=sp at h1 c1 c2⊢;have h3:=R7 (p:=s.p) (jR c1);obtain⟨r1,r2⟩:=JX (p:=s.p) (jR c1);generalize eM sp.1 s.p=r at h3 r1 r2⊢;have h4:=BJ (p:=s.p) (jR c2) os.d h2;have h5:=BJ (p:=s.p) (jR r2.cl) os.d h2;have k4:=qK (p:=s.p) (jR c2) os.d h2;have k5:=qK (p:=s.p) (jR r2.cl) os.d h2;generalize dH sp.2 s.dom s.p=x at h4 k4⊢;simp only at h5 k5;generalize dH r.1.2 s.dom s.p=y at h5 k5⊢;have h6:=vM k4.1 k5.1 (p:=s.p);generalize cW x y s.p=z at h6⊢;simp only[Wf,R6,aO,am,ao]at h1 h3 h4 h5 h6;by_cases g:r.2=0
 ·have f:(r.2=0)=True:=eq_true g;rw[if_pos g];simp only[yU,Fu,aO,am,ao,go_sem,h1,h3,h4,h5,h6,f]
 ·have f:(r.2=0)=False:=eq_false g;rw[if_neg g];simp only[yU,Fu,aO,am,ao,bU,aI,go_sem,h1,h3,f]
noncomputable def gr (s:Rs) (q:Rp) (e:Int) (r:Ri):Rm:=if e=0 then(if(wF s q).2=true then⟨(wF s q).1.1,cW r (wF s q).1.2 s.p⟩else fm s)else fm s
theorem ajT{s:Rs}{q:Rp}:OkI (wF s q).1.2:=by
 unfold wF;split
 ·exact s6
 ·exact⟨aU.2,aU.2⟩
theorem Na{s:Rs}{q:Rp}{e:Int}{r:Ri}(os:OkS s)(oq:OkP q)(or:OkI r)(h2:s.dom.length<=100000):R F.model_made [uM s,aO q,I e,am r] []=some (kO (gr s q e r),[]):=by
 refine ax UH rfl ?_;have h1:=GC (s:=s);have h3:=ajS os oq h2;have h4:=vM or (ajT (s:=s) (q:=q)) (p:=s.p);unfold gr;generalize wF s q=c at h3 h4⊢;generalize cW r c.1.2 s.p=z at h4⊢;simp only[aO,am,ao]at h3 h4;by_cases g:e=0
 ·have f:(e=0)=True:=eq_true g;rw[if_pos g];cases g2:c.2 with
  |true=>
   rw[g2]at h3;rw[if_pos rfl];simp only[sn,yN,aO,am,ao,go_sem,h3,h4,f]
  |false=>
   rw[g2]at h3;rw[if_neg awW];generalize fm s=n at h1⊢;simp only[sn,yN,aO,am,ao,go_sem,h1,h3,f]
 ·have f:(e=0)=False:=eq_false g;rw[if_neg g];generalize fm s=n at h1⊢;simp only[sn,yN,aO,am,ao,go_sem,h1,f]
theorem ame:R F.r02_Int [I 0] []=some (ae aI,[]):=Qs (n:=60) κ
theorem amf:R F.r02_Int [I 1] []=some (ae one,[]):=Qs (n:=60) κ
theorem ahe:R F.r02_Int [I (-1)] []=some (ae tp,[]):=Qs (n:=60) κ
theorem ahW:R F.l25_n [I 0] []=some (am bU,[]):=by
 refine ax aip rfl ?_;have h1:=ame;have h2:=iD aU.2 aU.1;simp only[am,ao,ae,ah,aI]at h1 h2;simp only[L6,X7,am,ao,bU,aI,go_sem,h1,h2]
theorem Zt:R F.r25_Unit [] []=some (am lh,[]):=by
 refine ax aaW rfl ?_;have h1:=ahe;have h2:=amf;simp only[ae,ah,tp,one]at h1 h2;simp only[Ft,NN,am,ao,lh,tp,one,go_sem,h1,h2]
theorem amg{d:Rd}{p:Int}(od:Ok0 d)(hl:d.m.length<=100000):R F.r03_Is [ae d,I p] []=some (B (zZ d p),[]):=by
 refine ax afJ rfl ?_;have h1:=agh (p:=p);have h2:=EY od;have h3:=age od.lb hl;unfold zZ;simp only[ae,ah]at h2;cases g1:bJ p with
 |false=>
  rw[g1]at h1;simp only[Bu,G7,ae,ah,go_sem,h1,awU]
 |true=>
 rw[g1]at h1;cases g2:vd d with
 |false=>
  rw[g2]at h2;simp only[Bu,G7,ae,ah,go_sem,h1,h2,awU,axx]
 |true=>
 rw[g2]at h2;simp only[Bu,G7,ae,ah,go_sem,h1,h2,h3,awT]
theorem amh{x y:Ri}(h:vi x=false\/x.all=true)(hy:y.all=false):lF x y=false:=by
 grind[lF]
theorem ajU{s:Rs}(os:OkS s)(hl:s.dom.length<=100000):∀ (rest:List Ri) (n:Nat),s.dom.drop n=rest->n<=s.dom.length->∀ (S:ak) (h:ac),S 1=.ref 1 none 0 0 0->S 3=I n->h 1=.bx (Ed s)->
  ∃hh,aj 0 [] (au (ai R (az false) gp) [1,3] [1] S h)=if(rest.any fun x=>!lF x lh)=true then some (.ret,⟨upd (fun _=>.any) 2 (B false),hh⟩)else some (.normal,⟨fun _=>.any,hh⟩):=by
 intro rest;induction rest with
 |nil=>
  intro n hd hn S h h1 h3 k1;have e:n=s.dom.length:=by
   have:=congrArg List.length hd;grind
  subst e;rw[ag];refine⟨?hh0,?_⟩;rotate_left
  ·simp only[gp,go_sem,h1,h3,k1,axU];rfl
 |cons x rest ih=>
  intro n hd hn S h h1 h3 k1;have hlt:n<s.dom.length:=by
   grind
  have hr:s.dom[n]?=some x:=by
   have:=congrArg (·[0]?) hd;grind
  have ih':=ih (n+1) (by rw[←List.drop_drop,hd];rfl) hlt;have e1:((n:Int)< (s.dom.length:Int))=True:=tt;have e2:aW (bL s.dom) (n:Int)=some (.ipt (ao x)):=CR rfl hr;have e3:IntKind.i64.wrap ((n:Int)+1)=((n+1:Nat):Int):=by grind[i64_in]
  have ox:=os.d x (List.mem_of_getElem? hr);have v1:=EZ ox;have v2:=Zt;have v3:=abT ox KP.1;have hk:=amh (x:=x) (y:=lh);rw[List.any_cons,ag];generalize lF x lh=bi at v3 hk⊢;simp only[am,ao,lh,tp,one]at e2 v1 v2 v3;cases g1:vi x with
  |false=>
   rw[g1]at v1;rw[hk (Or.inl g1) rfl];refine⟨?hh1,?_⟩;rotate_left
   ·simp only[gp,go_sem,h1,h3,k1,e1,e2,v1];rfl
  |true=>
  rw[g1]at v1;cases g2:x.all with
  |true=>
   rw[hk (Or.inr g2) rfl];rw[g2]at v1 e2;refine⟨?hh2,?_⟩;rotate_left
   ·simp only[gp,go_sem,h1,h3,k1,e1,e2,v1];rfl
  |false=>
  rw[g2]at v1 e2 v3;cases bi with
  |false=>
   refine⟨?hh3,?_⟩;rotate_left
   ·simp only[gp,go_sem,h1,h3,k1,e1,e2,v1,v2,v3];rfl
  |true=>
   simp only[gp,go_sem,h1,h3,k1,e1,e2,e3,v1,v2,v3];exact ih' _ _ rfl rfl rfl
theorem ahf{s:Rs}(os:OkS s):R F.r25_Space [uM s] []=some (B (mr s),[]):=by
 refine ax Xm rfl ?_;have hp:=agi (p:=s.p);unfold mr;by_cases g1:(s.dom.length:Int)<1
 ·have f1:((s.dom.length:Int)<1)=True:=eq_true g1;rw[decide_eq_false (p:=1<=s.dom.length) (by omega),awU];simp only[kG,pu,go_sem,f1]
 have f1:((s.dom.length:Int)<1)=False:=eq_false g1;rw[decide_eq_true (p:=1<=s.dom.length) (by omega),awT];by_cases g2:8< (s.dom.length:Int)
 ·have f2:(8< (s.dom.length:Int))=True:=eq_true g2;rw[decide_eq_false (p:=s.dom.length<=8) (by omega),awU];simp only[kG,pu,go_sem,f1,f2]
 have f2:(8< (s.dom.length:Int))=False:=eq_false g2;rw[decide_eq_true (p:=s.dom.length<=8) (by omega),awT];by_cases g3:s.ord<1
 ·have f3:(s.ord<1)=True:=eq_true g3;rw[decide_eq_false (p:=1<=s.ord) (by omega),awU];simp only[kG,pu,go_sem,f1,f2,f3]
 have f3:(s.ord<1)=False:=eq_false g3;rw[decide_eq_true (p:=1<=s.ord) (by omega),awT];by_cases g4:16<s.ord
 ·have f4:(16<s.ord)=True:=eq_true g4;rw[decide_eq_false (p:=s.ord<=16) (by omega),awU];simp only[kG,pu,go_sem,f1,f2,f3,f4]
 have f4:(16<s.ord)=False:=eq_false g4;rw[decide_eq_true (p:=s.ord<=16) (by omega),awT];cases g5:bJ s.p with
 |false=>
  rw[g5]at hp;simp only[kG,pu,go_sem,f1,f2,f3,f4,hp,awU]
 |true=>
 rw[g5]at hp;have hL:=ajU os (by omega) s.dom 0 rfl (axz _);generalize hLL:au (ai R (az false) gp) [1,3] [1]=L at hL;have hXL:∀s h,ai R (az false) (.loop [1,3] [1] gp) s h=L s h:=fun s h=>by rw[←hLL];rfl
 clear hLL;rw[awT];generalize(s.dom.any fun x=>!lF x lh)=b at hL⊢;have hL2:∀ (S:ak) (h:ac) (X:Option (Ex×St)),aj 0 [] (L S h)=X->S 1=.ref 1 none 0 0 0->S 3=I 0->h 1=.bx (Ed s)->∃hh,X=if b=true then some (.ret,⟨upd (fun _=>.any) 2 (B false),hh⟩)else some (.normal,⟨fun _=>.any,hh⟩):=fun S h X hX k1 k2 k3=>by
  rw[←hX];exact hL S h k1 k2 k3
 simp only[kG,pu,go_sem,f1,f2,f3,f4,hp,hXL];generalize hX2:aj 0 [] (L _ _)=X;obtain⟨hh,g0⟩:=hL2 _ _ _ hX2 rfl rfl rfl;rw[g0];cases b with
 |true=>
  rw[if_pos rfl];simp only[go_sem]
 |false=>
  rw[if_neg awW];simp only[go_sem]
theorem ajV{s:Rs}{m:Rm}(hc:∀t∈m.P.terms,Ok0 t.c/\t.c.m.length<=100000)(hl:m.P.terms.length<=100000):∀ (rest:List Rt) (n:Nat),m.P.terms.drop n=rest->n<=m.P.terms.length->∀ (S:ak) (h:ac),S 2=.ref 2 none 0 0 0->S 3=.ref 3 none 0 0 0->S 5=I n->h 2=.bx (Ed s)->h 3=.bx (OV m)->
  ∃hh,aj 0 [] (au (ai R (az false) j6) [2,3,5] [2,3] S h)=if(rest.any fun t=>!zZ t.c s.p)=true then some (.ret,⟨upd (fun _=>.any) 4 (B false),hh⟩)else some (.normal,⟨fun _=>.any,hh⟩):=by
 intro rest;induction rest with
 |nil=>
  intro n hd hn S h h2 h3 h5 k2 k3;have e:n=m.P.terms.length:=by
   have:=congrArg List.length hd;grind
  subst e;rw[ag];refine⟨?hh0,?_⟩;rotate_left
  ·rw[List.any_nil,if_neg awW];simp only[j6,go_sem,h2,h3,h5,k2,k3,axU];rfl
 |cons x rest ih=>
  intro n hd hn S h h2 h3 h5 k2 k3;have hlt:n<m.P.terms.length:=by
   grind
  have hr:m.P.terms[n]?=some x:=by
   have:=congrArg (·[0]?) hd;grind
  have ih':=ih (n+1) (by rw[←List.drop_drop,hd];rfl) hlt;have e1:((n:Int)< (m.P.terms.length:Int))=True:=tt;have e2:aW (aH m.P.terms) (n:Int)=some (.ipt (bD x)):=eZ rfl hr;have e3:IntKind.i64.wrap ((n:Int)+1)=((n+1:Nat):Int):=by grind[i64_in]
  obtain⟨ox,lx⟩:=hc x (List.mem_of_getElem? hr);have v1:=amg (p:=s.p) ox lx;rw[ag];generalize au _ _ _=L at ih'⊢;simp only[bD]at e2;simp only[ae,ah]at v1;rw[List.any_cons];cases g1:zZ x.c s.p with
  |false=>
   rw[g1]at v1;refine⟨?hh1,?_⟩;rotate_left
   ·rw[axZ,axQ,if_pos rfl];simp only[j6,go_sem,h2,h3,h5,k2,k3,e1,e2,v1];rfl
  |true=>
   rw[g1]at v1;simp only[Bool.not_true,axY];simp only[j6,go_sem,h2,h3,h5,k2,k3,e1,e2,e3,v1];exact ih' _ _ rfl rfl rfl rfl rfl
theorem R9{s:Rs}{m:Rm}(os:OkS s)(om:OkM m)(hm:∀t∈m.P.terms,t.c.m.length<=100000):R F.r25_Valid [uM s,kO m] []=some (B (uN s m),[]):=by
 refine ax Xl rfl ?_;have h1:=ahf os;have h2:=LM om.c;have h4:=EZ om.r;unfold uN;simp only[aO,am,ao]at h2 h4;cases g1:mr s with
 |false=>
  rw[g1]at h1;simp only[kF,pt,go_sem,h1,awU]
 |true=>
 rw[g1]at h1;cases g2:vp m.P with
 |false=>
  rw[g2]at h2;simp only[kF,pt,go_sem,h1,h2,awU,axx]
 |true=>
 rw[g2]at h2;by_cases g3:m.P.vars=(s.dom.length:Int)
 case neg=>
  have f3:(m.P.vars=(s.dom.length:Int))=False:=eq_false g3;simp only[kF,pt,go_sem,h1,h2,f3,awU,axx]
 have f3:(m.P.vars=(s.dom.length:Int))=True:=eq_true g3;have op:=Wq om.c g2;have h3:=XG op;simp only[aO]at h3;by_cases g4:s.ord<ej m.P
 case pos=>
  have f4:(s.ord<ej m.P)=True:=eq_true g4;have f4':(ej m.P<=s.ord)=False:=ff;simp only[kF,pt,go_sem,h1,h2,h3,f3,f4,f4',awU,axx]
 have f4:(s.ord<ej m.P)=False:=eq_false g4;have f4':(ej m.P<=s.ord)=True:=tt;cases g5:vi m.R with
 |false=>
  rw[g5]at h4;simp only[kF,pt,go_sem,h1,h2,h3,h4,f3,f4,f4',awU,axx]
 |true=>
 rw[g5]at h4;have hL:=ajV (s:=s) (m:=m) (fun t ht=>⟨om.c t ht,hm t ht⟩) (by have:=(il op g2).2.2.2;omega) m.P.terms 0 rfl (axz _);generalize hLL:au (ai R (az false) j6) [2,3,5] [2,3]=L at hL;have hXL:∀s h,ai R (az false) (.loop [2,3,5] [2,3] j6) s h=L s h:=fun s h=>by rw[←hLL];rfl
 clear hLL;generalize(m.P.terms.any fun t=>!zZ t.c s.p)=b at hL⊢;have hL2:∀ (S:ak) (h:ac) (X:Option (Ex×St)),aj 0 [] (L S h)=X->S 2=.ref 2 none 0 0 0->S 3=.ref 3 none 0 0 0->S 5=I 0->h 2=.bx (Ed s)->h 3=.bx (OV m)->∃hh,X=if b=true then some (.ret,⟨upd (fun _=>.any) 4 (B false),hh⟩)else some (.normal,⟨fun _=>.any,hh⟩):=fun S h X hX k1 k2 k3 k4 k5=>by
  rw[←hX];exact hL S h k1 k2 k3 k4 k5
 simp only[kF,pt,go_sem,h1,h2,h3,h4,f3,f4,f4',hXL];generalize hX2:aj 0 [] (L _ _)=X;obtain⟨hh,g0⟩:=hL2 _ _ _ hX2 rfl rfl rfl rfl rfl;rw[g0];cases b with
 |true=>
  rw[if_pos rfl];simp only[go_sem]
 |false=>
  rw[if_neg awW];simp only[go_sem]
theorem aeH{s:Rs}{a b:Rm}(os:OkS s)(oa:OkM a)(ob:OkM b)(ha:∀t∈a.P.terms,t.c.m.length<=100000)(hb:∀t∈b.P.terms,t.c.m.length<=100000):R F.l25_pair [uM s,kO a,kO b] []=some (B (uN s a&&uN s b),[]):=by
 refine ax aaQ rfl ?_;have h1:=R9 os oa ha;have h2:=R9 os ob hb;cases g:uN s a with
 |false=>
  rw[g]at h1;simp only[aDD,G1,go_sem,h1,awU]
 |true=>
  rw[g]at h1;simp only[aDD,G1,go_sem,h1,h2,awT]
theorem Sa{x:Ri}(h:vi x=true):lF x x=true:=by
 unfold lF;cases ha:x.all with
 |true=>simp[h]
 |false=>simp[h]
theorem E9{s:Rs}{a:Rp}(oa:OkP a)(os:OkS s)(h2:s.dom.length<=100000):R F.l25_span [uM s,aO a] []=some (am (dH a s.dom s.p),[]):=by
 refine ax aaR rfl ?_;have h1:=ahW;have h3:=(KT oa os.d h2 (p:=s.p)).1;unfold dH;generalize JY a s.dom s.p=z at h3⊢;simp only[aO,am,ao]at h1 h3;by_cases g:a.terms.length=0
 ·have f:((a.terms.length:Int)=0)=True:=tt;rw[if_pos g];simp only[aDx,G3,aO,am,ao,go_sem,h1,f]
 ·have f:((a.terms.length:Int)=0)=False:=ff;rw[if_neg g];simp only[aDx,G3,aO,am,ao,go_sem,h3,f]
def nv(p:Int):Ri->List Ri->Ri
 |x,[]=>x
 |x,y::l=>nv p (cW x y p) l
theorem Qz{p:Int}:∀ {l:List Ri} {x:Ri},OkI x->OkI (nv p x l)
 |[],_,h=>h
 |y::l,x,_=>(Qz (l:=l) s6:OkI (nv p (cW x y p) l))
theorem aeI{s:Rs}{l:List Ri}(ol:∀x∈l,OkI x)(hl:l.length<=100000):∀ (rest:List Ri) (n:Nat) (x:Ri),OkI x->l.drop n=rest->n<=l.length->∀ (S:ak) (h:ac),S 3=.ref 3 none 0 0 0->S 4=.ref 4 none 0 0 0->S 6=.ref 6 none 0 0 0->S 9=.sl 7 (bL l)->S 10=I l.length->S 11=I n->h 3=.bx (Ed s)->h 4=.bx (ao x)->h 6=.bx [B false,.emp,I 0,B false,.emp,I 0,B false]->
  ∃hh,aj 0 [4,6] (au (ai R (az false) pY) [3,4,6,9,10,11] [3,4,6] S h)=some (.normal,⟨upd (upd (fun _=>.any) 6 (.ref 6 none 0 0 0)) 4 (.ref 4 none 0 0 0),hh⟩)/\hh 4=.bx (ao (nv s.p x rest))/\hh 6=.bx [B false,.emp,I 0,B false,.emp,I 0,B false]:=by
 intro rest;induction rest with
 |nil=>
  intro n x ox hd hn S h h3 h4 h6 h9 h10 h11 k3 k4 k6;have e:n=l.length:=by
   have:=congrArg List.length hd;grind
  subst e;rw[ag];simp only[ao]at k4;refine⟨?hh0,?_,?_,?_⟩;rotate_left
  ·simp only[pY,go_sem,h3,h4,h6,h9,h10,h11,k3,k4,k6,axU];rfl
  ·rfl
  ·rfl
 |cons y rest ih=>
  intro n x ox hd hn S h h3 h4 h6 h9 h10 h11 k3 k4 k6;have hlt:n<l.length:=by
   grind
  have hr:l[n]?=some y:=by
   have:=congrArg (·[0]?) hd;grind
  have ih':=ih (n+1) (cW x y s.p) s6 (by rw[←List.drop_drop,hd];rfl) hlt;have e1:((n:Int)< (l.length:Int))=True:=tt;have e2:aW (bL l) (n:Int)=some (.ipt (ao y)):=CR rfl hr;have e3:IntKind.i64.wrap ((n:Int)+1)=((n+1:Nat):Int):=by grind[i64_in]
  have v1:=vM ox (ol y (List.mem_of_getElem? hr)) (p:=s.p);rw[ag];rw[show nv s.p x (y::rest)=nv s.p (cW x y s.p) rest from rfl];generalize au _ _ _=L at ih'⊢;generalize cW x y s.p=z at v1 ih'⊢;simp only[ao]at e2 k4;simp only[am,ao]at v1;simp only[pY,go_sem,h3,h4,h6,h9,h10,h11,k3,k4,k6,e1,e2,e3,v1];exact ih' _ _ rfl rfl rfl rfl rfl rfl rfl rfl rfl
theorem HI{s:Rs}{l:List Ri}{x:Ri}(ox:OkI x)(ol:∀x∈l,OkI x)(hl:l.length<=100000):R F.l25_sum [uM s,am x,.sl 7 (bL l)] []=some (am (nv s.p x l),[]):=by
 refine ax acL rfl ?_;have hL:=aeI (s:=s) ol hl l 0 x ox rfl (axz _);generalize hLL:au (ai R (az false) pY) [3,4,6,9,10,11] [3,4,6]=L at hL;have hXL:∀s h,ai R (az false) (.loop [3,4,6,9,10,11] [3,4,6] pY) s h=L s h:=fun s h=>by rw[←hLL];rfl
 clear hLL;generalize nv s.p x l=z at hL⊢;have hL2:∀ (S:ak) (h:ac) (X:Option (Ex×St)),aj 0 [4,6] (L S h)=X->S 3=.ref 3 none 0 0 0->S 4=.ref 4 none 0 0 0->S 6=.ref 6 none 0 0 0->S 9=.sl 7 (bL l)->S 10=I l.length->S 11=I 0->h 3=.bx (Ed s)->h 4=.bx (ao x)->h 6=.bx [B false,.emp,I 0,B false,.emp,I 0,B false]->
   ∃hh,X=some (.normal,⟨upd (upd (fun _=>.any) 6 (.ref 6 none 0 0 0)) 4 (.ref 4 none 0 0 0),hh⟩)/\hh 4=.bx (ao z)/\hh 6=.bx [B false,.emp,I 0,B false,.emp,I 0,B false]:=fun S h X hX a b c d e f g i j=>by
  rw[←hX];exact hL S h a b c d e f g i j
 simp only[G2,Rb,am,ao,go_sem,hXL];generalize hX2:aj 0 [4,6] (L _ _)=X;obtain⟨hh,g0,g4,g6⟩:=hL2 _ _ _ hX2 rfl rfl rfl rfl rfl rfl rfl rfl rfl;rw[g0];simp only[ao]at g4;simp only[go_sem,g4,g6]
theorem aeJ{p:Int}{l:List Ri}(ol:∀x∈l,OkI x)(hl:l.length<=100000):∀ (rest:List Ri) (n:Nat) (x:Ri),OkI x->l.drop n=rest->n<=l.length->∀ (S:ak) (h:ac),S 0=I p->S 4=.ref 4 none 0 0 0->S 6=.ref 6 none 0 0 0->S 9=.sl 7 (bL l)->S 10=I l.length->S 11=I n->h 4=.bx (ao x)->h 6=.bx [B false,.emp,I 0,B false,.emp,I 0,B false]->
  ∃hh,aj 0 [4,6] (au (ai R (az false) mA) [0,4,6,9,10,11] [4,6] S h)=some (.normal,⟨upd (upd (fun _=>.any) 6 (.ref 6 none 0 0 0)) 4 (.ref 4 none 0 0 0),hh⟩)/\hh 4=.bx (ao (nv p x rest))/\hh 6=.bx [B false,.emp,I 0,B false,.emp,I 0,B false]:=by
 intro rest;induction rest with
 |nil=>
  intro n x ox hd hn S h h0 h4 h6 h9 h10 h11 k4 k6;have e:n=l.length:=by
   have:=congrArg List.length hd;grind
  subst e;rw[ag];simp only[ao]at k4;refine⟨?hh0,?_,?_,?_⟩;rotate_left
  ·simp only[mA,go_sem,h0,h4,h6,h9,h10,h11,k4,k6,axU];rfl
  ·rfl
  ·rfl
 |cons y rest ih=>
  intro n x ox hd hn S h h0 h4 h6 h9 h10 h11 k4 k6;have hlt:n<l.length:=by
   grind
  have hr:l[n]?=some y:=by
   have:=congrArg (·[0]?) hd;grind
  have ih':=ih (n+1) (cW x y p) s6 (by rw[←List.drop_drop,hd];rfl) hlt;have e1:((n:Int)< (l.length:Int))=True:=tt;have e2:aW (bL l) (n:Int)=some (.ipt (ao y)):=CR rfl hr;have e3:IntKind.i64.wrap ((n:Int)+1)=((n+1:Nat):Int):=by grind[i64_in]
  have v1:=vM ox (ol y (List.mem_of_getElem? hr)) (p:=p);rw[ag];rw[show nv p x (y::rest)=nv p (cW x y p) rest from rfl];generalize au _ _ _=L at ih'⊢;generalize cW x y p=z at v1 ih'⊢;simp only[ao]at e2 k4;simp only[am,ao]at v1;simp only[mA,go_sem,h0,h4,h6,h9,h10,h11,k4,k6,e1,e2,e3,v1];exact ih' _ _ rfl rfl rfl rfl rfl rfl rfl rfl
theorem ajW{p:Int}{l:List Ri}{x:Ri}(ox:OkI x)(ol:∀x∈l,OkI x)(hl:l.length<=100000):R F.model_sum [I p,am x,.sl 7 (bL l)] []=some (am (nv p x l),[]):=by
 refine ax Xp rfl ?_;have hL:=aeJ (p:=p) ol hl l 0 x ox rfl (axz _);generalize hLL:au (ai R (az false) mA) [0,4,6,9,10,11] [4,6]=L at hL;have hXL:∀s h,ai R (az false) (.loop [0,4,6,9,10,11] [4,6] mA) s h=L s h:=fun s h=>by rw[←hLL];rfl
 clear hLL;generalize nv p x l=z at hL⊢;have hL2:∀ (S:ak) (h:ac) (X:Option (Ex×St)),aj 0 [4,6] (L S h)=X->S 0=I p->S 4=.ref 4 none 0 0 0->S 6=.ref 6 none 0 0 0->S 9=.sl 7 (bL l)->S 10=I l.length->S 11=I 0->h 4=.bx (ao x)->h 6=.bx [B false,.emp,I 0,B false,.emp,I 0,B false]->
   ∃hh,X=some (.normal,⟨upd (upd (fun _=>.any) 6 (.ref 6 none 0 0 0)) 4 (.ref 4 none 0 0 0),hh⟩)/\hh 4=.bx (ao z)/\hh 6=.bx [B false,.emp,I 0,B false,.emp,I 0,B false]:=fun S h X hX a b c d e f i j=>by
  rw[←hX];exact hL S h a b c d e f i j
 simp only[Di,Lw,am,ao,go_sem,hXL];generalize hX2:aj 0 [4,6] (L _ _)=X;obtain⟨hh,g0,g4,g6⟩:=hL2 _ _ _ hX2 rfl rfl rfl rfl rfl rfl rfl rfl;rw[g0];simp only[ao]at g4;simp only[go_sem,g4,g6]
noncomputable def adM (s:Rs) (a b:Rm):Rm:=if Ef s [a,b]=true then gr s (Cd a.P b.P).1 (Cd a.P b.P).2 (cW a.R b.R s.p)else fm s
theorem OX{s:Rs}{l:List Rm}(h:Ef s l=true):mr s=true/\∀m∈l,uN s m=true:=by
 unfold Ef at h;simp only[awS,ax3,List.any_eq_false]at h;exact⟨h.1,fun m hm=>by have:=h.2 m hm;simpa using this⟩
theorem n9{s:Rs}(h:mr s=true):s.dom.length<=8/\bJ s.p=true:=by
 unfold mr at h;simp only[awS,decide_eq_true_eq]at h;exact⟨h.2.1,h.2.2.2.2.1⟩
theorem Eg{s:Rs}{m:Rm}(om:OkM m)(h:uN s m=true):OkP m.P/\vp m.P=true/\m.P.vars=s.dom.length/\vi m.R=true:=by
 unfold uN at h;simp only[awS,decide_eq_true_eq]at h;exact⟨Wq om.c h.2.1,h.2.1,h.2.2.1,h.2.2.2.2.1⟩
theorem two{α:Type}{p:α->Prop}{a b:α}(ha:p a)(hb:p b):∀m∈[a,b],p m:=fun m hm=>by
 simp at hm;rcases hm with rfl|rfl
 ·exact ha
 ·exact hb
theorem ajX{s:Rs}{a b:Rm}(os:OkS s)(oa:OkM a)(ob:OkM b):R F.model_Add [uM s,kO a,kO b] []=some (kO (adM s a b),[]):=by
 refine ax Xi rfl ?_;have h1:=M9 os (l:=[a,b]) (two oa ob) (by simp);have h2:=GC (s:=s);unfold adM;simp only[axp,axv]at h1;cases g:Ef s [a,b]with
 |false=>
  rw[g]at h1;generalize fm s=n at h2⊢;rw[if_neg awW];simp only[yF,Fq,go_sem,h1,h2]
 |true=>
  rw[g]at h1;obtain⟨q1,q2⟩:=OX g;obtain⟨a1,_⟩:=Eg oa (q2 a (by simp));obtain⟨b1,_⟩:=Eg ob (q2 b (by simp));have h3:=ai7 a1 b1;have h4:=vM oa.r ob.r (p:=s.p);have h5:=Na (e:=(Cd a.P b.P).2) (r:=cW a.R b.R s.p) os (ags a1 b1) s6 (by have:=(n9 q1).1;omega);generalize gr s (Cd a.P b.P).1 (Cd a.P b.P).2 (cW a.R b.R s.p)=z at h5⊢;generalize Cd a.P b.P=t at h3 h5;generalize cW a.R b.R s.p=x at h4 h5;rw[if_pos rfl];simp only[pV,aO,am,ao]at h3 h4 h5;simp only[yF,Fq,go_sem,h1,h3,h4,h5]
theorem Tt{x:Ri}(h:kI x=true):x.all=false/\vd x.lo=true/\vd x.hi=true:=by
 grind[kI,vi]
def HJ(x:Ri):Bool:=decide (20<x.lo.m.length)||decide (20<x.hi.m.length)
theorem ahY{x:Ri}:R F.l25_great_1 [am x] []=some (B (HJ x),[]):=by
 refine ax Ca rfl ?_;unfold HJ;by_cases g:20<x.lo.m.length
 ·have f:(20< (x.lo.m.length:Int))=True:=tt;rw[decide_eq_true g,axQ];simp only[uU,BT,am,ao,go_sem,f]
 ·have f:(20< (x.lo.m.length:Int))=False:=ff;have f2:(20< (x.hi.m.length:Int))=(20<x.hi.m.length):=by grind
  rw[decide_eq_false g,axY];simp only[uU,BT,am,ao,go_sem,f,f2]
theorem ami{t:Rt}:R F.l25_great_2_1 [.agg (bD t)] []=some (B (decide (20<t.c.m.length)),[]):=by
 refine ax zB rfl ?_;have f2:(20< (t.c.m.length:Int))=(20<t.c.m.length):=by grind
 simp only[xt,EA,bD,go_sem,f2]
def GD(m:Rm):Bool:=decide (40<m.P.terms.length)|| (HJ m.R||m.P.terms.any fun t=>decide (20<t.c.m.length))
abbrev oG1:Ob:=.bx [.fn F.l25_great_1 [] []]
theorem abV:OC oG1:=⟨fun _=>rfl,rfl,fun _=>rfl,rfl⟩
theorem aoB{m:Rm}(hn:m.P.terms.length<4611686018427387904):R F.l25_great_2 [kO m,.ref 1000 none 0 0 0] [oG1]=some (B (GD m),[oG1]):=by
 refine D3 SJ SI (DG false) rfl ?_;unfold GD;by_cases g:40<m.P.terms.length
 ·have f:(40< (m.P.terms.length:Int))=True:=tt;rw[decide_eq_true g,axQ];simp only[qf,w9,go_sem,f];exact rO rfl rfl rfl rfl rfl
 have f:(40< (m.P.terms.length:Int))=False:=ff;rw[decide_eq_false g,axY];have h1:=ahY (x:=m.R);have h2:R F.slices_ContainsFunc_api_Term_api_Term_ [.sl 4 (aH m.P.terms),.fn F.l25_great_2_1 [] []] []=some (B (m.P.terms.any fun t=>decide (20<t.c.m.length)),[]):=YX ahU (Frow:=bD) (f:=F.l25_great_2_1) (zB.1.2.1 false) hn (Ee _) fun t ht=>⟨.agg (bD t),rfl,rfl,by simp only[bD,go_sem];exact ami⟩;simp only[am,ao]at h1;cases g2:HJ m.R with
 |true=>
  rw[g2]at h1;simp only[qf,w9,go_sem,f,h1];exact rO rfl rfl rfl rfl rfl
 |false=>
  rw[g2]at h1;simp only[qf,w9,go_sem,f,h1,h2];exact rO rfl rfl rfl rfl rfl
def JZ(s:Rs)(l:List Rm):Bool:=(decide (3< (s.dom.length:Int))&&decide ((s.dom.length:Int)<=8))|| ((decide (6<s.ord)&&decide (s.ord<=16))|| ((decide (64<s.p)&&decide (s.p<=512))|| (decide (100< (s.dom.length:Int))|| (s.dom.any HJ||l.any GD))))
theorem pr3(x y:Bool):x=false\/x=true/\y=false\/x=true/\y=true:=by cases x<;>cases y<;>simp
theorem abW{s:Rs}{l:List Rm}(os:OkS s)(om:∀m∈l,OkM m)(hl:l.length<4611686018427387904):R F.l25_great [uM s,.sl 9 (R8 l)] []=some (B (JZ s l),[]):=by
 refine ax Xh rfl ?_;have h1:R F.slices_ContainsFunc_api_Interval_api_Interval_ [.sl 7 (bL s.dom),.fn F.l25_great_1 [] []] []=some (B (s.dom.any HJ),[]):=YX ama (Frow:=ao) (f:=F.l25_great_1) (Ca.1.2.1 false) os.n (Yw _) fun x hx=>⟨am x,rfl,rfl,by rw[Ca.1.1];simp only[am,ao,go_sem];exact ahY⟩;have h2:=KD amd (Frow:=fun m=>OV m) (l:=l) (q:=GD) abV (If false) (DG false) hl (KS _) fun m hm=>⟨kO m,kO m,rfl,rfl,rfl,by rw[Px];simp only[go_sem,Ee],aoB (om m hm).n⟩;have h2':=fun(h:ac) (d:Nat) (hh:h 5=oG1) (hf:h (2000+8*d)=.dead)=>D4 (f:=F.slices_ContainsFunc_api_Model_api_Model_) (g:=F.l25_great_2) (h:=h) (d:=d) (id:=5) (zas:=[.sl 9 (R8 l)]) (as':=[.sl 9 (R8 l)]) (aX.1.2.1 false) (aX.1.2.2.2 false)
  (by rw[aX.1.1];simp only[go_sem,KS,axM,axc]) rfl rfl hh abV abV (fun h=>h) h2 (V0 _) (axJ rfl) (by grind[cw,cz,bS])
 simp only[axM,axc,go_sem]at h2';unfold JZ;generalize s.dom.any HJ=b1 at h1⊢;generalize l.any GD=b2 at h2'⊢;generalize d1:decide (3< (s.dom.length:Int))=x1;generalize d2:decide ((s.dom.length:Int)<=8)=x2;generalize d3:decide (6<s.ord)=x3;generalize d4:decide (s.ord<=16)=x4;generalize d5:decide (64<s.p)=x5;generalize d6:decide (s.p<=512)=x6;generalize d7:decide (100< (s.dom.length:Int))=x7;rcases pr3 x1 x2 with rfl| ⟨rfl,rfl⟩| ⟨rfl,rfl⟩
 case inr.inr=>simp only[kE,pp,go_sem,d1,d2,axm,axQ]
 all_goals
  rcases pr3 x3 x4 with rfl| ⟨rfl,rfl⟩| ⟨rfl,rfl⟩
  case inr.inr=>simp only[kE,pp,go_sem,d1,d2,d3,d4,axm,axQ,Bool.or_true]
  all_goals
   rcases pr3 x5 x6 with rfl| ⟨rfl,rfl⟩| ⟨rfl,rfl⟩
   case inr.inr=>simp only[kE,pp,go_sem,d1,d2,d3,d4,d5,d6,axm,axQ,Bool.or_true]
   all_goals
    cases x7 with
    |true=>simp only[kE,pp,go_sem,d1,d2,d3,d4,d5,d6,d7,axm,axQ,Bool.or_true]
    |false=>
     cases b1 with
     |true=>simp only[kE,pp,go_sem,d1,d2,d3,d4,d5,d6,d7,h1,axm,axQ,Bool.or_true]
     |false=>
      simp only[kE,pp,go_sem,d1,d2,d3,d4,d5,d6,d7,h1];rw[h2' _ _ rfl rfl];simp only[go_sem]
noncomputable def Nb (s:Rs) (a b:Rm):Rm:=if Ef s [a,b]=true then gr s (jJ a.P b.P).1 (jJ a.P b.P).2 (nv s.p (ce (dH a.P s.dom s.p) b.R s.p) [ce (dH b.P s.dom s.p) a.R s.p,ce a.R b.R s.p])else fm s
theorem QA{s:Rs}{a b:Rm}(os:OkS s)(oa:OkM a)(ob:OkM b):R F.model_Mul [uM s,kO a,kO b] []=some (kO (Nb s a b),[]):=by
 refine ax Xj rfl ?_;have h1:=M9 os (l:=[a,b]) (two oa ob) (by simp);have h2:=GC (s:=s);unfold Nb;simp only[axp,axv]at h1;cases g:Ef s [a,b]with
 |false=>
  rw[g]at h1;simp only[yG,Fr,go_sem,h1,h2]
 |true=>
  rw[g]at h1;obtain⟨q1,q2⟩:=OX g;obtain⟨a1,_⟩:=Eg oa (q2 a (by simp));obtain⟨b1,_⟩:=Eg ob (q2 b (by simp));have hl:s.dom.length<=100000:=by grind[n9]
  have h3:=YW a1 b1;have r1:=BJ (p:=s.p) a1 os.d hl;have r2:=BJ (p:=s.p) b1 os.d hl;have k1:=(qK (p:=s.p) a1 os.d hl).1;have k2:=(qK (p:=s.p) b1 os.d hl).1;generalize dH a.P s.dom s.p=x at r1 k1⊢;generalize dH b.P s.dom s.p=y at r2 k2⊢;have m1:=vO k1 ob.r (p:=s.p);have m2:=vO k2 oa.r (p:=s.p);have m3:=vO oa.r ob.r (p:=s.p);have h4:=ajW (p:=s.p) (x:=ce x b.R s.p) (l:=[ce y a.R s.p,ce a.R b.R s.p]) kn (two kn kn) (by simp);have h5:=Na (q:=(jJ a.P b.P).1) (e:=(jJ a.P b.P).2) (r:=nv s.p (ce x b.R s.p) [ce y a.R s.p,ce a.R b.R s.p]) os (MZ a1 b1) (Qz kn) hl;simp only[pV,aO,am,ao]at h3 h5 r1 r2 m1 m2 m3;simp only[am,ao,bL,axp,axv]at h4;simp only[yG,Fr,go_sem,h1,h3,h4,h5,r1,r2,m1,m2,m3]
theorem amk:∃W:Int,∀n:Nat,n≠0->zI (bm false n 0)=n*W:=by
 refine⟨((2^16384:Nat):Int),fun n hn=>?_⟩;obtain⟨q1,q2,_,_⟩:=rL (neg:=false) (e:=0) hn;obtain⟨t1,_⟩:=sT hn;have hneg:(bm false n 0).neg=false:=by rw[iw hn]
 unfold zI mg;rw[hneg,if_neg awW,q1,q2];have ht:((0:Int)+(tz n:Int)+16384).toNat=tz n+16384:=by omega
 rw[ht];generalize 16384=k;rw[axa,←axn,axf (n/2^tz n),←t1,aFX]
def pwZ:List Int->List Rd->Int
 |e::es,x::xs=>zI x^e.toNat*pwZ es xs
 |_,_=>1
def dg:List Int->List Rd->Nat
 |e::es,_::xs=>e.toNat+dg es xs
 |_,_=>0
theorem aCS:∀ {es:List Int} {xs:List Rd},(∀e∈es,0<=e)->(dg es xs:Int)<=bh es
 |e::es,x::xs,h=>by
  have ih:=aCS (es:=es) (xs:=xs) fun y hy=>h y (by simp[hy]);have he:=h e (by simp);show((e.toNat+dg es xs:Nat):Int)<=e+bh es;omega
 |[],xs,h=>by show((0:Nat):Int)<=0;decide
 |e::es,[],h=>by
  have h2:=(Ky (l:=e::es) fun y hy=>h y hy).1;show((0:Nat):Int)<=bh (e::es);omega
noncomputable def ph (xs:List Rd) (u:List Int):Int:=pwZ u xs*KK^ (32-dg u xs)
theorem VT.dg{v:Int}{t:Rt}(vt:VT v t)(xs:List Rd):dg t.exps xs<=32:=by
 have h1:=aCS (xs:=xs) fun e he=>(vt.b e he).1;have h2:=vt.d;omega
theorem ah0{d:Rd}(h:z0 d=true):d=aI:=by
 obtain⟨n,m,e⟩:=d;unfold z0 at h;simp only[awS,ax3,decide_eq_true_eq]at h;obtain⟨h1,h2,h3⟩:=h;subst h1 h3;rw[List.length_eq_zero_iff.1 h2];rfl
theorem HL{x:Ri}(ox:OkI x)(v:vi x=true):∃q,In q x:=by
 cases ha:x.all with
 |true=>
  refine⟨0,Or.inl ?_⟩;unfold vi at v;rw[ha]at v;simp at v;obtain⟨l,h,a⟩:=x;simp only at v ha;rw[ah0 v.1,ah0 v.2,ha];rfl
 |false=>
  have hk:kI x=true:=by grind[kI]
  obtain⟨_,h1,h2⟩:=Tt hk;exact⟨qv x.lo,Or.inr ⟨ha,⟨⟨h1,ox.lo⟩,h2,ox.hi⟩,Rat.le_refl,zM.2 (ahL hk).2.2.1⟩⟩
theorem azt{α:Type}{p:α->Prop}{a:α}(ha:p a):∀m∈[a],p m:=fun m hm=>by rw[List.mem_singleton.1 hm];exact ha
noncomputable def aBv (s:Rs) (a b:Rm):Bool:=Ef s [a,b]&& (!(a.R.all&&!b.R.all)&& (decide ((ayM a.P b.P).2=0)&&lF (cW (dH (ayM a.P b.P).1 s.dom s.p) a.R s.p) b.R))
theorem aCk{s:Rs}{a b:Rm}(os:OkS s)(oa:OkM a)(ob:OkM b):R F.model_Inside [uM s,kO a,kO b] []=some (B (aBv s a b),[]):=by
 refine ax ayc rfl ?_;have h1:=M9 os (l:=[a,b]) (two oa ob) (by simp);unfold aBv;simp only[axp,axv]at h1;cases g:Ef s [a,b]with
 |false=>
  rw[g]at h1;rw[awU];simp only[aic,aqo,go_sem,h1]
 |true=>
 rw[g]at h1;rw[awT];obtain⟨q1,q2⟩:=OX g;obtain⟨a1,_⟩:=Eg oa (q2 a (by simp));obtain⟨b1,_⟩:=Eg ob (q2 b (by simp));have hl:s.dom.length<=100000:=by have:=(n9 q1).1;omega
 have h3:=azg a1 b1;have h4:=BJ (p:=s.p) (ay5 a1 b1) os.d hl;have k1:=(qK (p:=s.p) (ay5 a1 b1) os.d hl).1;generalize dH (ayM a.P b.P).1 s.dom s.p=x at h4 k1⊢;have h5:=vM k1 oa.r (p:=s.p);have h6:=JV (s6 (x:=x) (y:=a.R) (p:=s.p)) ob.r;generalize cW x a.R s.p=y at h5 h6⊢;generalize ayM a.P b.P=t at h3 h4⊢;simp only[pV,aO,am,ao]at h3 h4 h5 h6;have hk:a.R.all=true/\b.R.all=false\/(a.R.all=false\/a.R.all=true/\b.R.all=true):=by cases a.R.all<;>cases b.R.all<;>simp
 rcases hk with⟨k2,k3⟩|hk
 ·simp only[OV,k2,k3]at h1;simp only[aic,aqo,go_sem,h1,k2,k3]
 have hb:(!(a.R.all&&!b.R.all))=true:=by rcases hk with k| ⟨k,k2⟩<;>simp[*]
 rw[hb,awT];by_cases g2:t.2=0
 ·rw[decide_eq_true g2,awT];generalize lF y b.R=w at h6⊢;rcases hk with k2| ⟨k2,k3⟩
  ·simp only[k2]at h5;simp only[OV,k2]at h1;simp only[aic,aqo,go_sem,h1,h3,h4,h5,h6,k2,g2]
  ·simp only[k2]at h5;simp only[k3]at h6;simp only[OV,k2,k3]at h1;simp only[aic,aqo,go_sem,h1,h3,h4,h5,h6,k2,k3,g2]
 ·have f:(t.2=0)=False:=eq_false g2;rw[decide_eq_false g2,awU];rcases hk with k2| ⟨k2,k3⟩
  ·simp only[OV,k2]at h1;simp only[aic,aqo,go_sem,h1,h3,k2,f]
  ·simp only[OV,k2,k3]at h1;simp only[aic,aqo,go_sem,h1,h3,k2,k3,f]
theorem aCY{a b:Rd}(oa:Ok0 a)(ob:Ok0 b):R F.r02_Sub [ae a,ae b] []=some (rV (l8 a b),[]):=by
 refine ax aCt rfl ?_;have ha:=EY oa;have hb:=EY ob;cases va:vd a with
 |false=>
  rw[va]at ha;unfold l8;rw[va,awU,if_neg awW];simp only[ae,ah]at ha hb;simp only[aBd,aBq,rV,ae,ah,aI,go_sem,ha]
 |true=>
  rw[va]at ha;cases vb:vd b with
  |false=>
   rw[vb]at hb;unfold l8;rw[vb,axx,if_neg awW];simp only[ae,ah]at ha hb;simp only[aBd,aBq,rV,ae,ah,aI,go_sem,ha,hb]
  |true=>
   rw[vb]at hb;have vn:=(vS vb).2;have on:=vQ ob;have hn:=aiK (d:=b);rw[aiL vb]at hn;have hp:=aiM oa on va vn;have hl:Ok0 (cM (zI a+zI (gJ b)) (-16384)):=aB9 (k:=2000) (awX (aBr (aBz oa va) (aBz on vn)) (by decide)) (by decide);have hc:=aBu hl;rw[aBE]at hc;have e:l8 a b=cH (cM (zI a+zI (gJ b)) (-16384)):=by
    rw[ahb vb];unfold iF;rw[va,vn];rfl
   rw[e];simp only[rV,ae,ah]at ha hb hn hp hc;simp only[aBd,aBq,rV,ae,ah,go_sem,ha,hb,hn,hp,hc]
theorem aCc{x:Ri}{d:Rd}(ox:OkI x)(od:Ok0 d):R F.r05_Has [am x,ae d] []=some (B (Qw x d),[]):=by
 refine ax aCu rfl ?_;have v1:=EZ ox;have v2:=EY od;unfold Qw;cases h1:vi x with
 |false=>
  rw[h1]at v1;simp only[am,ao,ae,ah]at v1 v2;simp only[aAP,aA3,am,ao,ae,ah,go_sem,v1]
 |true=>
  rw[h1]at v1;cases h2:vd d with
  |false=>
   rw[h2]at v2;simp only[am,ao,ae,ah]at v1 v2;simp only[aAP,aA3,am,ao,ae,ah,go_sem,v1,v2]
  |true=>
   rw[h2]at v2;cases h3:x.all with
   |true=>
    simp only[am,ao,ae,ah,h3]at v1 v2;simp only[aAP,aA3,am,ao,ae,ah,go_sem,v1,v2,h3]
   |false=>
    have hl:vd x.lo=true/\vd x.hi=true:=by
     unfold vi at h1;rw[h3]at h1;simp at h1;exact⟨h1.1,h1.2.1⟩
    have c1:=P6 ox.lo od hl.1 h2;have c2:=P6 od ox.hi h2 hl.2;have e1:=@vL (zI x.lo) (zI d);have e2:=@vL (zI d) (zI x.hi);generalize cp (zI x.lo) (zI d)=q1 at c1 e1;generalize cp (zI d) (zI x.hi)=q2 at c2 e2;simp only[am,ao,ae,ah,h3]at v1 v2 c1 c2;by_cases h4:zI x.lo<=zI d
    ·simp only[aAP,aA3,am,ao,ae,ah,go_sem,v1,v2,h3,c1,c2,e1,e2,h4]
    ·simp only[aAP,aA3,am,ao,ae,ah,go_sem,v1,v2,h3,c1,e1,h4]
def rq(w:Bool)(M d:Nat):Nat:=if w=true/\M%2^d≠0 then M/2^d+1 else M/2^d
def dR(M n j:Nat):Nat:=if af M<=n+j then j else af M-n
theorem aj8{w:Bool}{M M' d:Nat}(h:M<=M'):rq w M d<=rq w M' d:=by
 have h1:=axS M (2^d);have h3:=axS M' (2^d);have h5:M/2^d<=M'/2^d:=Nat.div_le_div_right h;grind[rq,Nat.eq_or_lt_of_le]
theorem aoE{w:Bool}{M d e:Nat}(h:M<2^ (d+e)):rq w M d<=2^e:=by
 have h1:M/2^d<2^e:=by
  rw[Nat.div_lt_iff_lt_mul (axb d),←axa,Nat.add_comm];omega
 grind[rq]
theorem ah5(M n j:Nat):j<=dR M n j/\af M<=n+dR M n j:=by
 grind[dR]
theorem ahr{M j n:Nat}{w:Bool}(hn:8<=n):cB M (-16384- (j:Int)) false (n:Int) w=th n w (rq w M (dR M n j)) ((dR M n j:Int)-j-16384):=by
 have hu:fk M (-16384- (j:Int)) (n:Int)=(dR M n j:Int)-j-16384:=by
  grind[fk,dR]
 unfold cB;have hq:qH M (-16384- (j:Int)) false ((dR M n j:Int)-j-16384)=(M/2^dR M n j,decide (M%2^dR M n j≠0)):=by
  unfold qH;generalize dR M n j=d;by_cases h:d=0
  ·subst h;grind
  grind
 grind[mh,rq]
theorem XM{q d T:Nat}(hq:q≠0):T<af q+d↔2^T<=q*2^d:=by
 by_cases h:d<=T
 ·rw[show T<af q+d↔T-d<af q by omega,jy]
  conv=>rhs;rw[show T=(T-d)+d by omega,axa]
  simp_all[Nat.mul_le_mul_right_iff,axb]
 ·refine⟨fun _=>?_,fun _=>by omega⟩;refine awX (axC (by decide) (by omega:T<=d)) ?_;exact Nat.le_mul_of_pos_left _ (by omega)
theorem amu{q n k:Nat}(h:q<=2^n)(hk:n<k):af q<=k:=bK.2 (axF h (Nat.pow_lt_pow_right (by decide) hk))
theorem aoF{w:Bool}{M n j:Nat}(hn:n<=512):af (rq w M (dR M n j))<=4096/\(w=false->rq w M (dR M n j)<2^n):=by
 have k:=ah5 M n j;have k5:M<2^af M:=bK.1 (awQ _);have k6:M<2^ (dR M n j+n):=axX k5 (axC (by decide) (by omega));have h1:=aoE (w:=w) k6;refine⟨amu h1 (by omega),?_⟩
 simp_all[rq,if_neg,Nat.div_lt_iff_lt_mul,axb,axa,Nat.add_comm]
theorem aj9{M j n:Nat}{w:Bool}(h0:M≠0)(hn:8<=n/\n<=512):
  (rq w M (dR M n j)*2^dR M n j<2^ (32768+j)->(cB M (-16384- (j:Int)) false (n:Int) w).2=0/\zI (cB M (-16384- (j:Int)) false (n:Int) w).1*2^j=((rq w M (dR M n j)*2^dR M n j:Nat):Int))/\
  (2^ (32768+j)<=rq w M (dR M n j)*2^dR M n j->(w=true->(cB M (-16384- (j:Int)) false (n:Int) w).2≠0)/\
   (w=false->(cB M (-16384- (j:Int)) false (n:Int) w).2=0/\zI (cB M (-16384- (j:Int)) false (n:Int) w).1=(((2^n-1)*2^ (32768-n):Nat):Int))):=by
 have k:=ah5 M n j;obtain⟨b1,_⟩:=aoF (w:=w) (M:=M) (j:=j) hn.2;rw[ahr hn.1];have hq0:rq w M (dR M n j)=0->¬32768+j<af (rq w M (dR M n j))+dR M n j:=fun h=>by
  rw[h,show af 0=0 from rfl];have hM:M<2^dR M n j:=by
   unfold rq at h;split at h
   all_goals simp_all
  have h3:af M<=dR M n j:=bK.2 hM;unfold dR at h3⊢;grind
 generalize hd:dR M n j=d at*
 generalize rq w M d=q at*
 have ov:16384< (af q:Int)+((d:Int)-j-16384)↔2^ (32768+j)<=q*2^d:=by
  by_cases hq:q=0
  ·subst hq;have h5:=axb (32768+j);constructor<;>intro h6<;>omega
  ·rw[←XM hq];omega
 unfold th;constructor
 ·intro h;have h1:¬16384< (af q:Int)+((d:Int)-j-16384):=fun hc=>by
   omega
  rw[if_neg h1];have hc:=DU (neg:=false) (M:=q) (e:=(d:Int)-j-16384) b1 (by omega) (by omega);have h2:(cH (bm false q ((d:Int)-j-16384))).2=0:=by rw[hc]
  refine⟨h2,?_⟩;rw[JE (by omega) h2,show((d:Int)-j-16384+16384).toNat=d-j by omega,show(2:Int)^j=((2^j:Nat):Int)by simp,←aFX,axn,←axa,show d-j+j=d by omega]
 ·intro h;have h1:=ov.2 h;rw[if_pos h1];constructor
  ·rintro rfl
   simp
  ·rintro rfl
   rw[if_neg (by simp)];have hp1:2^n-1<2^n:=by have:=axb n;omega
   have hb:af (2^n-1)<=n:=bK.2 hp1;have hc:=DU (neg:=false) (M:=2^n-1) (e:=16384- (n:Int)) (by omega) (by omega) (by omega);have h2:(cH (bm false (2^ ((n:Int)).toNat-1) (16384- (n:Int)))).2=0:=by rw[awY,hc]
   refine⟨h2,?_⟩;rw[JE (by omega) h2,awY,show(16384- (n:Int)+16384).toNat=32768-n by omega]
theorem amv{M j n:Nat}{w:Bool}(h0:M≠0)(hn:8<=n/\n<=512)(h:(cB M (-16384- (j:Int)) false (n:Int) w).2=0):0<=zI (cB M (-16384- (j:Int)) false (n:Int) w).1:=by
 obtain⟨k,h1,_⟩:=HB (s:=0) (t:=j) h0 (p:=n) (by omega) (by omega) (fun h=>absurd h awW) h;omega
theorem aka{z f p:Int}{up:Bool}(h:z<0):jj z f p up=gL true (cB z.natAbs f false p (!up)):=by
 unfold jj;rw[if_neg (by omega),decide_eq_true h]
 simp_all
theorem akb{z f p:Int}{up:Bool}(h:0<z):jj z f p up=cB z.natAbs f false p up:=by
 unfold jj;rw[if_neg (by omega),decide_eq_false (by omega)]
 simp_all[gL,if_neg]
theorem amw{M:Nat}{f p:Int}{w:Bool}:(gL true (cB M f false p w)).2=(cB M f false p w).2/\((cB M f false p w).2=0->zI (gL true (cB M f false p w)).1=-zI (cB M f false p w).1):=by
 unfold gL;by_cases h:(cB M f false p w).2=0
 all_goals simp_all[if_pos,vS,Qh,if_neg,absurd]
theorem ah6{f p:Int}{up:Bool}:jj 0 f p up=(aI,0):=by simp_all[jj,if_pos]
theorem Wy{a b:Rd}{p:Int}(va:vd a=true)(vb:vd b=true)(hp:bJ p=true):aY p [a,b]=0/\∃n:Nat,p=n/\8<=n/\n<=512:=by
 have hp2:8<=p/\p<=512:=by
  simp_all[bJ,awS,decide_eq_true_eq]
 refine⟨by grind[aY],p.toNat,by omega,by omega,by omega⟩
def Sb(x y:Ri):Prop:=(∃q,In q x)/\(y=dN\/x.all=false/\y.all=false/\(∃q,In q y)/\zI y.lo<=zI x.lo/\zI x.hi<=zI y.hi)
theorem Sb.ins{x y:Ri}(h:Sb x y):lF x y=true:=by
 obtain⟨⟨q,hx⟩,rfl| ⟨h1,h2,⟨r,hy⟩,h3,h4⟩⟩:=h
 ·unfold lF;have:=hx.v;split
  ·rfl
  ·rw[this];rfl
 ·unfold lF;rw[if_pos ⟨hx.v,hy.v,h1⟩];grind
theorem aoG{x:Ri}(h:∃q,In q x)(ha:x.all=false):kI x=true:=by
 obtain⟨q,h⟩:=h;unfold kI;rw[ha,h.v];rfl
theorem aeX{a b:List Nat}(h:lm a=lm b):a=b:=by
 unfold lm aB at h;grind[List.map_inj_right]
theorem akc{x y:Ri}(h:am x=am y):x=y:=by
 unfold am ao at h;simp only[AV.agg.injEq,List.cons.injEq,AV.v.injEq,Value.bool.injEq,Value.int.injEq,true_and,and_true]at h;obtain⟨h1,g2,h3,h4,g5,h6,h7⟩:=h;have h2:=aeX g2;have h5:=aeX g5;obtain⟨⟨a1,a2,a3⟩,⟨a4,a5,a6⟩,a7⟩:=x
 simp_all
theorem Wz{a:Rp}{dom:List Ri}{p:Int}(oa:OkP a)(od:∀x∈dom,OkI x)(h2:dom.length<=100000)(hd:ni a dom=true):∃b,JY a dom p=HH a dom p b/\∀xs ts:List Rat,tP dom xs ts->In (fv xs a.terms) b:=by
 obtain⟨b,hB,hbr,_⟩:=Wp oa od h2 (p:=p);have i2:=hbr _ _ (KR dom);have h3:=M6 oa od h2 (p:=p) (b:=b) i2.ok (fun _=>hB);grind[KT,akc]
theorem amx{a:Rp}{dom:List Ri}{p:Int}(oa:OkP a)(od:∀x∈dom,OkI x)(h2:dom.length<=100000)(hd:ni a dom=true){xs ts:List Rat}(hpt:tP dom xs ts):In (fv xs a.terms) (dH a dom p):=by
 unfold dH;split
 ·rename_i h0;have e:a.terms=[]:=List.length_eq_zero_iff.1 h0;rw[e];have:=rQ aU.1 aU.2;rwa[show qv aI=0 by unfold qv;rw[cF rfl];simp]at this
 ·obtain⟨b,hb,hbr⟩:=Wz (p:=p) oa od h2 hd;obtain⟨hv,hl,hk⟩:=OU od hd;rw[hb];unfold HH;split
  ·obtain⟨m1,m2⟩:=HE (JP (p:=p) oa (tP.inL hk hpt)) (hbr _ _ hpt);grind
  ·exact Or.inl rfl
theorem akd{a b:Rd}(va:vd a=true)(vb:vd b=true):zI a<=zI (kB a b):=by
 unfold kB;rw[P8 va vb];rcases nG (zI a) (zI b)with⟨g,e⟩| ⟨g,e⟩| ⟨g,e⟩<;>rw[e]<;>simp<;>omega
theorem ake{a b:Rd}(va:vd a=true)(vb:vd b=true):zI (aEw a b)<=zI a:=by
 grind[aEw,P8,nG,zI]
theorem akf{x y:Ri}(hx:x.all=false){q:Rat}(ix:In q x)(iy:In q y):Sb (tN x y).1 x:=by
 obtain⟨m1,m2⟩:=HE ix iy;refine⟨⟨q,m2⟩,Or.inr ?_⟩;have key:(tN x y).1.all=false/\zI x.lo<=zI (tN x y).1.lo/\zI (tN x y).1.hi<=zI x.hi:=by
  have vx:=ix.vi;have vy:=iy.vi;unfold tN at m1⊢;rw[ix.v,iy.v,axm,if_pos rfl,hx,if_neg awW]at m1⊢;split
  ·grind
  ·split
   ·exact⟨rfl,akd vx.1.1 vy.1.1,ake vx.2.1 vy.2.1⟩
   grind
 grind
theorem amy{a:Rp}{dom:List Ri}{p:Int}(oa:OkP a)(od:∀x∈dom,OkI x)(h2:dom.length<=100000)(hd:ni a dom=true)(hp:bJ p=true)(h0:a.terms.length≠0)(hn:(pg a dom p).all=false):Sb (dH a dom p) (pg a dom p):=by
 unfold dH;obtain⟨b,hb,hbr⟩:=Wz (p:=p) oa od h2 hd;obtain⟨hv,hl,hk⟩:=OU od hd;have i1:=JP (p:=p) oa (tP.inL hk (KR dom));have i2:=hbr _ _ (KR dom);rw[hb];unfold HH;rw[hd,hp,axm,if_pos rfl,if_pos (HE i1 i2).1];grind[akf]
theorem OY{a b:Rd}(va:vd a=true)(vb:vd b=true):(eP a b<0↔zI a<zI b)/\(0<eP a b↔zI b<zI a):=by
 rw[P8 va vb];unfold cp;split
 ·omega
 ·split<;>omega
section
variable {dn up:Rd→Rd→Rd × Int} {pr:Nat→Rd × Rd}
abbrev Fa(dn:Rd->Rd->Rd×Int)(pr:Nat->Rd×Rd)(j:Nat):Rd×Int:=dn (pr j).1 (pr j).2
theorem OZ(okd:∀a b,vd (dn a b).1=true)(oku:∀a b,vd (up a b).1=true):∀ (k i:Nat) (o:Rd×Rd),vd o.1=true->vd o.2=true->(∀j,i<=j->j<i+k->(Fa dn pr j).2=0/\(Fa up pr j).2=0)->
  ∃q,aDo dn up pr k i o=some q/\zI q.1<=zI o.1/\zI o.2<=zI q.2/\(∀j,i<=j->j<i+k->zI q.1<=zI (Fa dn pr j).1/\zI (Fa up pr j).1<=zI q.2)/\
   (q.1=o.1\/∃j,i<=j/\j<i+k/\q.1=(Fa dn pr j).1)/\(q.2=o.2\/∃j,i<=j/\j<i+k/\q.2=(Fa up pr j).1)
 |0,i,o,_,_,_=>⟨o,rfl,Int.le_refl _,Int.le_refl _,fun j h1 h2=>by omega,Or.inl rfl,Or.inl rfl⟩
 |k+1,i,o,v1,v2,h=>by
  have h0:=h i (awQ _) (by omega);unfold aDo;rw[if_pos h0];have c1:=(OY (okd (pr i).1 (pr i).2) v1).1;have c2:=(OY (oku (pr i).1 (pr i).2) v2).2;have w1:=okd (pr i).1 (pr i).2;have w2:=oku (pr i).1 (pr i).2;obtain⟨q,q0,q1,q2,q3,q4,q5⟩:=OZ okd oku k (i+1) (if eP (dn (pr i).1 (pr i).2).1 o.1<0 then(dn (pr i).1 (pr i).2).1 else o.1,if 0<eP (up (pr i).1 (pr i).2).1 o.2 then(up (pr i).1 (pr i).2).1 else o.2)
   (by simp only;split<;>assumption) (by simp only;split<;>assumption) fun j h1 h2=>h j (by omega) (by omega)
  have a1:zI q.1<=zI o.1/\zI q.1<=zI (Fa dn pr i).1:=by
   simp only at q1;split at q1
   ·rename_i hc;have:=c1.1 hc;exact⟨by omega,q1⟩
   ·rename_i hc;have:=mt c1.2 hc;exact⟨q1,by show zI q.1<=zI (dn (pr i).1 (pr i).2).1;omega⟩
  have a2:zI o.2<=zI q.2/\zI (Fa up pr i).1<=zI q.2:=by
   simp only at q2;split at q2
   ·rename_i hc;have:=c2.1 hc;exact⟨by omega,q2⟩
   ·rename_i hc;have:=mt c2.2 hc;exact⟨q2,by show zI (up (pr i).1 (pr i).2).1<=zI q.2;omega⟩
  refine⟨q,q0,a1.1,a2.1,fun j h1 h2=>?_,?_,?_⟩
  ·rcases Nat.eq_or_lt_of_le h1 with rfl|h3
   ·exact⟨a1.2,a2.2⟩
   ·exact q3 j h3 (by omega)
  ·rcases q4 with q4| ⟨j,h1,h2,h3⟩
   ·simp only at q4;split at q4
    ·exact Or.inr ⟨i,awQ _,by omega,q4⟩
    ·exact Or.inl q4
   ·exact Or.inr ⟨j,by omega,by omega,h3⟩
  ·rcases q5 with q5| ⟨j,h1,h2,h3⟩
   ·simp only at q5;split at q5
    ·exact Or.inr ⟨i,awQ _,by omega,q5⟩
    ·exact Or.inl q5
   ·exact Or.inr ⟨j,by omega,by omega,h3⟩
theorem abY(okd:∀a b,vd (dn a b).1=true)(oku:∀a b,vd (up a b).1=true)(h:∀j,j<4->(Fa dn pr j).2=0/\(Fa up pr j).2=0):
  ∃q,pS dn up pr=some q/\(∀j,j<4->zI q.1<=zI (Fa dn pr j).1/\zI (Fa up pr j).1<=zI q.2)/\(∃j,j<4/\q.1=(Fa dn pr j).1)/\∃j,j<4/\q.2=(Fa up pr j).1:=by
 obtain⟨q,q0,q1,q2,q3,q4,q5⟩:=OZ okd oku 3 1 ((dn (pr 0).1 (pr 0).2).1,(up (pr 0).1 (pr 0).2).1) (okd _ _) (oku _ _) fun j h1 h2=>h j (by omega);refine⟨q,?_,fun j hj=>?_,?_,?_⟩
 ·unfold pS;rw[if_pos (h 0 (by decide))];exact q0
 ·rcases Nat.eq_zero_or_pos j with rfl|h1
  ·exact⟨q1,q2⟩
  ·exact q3 j h1 (by omega)
 ·rcases q4 with q4| ⟨j,h1,h2,h3⟩
  ·exact⟨0,by decide,q4⟩
  ·exact⟨j,by omega,h3⟩
 ·rcases q5 with q5| ⟨j,h1,h2,h3⟩
  ·exact⟨0,by decide,q5⟩
  ·exact⟨j,by omega,h3⟩
end
theorem ah7{x:Ri}(h:∃q,In q x)(ha:x.all=false):zI x.lo<=zI x.hi:=by
 obtain⟨q,rfl| ⟨_,_,h1,h2⟩⟩:=h
 ·cases ha
 ·exact zM.1 (aDM h1 h2)
theorem aoH{x y:Ri}(hx:VI x)(hy:VI y)(i:Nat):vd (gb x y i).1=true/\vd (gb x y i).2=true:=by
 unfold gb;split
 ·exact⟨hx.1.1,hy.1.1⟩
 ·exact⟨hx.1.1,hy.2.1⟩
 ·exact⟨hx.2.1,hy.1.1⟩
 ·exact⟨hx.2.1,hy.2.1⟩
theorem asv{d:Rd}{p:Int}{n:Nat}{up:Bool}:vd (pw d n p up).1=true:=by
 unfold pw;exact(Tq _ _ JK).1
theorem O0{d:Rd}(v:vd d=true):vd (rM d)=true/\zI (rM d)=((zI d).natAbs:Int):=by
 unfold rM;by_cases h:d.m.length=0
 ·rw[if_pos (Or.inr h),cF h];exact⟨rfl,cF rfl⟩
 ·refine⟨?_,?_⟩
  ·simp_all[vd,if_neg]
  grind[zI,mg]
theorem ah8{d:Rd}(v:vd d=true):(0<cO d↔0<zI d)/\(cO d<0↔zI d<0):=by
 have h0:d.m.length=0->zI d=0:=cF;have hp:d.m.length≠0->0<mg d:=fun h=>by
  exact Nat.mul_pos (by grind[Gr]) (axb _)
 unfold cO;by_cases h:d.m.length=0
 ·omega
 ·grind[zI]
theorem aoI{x:Ri}(h:VI x)(hle:zI x.lo<=zI x.hi):vd (AJ x)=true/\zI (AJ x)=(if 0<zI x.lo then zI x.lo else if zI x.hi<0 then-zI x.hi else 0):=by
 obtain⟨a1,a2⟩:=O0 h.1.1;obtain⟨b1,b2⟩:=O0 h.2.1;obtain⟨s1,s2⟩:=ah8 h.1.1;obtain⟨t1,t2⟩:=ah8 h.2.1;have c:=OY a1 b1;unfold AJ Jt aEw;by_cases k1:0<zI x.lo
 ·grind
 ·rw[if_neg (mt s1.1 k1),if_neg k1];by_cases k2:zI x.hi<0
  ·grind
  ·rw[if_neg (mt t2.1 k2),if_pos rfl,if_neg k2];exact⟨rfl,cF rfl⟩
theorem aoJ{x:Ri}(h:VI x):vd (Hv x)=true/\zI (Hv x)=(if(zI x.lo).natAbs<=(zI x.hi).natAbs then((zI x.hi).natAbs:Int)else(zI x.lo).natAbs):=by
 obtain⟨a1,a2⟩:=O0 h.1.1;obtain⟨b1,b2⟩:=O0 h.2.1;have c:=OY a1 b1;grind[Hv,kB]
theorem asw{w:Bool}{T d:Nat}(h:d<=T):rq w (2^T) d=2^ (T-d):=by
 have e:2^T=2^ (T-d)*2^d:=by rw[←axa];grind
 simp_all[rq,if_neg,Nat.mul_mod_left,Nat.mul_div_cancel,axb]
theorem aeY{M j n m:Nat}{w:Bool}(h0:M≠0)(hn:8<=n/\n<=512)(hm:m<16384)(h:M<=2^ (16384+m+j)):
  (cB M (-16384- (j:Int)) false (n:Int) w).2=0/\0<=zI (cB M (-16384- (j:Int)) false (n:Int) w).1/\zI (cB M (-16384- (j:Int)) false (n:Int) w).1<=((2^ (16384+m):Nat):Int):=by
 have hd:dR M n j<=16384+m+j:=by
  have:=bK.2 (axF h (Nat.pow_lt_pow_right (by decide) (Nat.lt_succ_self _)));unfold dR;split<;>omega
 have h1:rq w M (dR M n j)*2^dR M n j<=2^ (16384+m+j):=by
  refine awX (awZ _ (aj8 h)) ?_;rw[asw hd,←axa];exact axC (by decide) (by omega)
 obtain⟨c1,c2⟩:=(aj9 (w:=w) (j:=j) h0 hn).1 (axF h1 (Nat.pow_lt_pow_right (by decide) (by omega)));have c3:=amv (w:=w) (j:=j) h0 hn c1;refine⟨c1,c3,?_⟩;have h2:zI (cB M (-16384- (j:Int)) false (n:Int) w).1*((2^j:Nat):Int)<=((2^ (16384+m):Nat):Int)*((2^j:Nat):Int):=by
  rw[←aFX,←axa];refine Int.le_trans (Int.le_of_eq ?_) (Int.ofNat_le.2 h1);rw[←c2];simp
 exact Int.le_of_mul_le_mul_right h2 (Int.ofNat_lt.2 (axb j))
theorem WA{z:Int}{j n m:Nat}{up:Bool}(hn:8<=n/\n<=512)(hm:m<16384)(h:z.natAbs<=2^ (16384+m+j)):
  (jj z (-16384- (j:Int)) n up).2=0/\(zI (jj z (-16384- (j:Int)) n up).1).natAbs<=2^ (16384+m):=by
 rcases Int.lt_trichotomy z 0 with a|rfl|a
 ·rw[aka a];obtain⟨s1,s2⟩:=amw (M:=z.natAbs) (f:=-16384- (j:Int)) (p:=n) (w:=!up);obtain⟨b1,b2,b3⟩:=aeY (w:=!up) (show z.natAbs≠0 by omega) hn hm h;omega
 ·simp_all[ah6,cF,aI,axz]
 ·rw[akb a];obtain⟨b1,b2,b3⟩:=aeY (w:=up) (show z.natAbs≠0 by omega) hn hm h;omega
def Ld(m:Nat)(d:Rd):Prop:=(zI d).natAbs<=2^ (16384+m)
theorem Ld.up{m k:Nat}{d:Rd}(h:Ld m d)(hk:m<=k):Ld k d:=awX h (axC (by decide) (by omega))
theorem Zz{a b:Rd}{p:Int}{m:Nat}{up:Bool}(va:vd a=true)(vb:vd b=true)(hp:bJ p=true)(hm:m+1<16384)(ha:Ld m a)(hb:Ld m b):(di a b p up).2=0/\Ld (m+1) (di a b p up).1:=by
 obtain⟨f1,n,rfl,hn⟩:=Wy va vb hp;unfold di;rw[if_pos f1];refine WA (j:=0) hn hm ?_;unfold Ld at ha hb;have e:2^ (16384+(m+1)+0)=2^ (16384+m)+2^ (16384+m):=by rw[axo,←Nat.add_assoc,axO];omega
 omega
theorem ZA{a b:Rd}{p:Int}{m k:Nat}{up:Bool}(va:vd a=true)(vb:vd b=true)(hp:bJ p=true)(hm:m+k<16384)(ha:Ld m a)(hb:Ld k b):(fF a b p up).2=0/\Ld (m+k) (fF a b p up).1:=by
 obtain⟨f1,n,rfl,hn⟩:=Wy va vb hp;unfold fF;rw[if_pos f1];refine WA (j:=16384) hn hm ?_;rw[Int.natAbs_mul,show 16384+(m+k)+16384=(16384+m)+(16384+k)by omega,axa];exact aFW ha hb
theorem akg{a:Rd}{p:Int}{m:Nat}{up:Bool}(va:vd a=true)(hp:bJ p=true)(hm:m<16384)(ha:Ld m a):(bZ a p up).2=0/\Ld m (bZ a p up).1:=by
 have hp2:=zN hp;unfold bZ;rw[if_pos (by grind[aY])];obtain⟨n,rfl⟩:∃n:Nat,p=n:=⟨p.toNat,by omega⟩;exact WA (j:=0) (by omega) hm ha
theorem aeZ{a:Rd}{p:Int}{up:Bool}(va:vd a=true)(hp:bJ p=true)(ha:Ld 0 a):∀ (k:Nat) (r:Rd×Int),vd r.1=true->r.2=0->Ld 0 r.1->(mq a p up k r).2=0/\Ld 0 (mq a p up k r).1
 |0,r,_,h1,h2=>⟨h1,h2⟩
 |k+1,r,vr,h1,h2=>by
  unfold mq;rw[if_pos h1];obtain⟨m1,m2⟩:=ZA (up:=up) vr va hp (by decide) h2 ha;exact aeZ va hp ha k _ JL.1 m1 m2
theorem ah9{a:Rd}{p:Int}{n:Nat}{up:Bool}(va:vd a=true)(hp:bJ p=true)(ha:Ld 0 a):(pw a n p up).2=0/\Ld 0 (pw a n p up).1:=by
 obtain⟨m1,m2⟩:=akg (up:=up) va hp (by decide) ha;exact aeZ va hp ha _ _ JK.1 m1 m2
theorem ZB{a:Rd}{p:Int}{n:Nat}{up:Bool}(va:vd a=true)(hp:bJ p=true)(ha:Ld 0 a):(qI a n p up).2=0/\Ld 0 (qI a n p up).1:=by
 grind[qI,ah9,Ld,gJ,g1,Int.natAbs_neg,vS,asv]
structure Bd (m:Nat) (x:Ri):Prop where
 i:∃q,In q x
 a:x.all=false
 l:Ld m x.lo
 h:Ld m x.hi
theorem Bd.up{m k:Nat}{x:Ri}(h:Bd m x)(hk:m<=k):Bd k x:=⟨h.i,h.a,h.l.up hk,h.h.up hk⟩
theorem Bd.v{m:Nat}{x:Ri}(h:Bd m x):VI x:=h.i.elim fun _ h=>h.vi
theorem Bd.k{m:Nat}{x:Ri}(h:Bd m x):kI x=true:=aoG h.i h.a
theorem QD{x y:Ri}{p:Int}{m:Nat}(hp:bJ p=true)(hm:m+1<16384)(hx:Bd m x)(hy:Bd m y):Bd (m+1) (cW x y p):=by
 obtain⟨q,ix⟩:=hx.i;obtain⟨r,iy⟩:=hy.i;have hi:=n7 (p:=p) ix iy;obtain⟨a1,a2⟩:=Zz (up:=false) ix.vi.1.1 iy.vi.1.1 hp hm hx.l hy.l;obtain⟨a3,a4⟩:=Zz (up:=true) ix.vi.2.1 iy.vi.2.1 hp hm hx.h hy.h;have e:cW x y p=⟨(di x.lo y.lo p false).1,(di x.hi y.hi p true).1,false⟩:=by
  unfold cW tL;rw[hx.k,hy.k,hp,axm,axm,if_pos rfl,if_pos ⟨a1,a3⟩]
 rw[e]at hi⊢;exact⟨⟨_,hi⟩,rfl,a2,a4⟩
theorem ZC{x y:Ri}{p:Int}{m k:Nat}(hp:bJ p=true)(hm:m+k<16384)(hx:Bd m x)(hy:Bd k y):Bd (m+k) (ce x y p):=by
 obtain⟨q,ix⟩:=hx.i;obtain⟨r,iy⟩:=hy.i;have hi:=n8 (p:=p) ix iy;have lx:∀i,Ld m (gb x y i).1:=fun i=>by unfold gb;split;exact hx.l;exact hx.l;exact hx.h;exact hx.h
 have ly:∀i,Ld k (gb x y i).2:=fun i=>by unfold gb;split;exact hy.l;exact hy.h;exact hy.l;exact hy.h
 have key:∀i up,(fF (gb x y i).1 (gb x y i).2 p up).2=0/\Ld (m+k) (fF (gb x y i).1 (gb x y i).2 p up).1:=fun i up=>by
  obtain⟨v1,v2⟩:=aoH ix.vi iy.vi i;grind[ZA]
 obtain⟨t,t0,_,⟨j,_,t1⟩,j',_,t2⟩:=abY (dn:=fun a b=>fF a b p false) (up:=fun a b=>fF a b p true) (pr:=gb x y) (fun a b=>JL.1) (fun a b=>JL.1) fun i _=>⟨(key i false).1,(key i true).1⟩;have e:ce x y p=⟨t.1,t.2,false⟩:=by
  unfold ce;rw[hx.k,hy.k,hp,axm,axm,if_pos rfl,t0];rfl
 rw[e]at hi⊢;refine⟨⟨_,hi⟩,rfl,?_,?_⟩
 all_goals grind
theorem FL{n:Bool}{k:Nat}:zI ⟨n,[1],(k:Int)⟩=bB n (2^ (16384+k)):=by
 have h1:zI ⟨n,[1],(k:Int)⟩=bB n (mg ⟨n,[1],(k:Int)⟩):=rfl;rw[h1];unfold mg;rw[show((k:Int)+16384).toNat=16384+k by omega]
 simp_all[ab,Nat.one_mul]
theorem akh{n:Bool}{a:Nat}:(bB n a).natAbs=a:=by
 grind[bB]
theorem amz{n:Bool}{k:Nat}:Ld k ⟨n,[1],(k:Int)⟩:=by
 simp_all[Ld,FL,akh,awQ]
theorem O1:Ld 0 one:=amz (k:=0)
theorem QF{x:Ri}{n:Nat}{p:Int}(hp:bJ p=true)(h16:n<=16)(hx:Bd 0 x):Bd 0 (DW x n p):=by
 obtain⟨q,ix⟩:=hx.i;have hi:=KJ (n:=n) (p:=p) ix;have e0:=hx.k;unfold DW at hi⊢;rw[if_pos (by rw[e0,hp];simp[h16])]at hi⊢;by_cases h0:n=0
 ·rw[if_pos h0]at hi⊢;exact⟨⟨_,hi⟩,rfl,O1,O1⟩
 ·rw[if_neg h0]at hi⊢;have hX:(vd (if n%2=0 then tj x else x).lo=true/\vd (if n%2=0 then tj x else x).hi=true)/\Ld 0 (if n%2=0 then tj x else x).lo/\Ld 0 (if n%2=0 then tj x else x).hi:=by
   have b1:=hx.l;have b2:=hx.h;split
   ·unfold tj;obtain⟨m1,m2⟩:=aoI ix.vi (ah7 hx.i hx.a);obtain⟨g1,g2⟩:=aoJ ix.vi;grind[Ld,b2,g1,zI,AJ,Hv]
   ·exact⟨⟨ix.vi.1.1,ix.vi.2.1⟩,b1,b2⟩
  obtain⟨⟨v1,v2⟩,l1,l2⟩:=hX;obtain⟨a1,a2⟩:=ZB (n:=n) (up:=false) v1 hp l1;obtain⟨a3,a4⟩:=ZB (n:=n) (up:=true) v2 hp l2;unfold tL at hi⊢;rw[if_pos ⟨a1,a3⟩]at hi⊢;exact⟨⟨_,hi⟩,rfl,a2,a4⟩
theorem aki{x:Ri}{n:Nat}{p:Int}(hp:bJ p=true)(h16:n<=32)(hx:Bd 0 x):Bd 0 (Cc x n p):=by
 unfold Cc;split
 ·grind[QF]
 ·exact ZC (m:=0) (k:=0) hp (by decide) (QF hp (by omega) hx) (QF hp (by omega) hx)
theorem ae0{p:Int}{m:Nat}(hp:bJ p=true)(hm:m<16384):∀ (ds:List Ri) (es:List Int) (x:Ri),(∀d∈ds,Bd 0 d)->(∀e∈es,e<=32)->Bd m x->Bd m (Ii p ds es x)
 |[],es,x,_,_,h=>by cases es<;>exact h
 |d::ds,[],x,_,_,h=>h
 |d::ds,e::es,x,hd,he,h=>by
  refine ae0 hp hm ds es _ (fun i hi=>hd i (by grind)) (fun i hi=>he i (by grind)) ?_;split
  ·have:=he e (by simp);exact ZC (m:=m) (k:=0) hp hm h (aki hp (by omega) (hd d (by simp)))
  omega
theorem ae1{p:Int}{ds:List Ri}{m:Nat}(hp:bJ p=true)(hd:∀d∈ds,Bd 0 d):∀ (l:List Rt) (k:Nat) (s:Ri),m+k+l.length<16384->(∀t∈l,vd t.c=true/\Ok0 t.c/\Ld m t.c/\∀e∈t.exps,e<=32)->Bd (m+k) s->Bd (m+k+l.length) (Ou p ds l s)
 |[],_,_,_,_,h=>h
 |t::l,k,s,hl,ht,h=>by
  show Bd _ (Ou p ds l (cW s (Ii p ds t.exps ⟨t.c,t.c,false⟩) p));obtain⟨c1,c2,c3,c4⟩:=ht t (by simp);have hl2:m+k+(l.length+1)<16384:=hl;have:=ae1 hp hd l (k+1) _ (by omega) (fun t ht'=>ht t (by grind)) (QD (m:=m+k) hp (by omega) h ((ae0 hp (by omega) ds t.exps _ hd c4 ⟨⟨_,rQ c1 c2⟩,rfl,c3,c3⟩).up (Nat.le_add_right m k)));grind
theorem rR{m:Nat}:Bd m bU:=by
 have h:Ld m aI:=by unfold Ld;rw[cF rfl];grind
 exact⟨⟨_,rQ aU.1 aU.2⟩,rfl,h,h⟩
theorem Sb.bd{m:Nat}{x y:Ri}(h:Sb x y)(hy:Bd m y):Bd m x:=by
 obtain⟨i,rfl| ⟨h1,h2,_,h3,h4⟩⟩:=h
 ·cases hy.a
 ·have:=ah7 i h1;have l1:=hy.l;have l2:=hy.h;unfold Ld at l1 l2;refine⟨i,h1,?_,?_⟩<;> (unfold Ld;generalize 2^ (16384+m)=T at*;omega)
inductive Mrg:List Rt->List Rt->List Rt->Prop
 |nil:Mrg [] [] []
 |left {A r1 r2:List Rt} {t:Rt}:Mrg A r1 r2->Mrg (t::A) (t::r1) r2
 |right {A r1 r2:List Rt} {t:Rt}:Mrg A r1 r2->Mrg (t::A) r1 (t::r2)
 |both {A r1 r2:List Rt} {t:Rt} {c d:Rd}:Mrg A r1 r2->iF c d=(t.c,0)->Mrg (t::A) (⟨t.exps,c⟩::r1) (⟨t.exps,d⟩::r2)
theorem Mrg.mem{A r1 r2:List Rt}(h:Mrg A r1 r2):(∀y∈r1,∃t∈A,y.exps=t.exps)/\∀y∈r2,∃t∈A,y.exps=t.exps:=by
 induction h with
 |nil=>grind
 |left h ih=>
  grind
 |right h ih=>
  grind
 |both h _ ih=>
  grind
def inc(l:List Int)(i:Nat):List Int:=l.set i (l.getD i 0+1)
theorem ZD(l:List Int)(i:Nat):(inc l i).length=l.length:=by simp[inc]
theorem amA{l:List Int}{i:Nat}(h:i<l.length):(inc l i).getD i 0=l.getD i 0+1:=by
 grind[inc]
theorem akj{l:List Int}{i:Nat}(h:i<l.length):dec (inc l i) i=l:=by
 simp_all[dec,amA,inc,List.set_set,Int.add_sub_cancel,List.set_getElem_self]
theorem ZE{l:List Int}{i:Nat}(h:i<l.length):bh (inc l i)=bh l+1:=by
 grind[Zh,inc,ZD,akj]
def ahs(x:List Int):Rt:=⟨x,one⟩
def asx(v:Int)(t:Rt)(i:Nat):Rp:=⟨v,[ahs (inc t.exps i)]⟩
structure VS (v:Int) (i:Nat) (t:Rt):Prop where
 vt:VT v t
 hd:bh t.exps<=16
 hi:i<t.exps.length
theorem ZF{l:List Int}{i:Nat}(h:∀e∈l,0<=e/\e<=32)(hi:i<l.length):0<=l.getD i 0/\l.getD i 0<=bh l:=by
 simp_all[Ky]
theorem VS.inc{v:Int}{i:Nat}{t:Rt}(h:VS v i t){d:Rd}(od:Ok0 d)(vdd:vd d=true)(nd:d.m.length≠0):VT v ⟨inc t.exps i,d⟩:=by
 obtain⟨x1,x2⟩:=ZF h.vt.b h.hi;have:=h.hd;refine⟨od,by rw[ZD];exact h.vt.len,h.vt.v8,vdd,nd,fun e he=>?_,by rw[ZE h.hi];omega⟩;rcases List.mem_or_eq_of_mem_set he with h2|rfl
 ·exact h.vt.b e h2
 omega
theorem VS.one{v:Int}{i:Nat}{t:Rt}(h:VS v i t):VT v (ahs (Go.Ab.inc t.exps i)):=h.inc eX.2 eX.1 (by decide)
theorem VS.oneC{v:Int}{i:Nat}{t:Rt}(h:VS v i t):Cl v [ahs (Go.Ab.inc t.exps i)]:=Cl.mk' h.one (fun _ h=>nomatch h) (Cl.nil _)
theorem VS.vp{v:Int}{i:Nat}{t:Rt}(h:VS v i t)(h0:0<=v):vp (asx v t i)=true:=CI h.oneC h0 h.vt.v8 (by grind)
theorem VS.intD{v:Int}{i:Nat}{t:Rt}(h:VS v i t):Ok0 (intD (t.exps.getD i 0+1))/\vd (intD (t.exps.getD i 0+1))=true:=by
 obtain⟨x1,x2⟩:=ZF h.vt.b h.hi;have:=h.hd;obtain⟨k1,k2,_⟩:=ajr (e:=t.exps.getD i 0+1) (by omega) (by omega);grind
def nC(v i:Nat):List Int:=(BH v).set i 1
def WB(v i:Nat):Rp:=⟨v,[⟨nC v i,one⟩]⟩
theorem Nc(v i:Nat):(nC v i).length=v:=by simp[nC,BH]
theorem aht{v i:Nat}(h:i<v):bh (nC v i)=1:=by
 have:=ZE (l:=BH v) (i:=i) (by grind[BH]);grind[Zi,inc,BH,nC]
theorem amB{v i:Nat}(h8:v<=8)(h:i<v):VT v ⟨nC v i,one⟩:=by
 refine⟨eX.2,by grind[nC,Nc],by omega,eX.1,(by show(1:Nat)≠0;decide),fun e he=>?_,by grind[aht]⟩;rcases List.mem_or_eq_of_mem_set he with h|rfl
 ·exact aou e h
 omega
theorem amC{v:Nat}{i:Int}:R F.poly_Var [I v,I i] []=some (if v<=8/\0<=i/\i<v then pV (WB v i.toNat,0)else pV (p0,2),[]):=by
 refine ax aaV rfl ?_;have e1:((v:Int)<0)=False:=ff;by_cases g:v<=8/\0<=i/\i<v
 ·rw[if_pos g];obtain⟨h8,g1,g2⟩:=g;obtain⟨n,rfl⟩:=ax5 g1;have hn:n<v:=by omega
  have e2:(8< (v:Int))=False:=ff;have e3:((n:Int)<0)=False:=ff;have e4:((v:Int)<=(n:Int))=False:=ff;have z1:qX (.v (.int .i64 (v:Int))) (.v (.int .i64 (v:Int)))=some (v,v):=by
   grind[qX]
  have z2:(v*8<=140737488355328)=True:=tt;have he:=AN (v:=v);have h1:=Ju;simp only[ae,ah]at h1;have ei:Int.toNat (n:Int)=n:=awY _;have k0:(aS (BH v)).set n [I 1]=aS (nC v n):=YT _ _ _;have k3:(aS (BH v))[n]?=some [I 0]:=by grind[aS,BH]
  have e7:(0<=(n:Int)/\(n:Int)< (v:Int))=True:=eq_true ⟨by omega,by omega⟩;simp only[sO,yL,go_sem,e1,e2,e3,e4,h1,he,qR,z1,z2,agZ,e7,ei,k0,k3,awP];have k1:(v<=(nC v n).length)=True:=eq_true (by simp_all[Nc,awQ]);have k2:(aS (nC v n)).take v=aS (nC v n):=axg (by simp_all[CT,Nc,awQ]);simp only[k1,k2,go_sem];have hadd:=dF (aD6.1.2.1 false) rfl (pj (d:=34) (id:=2240) (v:=v) (e:=0) (e':=0) (c:=.emp) (l:=[]) (x:=nC v n) (q:=one) (h:=upd (upd (upd (upd (upd (fun _=>.dead) 4 (.bx [I 0,.emp])) 25 (.ar 1 (aS (BH v)))) 25 (.ar 1 (aS (nC v n)))) 2240 (.bx [I v,.emp,I 0])) 25 (.fz 1 (aS (nC v n)))) rfl (.inr ⟨rfl,rfl⟩) (.inl rfl) (VP (amB h8 hn)));simp only[ae,ah,t3]at hadd;simp only[hadd,go_sem];obtain⟨o,hdn⟩:=E5 (v:=v) (e:=0) (c:=.osl 4 (aH [⟨nC v n,one⟩])) (l:=[⟨nC v n,one⟩]) (d:=36) (id:=2240) (h:=upd (upd (upd (upd (upd (upd (fun _=>.dead) 4 (.bx [I 0,.emp])) 25 (.ar 1 (aS (BH v)))) 25 (.ar 1 (aS (nC v n)))) 2240 (.bx [I v,.emp,I 0])) 25 (.fz 1 (aS (nC v n)))) 2240 (.bx [I v,.osl 4 (aH [⟨nC v n,one⟩]),I 0])) rfl (.inl rfl) rfl;have hd':=dF (bw.1.2.1 false) rfl hdn;rw[hd'];have e4:lE v (some [⟨nC v n,one⟩])=(WB v n,0):=rfl;have e5:=Kp [⟨nC v n,one⟩];rw[e4];simp only[pV,aO,e5,go_sem]
 ·rw[if_neg g];by_cases g1:v<=8
  ·have e2:(8< (v:Int))=False:=ff;by_cases g2:0<=i
   ·have e3:(i<0)=False:=ff;have e4:((v:Int)<=i)=True:=tt;simp only[sO,yL,go_sem,e1,e2,e3,e4];rfl
   ·have e3:(i<0)=True:=tt;simp only[sO,yL,go_sem,e1,e2,e3];rfl
  ·have e2:(8< (v:Int))=True:=tt;simp only[sO,yL,go_sem,e1,e2];rfl
noncomputable def abZ (s:Rs) (i:Int):Rm:=if(mr s&&decide (0<=i/\i<s.dom.length))=true then⟨WB s.dom.length i.toNat,bU⟩else fm s
theorem akk{s:Rs}{i:Int}(os:OkS s):R F.model_Var [uM s,I i] []=some (kO (abZ s i),[]):=by
 refine ax Xn rfl ?_;have h1:=Cf os.d os.n;have h2:=GC (s:=s);have h3:=amC (v:=s.dom.length) (i:=i);have h4:=R4;unfold abZ;by_cases g:s.dom.length<=8/\0<=i/\i<s.dom.length
 ·rw[if_pos g]at h3;rw[decide_eq_true g.2,Bool.and_true];simp only[pV,aO,am,ao]at h3 h4;cases g1:mr s with
  |false=>
   rw[g1]at h1;simp only[p8,wH,go_sem,h1,h2,h3]
  |true=>
   rw[g1]at h1;simp only[p8,wH,go_sem,h1,h3,h4]
 ·rw[if_neg g]at h3;have gf:(mr s&&decide (0<=i/\i<s.dom.length))=false:=by
   grind[g1,mr,decide_eq_false,n9]
  rw[gf,if_neg awW];simp only[pV,aO,p0]at h3;have f:((2:Int)=0)=False:=eq_false (by decide);cases g1:mr s with
  |false=>
   rw[g1]at h1;simp only[p8,wH,go_sem,h1,h2,h3]
  |true=>
   rw[g1]at h1;simp only[p8,wH,go_sem,h1,h2,h3,f]
theorem ahu{a:Rp}{o:Int}(ho:-1<=o)(h:∀t∈a.terms,bh t.exps<=o):ej a<=o:=by
 grind[ej]
theorem akl{s:Rs}(h:mr s=true):1<=s.dom.length/\1<=s.ord:=by
 simp_all[mr,awS,decide_eq_true_eq]
theorem aoK{s:Rs}{m:Rm}(hs:mr s=true)(c:Cl s.dom.length m.P.terms)(hv:m.P.vars=s.dom.length)(hl:m.P.terms.length<=500)(hd:∀t∈m.P.terms,bh t.exps<=s.ord)(hr:vi m.R=true)(hi:∀t∈m.P.terms,zZ t.c s.p=true):uN s m=true:=by
 unfold uN;have h8:=(n9 hs).1;have hp:vp m.P=true:=by
  have:m.P=⟨(s.dom.length:Int),m.P.terms⟩:=by rw[←hv]
  grind[CI]
 rw[hs,hp,decide_eq_true hv,decide_eq_true (ahu (by grind[akl]) hd),hr,awT,awT,awT,awT,awT,ax3,List.any_eq_false];grind
theorem akm{n:Bool}{a k:Nat}:bB n (a*2^k)=bB n a*2^k:=by
 grind[bB,aFX,Int.neg_mul]
theorem WC{c:Rd}{p:Int}{up:Bool}(ok:Ok0 c)(vc:vd c=true)(hp:bJ p=true)(hb:(af (ab c.m):Int)<=p):bZ c p up=(c,0):=by
 have hp2:=zN hp;by_cases h0:c.m.length=0
 ·grind[AD,Wk]
 have hi:(af (ab c.m):Int)+c.e<=16384∧-16384<=c.e:=by
  have h:=vc;unfold vd at h;rw[if_neg h0]at h;have o:=Gr vc h0;simp only[awS,decide_eq_true_eq]at h;have hi:=AE h.2.2.2 (by have:=(jy (n:=ab c.m) (k:=0)).2 (by omega);omega);omega
 unfold bZ;rw[if_pos (by grind[aY]),show zI c=bB c.neg (mg c)from rfl];unfold mg;rw[akm,Rl,show(-16384:Int)+((c.e+16384).toNat:Int)=c.e by omega,←Oo hp2];have hk:Js (ab c.m) c.e p=0:=by grind[Js]
 simp_all[DV,MM,ab,Nat.pow_zero,Nat.mod_one,Nat.div_one,AI,if_neg,Jx]
theorem ae2{c:Rd}{p:Int}(ok:Ok0 c)(vc:vd c=true)(hp:bJ p=true)(hb:(af (ab c.m):Int)<=p):pT c p=(c,0):=by
 simp_all[pT,WC,if_pos,OW,abU]
theorem ae3{c:Rd}(vc:vd c=true):l8 c c=(aI,0):=by
 unfold l8;rw[vc,axm,if_pos rfl,Int.sub_self];exact DZ rfl
theorem WD{p:Int}(hp:bJ p=true):∀ts:List Rt,(∀t∈ts,Ok0 t.c/\t.c.m.length≠0/\zZ t.c p=true)->Cg p ts=some (ts,[])
 |[],_=>rfl
 |t::ts,h=>by
  obtain⟨h1,h2,h3⟩:=h t (by simp);unfold zZ at h3;simp only[awS,decide_eq_true_eq]at h3;have hn:=ae2 h1 h3.2.1 hp h3.2.2;unfold Cg;rw[hn,if_pos rfl,ae3 h3.2.1,if_pos rfl,WD hp ts fun t ht=>h t (by simp[ht])];show some (ey t.exps t.c ts,ey t.exps aI [])=_;unfold ey;rw[if_neg h2,if_pos (show aI.m.length=0 from rfl)]
structure Fit (s:Rs) (q:Rp):Prop where
 v:q.vars=s.dom.length
 n:q.terms.length<=500
 c:Cl s.dom.length q.terms
 d:∀t∈q.terms,bh t.exps<=s.ord
 r:∀t∈q.terms,zZ t.c s.p=true
theorem Fit.ok{s:Rs}{q:Rp}(h:Fit s q):OkP q:=⟨fun t ht=>(h.c.t t ht).ok⟩
theorem Fit.vp{s:Rs}{q:Rp}(hs:mr s=true)(h:Fit s q):vp q=true:=by
 have:=h.v;obtain⟨v,l⟩:=q;subst this;exact CI h.c (by omega) (by have:=(n9 hs).1;omega) h.n
theorem ae4{s:Rs}{q:Rp}(hs:mr s=true)(h:Fit s q):cP q s.ord=(q,⟨q.vars,[]⟩):=by
 unfold cP;rw[if_pos (h.vp hs),List.filter_eq_self.2 fun t ht=>by exact decide_eq_true (h.d t ht),List.filter_eq_nil_iff.2 fun t ht=>by unfold JQ;rw[decide_eq_true (h.d t ht)];grind]
theorem Sl{s:Rs}{q:Rp}(hs:mr s=true)(h:Fit s q):eM q s.p=((q,⟨q.vars,[]⟩),0):=by
 have hp:=(n9 hs).2;have hp2:=zN hp;unfold eM;rw[if_pos (h.vp hs),if_neg (by omega),WD hp _ fun t ht=>⟨(h.c.t t ht).c,(h.c.t t ht).nz,h.r t ht⟩]
theorem KV{p:Int}(hp:bJ p=true):cW bU bU p=bU:=by
 unfold cW;rw[(rR (m:=0)).k,hp,axm,axm,if_pos rfl];show tL (di aI aI p false) (di aI aI p true)=_;rw[aes,aes,Wk hp,Wk hp];rfl
theorem ZG{v p:Int}{dom:List Ri}:dH ⟨v,[]⟩ dom p=bU:=by
 simp_all[dH,if_pos]
theorem akn{s:Rs}{q:Rp}(hs:mr s=true)(h:Fit s q):wF s q=((q,bU),true):=by
 unfold wF;simp only[ae4 hs h,Sl hs h,ZG,KV (n9 hs).2,←h.v];rfl
theorem WE{s:Rs}{q:Rp}(hs:mr s=true)(h:Fit s q):gr s q 0 bU=⟨q,bU⟩:=by
 simp_all[gr,akn,if_pos,KV,n9]
theorem ae5{r:Ri}{p:Int}(hk:kI r=true)(hp:bJ p=true):ce r bU p=bU:=by
 obtain⟨_,v1,v2⟩:=Tt hk;have e1:∀i,(gb r bU i).2=aI:=fun i=>by unfold gb;split<;>rfl
 have e2:∀i,vd (gb r bU i).1=true:=fun i=>by unfold gb;grind
 have e3:∀i up,fF (gb r bU i).1 (gb r bU i).2 p up=(aI,0):=fun i up=>by
  rw[e1];unfold fF;rw[if_pos (Wy (e2 i) Wj hp).1,cF (d:=aI) rfl,Int.mul_zero,ah6]
 unfold ce;rw[hk,hp,(rR (m:=0)).k,axm,axm,if_pos rfl];unfold pS;simp only[e3,and_self,if_true];have e4:∀k i,aDo (fun a b=>fF a b p false) (fun a b=>fF a b p true) (gb r bU) k i (aI,aI)=some (aI,aI):=fun k=>by
  induction k with
  |zero=>exact fun i=>rfl
  |succ k ih=>
   simp_all[aDo,and_self,if_true,ite_self]
 rw[e4];rfl
theorem ako{x:Ri}(hv:OkI x)(h:lF x lh=true):Bd 0 x:=by
 unfold lF at h;split at h
 ·rename_i g;obtain⟨g1,g2,g3⟩:=g;simp only[lh,axY,awS,decide_eq_true_eq]at h;have h5:zI tp<=zI x.lo:=of_decide_eq_true h.1;have h6:zI x.hi<=zI one:=of_decide_eq_true h.2;have k:kI x=true:=by grind[kI,g1]
  obtain⟨_,v1,v2⟩:=Tt k;have hl:zI x.lo<=zI x.hi:=by
   simp_all[vi,g1,if_neg,awS,decide_eq_true_eq]
  have e1:zI one=((2^ (16384+0):Nat):Int):=FL (n:=false) (k:=0);have e2:zI tp=-((2^ (16384+0):Nat):Int):=FL (n:=true) (k:=0);refine⟨⟨qv x.lo,Or.inr ⟨g3,⟨⟨v1,hv.1⟩,⟨v2,hv.2⟩⟩,Rat.le_refl,zM.2 hl⟩⟩,g3,?_,?_⟩<;> (unfold Ld;generalize 2^ (16384+0)=T at e1 e2⊢;omega)
 grind[lh]
theorem ae6{s:Rs}(os:OkS s)(hs:mr s=true):∀x∈s.dom,Bd 0 x:=fun x hx=>by
 unfold mr at hs;exact ako (os.d x hx) (by grind)
theorem ZH{s:Rs}(os:OkS s)(hs:mr s=true){q:Rp}(hv:vp q=true)(h:q.vars=s.dom.length):ni q s.dom=true:=by
 unfold ni;rw[hv,decide_eq_true h.symm,awT,awT,ax3,List.any_eq_false];exact fun x hx=>by rw[(ae6 os hs x hx).k];grind
theorem ae7{s:Rs}(os:OkS s)(hs:mr s=true){q:Rp}{m:Nat}(oq:OkP q)(hv:vp q=true)(h:q.vars=s.dom.length)(hc:∀t∈q.terms,Ld m t.c)(hm:m+q.terms.length<16384):Bd (m+q.terms.length) (dH q s.dom s.p):=by
 have hp:=(n9 hs).2;have hd:=ZH os hs hv h;have hcl:=(il oq hv).1;by_cases h0:q.terms.length=0
 ·simp_all[dH,if_pos,rR]
 ·have hb:Bd (m+q.terms.length) (pg q s.dom s.p):=by
   unfold pg;rw[hd,hp,axm,if_pos rfl];exact ae1 (k:=0) hp (ae6 os hs) q.terms _ hm (fun t ht=>⟨(hcl.t t ht).vc,(hcl.t t ht).c,hc t ht,fun e he=>((hcl.t t ht).b e he).2⟩) rR
  exact(amy oq os.d (by grind[n9]) hd hp h0 hb.a).bd hb
def Il(a b:Rat)(q:Rat->Rat->Rat):Prop:=∃C,0<=C/\∀x y,a<=x->x<=b->a<=y->y<=b→-C<=q x y/\q x y<=C
theorem Il.add{a b:Rat}{p q:Rat->Rat->Rat}(hp:Il a b p)(hq:Il a b q):Il a b fun x y=>p x y+q x y:=by
 obtain⟨C,c0,hc⟩:=hp;obtain⟨D,d0,hd⟩:=hq;refine⟨C+D,by grind,fun x y h1 h2 h3 h4=>?_⟩;have:=hc x y h1 h2 h3 h4;have:=hd x y h1 h2 h3 h4;grind
theorem Il.mul{a b:Rat}{p q:Rat->Rat->Rat}(hp:Il a b p)(hq:Il a b q):Il a b fun x y=>p x y*q x y:=by
 obtain⟨C,c0,hc⟩:=hp;obtain⟨D,d0,hd⟩:=hq;refine⟨C*D,Rat.mul_nonneg c0 d0,fun x y h1 h2 h3 h4=>?_⟩;obtain⟨u1,u2⟩:=hc x y h1 h2 h3 h4;obtain⟨v1,v2⟩:=hd x y h1 h2 h3 h4;show-(C*D)<=p x y*q x y/\p x y*q x y<=C*D;clear hc hd;generalize p x y=u at*
 generalize q x y=v at*
 have k1:=Rat.mul_nonneg (show 0<=C-u by grind) (show 0<=D-v by grind);have k2:=Rat.mul_nonneg (show 0<=C+u by grind) (show 0<=D+v by grind);have k3:=Rat.mul_nonneg (show 0<=C-u by grind) (show 0<=D+v by grind);have k4:=Rat.mul_nonneg (show 0<=C+u by grind) (show 0<=D-v by grind);constructor<;>grind
theorem Il.c{a b:Rat}(k:Rat):Il a b fun _ _=>k:=by
 rcases Rat.le_total (a:=0) (b:=k)with h|h
 ·exact⟨k,h,fun _ _ _ _ _ _=>by grind⟩
 ·exact⟨-k,by grind,fun _ _ _ _ _ _=>by grind⟩
def Smo(a b:Rat)(f g:Rat->Rat):Prop:=∃q,Il a b q/\∀x y,f y-f x-g x*(y-x)=(y-x)*(y-x)*q x y
theorem Smo.lin{a b c d:Rat}{f g f' g':Rat->Rat}(h1:Smo a b f g)(h2:Smo a b f' g')(hd:d=c):Smo a b (fun x=>c*f x+f' x) fun x=>d*g x+g' x:=by
 subst hd;obtain⟨q,hq,e⟩:=h1;obtain⟨q',hq',e'⟩:=h2;refine⟨fun x y=>d*q x y+q' x y,((Il.c _).mul hq).add hq',fun x y=>?_⟩;have:=e x y;have:=e' x y;grind
def u8R(l:List Nat):List (List AV):=l.map fun k=>[.v (.int .u8 (k:Nat))]
@[go_sem] theorem auU(l:List Nat):(u8R l).length=l.length:=by simp[u8R]
theorem aDb{a b:Rd}(h:(dt a b).2=0):qv (dt a b).1=qv a*qv b:=by
 have e:=aiW h;have e2:=JG 16384;have e3:(zI (dt a b).1:Rat)*pQ 16384=(zI a:Rat)*zI b:=by
  unfold pQ;rw[←aFn,←aFn,e]
 unfold qv EQ;generalize eQ 16384=x at e2⊢;generalize pQ 16384=y at e2 e3;generalize(zI (dt a b).1:Rat)=m at e3⊢
 calc m*x=m*(x*y)*x:=by rw[e2,Rat.mul_one]
  _=(m*y)*x*x:=by grind
  _=_:=by rw[e3];grind
theorem amD{a b:Rd}(h:(iF a b).2=0):qv (iF a b).1=qv a+qv b:=by
 unfold qv;rw[P9 h,Rat.intCast_add,Rat.add_mul]
theorem aBW{x:Rd}:∀ {n:Nat} {c d:Rd},azj x n c=some d->qv d=qv c*qv x^n
 |0,c,d,h=>by
  cases h;rw[Rat.pow_zero,Rat.mul_one]
 |n+1,c,d,h=>by
  unfold azj at h;split at h
  ·rename_i h0;rw[aBW h,aDb h0,aDL];grind
  ·cases h
theorem aCd:∀ {es:List Int} {xs:List Rd} {c d:Rd},aAL es xs c=some d->qv d=qv c*JJ (xs.map qv) (D8 es)
 |e::es,x::xs,c,d,h=>by
  simp only[aAL,awN]at h;obtain⟨m,h1,h2⟩:=h;show qv d=qv c*(qv x^e.toNat*JJ (xs.map qv) (D8 es));rw[aCd h2,aBW h1,Rat.mul_assoc]
 |[],xs,c,d,h=>by
  simp only[aAL]at h;cases h;cases xs<;>simp[D8,JJ]
 |e::es,[],c,d,h=>by
  simp only[aAL]at h;cases h;simp[D8,JJ]
theorem aCB{xs:List Rd}:∀ {l:List Rt} {s:Rd},(aAO xs l s).2=0->qv (aAO xs l s).1=qv s+fv (xs.map qv) l
 |[],s,_=>by
  simp only[aAO,fv];grind
 |t::l,s,h=>by
  unfold aAO at h⊢;cases hp:aAL t.exps xs t.c with
  |none=>rw[hp]at h;simp at h
  |some d=>
   rw[hp]at h;simp only at h⊢;split at h
   ·rename_i h0;rw[if_pos h0,aCB h,amD h0,aCd hp];show _=qv s+(qv t.c*JJ (xs.map qv) (D8 t.exps)+fv (xs.map qv) l);grind
   ·simp at h
theorem aCe{a:Rp}{xs:List Rd}(h:(aAM a xs).2=0):qv (aAM a xs).1=fv (xs.map qv) a.terms:=by
 unfold aAM at h⊢;split at h
 ·rename_i he;rw[if_pos he,aCB h,HC];grind
 ·simp at h
theorem aBG(x:Rat)(m:Nat):∀n,x^ (m+n)=x^m*x^n
 |0=>by simp[Rat.pow_zero]
 |n+1=>by rw[←Nat.add_assoc,aDL,aBG x m n,aDL,Rat.mul_assoc]
theorem aCC:∀ {es:List Int} {xs:List Rd},JJ (xs.map qv) (D8 es)=(pwZ es xs:Rat)*EQ^dg es xs
 |e::es,x::xs=>by
  show qv x^e.toNat*JJ (xs.map qv) (D8 es)=((zI x^e.toNat*pwZ es xs:Int):Rat)*EQ^ (e.toNat+dg es xs);rw[aCC,aBG,aFn];have:qv x^e.toNat=((zI x^e.toNat:Int):Rat)*EQ^e.toNat:=by
   generalize e.toNat=n;induction n with
   |zero=>simp[Rat.pow_zero]
   |succ n ih=>
    rw[aDL,ih,Int.pow_succ,aFn,aDL];unfold qv;grind
  rw[this];grind
 |[],xs=>by
  show JJ _ _=((1:Int):Rat)*EQ^0;cases xs<;>simp[Rat.pow_zero,D8,JJ]
 |e::es,[]=>by
  show(1:Rat)=((1:Int):Rat)*EQ^0;simp[Rat.pow_zero]
theorem aCD{xs:List Rd}{W:Int}(hW:(W:Rat)*EQ=1){w:Int}:∀ {l:List Rt},(∀t∈l,VT w t)->fv (xs.map qv) l*(W:Rat)^32=EQ*(pi l (fun u=>pwZ u xs*W^ (32-dg u xs)):Rat)
 |[],_=>by show(0:Rat)*_=EQ*((0:Int):Rat);simp
 |t::l,h=>by
  have ih:=aCD (xs:=xs) hW (l:=l) fun t ht=>h t (List.mem_cons_of_mem _ ht);have hd:=(h t (by simp)).dg xs;show(qv t.c*JJ (xs.map qv) (D8 t.exps)+fv (xs.map qv) l)*(W:Rat)^32=EQ*((zI t.c*(pwZ t.exps xs*W^ (32-dg t.exps xs))+pi l _:Int):Rat);rw[Rat.intCast_add,Rat.mul_add,←ih,aCC,aFn,aFn];have e1:∀n:Nat,((W^n:Int):Rat)=(W:Rat)^n:=fun n=>by
   induction n with
   |zero=>simp[Rat.pow_zero]
   |succ n ih=>rw[Int.pow_succ,aFn,ih,aDL]
  have e2:∀n:Nat,(W:Rat)^n*EQ^n=1:=fun n=>by
   induction n with
   |zero=>simp[Rat.pow_zero]
   |succ n ih=>
    rw[aDL,aDL];have h1:=hW;generalize(W:Rat)^n=a at ih⊢;generalize EQ^n=b at ih⊢;generalize(W:Rat)=c at h1⊢
    calc a*c*(b*EQ)=(a*b)*(c*EQ):=by grind
     _=1:=by rw[ih,h1,Rat.mul_one]
  have e3:(W:Rat)^32=(W:Rat)^ (32-dg t.exps xs)*(W:Rat)^dg t.exps xs:=by rw[←aBG];congr 1;omega
  have e4:=e2 (dg t.exps xs);rw[e1,e3,show qv t.c=(zI t.c:Rat)*EQ from rfl];generalize(W:Rat)^ (32-dg t.exps xs)=a at*
  generalize(W:Rat)^dg t.exps xs=b at*
  generalize EQ^dg t.exps xs=c at*
  generalize fv (xs.map qv) l=d at*
  generalize(zI t.c:Rat)=z at*
  generalize(pwZ t.exps xs:Rat)=p at*
  have e5:z*EQ*(p*c)*(a*b)=z*EQ*p*a*(b*c):=by grind
  have e6:(z*EQ*(p*c)+d)*(a*b)=z*EQ*p*a*(b*c)+d*(a*b):=by grind
  rw[e6,e4];grind
theorem akp{e:Int}(h1:1<=e)(h2:e<=32):qv (intD e)=(e:Rat):=by
 obtain⟨W,hW⟩:=amk;have h1:=hW e.natAbs (by omega);have h2:=hW 1 (by omega);have h3:bm false 1 0=one:=by grind[rK,one,iw,uA,av,qD,fj]
 have h5:((e.natAbs:Nat):Int)=e:=by omega
 rw[h3]at h2;rw[h5]at h1;have h4:=JO;unfold qv at h4⊢;unfold intD;rw[h1,aFn,Rat.mul_assoc];rw[h2,aFn]at h4;have h6:(((1:Nat):Int):Rat)=1:=rfl;rw[h6,Rat.one_mul]at h4;rw[h4,Rat.mul_one]
def cE(dom:List Ri)(k j:Nat):Rd:=if k/2^j%2=1 then(dom.getD j dN).hi else(dom.getD j dN).lo
theorem aDz{a b y:Rat}(h1:a<=y)(h2:y<=b):∃t,y=a+(b-a)*t/\0<=t/\t<=1:=by
 by_cases he:b-a=0
 ·exact⟨0,by grind,Rat.le_refl,by decide⟩
 ·have hp:0<b-a:=by grind
  have hi:=Qq hp;have hm:(b-a)*(b-a)⁻¹=1:=Rat.mul_inv_cancel _ he;refine⟨(y-a)*(b-a)⁻¹,?_,Rat.mul_nonneg (by grind) (Rat.le_of_lt hi),?_⟩
  ·generalize(b-a)⁻¹=w at*
   grind
  ·have:=Rat.mul_nonneg (show 0<=b-y by grind) (Rat.le_of_lt hi);generalize(b-a)⁻¹=w at*
   grind
theorem ab0{z:Int}{k:Nat}{e:Int}:cM (z*((2^k:Nat):Int)) e=cM z (e+k):=by
 have hp:0< ((2^k:Nat):Int):=Int.natCast_pos.2 (axb k);generalize hP:(2^k:Nat)=P at hp;grind[Int.mul_nonneg,Int.le_of_lt,Int.mul_neg_of_neg_of_pos,cM,Int.natAbs_mul,Int.natAbs_natCast,jk]
def FM:Rd:=⟨false,[1],1⟩
theorem KW:vd FM=true/\Ok0 FM:=⟨by decide,⟨fun x hx=>by rw[List.mem_singleton.1 hx];decide,by decide⟩⟩
theorem ae8:dt one one=(one,0):=by
 unfold dt;rw[eX.1,axm,if_pos rfl];have h:zI one=((2^ (16384+0):Nat):Int):=FL (n:=false) (k:=0);have h2:=ab0 (z:=zI one) (k:=16384+0) (e:=-32768);rw[←h]at h2;rw[h2,show(-32768:Int)+((16384+0:Nat):Int)=-16384 by omega,AL eX.2 eX.1,DZ eX.1]
theorem WF:iF one one=(FM,0):=by
 unfold iF;rw[eX.1,axm,if_pos rfl];have h:zI one=((2^ (16384+0):Nat):Int):=FL (n:=false) (k:=0);have h2:=FL (n:=false) (k:=0+1);have hp:∀a:Nat,2^ (a+(0+1))=2^ (a+0)*2:=fun a=>by rw[awP,axa,Nat.pow_one,axo]
 rw[hp 16384,show(⟨false,[1],((0+1:Nat):Int)⟩:Rd)=FM from rfl]at h2;unfold bB at h2;rw[if_neg awW]at h2;have e:zI one+zI one=zI FM:=by
  omega
 rw[e,AL KW.2 KW.1,DZ KW.1]
def s0:Rs:=⟨[lh],2,24⟩
abbrev tX(n:Int)(c:Rd):Rt:=⟨[n],c⟩
def xP:Rp:=⟨1,[tX 1 one]⟩
def qP:Rp:=⟨1,[tX 2 one]⟩
def yP:Rp:=⟨1,[tX 1 one,tX 2 one]⟩
def hP:Rp:=⟨1,[tX 3 FM,tX 4 one]⟩
def wP:Rp:=⟨1,[tX 2 one,tX 3 FM,tX 4 one]⟩
theorem aib{n:Int}{c:Rd}(hn:0<=n/\n<=32)(h:vd c=true/\Ok0 c)(h0:c.m.length≠0):VT 1 (tX n c):=⟨h.2,rfl,by decide,h.1,h0,fun e he=>by grind,by show n+0<=32;omega⟩
theorem cl1{a:Rt}(h:VT 1 a):Cl 1 [a]:=Cl.mk' h (fun _ h=>nomatch h) (Cl.nil _)
theorem cl2{a:Rt}{b:Rt}{l:List Rt}(h:VT 1 a)(hb:Cl 1 (b::l))(h1:∀t∈ (b::l),bO a.exps t.exps<0):Cl 1 (a::b::l):=Cl.mk' h h1 hb
theorem ZI{n:Int}(hn:0<=n/\n<=32):VT 1 (tX n one):=aib hn eX (by decide)
theorem v2_{n:Int}(hn:0<=n/\n<=32):VT 1 (tX n FM):=aib hn KW (by decide)
theorem ahv:Cl 1 yP.terms:=cl2 (ZI (by decide)) (cl1 (ZI (by decide))) (by decide+revert)
theorem ahw:Cl 1 hP.terms:=cl2 (v2_ (by decide)) (cl1 (ZI (by decide))) (by decide+revert)
theorem ahx:vp yP=true:=CI ahv (by decide) (by decide) (by decide)
theorem Bg:Fit s0 xP:=⟨rfl,by decide,cl1 (ZI (by decide)),by decide+revert,fun t ht=>by rw[List.mem_singleton.1 ht];decide⟩
theorem O2:Fit s0 qP:=⟨rfl,by decide,cl1 (ZI (by decide)),by decide+revert,fun t ht=>by rw[List.mem_singleton.1 ht];decide⟩
theorem O3:Fit s0 yP:=⟨rfl,by decide,ahv,by decide+revert,by decide+revert⟩
theorem akq:In (qv tp) lh:=Or.inr ⟨rfl,KP.2,Rat.le_refl,zM.2 (by
 rw[show zI tp=bB true (2^ (16384+0))from FL (k:=0),show zI lh.hi=bB false (2^ (16384+0))from FL (k:=0)];simp only[bB,if_true,axV,if_false];omega)⟩
theorem ahy{x:Ri}{q:Rat}(h:In q x)(ha:x.all=false):lF x x=true:=Sb.ins ⟨⟨_,h⟩,Or.inr ⟨ha,ha,⟨_,h⟩,Int.le_refl _,Int.le_refl _⟩⟩
theorem Ej:mr s0=true:=by
 have h:=ahy akq rfl;unfold mr;simp[s0,h];rfl
theorem Sm:OkS s0:=⟨fun x hx=>by rw[List.mem_singleton.1 hx];exact KP.1,by decide⟩
theorem vm0{q:Rp}(h:Fit s0 q):uN s0 ⟨q,bU⟩=true:=aoK Ej h.c h.v h.n h.d ((rR (m:=0)).i.elim fun _ h=>h.v) h.r
theorem ev0{a b:Rp}(ha:Fit s0 a)(hb:Fit s0 b):Ef s0 [⟨a,bU⟩,⟨b,bU⟩]=true:=by
 grind[Ef,Ej,vm0]
theorem amF:jJ xP xP=(qP,0):=by
 unfold jJ;simp only[xP,tX,jS,kN,CK,ae8,if_true,awV,axH,axe];rfl
theorem amG:Cd xP qP=(yP,0):=by
 rfl
theorem amH:jJ yP yP=(wP,0):=by
 unfold jJ;rw[if_pos (qQ.2 ⟨ahx,ahx,rfl⟩),if_neg (by rw[show ej yP=2 by rfl];omega)];simp only[yP,tX,jS,kN,CK,ae8,if_true,awV,axH,axe,axM,axc];have e:∀c:Rd,gM [] [tX 2 c,tX 3 c,tX 3 c,tX 4 c]=((if(iF c c).2=0 then some (if(iF c c).1.m.length=0 then []else [tX 3 (iF c c).1])else none).map (tX 2 c::·)).bind fun l=>gM l [tX 4 c]:=fun c=>rfl;show lE 1 (gM [] [tX 2 one,tX 3 one,tX 3 one,tX 4 one])=_;rw[e,WF];rfl
theorem aoL:cP wP 2=(qP,hP):=by
 rfl
theorem mz{q:Rp}(h:Fit s0 q)(hl:∀t∈q.terms,t.c=one):ce (dH q s0.dom s0.p) bU s0.p=bU:=
 ae5 (ae7 (m:=0) Sm Ej h.ok (h.vp Ej) h.v (fun t ht=>by grind[O1]) (by have:=h.n;omega)).k rfl
theorem z3:nv s0.p bU [bU,bU]=bU:=by
 simp only[nv,KV (show bJ s0.p=true from rfl)]
theorem amI{a b q:Rp}(ha:Fit s0 a)(hb:Fit s0 b)(la:∀t∈a.terms,t.c=one)(lb:∀t∈b.terms,t.c=one)(hm:jJ a b=(q,0)):Nb s0 ⟨a,bU⟩ ⟨b,bU⟩=gr s0 q 0 bU:=by
 unfold Nb;rw[if_pos (ev0 ha hb),hm,mz ha la,mz hb lb,ae5 (rR (m:=0)).k (show bJ s0.p=true from rfl),z3]
theorem c_x:∀t∈xP.terms,t.c=one:=fun t ht=>by rw[List.mem_singleton.1 ht]
theorem c_y:∀t∈yP.terms,t.c=one:=fun t ht=>by
 rcases List.mem_cons.1 ht with rfl|ht
 all_goals grind
theorem asz:abZ s0 0=⟨xP,bU⟩:=by
 unfold abZ;rw[Ej];rfl
theorem asA:Nb s0 ⟨xP,bU⟩ ⟨xP,bU⟩=⟨qP,bU⟩:=by
 rw[amI Bg Bg c_x c_x amF,WE Ej O2]
theorem asB:adM s0 ⟨xP,bU⟩ ⟨qP,bU⟩=⟨yP,bU⟩:=by
 unfold adM;rw[if_pos (ev0 Bg O2),amG,KV rfl,WE Ej O3]
noncomputable def zR:Ri:=cW bU (cW (dH hP s0.dom s0.p) bU s0.p) s0.p
theorem asC:Nb s0 ⟨yP,bU⟩ ⟨yP,bU⟩=⟨qP,zR⟩:=by
 rw[amI O3 O3 c_y c_y amH];have e:wF s0 wP=((qP,cW (dH hP s0.dom s0.p) bU s0.p),true):=by
  unfold wF;simp only[show cP wP s0.ord=(qP,hP)from aoL,Sl Ej O2,ZG];rfl
 unfold gr;rw[e,if_pos rfl,if_pos rfl];rfl
theorem amJ:OkP hP:=⟨fun t ht=>(ahw.t t ht).ok⟩
theorem amK:vp hP=true:=CI ahw (by decide) (by decide) (by decide)
theorem asD:Bd 3 (dH hP s0.dom s0.p):=ae7 (m:=1) Sm Ej amJ amK rfl (fun t ht=>by
 rcases List.mem_cons.1 ht with rfl|ht
 ·exact amz (k:=1)
 ·rw[List.mem_singleton.1 ht];exact O1.up (by decide)) (by decide)
theorem aoM:zR.all=false:=(QD (m:=4) rfl (by decide) rR (QD (m:=3) rfl (by decide) asD rR)).a
theorem aid:In 3 zR:=by
 have h1:=JO;have h2:qv FM=2:=by
  grind[amD,one,WF,qv,FM]
 have hp:tP s0.dom [1] [1]:=⟨by grind[lh],by decide,by decide,trivial⟩;have hi:=amx (p:=s0.p) amJ Sm.d (by decide) (ZH Sm Ej amK rfl) hp;have e:fv [1] hP.terms=3:=by
  simp[fv,hP,tX,JJ,D8,h1,h2];grind
 rw[e]at hi;have hz:In 0 bU:=by
  have:=rQ aU.1 aU.2;rwa[HC]at this
 have:=n7 (p:=s0.p) hz (n7 (p:=s0.p) hi hz);have e2:(0:Rat)+(3+0)=3:=by grind
 rwa[e2]at this
theorem aCl:(KK:Rat)*EQ=1:=by
 have h:=YN (a:=one) (b:=one) (by rw[ae8]);rw[ae8]at h;have h1:=JO;unfold qv at h1;have hk:KK=zI one:=by
  refine Int.eq_of_mul_eq_mul_left (fun h0=>?_) h
  simp_all
 grind
noncomputable def K33:Rat:=(KK:Rat)^32*KK
theorem aCE:(KK:Rat)≠0:=fun h=>by
 grind[aCl]
theorem aDd:K33≠0:=by
 have hp:∀n:Nat,(KK:Rat)^n≠0:=fun n=>by
  induction n with
  |zero=>grind
  |succ n ih=>grind[aCE]
 exact fun h=>(Rat.mul_eq_zero.1 h).elim (hp 32) aCE
theorem aCm{xs:List Rd}{w:Int}{l:List Rt}(h:∀t∈l,VT w t):fv (xs.map qv) l*K33=(pi l (ph xs):Rat):=by
 have h1:=aCD (xs:=xs) aCl h;have h2:(pi l (fun u=>pwZ u xs*KK^ (32-dg u xs)):Rat)=(pi l (ph xs):Rat):=rfl;rw[h2]at h1;unfold K33;rw[←Rat.mul_assoc,h1,Rat.mul_comm,←Rat.mul_assoc,aCl,Rat.one_mul]
theorem aDA{x y:Rat}(h:x*K33=y*K33):x=y:=by
 have hm:K33*K33⁻¹=1:=Rat.mul_inv_cancel _ aDd;grind
theorem aDe{a b:Rp}{xs:List Rd}(oa:OkP a)(ob:OkP b)(h:(ayM a b).2=0):fv (xs.map qv) (ayM a b).1.terms=fv (xs.map qv) a.terms-fv (xs.map qv) b.terms:=by
 obtain⟨pa,pb,pc,f⟩:=azM oa ob h;refine aDA ?_;rw[aCm pc.cl.t,f,Rat.intCast_sub,←aCm pa.cl.t,←aCm pb.cl.t];grind
def Des(m:Rm)(xs:List Rat)(w:Rat):Prop:=In (w-fv xs m.P.terms) m.R
section
variable {s:Rs} {a b:Rm} {xs:List Rd} {ts:List Rat} {u v:Rat}
theorem aBX{x:Ri}(v:vi x=true)(ha:x.all=true):x=dN:=by
 unfold vi at v;rw[ha]at v;simp at v;obtain⟨l,h,a⟩:=x;simp only at v ha;rw[ah0 v.1,ah0 v.2,ha];rfl
theorem aCF{x:Ri}{d:Rd}(ox:OkI x)(h:Qw x d=true):In (qv d) x/\vd d=true:=by
 unfold Qw at h;simp only[awS,Bool.or_eq_true,decide_eq_true_eq]at h;obtain⟨⟨h1,h2⟩,h3⟩:=h;refine⟨?_,h2⟩;cases ha:x.all with
 |true=>exact Or.inl (aBX h1 ha)
 |false=>
  obtain⟨_,v1,v2⟩:=Tt (show kI x=true by grind[kI]);rcases h3 with h3| ⟨h3,h4⟩
  ·grind
  ·exact Or.inr ⟨ha,⟨⟨v1,ox.lo⟩,v2,ox.hi⟩,zM.2 h3,zM.2 h4⟩
theorem aCZ{x y:Ri}{q:Rat}(hx:In q x)(hy:OkI y)(h:lF x y=true):In q y:=by
 unfold lF at h;split at h
 ·rename_i g;obtain⟨g1,g2,g3⟩:=g;cases ya:y.all with
  |true=>rw[aBX g2 ya];exact Or.inl rfl
  |false=>
   rw[ya]at h;simp only[axY,awS,decide_eq_true_eq]at h;rcases hx with rfl| ⟨x1,x2,x3,x4⟩
   ·cases g3
   ·have g4:=g2;unfold vi at g4;rw[if_neg (by grind)]at g4;simp only[awS,decide_eq_true_eq]at g4;exact Or.inr ⟨ya,⟨⟨g4.1,hy.lo⟩,⟨g4.2.1,hy.hi⟩⟩,aDM (zM.2 h.1) x3,aDM x4 (zM.2 h.2)⟩
 ·grind[aBX]
theorem aC0(os:OkS s)(oa:OkM a)(ob:OkM b)(h:aBv s a b=true)(hpt:tP s.dom (xs.map qv) ts)(ha:Des a (xs.map qv) u):Des b (xs.map qv) u:=by
 unfold aBv at h;simp only[awS,decide_eq_true_eq]at h;obtain⟨h1,_,h3,h4⟩:=h;obtain⟨q1,q2⟩:=OX h1;obtain⟨a1,a2,a3,_⟩:=Eg oa (q2 a (by simp));obtain⟨b1,_⟩:=Eg ob (q2 b (by simp));have hl:s.dom.length<=100000:=by grind[n9]
 obtain⟨_,_,k,_⟩:=azM a1 b1 h3;have i1:=amx (p:=s.p) (ay5 a1 b1) os.d hl (ZH os q1 k.p (k.v.trans a3)) hpt;rw[aDe a1 b1 h3]at i1;refine aCZ (x:=cW (dH (ayM a.P b.P).1 s.dom s.p) a.R s.p) ?_ ob.r h4;have:=n7 (p:=s.p) i1 ha;grind
end
theorem aDf{a b:Rd}(h:(l8 a b).2=0):qv (l8 a b).1=qv a-qv b:=by
 have vb:vd b=true:=by
  unfold l8 at h;grind
 rw[ahb vb]at h⊢;rw[amD h];have:qv (gJ b)=-qv b:=by
  unfold qv;rw[(vS vb).1];grind
 grind
def ptB:List Ri->List Rd->Bool
 |d::ds,x::xs=>Qw d x&&ptB ds xs
 |_,_=>true
theorem aC1{s:Rs}{x:List Rd}(os:OkS s)(ox:∀d∈x,Ok0 d)(hl:x.length=s.dom.length)(h8:x.length<=100000):∀ (k n:Nat),n+k=x.length->∀ (S:ak) (h:ac) (X:Option (Ex×St)),aj 0 [] (au (ai R (az false) aAr) [1,2,5] [2] S h)=X->S 1=BE x->S 2=.ref 2 none 0 0 0->S 5=I n->h 2=.bx (Ed s)->
  ∃hh,X=if ptB (s.dom.drop n) (x.drop n)=true then some (.normal,⟨fun _=>.any,hh⟩)else some (.ret,⟨upd (fun _=>.any) 4 (B false),hh⟩):=by
 intro k;induction k with
 |zero=>
  intro n hn S h X hX h1 h2 h5 k2;have e1:((n:Int)< (x.length:Int))=False:=ff;subst hX;rw[ag,show x.drop n=[]from axi (by omega)];have e0:ptB (s.dom.drop n) []=true:=by cases s.dom.drop n<;>rfl
  rw[e0];refine⟨?hh0,?_⟩;rotate_left
  ·simp only[aAr,BE,go_sem,h1,h2,h5,k2,e1,aur];rfl
 |succ k ih=>
  intro n hn S h X hX h1 h2 h5 k2;have hd:n<s.dom.length:=by omega
  have hx:n<x.length:=by omega
  have e1:((n:Int)< (x.length:Int))=True:=tt;have e2:aW (bL s.dom) (n:Int)=some (.ipt (ao s.dom[n])):=CR rfl (List.getElem?_eq_getElem hd);have e4:aW (DR x) (n:Int)=some (.ipt (ah x[n])):=aiy rfl (List.getElem?_eq_getElem hx);have e3:IntKind.i64.wrap ((n:Int)+1)=((n+1:Nat):Int):=wi;have v1:=aCc (os.d _ (axr hd)) (ox _ (axr hx));rw[axh hd,axh hx];have e0:ptB (s.dom[n]::s.dom.drop (n+1)) (x[n]::x.drop (n+1))=(Qw s.dom[n] x[n]&&ptB (s.dom.drop (n+1)) (x.drop (n+1))):=rfl;rw[e0];have ih':=ih (n+1) (by omega);subst hX;rw[ag];generalize Qw s.dom[n] x[n]=b at v1⊢;simp only[am,ao,ae,ah]at e2 e4 v1;cases b with
  |false=>
   refine⟨?hh1,?_⟩;rotate_left
   ·simp only[aAr,BE,go_sem,h1,h2,h5,k2,e1,e2,e4,v1,aur];rfl
  |true=>
   simp only[aAr,BE,go_sem,h1,h2,h5,k2,e1,e2,e3,e4,v1,aur];exact ih' _ _ _ rfl rfl rfl rfl rfl
def ptR(s:Rs)(x:List Rd):Bool:=decide (x.length=s.dom.length)&&ptB s.dom x
theorem aBL{s:Rs}{x:List Rd}(os:OkS s)(ox:∀d∈x,Ok0 d)(h8:x.length<=100000):R F.r25_Point [uM s,BE x] []=some (B (ptR s x),[]):=by
 refine ax aB4 rfl ?_;unfold ptR;by_cases g:x.length=s.dom.length
 ·have f:((x.length:Int)=(s.dom.length:Int))=True:=tt;have hL:=aC1 os ox g h8 x.length 0 (awP _);rw[ax0,ax0]at hL;rw[decide_eq_true g,awT];generalize hLL:au (ai R (az false) aAr)=L at hL;have hX:∀s h,ai R (az false) (.loop [1,2,5] [2] aAr) s h=L [1,2,5] [2] s h:=fun s h=>by rw[←hLL];rfl
  simp only[aA9,aBs,BE,go_sem,hX,aur,f];generalize hB:aj 0 [] (L _ _ _ _)=X;obtain⟨hh,hE⟩:=hL _ _ _ hB rfl rfl rfl rfl;rw[hE];cases ptB s.dom x with
  |true=>
   simp only[go_sem]
  |false=>
   simp only[go_sem]
 ·have f:((x.length:Int)=(s.dom.length:Int))=False:=ff;rw[decide_eq_false g,awU];simp only[aA9,aBs,BE,go_sem,aur,f]
def aBi(m:Rm)(x:List Rd)(r:Rd):Rd×Bool:=if(aAM m.P x).2=0 then((iF (aAM m.P x).1 r).1,decide ((iF (aAM m.P x).1 r).2=0))else((aAM m.P x).1,false)
theorem aCn{m:Rm}{x:List Rd}{r:Rd}(om:OkP m.P)(ox:∀d∈x,Ok0 d)(h2:x.length<=100000)(or:Ok0 r):R F.r25_Value [kO m,BE x,ae r] []=some (.tup [ae (aBi m x r).1,B (aBi m x r).2],[]):=by
 refine ax aB5 rfl ?_;have h1:=aBQ om ox h2;have o1:=(aBF m.P x).2;unfold aBi;generalize aAM m.P x=v at h1 o1⊢;have h3:=aCa o1 or;simp only[rV,aO,ae,ah,BE]at h1 h3;by_cases g:v.2=0
 ·have f:(v.2=0)=True:=eq_true g;simp only[aBa,aBt,ae,ah,BE,go_sem,h1,h3,f]
 ·have f:(v.2=0)=False:=eq_false g;simp only[aBa,aBt,ae,ah,BE,go_sem,h1,f]
def aBN(m:Rm)(x:List Rd)(v:Rd):Bool:=if(aAM m.P x).2=0 then(if(l8 v (aAM m.P x).1).2=0 then Qw m.R (l8 v (aAM m.P x).1).1 else true)else true
theorem aCK{m:Rm}{x:List Rd}{v:Rd}(om:OkP m.P)(oi:OkI m.R)(ox:∀d∈x,Ok0 d)(h2:x.length<=100000)(ov:Ok0 v):R F.r25_Describes [kO m,BE x,ae v] []=some (B (aBN m x v),[]):=by
 refine ax aBH rfl ?_;have h1:=aBQ om ox h2;have o1:=(aBF m.P x).2;unfold aBN;generalize aAM m.P x=e at h1 o1⊢;have h3:=aCY ov o1;have o3:=(AP v e.1).2;generalize l8 v e.1=d at h3 o3⊢;have h4:=aCc oi o3;simp only[rV,aO,am,ao,ae,ah,BE]at h1 h3 h4;by_cases g:e.2=0
 ·have f:(e.2=0)=True:=eq_true g;by_cases g2:d.2=0
  ·have f2:(d.2=0)=True:=eq_true g2;simp only[aAK,aAY,ae,ah,BE,go_sem,h1,h3,h4,f,f2]
  ·have f2:(d.2=0)=False:=eq_false g2;simp only[aAK,aAY,ae,ah,BE,go_sem,h1,h3,f,f2]
 ·have f:(e.2=0)=False:=eq_false g;simp only[aAK,aAY,ae,ah,BE,go_sem,h1,f]
def aBY(s:Rs)(a b:Rm)(x:List Rd)(r t:Rd):Bool:=(uN s a&&uN s b)&& (decide ((r.m.length:Int)<=20)&& (decide ((t.m.length:Int)<=20)&& (ptR s x&& (Qw a.R r&&Qw b.R t))))
theorem aCG{s:Rs}{a b:Rm}{x:List Rd}{r t:Rd}(os:OkS s)(oa:OkM a)(ob:OkM b)(ha:∀t∈a.P.terms,t.c.m.length<=100000)(hb:∀t∈b.P.terms,t.c.m.length<=100000)(ox:∀d∈x,Ok0 d)(h8:x.length<=100000)(or:Ok0 r)(ot:Ok0 t):R F.l25_point [uM s,kO a,kO b,BE x,ae r,ae t] []=some (B (aBY s a b x r t),[]):=by
 refine ax aB3 rfl ?_;have h1:=aeH os oa ob ha hb;have h2:=aBL os ox h8;have h3:=aeD oa.r or;have h4:=aeD ob.r ot;unfold aBY;generalize(uN s a&&uN s b)=b1 at h1⊢;generalize ptR s x=b2 at h2⊢;generalize Qw a.R r=b3 at h3⊢;generalize Qw b.R t=b4 at h4⊢;generalize d1:decide ((r.m.length:Int)<=20)=x1;generalize d2:decide ((t.m.length:Int)<=20)=x2;simp only[am,ao,ae,ah,BE]at h2 h3 h4;cases b1<;>cases x1<;>cases x2<;>cases b2<;>cases b3<;>simp only[aBk,aBB,ae,ah,BE,go_sem,h1,h2,h3,h4,d1,d2,awT,awU,axx]
theorem aDi{m:Rm}{x:List Rd}{v:Rd}(h:Des m (x.map qv) (qv v)):aBN m x v=true:=by
 unfold aBN;split
 ·rename_i h1;split
  ·rename_i h2;refine ajM ?_ (AP _ _).1;rw[aDf h2,aCe h1];exact h
  ·rfl
 ·rfl
theorem aDj{m:Rm}{x:List Rd}{r:Rd}(h:(aBi m x r).2=true):qv (aBi m x r).1=fv (x.map qv) m.P.terms+qv r:=by
 unfold aBi at h⊢;split at h
 all_goals simp_all[if_pos,amD,of_decide_eq_true,aCe]
theorem aDg(m:Rm)(x:List Rd)(r:Rd):Ok0 (aBi m x r).1:=by
 grind[aBi,aiT,aBF]
theorem aCH:∀ {ds:List Ri} {xs:List Rd},(∀d∈ds,OkI d/\d.all=false)->xs.length=ds.length->ptB ds xs=true->∃ts,tP ds (xs.map qv) ts
 |[],[],_,_,_=>⟨[],trivial⟩
 |d::ds,x::xs,hd,hl,h=>by
  have h':(Qw d x&&ptB ds xs)=true:=h;rw[awS]at h';obtain⟨ts,ht⟩:=aCH (ds:=ds) (xs:=xs) (fun d h=>hd d (by grind)) (by grind) h'.2;obtain⟨o,ha⟩:=hd d (by simp);rcases(aCF o h'.1).1 with rfl| ⟨_,_,h1,h2⟩
  ·cases ha
  ·obtain⟨t,t1,t2,t3⟩:=aDz h1 h2;exact⟨t::ts,t1,t2,t3,ht⟩
theorem aDk{s:Rs}{x:List Rd}(os:OkS s)(hs:mr s=true)(h:ptR s x=true):∃ts,tP s.dom (x.map qv) ts:=by
 unfold ptR at h;rw[awS,decide_eq_true_eq]at h;exact aCH (fun d hd=>⟨os.d d hd,(ae6 os hs d hd).a⟩) h.1 h.2
theorem Sf{s:Rs}{l:List Rm}(h:JZ s l=false):∀m∈l,m.P.terms.length<=40/\∀t∈m.P.terms,t.c.m.length<=100000:=by
 unfold JZ at h;simp only[Bool.or_eq_false_iff]at h;intro m hm;have:=List.any_eq_false.1 h.2.2.2.2.2 m hm;unfold GD at this;simp only[Bool.or_eq_true,not_or,decide_eq_true_eq,List.any_eq_true,not_exists,not_and]at this;exact⟨by omega,fun t ht=>by have:=this.2.2 t ht;omega⟩
theorem ajY{s:Rs}{a b:Rm}(h1:uN s a=true)(h2:uN s b=true):Ef s [a,b]=true/\Ef s [a]=true:=by
 have:mr s=true:=by unfold uN at h1;simp only[awS]at h1;exact h1.1
 unfold Ef;simp[this,h1,h2]
theorem aAW:(true != (false==false))=false:=rfl
theorem aAX:(true != (true==true))=false:=rfl
theorem aCL{s:Rs}{a b:Rm}{x:List Rd}{r:Rd}(haw:R F.l25_awake [] []=some (B true,[]))(os:OkS s)(oa:OkM a)(ob:OkM b)(ox:∀d∈x,Ok0 d)(_lx:x.length<4611686018427387904)(or:Ok0 r):R F.l25_ModelInside [uM s,kO a,kO b,BE x,ae r] []=some (B true,[]):=by
 refine ax aBA rfl ?_;have hg:=abW os (l:=[a,b]) (two oa ob) (by simp);simp only[axp,axv]at hg;cases g0:JZ s [a,b]with
 |true=>
  rw[g0]at hg;simp only[azY,aAn,BE,ae,ah,go_sem,haw,hg]
 |false=>
 rw[g0]at hg;by_cases g1:10< (x.length:Int)
 case pos=>
  have f1:(10< (x.length:Int))=True:=eq_true g1;simp only[azY,aAn,BE,ae,ah,go_sem,haw,hg,aur,f1]
 have f1:(10< (x.length:Int))=False:=eq_false g1;have lx:x.length<=100000:=by omega
 have hi:=aCk os oa ob;have la:=(Sf g0 a (by simp)).2;have lb:=(Sf g0 b (by simp)).2;have hpr:=aeH os oa ob la lb;cases g3:uN s a&&uN s b with
 |false=>
  rw[g3]at hpr;have e0:aBv s a b=false:=by
   unfold aBv Ef;cases mr s
   ·rfl
   ·have:(![a,b].any fun m=>!uN s m)=false:=by
     simp only[List.any_cons,List.any_nil,Bool.or_false];revert g3;cases uN s a<;>cases uN s b<;>simp
    rw[this];rfl
  rw[e0]at hi;simp only[azY,aAn,BE,ae,ah,go_sem,haw,hg,aur,f1,hi,hpr]
 |true=>
 rw[g3]at hpr;have g4:=g3;rw[awS]at g4;obtain⟨va,vb⟩:=g4;obtain⟨e2,e1⟩:=ajY va vb;have hs:=(OX e1).1;have hs8:=n9 hs;have hl:s.dom.length<=100000:=by omega
 obtain⟨a1,a2,a3,a4⟩:=Eg oa va;obtain⟨b1,b2,b3,b4⟩:=Eg ob vb;have h3:=azg a1 b1;have c1:=ay5 a1 b1;have r1:=E9 (s:=s) c1 os hl;obtain⟨k1,v1⟩:=qK (p:=s.p) c1 os.d hl;have h4:=HI (s:=s) (x:=dH (ayM a.P b.P).1 s.dom s.p) (l:=[a.R]) k1 (azt oa.r) (by simp);have h5:=JV (x:=cW (dH (ayM a.P b.P).1 s.dom s.p) a.R s.p) s6 ob.r;have vI:vi (cW (dH (ayM a.P b.P).1 s.dom s.p) a.R s.p)=true:=by
  obtain⟨_,j1⟩:=HL k1 v1;obtain⟨_,j2⟩:=HL oa.r a4;exact(n7 j1 j2).v
 have hall:b.R.all=true->lF (cW (dH (ayM a.P b.P).1 s.dom s.p) a.R s.p) b.R=true:=fun hb=>by
  unfold lF;rw[vI,b4,hb];split<;>rfl
 have hp:=aCG os oa ob la lb ox lx or or;have h6:=aBL os ox lx;have h7:=aeD oa.r or;have h8:=aCn a1 ox lx or;have h9:=aCK (v:=(aBi a x r).1) b1 ob.r ox lx (aDg a x r);have key:aBv s a b=true->ptR s x=true->Qw a.R r=true->(aBi a x r).2=true->aBN b x (aBi a x r).1=true:=fun i1 i2 i3 i4=>by
  obtain⟨ts,hpt⟩:=aDk os hs i2;refine aDi (aC0 os oa ob i1 hpt ?_);unfold Des;rw[aDj i4];have:=(aCF oa.r i3).1;have e:fv (x.map qv) a.P.terms+qv r-fv (x.map qv) a.P.terms=qv r:=by grind
  rwa[e]
 have hpp:aBY s a b x r r=true->ptR s x=true/\Qw a.R r=true:=fun h=>by
  unfold aBY at h;simp only[awS]at h;exact⟨h.2.2.2.1,h.2.2.2.2.1⟩
 have hin:aBv s a b=(!(a.R.all&&!b.R.all)&& (decide ((ayM a.P b.P).2=0)&&lF (cW (dH (ayM a.P b.P).1 s.dom s.p) a.R s.p) b.R)):=by
  unfold aBv;rw[e2,awT]
 simp only[nv]at h4;generalize aBv s a b=i0 at hi key hin;generalize aBY s a b x r r=i1 at hp hpp;generalize ptR s x=i2 at h6 key hpp;generalize Qw a.R r=i3 at h7 key hpp;generalize cW _ _ _=z at h4 h5 hall hin;generalize lF z b.R=i4 at h5 hall hin;generalize ayM a.P b.P=q at h3 r1 h4 hin;generalize dH _ _ _=y at r1 h4;generalize aBi a x r=w at h8 h9 key;generalize aBN b x w.1=i5 at h9 key;obtain⟨w1,w2⟩:=w;simp only at h8 h9 key;simp only[pV,aO,am,ao,ae,ah,BE,bL,axp,axv]at h3 r1 h4 h5 hp h6 h7 h8 h9;obtain⟨aP,alo,ahi,aa⟩:=a;obtain⟨bP,blo,bhi,ba⟩:=b;dsimp only at*
 by_cases f0:q.2=0
 case neg=>
  have f:(q.2=0)=False:=eq_false f0;rw[decide_eq_false f0,awU,axx]at hin;subst hin;cases ba<;>simp only[azY,aAn,BE,ae,ah,go_sem,haw,hg,aur,f1,hi,hpr,h3,f,aAW]
 have f:(q.2=0)=True:=eq_true f0;rw[decide_eq_true f0,awT]at hin;cases i4 with
 |false=>
  cases ba with
  |true=>exact absurd (hall rfl) awW
  |false=>
   rw[axx]at hin;subst hin;simp only[azY,aAn,BE,ae,ah,go_sem,haw,hg,aur,f1,hi,hpr,h3,r1,h4,h5,f,aAW]
 |true=>
 rw[Bool.and_true]at hin;cases ba with
 |false=>
  cases aa with
  |true=>
   obtain rfl:i0=false:=hin;simp only[azY,aAn,BE,ae,ah,go_sem,haw,hg,aur,f1,hi,hpr,h3,r1,h4,h5,f,aAW]
  |false=>
   obtain rfl:i0=true:=hin;cases i1 with
   |true=>
    obtain⟨rfl,rfl⟩:=hpp rfl;cases w2 with
    |false=>simp only[azY,aAn,BE,ae,ah,go_sem,haw,hg,aur,f1,hi,hpr,h3,r1,h4,h5,hp,h8,f,aAX]
    |true=>
     obtain rfl:=key rfl rfl rfl rfl;simp only[azY,aAn,BE,ae,ah,go_sem,haw,hg,aur,f1,hi,hpr,h3,r1,h4,h5,hp,h8,h9,f,aAX]
   |false=>
    cases i2 with
    |false=>simp only[azY,aAn,BE,ae,ah,go_sem,haw,hg,aur,f1,hi,hpr,h3,r1,h4,h5,hp,h6,f,aAX]
    |true=>
     cases i3 with
     |false=>simp only[azY,aAn,BE,ae,ah,go_sem,haw,hg,aur,f1,hi,hpr,h3,r1,h4,h5,hp,h6,h7,f,aAX]
     |true=>
      cases w2 with
      |false=>simp only[azY,aAn,BE,ae,ah,go_sem,haw,hg,aur,f1,hi,hpr,h3,r1,h4,h5,hp,h6,h7,h8,f,aAX]
      |true=>
       obtain rfl:=key rfl rfl rfl rfl;simp only[azY,aAn,BE,ae,ah,go_sem,haw,hg,aur,f1,hi,hpr,h3,r1,h4,h5,hp,h6,h7,h8,h9,f,aAX]
 |true=>
  obtain rfl:i0=true:=by rw[hin];cases aa<;>rfl
  cases i1 with
  |true=>
   obtain⟨rfl,rfl⟩:=hpp rfl;cases w2 with
   |false=>cases aa<;>simp only[azY,aAn,BE,ae,ah,go_sem,haw,hg,aur,f1,hi,hpr,h3,r1,h4,h5,hp,h8,f,aAX]
   |true=>
    obtain rfl:=key rfl rfl rfl rfl;cases aa<;>simp only[azY,aAn,BE,ae,ah,go_sem,haw,hg,aur,f1,hi,hpr,h3,r1,h4,h5,hp,h8,h9,f,aAX]
  |false=>
   cases i2 with
   |false=>cases aa<;>simp only[azY,aAn,BE,ae,ah,go_sem,haw,hg,aur,f1,hi,hpr,h3,r1,h4,h5,hp,h6,f,aAX]
   |true=>
    cases i3 with
    |false=>cases aa<;>simp only[azY,aAn,BE,ae,ah,go_sem,haw,hg,aur,f1,hi,hpr,h3,r1,h4,h5,hp,h6,h7,f,aAX]
    |true=>
     cases w2 with
     |false=>cases aa<;>simp only[azY,aAn,BE,ae,ah,go_sem,haw,hg,aur,f1,hi,hpr,h3,r1,h4,h5,hp,h6,h7,h8,f,aAX]
     |true=>
      obtain rfl:=key rfl rfl rfl rfl;cases aa<;>simp only[azY,aAn,BE,ae,ah,go_sem,haw,hg,aur,f1,hi,hpr,h3,r1,h4,h5,hp,h6,h7,h8,h9,f,aAX]
noncomputable def FK:Env:=⟨fun f=>Tk.lookup f,cJ.C,cJ.md⟩
noncomputable def R0:iG:=jY FK
theorem GE{f:FuncId}{fd:FD}{args:List AV}{hs:List Ob}{r:AV×List Ob}(hE:FK.E f=none)(hC:FK.C f=some fd)(hk:FK.md.keep f=false)(h1:args.length=fd.np)(h2:hs.length<=1000)
  (hz:gZ false fd.rs fd.res hs.length (ai R0 (az false) fd.body (tW args) (ap hs))=some r):R0 f args hs=some r:=by
 refine Q7 hE hC ?_;unfold aaE;rw[if_pos ⟨h1,h2⟩,hk];exact hz
theorem zP(o:Ob):ap [o]=upd (fun _=>.dead) 1000 o:=by
 funext i;unfold ap upd;by_cases h:i=1000
 ·subst h;rfl
 ·rw[if_neg h];split
  ·rw[List.getElem?_eq_none (by simp;omega)];rfl
  ·rfl
theorem ahl{r:List AV}{rs:List (List AV)}(h:(rs.length+1)*8<=140737488355328):R0 F.slices_Clone_int_int_ [.sl 1 (r::rs)] []=some (.osl 1 (r::rs),[]):=by
 refine GE (fd:=mM) κ κ κ rfl (by decide) ?_;have e1:((rs.length+1)*8<=140737488355328)=True:=eq_true h;have e2:J3 false (.sl 1 (r::rs))=some (B false):=rfl;simp only[mM,vW,go_sem,e1,e2,axE,axI,awP,axz,awQ,true_and,true_or,axc]
theorem ahm:dZ 4 .emp (some (I 0)) none none=some .emp:=rfl
theorem ajZ{r:List AV}:R0 F.slices_Insert_api_Term_api_Term_ [.emp,I 0,.sl 4 [r]] []=some (.osl 4 [r],[]):=by
 refine GE (fd:=br) κ κ κ rfl (by decide) ?_;have e1:((1:Int)=0)=False:=by decide
 simp only[br,df,go_sem,ahm,axE,axI,Int.natCast_one,e1,awP]
theorem AQ{n i:Nat}(h:i<=n):jT n (some (I i)) none none=some (i,n):=by
 simp only[jT,jL,awV];rw[if_pos ⟨by omega,by omega⟩];rfl
theorem aeP{id k l0 n i:Nat}(h:i<=n):dZ k (.rsl id none k l0 n) (some (I i)) none none=some (.rsl id none k (l0+i) (n-i)):=by
 simp only[dZ,if_true,AQ h,axH,Option.isNone_none]
theorem QB{h:ac}{j k n:Nat}{rows:List (List AV)}(hj:bg j=false)(hh:h j=.ar k rows)(hn:n=rows.length)(hc:aC [1000] (h 1000)=true):wd [[]] 1 h [.rsl j none k 0 n]=some (.osl k rows,[h 1000]):=by
 subst hn;have hp:cU 1=[1000]:=rfl;unfold wd;rw[if_pos]
 ·simp[uQ,rh,lU,hj,hh,BN,wX,bo,nrmV,nrmL,hp]
 ·simp[hp,hc,kD,bX,fE,hj]
theorem aeQ{r:List AV}{rows:List (List AV)}{n:Nat}(hn:n=rows.length)(hb:(n+1)*64<=140737488355328):R0 F.slices_Insert_api_Term_api_Term_ [.rsl 1000 none 4 0 n,I n,.sl 4 [r]] [.ar 4 rows]=some (.osl 4 (rows++[r]),[.dead]):=by
 refine GE (fd:=br) κ κ κ rfl (by simp) ?_;subst hn;rw[zP];have e1:((1:Int)=0)=False:=by decide
 have e2:=aeP (id:=1000) (k:=4) (l0:=0) (awQ rows.length);have e3:((rows.length+1)*64<=140737488355328)=True:=eq_true hb;have e4:(rows.length+1<=rows.length)=False:=ff;have e5:∀h,LU h 25 4 64 1000 4 0 rows.length [r] 4 rows=cX (upd h 1000 .dead) 25 4 (rows++[r]) (rows.length+1) [(1000,false)]:=fun h=>by
  simp only[LU,List.length_singleton];rw[if_neg (by omega),if_pos ⟨trivial,trivial,trivial,trivial,hb⟩]
 simp only[br,df,go_sem,axE,axI,Int.natCast_one,e1,e2,e3,e4,e5,awP,axo,Nat.sub_self,or_self,awQ,axG];exact QB rfl rfl (by simp) rfl
theorem aml{f:FuncId}{g:List AV->List Ob->Option (AV×List Ob)}{args:List AV}{hs:List Ob}(hE:FK.E f=some g):R0 f args hs=g args hs:=L5 hE
theorem aj0{h:ac}{d:Nat}{r:List AV}{rows:List (List AV)}{lo m:Nat}(hh:h 1000=.ar 4 rows)(hd:h (2000+8*d)=.dead):
  bE R0 (az false) h d [.sl 4 [r],.rsl 1000 none 4 lo m] (.fn F.slices_overlaps_api_Term_ [] [])=some (B false,upd h 1000 (.ar 4 rows),[(1000,true)]):=by
 have hm:(az false).m F.slices_overlaps_api_Term_=[0,1]:=by kernel_rfl
 have hs:(az false).sh F.slices_overlaps_api_Term_=[]:=by kernel_rfl
 have hk:(az false).keep F.slices_overlaps_api_Term_=false:=by kernel_rfl
 have hf:R0 F.slices_overlaps_api_Term_ [.sl 4 [r],.rsl 1000 none 4 lo m] [.ar 4 rows]=some (B false,[.ar 4 rows]):=by
  rw[aml (g:=X9 4) κ];simp[X9]
 have hb:jX (az false) [.sl 4 [r],.rsl 1000 none 4 lo m] (.fn F.slices_overlaps_api_Term_ [] [])=false:=by
  simp[jX,hm]
 have hr:bV h 40 [1000] 0=[1000]:=by
  simp[bV,hh,nK,bF]
 have hn:cz (B false)=1:=rfl;unfold bE;rw[if_neg (by rw[hb];exact awW)];have h1:bQ h [0,1] [.sl 4 [r],.rsl 1000 none 4 lo m]=some ([.sl 4 [r],.rsl 1000 none 4 lo m],h,[]):=by
  simp[bQ,dw,vV,fK,aD]
 have h2:bF [] ([AV.sl 4 [r],.rsl 1000 none 4 lo m].flatMap bX)=[1000]:=by
  simp[bX,fE,bF]
 have h3:bj [1000] 1000=1000:=rfl;simp only[dS,hm,axc,axe,h1,awV,h2,hr,hs];simp[jK,bo,be,bk,hh,aC,bS,dQ,jW,h3,dL,hf,eJ,hn,cw,hd,cY,bf,oj,BL,qY,fE,iW,aEt,Eo,eu,mat,dG,fR,hk,Fe,hm]
theorem Sg{id k l0 n i:Nat}:dZ k (.rsl id none k l0 n) (some (I i)) none none=(jT n (some (I i)) none none).map fun p=>.rsl id none k (l0+p.1) (p.2-p.1):=by
 simp only[dZ,if_true,Option.isNone_none]
theorem aeR{n c i:Nat}(h:i<=c):jL n c (some (I i))=some i:=by
 simp only[jL];rw[if_pos ⟨by omega,by omega⟩];rfl
theorem aj1{r:List AV}{rows:List (List AV)}{n i:Nat}(hn:n=rows.length)(hi:i<n)(hb:(n+1)*64<=140737488355328):
  R0 F.slices_Insert_api_Term_api_Term_ [.rsc 1000 4 0 n n,I i,.sl 4 [r]] [.ar 4 rows]=some (.osl 4 (rows.take i++r::rows.drop i),[.ar 4 rows]):=by
 refine GE (fd:=br) κ κ κ rfl (by simp) ?_;rw[zP];have e1:((1:Int)=0)=False:=by decide
 have e2:((i:Int)=(n:Int))=False:=ff;have e3:IntKind.i64.wrap ((n:Int)+1)=((n+1:Nat):Int):=wi;have e4:((n:Int)< ((n+1:Nat):Int))=True:=tt;have e5:IntKind.i64.wrap (((n+1:Nat):Int)- (i:Int))=((n+1-i:Nat):Int):=wi;have e6:IntKind.i64.wrap ((i:Int)+1)=((i+1:Nat):Int):=wi;have b1:=AQ (n:=n) (i:=i) (by omega);have b2:=aeR (n:=n) (c:=n) (i:=i) (by omega);have b3:=AQ (n:=n+1) (i:=i) (by omega);have b4:=AQ (n:=n+1) (i:=i+1) (by omega);have f1:((0:Int)< ((n+1-i:Nat):Int))=True:=tt;have f2:(n<i+((n+1-i:Nat):Int).toNat)=True:=tt;have f3:i+((n+1-i:Nat):Int).toNat=n+1:=by omega
 have f4:(i<=rows.length)=True:=tt;have f5:((n+1)*64<=140737488355328)=True:=eq_true hb;have f6:(n<n+1)=True:=tt;obtain⟨A,hA⟩:∃A,rows.take i++awO ((n+1-i:Nat):Int).toNat [AV.emp,B false,AV.emp,I 0]=A:=⟨_,rfl⟩;have a1:A.length=n+1:=by rw[←hA,axG,axd,ax1];omega
 have a2:A.take i=rows.take i:=by
  rw[←hA,List.take_append_of_le_length (by rw[axd];omega),axg (by rw[axd];omega)]
 have a3:(i<=A.length)=True:=tt;obtain⟨D,hD⟩:∃D,A.take i++[r]++A.drop (i+1)=D:=⟨_,rfl⟩;have d1:D.length=n+1:=by
  rw[←hD,axG,axG,axd,ax2,List.length_singleton];omega
 have d2:D.take (i+1)=rows.take i++[r]:=by
  rw[←hD,a2,List.take_append_of_le_length (by rw[axG,axd,List.length_singleton];omega),axg (by rw[axG,axd,List.length_singleton];omega)]
 have d3:(i+1<=D.length)=True:=tt;have t1:List.take (n+1-i) [r]=[r]:=axg (by rw[List.length_singleton];omega);have t2:(rows.drop i).take (n-i)=rows.drop i:=axg (by rw[ax2];omega);have t3:(1=min 1 (n+1-i))=True:=tt;have t4:n+1- (i+1)=n-i:=by omega
 have t5:(i+(n-i)<=rows.length)=True:=tt;have t6:(rows.drop i).length=n-i:=by rw[ax2];omega
 have t7:D.drop (i+1+(n-i))=[]:=axi (by omega);simp only[br,df,go_sem,axE,axI,Int.natCast_one,e1,e2,e3,e4,e5,e6,b1,b2,b3,b4,f1,f2,f3,f4,f5,f6,hA,hD,a3,d3,t1,t2,t3,t4,t5,t6,t7,Nat.min_self,awP,axo,Nat.sub_self,or_self,awQ,Sg,and_self];rw[d2];have hfin:rows.take i++[r]++rows.drop i=rows.take i++r::rows.drop i:=by rw[axL];rfl
 rw[hfin];exact QB rfl rfl (by rw[axG,axd,axE,ax2];omega) rfl
theorem aj2{r:List AV}{rows:List (List AV)}{n i c:Nat}(hn:n=rows.length)(hi:i<n)(hc:n+1<=c)(hb:(n+1)*64<=140737488355328):
  R0 F.slices_Insert_api_Term_api_Term_ [.rsc 1000 4 0 n c,I i,.sl 4 [r]] [.ar 4 rows]=some (.osl 4 (rows.take i++r::rows.drop i),[.dead]):=by
 refine GE (fd:=br) κ κ κ rfl (by simp) ?_;rw[zP];have e1:((1:Int)=0)=False:=by decide
 have e2:((i:Int)=(n:Int))=False:=ff;have e3:IntKind.i64.wrap ((n:Int)+1)=((n+1:Nat):Int):=wi;have e4:((c:Int)< ((n+1:Nat):Int))=False:=ff;have e6:IntKind.i64.wrap ((i:Int)+1)=((i+1:Nat):Int):=wi;have b1:=AQ (n:=n) (i:=i) (by omega);have b2:=aeR (n:=n) (c:=c) (i:=n+1) hc;have b3:=AQ (n:=n+1) (i:=i) (by omega);have b4:=AQ (n:=n+1) (i:=i+1) (by omega);have o1:=fun(h:ac) (h0:h 1000=.ar 4 rows) (h1:h (2000+8*67)=.dead)=>aj0 (r:=r) (lo:=i+1) (m:=n-i) h0 h1;have t1:List.take (n+1-i) [r]=[r]:=axg (by rw[List.length_singleton];omega);have t2:(rows.drop i).take (n-i)=rows.drop i:=axg (by rw[ax2];omega);have t3:(1=min 1 (n+1-i))=True:=tt;have t4:n+1- (i+1)=n-i:=by omega
 have t5:(i+(n-i)<=rows.length)=True:=tt;have t6:(rows.drop i).length=n-i:=by rw[ax2];omega
 have t8:min (n-i) (n+1-i)=n-i:=by omega
 have t9:(n-i=min (n+1-i) (n-i))=True:=tt;have f4:(i+1<=rows.length)=True:=tt;have t7:rows.drop (i+1+(n-i))=[]:=axi (by omega);obtain⟨A,hA⟩:∃A,rows.take (i+1)++rows.drop i=A:=⟨_,rfl⟩;have a1:A.length=n+1:=by
  rw[←hA,axG,axd,ax2];omega
 have a2:A.take i=rows.take i:=by
  rw[←hA,List.take_append_of_le_length (by rw[axd];omega),List.take_take,axP (by omega)]
 have a4:A.drop (i+1)=rows.drop i:=by
  rw[←hA,List.drop_append_of_le_length (by rw[axd];omega),axi (by rw[axd];omega),axc]
 have a3:(i<=A.length)=True:=tt;simp only[br,df,go_sem,axE,axI,Int.natCast_one,e1,e2,e3,e4,e6,b1,b2,b3,b4,t4,awP];rw[o1 _ rfl rfl];simp only[go_sem,axE,axI,Int.natCast_one,e1,e2,e3,e4,e6,b1,b2,b3,b4,t1,t2,t3,t4,t5,t6,t7,t8,t9,f4,a3,hA,awP,axo,Nat.sub_self,or_self,awQ,Sg,and_self];rw[a2,a4,show rows.take i++[r]++rows.drop i=rows.take i++r::rows.drop i by rw[axL];rfl];exact QB rfl rfl (by rw[axG,axd,axE,ax2];omega) rfl
def ah1:Ren:=⟨fun|28=>242|n=>n,fun|25=>121|27=>57|53=>218|n=>n,fun n=>n⟩
theorem aeS:Lays7.n28 Tryz.prog ah1 where
 mixed:=by kernel_rfl
 f28:=by kernel_rfl
 t0:=by kernel_rfl
 a0:=Tryz.isAgg0
 z0:=Tryz.sizeOf0
 v0:=Tryz.zeroValue0
 i0:=by kernel_rfl
 t3:=by kernel_rfl
 a3:=Tryz.isAgg3
 z3:=Tryz.sizeOf3
 v3:=Tryz.zeroValue3
 i3:=by kernel_rfl
 t4:=by kernel_rfl
 a4:=Tryz.isAgg4
 z4:=Tryz.sizeOf4
 v4:=Tryz.zeroValue4
 i4:=by kernel_rfl
 t5:=by kernel_rfl
 a5:=Tryz.isAgg5
 z5:=Tryz.sizeOf5
 v5:=Tryz.zeroValue5
 i5:=by kernel_rfl
 t25:=by kernel_rfl
 a25:=Tryz.isAgg121
 z25:=Tryz.sizeOf121
 v25:=Tryz.zeroValue121
 i25:=by kernel_rfl
 t27:=by kernel_rfl
 a27:=Tryz.isAgg57
 z27:=Tryz.sizeOf57
 v27:=Tryz.zeroValue57
 i27:=by kernel_rfl
 t53:=by kernel_rfl
 a53:=Tryz.isAgg218
 z53:=Tryz.sizeOf218
 v53:=Tryz.zeroValue218
 i53:=by kernel_rfl
 g0:=by kernel_rfl
def J1:Inv where
 p w _:=TabAt 0 Lib.deBruijn32tab w
 stab:=fun{w w' X} h hs j hj=>by rw[oE (hs 0 (.inr rfl))];exact h j hj
 more:=fun h _=>h
theorem Zx:∀ (k x:Nat),Lib.ctzFrom k x=Rj k x
 |0,x=>rfl
 |k+1,x=>by
  unfold Lib.ctzFrom Rj;rw[Zx k (x/2),Nat.add_comm]
set_option maxRecDepth 100000 in
theorem ah2:pF Tryz.prog J1 false F.bits_TrailingZeros32 tzF:=by
 intro args obs obs' res w X ρ vals n hz hn hi hr hs hv;unfold tzF at hz;split at hz
 ·rename_i x;by_cases hc:0<x/\x<4294967296/\obs=[]
  ·rw[if_pos hc]at hz;obtain⟨h0,h1,rfl⟩:=hc;simp only[Option.some.injEq,Prod.mk.injEq]at hz;obtain⟨rfl,rfl⟩:=hz;have hv0:=hv 0 (.v (.int .u32 x)) (vals.getD 0 undef) rfl (by simp at hs;simp[Array.getD_eq_getD_getElem?,hs]);have e0:vals=#[.int .u32 x]:=by
    simp only[axE,axI]at hs;have:=hv0.v_inv.1;apply Array.ext
    ·simpa using hs
    ·intro i h2 h3;have:i=0:=by simp at h3;exact h3
     subst this;simpa [Array.getD_eq_getD_getElem?,hs]using this
   subst e0;obtain⟨m,rfl⟩:∃m:Nat,x=m:=⟨x.toNat,by omega⟩;have key:=Any7.bits_TrailingZeros32 aeS m (by omega) w fun _=>hi;have he:(callFunc F.bits_TrailingZeros32 #[.int .u32 (m:Int)]).run Tryz.prog w=.ok (.enter F.bits_TrailingZeros32 #[.int .u32 (m:Int)]) w:=(enters_of (aeS.f28) κ rfl:Proofs.Enters Tryz.prog (ah1.f 28)) _ _;unfold Enters;rw[he];refine Calls.mono key fun e w' hw=>?_;obtain⟨rfl,rfl⟩:=hw;refine⟨ρ,hr,.refl _ _ _ _,?_⟩;refine .dat ?_;have:Lib.ctz 32 m=Rj 32 m:=by
    unfold Lib.ctz;rw[if_neg (by omega),Zx]
   simp only[this,awY,mat,dG];exact .v _ rfl
  ·rw[if_neg hc]at hz;cases hz
 ·cases hz
section
variable {H:Type} {enc:TypeId × Value→H} {w:World}
def Ik(w:World)(b:Nat):Prop:=b<w.heap.size
def Eh(w:World):Prop:=∀o v,w.cell? ⟨0,o,none⟩=some v->∃n,v=.int .u8 n
def Ei(u:Value):Prop:=u=u
theorem amm(_:Eh w){a:Addr}{u:Value}(h:w.cell? a=some u)(_:Ei u):Ik w a.block/\a.spot=none:=by
 have h1:a.spot=none:=by
  unfold World.cell? at h;split at h
  ·split at h
   ·cases h
   ·rename_i hs;simpa using hs
  ·cases h
 refine⟨?_,h1⟩;unfold World.cell? at h;split at h
 ·rename_i hb;exact(Array.getElem?_eq_some_iff.1 hb).1
 ·cases h
def pA(w:World)(fs:List AV)(cs:List Value):Prop:=
 fs.length=cs.length/\∀ (j:Nat) (c:AV) (u:Value),fs[j]?=some c->cs[j]?=some u->RD w (Ik w) c u/\aD c=true/\u.oneCell'=true
theorem pA.app{fa fb:List AV}{ca cb:List Value}(ha:pA w fa ca)(hb:pA w fb cb):pA w (fa++fb) (ca++cb):=by
 refine⟨by simp[ha.1,hb.1],fun j c u h1 h2=>?_⟩;by_cases hj:j<fa.length
 ·rw[List.getElem?_append_left hj]at h1;rw[List.getElem?_append_left (by rw[←ha.1];exact hj)]at h2;exact ha.2 j c u h1 h2
 ·rw[List.getElem?_append_right (by omega)]at h1;rw[List.getElem?_append_right (by rw[←ha.1];omega),←ha.1]at h2;exact hb.2 _ c u h1 h2
theorem pA.one{c:AV}{u:Value}(h:RD w (Ik w) c u)(hd:aD c=true)(h1:u.oneCell'=true):pA w [c] [u]:=by
 refine⟨rfl,fun j c' u' hc hu=>?_⟩;cases j with
 |zero=>simp at hc hu;subst hc hu;exact⟨h,hd,h1⟩
 |succ j=>simp at hc
noncomputable abbrev Tr (w:World) (enc:TypeId×Value->H) (n:Nat) (t:TypeId) (cs:List Value):Option (DataW H×List MemPlace):=DataW.trod enc Tryz.prog w 0 (fun _=>true) true n t cs
def qU(t:TypeId)(d:DataW H):Prop:=∀m∈DataW.weights Tryz.prog t d,m<=reachBytes
theorem amn{e:TypeId}:∀ {l:List (DataW H)} {d:DataW H} {m:Nat},d∈l->m∈DataW.weights Tryz.prog e d->m∈DataW.weightsAll Tryz.prog e l
 |[],d,m,h,_=>by simp at h
 |a::l,d,m,h,hm=>by
  simp only[DataW.weightsAll,ax4];rcases List.mem_cons.1 h with rfl|h
  ·exact .inl hm
  ·exact .inr (amn h hm)
theorem Zy{α:Type}{p:Nat->α->Prop}:∀ (n:Nat),(∀i,i<n->∃r,p i r)->∃l:List α,l.length=n/\∀ (i:Nat) (r:α),l[i]?=some r->p i r
 |0,_=>⟨[],rfl,fun i r h=>by simp at h⟩
 |n+1,h=>by
  obtain⟨l,h1,h2⟩:=Zy n fun i hi=>h i (by omega);obtain⟨r,hr⟩:=h n (by omega);refine⟨l++[r],by simp[h1],fun i r' hi=>?_⟩;by_cases hin:i<n
  ·rw[List.getElem?_append_left (by omega)]at hi;exact h2 i r' hi
  ·rw[List.getElem?_append_right (by omega)]at hi;have:i=n:=by
    have:=(List.getElem?_eq_some_iff.1 hi).1;simp at this;omega
   subst this;simp[h1]at hi;subst hi;exact hr
theorem KU{α:Type}{t e:TypeId}{k bs:Nat}(ht:Tryz.prog.underlying t=some (.slice e))(hk:Tryz.prog.cellsOf e=k)(h0:0<k)(hbs:Tryz.prog.bytesOf e=bs)(F:α->List AV)(Q:α->Prop)(hT:Eh w)
  (hrow:∀n cs' x,Tr w enc n e cs'=some x->qU e x.1->∃r,Q r/\pA w (F r) cs'/\∃u,cs'[0]?=some u/\Ei u) {fuel:Nat} {cs:List Value} {x:DataW H×List MemPlace}
  (h:Tr w enc fuel t cs=some x) (hw:qU t x.1):∃ (l:List α) (v:Value),cs=[v]/\(∀r∈l,Q r)/\l.length*bs<=reachBytes/\RD w (Ik w) (.sl k (l.map F)) v/\v.oneCell'=true/\Ei v:=by
 rcases open_slice ht h with⟨rfl,_⟩| ⟨a,len,cap,m,n,D,Pl,rfl,hb,hl,hm,hmm,rfl,hx⟩
 ·exact⟨[],_,rfl,fun r hr=>by simp at hr,by simp,.sl k [] none 0 ⟨0,0,none⟩ (fun _ _=>undef) (by simp) (fun h=>absurd rfl h) (fun r hr=>by simp at hr) (fun i r j c hr=>by simp at hr) (fun r hr=>by simp at hr) (fun i r j c hr=>by simp at hr),rfl,rfl⟩
 ·have hlm:len<=m:=by rw[hmm];split<;>omega
  have hwe:∀i,i<len->qU e (D i):=fun i hi q hq=>by
   refine hw q ?_;simp only[DataW.weights,ht,List.mem_cons,ax4];exact .inr (.inl (amn (List.mem_map.2 ⟨i,List.mem_range.2 hi,rfl⟩) hq))
  have hbn:len*bs<=reachBytes:=by
   have:=hw ((((List.range len).map D).length+((List.range (m-len)).map fun j=>D (len+j)).length)*Tryz.prog.bytesOf e) (by simp[DataW.weights,ht]);simp only[List.length_map,List.length_range,hbs]at this;exact awX (awZ _ (by omega)) this
  obtain⟨l,l1,l2⟩:=Zy (p:=fun i r=>Q r/\∃cs',w.cells? 0 (a.add (i*k)) k=some cs'/\pA w (F r) cs'/\∃u,cs'[0]?=some u/\Ei u) len fun i hi=>by
   obtain⟨cs',h1,h2⟩:=hx i (by omega);obtain⟨r,g1,g2,g3⟩:=hrow _ _ _ h2 (hwe i hi);rw[hk]at h1;exact⟨r,g1,cs',h1,g2,g3⟩
  have cell:∀ (i:Nat) (row:List AV) (j:Nat) (c:AV),(l.map F)[i]?=some row->row[j]?=some c->∃u,w.cell? (a.add (i*k+j))=some u/\RD w (Ik w) c u/\aD c=true:=fun i row j c hi hj=>by
   simp only[List.getElem?_map,awR]at hi;obtain⟨r,hr,rfl⟩:=hi;obtain⟨_,cs',c1,c2,_⟩:=l2 i r hr;obtain⟨_,c3,c4⟩:=World.cells?_some c1;have hjk:j<k:=by
    have:=(List.getElem?_eq_some_iff.1 hj).1;rw[c2.1,c3]at this;exact this
   have:=c4 j hjk;rw[C2]at this;obtain⟨u,hu⟩:∃u,cs'[j]?=some u:=⟨cs'[j]'(by omega),by simp⟩;exact⟨u,by rw[this,hu],(c2.2 j c u hj hu).1,(c2.2 j c u hj hu).2.1⟩
  refine⟨l,_,rfl,fun r hr=>?_,by rw[l1];exact hbn,?_,rfl,rfl⟩
  ·obtain⟨i,hi⟩:=List.getElem?_of_mem hr;exact(l2 i r hi).1
  ·have:=RD.sl (w:=w) (A:=Ik w) k (l.map F) (some a) cap a (fun i j=>(w.cell? (a.add (i*k+j))).getD undef) (by simp[l1,hl]) (fun hne=>?_) (fun row hr=>?_) (fun i row j c hi hj=>?_) (fun row hr c hc=>?_) (fun i row j c hi hj=>?_)
   ·simpa [l1]using this
   ·have hlen:0<l.length:=List.length_pos_iff.2 fun e=>hne (by simp[e]);obtain⟨_,cs',c1,c2,u,c3,c4⟩:=l2 0 l[0] (by simp);have:=(World.cells?_some c1).2.2 0 h0;rw[c3,Nat.zero_mul,Es,Es]at this;obtain⟨q1,q2⟩:=amm hT this c4;exact⟨rfl,q1,q2⟩
   ·simp only[axR]at hr;obtain⟨r,hr,rfl⟩:=hr;obtain⟨i,hi⟩:=List.getElem?_of_mem hr;obtain⟨_,cs',c1,c2,_⟩:=l2 i r hi;rw[c2.1];exact(World.cells?_some c1).2.1
   ·obtain⟨u,q1,_⟩:=cell i row j c hi hj;rw[q1];rfl
   ·obtain⟨i,hi⟩:=List.getElem?_of_mem hr;obtain⟨j,hj⟩:=List.getElem?_of_mem hc;obtain⟨u,_,_,q⟩:=cell i row j c hi hj;exact q
   ·obtain⟨u,q1,q2,_⟩:=cell i row j c hi hj;rw[q1];exact q2
theorem aj3{n:Nat}{cs:List Value}{x:DataW H×List MemPlace}(h:Tr w enc n 57 cs=some x)(_:qU 57 x.1):∃r:Nat,r<4294967296/\pA w [U (r:Int)] cs/\∃u,cs[0]?=some u/\Ei u:=by
 obtain⟨z,rfl,rfl,hw⟩:=DataW.trod_int Tryz.underlying57 h;simp only[Lit.wf,awS,decide_eq_true_eq]at hw;have h1:(0:Int)<=z:=hw.1;have h2:z<=4294967295:=hw.2;obtain⟨m,rfl⟩:∃m:Nat,z=m:=⟨z.toNat,by omega⟩;exact⟨m,by omega,.one (.v _ rfl) rfl rfl,_,rfl,rfl⟩
theorem aj4{n:Nat}{cs:List Value}{x:DataW H×List MemPlace}(h:Tr w enc n 3 cs=some x)(_:qU 3 x.1):∃r:Int,True/\pA w [I r] cs/\∃u,cs[0]?=some u/\Ei u:=by
 obtain⟨z,rfl,rfl,hw⟩:=DataW.trod_int Tryz.underlying3 h;exact⟨z,trivial,.one (.v _ rfl) rfl rfl,_,rfl,rfl⟩
theorem aeT(hT:Eh w){n:Nat}{cs:List Value}{x:DataW H×List MemPlace}(h:Tr w enc n 28 cs=some x)(hw:qU 28 x.1):∃m:List Nat,(Lb m/\m.length<4611686018427387904)/\pA w [lm m] cs/\∃u,cs[0]?=some u/\Ei u:=by
 obtain⟨l,v,rfl,h1,h2,h3,h4,h5⟩:=KU (k:=1) (bs:=4) Tryz.underlying28 κ (by decide) κ (fun(r:Nat)=>[U (r:Int)]) (fun r=>r<4294967296) hT (fun n cs' x=>aj3) h hw;refine⟨l,⟨h1,?_⟩,.one h3 rfl h4,_,rfl,h5⟩;unfold reachBytes at h2;omega
theorem ahn(hT:Eh w){n:Nat}{cs:List Value}{x:DataW H×List MemPlace}(h:Tr w enc n 54 cs=some x)(hw:qU 54 x.1):∃m:List Int,True/\pA w [.sl 1 (aS m)] cs/\∃u,cs[0]?=some u/\Ei u:=by
 obtain⟨l,v,rfl,h1,h2,h3,h4,h5⟩:=KU (k:=1) (bs:=8) Tryz.underlying54 κ (by decide) κ (fun(r:Int)=>[I r]) (fun r=>True) hT (fun n cs' x=>aj4) h hw;exact⟨l,trivial,.one h3 rfl h4,_,rfl,h5⟩
theorem Wv(hT:Eh w){n:Nat}{cs:List Value}{x:DataW H×List MemPlace}(h:Tr w enc n 30 cs=some x)(hw:qU 30 x.1):∃d:Rd,Ok0 d/\pA w (ah d) cs/\∃u,cs[0]?=some u/\Ei u:=by
 obtain⟨y0,y1,y2,m,rfl,hl,h0,h1,h2⟩:=trod_struct3 Tryz.underlying30 h;have hl3:cs.length=3:=hl.trans κ
 match cs,hl3 with
 |[a,b,c],_=>
  have k0:Tr w enc m 4 [a]=some y0:=h0;have k1:Tr w enc m 28 [b]=some y1:=h1;have k2:Tr w enc m 3 [c]=some y2:=h2;have w1:qU 28 y1.1:=fun q hq=>hw q (by simp[DataW.weights,DataW.weightsEach,Tryz.underlying30];exact .inr (.inl hq));obtain⟨bb,e0,e1⟩:=DataW.trod_bool Tryz.underlying4 k0;simp only[List.cons.injEq,and_true]at e0;subst e0;obtain⟨l,⟨q1,q2⟩,q3,_⟩:=aeT hT k1 w1;obtain⟨z,e2,e3,_⟩:=DataW.trod_int Tryz.underlying3 k2;simp only[List.cons.injEq,and_true]at e2;subst e2;exact⟨⟨bb,l,z⟩,⟨q1,q2⟩,(pA.one (.v _ rfl) rfl rfl).app (q3.app (.one (.v _ rfl) rfl rfl)),_,rfl,rfl⟩
theorem aho(hT:Eh w){n:Nat}{cs:List Value}{x:DataW H×List MemPlace}(h:Tr w enc n 56 cs=some x)(hw:qU 56 x.1):∃d:Rt,Ok0 d.c/\pA w (bD d) cs/\∃u,cs[0]?=some u/\Ei u:=by
 obtain⟨y0,y1,m,rfl,hl,h0,h1⟩:=trod_struct2 Tryz.underlying56 h;have hl3:cs.length=4:=hl.trans κ
 match cs,hl3 with
 |[a,b,c,d],_=>
  have k0:Tr w enc m 54 [a]=some y0:=h0;have k1:Tr w enc m 30 [b,c,d]=some y1:=h1;have w0:qU 54 y0.1:=fun q hq=>hw q (by simp[DataW.weights,DataW.weightsEach,Tryz.underlying56];exact .inl hq);have w1:qU 30 y1.1:=fun q hq=>hw q (by simp[DataW.weights,DataW.weightsEach,Tryz.underlying56];exact .inr hq);obtain⟨l,_,q3,q4⟩:=ahn hT k0 w0;obtain⟨d,d1,d2,_⟩:=Wv hT k1 w1;exact⟨⟨l,d⟩,d1,q3.app d2,q4⟩
theorem Ww(hT:Eh w){n:Nat}{cs:List Value}{x:DataW H×List MemPlace}(h:Tr w enc n 32 cs=some x)(hw:qU 32 x.1):∃d:Ri,OkI d/\pA w (ao d) cs/\∃u,cs[0]?=some u/\Ei u:=by
 obtain⟨y0,y1,y2,m,rfl,hl,h0,h1,h2⟩:=trod_struct3 Tryz.underlying32 h;have hl3:cs.length=7:=hl.trans κ
 match cs,hl3 with
 |[a,b,c,d,e,f,g],_=>
  have k0:Tr w enc m 30 [a,b,c]=some y0:=h0;have k1:Tr w enc m 30 [d,e,f]=some y1:=h1;have k2:Tr w enc m 4 [g]=some y2:=h2;have w0:qU 30 y0.1:=fun q hq=>hw q (by simp[DataW.weights,DataW.weightsEach,Tryz.underlying32];exact .inl hq);have w1:qU 30 y1.1:=fun q hq=>hw q (by simp[DataW.weights,DataW.weightsEach,Tryz.underlying32];exact .inr (.inl hq));obtain⟨d0,p1,p2,p3⟩:=Wv hT k0 w0;obtain⟨d1,q1,q2,_⟩:=Wv hT k1 w1;obtain⟨bb,e0,e1⟩:=DataW.trod_bool Tryz.underlying4 k2;simp only[List.cons.injEq,and_true]at e0;subst e0;exact⟨⟨d0,d1,bb⟩,⟨p1,q1⟩,p2.app (q2.app (.one (.v _ rfl) rfl rfl)),p3⟩
theorem QC{fs:List AV}{us:Array Value}(rc:pA w fs us.toList):RD w (Ik w) (.agg fs) (.agg us):=by
 refine .agg _ _ (by have:=rc.1;simpa using this.symm) (fun i u hu=>?_) fun i c u hc hu=>(rc.2 i c u hc (by simpa using hu)).1;have hu':us.toList[i]?=some u:=by simpa using hu
 obtain⟨c,hc⟩:∃c,fs[i]?=some c:=⟨_,List.getElem?_eq_getElem (by rw[rc.1];exact(List.getElem?_eq_some_iff.1 hu').1)⟩;exact(rc.2 i c u hc hu').2.2
theorem aAV(hT:Eh w){n:Nat}{us:Array Value}{x:DataW H×List MemPlace}(h:Tr w enc n 30 us.toList=some x)(hw:qU 30 x.1):∃d:Rd,Ok0 d/\RD w (Ik w) (ae d) (.agg us):=by
 obtain⟨d,h1,h2,_⟩:=Wv hT h hw;exact⟨d,h1,QC h2⟩
theorem aC2(hT:Eh w){n:Nat}{v:Value}{x:DataW H×List MemPlace}(h:Tr w enc n 35 [v]=some x)(hw:qU 35 x.1):∃l:List Rd,((∀d∈l,Ok0 d)/\l.length<4611686018427387904)/\RD w (Ik w) (BE l) v:=by
 obtain⟨l,v',e4,q1,q2,q3,q4,q5⟩:=KU (k:=3) (bs:=40) Tryz.underlying35 κ (by decide) κ ah Ok0 hT (fun n cs' x=>Wv hT) h hw;simp only[List.cons.injEq,and_true]at e4;subst e4;exact⟨l,⟨q1,by unfold reachBytes at q2;omega⟩,q3⟩
theorem aeU(hT:Eh w){n:Nat}{us:Array Value}{x:DataW H×List MemPlace}(h:Tr w enc n 24 us.toList=some x)(hw:qU 24 x.1):∃s:Rs,OkS s/\RD w (Ik w) (uM s) (.agg us):=by
 obtain⟨y0,y1,y2,m,rfl,hl,h0,h1,h2⟩:=trod_struct3 Tryz.underlying24 h;have hl3:us.toList.length=3:=hl.trans κ;obtain⟨cs⟩:=us;simp only at hl3 h0 h1 h2
 match cs,hl3 with
 |[a,b,c],_=>
  have k0:Tr w enc m 22 [a]=some y0:=h0;have k1:Tr w enc m 3 [b]=some y1:=h1;have k2:Tr w enc m 3 [c]=some y2:=h2;have w0:qU 22 y0.1:=fun q hq=>hw q (by simp[DataW.weights,DataW.weightsEach,Tryz.underlying24];exact .inl hq);obtain⟨z1,e2,e3,_⟩:=DataW.trod_int Tryz.underlying3 k1;obtain⟨z2,e4,e5,_⟩:=DataW.trod_int Tryz.underlying3 k2;simp only[List.cons.injEq,and_true]at e2 e4;subst e2 e4;obtain⟨l,v,e4,q1,q2,q3,q4,q5⟩:=KU (k:=7) (bs:=88) Tryz.underlying22 κ (by decide) κ ao OkI hT (fun n cs' x=>Ww hT) k0 w0;simp only[List.cons.injEq,and_true]at e4;subst e4;exact⟨⟨l,z1,z2⟩,⟨q1,by show l.length<_;unfold reachBytes at q2;omega⟩,QC ((pA.one q3 rfl q4).app ((pA.one (.v _ rfl) rfl rfl).app (.one (.v _ rfl) rfl rfl)))⟩
theorem Si(hT:Eh w){n:Nat}{us:Array Value}{x:DataW H×List MemPlace}(h:Tr w enc n 34 us.toList=some x)(hw:qU 34 x.1):∃s:Rm,OkM s/\RD w (Ik w) (kO s) (.agg us):=by
 obtain⟨y0,y1,m,rfl,hl,h0,h1⟩:=trod_struct2 Tryz.underlying34 h;have hl3:us.toList.length=9:=hl.trans κ;obtain⟨cs⟩:=us;simp only at hl3 h0 h1
 match cs,hl3 with
 |[a,b,c1,c2,c3,c4,c5,c6,c7],_=>
  have k0:Tr w enc m 27 [a,b]=some y0:=h0;have k1:Tr w enc m 32 [c1,c2,c3,c4,c5,c6,c7]=some y1:=h1;have w0:qU 27 y0.1:=fun q hq=>hw q (by simp[DataW.weights,DataW.weightsEach,Tryz.underlying34];exact .inl hq);have w1:qU 32 y1.1:=fun q hq=>hw q (by simp[DataW.weights,DataW.weightsEach,Tryz.underlying34];exact .inr hq);obtain⟨d,d1,d2,_⟩:=Ww hT k1 w1;obtain⟨u0,u1,m2,rfl,hl,h0,h1⟩:=trod_struct2 Tryz.underlying27 k0;have k2:Tr w enc m2 3 [a]=some u0:=h0;have k3:Tr w enc m2 25 [b]=some u1:=h1;have w2:qU 25 u1.1:=fun q hq=>w0 q (by simp[DataW.weights,DataW.weightsEach,Tryz.underlying27];exact .inr hq);obtain⟨z,e2,e3,_⟩:=DataW.trod_int Tryz.underlying3 k2;simp only[List.cons.injEq,and_true]at e2;subst e2;obtain⟨l,v,e4,q1,q2,q3,q4,q5⟩:=KU (k:=4) (bs:=64) Tryz.underlying25 κ (by decide) κ bD (fun t=>Ok0 t.c) hT (fun n cs' x=>aho hT) k3 w2;simp only[List.cons.injEq,and_true]at e4;subst e4;exact⟨⟨⟨z,l⟩,d⟩,⟨q1,d1,by show l.length<_;unfold reachBytes at q2;omega⟩,QC ((pA.one (.v _ rfl) rfl rfl).app ((pA.one q3 rfl q4).app d2))⟩
end
theorem HM{args:List AV}{vals:Array Value}(h:vals.size=args.length){i:Nat}{c:AV}(hc:args[i]?=some c):∃u,vals[i]?=some u:=by
 have:i<args.length:=(List.getElem?_eq_some_iff.1 hc).1;exact⟨vals[i]'(by omega),by simp[h,this]⟩
theorem asp{vals:Array Value}{a:Value}(h:vals.size=1)(h0:vals[0]?=some a):vals=#[a]:=by
 apply Array.ext_getElem?;intro i
 match i with
 |0=>simpa using h0
 |i+1=>simp[h]
theorem asq{vals:Array Value}{a b:Value}(h:vals.size=2)(h0:vals[0]?=some a)(h1:vals[1]?=some b):vals=#[a,b]:=by
 apply Array.ext_getElem?;intro i
 match i with
 |0=>simpa using h0
 |1=>simpa using h1
 |i+2=>simp[h]
theorem Sj{w:World}{a:Addr}{us:Array Value}{e:TypeId}(h:w.heap[a.block]?=some (.cells us e (0,0))):w.frozen? a=false:=by
 simp[World.frozen?,h]
theorem aj6{P:Program}(w:World)(tS tR e:TypeId)(ht:P.underlying tS=some (.slice e))(size:Nat)(hz:∀w,(Go.sizeOf e).run P w=.ok size w)(a:Addr)(b:Option Addr)(la ca cb:Nat):
  (Extern.SlicesOverlaps.overlaps #[tS,tS] #[tR] #[.slice (some a) la ca,.slice b 0 cb]).run P w=.ok (.bool false) w:=by
 change Sem.run P (α:=Value) (do
  let some t:= (#[tS,tS]:Array TypeId)[0]?|stuck "slices.overlaps: no parameter types"
  let .slice elem←underlying t|stuck "slices.overlaps: slice type expected"
  let size←sizeOf elem
  match (some a:Option Addr),b with
  |some a,some b=>
   if la=0\/0=0\/size=0 then pure (Value.bool false)
   else if a.block !=b.block&& (←frozen a)&& (←frozen b)then unsupported .addressObserved
   else do
    if a.block !=b.block then do
     noView a;noView b
     if←mayBeOne a b then return Value.bool ((←choose (.extern "sameAddr.stringBytes" 2))==1)
    pure (Value.bool (a.block==b.block&&a.off<b.off+0*size&&b.off<a.off+la*size))
  |_,_=>pure (Value.bool false)) w=_
 cases b<;>simp[run_underlying ht,hz]
theorem amo{P:Program}(w:World)(tS tR e:TypeId)(ht:P.underlying tS=some (.slice e))(size:Nat)(hz:∀w,(Go.sizeOf e).run P w=.ok size w)
  (a b:Addr) (la ca lb cb:Nat) (hne:a.block≠b.block) (tA:TypeId) (kA:Nat) {us:Array Value} {tB:TypeId}
  (hkA:kA≠0) (hsa:w.shape? a.block=some (tA,kA)) (hb:w.heap[b.block]?=some (.cells us tB (0,0))) (hu:us.size≠0):
  (Extern.SlicesOverlaps.overlaps #[tS,tS] #[tR] #[.slice (some a) la ca,.slice (some b) lb cb]).run P w=.ok (.bool false) w:=by
 have hnb:(a.block !=b.block)=true:=by simpa using hne
 have hnb':(a.block==b.block)=false:=by simpa using hne
 have hsb:w.shape? b.block=some (tB,us.size):=by simp[World.shape?,hb]
 have hfb:w.frozen? b=false:=Sj hb;have hfe:w.frozen? {block:=b.block,off:=us.size}=false:=Sj (a:=⟨b.block,us.size,none⟩) hb;change Sem.run P (α:=Value) (do
  let some t:= (#[tS,tS]:Array TypeId)[0]?|stuck "slices.overlaps: no parameter types"
  let .slice elem←underlying t|stuck "slices.overlaps: slice type expected"
  let size←sizeOf elem
  match (some a:Option Addr),(some b:Option Addr)with
  |some a,some b=>
   if la=0\/lb=0\/size=0 then pure (Value.bool false)
   else if a.block !=b.block&& (←frozen a)&& (←frozen b)then unsupported .addressObserved
   else do
    if a.block !=b.block then do
     noView a;noView b
     if←mayBeOne a b then return Value.bool ((←choose (.extern "sameAddr.stringBytes" 2))==1)
    pure (Value.bool (a.block==b.block&&a.off<b.off+lb*size&&b.off<a.off+la*size))
  |_,_=>pure (Value.bool false)) w=_
 by_cases h0:la=0\/lb=0\/size=0
 ·simp[run_underlying ht,hz,h0]
 ·obtain⟨n,hn⟩:∃n,us.size=n+1:=⟨us.size-1,by omega⟩;rw[hn]at hsb hfe;obtain⟨kA,rfl⟩:∃k,kA=k+1:=⟨kA-1,by omega⟩;cases hfa:w.frozen? a<;>cases hfa2:w.frozen? {block:=a.block,off:=kA+1}<;>
   simp[run_underlying ht,hz,h0,hnb,hnb',frozen,noView,viewAt,mayBeOne,stringish,shape,Sem.run,hsa,hsb,hfa,hfa2,hfb,hfe]
theorem abX{w:World}{a:Addr}{v:Value}(h:w.cell? a=some v):∃t k,k≠0/\w.shape? a.block=some (t,k):=by
 unfold World.cell? at h;split at h
 ·rename_i cs t fr hb;refine⟨t,cs.size,fun h0=>?_,by unfold World.shape?;rw[hb]⟩;split at h
  ·cases h
  ·have:=(Array.getElem?_eq_some_iff.1 h).1;omega
 ·cases h
theorem amp{P:Program}{I:Inv}{f:FuncId}{fn:Func}{tS tR e:TypeId}{size:Nat}(hf:P.funcs[f]?=some fn)(hname: (fn.name== "runtime.NumGoroutine")=false)(hb:fn.body.isNone=true)(hn:Extern.findNext fn=none)
  (he:Extern.find fn=some (Extern.SlicesOverlaps.overlaps #[tS,tS] #[tR])) (ht:P.underlying tS=some (.slice e)) (hz:∀w,(Go.sizeOf e).run P w=.ok size w):pF P I false f (X9 4):=by
 intro args obs obs' res w X ρ vals n hz' hn' hi hr hs hv;unfold X9 at hz';split at hz'
 ·rename_i k0 row rows k1 lo m k2 rows2;split at hz'
  ·rename_i hk;obtain⟨rfl,rfl,rfl⟩:=hk;cases hz';obtain⟨u0,h0⟩:=HM hs (i:=0) rfl;obtain⟨u1,h1⟩:=HM hs (i:=1) rfl;have e0:=hv 0 _ _ rfl h0;have e1:=hv 1 _ _ rfl h1;obtain rfl:=asq hs h0 h1;have d0:=e0.sl_inv;obtain⟨a1,cap1,rfl,hp,hn1,hb1,ha1⟩:=e1.rsl_inv;have ho:RO w (aJ w X (ap [.ar 4 rows2]) ρ) ρ (ap [.ar 4 rows2]) 1000 (.ar 4 rows2):=hr.ob 1000;obtain⟨us,tB,g1,g2,g3,g4⟩:=ho;have hlive:live (ap [.ar 4 rows2]) 1000 none:=trivial;cases d0 with
   |sl _ _ a cap ad vs hc ha hk hv2 hl hr2=>
    obtain⟨rfl,hA,hsp⟩:=ha (by simp);have hlen:=hk row (by simp);obtain⟨c,hrow⟩:∃c,row[0]?=some c:=⟨row[0]'(by omega),by simp⟩;have hcell:=hv2 0 row 0 c rfl hrow;obtain⟨tA,kA,hkA,hsh⟩:=abX hcell;rw[oB]at hsh;have run:(callFunc f #[.slice (some ad) (row::rows).length cap,.slice a1 m cap1]).run P w=.ok (.value (.bool false)) w:=by
     rw[run_callFunc_extern hf hname hb hn he];by_cases hm:m=0
     ·subst hm;rw[aj6 w tS tR e ht size hz];rfl
     ·rcases ha1 with h|rfl
      ·omega
      ·rw[amo w tS tR e ht size hz ad ⟨(ρ 1000 none).1,lo*4,none⟩ _ cap m cap1 (fun hh=>hA.2.2 ⟨1000,none,hlive,hh.symm⟩) tA kA hkA hsh g1 (by omega)];rfl
    unfold Enters;rw[run];exact⟨ρ,hr,.refl _ _ _ _,.dat (.v _ rfl)⟩
  ·cases hz'
 ·cases hz'
theorem aj7{P:Program}{I:Inv}(hR:pF P I false F.slices_Insert_api_Term_api_Term_ (R0 F.slices_Insert_api_Term_api_Term_)):pF P I false F.slices_Insert_api_Term_api_Term_ (UA 4 64):=by
 intro args obs obs' res w X ρ vals n hz hn hi hr hs hv;unfold UA at hz;split at hz
 ·rename_i k0 r;split at hz
  ·rename_i hk;subst hk;cases hz;exact hR ajZ hn hi hr hs hv
  ·cases hz
 ·rename_i k1 m i k0 r k2 rows;split at hz
  ·rename_i hk;obtain⟨rfl,rfl,rfl,rfl,hi0,hi1,hb⟩:=hk;cases hz;obtain⟨i,rfl⟩:=ax5 hi0;rw[awY];by_cases hend:i=rows.length
   ·subst hend;have:=hR (aeQ (r:=r) rfl hb) hn hi hr hs hv;rw[axg (awQ _),axi (awQ _)];exact this
   ·have hlt:i<rows.length:=by omega
    obtain⟨u0,h0⟩:=HM hs (i:=0) rfl;obtain⟨a,cap,rfl,hp,hn1,hb1,ha⟩:=(hv 0 _ _ rfl h0).rsl_inv;have hv':∀ (j:Nat) (c:AV) (u:Value),[AV.rsc 1000 4 0 rows.length cap,.v (.int .i64 i),.sl 4 [r]][j]?=some c->vals[j]?=some u->RV w (aJ w X (ap [.ar 4 rows]) ρ) ρ (ap [.ar 4 rows]) c u:=by
     intro j c u hc hu
     match j,hc with
     |0,hc=>
      cases hc;rw[h0]at hu;cases hu;exact .rsc 1000 4 0 _ cap a hp hn1 hb1 ha
     |j+1,hc=>exact hv (j+1) c u hc hu
    rcases Nat.lt_or_ge rows.length cap with hc|hc
    ·exact hR (aj2 rfl hlt hc hb) hn hi hr hs hv'
    ·obtain rfl:cap=rows.length:=by omega
     refine(hR (aj1 rfl hlt hb) hn hi hr hs hv').mono fun v w' ⟨ρ',q1,q2,q3⟩=>?_;generalize rows.take i++r::rows.drop i=L at q1 q2 q3⊢;have hd:=Nw q1 (id:=1000) (k:=4) (rows:=rows) (by
      show(if 1000=n then _ else _)=_;rw[if_neg (by omega)];rfl)
     have eq:upd (mat n (ap [.ar 4 rows]) (.osl 4 L)).2 1000 .dead=(mat n (ap [.dead]) (.osl 4 L)).2:=by
      show upd (upd (ap [.ar 4 rows]) n (.ar 4 L)) 1000 .dead=upd (ap [.dead]) n (.ar 4 L);rw[zP,zP];funext j;unfold upd;by_cases h1:j=1000
      ·rw[if_pos h1,if_neg (by omega),if_pos h1]
      ·rw[if_neg h1,if_neg h1,if_neg h1]
     rw[eq]at hd;refine⟨ρ',hd.1,q2.trans (hd.2.far rfl),hd.2.rvk q3 (.inr ?_)⟩;show iV [(1000,false)] n none=false;simp[iV];omega
  ·cases hz
 ·cases hz
theorem Sk{w w':World}{X:Nat->Prop}{ρ:dX}(hr:Rel w X ρ (ap []))(hb:Below w.heap.size w w'):Rel w' X ρ (ap [])/\Far false w ρ (ap []) w' ρ (ap []):=by
 have hl:∀id sub,¬live (ap []) id sub:=fun id sub=>by
  have hd:ap [] id=.dead:=by
   unfold ap;split<;>simp
  cases sub with
  |none=>simp[live,hd]
  |some p=>simp[live,hd]
 refine⟨⟨fun id sub _ _ h=>(hl id sub h).elim,fun id sub h=>(hl id sub h).elim,fun id=>?_,fun b hb'=>axX (hr.xl b hb') hb.size⟩,hb.os,hb.tape,hb.output,hb.size,fun b h1 _=>hb.block b h1,fun b ⟨id,sub,h,_⟩=>(hl id sub h).elim,fun id _ h=>?_,fun h=>by cases h⟩
 ·have hd:ap [] id=.dead:=by
   unfold ap;split<;>simp
  rw[hd];trivial
 ·exfalso;apply h;unfold ap;split<;>simp
theorem amq{P:Program}{I:Inv}{ρ0:Ren}(L:Lays2.n15 P ρ0)(hf:ρ0.f 15=F.slices_Clone_int_int_)(he:∀a w,(callFunc F.slices_Clone_int_int_ a).run P w=.ok (.enter F.slices_Clone_int_int_ a) w)
  (hR:pF P I false F.slices_Clone_int_int_ (R0 F.slices_Clone_int_int_)):pF P I false F.slices_Clone_int_int_ clF:=by
 intro args obs obs' res w X ρ vals n hz hn hi hr hs hv;unfold clF at hz;split at hz
 ·cases hz;obtain⟨u0,h0⟩:=HM hs (i:=0) rfl;have d0:=(hv 0 _ _ rfl h0).sl_inv;obtain rfl:=asp hs h0;cases d0 with
  |sl _ _ a cap ad vs hc ha hk hv2 hl hr2=>
   unfold Enters;rw[he];have fin:∀ (w':World) (b:Option Addr) (c:Nat),Below w.heap.size w w'->∃ρ',Rel w' X ρ' (mat n (ap []) (.sl 1 [])).2/\Far false w ρ (ap []) w' ρ' (mat n (ap []) (.sl 1 [])).2/\
     RV w' (aJ w' X (mat n (ap []) (.sl 1 [])).2 ρ') ρ' (mat n (ap []) (.sl 1 [])).2 (mat n (ap []) (.sl 1 [])).1 (.slice b 0 c):=fun w' b c hb=>
    ⟨ρ,(Sk hr hb).1,(Sk hr hb).2,.dat (.sl 1 [] b c ad vs (axz _) (fun h=>absurd rfl h) (fun _ h=>by cases h) (fun i row j c h=>by simp at h) (fun _ h=>by cases h) (fun i row j c h=>by simp at h))⟩
   cases a with
   |none=>
    have key:=Any.slices_Clone_int_nil L 0 cap w;rw[hf]at key;refine Calls.mono key fun e w' hw=>?_;obtain⟨rfl,rfl⟩:=hw;exact fin _ _ _ (Below.refl _ _)
   |some a0=>
    have key:=Any.slices_Clone_int_zero L a0 cap w;rw[hf]at key;refine Calls.mono key fun e w' hw=>?_;obtain⟨v',rfl,⟨_,hown⟩,_,hb⟩:=hw;rcases hown with⟨rfl,_⟩| ⟨g,c2,Ij,rfl,_⟩
    ·exact fin _ _ _ hb
    ·exact fin _ _ _ hb
 ·rename_i r rs;split at hz
  ·rename_i hb;cases hz;exact hR (ahl hb) hn hi hr hs hv
  ·cases hz
 ·cases hz
abbrev TX(f:Nat)(fd:FD):Prop:=Text Go.Proofs.Tryz.prog f fd
theorem tx{f:Nat}{fd:FD}{fn:Func}(h:Go.Proofs.Tryz.prog.funcs[f]?=some fn)(h2: (fn.body.bind fun c=>iQ Go.Proofs.Tryz.prog fn.ntmps c fd.body,GL Go.Proofs.Tryz.prog fn.results.toList,decide (fn.ntmps<=1000),fn.name== "runtime.NumGoroutine")= (some fd.body,some fd.res,true,false)):TX f fd:=by
 simp only[Prod.mk.injEq,awN,decide_eq_true_eq]at h2;obtain⟨⟨c,h3,h4⟩,h5,h6,h7⟩:=h2;exact⟨⟨fn,c,_,h,h3,rfl,h6,h4,h5,h7⟩⟩
theorem tn:∀p∈ ([]:List (Nat×FD)),TX p.1 p.2:=fun _ h=>by cases h
theorem tc{f:Nat}{fd:FD}{l:List (Nat×FD)}(h1:TX f fd)(h2:∀p∈l,TX p.1 p.2):∀p∈ (f,fd)::l,TX p.1 p.2:=fun p hp=>by
 rcases List.mem_cons.1 hp with rfl|hp
 ·exact h1
 ·exact h2 p hp
set_option maxRecDepth 100000 in
theorem Wx:∀p∈ahG,TX p.1 p.2:=tc (tx func239 κ) (tc (tx func249 κ) (tc (tx func260 κ) (tc (tx func261 κ) (tc (tx func263 κ) (tc (tx func266 κ) (tc (tx func267 κ) (tc (tx func269 κ) (tc (tx func161 κ) (tc (tx func198 κ) (tc (tx func206 κ) (tc (tx func207 κ) (tc (tx func208 κ) (tc (tx func209 κ) (tc (tx func210 κ) (tc (tx func213 κ) (tc (tx func231 κ) (tc (tx func234 κ) (tc (tx func237 κ) (tc (tx func238 κ) (tc (tx func241 κ) (tc (tx func243 κ) (tc (tx func250 κ) (tc (tx func251 κ) (tc (tx func253 κ) (tc (tx func254 κ) (tc (tx func262 κ) (tc (tx func264 κ) (tc (tx func265 κ) (tc (tx func270 κ) (tc (tx func200 κ) (tc (tx func235 κ) (tc (tx func26 κ) (tc (tx func37 κ) (tc (tx func54 κ) (tc (tx func59 κ) (tc (tx func78 κ) (tc (tx func89 κ) (tc (tx func121 κ) (tc (tx func122 κ) (tc (tx func141 κ) (tc (tx func145 κ) (tc (tx func148 κ) (tc (tx func151 κ) (tc (tx func154 κ) (tc (tx func158 κ) (tc (tx func201 κ) (tc (tx func205 κ) (tc (tx func214 κ) (tc (tx func223 κ) (tc (tx func224 κ) (tc (tx func240 κ) (tc (tx func255 κ) (tc (tx func85 κ) (tc (tx func86 κ) (tc (tx func88 κ) (tc (tx func98 κ) (tc (tx func102 κ) (tc (tx func103 κ) (tc (tx func146 κ) (tc (tx func147 κ) (tc (tx func153 κ) (tc (tx func160 κ) (tc (tx func162 κ) (tc (tx func163 κ) (tc (tx func177 κ) (tc (tx func179 κ) (tc (tx func196 κ) (tc (tx func197 κ) (tc (tx func199 κ) (tc (tx func204 κ) (tc (tx func211 κ) (tc (tx func212 κ) (tc (tx func256 κ) (tc (tx func268 κ) (tc (tx func118 κ) (tc (tx func134 κ) (tc (tx func135 κ) (tc (tx func140 κ) (tc (tx func143 κ) (tc (tx func164 κ) (tc (tx func165 κ) (tc (tx func176 κ) (tc (tx func178 κ) (tc (tx func194 κ) (tc (tx func195 κ) (tc (tx func215 κ) (tc (tx func216 κ) (tc (tx func217 κ) (tc (tx func218 κ) (tc (tx func219 κ) (tc (tx func220 κ) (tc (tx func232 κ) (tc (tx func233 κ) (tc (tx func244 κ) (tc (tx func245 κ) (tc (tx func246 κ) (tc (tx func17 κ) (tc (tx func22 κ) (tc (tx func45 κ) (tc (tx func49 κ) (tc (tx func50 κ) (tc (tx func61 κ) (tc (tx func63 κ) (tc (tx func64 κ) (tc (tx func68 κ) (tc (tx func82 κ) (tc (tx func100 κ) (tc (tx func115 κ) (tc (tx func116 κ) (tc (tx func117 κ) (tc (tx func125 κ) (tc (tx func132 κ) (tc (tx func133 κ) (tc (tx func144 κ) (tc (tx func181 κ) (tc (tx func182 κ) (tc (tx func189 κ) (tc (tx func222 κ) (tc (tx func247 κ) (tc (tx func248 κ) (tc (tx func257 κ) (tc (tx func258 κ) (tc (tx func259 κ) (tc (tx func65 κ) (tc (tx func123 κ) (tc (tx func124 κ) (tc (tx func126 κ) (tc (tx func127 κ) (tc (tx func180 κ) (tc (tx func183 κ) (tc (tx func184 κ) (tc (tx func185 κ) (tc (tx func186 κ) (tc (tx func187 κ) (tc (tx func188 κ) (tc (tx func221 κ) (tc (tx func225 κ) (tc (tx func226 κ) (tc (tx func227 κ) (tc (tx func228 κ) (tc (tx func229 κ) (tc (tx func230 κ) (tc (tx func16 κ) (tc (tx func27 κ) (tc (tx func31 κ) (tc (tx func32 κ) (tc (tx func75 κ) (tc (tx func84 κ) (tc (tx func90 κ) (tc (tx func91 κ) (tc (tx func92 κ) (tc (tx func96 κ) (tc (tx func97 κ) (tc (tx func113 κ) (tc (tx func114 κ) (tc (tx func149 κ) (tc (tx func150 κ) (tc (tx func152 κ) (tc (tx func159 κ) (tc (tx func14 κ) (tc (tx func29 κ) (tc (tx func33 κ) (tc (tx func69 κ) (tc (tx func71 κ) (tc (tx func73 κ) (tc (tx func81 κ) (tc (tx func83 κ) (tc (tx func94 κ) (tc (tx func95 κ) (tc (tx func99 κ) (tc (tx func101 κ) (tc (tx func136 κ) (tc (tx func139 κ) (tc (tx func142 κ) (tc (tx func157 κ) (tc (tx func193 κ) (tc (tx func35 κ) (tc (tx func36 κ) (tc (tx func39 κ) (tc (tx func40 κ) (tc (tx func41 κ) (tc (tx func58 κ) (tc (tx func104 κ) (tc (tx func105 κ) (tc (tx func106 κ) (tc (tx func107 κ) (tc (tx func110 κ) (tc (tx func111 κ) (tc (tx func112 κ) (tc (tx func166 κ) (tc (tx func167 κ) (tc (tx func168 κ) (tc (tx func169 κ) (tc (tx func170 κ) (tc (tx func172 κ) (tc (tx func173 κ) (tc (tx func174 κ) (tc (tx func175 κ) (tc (tx func130 κ) (tc (tx func192 κ) (tc (tx func87 κ) (tc (tx func129 κ) (tc (tx func137 κ) (tc (tx func138 κ) (tc (tx func191 κ) (tc (tx func21 κ) (tc (tx func23 κ) (tc (tx func24 κ) (tc (tx func38 κ) (tc (tx func66 κ) (tc (tx func70 κ) (tc (tx func76 κ) (tc (tx func108 κ) (tc (tx func109 κ) (tc (tx func128 κ) (tc (tx func155 κ) (tc (tx func171 κ) (tc (tx func190 κ) (tc (tx func3 κ) (tc (tx func12 κ) (tc (tx func13 κ) (tc (tx func15 κ) (tc (tx func18 κ) (tc (tx func19 κ) (tc (tx func20 κ) (tc (tx func25 κ) (tc (tx func77 κ) (tc (tx func79 κ) (tc (tx func80 κ) (tn))))))))))))))))))))))))))))))))))))))))))))))))))))))))))))))))))))))))))))))))))))))))))))))))))))))))))))))))))))))))))))))))))))))))))))))))))))))))))))))))))))))))))))))))))))))))))))))))))))))))))))))))))))))))))))))))))))))
end Go.Ab
