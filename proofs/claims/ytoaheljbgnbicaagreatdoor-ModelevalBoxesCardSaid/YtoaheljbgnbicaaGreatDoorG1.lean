/-
  A law of tapes on models holds at every input that the statement speaks of, under the conditions that its card names. Part G1.
-/
import Derived.Test.YtoaheljbgnbicaaGreatDoorProg
import Derived.Shelf.Spec.TrailingZeros
import Derived.Test.YtoaheljbgnbicaaGreatDoorRows
import Derived.Deep.Strs
import Derived.ProofKit
import Derived.LaidMore
import Derived.OpenShut
import Derived.Carry
import Derived.Lib.Overlaps
import Derived.Laws.Externs
import Derived.Shelf.Slices.Clone
import Derived.Test.YtoaheljbgnbicaaGreatDoorF1
open Nat renaming add_assoc → awp, add_zero → av1, le_of_ble_eq_true → avW, le_refl → avt, le_trans → avx, lt_of_le_of_lt → awl, lt_of_lt_of_le → awn, min_eq_left → awm, mul_le_mul_right → avA, pow_add → avG, pow_le_pow_right → av8, pow_succ → awb, two_pow_pos → avJ, zero_add → avs, zero_le → av6
open Int renaming lt_irrefl → awf, toNat_natCast → avy
open Bool renaming and_eq_true → avv, and_self → awa, false_eq_true → awo, false_ne_true → avD, not_eq_true' → awu, true_and → avz
open List renaming all_cons → avQ, append_assoc → awe, append_nil → avE, cons_append → avS, drop_eq_nil_of_le → avH, getElem_mem → avN, length_append → awj, length_cons → av2, length_drop → aws, length_map → awk, length_nil → awd, length_replicate → awr, length_take → avF, map_congr_left → avR, map_id' → av5, mem_append → awt, mem_map → awc, nil_append → avB, replicate → avr, take_of_length_le → avL
open Option renaming bind_eq_some_iff → avq, bind_some → avw, map_eq_some_iff → avu, map_some → av9
set_option linter.all false
namespace Go.Ab
open Go Go.IntWalk Go.Proofs Go.Shelf Go.ChangeShapes Go.WideShapes Go.Deep Go.RowKit Go.Proofs.Tryz
set_option maxRecDepth 100000
set_option maxHeartbeats 8000000
theorem aq8{w:Bool}{T d:Nat}(h:d<=T):rq w (2^T) d=2^ (T-d):=by
 have e:2^T=2^ (T-d)*2^d:=by rw[←avG];grind
 simp_all[rq,if_neg,Nat.mul_mod_left,Nat.mul_div_cancel,avJ]
theorem ads{M j n m:Nat}{w:Bool}(h0:M≠0)(hn:8<=n/\n<=512)(hm:m<16384)(h:M<=2^ (16384+m+j)):
  (cR M (-16384- (j:Int)) false (n:Int) w).2=0/\0<=zI (cR M (-16384- (j:Int)) false (n:Int) w).1/\zI (cR M (-16384- (j:Int)) false (n:Int) w).1<=((2^ (16384+m):Nat):Int):=by
 have hd:dR M n j<=16384+m+j:=by
  have:=bV.2 (awl h (Nat.pow_lt_pow_right δ (Nat.lt_succ_self _)));unfold dR;split<;>omega
 have h1:rq w M (dR M n j)*2^dR M n j<=2^ (16384+m+j):=by
  refine avx (avA _ (aix h)) ?_;rw[aq8 hd,←avG];exact av8 δ ω
 obtain⟨c1,c2⟩:=(aiy (w:=w) (j:=j) h0 hn).1 (awl h1 (Nat.pow_lt_pow_right δ ω));have c3:=ak1 (w:=w) (j:=j) h0 hn c1;refine⟨c1,c3,?_⟩;have h2:zI (cR M (-16384- (j:Int)) false (n:Int) w).1*((2^j:Nat):Int)<=((2^ (16384+m):Nat):Int)*((2^j:Nat):Int):=by
  rw[←Int.natCast_mul,←avG];refine Int.le_trans (Int.le_of_eq ?_) (Int.ofNat_le.2 h1);rw[←c2];simp
 exact Int.le_of_mul_le_mul_right h2 (Int.ofNat_lt.2 (avJ j))
theorem VW{z:Int}{j n m:Nat}{up:Bool}(hn:8<=n/\n<=512)(hm:m<16384)(h:z.natAbs<=2^ (16384+m+j)):
  (jG z (-16384- (j:Int)) n up).2=0/\(zI (jG z (-16384- (j:Int)) n up).1).natAbs<=2^ (16384+m):=by
 rcases Int.lt_trichotomy z 0 with a|rfl|a
 ·rw[aiz a];obtain⟨s1,s2⟩:=ak2 (M:=z.natAbs) (f:=-16384- (j:Int)) (p:=n) (w:=!up);obtain⟨b1,b2,b3⟩:=ads (w:=!up) (show z.natAbs≠0 by omega) hn hm h;omega
 ·simp_all[agB,du,aI,av6]
 ·rw[aiA a];obtain⟨b1,b2,b3⟩:=ads (w:=up) (show z.natAbs≠0 by omega) hn hm h;omega
def Ld(m:Nat)(d:Rd):Prop:=(zI d).natAbs<=2^ (16384+m)
theorem Ld.up{m k:Nat}{d:Rd}(h:Ld m d)(hk:m<=k):Ld k d:=avx h (av8 δ ω)
theorem Yz{a b:Rd}{p:Int}{m:Nat}{up:Bool}(va:vd a=true)(vb:vd b=true)(hp:bQ p=true)(hm:m+1<16384)(ha:Ld m a)(hb:Ld m b):(dt a b p up).2=0/\Ld (m+1) (dt a b p up).1:=by
 obtain⟨f1,n,rfl,hn⟩:=VV va vb hp;unfold dt;rw[if_pos f1];refine VW (j:=0) hn hm ?_;unfold Ld at ha hb;have e:2^ (16384+(m+1)+0)=2^ (16384+m)+2^ (16384+m):=by rw[av1,←awp,awb];omega
 omega
theorem YA{a b:Rd}{p:Int}{m k:Nat}{up:Bool}(va:vd a=true)(vb:vd b=true)(hp:bQ p=true)(hm:m+k<16384)(ha:Ld m a)(hb:Ld k b):(fK a b p up).2=0/\Ld (m+k) (fK a b p up).1:=by
 obtain⟨f1,n,rfl,hn⟩:=VV va vb hp;unfold fK;rw[if_pos f1];refine VW (j:=16384) hn hm ?_;rw[Int.natAbs_mul,show 16384+(m+k)+16384=(16384+m)+(16384+k)by omega,avG];exact Nat.mul_le_mul ha hb
theorem aiF{a:Rd}{p:Int}{m:Nat}{up:Bool}(va:vd a=true)(hp:bQ p=true)(hm:m<16384)(ha:Ld m a):(cz a p up).2=0/\Ld m (cz a p up).1:=by
 have hp2:=zO hp;unfold cz;rw[if_pos (by grind[aY])];obtain⟨n,rfl⟩:∃n:Nat,p=n:=⟨p.toNat,by omega⟩;exact VW (j:=0) ω hm ha
theorem adt{a:Rd}{p:Int}{up:Bool}(va:vd a=true)(hp:bQ p=true)(ha:Ld 0 a):∀ (k:Nat) (r:Rd×Int),vd r.1=true->r.2=0->Ld 0 r.1->(mB a p up k r).2=0/\Ld 0 (mB a p up k r).1
 |0,r,_,h1,h2=>⟨h1,h2⟩
 |k+1,r,vr,h1,h2=>by
  unfold mB;rw[if_pos h1];obtain⟨m1,m2⟩:=YA (up:=up) vr va hp δ h2 ha;exact adt va hp ha k _ Jz.1 m1 m2
theorem ann{a:Rd}{p:Int}{n:Nat}{up:Bool}(va:vd a=true)(hp:bQ p=true)(ha:Ld 0 a):(pw a n p up).2=0/\Ld 0 (pw a n p up).1:=by
 obtain⟨m1,m2⟩:=aiF (up:=up) va hp δ ha;exact adt va hp ha _ _ Jy.1 m1 m2
theorem YB{a:Rd}{p:Int}{n:Nat}{up:Bool}(va:vd a=true)(hp:bQ p=true)(ha:Ld 0 a):(qJ a n p up).2=0/\Ld 0 (qJ a n p up).1:=by
 grind[qJ,ann,Ld,hF,g1,Int.natAbs_neg,AZ,aq7]
structure Bd (m:Nat) (x:Ri):Prop where
 i:∃q,In q x
 a:x.all=false
 l:Ld m x.lo
 h:Ld m x.hi
theorem Bd.up{m k:Nat}{x:Ri}(h:Bd m x)(hk:m<=k):Bd k x:=⟨h.i,h.a,h.l.up hk,h.h.up hk⟩
theorem Bd.v{m:Nat}{x:Ri}(h:Bd m x):VI x:=h.i.elim fun _ h=>h.vi
theorem Bd.k{m:Nat}{x:Ri}(h:Bd m x):kI x=true:=anj h.i h.a
theorem aiG{x y:Ri}{p:Int}{m:Nat}(hp:bQ p=true)(hm:m+1<16384)(hx:Bd m x)(hy:Bd m y):Bd (m+1) (gJ x y p):=by
 obtain⟨q,ix⟩:=hx.i;obtain⟨r,iy⟩:=hy.i;have hi:=Bc (p:=p) ix iy;obtain⟨a1,a2⟩:=Yz (up:=false) ix.vi.1.1 iy.vi.1.1 hp hm hx.l hy.l;obtain⟨a3,a4⟩:=Yz (up:=true) ix.vi.2.1 iy.vi.2.1 hp hm hx.h hy.h;have e:gJ x y p=⟨(dt x.lo y.lo p false).1,(dt x.hi y.hi p true).1,false⟩:=by
  unfold gJ tT;rw[hx.k,hy.k,hp,awa,awa,if_pos rfl,if_pos ⟨a1,a3⟩]
 rw[e]at hi⊢;exact⟨⟨_,hi⟩,rfl,a2,a4⟩
theorem YC{x y:Ri}{p:Int}{m k:Nat}(hp:bQ p=true)(hm:m+k<16384)(hx:Bd m x)(hy:Bd k y):Bd (m+k) (iH x y p):=by
 obtain⟨q,ix⟩:=hx.i;obtain⟨r,iy⟩:=hy.i;have hi:=Be (p:=p) ix iy;have lx:∀i,Ld m (gw x y i).1:=fun i=>by unfold gw;split;exact hx.l;exact hx.l;exact hx.h;exact hx.h
 have ly:∀i,Ld k (gw x y i).2:=fun i=>by unfold gw;split;exact hy.l;exact hy.h;exact hy.l;exact hy.h
 have key:∀i up,(fK (gw x y i).1 (gw x y i).2 p up).2=0/\Ld (m+k) (fK (gw x y i).1 (gw x y i).2 p up).1:=fun i up=>by
  obtain⟨v1,v2⟩:=ank ix.vi iy.vi i;grind[YA]
 obtain⟨t,t0,_,⟨j,_,t1⟩,j',_,t2⟩:=aaM (dn:=fun a b=>fK a b p false) (up:=fun a b=>fK a b p true) (pr:=gw x y) (fun a b=>Jz.1) (fun a b=>Jz.1) fun i _=>⟨(key i false).1,(key i true).1⟩;have e:iH x y p=⟨t.1,t.2,false⟩:=by
  unfold iH;rw[hx.k,hy.k,hp,awa,awa,if_pos rfl,t0];rfl
 rw[e]at hi⊢;refine⟨⟨_,hi⟩,rfl,?_,?_⟩
 all_goals grind
theorem P9{n:Bool}{k:Nat}:zI ⟨n,[1],(k:Int)⟩=cp n (2^ (16384+k)):=by
 have h1:zI ⟨n,[1],(k:Int)⟩=cp n (mg ⟨n,[1],(k:Int)⟩):=rfl;rw[h1];unfold mg;rw[show((k:Int)+16384).toNat=16384+k by omega]
 simp_all[ab,Nat.one_mul]
theorem aiH{n:Bool}{a:Nat}:(cp n a).natAbs=a:=by
 grind[cp]
theorem aq9{n:Bool}{k:Nat}:Ld k ⟨n,[1],(k:Int)⟩:=by
 simp_all[Ld,P9,aiH,avt]
theorem VX:Ld 0 one:=aq9 (k:=0)
theorem Qa{x:Ri}{n:Nat}{p:Int}(hp:bQ p=true)(h16:n<=16)(hx:Bd 0 x):Bd 0 (Eb x n p):=by
 obtain⟨q,ix⟩:=hx.i;have hi:=Ko (n:=n) (p:=p) ix;have e0:=hx.k;unfold Eb at hi⊢;rw[if_pos (by rw[e0,hp];simp[h16])]at hi⊢;by_cases h0:n=0
 ·rw[if_pos h0]at hi⊢;exact⟨⟨_,hi⟩,rfl,VX,VX⟩
 ·rw[if_neg h0]at hi⊢;have hX:(vd (if n%2=0 then uQ x else x).lo=true/\vd (if n%2=0 then uQ x else x).hi=true)/\Ld 0 (if n%2=0 then uQ x else x).lo/\Ld 0 (if n%2=0 then uQ x else x).hi:=by
   have b1:=hx.l;have b2:=hx.h;split
   ·unfold uQ;obtain⟨m1,m2⟩:=anl ix.vi (agC hx.i hx.a);obtain⟨g1,g2⟩:=anm ix.vi;grind[Ld,b2,g1,zI,AT,Hl]
   ·exact⟨⟨ix.vi.1.1,ix.vi.2.1⟩,b1,b2⟩
  obtain⟨⟨v1,v2⟩,l1,l2⟩:=hX;obtain⟨a1,a2⟩:=YB (n:=n) (up:=false) v1 hp l1;obtain⟨a3,a4⟩:=YB (n:=n) (up:=true) v2 hp l2;unfold tT at hi⊢;rw[if_pos ⟨a1,a3⟩]at hi⊢;exact⟨⟨_,hi⟩,rfl,a2,a4⟩
theorem aiI{x:Ri}{n:Nat}{p:Int}(hp:bQ p=true)(h16:n<=32)(hx:Bd 0 x):Bd 0 (Ec x n p):=by
 unfold Ec;split
 ·grind[Qa]
 ·exact YC (m:=0) (k:=0) hp δ (Qa hp ω hx) (Qa hp ω hx)
theorem adu{p:Int}{m:Nat}(hp:bQ p=true)(hm:m<16384):∀ (ds:List Ri) (es:List Int) (x:Ri),(∀d∈ds,Bd 0 d)->(∀e∈es,e<=32)->Bd m x->Bd m (Ji p ds es x)
 |[],es,x,_,_,h=>by cases es<;>exact h
 |d::ds,[],x,_,_,h=>h
 |d::ds,e::es,x,hd,he,h=>by
  refine adu hp hm ds es _ (fun i hi=>hd i γ) (fun i hi=>he i γ) ?_;split
  ·have:=he e σ;exact YC (m:=m) (k:=0) hp hm h (aiI hp ω (hd d σ))
  omega
theorem adv{p:Int}{ds:List Ri}{m:Nat}(hp:bQ p=true)(hd:∀d∈ds,Bd 0 d):∀ (l:List Rt) (k:Nat) (s:Ri),m+k+l.length<16384->(∀t∈l,vd t.c=true/\Ok0 t.c/\Ld m t.c/\∀e∈t.exps,e<=32)->Bd (m+k) s->Bd (m+k+l.length) (NX p ds l s)
 |[],_,_,_,_,h=>h
 |t::l,k,s,hl,ht,h=>by
  show Bd _ (NX p ds l (gJ s (Ji p ds t.exps ⟨t.c,t.c,false⟩) p));obtain⟨c1,c2,c3,c4⟩:=ht t σ;have hl2:m+k+(l.length+1)<16384:=hl;have:=adv hp hd l (k+1) _ ω (fun t ht'=>ht t γ) (aiG (m:=m+k) hp ω h ((adu hp ω ds t.exps _ hd c4 ⟨⟨_,tW c1 c2⟩,rfl,c3,c3⟩).up (Nat.le_add_right m k)));grind
theorem xS{m:Nat}:Bd m cr:=by
 have h:Ld m aI:=by unfold Ld;rw[du rfl];grind
 exact⟨⟨_,tW bh.1 bh.2⟩,rfl,h,h⟩
theorem Sb.bd{m:Nat}{x y:Ri}(h:Sb x y)(hy:Bd m y):Bd m x:=by
 obtain⟨i,rfl| ⟨h1,h2,_,h3,h4⟩⟩:=h
 ·cases hy.a
 ·have:=agC i h1;have l1:=hy.l;have l2:=hy.h;unfold Ld at l1 l2;refine⟨i,h1,?_,?_⟩<;> (unfold Ld;generalize 2^ (16384+m)=T at*;omega)
inductive Mrg:List Rt->List Rt->List Rt->Prop
 |nil:Mrg [] [] []
 |left {A r1 r2:List Rt} {t:Rt}:Mrg A r1 r2->Mrg (t::A) (t::r1) r2
 |right {A r1 r2:List Rt} {t:Rt}:Mrg A r1 r2->Mrg (t::A) r1 (t::r2)
 |both {A r1 r2:List Rt} {t:Rt} {c d:Rd}:Mrg A r1 r2->ns c d=(t.c,0)->Mrg (t::A) (⟨t.exps,c⟩::r1) (⟨t.exps,d⟩::r2)
theorem Mrg.mem{A r1 r2:List Rt}(h:Mrg A r1 r2):(∀y∈r1,∃t∈A,y.exps=t.exps)/\∀y∈r2,∃t∈A,y.exps=t.exps:=by
 induction h with
 |nil=>grind
 |left h ih=>
  grind
 |right h ih=>
  grind
 |both h _ ih=>
  grind
def inc(l:List Int)(i:Nat):List Int:=l.set i (l.getD i 0+1)
theorem YD(l:List Int)(i:Nat):(inc l i).length=l.length:=by simp[inc]
theorem ak4{l:List Int}{i:Nat}(h:i<l.length):(inc l i).getD i 0=l.getD i 0+1:=by
 grind[inc]
theorem aiJ{l:List Int}{i:Nat}(h:i<l.length):dec (inc l i) i=l:=by
 simp_all[dec,ak4,inc,List.set_set,Int.add_sub_cancel,List.set_getElem_self]
theorem YE{l:List Int}{i:Nat}(h:i<l.length):bt (inc l i)=bt l+1:=by
 grind[Yl,inc,YD,aiJ]
def afO(x:List Int):Rt:=⟨x,one⟩
def ara(v:Int)(t:Rt)(i:Nat):Rp:=⟨v,[afO (inc t.exps i)]⟩
structure VS (v:Int) (i:Nat) (t:Rt):Prop where
 vt:VT v t
 hd:bt t.exps<=16
 hi:i<t.exps.length
theorem aiK{l:List Int}{i:Nat}(h:∀e∈l,0<=e/\e<=32)(hi:i<l.length):0<=l.getD i 0/\l.getD i 0<=bt l:=by
 simp_all[Kh]
theorem VS.inc{v:Int}{i:Nat}{t:Rt}(h:VS v i t){d:Rd}(od:Ok0 d)(vdd:vd d=true)(nd:d.m.length≠0):VT v ⟨inc t.exps i,d⟩:=by
 obtain⟨x1,x2⟩:=aiK h.vt.b h.hi;have:=h.hd;refine⟨od,by rw[YD];exact h.vt.len,h.vt.v8,vdd,nd,fun e he=>?_,by rw[YE h.hi];omega⟩;rcases List.mem_or_eq_of_mem_set he with h2|rfl
 ·exact h.vt.b e h2
 omega
theorem VS.one{v:Int}{i:Nat}{t:Rt}(h:VS v i t):VT v (afO (Go.Ab.inc t.exps i)):=h.inc eG.2 eG.1 δ
theorem VS.oneC{v:Int}{i:Nat}{t:Rt}(h:VS v i t):Cl v [afO (Go.Ab.inc t.exps i)]:=Cl.mk' h.one (fun _ h=>nomatch h) (Cl.nil _)
theorem VS.vp{v:Int}{i:Nat}{t:Rt}(h:VS v i t)(h0:0<=v):vp (ara v t i)=true:=SK h.oneC h0 h.vt.v8 γ
def pB(v i:Nat):List Int:=(lw v).set i 1
def afP(v i:Nat):Rp:=⟨v,[⟨pB v i,one⟩]⟩
theorem MB(v i:Nat):(pB v i).length=v:=by simp[pB,lw]
theorem afQ{v i:Nat}(h:i<v):bt (pB v i)=1:=by
 have:=YE (l:=lw v) (i:=i) (by grind[lw]);grind[P0,inc,lw,pB]
theorem ak5{v i:Nat}(h8:v<=8)(h:i<v):VT v ⟨pB v i,one⟩:=by
 refine⟨eG.2,by grind[pB,MB],by omega,eG.1,(by show(1:Nat)≠0;decide),fun e he=>?_,by grind[afQ]⟩;rcases List.mem_or_eq_of_mem_set he with h|rfl
 ·exact agv e h
 omega
theorem ak6{v:Nat}{i:Int}:R F.poly_Var [I v,I i] []=some (if v<=8/\0<=i/\i<v then pV (afP v i.toNat,0)else pV (p0,2),[]):=by
 refine aB ZT rfl ?_;have e1:((v:Int)<0)=False:=ff;by_cases g:v<=8/\0<=i/\i<v
 ·rw[if_pos g];obtain⟨h8,g1,g2⟩:=g;obtain⟨n,rfl⟩:=Int.eq_ofNat_of_zero_le g1;have hn:n<v:=ω
  have e2:(8< (v:Int))=False:=ff;have e3:((n:Int)<0)=False:=ff;have e4:((v:Int)<=(n:Int))=False:=ff;have z1:nE (.v (.int .i64 (v:Int))) (.v (.int .i64 (v:Int)))=some (v,v):=by
   grind[nE]
  have z2:(v*8<=140737488355328)=True:=tt;have he:=A9 (v:=v);have h1:=Jg;simp only[af,aj]at h1;have ei:Int.toNat (n:Int)=n:=avy _;have k0:(aO (lw v)).set n [I 1]=aO (pB v n):=X3 _ _ _;have k3:(aO (lw v))[n]?=some [I 0]:=by grind[aO,lw]
  have e7:(0<=(n:Int)/\(n:Int)< (v:Int))=True:=eq_true ⟨by omega,by omega⟩;simp only[sT,yT,go_sem,e1,e2,e3,e4,h1,he,po,z1,z2,VB,e7,ei,k0,k3,avs];have k1:(v<=(pB v n).length)=True:=eq_true (by simp_all[MB,avt]);have k2:(aO (pB v n)).take v=aO (pB v n):=avL (by simp_all[AU,MB,avt]);simp only[k1,k2,go_sem];have hadd:=dA (aS.1.2.1 false) rfl (pn (d:=34) (id:=2240) (v:=v) (e:=0) (e':=0) (c:=.emp) (l:=[]) (x:=pB v n) (q:=one) (h:=upd (upd (upd (upd (upd (fun _=>.dead) 4 (.bx [I 0,.emp])) 25 (.ar 1 (aO (lw v)))) 25 (.ar 1 (aO (pB v n)))) 2240 (.bx [I v,.emp,I 0])) 25 (.fz 1 (aO (pB v n)))) rfl (.inr ⟨rfl,rfl⟩) (.inl rfl) (Mk (ak5 h8 hn)));simp only[af,aj,t3]at hadd;simp only[hadd,go_sem];obtain⟨o,hdn⟩:=BZ (v:=v) (e:=0) (c:=.osl 4 (aH [⟨pB v n,one⟩])) (l:=[⟨pB v n,one⟩]) (d:=36) (id:=2240) (h:=upd (upd (upd (upd (upd (upd (fun _=>.dead) 4 (.bx [I 0,.emp])) 25 (.ar 1 (aO (lw v)))) 25 (.ar 1 (aO (pB v n)))) 2240 (.bx [I v,.emp,I 0])) 25 (.fz 1 (aO (pB v n)))) 2240 (.bx [I v,.osl 4 (aH [⟨pB v n,one⟩]),I 0])) rfl (.inl rfl) rfl;have hd':=dA (bA.1.2.1 false) rfl hdn;rw[hd'];have e4:tu v (some [⟨pB v n,one⟩])=(afP v n,0):=rfl;have e5:=Gf [⟨pB v n,one⟩];rw[e4];simp only[pV,aZ,e5,go_sem]
 ·rw[if_neg g];by_cases g1:v<=8
  ·have e2:(8< (v:Int))=False:=ff;by_cases g2:0<=i
   ·have e3:(i<0)=False:=ff;have e4:((v:Int)<=i)=True:=tt;simp only[sT,yT,go_sem,e1,e2,e3,e4];rfl
   ·have e3:(i<0)=True:=tt;simp only[sT,yT,go_sem,e1,e2,e3];rfl
  ·have e2:(8< (v:Int))=True:=tt;simp only[sT,yT,go_sem,e1,e2];rfl
noncomputable def Qb (s:Rs) (i:Int):Rm:=if(kV s&&decide (0<=i/\i<s.dom.length))=true then⟨afP s.dom.length i.toNat,cr⟩else rW s
theorem YF{s:Rs}{i:Int}(os:OkS s):R F.model_Var [lz s,I i] []=some (iY (Qb s i),[]):=by
 refine aB Wy rfl ?_;have h1:=iM os.d os.n;have h2:=Gt (s:=s);have h3:=ak6 (v:=s.dom.length) (i:=i);have h4:=Rl;unfold Qb;by_cases g:s.dom.length<=8/\0<=i/\i<s.dom.length
 ·rw[if_pos g]at h3;rw[decide_eq_true g.2,Bool.and_true];simp only[pV,aZ,am,aq]at h3 h4;cases g1:kV s with
  |false=>
   rw[g1]at h1;simp only[p8,wI,go_sem,h1,h2,h3]
  |true=>
   rw[g1]at h1;simp only[p8,wI,go_sem,h1,h3,h4]
 ·rw[if_neg g]at h3;have gf:(kV s&&decide (0<=i/\i<s.dom.length))=false:=by
   grind[g1,kV,decide_eq_false,mM]
  rw[gf,if_neg avD];simp only[pV,aZ,p0]at h3;have f:((2:Int)=0)=False:=eq_false δ;cases g1:kV s with
  |false=>
   rw[g1]at h1;simp only[p8,wI,go_sem,h1,h2,h3]
  |true=>
   rw[g1]at h1;simp only[p8,wI,go_sem,h1,h2,h3,f]
noncomputable def nD (s:Rs) (x:Ri):Rm:=if(kV s&&kI x)=true then ub s (PZ s.dom.length (zP x s.p)) 0 (Jt x ⟨zP x s.p,zP x s.p,false⟩ s.p)else rW s
theorem YG{v:Nat}{c:Rd}(h8:v<=8)(oc:Ok0 c)(vc:vd c=true):Cl v (VF v c):=by
 grind[VF,Cl.nil,Cl.mk',ac4]
theorem Rx{s:Rs}{x:Ri}(os:OkS s)(ox:OkI x):R F.model_Const [lz s,am x] []=some (iY (nD s x),[]):=by
 refine aB R1 rfl ?_;have h1:=iM os.d os.n;have h2:=Gt (s:=s);have hv:=pi ox;unfold nD;simp only[am,aq]at hv;cases g:kV s with
 |false=>
  rw[g]at h1;simp only[mC,sk,am,aq,go_sem,h1,h2]
 |true=>
 rw[g]at h1;unfold kI;cases g2:x.all with
 |true=>
  simp only[mC,sk,am,aq,go_sem,h1,h2,g2]
 |false=>
 rw[g2]at hv;cases g3:vi x with
 |false=>
  rw[g3]at hv;simp only[mC,sk,am,aq,go_sem,h1,h2,g2,hv]
 |true=>
 rw[g3]at hv;have h8:=(mM g).1;have hl:s.dom.length<=100000:=ω
 have hm:=akX ox (p:=s.p);obtain⟨mv,mo⟩:=Yx (p:=s.p) ox;have hs:=afu h8 mo mv;have hp:=kB mo mv;have pok:OkI ⟨zP x s.p,zP x s.p,false⟩:=⟨mo,mo⟩;have u1:=PU ox pok (p:=s.p);have h5:=My (q:=PZ s.dom.length (zP x s.p)) (e:=0) (r:=Jt x ⟨zP x s.p,zP x s.p,false⟩ s.p) os (qM (YG h8 mo mv)) Yy hl;simp only[pV,aZ,am,aq,af,aj,g2]at hm hs hp u1 h5;simp only[mC,sk,am,aq,go_sem,h1,h5,g2,hv,hm,hs,hp,u1]
theorem afR{a:Rp}{o:Int}(ho:-1<=o)(h:∀t∈a.terms,bt t.exps<=o):iI a<=o:=by
 grind[iI]
theorem aiL{s:Rs}(h:kV s=true):1<=s.dom.length/\1<=s.ord:=by
 simp_all[kV,avv,decide_eq_true_eq]
theorem ano{s:Rs}{m:Rm}(hs:kV s=true)(c:Cl s.dom.length m.P.terms)(hv:m.P.vars=s.dom.length)(hl:m.P.terms.length<=500)(hd:∀t∈m.P.terms,bt t.exps<=s.ord)(hr:vi m.R=true)(hi:∀t∈m.P.terms,Gr t.c s.p=true):Gs s m=true:=by
 unfold Gs;have h8:=(mM hs).1;have hp:vp m.P=true:=by
  have:m.P=⟨(s.dom.length:Int),m.P.terms⟩:=by rw[←hv]
  grind[SK]
 rw[hs,hp,decide_eq_true hv,decide_eq_true (afR (by grind[aiL]) hd),hr,avz,avz,avz,avz,avz,awu,List.any_eq_false];grind
theorem aiM{n:Bool}{a k:Nat}:cp n (a*2^k)=cp n a*2^k:=by
 grind[cp,Int.natCast_mul,Int.neg_mul]
theorem afS{c:Rd}{p:Int}{up:Bool}(ok:Ok0 c)(vc:vd c=true)(hp:bQ p=true)(hb:(ae (ab c.m):Int)<=p):cz c p up=(c,0):=by
 have hp2:=zO hp;by_cases h0:c.m.length=0
 ·grind[C7,VH]
 have hi:(ae (ab c.m):Int)+c.e<=16384∧-16384<=c.e:=by
  have h:=vc;unfold vd at h;rw[if_neg h0]at h;have o:=Gg vc h0;simp only[avv,decide_eq_true_eq]at h;have hi:=AN h.2.2.2 (by have:=(jN (n:=ab c.m) (k:=0)).2 ω;omega);omega
 unfold cz;rw[if_pos (by grind[aY]),show zI c=cp c.neg (mg c)from rfl];unfold mg;rw[aiM,QR,show(-16384:Int)+((c.e+16384).toNat:Int)=c.e by omega,←NT hp2];have hk:Je (ab c.m) c.e p=0:=by grind[Je]
 simp_all[Ea,Pt,ab,Nat.pow_zero,Nat.mod_one,Nat.div_one,AS,if_neg,Jj]
theorem adw{c:Rd}{p:Int}(ok:Ok0 c)(vc:vd c=true)(hp:bQ p=true)(hb:(ae (ab c.m):Int)<=p):pT c p=(c,0):=by
 simp_all[pT,afS,if_pos,Ol,aaF]
theorem adx{c:Rd}(vc:vd c=true):mq c c=(aI,0):=by
 unfold mq;rw[vc,awa,if_pos rfl,Int.sub_self];exact Hq rfl
theorem VY{p:Int}(hp:bQ p=true):∀ts:List Rt,(∀t∈ts,Ok0 t.c/\t.c.m.length≠0/\Gr t.c p=true)->Cx p ts=some (ts,[])
 |[],_=>rfl
 |t::ts,h=>by
  obtain⟨h1,h2,h3⟩:=h t σ;unfold Gr at h3;simp only[avv,decide_eq_true_eq]at h3;have hn:=adw h1 h3.2.1 hp h3.2.2;unfold Cx;rw[hn,if_pos rfl,adx h3.2.1,if_pos rfl,VY hp ts fun t ht=>h t (by simp[ht])];show some (eF t.exps t.c ts,eF t.exps aI [])=_;unfold eF;rw[if_neg h2,if_pos (show aI.m.length=0 from rfl)]
structure Fit (s:Rs) (q:Rp):Prop where
 v:q.vars=s.dom.length
 n:q.terms.length<=500
 c:Cl s.dom.length q.terms
 d:∀t∈q.terms,bt t.exps<=s.ord
 r:∀t∈q.terms,Gr t.c s.p=true
theorem Fit.ok{s:Rs}{q:Rp}(h:Fit s q):OkP q:=⟨fun t ht=>(h.c.t t ht).ok⟩
theorem Fit.vp{s:Rs}{q:Rp}(hs:kV s=true)(h:Fit s q):vp q=true:=by
 have:=h.v;obtain⟨v,l⟩:=q;subst this;exact SK h.c ω (by have:=(mM hs).1;omega) h.n
theorem ady{s:Rs}{q:Rp}(hs:kV s=true)(h:Fit s q):gO q s.ord=(q,⟨q.vars,[]⟩):=by
 unfold gO;rw[if_pos (h.vp hs),List.filter_eq_self.2 fun t ht=>by exact decide_eq_true (h.d t ht),List.filter_eq_nil_iff.2 fun t ht=>by unfold Oc;rw[decide_eq_true (h.d t ht)];grind]
theorem adz{s:Rs}{q:Rp}(hs:kV s=true)(h:Fit s q):ke q s.p=((q,⟨q.vars,[]⟩),0):=by
 have hp:=(mM hs).2;have hp2:=zO hp;unfold ke;rw[if_pos (h.vp hs),if_neg ω,VY hp _ fun t ht=>⟨(h.c.t t ht).c,(h.c.t t ht).nz,h.r t ht⟩]
theorem Gv{p:Int}(hp:bQ p=true):gJ cr cr p=cr:=by
 unfold gJ;rw[(xS (m:=0)).k,hp,awa,awa,if_pos rfl];show tT (dt aI aI p false) (dt aI aI p true)=_;rw[ac7,ac7,VH hp,VH hp];rfl
theorem aiN{v p:Int}{dom:List Ri}:nR ⟨v,[]⟩ dom p=cr:=by
 simp_all[nR,if_pos]
theorem aiO{s:Rs}{q:Rp}(hs:kV s=true)(h:Fit s q):Bi s q=((q,cr),true):=by
 unfold Bi;simp only[ady hs h,adz hs h,aiN,Gv (mM hs).2,←h.v];rfl
theorem VZ{s:Rs}{q:Rp}(hs:kV s=true)(h:Fit s q):ub s q 0 cr=⟨q,cr⟩:=by
 simp_all[ub,aiO,if_pos,Gv,mM]
theorem adA{r:Ri}{p:Int}(hk:kI r=true)(hp:bQ p=true):iH r cr p=cr:=by
 obtain⟨_,v1,v2⟩:=SR hk;have e1:∀i,(gw r cr i).2=aI:=fun i=>by unfold gw;split<;>rfl
 have e2:∀i,vd (gw r cr i).1=true:=fun i=>by unfold gw;grind
 have e3:∀i up,fK (gw r cr i).1 (gw r cr i).2 p up=(aI,0):=fun i up=>by
  rw[e1];unfold fK;rw[if_pos (VV (e2 i) VG hp).1,du (d:=aI) rfl,Int.mul_zero,agB]
 unfold iH;rw[hk,hp,(xS (m:=0)).k,awa,awa,if_pos rfl];unfold pR;simp only[e3,and_self,if_true];have e4:∀k i,vR (fun a b=>fK a b p false) (fun a b=>fK a b p true) (gw r cr) k i (aI,aI)=some (aI,aI):=fun k=>by
  induction k with
  |zero=>exact fun i=>rfl
  |succ k ih=>
   simp_all[vR,and_self,if_true,ite_self]
 rw[e4];rfl
theorem aiP{x:Ri}(hv:OkI x)(h:wF x rT=true):Bd 0 x:=by
 unfold wF at h;split at h
 ·rename_i g;obtain⟨g1,g2,g3⟩:=g;simp only[rT,Bool.false_or,avv,decide_eq_true_eq]at h;have h5:zI Cw<=zI x.lo:=of_decide_eq_true h.1;have h6:zI x.hi<=zI one:=of_decide_eq_true h.2;have k:kI x=true:=by grind[kI,g1]
  obtain⟨_,v1,v2⟩:=SR k;have hl:zI x.lo<=zI x.hi:=by
   simp_all[vi,g1,if_neg,avv,decide_eq_true_eq]
  have e1:zI one=((2^ (16384+0):Nat):Int):=P9 (n:=false) (k:=0);have e2:zI Cw=-((2^ (16384+0):Nat):Int):=P9 (n:=true) (k:=0);refine⟨⟨qv x.lo,Or.inr ⟨g3,⟨⟨v1,hv.1⟩,⟨v2,hv.2⟩⟩,Rat.le_refl,BB.2 hl⟩⟩,g3,?_,?_⟩<;> (unfold Ld;generalize 2^ (16384+0)=T at e1 e2⊢;omega)
 grind[rT]
theorem adB{s:Rs}(os:OkS s)(hs:kV s=true):∀x∈s.dom,Bd 0 x:=fun x hx=>by
 unfold kV at hs;exact aiP (os.d x hx) γ
theorem aiQ{s:Rs}(os:OkS s)(hs:kV s=true){q:Rp}(hv:vp q=true)(h:q.vars=s.dom.length):nP q s.dom=true:=by
 unfold nP;rw[hv,decide_eq_true h.symm,avz,avz,awu,List.any_eq_false];exact fun x hx=>by rw[(adB os hs x hx).k];grind
theorem ak7{s:Rs}(os:OkS s)(hs:kV s=true){q:Rp}{m:Nat}(oq:OkP q)(hv:vp q=true)(h:q.vars=s.dom.length)(hc:∀t∈q.terms,Ld m t.c)(hm:m+q.terms.length<16384):Bd (m+q.terms.length) (nR q s.dom s.p):=by
 have hp:=(mM hs).2;have hd:=aiQ os hs hv h;have hcl:=(lv oq hv).1;by_cases h0:q.terms.length=0
 ·simp_all[nR,if_pos,xS]
 ·have hb:Bd (m+q.terms.length) (pj q s.dom s.p):=by
   unfold pj;rw[hd,hp,awa,if_pos rfl];exact adv (k:=0) hp (adB os hs) q.terms _ hm (fun t ht=>⟨(hcl.t t ht).vc,(hcl.t t ht).c,hc t ht,fun e he=>((hcl.t t ht).b e he).2⟩) xS
  exact(ak3 oq os.d (by grind[mM]) hd hp h0 hb.a).bd hb
def H6(a b:Rat)(q:Rat->Rat->Rat):Prop:=∃C,0<=C/\∀x y,a<=x->x<=b->a<=y->y<=b→-C<=q x y/\q x y<=C
theorem H6.add{a b:Rat}{p q:Rat->Rat->Rat}(hp:H6 a b p)(hq:H6 a b q):H6 a b fun x y=>p x y+q x y:=by
 obtain⟨C,c0,hc⟩:=hp;obtain⟨D,d0,hd⟩:=hq;refine⟨C+D,by grind,fun x y h1 h2 h3 h4=>?_⟩;grind
theorem H6.mul{a b:Rat}{p q:Rat->Rat->Rat}(hp:H6 a b p)(hq:H6 a b q):H6 a b fun x y=>p x y*q x y:=by
 obtain⟨C,c0,hc⟩:=hp;obtain⟨D,d0,hd⟩:=hq;refine⟨C*D,Rat.mul_nonneg c0 d0,fun x y h1 h2 h3 h4=>?_⟩;obtain⟨u1,u2⟩:=hc x y h1 h2 h3 h4;obtain⟨v1,v2⟩:=hd x y h1 h2 h3 h4;show-(C*D)<=p x y*q x y/\p x y*q x y<=C*D;generalize p x y=u at*
 generalize q x y=v at*
 have k1:=Rat.mul_nonneg (show 0<=C-u by grind) (show 0<=D-v by grind);have k2:=Rat.mul_nonneg (show 0<=C+u by grind) (show 0<=D+v by grind);have k3:=Rat.mul_nonneg (show 0<=C-u by grind) (show 0<=D+v by grind);have k4:=Rat.mul_nonneg (show 0<=C+u by grind) (show 0<=D-v by grind);grind
theorem H6.c{a b:Rat}(k:Rat):H6 a b fun _ _=>k:=by
 rcases Rat.le_total (a:=0) (b:=k)with h|h
 ·exact⟨k,h,fun _ _ _ _ _ _=>by grind⟩
 ·exact⟨-k,by grind,fun _ _ _ _ _ _=>by grind⟩
def Smo(a b:Rat)(f g:Rat->Rat):Prop:=∃q,H6 a b q/\∀x y,f y-f x-g x*(y-x)=(y-x)*(y-x)*q x y
theorem Smo.lin{a b c d:Rat}{f g f' g':Rat->Rat}(h1:Smo a b f g)(h2:Smo a b f' g')(hd:d=c):Smo a b (fun x=>c*f x+f' x) fun x=>d*g x+g' x:=by
 obtain⟨q,hq,e⟩:=h1;obtain⟨q',hq',e'⟩:=h2;refine⟨fun x y=>d*q x y+q' x y,((H6.c _).mul hq).add hq',fun x y=>?_⟩;grind
def u8R(l:List Nat):List (List AV):=l.map fun k=>[.v (.int .u8 (k:Nat))]
@[go_sem] theorem atB(l:List Nat):(u8R l).length=l.length:=by simp[u8R]
def cE(dom:List Ri)(k j:Nat):Rd:=if k/2^j%2=1 then(dom.getD j dy).hi else(dom.getD j dy).lo
theorem aaN{z:Int}{k:Nat}{e:Int}:eK (z*((2^k:Nat):Int)) e=eK z (e+k):=by
 have hp:0< ((2^k:Nat):Int):=Int.natCast_pos.2 (avJ k);generalize hP:(2^k:Nat)=P at hp;grind[Int.mul_nonneg,Int.le_of_lt,Int.mul_neg_of_neg_of_pos,eK,Int.natAbs_mul,Int.natAbs_natCast,kK]
def arb:Rd:=⟨false,[1],1⟩
theorem ak8:fV one one=(one,0):=by
 unfold fV;rw[eG.1,awa,if_pos rfl];have h:zI one=((2^ (16384+0):Nat):Int):=P9 (n:=false) (k:=0);have h2:=aaN (z:=zI one) (k:=16384+0) (e:=-32768);rw[←h]at h2;rw[h2,show(-32768:Int)+((16384+0:Nat):Int)=-16384 by omega,Ka eG.2 eG.1,Hq eG.1]
def s0:Rs:=⟨[rT],2,24⟩
abbrev tX(n:Int)(c:Rd):Rt:=⟨[n],c⟩
def hP:Rp:=⟨1,[tX 3 arb,tX 4 one]⟩
theorem aiR:In (qv Cw) rT:=Or.inr ⟨rfl,P5.2,Rat.le_refl,BB.2 (by
 rw[show zI Cw=cp true (2^ (16384+0))from P9 (k:=0),show zI rT.hi=cp false (2^ (16384+0))from P9 (k:=0)];simp only[cp,if_true,awo,if_false];omega)⟩
theorem afT{x:Ri}{q:Rat}(h:In q x)(ha:x.all=false):wF x x=true:=Sb.ins ⟨⟨_,h⟩,Or.inr ⟨ha,ha,⟨_,h⟩,Int.le_refl _,Int.le_refl _⟩⟩
theorem z3:Bj s0.p cr [cr,cr]=cr:=by
 simp only[Bj,Gv (show bQ s0.p=true from rfl)]
section
variable {s:Rs} {a b:Rm} {xs:List Rd} {ts:List Rat} {u v:Rat}
end
def ak9(d:Nat)(out:List Ri)(x:AV)(o:Ob):Prop:=(out=[]/\x=.emp/\o=.dead)\/(0<out.length/\x=.rsl d none 7 0 out.length/\o=.ar 7 (bc out))
theorem afU(o q:Ob):ao [o,q]=upd (upd (fun _=>.dead) 1000 o) 1001 q:=by
 unfold ao upd;funext i;by_cases h1:i=1001
 ·subst h1;rfl
 ·by_cases h2:i=1000
  ·subst h2;rfl
  ·simp only[h1,h2,if_false];split
   ·rw[List.getElem?_eq_none (by simp;omega)];rfl
   ·rfl
theorem agF(k:Bool){f:FuncId}{fd:FD}{args:List AV}{o q:Ob}{r:AV×List Ob}(hE:cG.E f=none)(hC:cG.C f=some fd)(hk:cG.md.keep f=k)(h1:args.length=fd.np)
  (hz:jV k fd.rs fd.res 2 (ai R (ax k) fd.body (te args) (upd (upd (fun _=>.dead) 1000 o) 1001 q))=some r):R f args [o,q]=some r:=by
 refine IZ k hE hC hk h1 σ ?_;rw[afU];exact hz
theorem aaO{h:ac}{o q:Ob}{rs:List (List Sh)}{vs us:List AV}{r:AV}(h0:((vs.flatMap bZ).filter fun i=>!bj i)=[])(h1:h 1000=o)(h4:h 1001=q)(ho:az [1000,1001] o=true)(hq:az [1000,1001] q=true)(h2:rk h vs=some us)(h3:tC (bm rs us)=r):pX rs 2 h vs=some (r,[o,q]):=by
 have hp:cF 2=[1000,1001]:=rfl;unfold pX;rw[h0,hp,h2,if_pos (by grind[jq])];grind
theorem afV{n:Nat}{h:ac}{rs:List (List Sh)}{rows:List (List AV)}{id k m:Nat}{r:AV}{hs:List Ob}(hp:bj id=false)(h4:h id=.ar k rows)(hm:m=rows.length)(ho:((cF n).all fun i=>az (cF n) (h i))=true)(hq:(cF n).map h=hs)(h3:tC (bm rs [.osl k rows])=r):pX rs n h [.rsl id none k 0 m]=some (r,hs):=by
 subst hm;unfold pX;rw[ho];simp[bZ,fC,hp,jq,rk,pW,lB,h4,Ah,hq,h3]
theorem Gw{h:ac}{i:Nat}{o:Ob}(hh:h i=o):upd h i o=h:=by
 funext j;unfold upd;grind
section
variable {f g:FuncId} {h:ac} {d i j:Nat} {zas as':List AV} {o q:Ob} {res:AV}
theorem adC(hm:(ax false).m f=[])(hk:(ax false).keep f=true)(hn:bm ((ax false).sh f) (zas++[.ref i none 0 0 0,.ref j none 0 0 0])=as'++[.ref i none 0 0 0,.ref j none 0 0 0])(hd:zas.all dat=true)(hd':as'.all dat=true)(hij:i≠j)
  (hi:h i=o) (hj:h j=q) (ho:OC o) (hq:OC q) (hR:R f (as'++[.ref 1000 none 0 0 0,.ref 1001 none 0 0 0]) [o,q]=some (res,[o,q])) (hr:RT res) (h8:cu res<=8) (hfr:bY h (2000+8*d) (cu res)=true):
  bv R (ax false) h d zas (.fn f [] [.ref i none 0 0 0,.ref j none 0 0 0])=some (res,h,[]):=by
 have hin:∀l:List AV,l.all dat=true->bO h [] (l++[.ref i none 0 0 0,.ref j none 0 0 0])=some (l++[.ref i none 0 0 0,.ref j none 0 0 0],h,[]):=by
  intro l;induction l with
  |nil=>intro _;rfl
  |cons x l ih=>
   intro h2;simp only[avQ,avv]at h2;simp only[avS,bO,List.headD_nil,Jp h2.1,avw,List.tail_nil,ih h2.2,avE]
 have h1:=hin zas hd;have hp:bu [] ((zas++[AV.ref i none 0 0 0,.ref j none 0 0 0]).flatMap bZ)=[i,j]:=by
  rw[List.flatMap_append,xN fun x hx=>Dc (List.all_eq_true.1 hd x hx)];show bu [] [i,j]=[i,j];simp[bu,hij,Ne.symm hij]
 have hre:bX h 40 [i,j] 0=[i,j]:=by
  simp[bX,hi,hj,ho.ids,hq.ids,bu]
 have p1:aW [i,j] i=1000:=by simp[aW]
 have p2:aW [i,j] j=1001:=by
  have e:(i==j)=false:=by simpa using hij
  simp[aW,List.idxOf_cons,e]
 have hall:(as'++[AV.ref i none 0 0 0,.ref j none 0 0 0]).all (aX [i,j])=true:=by
  rw[List.all_append,avv];exact⟨List.all_eq_true.2 fun x hx=>Gi (List.all_eq_true.1 hd' x hx) _,by simp[aX,bo]⟩
 have hmap:(as'++[AV.ref i none 0 0 0,.ref j none 0 0 0]).map (dB (aW [i,j]))=as'++[.ref 1000 none 0 0 0,.ref 1001 none 0 0 0]:=by
  rw[List.map_append,(avR (g:=fun c=>c) fun x hx=>Dd (List.all_eq_true.1 hd' x hx) _).trans (av5 as')];simp[dB,jk,p1,p2]
 have hob:([i,j].map fun a=>dG (aW [i,j]) (h a))=[o,q]:=by simp[hi,hj,ho.ren,hq.ren]
 have hids:([i,j].all fun a=>az [i,j] (h a)&&!bL (h a))=true:=by simp[hi,hj,ho.cl,ho.nd,hq.cl,hq.nd]
 unfold bv;rw[if_neg (by simp[jn,hm])];simp only[dH,hm,avB,h1,avw,hp,hre,hn];unfold jd;rw[hall,hids,hmap,hob,hR,awa,if_pos rfl,avw,hk,hm,qO];unfold dX;have hbf:cO h [] [i,j] [o,q]=true:=by
  have n1:=ho.nd;have n2:=hq.nd;cases h5:bf o<;>cases h6:bf q<;>simp[cO,hi,hj,h5,h6,n1,n2]
 have hend:kG h [i,j] [] (res,[o,q])=true:=by
  simp[kG,yw,hr.ok,ho.cl,hq.cl]
 rw[if_pos ⟨rfl,by simp,h8,hfr,hbf,hend⟩];simp[dS,fG,hr.mat,hr.ren,ho.ren,hq.ren,Gw hi,Gw hj]
theorem afW(hm:(ax false).m f=[])(hk:(ax false).keep f=false)(hn:bm ((ax false).sh f) (zas++[.fn g [] [.ref i none 0 0 0,.ref j none 0 0 0]])=as'++[.fn g [] [.ref i none 0 0 0,.ref j none 0 0 0]])(hd:zas.all dat=true)(hd':as'.all dat=true)(hij:i≠j)
  (hi:h i=o) (hj:h j=q) (ho:OC o) (hq:OC q) (hR:R f (as'++[.fn g [] [.ref 1000 none 0 0 0,.ref 1001 none 0 0 0]]) [o,q]=some (res,[o,q])) (hr:RT res) (h8:cu res<=8) (hfr:bY h (2000+8*d) (cu res)=true):
  bv R (ax false) h d (zas++[.fn g [] [.ref i none 0 0 0,.ref j none 0 0 0]]) (.fn f [] [])=some (res,h,[(i,true),(j,true)]):=by
 have hin:∀l:List AV,l.all dat=true->bO h [] (l++[.fn g [] [.ref i none 0 0 0,.ref j none 0 0 0]])=some (l++[.fn g [] [.ref i none 0 0 0,.ref j none 0 0 0]],h,[]):=by
  intro l;induction l with
  |nil=>intro _;rfl
  |cons x l ih=>
   intro h2;simp only[avQ,avv]at h2;simp only[avS,bO,List.headD_nil,Jp h2.1,avw,List.tail_nil,ih h2.2,avE]
 have h1:=hin zas hd;have hp:bu [] ((zas++[AV.fn g [] [.ref i none 0 0 0,.ref j none 0 0 0]]).flatMap bZ)=[i,j]:=by
  rw[List.flatMap_append,xN fun x hx=>Dc (List.all_eq_true.1 hd x hx)];show bu [] [i,j]=[i,j];simp[bu,hij,Ne.symm hij]
 have hre:bX h 40 [i,j] 0=[i,j]:=by
  simp[bX,hi,hj,ho.ids,hq.ids,bu]
 have p1:aW [i,j] i=1000:=by simp[aW]
 have p2:aW [i,j] j=1001:=by
  have e:(i==j)=false:=by simpa using hij
  simp[aW,List.idxOf_cons,e]
 have hall:(as'++[AV.fn g [] [.ref i none 0 0 0,.ref j none 0 0 0]]).all (aX [i,j])=true:=by
  rw[List.all_append,avv];exact⟨List.all_eq_true.2 fun x hx=>Gi (List.all_eq_true.1 hd' x hx) _,by simp[aX,bo]⟩
 have hmap:(as'++[AV.fn g [] [.ref i none 0 0 0,.ref j none 0 0 0]]).map (dB (aW [i,j]))=as'++[.fn g [] [.ref 1000 none 0 0 0,.ref 1001 none 0 0 0]]:=by
  rw[List.map_append,(avR (g:=fun c=>c) fun x hx=>Dd (List.all_eq_true.1 hd' x hx) _).trans (av5 as')];simp[dB,jk,p1,p2]
 have hob:([i,j].map fun a=>dG (aW [i,j]) (h a))=[o,q]:=by simp[hi,hj,ho.ren,hq.ren]
 have hids:([i,j].all fun a=>az [i,j] (h a)&&!bL (h a))=true:=by simp[hi,hj,ho.cl,ho.nd,hq.cl,hq.nd]
 unfold bv;rw[if_neg (by simp[jn,hm])];simp only[dH,hm,avB,avE,h1,avw,hp,hre,hn];unfold jd;rw[hall,hids,hmap,hob,hR,awa,if_pos rfl,avw,hk,hm,qO];unfold dX;have hbf:cO h [] [i,j] [o,q]=true:=by
  have n1:=ho.nd;have n2:=hq.nd;cases h5:bf o<;>cases h6:bf q<;>simp[cO,hi,hj,h5,h6,n1,n2]
 have hend:kG h [i,j] [] (res,[o,q])=true:=by
  simp[kG,yw,hr.ok,ho.cl,hq.cl]
 rw[if_pos ⟨rfl,by simp,h8,hfr,hbf,hend⟩];simp[dS,fG,hr.mat,hr.ren,ho.ren,hq.ren,Gw hi,Gw hj]
end
theorem MC{l:List Rm}{n:Nat}{m:Rm}(h:l[n]?=some m):bp (iZ l) (n:Int)=some (.ipt (H5 m)):=by
 simp[bp,iZ,h]
theorem V0{f:FuncId}{cap:List AV}{l:List Rm}{g:Rm->Ri}{o q:Ob}(hcl:(∀ids,az ids o=true)/\∀ids,az ids q=true)(hcap:cap=[.ref 1000 none 0 0 0]\/cap=[.ref 1000 none 0 0 0,.ref 1001 none 0 0 0])
  (hf:∀m∈l,∀ (h:ac) (d:Nat),h 1000=o->h 1001=q->h (2000+8*d)=.dead->bv R (ax false) h d [iY m] (.fn f [] cap)=some (am (g m),h,[])) (hl:l.length<=100000):∀ (k i:Nat),i+k=l.length->∀ (S:ak) (h:ac) (X:Option (Ex×St)),ah 0 [7] (av (ai R (ax false) aT) [2,7,13,14,15] [24,1000,1001] S h)=X->
  S 2=.fn f [] cap->S 13=.sl 9 (iZ l)->S 14=I l.length->S 15=I i->h 1000=o->h 1001=q->ak9 24 ((l.take i).map g) (S 7) (h 24)->
  ∃y hh,X=some (.normal,⟨upd (fun _=>.any) 7 y,hh⟩)/\ak9 24 (l.map g) y (hh 24)/\hh 1000=o/\hh 1001=q/\∀b,b≠24->b≠1000->b≠1001->hh b=.dead:=by
 intro k;induction k with
 |zero=>
  intro i hi S h X hX k2 k13 k14 k15 h0 h1 hacc;have:i=l.length:=ω
  subst this;subst hX;rw[List.take_length]at hacc;rw[ag];rcases hacc with⟨g2,k7,h24⟩| ⟨g2,k7,h24⟩
  ·refine⟨.emp,?hh0,?_,Or.inl ⟨g2,rfl,?_⟩,?_,?_,?_⟩;rotate_left
   ·rcases hcap with rfl|rfl<;> (simp only[aT,go_sem,k2,k7,k13,k14,k15,h0,h1,h24,hcl.1,hcl.2,awf];try rfl)
   all_goals first|rfl| (intro b b1 b2 b3;simp only[cU,b1,b2,b3,if_false])
  ·refine⟨.rsl 24 none 7 0 (l.map g).length,?hh1,?_,Or.inr ⟨g2,rfl,?_⟩,?_,?_,?_⟩;rotate_left
   ·rcases hcap with rfl|rfl<;> (simp only[aT,go_sem,k2,k7,k13,k14,k15,h0,h1,h24,hcl.1,hcl.2,awf];try rfl)
   all_goals first|rfl| (intro b b1 b2 b3;simp only[cU,b1,b2,b3,if_false])
 |succ k ih=>
  intro i hi S h X hX k2 k13 k14 k15 h0 h1 hacc;have ih':=ih (i+1) ω;have hlt:i<l.length:=ω
  have e1:((i:Int)< (l.length:Int))=True:=tt;have e2:bp (iZ l) (i:Int)=some (.ipt (H5 l[i])):=MC (List.getElem?_eq_getElem hlt);have e3:IntKind.i64.wrap ((i:Int)+1)=((i+1:Nat):Int):=wi;have q1:(((l.take i).map g).length+1)*88<=140737488355328:=by rw[awk,avF];omega
  have f3:=tt q1;have et:(l.take (i+1)).map g=(l.take i).map g++[g l[i]]:=by rw[List.take_succ_eq_append_getElem hlt,List.map_append];rfl
  rw[et]at ih';have hc:=hf l[i] (avN hlt);subst hX;rw[ag];generalize av _ _ _=L at ih'⊢;generalize l[i]=m at e2 hc ih';generalize g m=x at hc ih';generalize(l.take i).map g=out at hacc q1 f3 ih'⊢;simp only[am,aq]at hc;rcases hacc with⟨rfl,k7,h24⟩| ⟨g2,k7,h24⟩
  ·rcases hcap with rfl|rfl
   all_goals
    simp only[aT,go_sem,k2,k7,k13,k14,k15,h0,h1,h24,hcl.1,hcl.2,e1,e2];rw[hc _ _ rfl rfl rfl];simp only[go_sem,h0,h1,hcl.1,hcl.2,e3];exact ih' _ _ _ rfl rfl rfl rfl rfl rfl rfl (Or.inr ⟨by simp,rfl,rfl⟩)
  ·rcases hcap with rfl|rfl
   all_goals
    simp only[aT,go_sem,k2,k7,k13,k14,k15,h0,h1,h24,hcl.1,hcl.2,e1,e2];rw[hc _ _ rfl rfl rfl];simp only[go_sem,h0,h1,hcl.1,hcl.2,e3,f3,true_or,avs,avt];refine ih' _ _ _ rfl rfl rfl rfl rfl rfl rfl (Or.inr ⟨by simp,?_,?_⟩)<;>simp[cU,bc,aq]
def eL{α β:Type}(s:Rs)(l:List α)(g:α->β):List β:=if kV s=true then l.map g else []
theorem aiS{s:Rs}{f:FuncId}{l:List Rm}{g:Rm->Ri}{o:Ob}(os:OkS s)(hcl:∀ids,az ids o=true)
  (hf:∀m∈l,∀ (h:ac) (d:Nat),h 1000=o->h 1001=.dead->h (2000+8*d)=.dead->bv R (ax false) h d [iY m] (.fn f [] [.ref 1000 none 0 0 0])=some (am (g m),h,[])) (hl:l.length<=100000):
  R F.modeleval_each_api_Model_api_Interval_ [lz s,.sl 9 (iZ l),.fn f [] [.ref 1000 none 0 0 0]] [o]=some (.sl 7 (bc (eL s l g)),[o]):=by
 refine rR aM.2.1 aM.2.2 (aM.1.2.2.2 false) rfl ?_;have hv:=iM os.d os.n;unfold eL;cases g0:kV s with
 |false=>
  rw[g0]at hv;simp only[bU,cM,go_sem,hv];exact nJ rfl rfl (hcl _) rfl rfl
 |true=>
 rw[g0]at hv;have hL:=V0 (q:=.dead) ⟨hcl,fun _=>rfl⟩ (.inl rfl) hf hl l.length 0 (avs _);generalize hLL:av (ai R (ax false) aT)=L at hL;have hX:∀s h,ai R (ax false) (.loop [2,7,13,14,15] [24,1000,1001] aT) s h=L [2,7,13,14,15] [24,1000,1001] s h:=fun s h=>by rw[←hLL];rfl
 have l2:(iZ l).length=l.length:=awk _;simp only[bU,cM,go_sem,hv,hX,hcl,l2];generalize hBB:ah 0 [7] (L _ _ _ _)=X;obtain⟨y,hh,hE,hacc,m0,m1,md⟩:=hL _ _ _ hBB rfl rfl rfl rfl rfl rfl (Or.inl ⟨rfl,rfl,rfl⟩);rw[hE];rcases hacc with⟨e,rfl,m24⟩| ⟨e,rfl,m24⟩
 ·simp only[if_true,e,go_sem,m24,m0,m1,md,hcl];exact nJ rfl m0 (hcl _) rfl rfl
 ·have hn:=Db (l.map g);simp only[if_true,go_sem,m24,m0,m1,md,hcl];refine afV rfl m24 (s7 _).symm (by simp[cF,m0,hcl]) (by simp[cF,m0]) ?_;simp only[go_sem,hn]
theorem aiT{s:Rs}{f:FuncId}{l:List Rm}{g:Rm->Ri}{o q:Ob}(os:OkS s)(hcl:(∀ids,az ids o=true)/\∀ids,az ids q=true)
  (hf:∀m∈l,∀ (h:ac) (d:Nat),h 1000=o->h 1001=q->h (2000+8*d)=.dead->bv R (ax false) h d [iY m] (.fn f [] [.ref 1000 none 0 0 0,.ref 1001 none 0 0 0])=some (am (g m),h,[])) (hl:l.length<=100000):
  R F.modeleval_each_api_Model_api_Interval_ [lz s,.sl 9 (iZ l),.fn f [] [.ref 1000 none 0 0 0,.ref 1001 none 0 0 0]] [o,q]=some (.sl 7 (bc (eL s l g)),[o,q]):=by
 refine agF false aM.2.1 aM.2.2 (aM.1.2.2.2 false) rfl ?_;have hv:=iM os.d os.n;unfold eL;cases g0:kV s with
 |false=>
  rw[g0]at hv;simp only[bU,cM,go_sem,hv];exact aaO rfl rfl rfl (hcl.1 _) (hcl.2 _) rfl rfl
 |true=>
 rw[g0]at hv;have hL:=V0 hcl (.inr rfl) hf hl l.length 0 (avs _);generalize hLL:av (ai R (ax false) aT)=L at hL;have hX:∀s h,ai R (ax false) (.loop [2,7,13,14,15] [24,1000,1001] aT) s h=L [2,7,13,14,15] [24,1000,1001] s h:=fun s h=>by rw[←hLL];rfl
 have l2:(iZ l).length=l.length:=awk _;simp only[bU,cM,go_sem,hv,hX,hcl.1,hcl.2,l2];generalize hBB:ah 0 [7] (L _ _ _ _)=X;obtain⟨y,hh,hE,hacc,m0,m1,md⟩:=hL _ _ _ hBB rfl rfl rfl rfl rfl rfl (Or.inl ⟨rfl,rfl,rfl⟩);rw[hE];rcases hacc with⟨e,rfl,m24⟩| ⟨e,rfl,m24⟩
 ·simp only[if_true,e,go_sem,m24,m0,m1,md,hcl.1,hcl.2];exact aaO rfl m0 m1 (hcl.1 _) (hcl.2 _) rfl rfl
 ·have hn:=Db (l.map g);simp only[if_true,go_sem,m24,m0,m1,md,hcl.1,hcl.2];refine afV rfl m24 (s7 _).symm (by rw[show cF 2=[1000,1001]from rfl];simp[m0,m1,hcl.1,hcl.2]) (by rw[show cF 2=[1000,1001]from rfl];simp[m0,m1]) ?_;simp only[go_sem,hn]
def ala(d:Nat)(out:List Rm)(x:AV)(o:Ob):Prop:=(out=[]/\x=.emp/\o=.dead)\/(0<out.length/\x=.rsl d none 9 0 out.length/\o=.ar 9 (iZ out))
theorem afX{f:FuncId}{cap:List AV}{l:List Ri}{g:Ri->Rm}{o:Ob}(hcl:∀ids,az ids o=true)(hcap:cap=[.ref 1000 none 0 0 0])
  (hf:∀m∈l,∀ (h:ac) (d:Nat),h 1000=o->h (2000+8*d)=.dead->bv R (ax false) h d [am m] (.fn f [] cap)=some (iY (g m),h,[])) (hl:l.length<=100000):∀ (k i:Nat),i+k=l.length->∀ (S:ak) (h:ac) (X:Option (Ex×St)),ah 0 [7] (av (ai R (ax false) bk) [2,7,13,14,15] [24,1000] S h)=X->
  S 2=.fn f [] cap->S 13=.sl 7 (bc l)->S 14=I l.length->S 15=I i->h 1000=o->ala 24 ((l.take i).map g) (S 7) (h 24)->
  ∃y hh,X=some (.normal,⟨upd (fun _=>.any) 7 y,hh⟩)/\ala 24 (l.map g) y (hh 24)/\hh 1000=o/\∀b,b≠24->b≠1000->hh b=.dead:=by
 intro k;induction k with
 |zero=>
  intro i hi S h X hX k2 k13 k14 k15 h0 hacc;have:i=l.length:=ω
  subst this;subst hX;rw[List.take_length]at hacc;rw[ag];rcases hacc with⟨g2,k7,h24⟩| ⟨g2,k7,h24⟩
  ·refine⟨.emp,?hh0,?_,Or.inl ⟨g2,rfl,?_⟩,?_,?_⟩;rotate_left
   ·subst hcap;(simp only[bk,go_sem,k2,k7,k13,k14,k15,h0,h24,hcl,awf];try rfl)
   all_goals first|rfl| (intro b b1 b2;simp only[cU,b1,b2,if_false])
  ·refine⟨.rsl 24 none 9 0 (l.map g).length,?hh1,?_,Or.inr ⟨g2,rfl,?_⟩,?_,?_⟩;rotate_left
   ·subst hcap;(simp only[bk,go_sem,k2,k7,k13,k14,k15,h0,h24,hcl,awf];try rfl)
   all_goals first|rfl| (intro b b1 b2;simp only[cU,b1,b2,if_false])
 |succ k ih=>
  intro i hi S h X hX k2 k13 k14 k15 h0 hacc;have ih':=ih (i+1) ω;have hlt:i<l.length:=ω
  have e1:((i:Int)< (l.length:Int))=True:=tt;have e2:bp (bc l) (i:Int)=some (.ipt (aq l[i])):=s9 rfl (List.getElem?_eq_getElem hlt);have e3:IntKind.i64.wrap ((i:Int)+1)=((i+1:Nat):Int):=wi;have q1:(((l.take i).map g).length+1)*120<=140737488355328:=by rw[awk,avF];omega
  have f3:=tt q1;have et:(l.take (i+1)).map g=(l.take i).map g++[g l[i]]:=by rw[List.take_succ_eq_append_getElem hlt,List.map_append];rfl
  rw[et]at ih';have hc:=hf l[i] (avN hlt);subst hX;rw[ag];generalize av _ _ _=L at ih'⊢;generalize l[i]=m at e2 hc ih';generalize g m=x at hc ih';generalize(l.take i).map g=out at hacc q1 f3 ih'⊢;simp only[am,aq]at e2 hc;have fl:(iZ out).length=out.length:=awk _;rcases hacc with⟨rfl,k7,h24⟩| ⟨g2,k7,h24⟩
  ·subst hcap
   all_goals
    simp only[bk,go_sem,k2,k7,k13,k14,k15,h0,h24,hcl,e1,e2];rw[hc _ _ rfl rfl];simp only[go_sem,h0,hcl,e3];exact ih' _ _ _ rfl rfl rfl rfl rfl rfl (Or.inr ⟨by simp,rfl,rfl⟩)
  ·subst hcap
   all_goals
    simp only[bk,go_sem,k2,k7,k13,k14,k15,h0,h24,hcl,e1,e2];rw[hc _ _ rfl rfl];simp only[go_sem,h0,hcl,e3,f3,fl,true_or,avs,avt];refine ih' _ _ _ rfl rfl rfl rfl rfl rfl (Or.inr ⟨by simp,?_,?_⟩)<;>simp[cU]
theorem aiU{s:Rs}{f:FuncId}{l:List Ri}{g:Ri->Rm}{o:Ob}(os:OkS s)(hcl:∀ids,az ids o=true)
  (hf:∀m∈l,∀ (h:ac) (d:Nat),h 1000=o->h (2000+8*d)=.dead->bv R (ax false) h d [am m] (.fn f [] [.ref 1000 none 0 0 0])=some (iY (g m),h,[])) (hl:l.length<=100000):
  R F.modeleval_each_api_Interval_api_Model_ [lz s,.sl 7 (bc l),.fn f [] [.ref 1000 none 0 0 0]] [o]=some (.sl 9 (iZ (eL s l g)),[o]):=by
 refine rR aaZ.2.1 aaZ.2.2 (aaZ.1.2.2.2 false) rfl ?_;have hv:=iM os.d os.n;unfold eL;cases g0:kV s with
 |false=>
  rw[g0]at hv;simp only[dm,fy,go_sem,hv];exact nJ rfl rfl (hcl _) rfl rfl
 |true=>
 rw[g0]at hv;have hL:=afX hcl rfl hf hl l.length 0 (avs _);generalize hLL:av (ai R (ax false) bk)=L at hL;have hX:∀s h,ai R (ax false) (.loop [2,7,13,14,15] [24,1000] bk) s h=L [2,7,13,14,15] [24,1000] s h:=fun s h=>by rw[←hLL];rfl
 have l2:(bc l).length=l.length:=s7 _;simp only[dm,fy,go_sem,hv,hX,hcl,l2];generalize hBB:ah 0 [7] (L _ _ _ _)=X;obtain⟨y,hh,hE,hacc,m0,md⟩:=hL _ _ _ hBB rfl rfl rfl rfl rfl (Or.inl ⟨rfl,rfl,rfl⟩);rw[hE];rcases hacc with⟨e,rfl,m24⟩| ⟨e,rfl,m24⟩
 ·simp only[if_true,e,go_sem,m24,m0,md,hcl];exact nJ rfl m0 (hcl _) rfl rfl
 ·have hn:=jO (l.map g);simp only[if_true,go_sem,m24,m0,md,hcl];refine afV rfl m24 (awk _).symm (by simp[cF,m0,hcl]) (by simp[cF,m0]) ?_;simp only[go_sem,hn]
theorem agG(l:List Ri):RT (.sl 7 (bc l)):=⟨fun _=>rfl,fun _ _=>rfl,fun _=>rfl⟩
theorem anp(m:Rm):RT (iY m):=⟨fun _=>rfl,fun _ _=>rfl,fun _=>rfl⟩
theorem alb(l:List Rm):RT (.sl 9 (iZ l)):=⟨fun _=>rfl,fun _ _=>rfl,fun _=>rfl⟩
theorem agH(x:List Ri):OC (.bx [.sl 7 (bc x)]):=⟨fun _=>rfl,rfl,fun _=>rfl,rfl⟩
theorem aiV{s:Rs}{m:Rm}(os:OkS s)(om:OkM m):R F.modeleval_Box_1 [iY m,.ref 1000 none 0 0 0] [.bx (uW s)]=some (am (xQ s m),[.bx (uW s)]):=by
 refine B0 KC KB (zH false) rfl ?_;have h:=Rw os om;simp only[am,aq]at h;simp only[ut,CA,am,aq,go_sem,h];exact nJ rfl rfl rfl rfl (by simp only[go_sem,rU])
theorem alc{s:Rs}{y:Ri}(os:OkS s)(oy:OkI y):R F.modeleval_Of_1 [am y,.ref 1000 none 0 0 0] [.bx (uW s)]=some (iY (nD s y),[.bx (uW s)]):=by
 refine B0 LH LG (Aa false) rfl ?_;have h:=Rx os oy;generalize nD s y=z at h⊢;simp only[am,aq]at h;simp only[we,Dz,am,aq,go_sem,h];exact nJ rfl rfl rfl rfl (by simp only[go_sem,rU])
theorem ald{s:Rs}{m:Rm}{r:List Ri}(os:OkS s)(om:OkM m)(or:∀y∈r,OkI y)(hr:r.length<=100000):R F.modeleval_At_1 [iY m,.ref 1000 none 0 0 0,.ref 1001 none 0 0 0] [.bx (uW s),.bx [.sl 7 (bc r)]]=some (am (xR s m r),[.bx (uW s),.bx [.sl 7 (bc r)]]):=by
 refine agF true LE LD (zZ false) rfl ?_;have h:=VU os om or hr;simp only[am,aq]at h;simp only[v9,Dy,am,aq,go_sem,h];exact aaO rfl rfl rfl rfl rfl rfl (by simp only[go_sem])
theorem ale{s:Rs}{l:List Rm}(os:OkS s)(om:∀m∈l,OkM m)(hl:l.length<=100000):R F.modeleval_Box [lz s,.sl 9 (iZ l)] []=some (.sl 7 (bc (eL s l (xQ s))),[]):=by
 refine aB Nr rfl ?_;have hE:=aiS (f:=F.modeleval_Box_1) (l:=l) (g:=xQ s) (o:=.bx (uW s)) os (fun _=>rfl) (fun m hm h d h0 _ hf=>by
  have:=Jq (f:=F.modeleval_Box_1) (h:=h) (d:=d) (id:=1000) (zas:=[iY m]) (as':=[iY m]) (CJ false) (zH false) (by rw[I1];simp only[go_sem,rU,avS,avB]) rfl rfl h0 (pS s) (pS s) (fun h=>h) (aiV os (om m hm)) (SQ _) (avW rfl) (show bY _ _ 1=true by simp[bY,hf,bL]);rwa[Gw h0]at this) hl
 have hcc:=fun(h:ac) (d:Nat) (hh:h 2=.bx (uW s)) (hf:h (2000+8*d)=.dead)=>Bb (f:=F.modeleval_each_api_Model_api_Interval_) (g:=F.modeleval_Box_1) (h:=h) (d:=d) (id:=2) (zas:=[lz s,.sl 9 (iZ l)]) (as':=[lz s,.sl 9 (iZ l)]) (aM.1.2.1 false) (aM.1.2.2.2 false)
  (by rw[aM.1.1];simp only[go_sem,jO,avS,avB]) rfl rfl hh (pS s) (pS s) (fun h=>h) hE (agG _) (avW rfl) (by simp[bY,cu,hf,bL])
 simp only[avS,avB,go_sem]at hcc;have hn:=Db (eL s l (xQ s));simp only[xp,EF,go_sem];rw[hcc _ _ rfl rfl];simp only[go_sem,hn]
theorem anq{s:Rs}{l:List Ri}(os:OkS s)(om:∀m∈l,OkI m)(hl:l.length<=100000):R F.modeleval_Of [lz s,.sl 7 (bc l)] []=some (.sl 9 (iZ (eL s l (nD s))),[]):=by
 refine aB OV rfl ?_;have hE:=aiU (f:=F.modeleval_Of_1) (l:=l) (g:=nD s) (o:=.bx (uW s)) os (fun _=>rfl) (fun m hm h d h0 hf=>by
  have:=Jq (f:=F.modeleval_Of_1) (h:=h) (d:=d) (id:=1000) (zas:=[am m]) (as':=[am m]) (DW false) (Aa false) (by rw[KE];simp only[am,aq,go_sem,avS,avB]) rfl rfl h0 (pS s) (pS s) (fun h=>h) (alc os (om m hm)) (anp _) (avW rfl) (by simp[bY,cu,hf,bL]);rwa[Gw h0]at this) hl
 have hcc:=fun(h:ac) (d:Nat) (hh:h 2=.bx (uW s)) (hf:h (2000+8*d)=.dead)=>Bb (f:=F.modeleval_each_api_Interval_api_Model_) (g:=F.modeleval_Of_1) (h:=h) (d:=d) (id:=2) (zas:=[lz s,.sl 7 (bc l)]) (as':=[lz s,.sl 7 (bc l)]) (aaZ.1.2.1 false) (aaZ.1.2.2.2 false)
  (by rw[aaZ.1.1];simp only[go_sem,avS,avB]) rfl rfl hh (pS s) (pS s) (fun h=>h) hE (alb _) (avW rfl) (by simp[bY,cu,hf,bL])
 simp only[avS,avB,go_sem]at hcc;have hn:=jO (eL s l (nD s));simp only[yM,FQ,go_sem];rw[hcc _ _ rfl rfl];simp only[go_sem,hn]
theorem anr{s:Rs}{l:List Rm}{r:List Ri}(os:OkS s)(om:∀m∈l,OkM m)(hl:l.length<=100000)(or:∀y∈r,OkI y)(hr:r.length<=100000):R F.modeleval_At [lz s,.sl 9 (iZ l),.sl 7 (bc r)] []=some (.sl 7 (bc (eL s l fun m=>xR s m r)),[]):=by
 refine aB OU rfl ?_;have hE:=aiT (f:=F.modeleval_At_1) (l:=l) (g:=fun m=>xR s m r) (o:=.bx (uW s)) (q:=.bx [.sl 7 (bc r)]) os ⟨fun _=>rfl,fun _=>rfl⟩ (fun m hm h d h0 h1 hf=>
  adC (f:=F.modeleval_At_1) (h:=h) (d:=d) (i:=1000) (j:=1001) (zas:=[iY m]) (as':=[iY m]) (DV false) (zZ false) (by rw[KD];simp only[go_sem,rU,avS,avB]) rfl rfl δ h0 h1 (pS s) (agH r) (ald os (om m hm) or hr) (SQ _) (avW rfl) (show bY _ _ 1=true by simp[bY,hf,bL])) hl
 have hcc:=fun(h:ac) (d:Nat) (hh:h 3=.bx (uW s)) (h5:h 5=.bx [.sl 7 (bc r)]) (hf:h (2000+8*d)=.dead)=>afW (f:=F.modeleval_each_api_Model_api_Interval_) (g:=F.modeleval_At_1) (h:=h) (d:=d) (i:=3) (j:=5) (zas:=[lz s,.sl 9 (iZ l)]) (as':=[lz s,.sl 9 (iZ l)]) (aM.1.2.1 false) (aM.1.2.2.2 false)
  (by rw[aM.1.1];simp only[go_sem,jO,avS,avB]) rfl rfl δ hh h5 (pS s) (agH r) hE (agG _) (avW rfl) (by simp[bY,cu,hf,bL])
 simp only[avS,avB,go_sem]at hcc;have hn:=Db (eL s l fun m=>xR s m r);simp only[yL,FP,go_sem];rw[hcc _ _ rfl rfl rfl];simp only[go_sem,hn]
theorem aiW{s:Rs}{a:Rm}:OkI (xQ s a):=by
 unfold xQ;split
 ·exact AY
 ·exact Hn.ok'
theorem aiX{s:Rs}{a:Rm}{x:List Ri}:OkI (xR s a x):=by
 unfold xR;split
 ·exact AY
 ·exact Hn.ok'
theorem aiY{s:Rs}{x:Ri}(os:OkS s)(ox:OkI x):OkI (nD s x).R/\Cl (nD s x).P.vars (nD s x).P.terms/\(nD s x).P.terms.length<=100000:=by
 unfold nD;split
 ·rename_i h;rw[avv]at h;have h8:=(mM h.1).1;obtain⟨m1,m2⟩:=Yx (p:=s.p) ox;obtain⟨q,hq⟩:=aaI ox (by have:=h.2;unfold kI at this;grind);obtain⟨a,b,c,d⟩:=afK (s:=s) (q:=PZ s.dom.length (zP x s.p)) (e:=0) (qM (YG h8 m2 m1)) os ω (fun _ _=>rfl) ⟨_,Yb (p:=s.p) hq (tW m1 m2)⟩;exact⟨a,c,d⟩
 ·obtain⟨a,_,c,d⟩:=JH (s:=s);exact⟨a,c,d⟩
theorem afY{s:Rs}{c:List Ri}(os:OkS s)(oc:∀y∈c,OkI y)(hl:c.length<=100000):∀ (k i:Nat),i+k=c.length->∀ (S:ak) (h:ac) (X:Option (Ex×St)),ah 2 [] (av (ai R (ax false) ft) [4,11,114,115,116] [4] S h)=X->
  S 4=.ref 4 none 0 0 0->S 11=.sl 9 (iZ (c.map (nD s)))->S 114=.sl 7 (bc c)->S 115=I c.length->S 116=I i->h 4=.bx (uW s)->∃hh,X=some (.normal,⟨fun _=>.any,hh⟩):=by
 intro k;induction k with
 |zero=>
  intro i hi S h X hX k4 k11 k14 k15 k16 h4;have:i=c.length:=ω
  subst this;subst hX;rw[ag];refine⟨?hh0,?_⟩;rotate_left
  ·simp only[ft,go_sem,k4,k11,k14,k15,k16,h4,awf];rfl
 |succ k ih=>
  intro i hi S h X hX k4 k11 k14 k15 k16 h4;have ih':=ih (i+1) ω;have hlt:i<c.length:=ω
  have e1:((i:Int)< (c.length:Int))=True:=tt;have e2:bp (bc c) (i:Int)=some (.ipt (aq c[i])):=s9 rfl (List.getElem?_eq_getElem hlt);have e3:IntKind.i64.wrap ((i:Int)+1)=((i+1:Nat):Int):=wi;have e4:bp (iZ (c.map (nD s))) (i:Int)=some (.ipt (H5 (nD s c[i]))):=MC (by simp[hlt]);have ok:=oc _ (avN hlt);have hc:=Rx os ok;obtain⟨r1,r2,r3⟩:=aiY os ok;have hs:=adp r1 r2 r3;subst hX;rw[ag];generalize av _ _ _=L at ih'⊢;generalize c[i]=y at*
  generalize nD s y=z at*
  generalize c.map (nD s)=cl at*
  simp only[am,aq]at e2 hc;simp only[ft,go_sem,k4,k11,k14,k15,k16,h4,e1,e2,e3,e4,hc,hs];exact ih' _ _ _ rfl rfl rfl rfl rfl rfl rfl
theorem afZ{s:Rs}{x:List Rm}{r c:List Ri}(os:OkS s)(om:∀m∈x,OkM m)(or:∀y∈r,OkI y)(hr:r.length<=100000)(hl:x.length<=100000):∀ (k i:Nat),i+k=x.length->∀ (S:ak) (h:ac) (X:Option (Ex×St)),ah 0 [3,4,11] (av (ai R (ax false) fw) [2,3,4,9,10,11,85,86,87] [4] S h)=X->
  S 2=.sl 7 (bc r)->S 3=.sl 7 (bc c)->S 4=.ref 4 none 0 0 0->S 9=.sl 7 (bc (x.map (xQ s)))->S 10=.sl 7 (bc (x.map fun a=>xR s a r))->S 11=.sl 9 (iZ (c.map (nD s)))->S 85=.sl 9 (iZ x)->S 86=I x.length->S 87=I i->h 4=.bx (uW s)->
  ∃hh,X=some (.normal,⟨upd (upd (upd (fun _=>.any) 11 (.sl 9 (iZ (c.map (nD s))))) 4 (.ref 4 none 0 0 0)) 3 (.sl 7 (bc c)),hh⟩)/\hh 4=.bx (uW s)/\∀b,b≠4->hh b=.dead:=by
 intro k;generalize c.map (nD s)=cl;induction k with
 |zero=>
  intro i hi S h X hX k2 k3 k4 k9 k10 k11 k85 k86 k87 h4;have:i=x.length:=ω
  subst this;subst hX;rw[ag];refine⟨?hh0,?_,?_,?_⟩;rotate_left
  ·simp only[fw,go_sem,k2,k3,k4,k9,k10,k11,k85,k86,k87,h4,awf];rfl
  all_goals first|rfl| (intro b b1;simp only[cU,b1,if_false])
 |succ k ih=>
  intro i hi S h X hX k2 k3 k4 k9 k10 k11 k85 k86 k87 h4;have ih':=ih (i+1) ω;have hlt:i<x.length:=ω
  have e1:((i:Int)< (x.length:Int))=True:=tt;have e2:bp (iZ x) (i:Int)=some (.ipt (H5 x[i])):=MC (List.getElem?_eq_getElem hlt);have e3:IntKind.i64.wrap ((i:Int)+1)=((i+1:Nat):Int):=wi;have e4:bp (bc (x.map (xQ s))) (i:Int)=some (.ipt (aq (xQ s x[i]))):=s9 rfl (by simp[hlt]);have e5:bp (bc (x.map fun a=>xR s a r)) (i:Int)=some (.ipt (aq (xR s x[i] r))):=s9 rfl (by simp[hlt]);have ok:=om _ (avN hlt);have h1:=Rw os ok;have h2:=VU os ok or hr;have h3:=Mz (aiW (s:=s) (a:=x[i]));have h5:=Mz (aiX (s:=s) (a:=x[i]) (x:=r));subst hX;rw[ag];generalize av _ _ _=L at ih'⊢;generalize x.map (xQ s)=bl at*
  generalize x.map (fun a=>xR s a r)=el at*
  generalize x[i]=y at*
  generalize xQ s y=u at*
  generalize xR s y r=v at*
  simp only[am,aq]at e4 e5 h1 h2 h3 h5;simp only[fw,go_sem,k2,k3,k4,k9,k10,k11,k85,k86,k87,h4,e1,e2,e3,e4,e5,h1,h2,h3,h5];exact ih' _ _ _ rfl rfl rfl rfl rfl rfl rfl rfl rfl rfl rfl
theorem af0{s:Rs}{x:List Rm}{r c:List Ri}(haw:R F.l27_awake [] []=some (B true,[]))(os:OkS s)(om:∀m∈x,OkM m)(lx:x.length<4611686018427387904)(or:∀y∈r,OkI y)(oc:∀y∈c,OkI y):R F.l27_ModelevalBoxes [lz s,.sl 9 (iZ x),.sl 7 (bc r),.sl 7 (bc c)] []=some (B true,[]):=by
 refine aB G4 rfl ?_;obtain⟨b,hg,hb⟩:=aaK os om lx;have hg:R F.l27_great [lz s,.agg [I 0,.sl 6 [],lm []],.sl 9 (iZ x)] []=some (B b,[]):=hg;have l1:(bc r).length=r.length:=s7 _;have l2:(bc c).length=c.length:=s7 _;have l3:(iZ x).length=x.length:=awk _;cases b with
 |true=>simp only[dj,ed,go_sem,haw,hg,jO]
 |false=>
 have lx8:=hb rfl;by_cases g1:8< (r.length:Int)
 ·have f1:=tt g1;simp only[dj,ed,go_sem,haw,hg,l1,f1,jO]
 have f1:=ff g1;by_cases g2:8< (c.length:Int)
 ·have f2:=tt g2;simp only[dj,ed,go_sem,haw,hg,l1,l2,f1,f2,jO]
 have f2:=ff g2;have hr:=Hy (l:=r) ω;have hc:=Hy (l:=c) ω;cases g3:r.any E8 with
 |true=>
  rw[g3]at hr;simp only[dj,ed,go_sem,haw,hg,l1,l2,f1,f2,hr,jO]
 |false=>
 rw[g3]at hr;cases g4:c.any E8 with
 |true=>
  rw[g4]at hc;simp only[dj,ed,go_sem,haw,hg,l1,l2,f1,f2,hr,hc,jO]
 |false=>
 rw[g4]at hc;have hB:=ale os om ω;have hA:=anr os om ω or ω;have hO:=anq os oc ω;have hv:=iM os.d os.n;unfold eL at hB hA hO;cases g5:kV s with
 |false=>
  rw[g5]at hB hA hO hv;rw[if_neg avD]at hB hA hO;have z1:bc []=[]:=rfl;have z2:iZ []=[]:=rfl;have z3:([]:List (List AV)).length=0:=rfl;have z4:(((0:Nat):Int)=0)=True:=eq_true rfl;rw[z1]at hB hA;rw[z2]at hO;simp only[dj,ed,go_sem,haw,hg,l1,l2,f1,f2,hr,hc,hB,hA,hO,hv,jO,z3,z4]
 |true=>
 rw[g5]at hB hA hO hv;rw[if_pos rfl]at hB hA hO;have hL1:=afZ (c:=c) os om or ω ω x.length 0 (avs _);have hL0:=afY os oc ω c.length 0 (avs _);have n1:(bc (x.map (xQ s))).length=x.length:=by rw[s7,awk]
 have n2:(bc (x.map fun a=>xR s a r)).length=x.length:=by rw[s7,awk]
 have n3:(iZ (c.map (nD s))).length=c.length:=by rw[awk,awk]
 have n4:=jO (c.map (nD s));have e1:((x.length:Int)=(x.length:Int))=True:=eq_true rfl;have e2:((c.length:Int)=(c.length:Int))=True:=eq_true rfl;generalize c.map (nD s)=cl at*
 generalize x.map (xQ s)=bl at*
 generalize x.map (fun a=>xR s a r)=el at*
 generalize hLL:av (ai R (ax false) fw)=L at hL1;have hX:∀s h,ai R (ax false) (.loop [2,3,4,9,10,11,85,86,87] [4] fw) s h=L [2,3,4,9,10,11,85,86,87] [4] s h:=fun s h=>by rw[←hLL];rfl
 generalize hLL0:av (ai R (ax false) ft)=L0 at hL0;have hX0:∀s h,ai R (ax false) (.loop [4,11,114,115,116] [4] ft) s h=L0 [4,11,114,115,116] [4] s h:=fun s h=>by rw[←hLL0];rfl
 simp only[dj,ed,go_sem,haw,hg,l1,l2,l3,f1,f2,hr,hc,hB,hA,hO,hv,jO,n1,n2,n3,hX,hX0,e1,e2];generalize hBB:ah 0 [3,4,11] (L _ _ _ _)=X;obtain⟨hh,hE,m4,md⟩:=hL1 _ _ _ hBB rfl rfl rfl rfl rfl rfl rfl rfl rfl rfl;rw[hE];simp only[go_sem,m4,md,hX0,l2];generalize hBC:ah 2 [] (L0 _ _ _ _)=Y;obtain⟨h2,hE2⟩:=hL0 _ _ _ hBC rfl rfl rfl rfl rfl m4;rw[hE2];simp only[go_sem]
noncomputable def FG:Env:=⟨fun f=>SG.lookup f,cG.C,cG.md⟩
noncomputable def R0:ic:=fS FG
theorem Gx{f:FuncId}{fd:FD}{args:List AV}{hs:List Ob}{r:AV×List Ob}(hE:FG.E f=none)(hC:FG.C f=some fd)(hk:FG.md.keep f=false)(h1:args.length=fd.np)(h2:hs.length<=1000)
  (hz:jV false fd.rs fd.res hs.length (ai R0 (ax false) fd.body (te args) (ao hs))=some r):R0 f args hs=some r:=by
 refine IH hE hC ?_;unfold TK;rw[if_pos ⟨h1,h2⟩,hk];exact hz
theorem zQ(o:Ob):ao [o]=upd (fun _=>.dead) 1000 o:=by
 funext i;unfold ao upd;by_cases h:i=1000
 ·subst h;rfl
 ·rw[if_neg h];split
  ·rw[List.getElem?_eq_none (by simp;omega)];rfl
  ·rfl
theorem af1{r:List AV}{rs:List (List AV)}(h:(rs.length+1)*8<=140737488355328):R0 F.slices_Clone_int_int_ [.sl 1 (r::rs)] []=some (.osl 1 (r::rs),[]):=by
 refine Gx (fd:=mV) κ κ κ rfl δ ?_;have e1:((rs.length+1)*8<=140737488355328)=True:=eq_true h;have e2:JK false (.sl 1 (r::rs))=some (B false):=rfl;simp only[mV,vU,go_sem,e1,e2,av2,awd,avs,av6,avt,true_and,true_or,avB]
theorem af2:eS 4 .emp (some (I 0)) none none=some .emp:=rfl
theorem aiZ{r:List AV}:R0 F.slices_Insert_api_Term_api_Term_ [.emp,I 0,.sl 4 [r]] []=some (.osl 4 [r],[]):=by
 refine Gx (fd:=bC) κ κ κ rfl δ ?_;have e1:((1:Int)=0)=False:=δ
 simp only[bC,dq,go_sem,af2,av2,awd,Int.natCast_one,e1,avs]
theorem Bk{n i:Nat}(h:i<=n):kf n (some (I i)) none none=some (i,n):=by
 simp only[kf,jY,avw];rw[if_pos ⟨by omega,by omega⟩];rfl
theorem adD{id k l0 n i:Nat}(h:i<=n):eS k (.rsl id none k l0 n) (some (I i)) none none=some (.rsl id none k (l0+i) (n-i)):=by
 simp only[eS,if_true,Bk h,av9,Option.isNone_none]
theorem Qc{h:ac}{j k n:Nat}{rows:List (List AV)}(hj:bj j=false)(hh:h j=.ar k rows)(hn:n=rows.length)(hc:az [1000] (h 1000)=true):pX [[]] 1 h [.rsl j none k 0 n]=some (.osl k rows,[h 1000]):=by
 subst hn;have hp:cF 1=[1000]:=rfl;unfold pX;rw[if_pos]
 ·simp[rk,pW,lB,hj,hh,Ah,tC,bm,nrmV,nrmL,hp]
 ·simp[hp,hc,jq,bZ,fC,hj]
theorem adE{r:List AV}{rows:List (List AV)}{n:Nat}(hn:n=rows.length)(hb:(n+1)*64<=140737488355328):R0 F.slices_Insert_api_Term_api_Term_ [.rsl 1000 none 4 0 n,I n,.sl 4 [r]] [.ar 4 rows]=some (.osl 4 (rows++[r]),[.dead]):=by
 refine Gx (fd:=bC) κ κ κ rfl σ ?_;subst hn;rw[zQ];have e1:((1:Int)=0)=False:=δ
 have e2:=adD (id:=1000) (k:=4) (l0:=0) (avt rows.length);have e3:((rows.length+1)*64<=140737488355328)=True:=eq_true hb;have e4:(rows.length+1<=rows.length)=False:=ff;have e5:∀h,Ln h 25 4 64 1000 4 0 rows.length [r] 4 rows=df (upd h 1000 .dead) 25 4 (rows++[r]) (rows.length+1) [(1000,false)]:=fun h=>by
  simp only[Ln,List.length_singleton];rw[if_neg ω,if_pos ⟨trivial,trivial,trivial,trivial,hb⟩]
 simp only[bC,dq,go_sem,av2,awd,Int.natCast_one,e1,e2,e3,e4,e5,avs,av1,Nat.sub_self,or_self,avt,awj];exact Qc rfl rfl σ rfl
theorem alf{f:FuncId}{g:List AV->List Ob->Option (AV×List Ob)}{args:List AV}{hs:List Ob}(hE:FG.E f=some g):R0 f args hs=g args hs:=GT hE
theorem ai0{h:ac}{d:Nat}{r:List AV}{rows:List (List AV)}{lo m:Nat}(hh:h 1000=.ar 4 rows)(hd:h (2000+8*d)=.dead):
  bv R0 (ax false) h d [.sl 4 [r],.rsl 1000 none 4 lo m] (.fn F.slices_overlaps_api_Term_ [] [])=some (B false,upd h 1000 (.ar 4 rows),[(1000,true)]):=by
 have hm:(ax false).m F.slices_overlaps_api_Term_=[0,1]:=by kernel_rfl
 have hs:(ax false).sh F.slices_overlaps_api_Term_=[]:=by kernel_rfl
 have hk:(ax false).keep F.slices_overlaps_api_Term_=false:=by kernel_rfl
 have hf:R0 F.slices_overlaps_api_Term_ [.sl 4 [r],.rsl 1000 none 4 lo m] [.ar 4 rows]=some (B false,[.ar 4 rows]):=by
  rw[alf (g:=Xi 4) κ];simp[Xi]
 have hb:jn (ax false) [.sl 4 [r],.rsl 1000 none 4 lo m] (.fn F.slices_overlaps_api_Term_ [] [])=false:=by
  simp[jn,hm]
 have hr:bX h 40 [1000] 0=[1000]:=by
  simp[bX,hh,nM,bu]
 have hn:cu (B false)=1:=rfl;unfold bv;rw[if_neg (by rw[hb];exact avD)];have h1:bO h [0,1] [.sl 4 [r],.rsl 1000 none 4 lo m]=some ([.sl 4 [r],.rsl 1000 none 4 lo m],h,[]):=by
  simp[bO,dE,vT,fQ,aD]
 have h2:bu [] ([AV.sl 4 [r],.rsl 1000 none 4 lo m].flatMap bZ)=[1000]:=by
  simp[bZ,fC,bu]
 have h3:aW [1000] 1000=1000:=rfl;simp only[dH,hm,avB,avE,h1,avw,h2,hr,hs];simp[jd,bm,aX,bo,hh,az,bL,dB,jk,h3,dG,hf,dX,hn,bY,hd,cO,bf,kG,yw,re,fC,jl,fE,Eu,dS,mat,dO,fG,hk,Fd,hm]
theorem Ry{id k l0 n i:Nat}:eS k (.rsl id none k l0 n) (some (I i)) none none=(kf n (some (I i)) none none).map fun p=>.rsl id none k (l0+p.1) (p.2-p.1):=by
 simp only[eS,if_true,Option.isNone_none]
theorem adF{n c i:Nat}(h:i<=c):jY n c (some (I i))=some i:=by
 simp only[jY];rw[if_pos ⟨by omega,by omega⟩];rfl
theorem ai1{r:List AV}{rows:List (List AV)}{n i:Nat}(hn:n=rows.length)(hi:i<n)(hb:(n+1)*64<=140737488355328):
  R0 F.slices_Insert_api_Term_api_Term_ [.rsc 1000 4 0 n n,I i,.sl 4 [r]] [.ar 4 rows]=some (.osl 4 (rows.take i++r::rows.drop i),[.ar 4 rows]):=by
 refine Gx (fd:=bC) κ κ κ rfl σ ?_;rw[zQ];have e1:((1:Int)=0)=False:=δ
 have e2:((i:Int)=(n:Int))=False:=ff;have e3:IntKind.i64.wrap ((n:Int)+1)=((n+1:Nat):Int):=wi;have e4:((n:Int)< ((n+1:Nat):Int))=True:=tt;have e5:IntKind.i64.wrap (((n+1:Nat):Int)- (i:Int))=((n+1-i:Nat):Int):=wi;have e6:IntKind.i64.wrap ((i:Int)+1)=((i+1:Nat):Int):=wi;have b1:=Bk (n:=n) (i:=i) ω;have b2:=adF (n:=n) (c:=n) (i:=i) ω;have b3:=Bk (n:=n+1) (i:=i) ω;have b4:=Bk (n:=n+1) (i:=i+1) ω;have f1:((0:Int)< ((n+1-i:Nat):Int))=True:=tt;have f2:(n<i+((n+1-i:Nat):Int).toNat)=True:=tt;have f3:i+((n+1-i:Nat):Int).toNat=n+1:=ω
 have f4:(i<=rows.length)=True:=tt;have f5:((n+1)*64<=140737488355328)=True:=eq_true hb;have f6:(n<n+1)=True:=tt;obtain⟨A,hA⟩:∃A,rows.take i++avr ((n+1-i:Nat):Int).toNat [AV.emp,B false,AV.emp,I 0]=A:=⟨_,rfl⟩;have a1:A.length=n+1:=by rw[←hA,awj,avF,awr];omega
 have a2:A.take i=rows.take i:=by
  rw[←hA,List.take_append_of_le_length (by rw[avF];omega),avL (by rw[avF];omega)]
 have a3:(i<=A.length)=True:=tt;obtain⟨D,hD⟩:∃D,A.take i++[r]++A.drop (i+1)=D:=⟨_,rfl⟩;have d1:D.length=n+1:=by
  rw[←hD,awj,awj,avF,aws,List.length_singleton];omega
 have d2:D.take (i+1)=rows.take i++[r]:=by
  rw[←hD,a2,List.take_append_of_le_length (by rw[awj,avF,List.length_singleton];omega),avL (by rw[awj,avF,List.length_singleton];omega)]
 have d3:(i+1<=D.length)=True:=tt;have t1:List.take (n+1-i) [r]=[r]:=avL (by rw[List.length_singleton];omega);have t2:(rows.drop i).take (n-i)=rows.drop i:=avL (by rw[aws];omega);have t3:(1=min 1 (n+1-i))=True:=tt;have t4:n+1- (i+1)=n-i:=ω
 have t5:(i+(n-i)<=rows.length)=True:=tt;have t6:(rows.drop i).length=n-i:=by rw[aws];omega
 have t7:D.drop (i+1+(n-i))=[]:=avH ω;simp only[bC,dq,go_sem,av2,awd,Int.natCast_one,e1,e2,e3,e4,e5,e6,b1,b2,b3,b4,f1,f2,f3,f4,f5,f6,hA,hD,a3,d3,t1,t2,t3,t4,t5,t6,t7,Nat.min_self,avs,av1,Nat.sub_self,or_self,avt,Ry,and_self];rw[d2];have hfin:rows.take i++[r]++rows.drop i=rows.take i++r::rows.drop i:=by rw[awe];rfl
 rw[hfin];exact Qc rfl rfl (by rw[awj,avF,av2,aws];omega) rfl
theorem ai2{r:List AV}{rows:List (List AV)}{n i c:Nat}(hn:n=rows.length)(hi:i<n)(hc:n+1<=c)(hb:(n+1)*64<=140737488355328):
  R0 F.slices_Insert_api_Term_api_Term_ [.rsc 1000 4 0 n c,I i,.sl 4 [r]] [.ar 4 rows]=some (.osl 4 (rows.take i++r::rows.drop i),[.dead]):=by
 refine Gx (fd:=bC) κ κ κ rfl σ ?_;rw[zQ];have e1:((1:Int)=0)=False:=δ
 have e2:((i:Int)=(n:Int))=False:=ff;have e3:IntKind.i64.wrap ((n:Int)+1)=((n+1:Nat):Int):=wi;have e4:((c:Int)< ((n+1:Nat):Int))=False:=ff;have e6:IntKind.i64.wrap ((i:Int)+1)=((i+1:Nat):Int):=wi;have b1:=Bk (n:=n) (i:=i) ω;have b2:=adF (n:=n) (c:=c) (i:=n+1) hc;have b3:=Bk (n:=n+1) (i:=i) ω;have b4:=Bk (n:=n+1) (i:=i+1) ω;have o1:=fun(h:ac) (h0:h 1000=.ar 4 rows) (h1:h (2000+8*67)=.dead)=>ai0 (r:=r) (lo:=i+1) (m:=n-i) h0 h1;have t1:List.take (n+1-i) [r]=[r]:=avL (by rw[List.length_singleton];omega);have t2:(rows.drop i).take (n-i)=rows.drop i:=avL (by rw[aws];omega);have t3:(1=min 1 (n+1-i))=True:=tt;have t4:n+1- (i+1)=n-i:=ω
 have t5:(i+(n-i)<=rows.length)=True:=tt;have t6:(rows.drop i).length=n-i:=by rw[aws];omega
 have t8:min (n-i) (n+1-i)=n-i:=ω
 have t9:(n-i=min (n+1-i) (n-i))=True:=tt;have f4:(i+1<=rows.length)=True:=tt;have t7:rows.drop (i+1+(n-i))=[]:=avH ω;obtain⟨A,hA⟩:∃A,rows.take (i+1)++rows.drop i=A:=⟨_,rfl⟩;have a1:A.length=n+1:=by
  rw[←hA,awj,avF,aws];omega
 have a2:A.take i=rows.take i:=by
  rw[←hA,List.take_append_of_le_length (by rw[avF];omega),List.take_take,awm ω]
 have a4:A.drop (i+1)=rows.drop i:=by
  rw[←hA,List.drop_append_of_le_length (by rw[avF];omega),avH (by rw[avF];omega),avB]
 have a3:(i<=A.length)=True:=tt;simp only[bC,dq,go_sem,av2,awd,Int.natCast_one,e1,e2,e3,e4,e6,b1,b2,b3,b4,t4,avs];rw[o1 _ rfl rfl];simp only[go_sem,av2,awd,Int.natCast_one,e1,e2,e3,e4,e6,b1,b2,b3,b4,t1,t2,t3,t4,t5,t6,t7,t8,t9,f4,a3,hA,avs,av1,Nat.sub_self,or_self,avt,Ry,and_self];rw[a2,a4,show rows.take i++[r]++rows.drop i=rows.take i++r::rows.drop i by rw[awe];rfl];exact Qc rfl rfl (by rw[awj,avF,av2,aws];omega) rfl
def agI:Ren:=⟨fun|28=>166|n=>n,fun|25=>107|27=>94|53=>212|n=>n,fun n=>n⟩
theorem adG:Lays7.n28 Tryz.prog agI where
 mixed:=by kernel_rfl
 f28:=by kernel_rfl
 t0:=by kernel_rfl
 a0:=Tryz.isAgg0
 z0:=Tryz.sizeOf0
 v0:=Tryz.zeroValue0
 i0:=by kernel_rfl
 t3:=by kernel_rfl
 a3:=Tryz.isAgg3
 z3:=Tryz.sizeOf3
 v3:=Tryz.zeroValue3
 i3:=by kernel_rfl
 t4:=by kernel_rfl
 a4:=Tryz.isAgg4
 z4:=Tryz.sizeOf4
 v4:=Tryz.zeroValue4
 i4:=by kernel_rfl
 t5:=by kernel_rfl
 a5:=Tryz.isAgg5
 z5:=Tryz.sizeOf5
 v5:=Tryz.zeroValue5
 i5:=by kernel_rfl
 t25:=by kernel_rfl
 a25:=Tryz.isAgg107
 z25:=Tryz.sizeOf107
 v25:=Tryz.zeroValue107
 i25:=by kernel_rfl
 t27:=by kernel_rfl
 a27:=Tryz.isAgg94
 z27:=Tryz.sizeOf94
 v27:=Tryz.zeroValue94
 i27:=by kernel_rfl
 t53:=by kernel_rfl
 a53:=Tryz.isAgg212
 z53:=Tryz.sizeOf212
 v53:=Tryz.zeroValue212
 i53:=by kernel_rfl
 g0:=by kernel_rfl
def JI:Inv where
 p w _:=TabAt 0 Lib.deBruijn32tab w
 stab:=fun{w w' X} h hs j hj=>by rw[oC (hs 0 (.inr rfl))];exact h j hj
 more:=fun h _=>h
theorem YH:∀ (k x:Nat),Lib.ctzFrom k x=QP k x
 |0,x=>rfl
 |k+1,x=>by
  unfold Lib.ctzFrom QP;rw[YH k (x/2),Nat.add_comm]
set_option maxRecDepth 100000 in
theorem agJ:pG Tryz.prog JI false F.bits_TrailingZeros32 tzF:=by
 intro args obs obs' res w X ρ vals n hz hn hi hr hs hv;unfold tzF at hz;split at hz
 ·rename_i x;by_cases hc:0<x/\x<4294967296/\obs=[]
  ·rw[if_pos hc]at hz;obtain⟨h0,h1,rfl⟩:=hc;simp only[Option.some.injEq,Prod.mk.injEq]at hz;obtain⟨rfl,rfl⟩:=hz;have hv0:=hv 0 (.v (.int .u32 x)) (vals.getD 0 undef) rfl (by simp at hs;simp[Array.getD_eq_getD_getElem?,hs]);have e0:vals=#[.int .u32 x]:=by
    simp only[av2,awd]at hs;have:=hv0.v_inv.1;apply Array.ext
    ·simpa using hs
    ·intro i h2 h3;have:i=0:=by simp at h3;exact h3
     subst this;simpa [Array.getD_eq_getD_getElem?,hs]using this
   subst e0;obtain⟨m,rfl⟩:∃m:Nat,x=m:=⟨x.toNat,by omega⟩;have key:=Any7.bits_TrailingZeros32 adG m ω w fun _=>hi;have he:(callFunc F.bits_TrailingZeros32 #[.int .u32 (m:Int)]).run Tryz.prog w=.ok (.enter F.bits_TrailingZeros32 #[.int .u32 (m:Int)]) w:=(enters_of (adG.f28) κ rfl:Proofs.Enters Tryz.prog (agI.f 28)) _ _;unfold Enters;rw[he];refine Calls.mono key fun e w' hw=>?_;obtain⟨rfl,rfl⟩:=hw;refine⟨ρ,hr,.refl _ _ _ _,?_⟩;refine .dat ?_;have:Lib.ctz 32 m=QP 32 m:=by
    unfold Lib.ctz;rw[if_neg ω,YH]
   simp only[this,avy,mat,dO];exact .v _ rfl
  ·rw[if_neg hc]at hz;cases hz
 ·cases hz
section
variable {H:Type} {enc:TypeId × Value→H} {w:World}
def H7(w:World)(b:Nat):Prop:=b<w.heap.size
def Cy(w:World):Prop:=∀o v,w.cell? ⟨0,o,none⟩=some v->∃n,v=.int .u8 n
def Cz(u:Value):Prop:=u=u
theorem alg(_:Cy w){a:Addr}{u:Value}(h:w.cell? a=some u)(_:Cz u):H7 w a.block/\a.spot=none:=by
 have h1:a.spot=none:=by
  unfold World.cell? at h;split at h
  ·split at h
   ·cases h
   ·rename_i hs;simpa using hs
  ·cases h
 refine⟨?_,h1⟩;unfold World.cell? at h;split at h
 ·rename_i hb;exact(Array.getElem?_eq_some_iff.1 hb).1
 ·cases h
def nS(w:World)(fs:List AV)(cs:List Value):Prop:=
 fs.length=cs.length/\∀ (j:Nat) (c:AV) (u:Value),fs[j]?=some c->cs[j]?=some u->RD w (H7 w) c u/\aD c=true/\u.oneCell'=true
theorem nS.app{fa fb:List AV}{ca cb:List Value}(ha:nS w fa ca)(hb:nS w fb cb):nS w (fa++fb) (ca++cb):=by
 refine⟨by simp[ha.1,hb.1],fun j c u h1 h2=>?_⟩;by_cases hj:j<fa.length
 ·rw[List.getElem?_append_left hj]at h1;rw[List.getElem?_append_left (by rw[←ha.1];exact hj)]at h2;exact ha.2 j c u h1 h2
 ·rw[List.getElem?_append_right ω]at h1;rw[List.getElem?_append_right (by rw[←ha.1];omega),←ha.1]at h2;exact hb.2 _ c u h1 h2
theorem nS.one{c:AV}{u:Value}(h:RD w (H7 w) c u)(hd:aD c=true)(h1:u.oneCell'=true):nS w [c] [u]:=by
 refine⟨rfl,fun j c' u' hc hu=>?_⟩;cases j with
 |zero=>simp at hc hu;subst hc hu;exact⟨h,hd,h1⟩
 |succ j=>simp at hc
noncomputable abbrev Tr (w:World) (enc:TypeId×Value->H) (n:Nat) (t:TypeId) (cs:List Value):Option (DataW H×List MemPlace):=DataW.trod enc Tryz.prog w 0 (fun _=>true) true n t cs
def qR(t:TypeId)(d:DataW H):Prop:=∀m∈DataW.weights Tryz.prog t d,m<=reachBytes
theorem alh{e:TypeId}:∀ {l:List (DataW H)} {d:DataW H} {m:Nat},d∈l->m∈DataW.weights Tryz.prog e d->m∈DataW.weightsAll Tryz.prog e l
 |[],d,m,h,_=>by simp at h
 |a::l,d,m,h,hm=>by
  simp only[DataW.weightsAll,awt];rcases List.mem_cons.1 h with rfl|h
  ·exact .inl hm
  ·exact .inr (alh h hm)
theorem YI{α:Type}{p:Nat->α->Prop}:∀ (n:Nat),(∀i,i<n->∃r,p i r)->∃l:List α,l.length=n/\∀ (i:Nat) (r:α),l[i]?=some r->p i r
 |0,_=>⟨[],rfl,fun i r h=>by simp at h⟩
 |n+1,h=>by
  obtain⟨l,h1,h2⟩:=YI n fun i hi=>h i ω;obtain⟨r,hr⟩:=h n ω;refine⟨l++[r],by simp[h1],fun i r' hi=>?_⟩;by_cases hin:i<n
  ·rw[List.getElem?_append_left ω]at hi;exact h2 i r' hi
  ·rw[List.getElem?_append_right ω]at hi;have:i=n:=by
    have:=(List.getElem?_eq_some_iff.1 hi).1;simp at this;omega
   subst this;simp[h1]at hi;subst hi;exact hr
theorem Dg{α:Type}{t e:TypeId}{k bs:Nat}(ht:Tryz.prog.underlying t=some (.slice e))(hk:Tryz.prog.cellsOf e=k)(h0:0<k)(hbs:Tryz.prog.bytesOf e=bs)(F:α->List AV)(Q:α->Prop)(hT:Cy w)
  (hrow:∀n cs' x,Tr w enc n e cs'=some x->qR e x.1->∃r,Q r/\nS w (F r) cs'/\∃u,cs'[0]?=some u/\Cz u) {fuel:Nat} {cs:List Value} {x:DataW H×List MemPlace}
  (h:Tr w enc fuel t cs=some x) (hw:qR t x.1):∃ (l:List α) (v:Value),cs=[v]/\(∀r∈l,Q r)/\l.length*bs<=reachBytes/\RD w (H7 w) (.sl k (l.map F)) v/\v.oneCell'=true/\Cz v:=by
 rcases open_slice ht h with⟨rfl,_⟩| ⟨a,len,cap,m,n,D,Pl,rfl,hb,hl,hm,hmm,rfl,hx⟩
 ·exact⟨[],_,rfl,fun r hr=>by simp at hr,by simp,.sl k [] none 0 ⟨0,0,none⟩ (fun _ _=>undef) σ (fun h=>absurd rfl h) (fun r hr=>by simp at hr) (fun i r j c hr=>by simp at hr) (fun r hr=>by simp at hr) (fun i r j c hr=>by simp at hr),rfl,rfl⟩
 ·have hlm:len<=m:=by rw[hmm];split<;>omega
  have hwe:∀i,i<len->qR e (D i):=fun i hi q hq=>by
   refine hw q ?_;simp only[DataW.weights,ht,List.mem_cons,awt];exact .inr (.inl (alh (List.mem_map.2 ⟨i,List.mem_range.2 hi,rfl⟩) hq))
  have hbn:len*bs<=reachBytes:=by
   have:=hw ((((List.range len).map D).length+((List.range (m-len)).map fun j=>D (len+j)).length)*Tryz.prog.bytesOf e) (by simp[DataW.weights,ht]);simp only[awk,List.length_range,hbs]at this;exact avx (avA _ ω) this
  obtain⟨l,l1,l2⟩:=YI (p:=fun i r=>Q r/\∃cs',w.cells? 0 (a.add (i*k)) k=some cs'/\nS w (F r) cs'/\∃u,cs'[0]?=some u/\Cz u) len fun i hi=>by
   obtain⟨cs',h1,h2⟩:=hx i ω;obtain⟨r,g1,g2,g3⟩:=hrow _ _ _ h2 (hwe i hi);rw[hk]at h1;exact⟨r,g1,cs',h1,g2,g3⟩
  have cell:∀ (i:Nat) (row:List AV) (j:Nat) (c:AV),(l.map F)[i]?=some row->row[j]?=some c->∃u,w.cell? (a.add (i*k+j))=some u/\RD w (H7 w) c u/\aD c=true:=fun i row j c hi hj=>by
   simp only[List.getElem?_map,avu]at hi;obtain⟨r,hr,rfl⟩:=hi;obtain⟨_,cs',c1,c2,_⟩:=l2 i r hr;obtain⟨_,c3,c4⟩:=World.cells?_some c1;have hjk:j<k:=by
    have:=(List.getElem?_eq_some_iff.1 hj).1;rw[c2.1,c3]at this;exact this
   have:=c4 j hjk;rw[Dl]at this;obtain⟨u,hu⟩:∃u,cs'[j]?=some u:=⟨cs'[j]'(by omega),by simp⟩;exact⟨u,by rw[this,hu],(c2.2 j c u hj hu).1,(c2.2 j c u hj hu).2.1⟩
  refine⟨l,_,rfl,fun r hr=>?_,by rw[l1];exact hbn,?_,rfl,rfl⟩
  ·obtain⟨i,hi⟩:=List.getElem?_of_mem hr;exact(l2 i r hi).1
  ·have:=RD.sl (w:=w) (A:=H7 w) k (l.map F) (some a) cap a (fun i j=>(w.cell? (a.add (i*k+j))).getD undef) (by simp[l1,hl]) (fun hne=>?_) (fun row hr=>?_) (fun i row j c hi hj=>?_) (fun row hr c hc=>?_) (fun i row j c hi hj=>?_)
   ·simpa [l1]using this
   ·have hlen:0<l.length:=List.length_pos_iff.2 fun e=>hne (by simp[e]);obtain⟨_,cs',c1,c2,u,c3,c4⟩:=l2 0 l[0] σ;have:=(World.cells?_some c1).2.2 0 h0;rw[c3,Nat.zero_mul,EA,EA]at this;obtain⟨q1,q2⟩:=alg hT this c4;exact⟨rfl,q1,q2⟩
   ·simp only[awc]at hr;obtain⟨r,hr,rfl⟩:=hr;obtain⟨i,hi⟩:=List.getElem?_of_mem hr;obtain⟨_,cs',c1,c2,_⟩:=l2 i r hi;rw[c2.1];exact(World.cells?_some c1).2.1
   ·obtain⟨u,q1,_⟩:=cell i row j c hi hj;rw[q1];rfl
   ·obtain⟨i,hi⟩:=List.getElem?_of_mem hr;obtain⟨j,hj⟩:=List.getElem?_of_mem hc;obtain⟨u,_,_,q⟩:=cell i row j c hi hj;exact q
   ·obtain⟨u,q1,q2,_⟩:=cell i row j c hi hj;rw[q1];exact q2
theorem ai3{n:Nat}{cs:List Value}{x:DataW H×List MemPlace}(h:Tr w enc n 94 cs=some x)(_:qR 94 x.1):∃r:Nat,r<4294967296/\nS w [U (r:Int)] cs/\∃u,cs[0]?=some u/\Cz u:=by
 obtain⟨z,rfl,rfl,hw⟩:=DataW.trod_int Tryz.underlying94 h;simp only[Lit.wf,avv,decide_eq_true_eq]at hw;have h1:(0:Int)<=z:=hw.1;have h2:z<=4294967295:=hw.2;obtain⟨m,rfl⟩:∃m:Nat,z=m:=⟨z.toNat,by omega⟩;exact⟨m,by omega,.one (.v _ rfl) rfl rfl,_,rfl,rfl⟩
theorem ai4{n:Nat}{cs:List Value}{x:DataW H×List MemPlace}(h:Tr w enc n 3 cs=some x)(_:qR 3 x.1):∃r:Int,True/\nS w [I r] cs/\∃u,cs[0]?=some u/\Cz u:=by
 obtain⟨z,rfl,rfl,hw⟩:=DataW.trod_int Tryz.underlying3 h;exact⟨z,trivial,.one (.v _ rfl) rfl rfl,_,rfl,rfl⟩
theorem adH(hT:Cy w){n:Nat}{cs:List Value}{x:DataW H×List MemPlace}(h:Tr w enc n 33 cs=some x)(hw:qR 33 x.1):∃m:List Nat,(Lb m/\m.length<4611686018427387904)/\nS w [lm m] cs/\∃u,cs[0]?=some u/\Cz u:=by
 obtain⟨l,v,rfl,h1,h2,h3,h4,h5⟩:=Dg (k:=1) (bs:=4) Tryz.underlying33 κ δ κ (fun(r:Nat)=>[U (r:Int)]) (fun r=>r<4294967296) hT (fun n cs' x=>ai3) h hw;refine⟨l,⟨h1,?_⟩,.one h3 rfl h4,_,rfl,h5⟩;unfold reachBytes at h2;omega
theorem af3(hT:Cy w){n:Nat}{cs:List Value}{x:DataW H×List MemPlace}(h:Tr w enc n 29 cs=some x)(hw:qR 29 x.1):∃m:List Int,True/\nS w [.sl 1 (aO m)] cs/\∃u,cs[0]?=some u/\Cz u:=by
 obtain⟨l,v,rfl,h1,h2,h3,h4,h5⟩:=Dg (k:=1) (bs:=8) Tryz.underlying29 κ δ κ (fun(r:Int)=>[I r]) (fun r=>True) hT (fun n cs' x=>ai4) h hw;exact⟨l,trivial,.one h3 rfl h4,_,rfl,h5⟩
theorem V1(hT:Cy w){n:Nat}{cs:List Value}{x:DataW H×List MemPlace}(h:Tr w enc n 35 cs=some x)(hw:qR 35 x.1):∃d:Rd,Ok0 d/\nS w (aj d) cs/\∃u,cs[0]?=some u/\Cz u:=by
 obtain⟨y0,y1,y2,m,rfl,hl,h0,h1,h2⟩:=trod_struct3 Tryz.underlying35 h;have hl3:cs.length=3:=hl.trans κ
 match cs,hl3 with
 |[a,b,c],_=>
  have k0:Tr w enc m 4 [a]=some y0:=h0;have k1:Tr w enc m 33 [b]=some y1:=h1;have k2:Tr w enc m 3 [c]=some y2:=h2;have w1:qR 33 y1.1:=fun q hq=>hw q (by simp[DataW.weights,DataW.weightsEach,Tryz.underlying35];exact .inr (.inl hq));obtain⟨bb,e0,e1⟩:=DataW.trod_bool Tryz.underlying4 k0;simp only[List.cons.injEq,and_true]at e0;subst e0;obtain⟨l,⟨q1,q2⟩,q3,_⟩:=adH hT k1 w1;obtain⟨z,e2,e3,_⟩:=DataW.trod_int Tryz.underlying3 k2;simp only[List.cons.injEq,and_true]at e2;subst e2;exact⟨⟨bb,l,z⟩,⟨q1,q2⟩,(nS.one (.v _ rfl) rfl rfl).app (q3.app (.one (.v _ rfl) rfl rfl)),_,rfl,rfl⟩
theorem af4(hT:Cy w){n:Nat}{cs:List Value}{x:DataW H×List MemPlace}(h:Tr w enc n 67 cs=some x)(hw:qR 67 x.1):∃d:Rt,Ok0 d.c/\nS w (cx d) cs/\∃u,cs[0]?=some u/\Cz u:=by
 obtain⟨y0,y1,m,rfl,hl,h0,h1⟩:=trod_struct2 Tryz.underlying67 h;have hl3:cs.length=4:=hl.trans κ
 match cs,hl3 with
 |[a,b,c,d],_=>
  have k0:Tr w enc m 29 [a]=some y0:=h0;have k1:Tr w enc m 35 [b,c,d]=some y1:=h1;have w0:qR 29 y0.1:=fun q hq=>hw q (by simp[DataW.weights,DataW.weightsEach,Tryz.underlying67];exact .inl hq);have w1:qR 35 y1.1:=fun q hq=>hw q (by simp[DataW.weights,DataW.weightsEach,Tryz.underlying67];exact .inr hq);obtain⟨l,_,q3,q4⟩:=af3 hT k0 w0;obtain⟨d,d1,d2,_⟩:=V1 hT k1 w1;exact⟨⟨l,d⟩,d1,q3.app d2,q4⟩
theorem V3(hT:Cy w){n:Nat}{cs:List Value}{x:DataW H×List MemPlace}(h:Tr w enc n 37 cs=some x)(hw:qR 37 x.1):∃d:Ri,OkI d/\nS w (aq d) cs/\∃u,cs[0]?=some u/\Cz u:=by
 obtain⟨y0,y1,y2,m,rfl,hl,h0,h1,h2⟩:=trod_struct3 Tryz.underlying37 h;have hl3:cs.length=7:=hl.trans κ
 match cs,hl3 with
 |[a,b,c,d,e,f,g],_=>
  have k0:Tr w enc m 35 [a,b,c]=some y0:=h0;have k1:Tr w enc m 35 [d,e,f]=some y1:=h1;have k2:Tr w enc m 4 [g]=some y2:=h2;have w0:qR 35 y0.1:=fun q hq=>hw q (by simp[DataW.weights,DataW.weightsEach,Tryz.underlying37];exact .inl hq);have w1:qR 35 y1.1:=fun q hq=>hw q (by simp[DataW.weights,DataW.weightsEach,Tryz.underlying37];exact .inr (.inl hq));obtain⟨d0,p1,p2,p3⟩:=V1 hT k0 w0;obtain⟨d1,q1,q2,_⟩:=V1 hT k1 w1;obtain⟨bb,e0,e1⟩:=DataW.trod_bool Tryz.underlying4 k2;simp only[List.cons.injEq,and_true]at e0;subst e0;exact⟨⟨d0,d1,bb⟩,⟨p1,q1⟩,p2.app (q2.app (.one (.v _ rfl) rfl rfl)),p3⟩
theorem YJ(hT:Cy w){n:Nat}{v:Value}{x:DataW H×List MemPlace}(h:Tr w enc n 22 [v]=some x)(hw:qR 22 x.1):∃l:List Ri,(∀d∈l,OkI d)/\RD w (H7 w) (.sl 7 (bc l)) v:=by
 obtain⟨l,v',e4,q1,q2,q3,q4,q5⟩:=Dg (k:=7) (bs:=88) Tryz.underlying22 κ δ κ aq OkI hT (fun n cs' x=>V3 hT) h hw;simp only[List.cons.injEq,and_true]at e4;subst e4;exact⟨l,q1,q3⟩
theorem ai5{fs:List AV}{us:Array Value}(rc:nS w fs us.toList):RD w (H7 w) (.agg fs) (.agg us):=by
 refine .agg _ _ (by have:=rc.1;simpa using this.symm) (fun i u hu=>?_) fun i c u hc hu=>(rc.2 i c u hc (by simpa using hu)).1;have hu':us.toList[i]?=some u:=by simpa using hu
 obtain⟨c,hc⟩:∃c,fs[i]?=some c:=⟨_,List.getElem?_eq_getElem (by rw[rc.1];exact(List.getElem?_eq_some_iff.1 hu').1)⟩;exact(rc.2 i c u hc hu').2.2
theorem adI(hT:Cy w){n:Nat}{us:Array Value}{x:DataW H×List MemPlace}(h:Tr w enc n 24 us.toList=some x)(hw:qR 24 x.1):∃s:Rs,OkS s/\RD w (H7 w) (lz s) (.agg us):=by
 obtain⟨y0,y1,y2,m,rfl,hl,h0,h1,h2⟩:=trod_struct3 Tryz.underlying24 h;have hl3:us.toList.length=3:=hl.trans κ;obtain⟨cs⟩:=us;simp only at hl3 h0 h1 h2
 match cs,hl3 with
 |[a,b,c],_=>
  have k0:Tr w enc m 22 [a]=some y0:=h0;have k1:Tr w enc m 3 [b]=some y1:=h1;have k2:Tr w enc m 3 [c]=some y2:=h2;have w0:qR 22 y0.1:=fun q hq=>hw q (by simp[DataW.weights,DataW.weightsEach,Tryz.underlying24];exact .inl hq);obtain⟨z1,e2,e3,_⟩:=DataW.trod_int Tryz.underlying3 k1;obtain⟨z2,e4,e5,_⟩:=DataW.trod_int Tryz.underlying3 k2;simp only[List.cons.injEq,and_true]at e2 e4;subst e2 e4;obtain⟨l,v,e4,q1,q2,q3,q4,q5⟩:=Dg (k:=7) (bs:=88) Tryz.underlying22 κ δ κ aq OkI hT (fun n cs' x=>V3 hT) k0 w0;simp only[List.cons.injEq,and_true]at e4;subst e4;exact⟨⟨l,z1,z2⟩,⟨q1,by show l.length<_;unfold reachBytes at q2;omega⟩,ai5 ((nS.one q3 rfl q4).app ((nS.one (.v _ rfl) rfl rfl).app (.one (.v _ rfl) rfl rfl)))⟩
theorem ai6(hT:Cy w){n:Nat}{cs:List Value}{x:DataW H×List MemPlace}(h:Tr w enc n 47 cs=some x)(hw:qR 47 x.1):∃s:Rm,OkM s/\nS w (H5 s) cs/\∃u,cs[0]?=some u/\Cz u:=by
 obtain⟨y0,y1,m,rfl,hl,h0,h1⟩:=trod_struct2 Tryz.underlying47 h;have hl3:cs.length=9:=hl.trans κ
 match cs,hl3 with
 |[a,b,c1,c2,c3,c4,c5,c6,c7],_=>
  have k0:Tr w enc m 45 [a,b]=some y0:=h0;have k1:Tr w enc m 37 [c1,c2,c3,c4,c5,c6,c7]=some y1:=h1;have w0:qR 45 y0.1:=fun q hq=>hw q (by simp[DataW.weights,DataW.weightsEach,Tryz.underlying47];exact .inl hq);have w1:qR 37 y1.1:=fun q hq=>hw q (by simp[DataW.weights,DataW.weightsEach,Tryz.underlying47];exact .inr hq);obtain⟨d,d1,d2,_⟩:=V3 hT k1 w1;obtain⟨u0,u1,m2,rfl,hl,h0,h1⟩:=trod_struct2 Tryz.underlying45 k0;have k2:Tr w enc m2 3 [a]=some u0:=h0;have k3:Tr w enc m2 43 [b]=some u1:=h1;have w2:qR 43 u1.1:=fun q hq=>w0 q (by simp[DataW.weights,DataW.weightsEach,Tryz.underlying45];exact .inr hq);obtain⟨z,e2,e3,_⟩:=DataW.trod_int Tryz.underlying3 k2;simp only[List.cons.injEq,and_true]at e2;subst e2;obtain⟨l,v,e4,q1,q2,q3,q4,q5⟩:=Dg (k:=4) (bs:=64) Tryz.underlying43 κ δ κ cx (fun t=>Ok0 t.c) hT (fun n cs' x=>af4 hT) k3 w2;simp only[List.cons.injEq,and_true]at e4;subst e4;exact⟨⟨⟨z,l⟩,d⟩,⟨q1,d1,by show l.length<_;unfold reachBytes at q2;omega⟩,(nS.one (.v _ rfl) rfl rfl).app ((nS.one q3 rfl q4).app d2),_,rfl,rfl⟩
theorem ai7(hT:Cy w){n:Nat}{v:Value}{x:DataW H×List MemPlace}(h:Tr w enc n 25 [v]=some x)(hw:qR 25 x.1):∃l:List Rm,((∀m∈l,OkM m)/\l.length<4611686018427387904)/\RD w (H7 w) (.sl 9 (iZ l)) v:=by
 obtain⟨l,v',e4,q1,q2,q3,q4,q5⟩:=Dg (k:=9) (bs:=120) Tryz.underlying25 κ δ κ (fun m:Rm=>H5 m) OkM hT (fun n cs' x=>ai6 hT) h hw;simp only[List.cons.injEq,and_true]at e4;subst e4;exact⟨l,⟨q1,by unfold reachBytes at q2;omega⟩,q3⟩
end
theorem Hz{args:List AV}{vals:Array Value}(h:vals.size=args.length){i:Nat}{c:AV}(hc:args[i]?=some c):∃u,vals[i]?=some u:=by
 have:i<args.length:=(List.getElem?_eq_some_iff.1 hc).1;exact⟨vals[i]'(by omega),by simp[h,this]⟩
theorem arc{vals:Array Value}{a:Value}(h:vals.size=1)(h0:vals[0]?=some a):vals=#[a]:=by
 apply Array.ext_getElem?;intro i
 match i with
 |0=>simpa using h0
 |i+1=>simp[h]
theorem ard{vals:Array Value}{a b:Value}(h:vals.size=2)(h0:vals[0]?=some a)(h1:vals[1]?=some b):vals=#[a,b]:=by
 apply Array.ext_getElem?;intro i
 match i with
 |0=>simpa using h0
 |1=>simpa using h1
 |i+2=>simp[h]
theorem Rz{w:World}{a:Addr}{us:Array Value}{e:TypeId}(h:w.heap[a.block]?=some (.cells us e (0,0))):w.frozen? a=false:=by
 simp[World.frozen?,h]
theorem ai8{P:Program}(w:World)(tS tR e:TypeId)(ht:P.underlying tS=some (.slice e))(size:Nat)(hz:∀w,(Go.sizeOf e).run P w=.ok size w)(a:Addr)(b:Option Addr)(la ca cb:Nat):
  (Extern.SlicesOverlaps.overlaps #[tS,tS] #[tR] #[.slice (some a) la ca,.slice b 0 cb]).run P w=.ok (.bool false) w:=by
 change Sem.run P (α:=Value) (do
  let some t:= (#[tS,tS]:Array TypeId)[0]?|stuck "slices.overlaps: no parameter types"
  let .slice elem←underlying t|stuck "slices.overlaps: slice type expected"
  let size←sizeOf elem
  match (some a:Option Addr),b with
  |some a,some b=>
   if la=0\/0=0\/size=0 then pure (Value.bool false)
   else if a.block !=b.block&& (←frozen a)&& (←frozen b)then unsupported .addressObserved
   else do
    if a.block !=b.block then do
     noView a;noView b
     if←mayBeOne a b then return Value.bool ((←choose (.extern "sameAddr.stringBytes" 2))==1)
    pure (Value.bool (a.block==b.block&&a.off<b.off+0*size&&b.off<a.off+la*size))
  |_,_=>pure (Value.bool false)) w=_
 cases b<;>simp[run_underlying ht,hz]
theorem ali{P:Program}(w:World)(tS tR e:TypeId)(ht:P.underlying tS=some (.slice e))(size:Nat)(hz:∀w,(Go.sizeOf e).run P w=.ok size w)
  (a b:Addr) (la ca lb cb:Nat) (hne:a.block≠b.block) (tA:TypeId) (kA:Nat) {us:Array Value} {tB:TypeId}
  (hkA:kA≠0) (hsa:w.shape? a.block=some (tA,kA)) (hb:w.heap[b.block]?=some (.cells us tB (0,0))) (hu:us.size≠0):
  (Extern.SlicesOverlaps.overlaps #[tS,tS] #[tR] #[.slice (some a) la ca,.slice (some b) lb cb]).run P w=.ok (.bool false) w:=by
 have hnb:(a.block !=b.block)=true:=by simpa using hne
 have hnb':(a.block==b.block)=false:=by simpa using hne
 have hsb:w.shape? b.block=some (tB,us.size):=by simp[World.shape?,hb]
 have hfb:w.frozen? b=false:=Rz hb;have hfe:w.frozen? {block:=b.block,off:=us.size}=false:=Rz (a:=⟨b.block,us.size,none⟩) hb;change Sem.run P (α:=Value) (do
  let some t:= (#[tS,tS]:Array TypeId)[0]?|stuck "slices.overlaps: no parameter types"
  let .slice elem←underlying t|stuck "slices.overlaps: slice type expected"
  let size←sizeOf elem
  match (some a:Option Addr),(some b:Option Addr)with
  |some a,some b=>
   if la=0\/lb=0\/size=0 then pure (Value.bool false)
   else if a.block !=b.block&& (←frozen a)&& (←frozen b)then unsupported .addressObserved
   else do
    if a.block !=b.block then do
     noView a;noView b
     if←mayBeOne a b then return Value.bool ((←choose (.extern "sameAddr.stringBytes" 2))==1)
    pure (Value.bool (a.block==b.block&&a.off<b.off+lb*size&&b.off<a.off+la*size))
  |_,_=>pure (Value.bool false)) w=_
 by_cases h0:la=0\/lb=0\/size=0
 ·simp[run_underlying ht,hz,h0]
 ·obtain⟨n,hn⟩:∃n,us.size=n+1:=⟨us.size-1,by omega⟩;rw[hn]at hsb hfe;obtain⟨kA,rfl⟩:∃k,kA=k+1:=⟨kA-1,by omega⟩;cases hfa:w.frozen? a<;>cases hfa2:w.frozen? {block:=a.block,off:=kA+1}<;>
   simp[run_underlying ht,hz,h0,hnb,hnb',frozen,noView,viewAt,mayBeOne,stringish,shape,Sem.run,hsa,hsb,hfa,hfa2,hfb,hfe]
theorem aaP{w:World}{a:Addr}{v:Value}(h:w.cell? a=some v):∃t k,k≠0/\w.shape? a.block=some (t,k):=by
 unfold World.cell? at h;split at h
 ·rename_i cs t fr hb;refine⟨t,cs.size,fun h0=>?_,by unfold World.shape?;rw[hb]⟩;split at h
  ·cases h
  ·have:=(Array.getElem?_eq_some_iff.1 h).1;omega
 ·cases h
theorem alj{P:Program}{I:Inv}{f:FuncId}{fn:Func}{tS tR e:TypeId}{size:Nat}(hf:P.funcs[f]?=some fn)(hname: (fn.name== "runtime.NumGoroutine")=false)(hb:fn.body.isNone=true)(hn:Extern.findNext fn=none)
  (he:Extern.find fn=some (Extern.SlicesOverlaps.overlaps #[tS,tS] #[tR])) (ht:P.underlying tS=some (.slice e)) (hz:∀w,(Go.sizeOf e).run P w=.ok size w):pG P I false f (Xi 4):=by
 intro args obs obs' res w X ρ vals n hz' hn' hi hr hs hv;unfold Xi at hz';split at hz'
 ·rename_i k0 row rows k1 lo m k2 rows2;split at hz'
  ·rename_i hk;obtain⟨rfl,rfl,rfl⟩:=hk;cases hz';obtain⟨u0,h0⟩:=Hz hs (i:=0) rfl;obtain⟨u1,h1⟩:=Hz hs (i:=1) rfl;have e0:=hv 0 _ _ rfl h0;have e1:=hv 1 _ _ rfl h1;obtain rfl:=ard hs h0 h1;have d0:=e0.sl_inv;obtain⟨a1,cap1,rfl,hp,hn1,hb1,ha1⟩:=e1.rsl_inv;have ho:RO w (aJ w X (ao [.ar 4 rows2]) ρ) ρ (ao [.ar 4 rows2]) 1000 (.ar 4 rows2):=hr.ob 1000;obtain⟨us,tB,g1,g2,g3,g4⟩:=ho;have hlive:live (ao [.ar 4 rows2]) 1000 none:=trivial;cases d0 with
   |sl _ _ a cap ad vs hc ha hk hv2 hl hr2=>
    obtain⟨rfl,hA,hsp⟩:=ha σ;have hlen:=hk row σ;obtain⟨c,hrow⟩:∃c,row[0]?=some c:=⟨row[0]'(by omega),by simp⟩;have hcell:=hv2 0 row 0 c rfl hrow;obtain⟨tA,kA,hkA,hsh⟩:=aaP hcell;rw[oA]at hsh;have run:(callFunc f #[.slice (some ad) (row::rows).length cap,.slice a1 m cap1]).run P w=.ok (.value (.bool false)) w:=by
     rw[run_callFunc_extern hf hname hb hn he];by_cases hm:m=0
     ·subst hm;rw[ai8 w tS tR e ht size hz];rfl
     ·rcases ha1 with h|rfl
      ·omega
      ·rw[ali w tS tR e ht size hz ad ⟨(ρ 1000 none).1,lo*4,none⟩ _ cap m cap1 (fun hh=>hA.2.2 ⟨1000,none,hlive,hh.symm⟩) tA kA hkA hsh g1 ω];rfl
    unfold Enters;rw[run];exact⟨ρ,hr,.refl _ _ _ _,.dat (.v _ rfl)⟩
  ·cases hz'
 ·cases hz'
theorem ai9{P:Program}{I:Inv}(hR:pG P I false F.slices_Insert_api_Term_api_Term_ (R0 F.slices_Insert_api_Term_api_Term_)):pG P I false F.slices_Insert_api_Term_api_Term_ (T7 4 64):=by
 intro args obs obs' res w X ρ vals n hz hn hi hr hs hv;unfold T7 at hz;split at hz
 ·rename_i k0 r;split at hz
  ·rename_i hk;subst hk;cases hz;exact hR aiZ hn hi hr hs hv
  ·cases hz
 ·rename_i k1 m i k0 r k2 rows;split at hz
  ·rename_i hk;obtain⟨rfl,rfl,rfl,rfl,hi0,hi1,hb⟩:=hk;cases hz;obtain⟨i,rfl⟩:=Int.eq_ofNat_of_zero_le hi0;rw[avy];by_cases hend:i=rows.length
   ·subst hend;have:=hR (adE (r:=r) rfl hb) hn hi hr hs hv;rw[avL (avt _),avH (avt _)];exact this
   ·have hlt:i<rows.length:=ω
    obtain⟨u0,h0⟩:=Hz hs (i:=0) rfl;obtain⟨a,cap,rfl,hp,hn1,hb1,ha⟩:=(hv 0 _ _ rfl h0).rsl_inv;have hv':∀ (j:Nat) (c:AV) (u:Value),[AV.rsc 1000 4 0 rows.length cap,.v (.int .i64 i),.sl 4 [r]][j]?=some c->vals[j]?=some u->RV w (aJ w X (ao [.ar 4 rows]) ρ) ρ (ao [.ar 4 rows]) c u:=by
     intro j c u hc hu
     match j,hc with
     |0,hc=>
      cases hc;rw[h0]at hu;cases hu;exact .rsc 1000 4 0 _ cap a hp hn1 hb1 ha
     |j+1,hc=>exact hv (j+1) c u hc hu
    rcases Nat.lt_or_ge rows.length cap with hc|hc
    ·exact hR (ai2 rfl hlt hc hb) hn hi hr hs hv'
    ·obtain rfl:cap=rows.length:=ω
     refine(hR (ai1 rfl hlt hb) hn hi hr hs hv').mono fun v w' ⟨ρ',q1,q2,q3⟩=>?_;generalize rows.take i++r::rows.drop i=L at q1 q2 q3⊢;have hd:=MV q1 (id:=1000) (k:=4) (rows:=rows) (by
      show(if 1000=n then _ else _)=_;rw[if_neg ω];rfl)
     have eq:upd (mat n (ao [.ar 4 rows]) (.osl 4 L)).2 1000 .dead=(mat n (ao [.dead]) (.osl 4 L)).2:=by
      show upd (upd (ao [.ar 4 rows]) n (.ar 4 L)) 1000 .dead=upd (ao [.dead]) n (.ar 4 L);rw[zQ,zQ];funext j;unfold upd;by_cases h1:j=1000
      ·rw[if_pos h1,if_neg ω,if_pos h1]
      ·rw[if_neg h1,if_neg h1,if_neg h1]
     rw[eq]at hd;refine⟨ρ',hd.1,q2.trans (hd.2.far rfl),hd.2.rvk q3 (.inr ?_)⟩;show jj [(1000,false)] n none=false;simp[jj];omega
  ·cases hz
 ·cases hz
theorem RA{w w':World}{X:Nat->Prop}{ρ:dZ}(hr:Rel w X ρ (ao []))(hb:Below w.heap.size w w'):Rel w' X ρ (ao [])/\Far false w ρ (ao []) w' ρ (ao []):=by
 have hl:∀id sub,¬live (ao []) id sub:=fun id sub=>by
  have hd:ao [] id=.dead:=by
   unfold ao;split<;>simp
  cases sub with
  |none=>simp[live,hd]
  |some p=>simp[live,hd]
 refine⟨⟨fun id sub _ _ h=>(hl id sub h).elim,fun id sub h=>(hl id sub h).elim,fun id=>?_,fun b hb'=>awn (hr.xl b hb') hb.size⟩,hb.os,hb.tape,hb.output,hb.size,fun b h1 _=>hb.block b h1,fun b ⟨id,sub,h,_⟩=>(hl id sub h).elim,fun id _ h=>?_,fun h=>by cases h⟩
 ·have hd:ao [] id=.dead:=by
   unfold ao;split<;>simp
  rw[hd];trivial
 ·exfalso;apply h;unfold ao;split<;>simp
theorem alk{P:Program}{I:Inv}{ρ0:Ren}(L:Lays2.n15 P ρ0)(hf:ρ0.f 15=F.slices_Clone_int_int_)(he:∀a w,(callFunc F.slices_Clone_int_int_ a).run P w=.ok (.enter F.slices_Clone_int_int_ a) w)
  (hR:pG P I false F.slices_Clone_int_int_ (R0 F.slices_Clone_int_int_)):pG P I false F.slices_Clone_int_int_ clF:=by
 intro args obs obs' res w X ρ vals n hz hn hi hr hs hv;unfold clF at hz;split at hz
 ·cases hz;obtain⟨u0,h0⟩:=Hz hs (i:=0) rfl;have d0:=(hv 0 _ _ rfl h0).sl_inv;obtain rfl:=arc hs h0;cases d0 with
  |sl _ _ a cap ad vs hc ha hk hv2 hl hr2=>
   unfold Enters;rw[he];have fin:∀ (w':World) (b:Option Addr) (c:Nat),Below w.heap.size w w'->∃ρ',Rel w' X ρ' (mat n (ao []) (.sl 1 [])).2/\Far false w ρ (ao []) w' ρ' (mat n (ao []) (.sl 1 [])).2/\
     RV w' (aJ w' X (mat n (ao []) (.sl 1 [])).2 ρ') ρ' (mat n (ao []) (.sl 1 [])).2 (mat n (ao []) (.sl 1 [])).1 (.slice b 0 c):=fun w' b c hb=>
    ⟨ρ,(RA hr hb).1,(RA hr hb).2,.dat (.sl 1 [] b c ad vs (av6 _) (fun h=>absurd rfl h) (fun _ h=>by cases h) (fun i row j c h=>by simp at h) (fun _ h=>by cases h) (fun i row j c h=>by simp at h))⟩
   cases a with
   |none=>
    have key:=Any.slices_Clone_int_nil L 0 cap w;rw[hf]at key;refine Calls.mono key fun e w' hw=>?_;obtain⟨rfl,rfl⟩:=hw;exact fin _ _ _ (Below.refl _ _)
   |some a0=>
    have key:=Any.slices_Clone_int_zero L a0 cap w;rw[hf]at key;refine Calls.mono key fun e w' hw=>?_;obtain⟨v',rfl,⟨_,hown⟩,_,hb⟩:=hw;rcases hown with⟨rfl,_⟩| ⟨g,c2,H3,rfl,_⟩
    ·exact fin _ _ _ hb
    ·exact fin _ _ _ hb
 ·rename_i r rs;split at hz
  ·rename_i hb;cases hz;exact hR (af1 hb) hn hi hr hs hv
  ·cases hz
 ·cases hz
abbrev TX(f:Nat)(fd:FD):Prop:=Text Go.Proofs.Tryz.prog f fd
theorem tx{f:Nat}{fd:FD}{fn:Func}(h:Go.Proofs.Tryz.prog.funcs[f]?=some fn)(h2: (fn.body.bind fun c=>ie Go.Proofs.Tryz.prog fn.ntmps c fd.body,GF Go.Proofs.Tryz.prog fn.results.toList,decide (fn.ntmps<=1000),fn.name== "runtime.NumGoroutine")= (some fd.body,some fd.res,true,false)):TX f fd:=by
 simp only[Prod.mk.injEq,avq,decide_eq_true_eq]at h2;obtain⟨⟨c,h3,h4⟩,h5,h6,h7⟩:=h2;exact⟨⟨fn,c,_,h,h3,rfl,h6,h4,h5,h7⟩⟩
theorem tn:∀p∈ ([]:List (Nat×FD)),TX p.1 p.2:=fun _ h=>by cases h
theorem tc{f:Nat}{fd:FD}{l:List (Nat×FD)}(h1:TX f fd)(h2:∀p∈l,TX p.1 p.2):∀p∈ (f,fd)::l,TX p.1 p.2:=fun p hp=>by
 rcases List.mem_cons.1 hp with rfl|hp
 ·exact h1
 ·exact h2 p hp
set_option maxRecDepth 100000 in
theorem V4:∀p∈agf,TX p.1 p.2:=tc (tx func251 κ) (tc (tx func275 κ) (tc (tx func278 κ) (tc (tx func281 κ) (tc (tx func295 κ) (tc (tx func296 κ) (tc (tx func297 κ) (tc (tx func298 κ) (tc (tx func104 κ) (tc (tx func167 κ) (tc (tx func168 κ) (tc (tx func169 κ) (tc (tx func171 κ) (tc (tx func203 κ) (tc (tx func205 κ) (tc (tx func228 κ) (tc (tx func229 κ) (tc (tx func230 κ) (tc (tx func234 κ) (tc (tx func235 κ) (tc (tx func250 κ) (tc (tx func253 κ) (tc (tx func271 κ) (tc (tx func272 κ) (tc (tx func273 κ) (tc (tx func277 κ) (tc (tx func279 κ) (tc (tx func280 κ) (tc (tx func282 κ) (tc (tx func299 κ) (tc (tx func191 κ) (tc (tx func246 κ) (tc (tx func7 κ) (tc (tx func25 κ) (tc (tx func27 κ) (tc (tx func29 κ) (tc (tx func43 κ) (tc (tx func56 κ) (tc (tx func60 κ) (tc (tx func61 κ) (tc (tx func64 κ) (tc (tx func105 κ) (tc (tx func106 κ) (tc (tx func122 κ) (tc (tx func125 κ) (tc (tx func126 κ) (tc (tx func129 κ) (tc (tx func140 κ) (tc (tx func192 κ) (tc (tx func202 κ) (tc (tx func207 κ) (tc (tx func227 κ) (tc (tx func238 κ) (tc (tx func239 κ) (tc (tx func252 κ) (tc (tx func270 κ) (tc (tx func35 κ) (tc (tx func62 κ) (tc (tx func63 κ) (tc (tx func74 κ) (tc (tx func75 κ) (tc (tx func102 κ) (tc (tx func103 κ) (tc (tx func107 κ) (tc (tx func108 κ) (tc (tx func119 κ) (tc (tx func120 κ) (tc (tx func121 κ) (tc (tx func128 κ) (tc (tx func132 κ) (tc (tx func170 κ) (tc (tx func172 κ) (tc (tx func176 κ) (tc (tx func190 κ) (tc (tx func195 κ) (tc (tx func197 κ) (tc (tx func208 κ) (tc (tx func256 κ) (tc (tx func274 κ) (tc (tx func69 κ) (tc (tx func70 κ) (tc (tx func88 κ) (tc (tx func89 κ) (tc (tx func112 κ) (tc (tx func113 κ) (tc (tx func144 κ) (tc (tx func175 κ) (tc (tx func177 κ) (tc (tx func178 κ) (tc (tx func179 κ) (tc (tx func196 κ) (tc (tx func204 κ) (tc (tx func210 κ) (tc (tx func211 κ) (tc (tx func231 κ) (tc (tx func232 κ) (tc (tx func233 κ) (tc (tx func236 κ) (tc (tx func248 κ) (tc (tx func249 κ) (tc (tx func254 κ) (tc (tx func37 κ) (tc (tx func40 κ) (tc (tx func41 κ) (tc (tx func44 κ) (tc (tx func46 κ) (tc (tx func49 κ) (tc (tx func50 κ) (tc (tx func67 κ) (tc (tx func68 κ) (tc (tx func71 κ) (tc (tx func73 κ) (tc (tx func76 κ) (tc (tx func81 κ) (tc (tx func116 κ) (tc (tx func149 κ) (tc (tx func155 κ) (tc (tx func181 κ) (tc (tx func182 κ) (tc (tx func189 κ) (tc (tx func209 κ) (tc (tx func212 κ) (tc (tx func221 κ) (tc (tx func266 κ) (tc (tx func267 κ) (tc (tx func287 κ) (tc (tx func288 κ) (tc (tx func289 κ) (tc (tx func72 κ) (tc (tx func114 κ) (tc (tx func115 κ) (tc (tx func117 κ) (tc (tx func118 κ) (tc (tx func180 κ) (tc (tx func183 κ) (tc (tx func184 κ) (tc (tx func185 κ) (tc (tx func186 κ) (tc (tx func187 κ) (tc (tx func188 κ) (tc (tx func237 κ) (tc (tx func240 κ) (tc (tx func241 κ) (tc (tx func242 κ) (tc (tx func243 κ) (tc (tx func244 κ) (tc (tx func245 κ) (tc (tx func47 κ) (tc (tx func51 κ) (tc (tx func77 κ) (tc (tx func78 κ) (tc (tx func79 κ) (tc (tx func109 κ) (tc (tx func110 κ) (tc (tx func123 κ) (tc (tx func124 κ) (tc (tx func127 κ) (tc (tx func130 κ) (tc (tx func131 κ) (tc (tx func145 κ) (tc (tx func146 κ) (tc (tx func147 κ) (tc (tx func173 κ) (tc (tx func174 κ) (tc (tx func206 κ) (tc (tx func12 κ) (tc (tx func14 κ) (tc (tx func15 κ) (tc (tx func17 κ) (tc (tx func19 κ) (tc (tx func36 κ) (tc (tx func39 κ) (tc (tx func42 κ) (tc (tx func45 κ) (tc (tx func48 κ) (tc (tx func52 κ) (tc (tx func65 κ) (tc (tx func66 κ) (tc (tx func80 κ) (tc (tx func90 κ) (tc (tx func91 κ) (tc (tx func92 κ) (tc (tx func111 κ) (tc (tx func148 κ) (tc (tx func23 κ) (tc (tx func53 κ) (tc (tx func59 κ) (tc (tx func82 κ) (tc (tx func3 κ) (tc (tx func5 κ) (tc (tx func6 κ) (tc (tx func8 κ) (tc (tx func13 κ) (tc (tx func16 κ) (tc (tx func18 κ) (tc (tx func24 κ) (tc (tx func26 κ) (tc (tx func28 κ) (tc (tx func38 κ) (tc (tx func9 κ) (tc (tx func10 κ) (tc (tx func11 κ) (tc (tx func22 κ) (tc (tx func30 κ) (tc (tx func31 κ) (tc (tx func32 κ) (tc (tx func33 κ) (tc (tx func34 κ) (tc (tx func55 κ) (tc (tx func58 κ) (tc (tx func86 κ) (tc (tx func139 κ) (tc (tx func141 κ) (tc (tx func201 κ) (tn))))))))))))))))))))))))))))))))))))))))))))))))))))))))))))))))))))))))))))))))))))))))))))))))))))))))))))))))))))))))))))))))))))))))))))))))))))))))))))))))))))))))))))))))))))))))))))))))))))))))))))))))))))))
end Go.Ab
