/-
  ModelfunApply holds at every input of its card. Part H1.
-/
import Derived.Lib.Overlaps
import Derived.Laws.Externs
import Derived.Shelf.Slices.Clone
import Derived.Shelf.RegionOpenPlain
import Derived.WalkKit
import Derived.Lib.Walk
import Derived.Lib.SliceRun
import Derived.Test.YtaojbnikhbkleaaGreatDoorProg
import Derived.Shelf.Spec.TrailingZeros
import Derived.Test.YtaojbnikhbkleaaGreatDoorRows
import Derived.Deep.Strs
import Derived.ProofKit
import Derived.LaidMore
import Derived.OpenShut
import Derived.Carry
import Derived.Test.YtaojbnikhbkleaaGreatDoorG1
open Nat renaming add_zero → aFA, le_of_ble_eq_true → aFp, le_refl → aET, le_trans → aEX, lt_of_lt_of_le → aFQ, min_eq_left → aFW, mul_le_mul_right → aE4, zero_add → aES, zero_le → aE9
open Int renaming eq_ofNat_of_zero_le → aFy, lt_irrefl → aFC, natCast_zero → aFz, reduceEq → aEP, reduceLE → aEO, reduceLT → aEN, toNat_natCast → aEY
open Bool renaming and_eq_true → aEV, and_false → aFT, and_self → aFI, false_and → aE0, false_ne_true → aE3
open List renaming length → O, all_cons → aFa, append_nil → aE8, cons_append → aFb, drop_eq_nil_of_le → aFq, getElem?_eq_getElem → aE1, getElem?_map → aFw, getElem?_of_mem → aFL, getElem_mem → aFg, length_cons → aFk, length_map → aFh, length_nil → aFs, map_congr_left → aFn, map_cons → aFr, map_id' → aFH, map_nil → aFB, mem_map → aFN, mem_of_getElem? → aE6, nil_append → aE5, replicate → aER, take_of_length_le → aFi
open Option renaming bind_eq_some_iff → aEQ, bind_some → aEZ, map_eq_some_iff → aEU, map_some → aFK
set_option linter.all false
namespace Go.Ab
open Go Go.IntWalk Go.Proofs Go.Shelf Go.RowKit Go.Lib Go.ChangeShapes Go.WideShapes Go.Deep
set_option maxRecDepth 100000
set_option maxHeartbeats 8000000
variable{args r:List AV}{d:Rd}{f:FuncId}{h:aj}{id m n:Nat}{o:Ob}{rows:List (List AV)}{s:Rs}{us vals:Array Value}
def s6:Rs:=⟨[yE],4,40⟩
theorem sp6:fg s6=true:=by
 have h:=anS ari rfl;unfold fg;simp[s6,h];rfl
def os6:OkS s6:=⟨fun x hx=>by rw[List.mem_singleton.1 hx];exact VO.1,by decide⟩
def aGi:Fit s6 xP:=⟨rfl,by decide,cl1 (v1_ δ),by decide+revert,fun t ht=>by rw[List.mem_singleton.1 ht];decide⟩
def aKp:OkM ⟨xP,cM⟩:=⟨fun t ht=>(aGi.c.t t ht).c,⟨aO.2,aO.2⟩,by decide⟩
theorem aMh:V0 s6 0=⟨xP,cM⟩:=by
 unfold V0;rw[sp6];rfl
theorem aMi:HV yE 1 40=yE:=by kernel_rfl
theorem aMj:bX ⟨one,one,false⟩ yE 40=yE:=by
 rw[aIR];kernel_rfl
def aLA:de cM yE 40=yE/\de yE cM 40=yE:=by
 rw[aHL,aHL];exact⟨by kernel_rfl,by kernel_rfl⟩
theorem aJm:rT xP [yE]=true:=arg os6 sp6 (aGi.vp sp6) rfl
theorem aLB:tD xP [yE] 40=yE:=by
 unfold tD;rw[aJm,show bv 40=true from rfl,aFI,ap rfl];have e:Tu 40 [yE] xP.terms ⟨aC,aC,false⟩=de cM (bX ⟨one,one,false⟩ (HV yE 1 40) 40) 40:=by
  simp only[xP,tX,Tu,Nx,cM,aEN,if_true,Int.toNat_one]
 rw[e,aMi,aMj,aLA.1]
theorem aMk:wL xP [yE] 40=yE:=by
 have od:∀x∈[yE],OkI x:=os6.d;have hsb:=atH (dom:=[yE]) (p:=40) aGi.ok od δ aJm rfl δ (by rw[aLB];rfl);rw[aLB]at hsb;have q1:=aby
 have q2:=aIO;have h1:=aGp (dom:=[yE]) (p:=40) aGi.ok od δ aJm (xs:=[1]) (ts:=[1]) ⟨by grind[yE],by decide,by decide,trivial⟩;have h2:=aGp (dom:=[yE]) (p:=40) aGi.ok od δ aJm (xs:=[-1]) (ts:=[0]) ⟨by grind[yE],by decide,by decide,trivial⟩;have e1:fv [1] xP.terms=1:=by
  simp[fv,xP,tX,P8,Km,q1,Rat.add_zero]
 have e2:fv [-1] xP.terms=-1:=by
  simp[fv,xP,tX,P8,Km,q1,Rat.add_zero]
 rw[e1]at h1;rw[e2]at h2;generalize wL xP [yE] 40=z at*
 obtain⟨_,hsb⟩:=hsb;rcases hsb with h| ⟨ha,_,_,l1,l2⟩
 ·cases h
 rcases h1 with h| ⟨_,vz,_,g1⟩
 ·rw[h]at ha;cases ha
 rcases h2 with h| ⟨_,_,g2,_⟩
 ·rw[h]at ha;cases ha
 rw[←q1,Fc]at g1;rw[←q2,Fc]at g2;obtain⟨a,b,c⟩:=z;have x1:a=rX:=aHz vz.1.2 G5.2 vz.1.1 G5.1 (Int.le_antisymm g2 l1);have x2:b=one:=aHz vz.2.2 gg.2 vz.2.1 gg.1 (Int.le_antisymm l2 g1);rw[x1,x2,show c=false from ha];rfl
theorem aIf:cQ s6 ⟨xP,cM⟩=yE:=by
 have hv:AC s6 ⟨xP,cM⟩=true:=YH sp6 aGi.c aGi.v aGi.n aGi.d ((B4 (m:=0)).i.elim fun _ h=>h.v) aGi.r;have he:xI s6 [⟨xP,cM⟩]=true:=by
  unfold xI;simp[sp6,hv]
 unfold cQ;rw[ap he];show de (wL xP [yE] 40) cM 40=yE;rw[aMk,aLA.2]
theorem aHZ:gZ 1=one:=by
 have h:(1:Int).natAbs≠0:=δ
 unfold gZ;rw[l7 h,show(1:Int).natAbs=1*2^0 from rfl,ajG rfl,Nat.pow_zero,Nat.mul_one,Nat.div_one,vj δ,show(1:Nat)/4294967296=0 from rfl,sj.2 rfl];rfl
theorem aKq:rI s6 ⟨xP,cM⟩=aC:=by
 unfold rI;rw[aIf];kernel_rfl
def aHD:OkI pE:=⟨⟨fun x hx=>by
 have:x=1521594727\/x=188:=by simpa [pE,pB3]using hx
 rcases this with rfl|rfl<;>decide,by decide⟩,⟨fun x hx=>by
 have:x=4166277283\/x=173:=by simpa [pE,pA3]using hx
 rcases this with rfl|rfl<;>decide,by decide⟩⟩
def eF(x:Ri):Ri:=if O x.lo.m=0 then cY 1 else pE
def aLM(x:Ri):OkI (eF x):=by
 unfold eF;split
 ·exact gM ⟨by decide,by decide⟩
 ·exact aHD
def aLN{x:Ri}(h:x=cM\/x=yE):R 87 [ae x,I 40] []=some (ae (eF x),[]):=by
 rcases h with rfl|rfl
 ·exact aJ2
 ·exact aJ1
def gF(x:Ri)(k:Int):Ri:=dC (eF x) (ud (min k.toNat 50) 40) 40
def aJn(x:Ri)(k:Int):OkI (gF x k):=kL
def aIZ{p:Int}:∀ (n i:Nat) {x:Ri} {q:Rat},i+n<=100->In q x->∃r,In r (RN p n i x)
 |0,_,_,q,_,h=>⟨q,h⟩
 |n+1,i,x,q,hi,h=>by
  have hz:=jh (n:=(i:Int)) (ahN ω);exact aIZ n (i+1) ω (sC h (wK hz.1 hz.2))
def aK2{k:Nat}(hk:k<=50){p:Int}:∃r,In r (ud k p):=by
 have hz:=jh (n:=1) (ahN (n:=1) ω);exact aIZ _ _ ω (wK hz.1 hz.2)
def aJo(x:Ri):In 1 (eF x):=by
 unfold eF;split
 ·have hz:=jh (n:=1) (ahN (n:=1) ω);have:=wK hz.1 hz.2;rw[aHZ,aby]at this;rw[show cY 1=m9 one by unfold cY;rw[aHZ]];exact this
 ·have h:ahD pE one=true:=by kernel_rfl
  have:=(aLq aHD h).1;rwa[aby]at this
def aGI(x:Ri)(k:Int):∃q,In q (gF x k):=by
 obtain⟨r,hr⟩:=aK2 (k:=min k.toNat 50) (p:=40) ω;exact⟨_,VH (aJo x) hr⟩
def aMl(x:Ri):In 1 (gF x 0):=by
 have hz:=jh (n:=1) (ahN (n:=1) ω);have h1:=wK hz.1 hz.2;rw[aHZ,aby]at h1;have h:=VH (p:=40) (aJo x) h1;rw[show(1:Rat)/1=1 by grind]at h;show In 1 (dC (eF x) (ud 0 40) 40);unfold ud RN;rw[show cY 1=m9 one by unfold cY;rw[aHZ]];exact h
def vm6:VM s6 ⟨xP,cM⟩:=⟨aKp,YH sp6 aGi.c aGi.v aGi.n aGi.d ((B4 (m:=0)).i.elim fun _ h=>h.v) aGi.r⟩
def aK3:∃m,R 26 [ej s6,bB ⟨xP,cM⟩] []=some (bB m,[])/\(m=RL s6 ⟨xP,cM⟩ gF/\(TY (cQ s6 (kK s6 (gF yE 0))) 40=true->(cQ s6 (RL s6 ⟨xP,cM⟩ gF)).all=false)\/m=kK s6 (gF yE 0)):=by
 have hc:∀x,x=m9 (rI s6 ⟨xP,cM⟩)\/x=cQ s6 ⟨xP,cM⟩->∀ (k:Nat),k<=17->∀ (h:aj) (e:Nat),h 1000=.bx (mO s6)->h (2000+8*e)=.dead->bF R (aA false) h e [ae x,I k] (.fn 85 [] [ac 1000])=some (ae (gF x k),h,[]):=by
  intro x hx k hk h e h0 hd;have hx':x=cM\/x=yE:=by
   rw[aKq,aIf]at hx;exact hx
  have ox:OkI x:=by
   rcases hx' with rfl|rfl
   ·exact⟨aO.2,aO.2⟩
   ·exact VO.1
  have hR:=arl (s:=s6) (k:=k) ox (aLM x) ω (aLN hx');have hg:gF x k=dC (eF x) (ud k s6.p) s6.p:=by
   unfold gF;rw[aEY,aFW ω];rfl
  rw[hg];have hh:=NF (f:=85) (h:=h) (d:=e) (id:=1000) (zas:=[ae x,I k]) (as':=[ae x,I k]) (HD false) (DU false) (by rw[alL];simp only[ae,ah,go_sem,aFb,aE5]) Z Z h0 (rN s6) (rN s6) (fun h=>h) hR (YF _) (aFp rfl) (by show bV h (2000+8*e) 1=true;simp[bV,hd,bS]);rw[Kr h0]at hh;exact hh
 obtain⟨m,h1,_,h2⟩:=T1 (s:=s6) (a:=⟨xP,cM⟩) (f:=85) (g:=gF) (o:=.bx (mO s6)) os6 vm6.ok (rN s6) aJn (fun k=>aGI _ _) hc;refine⟨m,?_,?_⟩
 ·refine au UE ?_;have hcc:=fun(h:aj) (d:Nat) (hh:h 2=.bx (mO s6)) (hf:h (2000+8*d)=.dead)=>B3 (f:=84) (g:=85) (h:=h) (d:=d) (id:=2) (zas:=[ej s6,bB ⟨xP,cM⟩]) (as':=[ej s6,bB ⟨xP,cM⟩]) (bw.1.2.1 false) (bw.1.2.2.2 false)
   (by rw[bw.1.1];simp only[go_sem,ge,aFb,aE5]) Z Z hh (rN _) (rN _) (fun h=>h) h1 (ao5 _) (aFp rfl) (by show bV h (2000+8*d) 1=true;simp[bV,hf,bS])
  simp only[aFb,aE5,go_sem]at hcc;simp only[C7,go_sem];rw[hcc _ _ Z Z];simp only[go_sem]
 ·rw[aIf]at h2;rcases h2 with⟨h,_⟩| ⟨_,_,_,h⟩
  ·cases h
  ·exact h
def ldB(m:Nat)(d:Rd):Bool:=Nat.ble (zI d).natAbs (2^ (16384+m))
def aIg(h:ldB m d=true):Ld m d:=aFp h
def aLO{x:Ri}{p:Int}(h:Bd m x)(hp:bv p=true)(hm:m+1<16384):TY x p=true:=by
 obtain⟨n1,n2⟩:=Cx h.v.1.1;have hl:Ld m (gW x.lo):=by
  have:=h.l;unfold Ld at this⊢;rw[n1,Int.natAbs_neg];exact this
 have:=(aeZ (up:=true) h.v.2.1 n2 hp hm h.h hl).1;unfold TY;rw[h.k,hp,this];rfl
def aLP{m:Rm}(h:(cQ s m).all=false):m.R.all=false:=by
 cases g:m.R.all with
 |false=>rfl
 |true=>
  unfold cQ at h;split at h
  ·unfold de at h;have hk:kI m.R=false:=by
    unfold kI;rw[g];rfl
   rw[hk,aFT,aE0,av aE3]at h;cases h
  ·cases h
theorem aMm:gF yE 0=pE:=by kernel_rfl
theorem aIh{c:Rd}:∀t∈abE 1 c,t=⟨oW 1,c⟩/\O c.m≠0:=fun t ht=>by
 unfold abE at ht;split at ht
 ·exact nomatch ht
 ·rename_i h;exact⟨List.mem_singleton.1 ht,h⟩
def aJ4{c:Rd}:O (abE 1 c)<=1:=by
 unfold abE;split
 ·exact aE9 _
 ·exact aET _
def aK4{c:Rd}(v:vd c=true)(o:Ok0 c)(hr:Ia c 40=true):Fit s6 (abF 1 c):=by
 have hl:=aJ4 (c:=c);refine⟨rfl,aEX hl δ,ae8 (v:=1) δ o v,fun t ht=>?_,fun t ht=>?_⟩
 ·rw[(aIh t ht).1];show cp (oW 1)<=4;decide
 ·rw[(aIh t ht).1];exact hr
def aLC{x:Ri}(hx:Bd 2 x)(ox:OkI x)(hc:Ld 2 (DG x 40))(hr:Ia (DG x 40) 40=true):Bd 4 (kK s6 x).R/\TY (cQ s6 (kK s6 x)) 40=true:=by
 obtain⟨v,o⟩:=EP (p:=40) ox;have e0:kK s6 x=lA s6 (abF 1 (DG x 40)) 0 (EI x (m9 (DG x 40)) 40):=by
  unfold kK;rw[sp6,hx.k,aFI,ap rfl];rfl
 have vm:=FM os6 sp6 ox;generalize DG x 40=c at*
 have hf:=aK4 v o hr;have e1:kK s6 x=⟨abF 1 c,de (EI x (m9 c) 40) cM 40⟩:=by
  rw[e0];unfold lA;rw[are sp6 hf,ap rfl,ap rfl];rfl
 have hn:Bd 2 (rW (m9 c)):=by
  have h:=aeB (wK v o);obtain⟨n1,n2⟩:=Cx v;have hl:Ld 2 (gW c):=by
   unfold Ld at hc⊢;rw[n1,Int.natAbs_neg];exact hc
  have hk:kI (m9 c)=true:=ahF ⟨_,wK v o⟩ rfl;have e:rW (m9 c)=⟨gW c,gW c,false⟩:=ap hk;have h':In (-(qv c)) (rW (m9 c)):=h;rw[e]at h'⊢;exact⟨⟨_,h'⟩,rfl,hl,hl⟩
 have hb:Bd 4 (kK s6 x).R:=by
  rw[e1];exact aq5 rfl δ (aq5 rfl δ hx hn) B4
 refine⟨hb,?_⟩;have he:xI s6 [kK s6 x]=true:=by
  unfold xI;simp[sp6,vm.v]
 have hr:=atO (m:=2) os6 sp6 (q:=abF 1 c) hf.ok (hf.vp sp6) rfl (fun t ht=>by
  rw[(aIh t ht).1];exact hc) (by have:=hf.n;omega)
 have hl:(abF 1 c).terms.length<=1:=aJ4;have h:=aq5 (p:=40) rfl δ (hr.up (by omega:2+(abF 1 c).terms.length<=4)) hb;have e:(kK s6 x).P=abF 1 c:=by rw[e1]
 unfold cQ;rw[ap he,e];exact aLO h rfl δ
def aLQ:Bd 2 pE:=by
 have h:=aJo yE;have e:eF yE=pE:=av δ;rw[e]at h;exact⟨⟨_,h⟩,rfl,aIg κ,aIg κ⟩
def aKI:Bd 4 (kK s6 pE).R/\TY (cQ s6 (kK s6 pE)) 40=true:=
 aLC aLQ aHD (aIg κ) κ
def aLD{a:Rm}{g:Ri->Int->Ri}(os:OkS s)(hs:fg s=true)(ha:VM s a)(hg:∀x k,OkI (g x k))(hgi:∀k,∃q,In q (g (cQ s a) k)):VM s (RL s a g):=by
 obtain⟨m1,m2⟩:=EP (x:=cQ s a) (p:=s.p) sD;obtain⟨qb,hqb⟩:=ab3 os ha.ok;obtain⟨qg,hqg⟩:=hgi (s.ord+1);have vc:=FM os hs (x:=m9 (rI s a)) ⟨m2,m2⟩;exact atQ hs (akW os hs (akV os hs ha vc) (hg _) _ _ (FM os hs (hg _ _))) ⟨_,sC hqg (atP (OY hqb (wK m1 m2)))⟩
theorem aLE{cf:Nat->Rat}:∀ (k:Nat) (y:Rat),hv cf 0 (k+1) y=cf 0
 |0,y=>by
  show y*0+cf 0=cf 0;grind
 |k+1,y=>aLE k _
def aMn:∃m,R 26 [ej s6,bB ⟨xP,cM⟩] []=some (bB m,[])/\VM s6 m/\m.R.all=false/\In 1 (aHp s6 m [cM]):=by
 have hvm:=vm6;have hvv:([aC].map qv)=[0]:=by
  show [qv aC]=_;rw[NJ]
 obtain⟨m,h1,h2⟩:=aK3;refine⟨m,h1,?_⟩;clear h1;rw[aMm]at h2;have hx:∀d∈[cM],OkI d/\kI d=true:=fun d hd=>by
  rw[List.mem_singleton.1 hd];exact⟨⟨aO.2,aO.2⟩,(B4 (m:=0)).k⟩
 have q1:=aby
 have q2:=aIO;have q0:=NJ;have hz:Bn [cM] ([aC].map qv) [0]:=⟨by show qv aC=_;grind[cM],by decide,by decide,trivial⟩;have hu:Bn s6.dom ([aC].map qv) [1/2]:=⟨by show qv aC=_;grind[yE],by decide+kernel,by decide+kernel,trivial⟩;rcases h2 with⟨hm,hw⟩|hm
 ·rw[hm];have vm:=aLD os6 sp6 vm6 aJn fun k=>aGI _ k;have hd:Des ⟨xP,cM⟩ ([aC].map qv) 0:=by
   have e:fv [0] xP.terms=0:=by
    simp[fv,xP,tX,P8,Km];grind
   have h:=wK aO.1 aO.2;rw[q0]at h;unfold Des;rw[hvv,e,show(0:Rat)-0=0 by grind];exact h
  have ht:=aKX (cf:=fun j=>if j=0 then 1 else Classical.choose (aGI cM j)) (r:=Classical.choose (aGI yE 5)) os6 sp6 vm6 aJn hu hd (fun j hj=>by
   rw[aKq];show In (if j=0 then 1 else Classical.choose (aGI cM (j:Int))) (gF cM (j:Int));split
   ·rename_i h;rw[h];exact aMl cM
   ·exact Classical.choose_spec (aGI cM (j:Int))) (by
   rw[aIf];exact Classical.choose_spec (aGI yE 5))
  refine⟨vm,aLP (hw aKI.2),aJU vm.ok hx hz ?_⟩;rw[aKq,q0,show(0:Rat)-0=0 by grind,show s6.ord.toNat=3+1 from rfl,aLE]at ht;have e:∀r:Rat,(if(0:Nat)=0 then(1:Rat)else r)+Classical.choose (aGI yE 5)*0^ (3+1+1)=1:=fun r=>by
   rw[ap rfl];grind
  rw[e]at ht;exact ht
 ·rw[hm];have vm:=FM os6 sp6 aHD;refine⟨vm,aKI.1.a,aJU vm.ok hx hz (aHb os6 aHD hu ?_)⟩;have h:=aJo yE;have e:eF yE=pE:=av δ;rw[e]at h;exact h
def aJ5:R 25 [] []=some (ej s6,[]):=aAs (e:=cB) [] 60 (25,[],ej s6) aoj κ
theorem aLR{s:aM}{h':aj}(d k z n qs):jl d (.buildSl k z n qs) s h h'=if(qs.all fun p=>dat (ev s p.2))=true then some ([],[du d])else none:=θ _
def aK5:R 30 [ej s6,bB ⟨xP,cM⟩] []=some (bB (cu s6),[]):=by
 refine au zu ?_;have h1:=CH os6 vm6.ok;have h2:=Lt VO.1 κ;have h3:=zK os6;rw[aIf]at h1;have hs:HT yE=0:=δ
 rw[hs]at h2;have ha:yE.all=false:=rfl;generalize s6=s at h1 h3⊢;generalize(⟨xP,cM⟩:Rm)=x at h1⊢;generalize cu s=z at h3⊢;generalize yE=u at*
 simp only[ae,ah,ha]at h1 h2;simp only[mU,go_sem,aEP,aEO,aEN,aX,h1,h2,h3,ge]
def aMo:R 6 [] []=some (B true,[]):=by
 obtain⟨⟨P,⟨lo,hi',al⟩⟩,h1,hv,hR,hi⟩:=aMn;have hR:al=false:=hR;subst hR;obtain⟨m,hm⟩:∃m:Rm,m=⟨P,⟨lo,hi',false⟩⟩:=⟨_,rfl⟩;rw[←hm]at h1 hv hi;have g1:=aJ5;have g2:=ae7 (s:=s6) (i:=0) os6;rw[aMh]at g2;have g3:=aKl (x:=[cM]) os6 hv.ok (fun b hb=>by rw[List.mem_singleton.1 hb];exact⟨aO.2,aO.2⟩) δ;have g4:=aKM;have q1:=aby
 have g5:=atB (x:=aHp s6 m [cM]) hi.ok gg.2;rw[aKO (by rw[q1];exact hi) gg.1]at g5;have g6:=aK5;have g7:=Xe os6 hv.ok;rw[hv.v]at g7;refine au aIr ?_;have hn:(cu s6).R.all=true:=rfl;have e0:cT [cM]=[[B false,lm [],I 0,B false,lm [],I 0,B false]]:=rfl;rw[e0]at g3;generalize aHp s6 m [cM]=v at*
 generalize cu s6=z at*
 obtain⟨zP,⟨zl,zh,za⟩⟩:=z;have hn:za=true:=hn;subst hn;generalize(⟨xP,cM⟩:Rm)=x at*
 generalize s6=s at*
 subst hm;simp only[ae,ah,af,ak]at g1 g2 g3 g4 g5 g6 g7;simp only[aGt,go_sem,aEP,aEO,aEN,aX,g1,g2,h1,g3,g4,g5,g6,g7,ge,aLR]
def aJ6{d:Nat}{zas as':List AV}{o':Ob}{res:AV}(hm:(aA false).m f=[])(hk:(aA false).keep f=false)(hn:bC ((aA false).sh f) (zas++[ac id])=as'++[ac id])(hd:zas.all dat=true)(hd':as'.all dat=true)
  (hh:h id=o) (ho:OC o) (ho':OC o') (hb:bf o=true->bf o'=true) (hR:R f (as'++[ac 1000]) [o]=some (res,[o'])) (hr:RT res) (h8:cV res<=8) (hfr:bV h (2000+8*d) (cV res)=true):
  bF R (aA false) h d zas (.fn f [] [ac id])=some (res,upd h id o',[(id,true)]):=by
 have hin:∀l:List AV,l.all dat=true->cr h [] (l++[ac id])=some (l++[ac id],h,[]):=by
  intro l;induction l with
  |nil=>intro _;rfl
  |cons x l ih=>
   intro h2;simp only[aFa,aEV]at h2;simp only[aFb,cr,List.headD_nil,NE h2.1,aEZ,List.tail_nil,ih h2.2,aE8]
 have h1:=hin zas hd;have hp:bD [] ((zas++[ac id]).flatMap cF)=[id]:=by
  rw[List.flatMap_append,B0 fun x hx=>G0 (List.all_eq_true.1 hd x hx)];rfl
 have hre:bO h 40 [id] 0=[id]:=by
  simp[bO,hh,ho.ids,bD]
 have h3:bh [id] id=1000:=by simp[bh]
 have hall:(as'++[ac id]).all (be [id])=true:=by
  rw[List.all_append,aEV];exact⟨List.all_eq_true.2 fun x hx=>Kg (List.all_eq_true.1 hd' x hx) _,by simp[be,bA]⟩
 have hmap:(as'++[ac id]).map (eG (bh [id]))=as'++[ac 1000]:=by
  rw[List.map_append,(aFn (g:=fun c=>c) fun x hx=>G1 (List.all_eq_true.1 hd' x hx) _).trans (aFH as')];simp[eG,lG,h3]
 have hob:([id].map fun a=>eP (bh [id]) (h a))=[o]:=by simp[hh,ho.ren]
 have hids:([id].all fun a=>aE [id] (h a)&&!bS (h a))=true:=by simp[hh,ho.cl,ho.nd]
 unfold bF;rw[av (by simp[lH,hm])];simp only[eU,hm,aE5,h1,aEZ,hp,hre,hn];unfold lg;rw[hall,hids,hmap,hob,hR,aFI,ap rfl,aEZ,hk,hm,vG];unfold fG;have hbf:dk h [] [id] [o']=true:=by
  have:=ho'.nd;cases h5:bf o with
  |false=>simp[dk,hh,h5,this]
  |true=>simp[dk,hh,h5,hb h5,this]
 have hend:nP h [id] [] (res,[o'])=true:=by
  simp[nP,CP,hr.ok,ho'.cl]
 rw[ap ⟨rfl,by simp,h8,hfr,hbf,hend⟩];simp[fw,ie,hr.mat,hr.ren,ho'.ren]
section
variable {α:Type} {Frow:α→List AV} {l:List α} {q:α→Bool}
def aJ7{k:Nat}{g:Bool}(ho:OC o)(hm:(aA false).m f=[])(hk:(aA false).keep f=false)(hf:as6 f o k g Frow l q)(hl:O l<4611686018427387904):∀ (rest:List α) (n:Nat),l.drop n=rest->n<=O l->
  ∀ (s:aM) (h:aj),s 0=.sl k (l.map Frow)->s 1=.fn f [] [ac 1000]->s 7=I (O l)->s 8=I n->h 1000=o->
   ∃hh,dx (ao 0 [] (aB (am R (aA false) (su k g)) [0,1,7,8] [1000] s h)) (am R (aA false) sv)=some (.ret,⟨upd ce 4 (I (AZ q rest n)),hh⟩)/\hh 1000=o:=by
 intro rest;induction rest with
 |nil=>
  intro n hd hn s h h0 h1 h7 h8 h9;have e:n=O l:=by
   have:=congrArg List.length hd;grind
  subst e;rw[ai];refine⟨?hh0,?_,?_⟩;rotate_left
  ·simp only[su,sv,go_sem,h0,h1,h7,h8,h9,ho.cl,aFC,AZ];rfl
  ·rfl
 |cons x rest ih=>
  intro n hd hn s h h0 h1 h7 h8 h9;have hlt:n<O l:=by
   grind
  have hr:l[n]?=some x:=by
   have:=congrArg (·[0]?) hd;grind
  have ih':=ih (n+1) (by rw[←List.drop_drop,hd];rfl) hlt;have e1:=aa ((n:Int)< (O l:Int));have e2:dF (l.map Frow) (n:Int)=some (.ipt (Frow x)):=by simp[dF,hr]
  have e3:aG ((n:Int)+1)=((n+1:Nat):Int):=by grind[i64_in]
  rw[ai];generalize aB _ _ _=L at ih'⊢;simp only[AZ];obtain⟨a,a',ha,hda,hda',hn2,hc⟩:=hf x (aE6 hr);have hcc:=fun(h:aj) (d:Nat) (hh:h 1000=o) (hf:h (2000+8*d)=.dead)=>aJ6 (f:=f) (h:=h) (d:=d) (id:=1000) (zas:=[a]) (as':=[a']) hm hk (by simpa using hn2) (by simp[hda]) (by simp[hda']) hh ho ho (fun h=>h) hc (abj _) (aFp rfl) (by simp[bV,cV,hf,bS]);simp only[su,go_sem,h0,h1,h7,h8,h9,ho.cl,e1,e2,ha];rw[hcc _ _ Z Z];cases hp:q x with
  |true=>
   simp only[sv,go_sem];exact⟨_,rfl,rfl⟩
  |false=>
   simp only[go_sem,h0,h1,h7,h8,e3,aE3];apply ih'<;>rfl
variable {ci fi:FuncId} {k:Nat} {g:Bool} {cs:List Sh}
def aK6(S:Src ci fi k g cs)(ho:OC o)(hm:(aA false).m f=[])(hk:(aA false).keep f=false)(hl:O l<4611686018427387904)(hr:(l.map Frow).map (fj cs)=l.map Frow)(hf:as6 f o k g Frow l q):
  R ci [.sl k (l.map Frow),.fn f [] [ac 1000]] [o]=some (B (l.any q),[o]):=by
 have h:R fi [.sl k (l.map Frow),.fn f [] [ac 1000]] [o]=some (I (AZ q l 0),[o]):=by
  refine tE S.iE S.iC S.ik rfl ?_;have hL:=aJ7 (Frow:=Frow) (q:=q) (k:=k) (g:=g) ho hm hk hf hl l 0 rfl (aE9 _);simp only[go_sem,agJ];have hL2:∀ (S:aM) (H:aj) (X:Option (Ex×St)),dx (ao 0 [] (aB (am R (aA false) (su k g)) [0,1,7,8] [1000] S H)) (am R (aA false) sv)=X->S 0=.sl k (l.map Frow)->S 1=.fn f [] [ac 1000]->S 7=I (O l)->S 8=I (0:Nat)->H 1000=o->
    ∃hh,X=some (.ret,⟨upd ce 4 (I (AZ q l 0)),hh⟩)/\hh 1000=o:=fun S H X hX a b c d e=>by
   rw[←hX];exact hL S H a b c d e
  generalize hX:dx (ao 0 [] (aB _ _ [1000] _ _)) (am R (aA false) sv)=X;obtain⟨hh,e,e9⟩:=hL2 _ _ _ hX Z Z (by simp only[go_sem,aFh]) Z Z;rw[e];simp only[go_sem];exact jY rfl e9 (ho.cl _) Z Z
 refine tE S.cE S.cC S.ck rfl ?_;have ha:=Lh q l 0;have hc:=fun(h':aj) (d:Nat) (hh:h' 1000=o) (hf:h' (2000+8*d)=.dead)=>B3 (f:=fi) (g:=f) (h:=h') (d:=d) (id:=1000) (zas:=[.sl k (l.map Frow)]) (as':=[.sl k (l.map Frow)]) S.im S.ik'
  (by rw[S.ish];simp only[go_sem,hr,aFb,aE5]) Z Z hh ho ho (fun h=>h) h (asX _) (aFp rfl) (by simp[bV,cV,hf,bS])
 simp only[aFb,aE5]at hc;simp only[Nj,go_sem];rw[hc _ _ Z Z];simp only[go_sem,ha];exact jY Z Z (ho.cl _) Z Z
end
def aJp(m:List Nat):Nat:=if O m=0 then 0 else 32*(O m-1)+ag (m.getD (O m-1) 0)
def aJ8{m:List Nat}(hb:Lb m)(h:O m<=1000000):R 108 [lm m] []=some (I (aJp m:Nat),[]):=by
 refine au aHx ?_;unfold aJp;by_cases h0:O m=0
 ·have:m=[]:=List.length_eq_zero_iff.1 h0;subst this;simp only[aEb,aGj,go_sem,aFs,aFz]
 ·rw[av h0];have e1:=aP ((O m:Int)=0);have e2:aG ((O m:Int)-1)=((O m-1:Nat):Int):=wi;have e3:aG (32*((O m-1:Nat):Int))=((32*(O m-1):Nat):Int):=wi;have e4:dF (aS m) ((O m-1:Nat):Int)=some (.ipt [U (m.getD (O m-1) 0:Nat)]):=dV rfl ω;have hx:=dD hb (O m-1);have e5:=aHN (m.getD (O m-1) 0) (32*(O m-1)) hx (by have:=(bH (k:=32)).2 hx;omega);simp only[aEb,aGj,go_sem,e1,e2,e3,e4];rw[e5 _ _ Z Z];simp only[go_sem]
def aJq(d:Rd):Int:=if O d.m=0 then 0 else IntKind.i64.wrap ((aJp d.m:Nat)+d.e)
def aKr(ok:Ok0 d)(h:O d.m<=1000000):R 34 [af d] []=some (I (aJq d),[]):=by
 refine au aHM ?_;unfold aJq;by_cases h0:O d.m=0
 ·have e1:=aa ((O d.m:Int)=0);rw[ap h0];simp only[aF5,af,ak,go_sem,e1]
 ·have e1:=aP ((O d.m:Int)=0);rw[av h0];have hb:=aJ8 ok.lb h;simp only[aF5,af,ak,go_sem,e1,hb]
def sa1(d:Rd):Bool:=if 6<O d.m then true else if d.e< -200 then true else if 20<aJq d then true else !vd d
def aHa(ok:Ok0 d):R 33 [af d] []=some (B (sa1 d),[]):=by
 refine au aHU ?_;have hl:=ok.len;unfold sa1;by_cases g1:6<O d.m
 ·have e1:=aa ((6:Int)< (O d.m:Int));rw[ap g1];simp only[ayj,af,ak,go_sem,e1]
 have e1:=aP ((6:Int)< (O d.m:Int));rw[av g1];by_cases g2:d.e< -200
 ·have e2:(d.e< -200)=True:=eq_true g2;rw[ap g2];simp only[ayj,af,ak,go_sem,e1,e2]
 have e2:(d.e< -200)=False:=eq_false g2;rw[av g2];have h1:=aKr ok ω;have h2:=aG2 ok;generalize vd d=v at h2⊢;generalize aJq d=t at h1⊢;simp only[af,ak]at h1 h2;by_cases g3:20<t
 ·have e3:(20<t)=True:=eq_true g3;rw[ap g3];simp only[ayj,af,ak,go_sem,e1,e2,h1,e3]
 have e3:(20<t)=False:=eq_false g3;rw[av g3];simp only[ayj,af,ak,go_sem,e1,e2,h1,h2,e3]
noncomputable abbrev bq:Ob:=.bx [.fn 33 [] []]
def aGs:OC bq:=⟨fun _=>rfl,rfl,fun _=>rfl,rfl⟩
def sa2(x:Ri):Bool:=sa1 x.lo||sa1 x.hi
def aLF{x:Ri}(ok:OkI x):R 37 [ae x,ac 1000] [bq]=some (B (sa2 x),[bq]):=by
 refine xz aHW aHV (aGx false) rfl ?_;have h1:=aHa ok.1;have h2:=aHa ok.2;unfold sa2;generalize sa1 x.lo=a at h1⊢;generalize sa1 x.hi=b at h2⊢;simp only[af,ak]at h1 h2;cases a
 ·simp only[aF6,ae,ah,go_sem,h1,h2];exact jY Z Z Z Z Z
 ·simp only[aF6,ae,ah,go_sem,h1,h2];exact jY Z Z Z Z Z
def aIi(t:Rt):Bool:=decide (10<O t.exps)||sa1 t.c
def aK7{t:Rt}(ok:Ok0 t.c):R 41 [.agg (dE t),ac 1000] [bq]=some (B (aIi t),[bq]):=by
 refine xz aHw aHv (aGo false) rfl ?_;have h1:=aHa ok;unfold aIi;generalize sa1 t.c=a at h1⊢;simp only[af,ak]at h1;by_cases g1:10<O t.exps
 ·have e1:=aa ((10:Int)< (O t.exps:Int));rw[decide_eq_true g1];simp only[ays,dE,go_sem,e1,Bool.true_or];exact jY Z Z Z Z Z
 ·have e1:=aP ((10:Int)< (O t.exps:Int));rw[decide_eq_false g1];simp only[ays,dE,go_sem,e1,h1,Bool.false_or];exact jY Z Z Z Z Z
def sa3(m:Rm):Bool:=decide (20<O m.P.terms)|| (sa1 m.R.lo|| (sa1 m.R.hi||m.P.terms.any aIi))
def aLG{m:Rm}(om:OkM m):R 39 [bB m,ac 1000] [bq]=some (B (sa3 m),[bq]):=by
 refine tE ayp.2.1 ayp.2.2 (ayp.1.2.2.2 false) rfl ?_;have hn:=om.n;unfold sa3;by_cases g:20<O m.P.terms
 ·have f:=aa (20< (O m.P.terms:Int));rw[decide_eq_true g,Bool.true_or];simp only[ayk,go_sem,f];exact jY Z Z Z Z Z
 have f:=aP (20< (O m.P.terms:Int));rw[decide_eq_false g,Bool.false_or];have h1:=aHa om.r.1;have h2:=aHa om.r.2;have h3:=OT aoX (Frow:=dE) (l:=m.P.terms) (q:=aIi) aGs (aGD false) (aGo false) hn (ge _) fun t ht=>⟨.agg (dE t),.agg (dE t),rfl,rfl,rfl,by rw[aHl];simp only[dE,go_sem],aK7 (om.c t ht)⟩;have h3':=fun(h:aj) (d:Nat) (hh:h 1000=bq) (hf:h (2000+8*d)=.dead)=>B3 (f:=40) (g:=41) (h:=h) (d:=d) (id:=1000) (zas:=[.sl 4 (aU m.P.terms)]) (as':=[.sl 4 (aU m.P.terms)]) (dj.1.2.1 false) (dj.1.2.2.2 false)
  (by rw[dj.1.1];simp only[go_sem,ge,aFb,aE5]) Z Z hh aGs aGs (fun h=>h) h3 (abj _) (aFp rfl) (by simp[bV,cV,hf,bS])
 simp only[aFb,aE5,go_sem]at h3';generalize sa1 m.R.lo=a at h1⊢;generalize sa1 m.R.hi=b at h2⊢;generalize m.P.terms.any aIi=c at h3'⊢;simp only[af,ak]at h1 h2;cases a
 ·cases b
  ·simp only[ayk,go_sem,f,h1,h2];rw[h3' _ _ Z Z];simp only[go_sem];exact jY Z Z Z Z Z
  ·simp only[ayk,go_sem,f,h1,h2];exact jY Z Z Z Z Z
 ·simp only[ayk,go_sem,f,h1,h2];exact jY Z Z Z Z Z
def smR(s:Rs)(l:List Rm):Bool:=if 3<O s.dom then false else if 6<s.ord then false else if 64<s.p then false else if fg s=false then false else if s.dom.any sa2=true then false else !(l.any sa3)
def aKs{l:List Rm}(os:OkS s)(om:∀m∈l,OkM m)(hl:O l<4611686018427387904):R 7 [ej s,.sl 9 (gh l)] []=some (B (smR s l),[]):=by
 refine au aIs ?_;have h0:=aKk os;have h1:=OT atD (Frow:=ah) (l:=s.dom) (q:=sa2) aGs (aGV false) (aGx false) os.n (ad9 _) fun x hx=>⟨ae x,ae x,rfl,rfl,rfl,by rw[aHF];simp only[ae,ah,go_sem],aLF (os.d x hx)⟩;have h2:=aK6 atF (Frow:=fun m=>uj m) (l:=l) (q:=sa3) aGs (ayp.1.2.1 false) (ayp.1.2.2.2 false) hl (nI _) fun m hm=>⟨bB m,bB m,rfl,rfl,rfl,by rw[ayp.1.1];simp only[go_sem,ge],aLG (om m hm)⟩;have h1':=fun(h:aj) (d:Nat) (hh:h 5=bq) (hf:h (2000+8*d)=.dead)=>B3 (f:=36) (g:=37) (h:=h) (d:=d) (id:=5) (zas:=[.sl 7 (cT s.dom)]) (as':=[.sl 7 (cT s.dom)]) (bg.1.2.1 false) (bg.1.2.2.2 false)
  (by rw[bg.1.1];simp only[go_sem,ad9,aFb,aE5]) Z Z hh aGs aGs (fun h=>h) h1 (abj _) (aFp rfl) (by simp[bV,cV,hf,bS])
 have h2':=fun(h:aj) (d:Nat) (hh:h 5=bq) (hf:h (2000+8*d)=.dead)=>B3 (f:=38) (g:=39) (h:=h) (d:=d) (id:=5) (zas:=[.sl 9 (gh l)]) (as':=[.sl 9 (gh l)]) (cX.1.2.1 false) (cX.1.2.2.2 false)
  (by rw[cX.1.1];simp only[go_sem,nI,aFb,aE5]) Z Z hh aGs aGs (fun h=>h) h2 (abj _) (aFp rfl) (by simp[bV,cV,hf,bS])
 simp only[aFb,aE5,go_sem]at h1' h2';unfold smR;generalize s.dom.any sa2=b1 at h1'⊢;generalize l.any sa3=b2 at h2'⊢;generalize fg s=v at h0⊢;by_cases g1:3<O s.dom
 ·have f1:=aa (3< (O s.dom:Int));rw[ap g1];simp only[ayh,go_sem,f1]
 have f1:=aP (3< (O s.dom:Int));rw[av g1];by_cases g2:6<s.ord
 ·have f2:(6<s.ord)=True:=eq_true g2;rw[ap g2];simp only[ayh,go_sem,f1,f2]
 have f2:(6<s.ord)=False:=eq_false g2;rw[av g2];by_cases g3:64<s.p
 ·have f3:(64<s.p)=True:=eq_true g3;rw[ap g3];simp only[ayh,go_sem,f1,f2,f3]
 have f3:(64<s.p)=False:=eq_false g3;rw[av g3];cases v
 ·rw[ap rfl];simp only[ayh,go_sem,f1,f2,f3,h0]
 rw[av δ];cases b1
 ·rw[av δ];simp only[ayh,go_sem,f1,f2,f3,h0];rw[h1' _ _ Z Z];simp only[go_sem];rw[h2' _ _ Z Z];simp only[go_sem]
 ·rw[ap rfl];simp only[ayh,go_sem,f1,f2,f3,h0];rw[h1' _ _ Z Z];simp only[go_sem]
theorem aIj:∀a,eqZ a a=true
 |[]=>rfl
 |x::a=>by
  unfold eqZ;rw[aIj a];simp
def aK8{x:Rt}(hx:O x.exps<=100000/\O x.c.m<=100000)(lb:Lb x.c.m):R 50 [.agg (dE x),.agg (dE x)] []=some (B true,[]):=by
 refine au aIC ?_;have h1:=aLf (a:=x.exps) (b:=x.exps) hx.1;rw[aIj]at h1;have h2:=aG3 lb hx.2;simp only[af,ak]at h2;simp only[aGT,dE,go_sem,aEP,aEO,aEN,aX,h1,h2]
def aKt{a:List Rt}(ha:∀t∈a,(O t.exps<=100000/\O t.c.m<=100000)/\Lb t.c.m)(h2:O a<=100000):∀ (k i:Nat),i+k=O a->∀ (s:aM) (h:aj) (X:Option (Ex×St)),ao 0 [] (aB (am R (aA false) afm) [1,2,15,16,17] [] s h)=X->s 1=.sl 4 (aU a)->s 2=.fn 50 [] []->s 15=.sl 4 (aU a)->s 16=I (O a)->s 17=I i->
  ∃hh,X=some (.normal,⟨fun _=>.any,hh⟩):=by
 intro k;induction k with
 |zero=>
  intro i hi s h X hX g1 g2 g15 g16 g17;have e1:=aP ((i:Int)<O a);subst hX;rw[ai];simp only[afm,go_sem,aEP,aEO,aEN,aX,g1,g2,g15,g16,g17,e1];exact⟨_,rfl⟩
 |succ k ih=>
  intro i hi s h X hX g1 g2 g15 g16 g17;have hlt:i<O a:=ω
  have e1:=aa ((i:Int)<O a);have e2:=kV rfl (aE1 hlt);have e5:aG ((i:Int)+1)=((i+1:Nat):Int):=wi;have ih':=ih (i+1) ω;obtain⟨v1,v2⟩:=ha _ (aFg hlt);subst hX;rw[ai];generalize a[i]=x at e2 v1 v2;generalize aB _ _ _=L at ih'⊢;have hc:=aK8 v1 v2;simp only[dE]at e2 hc;simp only[afm,go_sem,aEP,aEO,aEN,aX,g1,g2,g15,g16,g17,e1,e2,hc,e5];apply ih'<;>rfl
def aKb{m:Rm}(hm:MM m):R 9 [bB m,bB m] []=some (B true,[]):=by
 have h3:R 49 [.sl 4 (aU m.P.terms),.sl 4 (aU m.P.terms),.fn 50 [] []] []=some (B true,[]):=by
  refine au aGW ?_;have hl:=aKt (fun t ht=>⟨hm.t t ht,(hm.ok.c t ht).lb⟩) hm.l (O m.P.terms) 0 (aES _);simp only[ai9,ajU,go_sem,aEP,aEO,aEN,aX];generalize hX:ao 0 [] _=X;obtain⟨hh,rfl⟩:=hl _ _ _ hX Z Z Z Z Z;simp only[go_sem,aEP,aEO,aEN,aX]
 refine au aKx ?_;have h1:=aG3 hm.ok.r.1.lb hm.q.1;have h2:=aG3 hm.ok.r.2.lb hm.q.2;have e1:∀b:Bool,(false != (b==b))=true:=δ
 simp only[af,ak]at h1 h2;simp only[aHc,go_sem,aEP,aEO,aEN,aX,h1,h2,h3,e1]
def aK9{a b m:Rm}{k n:Int}(h:ApD s k n a b m)(h8:8<=k):R 15 [I k,I n,ej s,bB a] []=some (bB m,[]):=by
 refine au aIL ?_;rcases h with⟨rfl,h⟩| ⟨rfl,h⟩| ⟨rfl,h⟩| ⟨rfl,h⟩| ⟨rfl,h⟩| ⟨rfl,h⟩| ⟨rfl,h⟩| ⟨rfl,h⟩| ⟨rfl,h⟩| ⟨rfl,h⟩| ⟨rfl,h⟩
 iterate 5 omega
 all_goals simp only[aGX,go_sem,aEP,aEO,aEN,aX,h,ge]
def aKu{a b:Rm}{k n:Int}(haw:R 6 [] []=some (B true,[]))(os:OkS s)(oa:OkM a)(ob:OkM b):R 3 [ej s,I k,I n,bB a,bB b] []=some (B true,[]):=by
 refine au aIa ?_;have hg:=aKs os (l:=[a,b]) (P9 oa ob) σ;simp only[aFr,aFB]at hg;cases g0:smR s [a,b]with
 |false=>
  rw[g0]at hg;simp only[ao4,go_sem,aEP,aEO,aEN,aX,haw,hg]
 |true=>
 rw[g0]at hg;rcases aLL (k:=k) (n:=n) os oa ob with⟨m,om,h⟩| ⟨c3,c4,c5,c6,c7,c8,c9,c10,c11,c12,c13⟩
 ·have hA:=rY h;have hs:=aKb om;have hp:=aK9 h;rcases h with⟨rfl,h⟩| ⟨rfl,h⟩| ⟨rfl,h⟩| ⟨rfl,h⟩| ⟨rfl,h⟩| ⟨rfl,h⟩| ⟨rfl,h⟩| ⟨rfl,h⟩| ⟨rfl,h⟩| ⟨rfl,h⟩| ⟨rfl,h⟩
  iterate 5
   clear hp;simp only[ao4,go_sem,aEP,aEO,aEN,aX,haw,hg,hA,h,hs,ge]
  all_goals
   replace hp:=hp δ
   simp only[ao4,go_sem,aEP,aEO,aEN,aX,haw,hg,hA,hp,hs,ge]
 ·have hA:=aud (n:=n) (a:=a) (b:=b) os c3 c4 c5 c6 c7 c8 c9 c10 c11 c12 c13;have e1:((O s.dom:Int)=(O (cT s.dom):Int))=True:=tt (by simp[cT]);simp only[cu,bt,aC]at hA;simp only[ao4,go_sem,aEP,aEO,aEN,aX,haw,hg,hA,ff c3,ff c4,ff c5,ff c6,ff c7,ff c8,ff c9,ff c10,ff c11,ff c12,ff c13,e1,ge,aFz]
noncomputable def Jz:Env:=⟨fun f=>YA.lookup f,cB.C,cB.md⟩
noncomputable def R0:j8:=iL Jz
def ES{fd:FD}{hs:List Ob}{r:AV×List Ob}(hE:Jz.E f=none)(hC:Jz.C f=some fd)(hk:Jz.md.keep f=false)(h1:O args=fd.np)(h2:O hs<=1000)
  (hz:fk false fd.rs fd.res (O hs) (am R0 (aA false) fd.body (iW args) (az hs))=some r):R0 f args hs=some r:=by
 refine M2 hE hC ?_;unfold ZF;rw[ap ⟨h1,h2⟩,hk];exact hz
theorem DM(o:Ob):az [o]=upd (fun _=>.dead) 1000 o:=by
 unfold az upd;grind
def aot{rs:List (List AV)}(h:(O rs+1)*8<=140737488355328):R0 134 [.sl 1 (r::rs)] []=some (.osl 1 (r::rs),[]):=by
 refine ES (fd:=rk) κ κ κ rfl δ ?_;have e1:((O rs+1)*8<=140737488355328)=True:=eq_true h;have e2:Gy false (.sl 1 (r::rs))=some (B false):=rfl;simp only[rk,go_sem,e1,e2,aFk,aFs,aES,aE9,aET,true_and,true_or,aE5]
theorem aou:gA 4 .emp (some (I 0)) none none=some .emp:=rfl
def arP:R0 182 [.emp,I 0,.sl 4 [r]] []=some (.osl 4 [r],[]):=by
 refine ES (fd:=bJ) κ κ κ rfl δ ?_;have e1:((1:Int)=0)=False:=δ
 simp only[bJ,go_sem,aou,aFk,aFs,Int.natCast_one,e1,aES]
theorem ET{i:Nat}(h:i<=n):nc n (some (I i)) none none=some (i,n):=by
 simp_all[nc,mS,aEZ,ap]
def alz{k l0 i:Nat}(h:i<=n):gA k (.rsl id none k l0 n) (some (I i)) none none=some (.rsl id none k (l0+i) (n-i)):=by
 simp_all[gA,if_true,ET,aFK,Option.isNone_none]
def V7{j k:Nat}(hj:bu j=false)(hh:h j=.ar k rows)(hn:n=O rows)(hc:aE [1000] (h 1000)=true):xT [[]] 1 h [.rsl j none k 0 n]=some (.osl k rows,[h 1000]):=by
 simp_all[dJ,xT,ap,yf,wj,qk,FU,zT,bC,nrmV,nrmL,mT,cF,ip]
def alA(hn:n=O rows)(hb:(n+1)*64<=140737488355328):R0 182 [.rsl 1000 none 4 0 n,I n,.sl 4 [r]] [.ar 4 rows]=some (.osl 4 (rows++[r]),[.dead]):=by
 refine ES (fd:=bJ) κ κ κ rfl σ ?_;subst hn;rw[DM];have e1:((1:Int)=0)=False:=δ
 have e2:=alz (id:=1000) (k:=4) (l0:=0) (aET (O rows));have e3:((O rows+1)*64<=140737488355328)=True:=eq_true hb;have e4:=aP (O rows+1<=O rows);have e5:∀h,Qg h 25 4 64 1000 4 0 (O rows) [r] 4 rows=dH (upd h 1000 .dead) 25 4 (rows++[r]) (O rows+1) [(1000,false)]:=fun h=>by
  simp_all[Qg,List.length_singleton,av,ap,trivial]
 simp only[bJ,go_sem,aFk,aFs,Int.natCast_one,e1,e2,e3,e4,e5,aES,aFA,Nat.sub_self,or_self,aET,List.length_append];exact V7 Z Z σ rfl
theorem auh{g:List AV->List Ob->Option (AV×List Ob)}{hs:List Ob}(hE:Jz.E f=some g):R0 f args hs=g args hs:=BC hE
def arQ{d:Nat}{lo:Nat}(hh:h 1000=.ar 4 rows)(hd:h (2000+8*d)=.dead):
  bF R0 (aA false) h d [.sl 4 [r],.rsl 1000 none 4 lo m] (.fn 240 [] [])=some (B false,upd h 1000 (.ar 4 rows),[(1000,true)]):=by
 have hm:(aA false).m 240=[0,1]:=by kernel_rfl
 have hs:(aA false).sh 240=[]:=by kernel_rfl
 have hk:(aA false).keep 240=false:=by kernel_rfl
 have hf:R0 240 [.sl 4 [r],.rsl 1000 none 4 lo m] [.ar 4 rows]=some (B false,[.ar 4 rows]):=by
  rw[auh (g:=ovF 4) κ];simp[ovF]
 have hb:lH (aA false) [.sl 4 [r],.rsl 1000 none 4 lo m] (.fn 240 [] [])=false:=by
  grind[lH]
 have hr:bO h 40 [1000] 0=[1000]:=by
  grind[bO,mP,bD]
 have hn:cV (B false)=1:=rfl;unfold bF;rw[av γ];have h1:cr h [0,1] [.sl 4 [r],.rsl 1000 none 4 lo m]=some ([.sl 4 [r],.rsl 1000 none 4 lo m],h,[]):=by
  simp[cr,eM,Av,iJ,aI]
 have h2:bD [] ([AV.sl 4 [r],.rsl 1000 none 4 lo m].flatMap cF)=[1000]:=by
  simp[cF,ip,bD]
 have h3:bh [1000] 1000=1000:=rfl;simp only[eU,hm,aE5,aE8,h1,aEZ,h2,hr,hs];simp[lg,bC,be,bA,hh,aE,bS,eG,lG,h3,eP,hf,fG,hn,bV,hd,dk,bf,nP,CP,vY,ip,kZ,gR,Iw,fw,mat,eS,ie,hk,Je,hm]
theorem Xu{k l0 i:Nat}:gA k (.rsl id none k l0 n) (some (I i)) none none=(nc n (some (I i)) none none).map fun p=>.rsl id none k (l0+p.1) (p.2-p.1):=by
 simp only[gA,if_true,Option.isNone_none]
def alB{c i:Nat}(h:i<=c):mS n c (some (I i))=some i:=by
 simp_all[mS,ap]
def arR{i:Nat}(hn:n=O rows)(hi:i<n)(hb:(n+1)*64<=140737488355328):
  R0 182 [.rsc 1000 4 0 n n,I i,.sl 4 [r]] [.ar 4 rows]=some (.osl 4 (rows.take i++r::rows.drop i),[.ar 4 rows]):=by
 refine ES (fd:=bJ) κ κ κ rfl σ ?_;rw[DM];have e1:((1:Int)=0)=False:=δ
 have e2:=aP ((i:Int)=(n:Int));have e3:aG ((n:Int)+1)=((n+1:Nat):Int):=wi;have e4:=aa ((n:Int)< ((n+1:Nat):Int));have e5:aG (((n+1:Nat):Int)- (i:Int))=((n+1-i:Nat):Int):=wi;have e6:aG ((i:Int)+1)=((i+1:Nat):Int):=wi;have b1:=ET (n:=n) (i:=i) ω;have b2:=alB (n:=n) (c:=n) (i:=i) ω;have b3:=ET (n:=n+1) (i:=i) ω;have b4:=ET (n:=n+1) (i:=i+1) ω;have f1:=aa ((0:Int)< ((n+1-i:Nat):Int));have f2:=aa (n<i+((n+1-i:Nat):Int).toNat);have f3:i+((n+1-i:Nat):Int).toNat=n+1:=ω
 have f4:=aa (i<=O rows);have f5:((n+1)*64<=140737488355328)=True:=eq_true hb;have f6:=aa (n<n+1);obtain⟨A,hA⟩:∃A,rows.take i++aER ((n+1-i:Nat):Int).toNat [AV.emp,B false,AV.emp,I 0]=A:=⟨_,rfl⟩;have a1:O A=n+1:=γ
 have a3:=aa (i<=O A);obtain⟨D,hD⟩:∃D,A.take i++[r]++A.drop (i+1)=D:=⟨_,rfl⟩;have d1:O D=n+1:=by
  grind
 have d2:D.take (i+1)=rows.take i++[r]:=by
  grind
 have d3:=aa (i+1<=O D);have t1:List.take (n+1-i) [r]=[r]:=aFi γ;have t2:(rows.drop i).take (n-i)=rows.drop i:=aFi γ;have t3:=aa (1=min 1 (n+1-i));have t4:n+1- (i+1)=n-i:=ω
 have t5:=aa (i+(n-i)<=O rows);have t6:O (rows.drop i)=n-i:=γ
 have t7:D.drop (i+1+(n-i))=[]:=aFq ω;simp only[bJ,go_sem,aFk,aFs,Int.natCast_one,e1,e2,e3,e4,e5,e6,b1,b2,b3,b4,f1,f2,f3,f4,f5,f6,hA,hD,a3,d3,t1,t2,t3,t4,t5,t6,t7,Nat.min_self,aES,aFA,Nat.sub_self,or_self,aET,Xu,and_self];rw[d2];have hfin:rows.take i++[r]++rows.drop i=rows.take i++r::rows.drop i:=γ
 rw[hfin];exact V7 Z Z γ rfl
def arS{i c:Nat}(hn:n=O rows)(hi:i<n)(hc:n+1<=c)(hb:(n+1)*64<=140737488355328):
  R0 182 [.rsc 1000 4 0 n c,I i,.sl 4 [r]] [.ar 4 rows]=some (.osl 4 (rows.take i++r::rows.drop i),[.dead]):=by
 refine ES (fd:=bJ) κ κ κ rfl σ ?_;rw[DM];have e1:((1:Int)=0)=False:=δ
 have e2:=aP ((i:Int)=(n:Int));have e3:aG ((n:Int)+1)=((n+1:Nat):Int):=wi;have e4:=aP ((c:Int)< ((n+1:Nat):Int));have e6:aG ((i:Int)+1)=((i+1:Nat):Int):=wi;have b1:=ET (n:=n) (i:=i) ω;have b2:=alB (n:=n) (c:=c) (i:=n+1) hc;have b3:=ET (n:=n+1) (i:=i) ω;have b4:=ET (n:=n+1) (i:=i+1) ω;have o1:=fun(h:aj) (h0:h 1000=.ar 4 rows) (h1:h (2000+8*67)=.dead)=>arQ (r:=r) (lo:=i+1) (m:=n-i) h0 h1;have t1:List.take (n+1-i) [r]=[r]:=aFi γ;have t2:(rows.drop i).take (n-i)=rows.drop i:=aFi γ;have t3:=aa (1=min 1 (n+1-i));have t4:n+1- (i+1)=n-i:=ω
 have t5:=aa (i+(n-i)<=O rows);have t6:O (rows.drop i)=n-i:=γ
 have t8:min (n-i) (n+1-i)=n-i:=ω
 have t9:=aa (n-i=min (n+1-i) (n-i));have f4:=aa (i+1<=O rows);have t7:rows.drop (i+1+(n-i))=[]:=aFq ω;obtain⟨A,hA⟩:∃A,rows.take (i+1)++rows.drop i=A:=⟨_,rfl⟩;have a1:O A=n+1:=by
  grind
 have a2:A.take i=rows.take i:=by
  grind
 have a4:A.drop (i+1)=rows.drop i:=by
  grind
 have a3:=aa (i<=O A);simp only[bJ,go_sem,aFk,aFs,Int.natCast_one,e1,e2,e3,e4,e6,b1,b2,b3,b4,t4,aES];rw[o1 _ Z Z];simp only[go_sem,aFk,aFs,Int.natCast_one,e1,e2,e3,e4,e6,b1,b2,b3,b4,t1,t2,t3,t4,t5,t6,t7,t8,t9,f4,a3,hA,aES,aFA,Nat.sub_self,or_self,aET,Xu,and_self];rw[a2,a4,show rows.take i++[r]++rows.drop i=rows.take i++r::rows.drop i by grind];exact V7 Z Z γ rfl
def Ir(h:vals.size=O args){i:Nat}{c:AV}(hc:args[i]?=some c):∃u,vals[i]?=some u:=by
 have:i<O args:=(List.getElem?_eq_some_iff.1 hc).1
 simp_all
def aui{a:Value}(h:vals.size=1)(h0:vals[0]?=some a):vals=#[a]:=by
 grind
def aAx{a b:Value}(h:vals.size=2)(h0:vals[0]?=some a)(h1:vals[1]?=some b):vals=#[a,b]:=by
 grind
def Xv{w:World}{a}{us}{e}(h:w.heap[a.block]?=some (.cells us e (0,0))):w.frozen? a=false:=by
 simp[World.frozen?,h]
theorem arT{P}(w)(tS tR e)(ht:P.underlying tS=some (.slice e))(size)(hz:∀w,(Go.sizeOf e).run P w=.ok size w)(a)(b)(la ca cb):
  (Extern.SlicesOverlaps.overlaps #[tS,tS] #[tR] #[.slice (some a) la ca,.slice b 0 cb]).run P w=.ok (.bool false) w:=by
 change Sem.run P (α:=Value) (do
  let some t:= (#[tS,tS])[0]?|stuck "slices.overlaps: no parameter types"
  let .slice elem←underlying t|stuck "slices.overlaps: slice type expected"
  let size←sizeOf elem
  match (some a),b with
  |some a,some b=>
   if la=0\/0=0\/size=0 then pure (Value.bool false)
   else if a.block !=b.block&& (←frozen a)&& (←frozen b)then unsupported .addressObserved
   else do
    if a.block !=b.block then do
     noView a;noView b
     if←mayBeOne a b then return Value.bool ((←choose (.extern "sameAddr.stringBytes" 2))==1)
    pure (Value.bool (a.block==b.block&&a.off<b.off+0*size&&b.off<a.off+la*size))
  |_,_=>pure (Value.bool false)) w=_
 cases b<;>simp[run_underlying ht,hz]
theorem auj{P:Program}(w:World)(tS tR e:TypeId)(ht:P.underlying tS=some (.slice e))(size:Nat)(hz:∀w,(Go.sizeOf e).run P w=.ok size w)
  (a b:Addr) (la ca lb cb:Nat) (hne:a.block≠b.block) (tA:TypeId) (kA:Nat) {tB:TypeId}
  (hkA:kA≠0) (hsa:w.shape? a.block=some (tA,kA)) (hb:w.heap[b.block]?=some (.cells us tB (0,0))) (hu:us.size≠0):
  (Extern.SlicesOverlaps.overlaps #[tS,tS] #[tR] #[.slice (some a) la ca,.slice (some b) lb cb]).run P w=.ok (.bool false) w:=by
 have hnb:(a.block !=b.block)=true:=γ
 have hnb':(a.block==b.block)=false:=γ
 have hsb:w.shape? b.block=some (tB,us.size):=by simp[World.shape?,hb]
 have hfb:w.frozen? b=false:=Xv hb;have hfe:w.frozen? {block:=b.block,off:=us.size}=false:=Xv (a:=⟨b.block,us.size,none⟩) hb;change Sem.run P (α:=Value) (do
  let some t:= (#[tS,tS]:Array TypeId)[0]?|stuck "slices.overlaps: no parameter types"
  let .slice elem←underlying t|stuck "slices.overlaps: slice type expected"
  let size←sizeOf elem
  match (some a:Option Addr),(some b:Option Addr)with
  |some a,some b=>
   if la=0\/lb=0\/size=0 then pure (Value.bool false)
   else if a.block !=b.block&& (←frozen a)&& (←frozen b)then unsupported .addressObserved
   else do
    if a.block !=b.block then do
     noView a;noView b
     if←mayBeOne a b then return Value.bool ((←choose (.extern "sameAddr.stringBytes" 2))==1)
    pure (Value.bool (a.block==b.block&&a.off<b.off+lb*size&&b.off<a.off+la*size))
  |_,_=>pure (Value.bool false)) w=_
 by_cases h0:la=0\/lb=0\/size=0
 ·simp_all[run_underlying]
 ·obtain⟨kA,rfl⟩:∃k,kA=k+1:=⟨kA-1,by omega⟩;cases hfa:w.frozen? a<;>cases hfa2:w.frozen? {block:=a.block,off:=kA+1}<;>
   simp[run_underlying ht,hz,h0,hnb,hnb',frozen,noView,viewAt,mayBeOne,stringish,shape,Sem.run,hsa,hsb,hfa,hfa2,hfb,hfe]
def aie{w:World}{a:Addr}{v:Value}(h:w.cell? a=some v):∃t k,k≠0/\w.shape? a.block=some (t,k):=by
 unfold World.cell? at h;split at h
 ·rename_i cs t fr hb;refine⟨t,cs.size,fun h0=>?_,by unfold World.shape?;grind⟩;grind
 grind
def auk{P:Program}{I:Inv}{fn:Func}{tS tR e:TypeId}{size:Nat}(hf:P.funcs[f]?=some fn)(hname: (fn.name== "runtime.NumGoroutine")=false)(hb:fn.body.isNone=true)(hn:Extern.findNext fn=none)
  (he:Extern.find fn=some (Extern.SlicesOverlaps.overlaps #[tS,tS] #[tR])) (ht:P.underlying tS=some (.slice e)) (hz:∀w,(Go.sizeOf e).run P w=.ok size w):rK P I false f (ovF 4):=by
 intro args obs obs' res w X ρ vals n hz' hn' hi hr hs hv;unfold ovF at hz';split at hz'
 ·rename_i k0 row rows k1 lo m k2 rows2;split at hz'
  ·rename_i hk;obtain⟨rfl,rfl,rfl⟩:=hk;cases hz';obtain⟨u0,h0⟩:=Ir hs (i:=0) rfl;obtain⟨u1,h1⟩:=Ir hs (i:=1) rfl;have e0:=hv 0 _ _ rfl h0;have e1:=hv 1 _ _ rfl h1;obtain rfl:=aAx hs h0 h1;have d0:=e0.sl_inv;obtain⟨a1,cap1,rfl,hp,hn1,hb1,ha1⟩:=e1.rsl_inv;have ho:RO w (aN w X (az [.ar 4 rows2]) ρ) ρ (az [.ar 4 rows2]) 1000 (.ar 4 rows2):=hr.ob 1000;obtain⟨us,tB,g1,g2,g3,g4⟩:=ho;have hlive:live (az [.ar 4 rows2]) 1000 none:=trivial;cases d0 with
   |sl _ _ a cap ad vs hc ha hk hv2 hl hr2=>
    obtain⟨rfl,hA,hsp⟩:=ha σ;have hlen:=hk row σ;obtain⟨c,hrow⟩:∃c,row[0]?=some c:=⟨row[0]'(by omega),by simp⟩;have hcell:=hv2 0 row 0 c rfl hrow;obtain⟨tA,kA,hkA,hsh⟩:=aie hcell;have run:(callFunc f #[.slice (some ad) (O (row::rows)) cap,.slice a1 m cap1]).run P w=.ok (.value (.bool false)) w:=by
     rw[run_callFunc_extern hf hname hb hn he];by_cases hm:m=0
     ·simp_all[arT]
     ·rcases ha1 with h|rfl
      ·omega
      ·rw[auj w tS tR e ht size hz ad ⟨(ρ 1000 none).1,lo*4,none⟩ _ cap m cap1 (fun hh=>hA.2.2 ⟨1000,none,hlive,hh.symm⟩) tA kA hkA hsh g1 ω];rfl
    unfold Enters;rw[run];exact⟨ρ,hr,.refl _ _ _ _,.dat (.v _ rfl)⟩
  grind
 grind
theorem arU{P:Program}{I:Inv}(hR:rK P I false 182 (R0 182)):rK P I false 182 (Z0 4 64):=by
 intro args obs obs' res w X ρ vals n hz hn hi hr hs hv;unfold Z0 at hz;split at hz
 ·rename_i k0 r;split at hz
  ·rename_i hk;subst hk;cases hz;exact hR arP hn hi hr hs hv
  grind
 ·rename_i k1 m i k0 r k2 rows;split at hz
  ·rename_i hk;obtain⟨rfl,rfl,rfl,rfl,hi0,hi1,hb⟩:=hk;cases hz;obtain⟨i,rfl⟩:=aFy hi0;rw[aEY];by_cases hend:i=O rows
   ·subst hend;have:=hR (alA (r:=r) rfl hb) hn hi hr hs hv;grind
   ·have hlt:i<O rows:=ω
    obtain⟨u0,h0⟩:=Ir hs (i:=0) rfl;obtain⟨a,cap,rfl,hp,hn1,hb1,ha⟩:=(hv 0 _ _ rfl h0).rsl_inv;have hv':∀ (j:Nat) (c:AV) (u:Value),[AV.rsc 1000 4 0 (O rows) cap,.v (.int .i64 i),.sl 4 [r]][j]?=some c->vals[j]?=some u->RV w (aN w X (az [.ar 4 rows]) ρ) ρ (az [.ar 4 rows]) c u:=by
     intro j c u hc hu
     match j,hc with
     |0,hc=>
      cases hc;rw[h0]at hu;cases hu;exact .rsc 1000 4 0 _ cap a hp hn1 hb1 ha
     |j+1,hc=>grind
    rcases Nat.lt_or_ge (O rows) cap with hc|hc
    ·exact hR (arS rfl hlt hc hb) hn hi hr hs hv'
    ·obtain rfl:cap=O rows:=ω
     refine(hR (arR rfl hlt hb) hn hi hr hs hv').mono fun v w' ⟨ρ',q1,q2,q3⟩=>?_;generalize rows.take i++r::rows.drop i=L at q1 q2 q3⊢;have hd:=Sk q1 (id:=1000) (k:=4) (rows:=rows) (by
      show(if 1000=n then _ else _)=_;rw[av ω];rfl)
     have eq:upd (mat n (az [.ar 4 rows]) (.osl 4 L)).2 1000 .dead=(mat n (az [.dead]) (.osl 4 L)).2:=by
      show upd (upd (az [.ar 4 rows]) n (.ar 4 L)) 1000 .dead=upd (az [.dead]) n (.ar 4 L);rw[DM,DM];unfold upd;grind
     rw[eq]at hd;refine⟨ρ',hd.1,q2.trans (hd.2.far rfl),hd.2.rvk q3 (.inr ?_)⟩;show lF [(1000,false)] n none=false;grind[lF]
  grind
 grind
def CM{w w':World}{X:Nat->Prop}{ρ:fL}(hr:Rel w X ρ (az []))(hb:Below w.heap.size w w'):Rel w' X ρ (az [])/\Far false w ρ (az []) w' ρ (az []):=by
 have hl:∀id sub,¬live (az []) id sub:=fun id sub=>by
  have hd:az [] id=.dead:=by
   grind[az]
  cases sub with
  |none=>grind[live]
  |some p=>grind[live]
 refine⟨⟨fun id sub _ _ h=>(hl id sub h).elim,fun id sub h=>(hl id sub h).elim,fun id=>?_,fun b hb'=>aFQ (hr.xl b hb') hb.size⟩,hb.os,hb.tape,hb.output,hb.size,fun b h1 _=>hb.block b h1,fun b ⟨id,sub,h,_⟩=>(hl id sub h).elim,fun id _ h=>?_,fun h=>by grind⟩
 ·have hd:az [] id=.dead:=by
   grind[az]
  rw[hd];trivial
 grind
theorem aul{P:Program}{I:Inv}{ρ0:Ren}(L:Lays2.n15 P ρ0)(hf:ρ0.f 15=134)(he:∀a w,(callFunc 134 a).run P w=.ok (.enter 134 a) w)
  (hR:rK P I false 134 (R0 134)):rK P I false 134 clF:=by
 intro args obs obs' res w X ρ vals n hz hn hi hr hs hv;unfold clF at hz;split at hz
 ·obtain⟨u0,h0⟩:=Ir hs (i:=0) rfl;have d0:=(hv 0 _ _ rfl h0).sl_inv;obtain rfl:=aui hs h0;cases d0 with
  |sl _ _ a cap ad vs hc ha hk hv2 hl hr2=>
   unfold Enters;rw[he];have fin:∀ (w':World) (b:Option Addr) (c:Nat),Below w.heap.size w w'->∃ρ',Rel w' X ρ' (mat n (az []) (.sl 1 [])).2/\Far false w ρ (az []) w' ρ' (mat n (az []) (.sl 1 [])).2/\
     RV w' (aN w' X (mat n (az []) (.sl 1 [])).2 ρ') ρ' (mat n (az []) (.sl 1 [])).2 (mat n (az []) (.sl 1 [])).1 (.slice b 0 c):=fun w' b c hb=>
    ⟨ρ,(CM hr hb).1,(CM hr hb).2,.dat (.sl 1 [] b c ad vs (aE9 _) (fun h=>absurd rfl h) (fun _ h=>by grind) (fun i row j c h=>by grind) (fun _ h=>by grind) (fun i row j c h=>by grind))⟩
   cases a with
   |none=>
    have key:=Any.slices_Clone_int_nil L 0 cap w;rw[hf]at key;refine Calls.mono key fun e w' hw=>?_
    simp_all[Below.refl]
   |some a0=>
    have key:=Any.slices_Clone_int_zero L a0 cap w;rw[hf]at key;refine Calls.mono key fun e w' hw=>?_;obtain⟨v',rfl,⟨_,hown⟩,_,hb⟩:=hw;rcases hown with⟨rfl,_⟩| ⟨g,c2,Mh,rfl,_⟩
    all_goals simp_all
 ·split at hz
  ·rename_i hb;cases hz;exact hR (aot hb) hn hi hr hs hv
  grind
 grind
theorem afJ{P:Program}{I:Inv}{f:FuncId}{g:List AV->List Ob->Option (AV×List Ob)}{k:Nat}{E:AV}{q:Nat->Prop}(he:∀a w,(callFunc f a).run P w=.ok (.enter f a) w)
  (hW:∀a c w,Calls P f #[.slice a 0 c] w fun e w'=>(∃b d,e=.returned (.slice b 0 d)/\q d)/\Below w.heap.size w w') (hE:E=.sl k []\/E=.emp/\∀d,q d->d=0)
  (hm:∀args obs r,g args obs=some r->(args=[.sl k []]/\obs=[]/\r=(E,[]))\/R0 f args obs=some r) (hR:rK P I false f (R0 f)):rK P I false f g:=by
 intro args obs obs' res w X ρ vals n hz hn hi hr hs hv;rcases hm _ _ _ hz with⟨rfl,rfl,h⟩|h
 ·cases h;obtain⟨u0,h0⟩:=Ir hs (i:=0) rfl;have d0:=(hv 0 _ _ rfl h0).sl_inv;obtain rfl:=aui hs h0;cases d0 with
  |sl _ _ a cap ad vs hc ha hk hv2 hl hr2=>
   unfold Enters;rw[he];refine Calls.mono (hW a cap w) fun e w' hw=>?_;obtain⟨⟨b,c,rfl,hq⟩,hb⟩:=hw;rcases hE with rfl| ⟨rfl,h0⟩
   ·exact⟨ρ,(CM hr hb).1,(CM hr hb).2,.dat (.sl k [] b c ad vs (aE9 _) (fun h=>absurd rfl h) (fun _ h=>by cases h) (fun i row j c h=>by simp at h) (fun _ h=>by cases h) (fun i row j c h=>by simp at h))⟩
   ·obtain rfl:=h0 _ hq;exact⟨ρ,(CM hr hb).1,(CM hr hb).2,.dat (.emp b)⟩
 ·exact hR h hn hi hr hs hv
def alC{rs:List (List AV)}(h:(O rs+1)*4<=140737488355328):R0 189 [.sl 1 (r::rs)] []=some (.sl 1 (r::rs),[]):=by
 refine ES (fd:=iF) κ κ κ rfl δ ?_;have e1:((O rs+1)*4<=140737488355328)=True:=eq_true h;have e2:Gy false (.sl 1 (r::rs))=some (B false):=rfl;simp only[iF,go_sem,e1,e2,aFk,aFs,aES,aE9,aET,true_and,true_or,aE5]
def aww(args:List AV)(obs:List Ob)(r:AV×List Ob)(h:clU args obs=some r):(args=[.sl 1 []]/\obs=[]/\r=(.sl 1 [],[]))\/R0 189 args obs=some r:=by
 unfold clU at h;split at h
 ·cases h;exact .inl ⟨rfl,rfl,rfl⟩
 ·split at h
  ·rename_i hb;cases h;exact .inr (alC hb)
  ·cases h
 ·cases h
def aov(a:Option Addr)(c:Nat)(w:World):Calls Tryz.prog 189 #[.slice a 0 c] w fun e w'=>(∃b d,e=.returned (.slice b 0 d)/\d=0)/\Below w.heap.size w w':=by
 have q:∀ (w:World) (a:Option Addr) (n c n' c':Nat),(binOp .eql 28 (.slice a n c) (.slice none n' c')).run Tryz.prog w=.ok (.bool a.isNone) w:=fun w a n c n' c'=>Lib.run_eql_slice_nil w _ _ a n c n' c' Tryz.underlying28;cases a with
 |none=>
  go_enter Tryz.func189,Tryz.ntmps189
  go_wp2
  go_ret
  exact⟨⟨_,_,rfl,rfl⟩,Below.refl _ _⟩
 |some a=>
  go_enter Tryz.func189,Tryz.ntmps189
  go_wp2
  go_ret
  exact⟨⟨_,_,rfl,rfl⟩,(Below.refl _ w).alloc (aET _) _⟩
def apl:Ren:=⟨fun|28=>263|n=>n,fun|25=>109|27=>108|53=>233|n=>n,fun n=>n⟩
def alE:Lays7.n28 Tryz.prog apl where
 mixed:=by kernel_rfl
 f28:=by kernel_rfl
 t0:=by kernel_rfl
 a0:=Tryz.isAgg0
 z0:=Tryz.sizeOf0
 v0:=Tryz.zeroValue0
 i0:=by kernel_rfl
 t3:=by kernel_rfl
 a3:=Tryz.isAgg3
 z3:=Tryz.sizeOf3
 v3:=Tryz.zeroValue3
 i3:=by kernel_rfl
 t4:=by kernel_rfl
 a4:=Tryz.isAgg4
 z4:=Tryz.sizeOf4
 v4:=Tryz.zeroValue4
 i4:=by kernel_rfl
 t5:=by kernel_rfl
 a5:=Tryz.isAgg5
 z5:=Tryz.sizeOf5
 v5:=Tryz.zeroValue5
 i5:=by kernel_rfl
 t25:=by kernel_rfl
 a25:=Tryz.isAgg109
 z25:=Tryz.sizeOf109
 v25:=Tryz.zeroValue109
 i25:=by kernel_rfl
 t27:=by kernel_rfl
 a27:=Tryz.isAgg108
 z27:=Tryz.sizeOf108
 v27:=Tryz.zeroValue108
 i27:=by kernel_rfl
 t53:=by kernel_rfl
 a53:=Tryz.isAgg233
 z53:=Tryz.sizeOf233
 v53:=Tryz.zeroValue233
 i53:=by kernel_rfl
 g0:=by kernel_rfl
def JA:Inv where
 p w _:=TabAt 0 Lib.deBruijn32tab w
 stab:=fun{w w' X} h hs j hj=>by rw[sH (hs 0 (.inr rfl))];exact h j hj
 more:=fun h _=>h
theorem afK:∀ (k x:Nat),Lib.ctzFrom k x=WE k x
 |0,x=>rfl
 |k+1,x=>by
  unfold Lib.ctzFrom WE;rw[afK k (x/2),Nat.add_comm]
set_option maxRecDepth 100000 in
theorem apm:rK Tryz.prog JA false 263 tzF:=by
 intro args obs obs' res w X ρ vals n hz hn hi hr hs hv;unfold tzF at hz;split at hz
 ·rename_i x;by_cases hc:0<x/\x<4294967296/\obs=[]
  ·rw[if_pos hc]at hz;obtain⟨h0,h1,rfl⟩:=hc;simp only[Option.some.injEq,Prod.mk.injEq]at hz;obtain⟨rfl,rfl⟩:=hz;have hv0:=hv 0 (.v (.int .u32 x)) (vals.getD 0 undef) rfl (by simp at hs;simp[Array.getD_eq_getD_getElem?,hs]);have e0:vals=#[.int .u32 x]:=by
    simp only[aFk,aFs]at hs;have:=hv0.v_inv.1;apply Array.ext
    ·simpa using hs
    ·intro i h2 h3;have:i=0:=by simp at h3;exact h3
     subst this;simpa [Array.getD_eq_getD_getElem?,hs]using this
   subst e0;obtain⟨m,rfl⟩:∃m:Nat,x=m:=⟨x.toNat,by omega⟩;have key:=Any7.bits_TrailingZeros32 alE m ω w fun _=>hi;have he:(callFunc 263 #[.int .u32 (m:Int)]).run Tryz.prog w=.ok (.enter 263 #[.int .u32 (m:Int)]) w:=(enters_of (alE.f28) κ rfl:Proofs.Enters Tryz.prog (apl.f 28)) _ _;unfold Enters;rw[he];refine Calls.mono key fun e w' hw=>?_;obtain⟨rfl,rfl⟩:=hw;refine⟨ρ,hr,.refl _ _ _ _,?_⟩;refine .dat ?_;have:Lib.ctz 32 m=WE 32 m:=by
    unfold Lib.ctz;rw[if_neg ω,afK]
   simp only[this,aEY,mat,eS];exact .v _ rfl
  ·rw[if_neg hc]at hz;cases hz
 ·cases hz
section
variable {H:Type} {enc:TypeId × Value→H} {w:World}
def Mm(w:World)(b:Nat):Prop:=b<w.heap.size
def Gh(w:World):Prop:=∀o v,w.cell? ⟨0,o,none⟩=some v->∃n,v=.int .u8 n
def EU(u:Value):Prop:=u=u
def aum(_:Gh w){a:Addr}{u:Value}(h:w.cell? a=some u)(_:EU u):Mm w a.block/\a.spot=none:=by
 have h1:a.spot=none:=by
  unfold World.cell? at h;split at h
  ·split at h
   ·cases h
   ·rename_i hs;simpa using hs
  ·cases h
 refine⟨?_,h1⟩;unfold World.cell? at h;split at h
 ·rename_i hb;exact(Array.getElem?_eq_some_iff.1 hb).1
 ·cases h
def lD(w:World)(fs:List AV)(cs:List Value):Prop:=
 O fs=O cs/\∀ (j:Nat) (c:AV) (u:Value),fs[j]?=some c->cs[j]?=some u->RD w (Mm w) c u/\aI c=true/\u.oneCell'=true
def lD.app{fa fb:List AV}{ca cb:List Value}(ha:lD w fa ca)(hb:lD w fb cb):lD w (fa++fb) (ca++cb):=by
 refine⟨by simp[ha.1,hb.1],fun j c u h1 h2=>?_⟩;by_cases hj:j<O fa
 ·rw[List.getElem?_append_left hj]at h1;rw[List.getElem?_append_left (by rw[←ha.1];exact hj)]at h2;exact ha.2 j c u h1 h2
 ·rw[List.getElem?_append_right ω]at h1;rw[List.getElem?_append_right (by rw[←ha.1];omega),←ha.1]at h2;exact hb.2 _ c u h1 h2
theorem lD.one{c:AV}{u:Value}(h:RD w (Mm w) c u)(hd:aI c=true)(h1:u.oneCell'=true):lD w [c] [u]:=by
 refine⟨rfl,fun j c' u' hc hu=>?_⟩;cases j with
 |zero=>simp at hc hu;subst hc hu;exact⟨h,hd,h1⟩
 |succ j=>simp at hc
noncomputable abbrev Tr (w:World) (enc:TypeId×Value->H) (n:Nat) (t:TypeId) (cs:List Value):Option (DataW H×List MemPlace):=DataW.trod enc Tryz.prog w 0 (fun _=>true) true n t cs
def tH(t:TypeId)(d:DataW H):Prop:=∀m∈DataW.weights Tryz.prog t d,m<=reachBytes
def aun{e:TypeId}:∀ {l:List (DataW H)} {d:DataW H} {m:Nat},d∈l->m∈DataW.weights Tryz.prog e d->m∈DataW.weightsAll Tryz.prog e l
 |[],d,m,h,_=>by simp at h
 |a::l,d,m,h,hm=>by
  simp only[DataW.weightsAll,List.mem_append];rcases List.mem_cons.1 h with rfl|h
  ·exact .inl hm
  ·exact .inr (aun h hm)
def afL{α:Type}{p:Nat->α->Prop}:∀ (n:Nat),(∀i,i<n->∃r,p i r)->∃l:List α,O l=n/\∀ (i:Nat) (r:α),l[i]?=some r->p i r
 |0,_=>⟨[],rfl,fun i r h=>by simp at h⟩
 |n+1,h=>by
  obtain⟨l,h1,h2⟩:=afL n fun i hi=>h i ω;obtain⟨r,hr⟩:=h n ω;refine⟨l++[r],by simp[h1],fun i r' hi=>?_⟩;by_cases hin:i<n
  ·rw[List.getElem?_append_left ω]at hi;exact h2 i r' hi
  ·rw[List.getElem?_append_right ω]at hi;have:i=n:=by
    have:=(List.getElem?_eq_some_iff.1 hi).1;simp at this;omega
   subst this;simp[h1]at hi;subst hi;exact hr
def G8{α:Type}{t e:TypeId}{k bs:Nat}(ht:Tryz.prog.underlying t=some (.slice e))(hk:Tryz.prog.cellsOf e=k)(h0:0<k)(hbs:Tryz.prog.bytesOf e=bs)(F:α->List AV)(Q:α->Prop)(hT:Gh w)
  (hrow:∀n cs' x,Tr w enc n e cs'=some x->tH e x.1->∃r,Q r/\lD w (F r) cs'/\∃u,cs'[0]?=some u/\EU u) {fuel:Nat} {cs:List Value} {x:DataW H×List MemPlace}
  (h:Tr w enc fuel t cs=some x) (hw:tH t x.1):∃ (l:List α) (v:Value),cs=[v]/\(∀r∈l,Q r)/\O l*bs<=reachBytes/\RD w (Mm w) (.sl k (l.map F)) v/\v.oneCell'=true/\EU v:=by
 rcases open_slice ht h with⟨rfl,_⟩| ⟨a,len,cap,m,n,D,Pl,rfl,hb,hl,hm,hmm,rfl,hx⟩
 ·exact⟨[],_,rfl,fun r hr=>by simp at hr,by simp,.sl k [] none 0 ⟨0,0,none⟩ (fun _ _=>undef) σ (fun h=>absurd rfl h) (fun r hr=>by simp at hr) (fun i r j c hr=>by simp at hr) (fun r hr=>by simp at hr) (fun i r j c hr=>by simp at hr),rfl,rfl⟩
 ·have hlm:len<=m:=by rw[hmm];split<;>omega
  have hwe:∀i,i<len->tH e (D i):=fun i hi q hq=>by
   refine hw q ?_;simp only[DataW.weights,ht,List.mem_cons,List.mem_append];exact .inr (.inl (aun (List.mem_map.2 ⟨i,List.mem_range.2 hi,rfl⟩) hq))
  have hbn:len*bs<=reachBytes:=by
   have:=hw ((O ((List.range len).map D)+O ((List.range (m-len)).map fun j=>D (len+j)))*Tryz.prog.bytesOf e) (by simp[DataW.weights,ht]);simp only[aFh,List.length_range,hbs]at this;exact aEX (aE4 _ ω) this
  obtain⟨l,l1,l2⟩:=afL (p:=fun i r=>Q r/\∃cs',w.cells? 0 (a.add (i*k)) k=some cs'/\lD w (F r) cs'/\∃u,cs'[0]?=some u/\EU u) len fun i hi=>by
   obtain⟨cs',h1,h2⟩:=hx i ω;obtain⟨r,g1,g2,g3⟩:=hrow _ _ _ h2 (hwe i hi);rw[hk]at h1;exact⟨r,g1,cs',h1,g2,g3⟩
  have cell:∀ (i:Nat) (row:List AV) (j:Nat) (c:AV),(l.map F)[i]?=some row->row[j]?=some c->∃u,w.cell? (a.add (i*k+j))=some u/\RD w (Mm w) c u/\aI c=true:=fun i row j c hi hj=>by
   simp only[aFw,aEU]at hi;obtain⟨r,hr,rfl⟩:=hi;obtain⟨_,cs',c1,c2,_⟩:=l2 i r hr;obtain⟨_,c3,c4⟩:=World.cells?_some c1;have hjk:j<k:=by
    have:=(List.getElem?_eq_some_iff.1 hj).1;rw[c2.1,c3]at this;exact this
   have:=c4 j hjk;rw[Hd]at this;obtain⟨u,hu⟩:∃u,cs'[j]?=some u:=⟨cs'[j]'(by omega),by simp⟩;exact⟨u,by rw[this,hu],(c2.2 j c u hj hu).1,(c2.2 j c u hj hu).2.1⟩
  refine⟨l,_,rfl,fun r hr=>?_,by rw[l1];exact hbn,?_,rfl,rfl⟩
  ·obtain⟨i,hi⟩:=aFL hr;exact(l2 i r hi).1
  ·have:=RD.sl (w:=w) (A:=Mm w) k (l.map F) (some a) cap a (fun i j=>(w.cell? (a.add (i*k+j))).getD undef) (by simp[l1,hl]) (fun hne=>?_) (fun row hr=>?_) (fun i row j c hi hj=>?_) (fun row hr c hc=>?_) (fun i row j c hi hj=>?_)
   ·simpa [l1]using this
   ·have hlen:0<O l:=List.length_pos_iff.2 fun e=>hne (by simp[e]);obtain⟨_,cs',c1,c2,u,c3,c4⟩:=l2 0 l[0] σ;have:=(World.cells?_some c1).2.2 0 h0;rw[c3,Nat.zero_mul,IA,IA]at this;obtain⟨q1,q2⟩:=aum hT this c4;exact⟨rfl,q1,q2⟩
   ·simp only[aFN]at hr;obtain⟨r,hr,rfl⟩:=hr;obtain⟨i,hi⟩:=aFL hr;obtain⟨_,cs',c1,c2,_⟩:=l2 i r hi;rw[c2.1];exact(World.cells?_some c1).2.1
   ·obtain⟨u,q1,_⟩:=cell i row j c hi hj;rw[q1];rfl
   ·obtain⟨i,hi⟩:=aFL hr;obtain⟨j,hj⟩:=aFL hc;obtain⟨u,_,_,q⟩:=cell i row j c hi hj;exact q
   ·obtain⟨u,q1,q2,_⟩:=cell i row j c hi hj;rw[q1];exact q2
def arV{cs:List Value}{x:DataW H×List MemPlace}(h:Tr w enc n 108 cs=some x)(_:tH 108 x.1):∃r:Nat,r<4294967296/\lD w [U (r:Int)] cs/\∃u,cs[0]?=some u/\EU u:=by
 obtain⟨z,rfl,rfl,hw⟩:=DataW.trod_int Tryz.underlying108 h;simp only[Lit.wf,aEV,decide_eq_true_eq]at hw;have h1:(0:Int)<=z:=hw.1;have h2:z<=4294967295:=hw.2;obtain⟨m,rfl⟩:∃m:Nat,z=m:=⟨z.toNat,by omega⟩;exact⟨m,by omega,.one (.v _ rfl) Z Z,_,rfl,rfl⟩
def arW{cs:List Value}{x:DataW H×List MemPlace}(h:Tr w enc n 3 cs=some x)(_:tH 3 x.1):∃r:Int,True/\lD w [I r] cs/\∃u,cs[0]?=some u/\EU u:=by
 obtain⟨z,rfl,rfl,hw⟩:=DataW.trod_int Tryz.underlying3 h;exact⟨z,trivial,.one (.v _ rfl) Z Z,_,rfl,rfl⟩
def alF(hT:Gh w){cs:List Value}{x:DataW H×List MemPlace}(h:Tr w enc n 28 cs=some x)(hw:tH 28 x.1):∃m:List Nat,(Lb m/\O m<4611686018427387904)/\lD w [lm m] cs/\∃u,cs[0]?=some u/\EU u:=by
 obtain⟨l,v,rfl,h1,h2,h3,h4,h5⟩:=G8 (k:=1) (bs:=4) Tryz.underlying28 κ δ κ (fun(r:Nat)=>[U (r:Int)]) (fun r=>r<4294967296) hT (fun n cs' x=>arV) h hw;refine⟨l,⟨h1,?_⟩,.one h3 rfl h4,_,rfl,h5⟩;unfold reachBytes at h2;omega
def acn(hT:Gh w){cs:List Value}{x:DataW H×List MemPlace}(h:Tr w enc n 44 cs=some x)(hw:tH 44 x.1):∃m:List Int,True/\lD w [.sl 1 (aY m)] cs/\∃u,cs[0]?=some u/\EU u:=by
 obtain⟨l,v,rfl,h1,h2,h3,h4,h5⟩:=G8 (k:=1) (bs:=8) Tryz.underlying44 κ δ κ (fun(r:Int)=>[I r]) (fun r=>True) hT (fun n cs' x=>arW) h hw;exact⟨l,trivial,.one h3 rfl h4,_,rfl,h5⟩
def aco(hT:Gh w){cs:List Value}{x:DataW H×List MemPlace}(h:Tr w enc n 30 cs=some x)(hw:tH 30 x.1):∃d:Rd,Ok0 d/\lD w (ak d) cs/\∃u,cs[0]?=some u/\EU u:=by
 obtain⟨y0,y1,y2,m,rfl,hl,h0,h1,h2⟩:=trod_struct3 Tryz.underlying30 h;have hl3:O cs=3:=hl.trans κ
 match cs,hl3 with
 |[a,b,c],_=>
  have k0:Tr w enc m 4 [a]=some y0:=h0;have k1:Tr w enc m 28 [b]=some y1:=h1;have k2:Tr w enc m 3 [c]=some y2:=h2;have w1:tH 28 y1.1:=fun q hq=>hw q (by simp[DataW.weights,DataW.weightsEach,Tryz.underlying30];exact .inr (.inl hq));obtain⟨bb,e0,e1⟩:=DataW.trod_bool Tryz.underlying4 k0;simp only[List.cons.injEq,and_true]at e0;subst e0;obtain⟨l,⟨q1,q2⟩,q3,_⟩:=alF hT k1 w1;obtain⟨z,e2,e3,_⟩:=DataW.trod_int Tryz.underlying3 k2;simp only[List.cons.injEq,and_true]at e2;subst e2;exact⟨⟨bb,l,z⟩,⟨q1,q2⟩,(lD.one (.v _ rfl) Z Z).app (q3.app (.one (.v _ rfl) Z Z)),_,rfl,rfl⟩
def aox(hT:Gh w){cs:List Value}{x:DataW H×List MemPlace}(h:Tr w enc n 72 cs=some x)(hw:tH 72 x.1):∃d:Rt,Ok0 d.c/\lD w (dE d) cs/\∃u,cs[0]?=some u/\EU u:=by
 obtain⟨y0,y1,m,rfl,hl,h0,h1⟩:=trod_struct2 Tryz.underlying72 h;have hl3:O cs=4:=hl.trans κ
 match cs,hl3 with
 |[a,b,c,d],_=>
  have k0:Tr w enc m 44 [a]=some y0:=h0;have k1:Tr w enc m 30 [b,c,d]=some y1:=h1;have w0:tH 44 y0.1:=fun q hq=>hw q (by simp[DataW.weights,DataW.weightsEach,Tryz.underlying72];exact .inl hq);have w1:tH 30 y1.1:=fun q hq=>hw q (by simp[DataW.weights,DataW.weightsEach,Tryz.underlying72];exact .inr hq);obtain⟨l,_,q3,q4⟩:=acn hT k0 w0;obtain⟨d,d1,d2,_⟩:=aco hT k1 w1;exact⟨⟨l,d⟩,d1,q3.app d2,q4⟩
def alG(hT:Gh w){cs:List Value}{x:DataW H×List MemPlace}(h:Tr w enc n 32 cs=some x)(hw:tH 32 x.1):∃d:Ri,OkI d/\lD w (ah d) cs/\∃u,cs[0]?=some u/\EU u:=by
 obtain⟨y0,y1,y2,m,rfl,hl,h0,h1,h2⟩:=trod_struct3 Tryz.underlying32 h;have hl3:O cs=7:=hl.trans κ
 match cs,hl3 with
 |[a,b,c,d,e,f,g],_=>
  have k0:Tr w enc m 30 [a,b,c]=some y0:=h0;have k1:Tr w enc m 30 [d,e,f]=some y1:=h1;have k2:Tr w enc m 4 [g]=some y2:=h2;have w0:tH 30 y0.1:=fun q hq=>hw q (by simp[DataW.weights,DataW.weightsEach,Tryz.underlying32];exact .inl hq);have w1:tH 30 y1.1:=fun q hq=>hw q (by simp[DataW.weights,DataW.weightsEach,Tryz.underlying32];exact .inr (.inl hq));obtain⟨d0,p1,p2,p3⟩:=aco hT k0 w0;obtain⟨d1,q1,q2,_⟩:=aco hT k1 w1;obtain⟨bb,e0,e1⟩:=DataW.trod_bool Tryz.underlying4 k2;simp only[List.cons.injEq,and_true]at e0;subst e0;exact⟨⟨d0,d1,bb⟩,⟨p1,q1⟩,p2.app (q2.app (.one (.v _ rfl) Z Z)),p3⟩
def afM{fs:List AV}(rc:lD w fs us.toList):RD w (Mm w) (.agg fs) (.agg us):=by
 refine .agg _ _ (by have:=rc.1;simpa using this.symm) (fun i u hu=>?_) fun i c u hc hu=>(rc.2 i c u hc (by simpa using hu)).1;have hu':us.toList[i]?=some u:=by simpa using hu
 obtain⟨c,hc⟩:∃c,fs[i]?=some c:=⟨_,aE1 (by rw[rc.1];exact(List.getElem?_eq_some_iff.1 hu').1)⟩;exact(rc.2 i c u hc hu').2.2
def alH(hT:Gh w){x:DataW H×List MemPlace}(h:Tr w enc n 24 us.toList=some x)(hw:tH 24 x.1):∃s:Rs,OkS s/\RD w (Mm w) (ej s) (.agg us):=by
 obtain⟨y0,y1,y2,m,rfl,hl,h0,h1,h2⟩:=trod_struct3 Tryz.underlying24 h;have hl3:O us.toList=3:=hl.trans κ;obtain⟨cs⟩:=us;simp only at hl3 h0 h1 h2
 match cs,hl3 with
 |[a,b,c],_=>
  have k0:Tr w enc m 22 [a]=some y0:=h0;have k1:Tr w enc m 3 [b]=some y1:=h1;have k2:Tr w enc m 3 [c]=some y2:=h2;have w0:tH 22 y0.1:=fun q hq=>hw q (by simp[DataW.weights,DataW.weightsEach,Tryz.underlying24];exact .inl hq);obtain⟨z1,e2,e3,_⟩:=DataW.trod_int Tryz.underlying3 k1;obtain⟨z2,e4,e5,_⟩:=DataW.trod_int Tryz.underlying3 k2;simp only[List.cons.injEq,and_true]at e2 e4;subst e2 e4;obtain⟨l,v,e4,q1,q2,q3,q4,q5⟩:=G8 (k:=7) (bs:=88) Tryz.underlying22 κ δ κ ah OkI hT (fun n cs' x=>alG hT) k0 w0;simp only[List.cons.injEq,and_true]at e4;subst e4;exact⟨⟨l,z1,z2⟩,⟨q1,by show O l<_;unfold reachBytes at q2;omega⟩,afM ((lD.one q3 rfl q4).app ((lD.one (.v _ rfl) Z Z).app (.one (.v _ rfl) Z Z)))⟩
def aHS(hT:Gh w){x:DataW H×List MemPlace}(h:Tr w enc n 34 us.toList=some x)(hw:tH 34 x.1):∃s:Rm,OkM s/\RD w (Mm w) (bB s) (.agg us):=by
 obtain⟨y0,y1,m,rfl,hl,h0,h1⟩:=trod_struct2 Tryz.underlying34 h;have hl3:O us.toList=9:=hl.trans κ;obtain⟨cs⟩:=us;simp only at hl3 h0 h1
 match cs,hl3 with
 |[a,b,c1,c2,c3,c4,c5,c6,c7],_=>
  have k0:Tr w enc m 27 [a,b]=some y0:=h0;have k1:Tr w enc m 32 [c1,c2,c3,c4,c5,c6,c7]=some y1:=h1;have w0:tH 27 y0.1:=fun q hq=>hw q (by simp[DataW.weights,DataW.weightsEach,Tryz.underlying34];exact .inl hq);have w1:tH 32 y1.1:=fun q hq=>hw q (by simp[DataW.weights,DataW.weightsEach,Tryz.underlying34];exact .inr hq);obtain⟨d,d1,d2,_⟩:=alG hT k1 w1;obtain⟨u0,u1,m2,rfl,hl,h0,h1⟩:=trod_struct2 Tryz.underlying27 k0;have k2:Tr w enc m2 3 [a]=some u0:=h0;have k3:Tr w enc m2 25 [b]=some u1:=h1;have w2:tH 25 u1.1:=fun q hq=>w0 q (by simp[DataW.weights,DataW.weightsEach,Tryz.underlying27];exact .inr hq);obtain⟨z,e2,e3,_⟩:=DataW.trod_int Tryz.underlying3 k2;simp only[List.cons.injEq,and_true]at e2;subst e2;obtain⟨l,v,e4,q1,q2,q3,q4,q5⟩:=G8 (k:=4) (bs:=64) Tryz.underlying25 κ δ κ dE (fun t=>Ok0 t.c) hT (fun n cs' x=>aox hT) k3 w2;simp only[List.cons.injEq,and_true]at e4;subst e4;exact⟨⟨⟨z,l⟩,d⟩,⟨q1,d1,by show O l<_;unfold reachBytes at q2;omega⟩,afM ((lD.one (.v _ rfl) Z Z).app ((lD.one q3 rfl q4).app d2))⟩
end
abbrev TX(f:Nat)(fd:FD):Prop:=Text Go.Proofs.Tryz.prog f fd
noncomputable def txF (f:Nat) (fd:FD):Option (Option Cmd×Option (List Rv)×Bool×Bool):= (Go.Proofs.Tryz.prog.funcs[f]?).map fun fn=> (fn.body.bind fun c=>jR Go.Proofs.Tryz.prog fn.ntmps c fd.body,KG Go.Proofs.Tryz.prog fn.results.toList,decide (fn.ntmps<=1000),fn.name== "runtime.NumGoroutine")
def txQ{f:Nat}{fd:FD}(h:txF f fd=some (some fd.body,some fd.res,true,false)):TX f fd:=by
 unfold txF at h;obtain⟨fn,h,h2⟩:=Option.map_eq_some_iff.1 h;simp only[Prod.mk.injEq,aEQ,decide_eq_true_eq]at h2;obtain⟨⟨c,h3,h4⟩,h5,h6,h7⟩:=h2;exact⟨⟨fn,c,_,h,h3,rfl,h6,h4,h5,h7⟩⟩
set_option maxRecDepth 100000 in
def acp:∀p∈aoI,TX p.1 p.2:=fun p hp=>txQ (List.map_inj_left.1 (by kernel_rfl:aoI.map (fun p=>txF p.1 p.2)=aoI.map fun p=>some (some p.2.body,some p.2.res,true,false)) p hp)
end Go.Ab
