/-
  A law of models holds at every input that the statement speaks of, under the conditions that its card names. Part G1.
-/
import Derived.Test.YtdhfcpbpdmmphaaGreatDoorProg
import Derived.Shelf.Spec.TrailingZeros
import Derived.Test.YtdhfcpbpdmmphaaGreatDoorRows
import Derived.Deep.Strs
import Derived.ProofKit
import Derived.LaidMore
import Derived.OpenShut
import Derived.Carry
import Derived.Lib.Overlaps
import Derived.Laws.Externs
import Derived.Shelf.Slices.Clone
import Derived.Test.YtdhfcpbpdmmphaaGreatDoorF1
open Nat renaming add_zero → ayF, div_add_mod → ay4, le_of_ble_eq_true → ayU, le_refl → ayd, le_trans → ayj, lt_of_le_of_lt → ayS, lt_of_lt_of_le → ay8, min_eq_left → ay0, mod_lt → ayI, mul_assoc → ayD, mul_comm → ayy, mul_le_mul_right → aym, pow_add → ayn, pow_le_pow_right → ayP, pow_succ → ayZ, reduceMod → ayQ, reduceSub → ayG, two_pow_pos → ayr, zero_add → ayc, zero_le → ayB
open Int renaming eq_ofNat_of_zero_le → aze, lt_irrefl → ay6, reduceEq → ayH, reduceLE → ayN, reduceLT → ayz, reduceToNat → ayE, toNat_natCast → ayk
open Bool renaming and_eq_true → ayf, and_false → ay1, and_self → ayK, false_and → ayh, false_eq_true → aza, false_ne_true → ayl, not_eq_true' → azf, true_and → ayg, true_or → ay9
open List renaming all_cons → ayJ, append_assoc → ayX, append_nil → ayp, cons_append → ayW, drop_eq_getElem_cons → ayv, drop_eq_nil_of_le → ayw, drop_zero → azb, getElem_mem → ayC, length_append → ay5, length_cons → ayL, length_drop → azd, length_nil → ayR, length_replicate → azc, length_take → ayo, map_cons → ays, map_nil → ayu, mem_append → aDh, mem_map → ay2, nil_append → ayq, replicate → aya, take_of_length_le → ayt
open Option renaming bind_eq_some_iff → ayb, bind_some → ayi, map_eq_some_iff → aye, map_some → ayT
set_option linter.all false
namespace Go.Ab
open Go Go.IntWalk Go.Proofs Go.Shelf Go.ChangeShapes Go.WideShapes Go.Deep Go.RowKit Go.Proofs.Tryz
set_option maxRecDepth 100000
set_option maxHeartbeats 16000000
theorem KD{x y:Ri}(ox:OkI x)(oy:OkI y):R fa8 [am x,am y] []=some (B (lS x y),[]):=by
 refine au LR rfl ?_;have v1:=mK ox;have v2:=mK oy;unfold lS;simp only[am,ap]at v1 v2;cases h1:vi x with
 |false=>
  rw[h1]at v1;simp only[dX,fG,am,ap,go_sem,v1,ayh]
 |true=>
  rw[h1]at v1;cases h2:vi y with
  |false=>
   rw[h2]at v2;simp only[dX,fG,am,ap,go_sem,v1,v2,ayh,ayg]
  |true=>
   rw[h2]at v2;cases h3:x.all with
   |true=>
    rw[h3]at v1;rw[if_neg σ];cases h4:y.all with
    |true=>
     rw[h4]at v2;simp only[dX,fG,am,ap,go_sem,v1,v2,h3,h4,ayg]
    |false=>
     rw[h4]at v2;simp only[dX,fG,am,ap,go_sem,v1,v2,h3,h4,ayg]
   |false=>
    rw[h3]at v1;have hx:vd x.lo=true/\vd x.hi=true:=by
     grind[vi]
    cases h4:y.all with
    |true=>
     rw[h4]at v2;simp only[dX,fG,am,ap,go_sem,v1,v2,h3,h4,ay9]
    |false=>
     rw[h4]at v2;have hy:vd y.lo=true/\vd y.hi=true:=by
      grind[vi]
     have c1:=ri oy.lo ox.lo;have c2:=ri ox.hi oy.hi;rw[if_pos ⟨hy.1,hx.1⟩]at c1;rw[if_pos ⟨hx.2,hy.2⟩]at c2;have e1:=@wo (zI y.lo) (zI x.lo);have e2:=@wo (zI x.hi) (zI y.hi);generalize cx (zI y.lo) (zI x.lo)=q1 at c1 e1;generalize cx (zI x.hi) (zI y.hi)=q2 at c2 e2;simp only[ae,ah]at c1 c2;by_cases h5:zI y.lo<=zI x.lo
     ·simp only[dX,fG,am,ap,go_sem,v1,v2,h3,h4,c1,c2,e1,e2,h5,Bool.false_or]
     ·simp only[dX,fG,am,ap,go_sem,v1,v2,h3,h4,c1,e1,h5,Bool.false_or]
structure Rs where
 dom:List Ri
 ord:Int
 p:Int
structure Rm where
 P:Rp
 R:Ri
abbrev Cm(s:Rs):List AV:=[.sl 7 (bQ s.dom),I s.ord,I s.p]
abbrev mM(s:Rs):AV:=.agg (Cm s)
abbrev Hc(m:Rm):List AV:=[I m.P.vars,.sl 4 (aJ m.P.terms),B m.R.lo.neg,lm m.R.lo.m,I m.R.lo.e,B m.R.hi.neg,lm m.R.hi.m,I m.R.hi.e,B m.R.all]
abbrev fh(m:Rm):AV:=.agg (Hc m)
def yu:Rd:=⟨true,[1],0⟩
def lG:Ri:=⟨yu,one,false⟩
def bN:Ri:=⟨aH,aH,false⟩
theorem ak3:R faJ [I (-1)] []=some (ae yu,[]):=by
 grind[Pe,I64,bk,yu,iN,xu,av,re,ft]
theorem aaE:vd yu=true/\Ok0 yu:=⟨by decide,⟨fun x hx=>by rw[List.mem_singleton.1 hx];decide,by decide⟩⟩
theorem LA:OkI lG/\VI lG:=⟨⟨aaE.2,dN.2⟩,⟨aaE,dN⟩⟩
theorem S1{x y:Ri}(ox:OkI x)(oy:OkI y):R fa5 [am x,am y] []=some (B (lS x y&&lS y x),[]):=by
 refine au Na rfl ?_;have h1:=KD ox oy;have h2:=KD oy ox;simp only[am,ap]at h1 h2;cases h:lS x y with
 |false=>
  rw[h]at h1;simp only[qj,xS,am,ap,go_sem,h1,ayh]
 |true=>
  rw[h]at h1;simp only[qj,xS,am,ap,go_sem,h1,h2,ayg]
theorem S2:R fbV [I 0] []=some (am bN,[]):=by
 refine au TN rfl ?_;have h1:R faJ [I 0] []=some (ae aH,[]):=by grind[Pe,I64,lg]
 have h2:=gX aU.2 aU.1;simp only[am,ap,ae,ah,aH]at h1 h2;simp only[AK,IF,am,ap,bN,aH,go_sem,h1,h2]
theorem anr{x y:Ri}(ox:OkI x)(oy:OkI y):R fbL [am x,.ref 1000 none 0 0 0] [.bx (ap y)]=some (B (!lS x y),[.bx (ap y)]):=by
 refine EK HS HR (wB false) rfl ?_;have h:=KD ox oy;generalize lS x y=b at h⊢;simp only[am,ap]at h;simp only[qL,zF,ap,am,go_sem,h];exact sj rfl rfl rfl rfl rfl
theorem ans:Src fdK fdR 7 true [.o 0 [],.o 2 [],.o 0 [],.o 0 [],.o 2 [],.o 0 [],.o 0 []]:=
 ⟨aK.2.1,aK.2.2,aK.1.2.2.2 false,aK.1.2.1 false,aK.1.2.2.2 false,aK.1.1 false,
  aQ.2.1,aQ.2.2,aQ.1.2.2.2 false⟩
theorem ant{l:List Ri}{y:Ri}(ol:∀x∈l,OkI x)(oy:OkI y)(hl:l.length<4611686018427387904):R fdK [.sl 7 (bQ l),.fn fbL [] [.ref 1000 none 0 0 0]] [.bx (ap y)]=some (B (l.any fun x=>!lS x y),[.bx (ap y)]):=
 Lq ans (ah3 y) (Af false) (wB false) hl (ZT l) fun x hx=>⟨am x,am x,rfl,rfl,rfl,by simp only[am,ap,go_sem],anr (ol x hx) oy⟩
def j7(s:Rs):Bool:=decide (1<=s.dom.length)&& (decide (s.dom.length<=8)&& (decide (1<=s.ord)&& (decide (s.ord<=16)&& (bG s.p&&!(s.dom.any fun x=>!lS x lG)))))
theorem tj{s:Rs}(od:∀x∈s.dom,OkI x)(hl:s.dom.length<4611686018427387904):R fbK [mM s] []=some (B (j7 s),[]):=by
 refine au JY rfl ?_;have h1:=ak3;have h2:=Kb;simp only[ae,ah,yu,one]at h1 h2;have hp:bG s.p=(decide (8<=s.p)&&decide (s.p<=512)):=rfl;unfold j7;rw[hp];by_cases g1:(s.dom.length:Int)<1
 ·have f1:((s.dom.length:Int)<1)=True:=eq_true g1;rw[decide_eq_false (p:=1<=s.dom.length) ω,ayh];simp only[dG,eY,go_sem,h1,h2,f1]
 have f1:((s.dom.length:Int)<1)=False:=eq_false g1;rw[decide_eq_true (p:=1<=s.dom.length) ω,ayg];by_cases g2:8< (s.dom.length:Int)
 ·have f2:(8< (s.dom.length:Int))=True:=eq_true g2;rw[decide_eq_false (p:=s.dom.length<=8) ω,ayh];simp only[dG,eY,go_sem,h1,h2,f1,f2]
 have f2:(8< (s.dom.length:Int))=False:=eq_false g2;rw[decide_eq_true (p:=s.dom.length<=8) ω,ayg];by_cases g3:s.ord<1
 ·have f3:(s.ord<1)=True:=eq_true g3;rw[decide_eq_false (p:=1<=s.ord) ω,ayh];simp only[dG,eY,go_sem,h1,h2,f1,f2,f3]
 have f3:(s.ord<1)=False:=eq_false g3;rw[decide_eq_true (p:=1<=s.ord) ω,ayg];by_cases g4:16<s.ord
 ·have f4:(16<s.ord)=True:=eq_true g4;rw[decide_eq_false (p:=s.ord<=16) ω,ayh];simp only[dG,eY,go_sem,h1,h2,f1,f2,f3,f4]
 have f4:(16<s.ord)=False:=eq_false g4;rw[decide_eq_true (p:=s.ord<=16) ω,ayg];by_cases g5:s.p<8
 ·have f5:(s.p<8)=True:=eq_true g5;rw[decide_eq_false (p:=8<=s.p) ω,ayh,ayh];simp only[dG,eY,go_sem,h1,h2,f1,f2,f3,f4,f5]
 have f5:(s.p<8)=False:=eq_false g5;rw[decide_eq_true (p:=8<=s.p) ω,ayg];by_cases g6:512<s.p
 ·have f6:(512<s.p)=True:=eq_true g6;rw[decide_eq_false (p:=s.p<=512) ω,ayh];simp only[dG,eY,go_sem,h1,h2,f1,f2,f3,f4,f5,f6]
 have f6:(512<s.p)=False:=eq_false g6;rw[decide_eq_true (p:=s.p<=512) ω,ayg];have hc:=ant od LA.1 hl;generalize(s.dom.any fun x=>!lS x lG)=b at hc⊢;have hcc:=fun(h:ac) (d:Nat) (hh:h 3=.bx (ap lG)) (hf:h (2000+8*d)=.dead)=>EL (f:=fdK) (g:=fbL) (h:=h) (d:=d) (id:=3) (zas:=[.sl 7 (bQ s.dom)]) (as':=[.sl 7 (bQ s.dom)]) (aQ.1.2.1 false) (aQ.1.2.2.2 false)
  (by rw[aQ.1.1];simp only[go_sem,ayW,ayq]) rfl rfl hh (ah3 _) (ah3 _) (fun h=>h) hc (Xi _) (ayU rfl) (by grind[cA,cF,bY])
 simp only[ap,lG,yu,one,ayW,ayq,go_sem]at hcc;simp only[dG,eY,go_sem,h1,h2,f1,f2,f3,f4,f5,f6];rw[hcc _ _ rfl rfl];simp only[go_sem]
def vA(d:Rd)(p:Int):Bool:=bG p&& (vd d&&decide ((af (ab d.m):Int)<=p))
theorem apP{d:Rd}{p:Int}(od:Ok0 d):R fdm [ae d,I p] []=some (B (vA d p),[]):=by
 refine au acl rfl ?_;have h1:=Bh (p:=p) (l:=[d]) (fun x hx=>by rw[List.mem_singleton.1 hx];exact od) σ;have h2:=NA od;have hp:bG p=(decide (8<=p)&&decide (p<=512)):=rfl;have hf:(aZ p [d]=0)=(vA d p=true\/(bG p=true/\vd d=true)):=by
  unfold aZ vA;rw[hp];simp only[ayJ,List.all_nil,Bool.and_true,ayf,decide_eq_true_eq,eq_iff_iff];split<;> (try split)<;>grind
 unfold vA at hf⊢;simp only[Cf,Ez,ays,ayu,ae,ah]at h1 h2;cases hv:vd d with
 |false=>
  rw[hv]at hf h2;have f1:(aZ p [d]=0)=False:=by rw[hf];simp
  generalize aZ p [d]=q at h1 f1;simp only[xg,Dc,ae,ah,go_sem,h1,f1,ayh,ay1]
 |true=>
  rw[hv]at hf h2;rw[if_pos rfl]at h2;cases hq:bG p with
  |false=>
   rw[hq]at hf;have f1:(aZ p [d]=0)=False:=by rw[hf];simp
   generalize aZ p [d]=q at h1 f1;simp only[xg,Dc,ae,ah,go_sem,h1,f1,ayh]
  |true=>
   rw[hq]at hf;have f1:(aZ p [d]=0)=True:=by rw[hf];simp
   generalize aZ p [d]=q at h1 f1;generalize(af (ab d.m):Int)=n at h2⊢;simp only[xg,Dc,ae,ah,go_sem,h1,h2,f1,ayg]
theorem LB(s:Rs):OC (.bx (Cm s)):=⟨fun _=>rfl,rfl,fun _=>rfl,rfl⟩
theorem apQ{t:Rt}{s:Rs}(ot:Ok0 t.c):R fbM [.agg (bL t),.ref 1000 none 0 0 0] [.bx (Cm s)]=some (B (!vA t.c s.p),[.bx (Cm s)]):=by
 refine EK OY OX (B9 false) rfl ?_;have h:=apP (p:=s.p) ot;generalize vA t.c s.p=b at h⊢;simp only[ae,ah]at h;simp only[xY,Fi,bL,go_sem,h];exact sj rfl rfl rfl rfl rfl
theorem ajb:Src fdM fdT 4 true [.o 2 [],.o 0 [],.o 2 [],.o 0 []]:=
 ⟨cp.2.1,cp.2.2,cp.1.2.2.2 false,cp.1.2.1 false,cp.1.2.2.2 false,cp.1.1 false,
  bT.2.1,bT.2.2,bT.1.2.2.2 false⟩
theorem EV(l:List Rt):(aJ l).map (dQ [.o 2 [],.o 0 [],.o 2 [],.o 0 []])=aJ l:=by
 refine rp fun x hx=>?_;simp only[aJ,ay2]at hx;obtain⟨t,ht,rfl⟩:=hx;simp only[bL,go_sem]
structure OkS (s:Rs):Prop where
 d:∀x∈s.dom,OkI x
 n:s.dom.length<4611686018427387904
structure OkM (m:Rm):Prop where
 c:∀t∈m.P.terms,Ok0 t.c
 r:OkI m.R
 n:m.P.terms.length<4611686018427387904
def tl(s:Rs)(m:Rm):Bool:=j7 s&& (vp m.P&& (decide (m.P.vars=s.dom.length)&& (decide (eX m.P<=s.ord)&& (vi m.R&&!(m.P.terms.any fun t=>!vA t.c s.p)))))
theorem XI{a:Rp}(oc:∀t∈a.terms,Ok0 t.c)(h:vp a=true):OkP a:=⟨fun t ht=>⟨oc t ht,by
 unfold vp at h;simp only[ayf,decide_eq_true_eq]at h;have:=(Ak (Le _ _ h.2.2.2 t ht)).1;omega⟩⟩
theorem FM{s:Rs}{m:Rm}(os:OkS s)(om:OkM m):R fbJ [mM s,fh m] []=some (B (tl s m),[]):=by
 refine au TH rfl ?_;have h1:=tj os.d os.n;have h2:=Ph om.c;have h4:=mK om.r;unfold tl;simp only[aT,am,ap]at h2 h4;cases g1:j7 s with
 |false=>
  rw[g1]at h1;simp only[iQ,lK,go_sem,h1,ayh]
 |true=>
 rw[g1]at h1;cases g2:vp m.P with
 |false=>
  rw[g2]at h2;simp only[iQ,lK,go_sem,h1,h2,ayh,ay1]
 |true=>
 rw[g2]at h2;by_cases g3:m.P.vars=(s.dom.length:Int)
 case neg=>
  have f3:(m.P.vars=(s.dom.length:Int))=False:=eq_false g3;simp only[iQ,lK,go_sem,h1,h2,f3,ayh,ay1]
 have f3:(m.P.vars=(s.dom.length:Int))=True:=eq_true g3;have h3:=FH (XI om.c g2);simp only[aT]at h3;by_cases g4:s.ord<eX m.P
 case pos=>
  have f4:(s.ord<eX m.P)=True:=eq_true g4;have f4':(eX m.P<=s.ord)=False:=ff;simp only[iQ,lK,go_sem,h1,h2,h3,f3,f4,f4',ayh,ay1]
 have f4:(s.ord<eX m.P)=False:=eq_false g4;have f4':(eX m.P<=s.ord)=True:=tt;cases g5:vi m.R with
 |false=>
  rw[g5]at h4;simp only[iQ,lK,go_sem,h1,h2,h3,h4,f3,f4,f4',ayh,ay1]
 |true=>
 rw[g5]at h4;have hc:=Lq ajb (Frow:=bL) (l:=m.P.terms) (q:=fun t=>!vA t.c s.p) (LB s) (Fx false) (B9 false) om.n (EV _) fun t ht=>⟨.agg (bL t),.agg (bL t),rfl,rfl,rfl,by rw[Nd];simp only[bL,go_sem],apQ (om.c t ht)⟩;generalize(m.P.terms.any fun t=>!vA t.c s.p)=b at hc⊢;have hcc:=fun(h:ac) (d:Nat) (hh:h 2=.bx (Cm s)) (hf:h (2000+8*d)=.dead)=>EL (f:=fdM) (g:=fbM) (h:=h) (d:=d) (id:=2) (zas:=[.sl 4 (aJ m.P.terms)]) (as':=[.sl 4 (aJ m.P.terms)]) (bT.1.2.1 false) (bT.1.2.2.2 false)
  (by rw[bT.1.1];simp only[go_sem,EV,ayW,ayq]) rfl rfl hh (LB _) (LB _) (fun h=>h) hc (Xi _) (ayU rfl) (by simp[cA,cF,hf,bY])
 simp only[ayW,ayq,go_sem]at hcc;simp only[iQ,lK,go_sem,h1,h2,h3,h4,f3,f4,f4'];rw[hcc _ _ rfl rfl];simp only[go_sem]
theorem VI.ok'{x:Ri}(h:VI x):OkI x:=⟨h.1.2,h.2.2⟩
theorem LC:∀dom:List Ri,uq dom (dom.map fun b=>qv b.lo) (aya dom.length 0)
 |[]=>trivial
 |b::dom=>⟨by grind,by decide,by decide,LC dom⟩
def IsD(c:List AV)(q:Rd):Prop:=c=[B q.neg,lm q.m,I q.e]\/(c=zb/\q=aH)
theorem IsD.cl{c:List AV}{q:Rd}(h:IsD c q)(l:List Nat):c.all (jG l)=true:=by
 rcases h with rfl| ⟨rfl,_⟩<;>rfl
def mF(a b:Rd):Rd×Int:=if(vd a&&vd b)=true then cH (df (zI a-zI b) (-16384))else(aH,1)
theorem Bu(a b:Rd):vd (mF a b).1=true/\Ok0 (mF a b).1:=by
 unfold mF;split
 ·exact yO
 ·exact⟨rfl,⟨fun x hx=>(nomatch hx),by decide⟩⟩
theorem aix{a b:Rd}(vb:vd b=true):mF a b=je a (gW b):=by
 grind[yM,mF,je,Int.sub_eq_add_neg]
theorem afV{neg:Bool}{M k:Nat}:zI (bk neg M (-16384+(k:Int)))=bE neg (M*2^k):=by
 by_cases h0:M=0
 ·subst h0;rw[lg,cO rfl,Nat.zero_mul];cases neg<;>rfl
 ·rw[iN h0];obtain⟨t1,t2⟩:=tC h0;unfold zI mg bE;rw[aN];have hk:(-16384+(k:Int)+((tz M:Nat):Int)+16384).toNat=tz M+k:=ω
  have hm:M/2^tz M*2^ (-16384+(k:Int)+((tz M:Nat):Int)+16384).toNat=M*2^k:=by
   grind
  grind
theorem XJ{neg:Bool}{p:Int}{q:Nat}{e:Int}(h:(Bi neg true p q e).2=0):Bi neg true p q e=(bk neg q e,0)/\¬ (q≠0/\16384< ((af q:Nat):Int)+e):=by
 unfold Bi at h⊢;grind
theorem aaF{neg:Bool}{p:Int}{q q':Nat}{e:Int}(hq:q<=q')(h:¬ (q'≠0/\16384< ((af q':Nat):Int)+e)):Bi neg false p q e=(bk neg q e,0):=by
 unfold Bi;rw[if_neg];have h1:=yF hq (ayd _);omega
structure NearF (d lo hi:Rd) (q q' r k:Nat):Prop where
 hz:mg d=q*2^k+r
 hr:r<2^k
 hq:q'=if r=0 then q else q+1
 hlo:lo=bk d.neg (if d.neg=true then q' else q) (-16384+(k:Int))
 hhi:hi=bk d.neg (if d.neg=true then q else q') (-16384+(k:Int))
 hw:r≠0->∃t v:Nat,mg d=v*2^t/\t<=k/\k-t<=af v-8/\8<=af v/\af v<=4096/\af v+t<=32768
theorem ajc(d:Rd):zI d=bE d.neg (mg d):=rfl
theorem afW{d:Rd}(ok:Ok0 d)(v:vd d=true){p:Int}(hp:8<=p/\p<=512)(h0:(bZ d p false).2=0)(h1:(bZ d p true).2=0):∃q q' r k,NearF d (bZ d p false).1 (bZ d p true).1 q q' r k:=by
 have hf:aZ p [d]=0:=by
  simp_all[aZ,ayJ,List.all_nil,Bool.and_true,if_true,if_pos]
 have hR:∀up,bZ d p up=ED d.neg (mg d) (-16384) false p up:=fun up=>by
  simp_all[bZ,if_pos,ajc,Pf]
 rw[hR]at h0 h1;rw[hR,hR];unfold ED QS at h0 h1⊢;obtain⟨k,hk⟩:∃k,J9 (mg d) (-16384) p=k:=⟨_,rfl⟩;rw[hk]at h0 h1⊢;obtain⟨q',hq'⟩:∃q',q'=if mg d%2^k=0 then mg d/2^k else mg d/2^k+1:=⟨_,rfl⟩
 have hle:mg d/2^k<=q':=by
  grind
 have e1:(if((false||decide (mg d%2^k≠0))&&true)=true then mg d/2^k+1 else mg d/2^k)=q':=by
  grind
 have e2:(if((false||decide (mg d%2^k≠0))&&false)=true then mg d/2^k+1 else mg d/2^k)=mg d/2^k:=by
  grind
 have hw:mg d%2^k≠0->∃t v:Nat,mg d=v*2^t/\t<=k/\k-t<=af v-8/\8<=af v/\af v<=4096/\af v+t<=32768:=by
  intro hr;have hm:d.m.length≠0:=fun h=>hr (by
   have:mg d=0:=by
    unfold mg;rw[List.length_eq_zero_iff.1 h];exact Nat.zero_mul _
   simp_all)
  obtain⟨g1,g2,g3,g4⟩:=Cd v hm;obtain⟨b1,b2,b3,b4⟩:=Bc g4 (Nat.pos_iff_ne_zero.1 (fu (dt v hm)));have hb:=dk (d.e+16384).toNat (dt v hm);have hmg:mg d=ab d.m*2^ (d.e+16384).toNat:=rfl;rw[←hmg]at hb;unfold J9 at hk;have ht:(d.e+16384).toNat<=k:=Nat.le_of_not_lt fun hlt=>hr (by
   rw[hmg,show(d.e+16384).toNat=k+((d.e+16384).toNat-k)by omega,ayn,←ayD,Nat.mul_right_comm]
   simp_all)
  have hk1:k≠0:=fun h=>hr (by rw[h,Nat.pow_zero,Nat.mod_one]);refine⟨(d.e+16384).toNat,ab d.m,rfl,ht,?_,?_,b1,?_⟩<;>omega
 refine⟨mg d/2^k,q',mg d%2^k,k,?_,ayI _ (ayr _),hq',?_,?_,hw⟩
 ·grind[ay4]
 all_goals
  cases hn:d.neg with
  |false=>
   rw[hn]at h0 h1;simp only[bne_self_eq_false,Bool.false_bne,e1,e2]at h0 h1⊢;obtain⟨k1,k2⟩:=XJ h1
   first
   | (rw[aaF hle k2];rfl)
   | (rw[k1];rfl)
  |true=>
   rw[hn]at h0 h1;simp only[bne_self_eq_false,Bool.bne_false,e1,e2]at h0 h1⊢;obtain⟨k1,k2⟩:=XJ h0
   first
   | (rw[aaF hle k2];rfl)
   | (rw[k1];rfl)
theorem XK{v t k x:Nat}{n:Bool}(h1:k-t<=af v-8)(h2:8<=af v)(h3:af v<=4096)(h4:af v+t<=32768)(hx:x<=2^ (k-t)):(cH (df (bE n (x*2^t)) (-16384))).2=0:=by
 have hb:af x<=k-t+1:=bD.2 (ayS hx (Nat.pow_lt_pow_right δ ω));rw[←yN,jC,EC ω ω ω]
def XL(lo hi:Rd):Rd:=if hi.m.length=0\/(lo.m.length≠0/\lo.e<hi.e)then hi else lo
def LD(z:Int)(lo hi:Rd):Rd:=if z-zI lo<zI hi-z then lo else if zI hi-z<z-zI lo then hi else XL lo hi
def mG(d:Rd)(p:Int):Rd×Int:=if(bZ d p false).2=0 then(if(bZ d p true).2=0 then(LD (zI d) (bZ d p false).1 (bZ d p true).1,0)else(aH,(bZ d p true).2))else(aH,(bZ d p false).2)
structure NearOk (d lo hi:Rd):Prop where
 below:(mF d lo).2=0
 above:(mF hi d).2=0
 tie:zI lo≠zI hi->zI d-zI lo=zI hi-zI d->lo.m.length≠0->hi.m.length≠0->lo.e≠hi.e
 le:zI lo<=zI d/\zI d<=zI hi
theorem S3{neg:Bool}{M:Nat}{e:Int}(h:(bk neg M e).m.length≠0):M≠0/\(bk neg M e).e=e+tz M:=by
 by_cases h0:M=0
 ·subst h0;exact absurd rfl h
 grind[iN]
theorem aaG{q:Nat}(h:q≠0):tz q≠tz (q+1):=by
 have hs:∀ {n:Nat},n≠0->tz n=0->n%2=1:=fun{n} h0 h1=>by
  have:=(tC h0).2;grind
 grind[xu]
theorem ak4{d:Rd}(ok:Ok0 d)(v:vd d=true){p:Int}(hp:8<=p/\p<=512)(h0:(bZ d p false).2=0)(h1:(bZ d p true).2=0):NearOk d (bZ d p false).1 (bZ d p true).1:=by
 obtain⟨q,q',r,k,Fm⟩:=afW ok v hp h0 h1;have vlo:vd (bZ d p false).1=true:=by
  unfold bZ;split
  ·exact td.1
  ·rfl
 have vhi:vd (bZ d p true).1=true:=by
  unfold bZ;split
  ·exact td.1
  ·rfl
 generalize(bZ d p false).1=lo at*
 generalize(bZ d p true).1=hi at*
 have zlo:zI lo=bE d.neg ((if d.neg=true then q' else q)*2^k):=by rw[Fm.hlo,afV]
 have zhi:zI hi=bE d.neg ((if d.neg=true then q else q')*2^k):=by rw[Fm.hhi,afV]
 have zd:=ajc d;have hz:=Fm.hz;have hr:=Fm.hr;have hq:=Fm.hq;have hs1:mF d lo=cH (df (zI d-zI lo) (-16384)):=by
  simp_all[mF,ayK,if_pos]
 have hs2:mF hi d=cH (df (zI hi-zI d) (-16384)):=by
  simp_all[mF,ayK,if_pos]
 by_cases r0:r=0
 ·rw[if_pos r0]at hq;rw[hq,ite_self,←hq]at zlo zhi;have e0:zI d=zI lo:=γ
  have e1:zI d=zI hi:=ω
  have h00:(cH (df 0 (-16384))).2=0:=by rw[show df 0 (-16384)=aH from lg];rfl
  refine⟨?_,?_,fun h=>absurd (e0.symm.trans e1) h,by omega⟩
  all_goals grind
 ·rw[if_neg r0]at hq;obtain⟨t,w,w1,w2,w3,w4,w5,w6⟩:=Fm.hw r0;have hp2:(2:Nat)^k=2^ (k-t)*2^t:=by rw[←ayn,show k-t+t=k by omega]
  have hrr:r=(w-q*2^ (k-t))*2^t:=by
   grind[Nat.sub_mul,ayD]
  obtain⟨x,hx⟩:∃x,w-q*2^ (k-t)=x:=⟨_,rfl⟩;rw[hx]at hrr;have hxl:x<2^ (k-t):=by
   rw[hrr,hp2]at hr;exact Nat.lt_of_mul_lt_mul_right hr
  have f1:∀n,(cH (df (bE n r) (-16384))).2=0:=fun n=>by
   grind[XK,Nat.le_of_lt]
  have f2:∀n,(cH (df (bE n (2^k-r)) (-16384))).2=0:=fun n=>by
   rw[hrr,hp2,←Nat.sub_mul];grind[XK,Nat.sub_le]
  have hq2:q'*2^k=q*2^k+2^k:=γ
  have htie:lo.m.length≠0->hi.m.length≠0->lo.e≠hi.e:=by
   intro m1 m2;rw[Fm.hlo]at m1⊢;rw[Fm.hhi]at m2⊢;obtain⟨a1,a2⟩:=S3 m1;obtain⟨b1,b2⟩:=S3 m2;rw[a2,b2];cases hn:d.neg with
   |false=>
    grind[aaG]
   |true=>
    grind[aaG]
  generalize 2^k=K at*
  refine⟨?_,?_,fun _ _=>htie,?_⟩
  ·rw[hs1];cases hn:d.neg with
   |false=>
    rw[hn]at zd zlo;have:zI d-zI lo=bE false r:=by grind[n7]
    grind
   |true=>
    rw[hn]at zd zlo;simp only[if_true,pH]at zd zlo;have:zI d-zI lo=bE false (K-r):=by grind[n7]
    grind
  ·rw[hs2];cases hn:d.neg with
   |false=>
    rw[hn]at zd zhi;have:zI hi-zI d=bE false (K-r):=by grind[n7]
    grind
   |true=>
    rw[hn]at zd zhi;simp only[if_true,pH]at zd zhi;have:zI hi-zI d=bE false r:=by grind[n7]
    grind
  ·cases hn:d.neg with
   |false=>
    rw[hn]at zd zlo zhi;simp only[aza,if_false,n7]at zd zlo zhi;omega
   |true=>
    rw[hn]at zd zlo zhi;simp only[if_true,pH]at zd zlo zhi;omega
theorem RA{a b:Rd}(oa:Ok0 a)(ob:Ok0 b):R faP [ae a,ae b] []=some (rV (mF a b),[]):=by
 refine au V8 rfl ?_;have v1:=eC oa;have v2:=eC ob;simp only[ae,ah]at v1 v2;unfold mF;cases va:vd a with
 |false=>
  rw[va]at v1;simp only[sP,zL,rV,aH,ae,ah,go_sem,v1]
 |true=>
  rw[va]at v1;cases vb:vd b with
  |false=>
   rw[vb]at v2;simp only[sP,zL,rV,aH,ae,ah,go_sem,v1,v2]
  |true=>
   rw[vb]at v2;obtain⟨z1,z2⟩:=yM vb;have hn:R faM [ae b] []=some (ae (gW b),[]):=GW ob;have hs:=Z4 oa (ws ob) va z2;rw[z1,←Int.sub_eq_add_neg]at hs;simp only[rV,ae,ah]at hn hs;simp only[sP,zL,rV,ae,ah,go_sem,v1,v2,hn,hs]
theorem ak5{d:Rd}{p:Int}{up:Bool}(h:(bZ d p up).2=0):vd d=true/\(8<=p/\p<=512):=by
 unfold bZ at h;by_cases hf:aZ p [d]=0
 ·unfold aZ at hf;grind
 grind
theorem aaH{a b:Rd}(vb:vd b=true)(h:(mF a b).2=0):zI (mF a b).1=zI a-zI b:=by
 grind[aix,ZZ,yM,Int.sub_eq_add_neg]
theorem ak6{d:Rd}(ok:Ok0 d){p:Int}:R fdp [ae d,I p] []=some (rV (mG d p),[]):=by
 refine au V7 rfl ?_;have hd:=SA ok (p:=p);have hu:=ZN ok (p:=p);unfold mG;by_cases h0:(bZ d p false).2=0
 ·rw[if_pos h0];obtain⟨v,hp⟩:=ak5 h0;have vl:=Q0 (d:=d) (p:=p) (up:=false);have ol:=Dv (d:=d) (p:=p) (up:=false);by_cases h1:(bZ d p true).2=0
  ·rw[if_pos h1];have vh:=Q0 (d:=d) (p:=p) (up:=true);have oh:=Dv (d:=d) (p:=p) (up:=true);have hk:=ak4 ok v hp h0 h1;generalize bZ d p false=lo at*
   generalize bZ d p true=hi at*
   obtain⟨lo,el⟩:=lo;obtain⟨hi,eh⟩:=hi;have h0':el=0:=h0;have h1':eh=0:=h1;subst h0';subst h1';have s1:=RA ok ol;have s2:=RA oh ok;have c:=ri (Bu d lo).2 (Bu hi d).2;rw[if_pos ⟨(Bu d lo).1,(Bu hi d).1⟩,aaH vl hk.below,aaH v hk.above]at c;show _=some (rV (LD (zI d) lo hi,0),[]);unfold LD;generalize mF d lo=x at s1 c;generalize mF hi d=y at s2 c;simp only[rV,ae,ah]at hd hu s1 s2 c;rcases n8 (zI d-zI lo) (zI hi-zI d)with⟨g,e⟩| ⟨g,e⟩| ⟨g,e⟩
   ·rw[e]at c;rw[if_pos g];simp only[gx,jy,rV,ae,ah,go_sem,ayH,hd,hu,s1,s2,c]
   ·rw[e]at c;rw[if_neg ω,if_neg ω];unfold XL;by_cases m1:hi.m.length=0
    ·have e1:((hi.m.length:Int)=0)=True:=tt;rw[if_pos (.inl m1)];simp only[gx,jy,rV,ae,ah,go_sem,ayH,hd,hu,s1,s2,c,e1]
    ·have e1:((hi.m.length:Int)=0)=False:=ff;by_cases m2:lo.m.length=0
     ·have e2:(0< (lo.m.length:Int))=False:=ff;rw[if_neg ω];simp only[gx,jy,rV,ae,ah,go_sem,ayH,hd,hu,s1,s2,c,e1,e2]
     ·have e2:(0< (lo.m.length:Int))=True:=tt;by_cases m3:lo.e<hi.e
      ·have e3:(lo.e<hi.e)=True:=eq_true m3;rw[if_pos (.inr ⟨m2,m3⟩)];simp only[gx,jy,rV,ae,ah,go_sem,ayH,hd,hu,s1,s2,c,e1,e2,e3]
      ·have e3:(lo.e<hi.e)=False:=eq_false m3;rw[if_neg ω];simp only[gx,jy,rV,ae,ah,go_sem,ayH,hd,hu,s1,s2,c,e1,e2,e3]
   ·rw[e]at c;rw[if_neg ω,if_pos ω];simp only[gx,jy,rV,ae,ah,go_sem,ayH,hd,hu,s1,s2,c]
  ·rw[if_neg h1];generalize bZ d p false=lo at*
   generalize bZ d p true=hi at*
   have e1:(hi.2=0)=False:=eq_false h1;have e0:(lo.2=0)=True:=eq_true h0;simp only[rV,ae,ah]at hd hu;simp only[gx,jy,rV,aH,ae,ah,go_sem,hd,hu,e0,e1]
 ·rw[if_neg h0];generalize bZ d p false=lo at*
  have e0:(lo.2=0)=False:=eq_false h0;simp only[rV,ae,ah]at hd;simp only[gx,jy,rV,aH,ae,ah,go_sem,hd,e0]
theorem Io(d:Rd)(p:Int):vd (mG d p).1=true/\Ok0 (mG d p).1:=by
 unfold mG;split
 ·split
  ·unfold LD XL;grind[Q0,Dv]
  ·exact aU
 ·exact aU
def eu(x:List Int)(c:Rd)(l:List Rt):List Rt:=if c.m.length=0 then l else⟨x,c⟩::l
def Ap(p:Int):List Rt->Option (List Rt×List Rt)
 |[]=>some ([],[])
 |t::ts=>if(mG t.c p).2=0 then(if(mF t.c (mG t.c p).1).2=0 then(Ap p ts).map fun q=>(eu t.exps (mG t.c p).1 q.1,eu t.exps (mF t.c (mG t.c p).1).1 q.2)else none)else none
def dO(a:Rp)(p:Int):(Rp×Rp)×Int:=if vp a=true then(if p<8\/512<p then((p0,p0),2)else match Ap p a.terms with
 |none=>((p0,p0),9)
 |some q=>((⟨a.vars,q.1⟩,⟨a.vars,q.2⟩),0))else((p0,p0),1)
def S4(r:(Rp×Rp)×Int):AV:=.tup [aT r.1.1,aT r.1.2,I r.2]
def RB(blk:Option (Ex×St))(i1 i2:Nat)(S:ak)(v':Int)(l1 l2:List Rt):Option (List Rt×List Rt)->Prop
 |some q=>ES blk i1 i2 S v' l1 l2 q.1 q.2
 |none=>∃hh,blk=some (.ret,⟨upd (upd (upd (fun _=>.any) 6 (I 9)) 5 (.ref 5 none 0 0 0)) 4 (.ref 4 none 0 0 0),hh⟩)/\hh 4=.bx [I 0,.emp]/\hh 5=.bx [I 0,.emp]
theorem FN{x:List Int}{c:Rd}{l r:List Rt}:l++eu x c []++r=l++eu x c r:=by
 unfold eu;split
 ·rw[ayp]
 ·rw[ayX];rfl
theorem RB.step{blk:Option (Ex×St)}{i1 i2:Nat}{S:ak}{v':Int}{l1 l2:List Rt}{x:List Int}{c d:Rd}:∀ {o:Option (List Rt×List Rt)},RB blk i1 i2 S v' (l1++eu x c []) (l2++eu x d []) o->RB blk i1 i2 S v' l1 l2 (o.map fun q=>(eu x c q.1,eu x d q.2)):=by
 intro o h;cases o with
 |none=>exact h
 |some q=>
  obtain⟨hh,c1,c2,h1,h2,h3,h4,h5,h6,h7⟩:=h;exact⟨hh,c1,c2,h1,h2,h3,h4,h5,by rwa[FN]at h6,by rwa[FN]at h7⟩
theorem VT.put{v:Int}{t:Rt}{d:Rd}(h:VT v t)(od:Ok0 d)(vdd:vd d=true)(nd:d.m.length≠0):VT v ⟨t.exps,d⟩:=⟨od,h.len,h.v8,vdd,nd,h.b,h.d⟩
theorem aiy{v v' p:Int}{A:List Rt}(hA:Cl v A)(hn:A.length<=100000){o2:Ob}(k2c:∀ids,aD ids o2=true):
  ∀ (k i:Nat),i+k=A.length->∀ (c1 c2:AV) (l1 l2:List Rt),pJ c1 l1->pJ c2 l2->Bf v l1 (A.drop i)->Bf v l2 (A.drop i)->l1.length+k<=1000000->l2.length+k<=1000000->∀ (s:ak) (h:ac),s 1=I p->s 4=.ref 4 none 0 0 0->s 5=.ref 5 none 0 0 0->s 7=.ref 2248 none 0 0 0->s 8=.ref 2272 none 0 0 0->s 36=.sl 4 (aJ A)->s 37=I A.length->s 38=I i->h 2=o2->h 4=.bx [I 0,.emp]->h 5=.bx [I 0,.emp]->h 2248=t3 v' c1 0->h 2272=t3 v' c2 0->
  RB (ai 1 [4,5,7,8] (ax (aj R (az false) eU) [1,4,5,7,8,36,37,38] [2,4,5,2248,2272] s h)) 2248 2272 (upd (upd (upd (upd (fun _=>.any) 8 (.ref 2272 none 0 0 0)) 7 (.ref 2248 none 0 0 0)) 5 (.ref 5 none 0 0 0)) 4 (.ref 4 none 0 0 0)) v' l1 l2 (Ap p (A.drop i)):=by
 intro k;induction k with
 |zero=>
  intro i hi c1 c2 l1 l2 hc1 hc2 _ _ _ _ s h g1 g4 g5 g7 g8 g36 g37 g38 k2 k4 k5 k2248 k2272;have e1:((i:Int)< (A.length:Int))=False:=ff;have ho1:=(kP (v:=v') (e:=0) hc1).cl [2,4,5,2248,2272];have ho2:=(kP (v:=v') (e:=0) hc2).cl [2,4,5,2248,2272];have ho3:=k2c [2,4,5,2248,2272];rw[ayw ω,ag];refine⟨?hh0,c1,c2,?_,?_,?_,?_,?_,by grind,by grind⟩;rotate_left
  ·simp only[eU,go_sem,g1,g4,g5,g7,g8,g36,g37,g38,k2,k4,k5,k2248,k2272,ho1,ho2,ho3,e1];rfl
  ·rfl
  ·rfl
  ·rfl
  ·rfl
 |succ k ih=>
  intro i hi c1 c2 l1 l2 hc1 hc2 b1 b2 hl1 hl2 s h g1 g4 g5 g7 g8 g36 g37 g38 k2 k4 k5 k2248 k2272;have hlt:i<A.length:=ω
  have e1:((i:Int)< (A.length:Int))=True:=tt;have e2:aX (aJ A) (i:Int)=some (.ipt (bL A[i])):=fY rfl (List.getElem?_eq_getElem hlt);have e5:IntKind.i64.wrap ((i:Int)+1)=((i+1:Nat):Int):=wi;have ho1:=(kP (v:=v') (e:=0) hc1).cl [2,4,5,2248,2272];have ho2:=(kP (v:=v') (e:=0) hc2).cl [2,4,5,2248,2272];have ho3:=k2c [2,4,5,2248,2272];have hAd:=hA.dropN i;rw[ayv hlt]at b1 b2 hAd⊢;have ih':=ih (i+1) ω;have vt:=hAd.head;have hrow:∀q ts,Ap p (q::ts)=if(mG q.c p).2=0 then(if(mF q.c (mG q.c p).1).2=0 then(Ap p ts).map fun x=>(eu q.exps (mG q.c p).1 x.1,eu q.exps (mF q.c (mG q.c p).1).1 x.2)else none)else none:=fun q ts=>rfl
  rw[hrow];generalize A[i]=t at e2 vt b1 b2 hAd⊢;have hnr:=ak6 vt.c (p:=p);obtain⟨vm,om⟩:=Io t.c p;rw[ag];generalize ax _ _ _=L at ih'⊢;generalize mG t.c p=m at hnr vm om⊢;obtain⟨m,em⟩:=m;have hsb:=RA vt.c om;obtain⟨vq,oq⟩:=Bu t.c m;simp only at hsb vq oq;generalize mF t.c m=q at hsb vq oq⊢;obtain⟨q,eq⟩:=q;simp only[bL]at e2;simp only[rV,ae,ah]at hnr hsb;by_cases hm:em=0
  ·subst hm;rw[if_pos rfl];by_cases hq:eq=0
   ·subst hq;rw[if_pos rfl];refine RB.step ?_;simp only at vm om vq oq;by_cases zm:m.m.length=0
    ·have f1:(0< (m.m.length:Int))=False:=ff;have x1:l1++eu t.exps m []=l1:=by simp_all[eu,if_pos,ayp]
     simp only[x1];by_cases zq:q.m.length=0
     ·have f2:(0< (q.m.length:Int))=False:=ff;have x2:l2++eu t.exps q []=l2:=by simp_all[eu,if_pos,ayp]
      simp only[x2];have ih2:=ih' c1 c2 l1 l2 hc1 hc2 b1.drop b2.drop ω ω;simp only[eU,go_sem,g1,g4,g5,g7,g8,g36,g37,g38,k2,k4,k5,k2248,k2272,ho1,ho2,ho3,e1,e2,hnr,hsb,f1,f2,e5];refine ih2 _ _ ?_ ?_ ?_ ?_ ?_ ?_ ?_ ?_ ?_ ?_ ?_ ?_ ?_
      all_goals first|rfl|assumption
     ·have f2:(0< (q.m.length:Int))=True:=tt;have x2:l2++eu t.exps q []=l2++[⟨t.exps,q⟩]:=by simp_all[eu,if_neg]
      simp only[x2];obtain⟨c4,s3,s4⟩:=ER (v':=v') b2 (vt.put oq vq zq) ω hc2;have hcall2:=fun(h:ac) (hh:h 2272=t3 v' c2 0) (d:Nat)=>dy (aS.1.2.1 false) rfl (pK (d:=d) hh hc2 s4 s3);have ih2:=ih' c1 c4 l1 _ hc1 s4 b1.drop (b2.push hAd (vt.put oq vq zq)) ω γ;simp only[ae,ah]at hcall2;simp only[eU,go_sem,g1,g4,g5,g7,g8,g36,g37,g38,k2,k4,k5,k2248,k2272,ho1,ho2,ho3,e1,e2,hnr,hsb,f1,f2];rw[hcall2 _ rfl];simp only[go_sem,e5];refine ih2 _ _ ?_ ?_ ?_ ?_ ?_ ?_ ?_ ?_ ?_ ?_ ?_ ?_ ?_
      all_goals first|rfl|assumption
    ·have f1:(0< (m.m.length:Int))=True:=tt;have x1:l1++eu t.exps m []=l1++[⟨t.exps,m⟩]:=by simp_all[eu,if_neg]
     simp only[x1];obtain⟨c3,s1,s2⟩:=ER (v':=v') b1 (vt.put om vm zm) ω hc1;have hcall:=fun(h:ac) (hh:h 2248=t3 v' c1 0) (d:Nat)=>dy (aS.1.2.1 false) rfl (pK (d:=d) hh hc1 s2 s1);have bp1:=b1.push hAd (vt.put om vm zm);have lp1:(l1++[(⟨t.exps,m⟩:Rt)]).length+k<=1000000:=γ
     simp only[ae,ah]at hcall;by_cases zq:q.m.length=0
     ·have f2:(0< (q.m.length:Int))=False:=ff;have x2:l2++eu t.exps q []=l2:=by simp_all[eu,if_pos,ayp]
      simp only[x2];have ih2:=ih' c3 c2 _ l2 s2 hc2 bp1 b2.drop lp1 ω;simp only[eU,go_sem,g1,g4,g5,g7,g8,g36,g37,g38,k2,k4,k5,k2248,k2272,ho1,ho2,ho3,e1,e2,hnr,hsb,f1];rw[hcall _ rfl];simp only[go_sem,f2,e5];refine ih2 _ _ ?_ ?_ ?_ ?_ ?_ ?_ ?_ ?_ ?_ ?_ ?_ ?_ ?_
      all_goals first|rfl|assumption
     ·have f2:(0< (q.m.length:Int))=True:=tt;have x2:l2++eu t.exps q []=l2++[⟨t.exps,q⟩]:=by unfold eu;rw[if_neg zq]
      simp only[x2];obtain⟨c4,s3,s4⟩:=ER (v':=v') b2 (vt.put oq vq zq) ω hc2;have hcall2:=fun(h:ac) (hh:h 2272=t3 v' c2 0) (d:Nat)=>dy (aS.1.2.1 false) rfl (pK (d:=d) hh hc2 s4 s3);have ih2:=ih' c3 c4 _ _ s2 s4 bp1 (b2.push hAd (vt.put oq vq zq)) lp1 γ;simp only[ae,ah]at hcall2;simp only[eU,go_sem,g1,g4,g5,g7,g8,g36,g37,g38,k2,k4,k5,k2248,k2272,ho1,ho2,ho3,e1,e2,hnr,hsb,f1];rw[hcall _ rfl];simp only[go_sem,f2];rw[hcall2 _ rfl];simp only[go_sem,e5];refine ih2 _ _ ?_ ?_ ?_ ?_ ?_ ?_ ?_ ?_ ?_ ?_ ?_ ?_ ?_
      all_goals first|rfl|assumption
   ·rw[if_neg hq];have f1:(eq=0)=False:=ff hq;refine⟨?hh1,?_,?_,?_⟩;rotate_left
    ·simp only[eU,go_sem,g1,g4,g5,g7,g8,g36,g37,g38,k2,k4,k5,k2248,k2272,ho1,ho2,ho3,e1,e2,hnr,hsb,f1];rfl
    ·rfl
    ·rfl
  ·rw[if_neg hm];have f1:(em=0)=False:=ff hm;refine⟨?hh2,?_,?_,?_⟩;rotate_left
   ·simp only[eU,go_sem,g1,g4,g5,g7,g8,g36,g37,g38,k2,k4,k5,k2248,k2272,ho1,ho2,ho3,e1,e2,hnr,f1];rfl
   ·rfl
   ·rfl
theorem apR{v v' p:Int}{A:List Rt}(hA:Cl v A)(hn:A.length<=100000){o2:Ob}(k2c:∀ids,aD ids o2=true)(s:ak)(h:ac)(X:Option (Ex×St))(hX:ai 1 [4,5,7,8] (ax (aj R (az false) eU) [1,4,5,7,8,36,37,38] [2,4,5,2248,2272] s h)=X)
  (g1:s 1=I p) (g4:s 4=.ref 4 none 0 0 0) (g5:s 5=.ref 5 none 0 0 0) (g7:s 7=.ref 2248 none 0 0 0) (g8:s 8=.ref 2272 none 0 0 0) (g36:s 36=.sl 4 (aJ A)) (g37:s 37=I A.length) (g38:s 38=I 0) (k2:h 2=o2) (k4:h 4=.bx [I 0,.emp]) (k5:h 5=.bx [I 0,.emp]) (k2248:h 2248=t3 v' .emp 0) (k2272:h 2272=t3 v' .emp 0):
  RB X 2248 2272 (upd (upd (upd (upd (fun _=>.any) 8 (.ref 2272 none 0 0 0)) 7 (.ref 2248 none 0 0 0)) 5 (.ref 5 none 0 0 0)) 4 (.ref 4 none 0 0 0)) v' [] [] (Ap p A):=by
 subst hX;exact aiy hA hn k2c A.length 0 (ayc _) .emp .emp [] [] (.inr ⟨rfl,rfl⟩) (.inr ⟨rfl,rfl⟩) (Bf.nil _) (Bf.nil _) γ γ s h g1 g4 g5 g7 g8 g36 g37 g38 k2 k4 k5 k2248 k2272
theorem S5{a:Rp}{p:Int}(oa:OkP a):R fcl [aT a,I p] []=some (S4 (dO a p),[]):=by
 refine au VZ rfl ?_;have v1:=vj oa;simp only[aT]at v1;unfold dO;cases va:vp a with
 |false=>
  rw[va]at v1;simp only[oH,uI,aT,go_sem,v1];rfl
 |true=>
  rw[va]at v1;rw[if_pos rfl];by_cases h8:p<8
  ·have e0:(p<8)=True:=eq_true h8;simp only[oH,uI,aT,go_sem,v1,e0];rfl
  ·have e0:(p<8)=False:=eq_false h8;by_cases h9:512<p
   ·have e3:(512<p)=True:=eq_true h9;simp only[oH,uI,aT,go_sem,v1,e0,e3];rfl
   ·have e3:(512<p)=False:=eq_false h9;rw[if_neg ω];obtain⟨ka,a0,a8,al⟩:=lE oa va;have hemp:=Bp (v:=a.vars);have hl:=apR (v:=a.vars) (v':=a.vars) (p:=p) ka ω (o2:=.bx [I a.vars,.sl 4 (aJ a.terms)]) (fun _=>rfl);simp only[oH,uI,aT,go_sem,v1,e0,e3,hemp,pM];generalize hX:ai 1 _ _=X;have hM:=hl _ _ _ hX rfl rfl rfl rfl rfl rfl rfl rfl rfl rfl rfl rfl rfl;cases hr:Ap p a.terms with
    |none=>
     rw[hr]at hM;obtain⟨hh,rfl,q4,q5⟩:=hM;simp only[S4,p0,aT,go_sem,q4,q5];rfl
    |some q=>
     rw[hr]at hM;obtain⟨hh,c1,c2,rfl,q4,q5,q1,q2,i1,i2⟩:=hM;obtain⟨r1,r2⟩:=q;simp only[t3]at q1 q2;rcases i1 with rfl| ⟨rfl,rfl⟩
     ·rcases i2 with rfl| ⟨rfl,rfl⟩
      ·simp only[S4,aT,go_sem,ayG,ayQ,q4,q5,q1,q2,vz,yT,ays,ayu,Am,yr]
      ·simp only[S4,aT,go_sem,ayG,ayQ,q4,q5,q1,q2,vz,yT,ays,ayu,Am,yr,Bq];rfl
     ·rcases i2 with rfl| ⟨rfl,rfl⟩
      ·simp only[S4,aT,go_sem,ayG,ayQ,q4,q5,q1,q2,vz,yT,ays,ayu,Am,yr,Bq];rfl
      ·simp only[S4,aT,go_sem,ayG,ayQ,q4,q5,q1,q2,vz,yT,ays,ayu,Am,Bq];rfl
def NW(blk:Option (Ex×St))(i1 i2:Nat)(S:ak)(v':Int)(l1 l2 r1 r2:List Rt):Prop:=
 ∃hh c1 c2,blk=some (.normal,⟨S,hh⟩)/\hh 4=.bx [I 0,.emp]/\hh 5=.bx [I 0,.emp]/\hh i1=.bx [I v',c1]/\hh i2=.bx [I v',c2]/\pJ c1 (l1++r1)/\pJ c2 (l2++r2)
theorem NW.p1{blk:Option (Ex×St)}{i1 i2:Nat}{S:ak}{v':Int}{l1 l2 r1 r2:List Rt}{t:Rt}(h:NW blk i1 i2 S v' (l1++[t]) l2 r1 r2):NW blk i1 i2 S v' l1 l2 (t::r1) r2:=by
 obtain⟨hh,c1,c2,h1,h2,h3,h4,h5,h6,h7⟩:=h;exact⟨hh,c1,c2,h1,h2,h3,h4,h5,by rwa[List.append_cons],h7⟩
theorem NW.p2{blk:Option (Ex×St)}{i1 i2:Nat}{S:ak}{v':Int}{l1 l2 r1 r2:List Rt}{t:Rt}(h:NW blk i1 i2 S v' l1 (l2++[t]) r1 r2):NW blk i1 i2 S v' l1 l2 r1 (t::r2):=by
 obtain⟨hh,c1,c2,h1,h2,h3,h4,h5,h6,h7⟩:=h;exact⟨hh,c1,c2,h1,h2,h3,h4,h5,h6,by rwa[List.append_cons]⟩
def aiz(blk:Option (Ex×St))(i1 i2:Nat)(S:ak)(v':Int)(l1 l2:List Rt):Option (List Rt×List Rt)->Prop
 |some q=>NW blk i1 i2 S v' l1 l2 q.1 q.2
 |none=>∃hh,blk=some (.ret,⟨upd (upd (upd (fun _=>.any) 6 (I 9)) 5 (.ref 5 none 0 0 0)) 4 (.ref 4 none 0 0 0),hh⟩)/\hh 4=.bx [I 0,.emp]/\hh 5=.bx [I 0,.emp]
theorem aiz.step{blk:Option (Ex×St)}{i1 i2:Nat}{S:ak}{v':Int}{l1 l2:List Rt}{x:List Int}{c d:Rd}:∀ {o:Option (List Rt×List Rt)},aiz blk i1 i2 S v' (l1++eu x c []) (l2++eu x d []) o->aiz blk i1 i2 S v' l1 l2 (o.map fun q=>(eu x c q.1,eu x d q.2)):=by
 intro o h;cases o with
 |none=>exact h
 |some q=>
  obtain⟨hh,c1,c2,h1,h2,h3,h4,h5,h6,h7⟩:=h;exact⟨hh,c1,c2,h1,h2,h3,h4,h5,by rwa[FN]at h6,by rwa[FN]at h7⟩
theorem Cl.filter{v:Int}{l:List Rt}(h:Cl v l)(p:Rt->Bool):Cl v (l.filter p):=⟨fun t ht=>h.t t (List.mem_filter.1 ht).1,h.s.filter p⟩
theorem Cn{a:Rp}{o:Int}(oa:OkP a):(Cl (cR a o).1.vars (cR a o).1.terms/\(cR a o).1.terms.length<=100000)/\(Cl (cR a o).2.vars (cR a o).2.terms/\(cR a o).2.terms.length<=100000):=by
 unfold cR;cases va:vp a with
 |false=>
  rw[if_neg ayl];exact⟨⟨Cl.nil _,by decide⟩,⟨Cl.nil _,by decide⟩⟩
 |true=>
  obtain⟨ka,a0,a8,al⟩:=lE oa va;exact⟨⟨ka.filter _,by grind⟩,⟨ka.filter _,by grind⟩⟩
theorem LE{v p:Int}:∀ {ts:List Rt} {q:List Rt×List Rt},Cl v ts->Ap p ts=some q->(Cl v q.1/\q.1.length<=ts.length/\∀y∈q.1,∃t∈ts,y.exps=t.exps)/\(Cl v q.2/\q.2.length<=ts.length/\∀y∈q.2,∃t∈ts,y.exps=t.exps)
 |[],q,_,h=>by
  cases h;grind
 |t::ts,q,c,h=>by
  obtain⟨vt,ht,c2⟩:=c.cons;unfold Ap at h;split at h
  ·split at h
   ·rw[aye]at h;obtain⟨q2,h2,rfl⟩:=h;obtain⟨⟨k1,k2,k3⟩,⟨k4,k5,k6⟩⟩:=LE c2 h2;have key:∀ {d:Rd} {l:List Rt},vd d=true->Ok0 d->Cl v l->l.length<=ts.length->(∀y∈l,∃t∈ts,y.exps=t.exps)->Cl v (eu t.exps d l)/\(eu t.exps d l).length<=(t::ts).length/\∀y∈eu t.exps d l,∃q∈t::ts,y.exps=q.exps:=by
     intro d l vdd od cl hl hy;unfold eu;split
     ·refine⟨cl,by simp;omega,fun y h=>?_⟩;obtain⟨q,hq,he⟩:=hy y h;exact⟨q,by simp[hq],he⟩
     ·rename_i h0;refine⟨Cl.mk' (vt.put od vdd h0) (fun y h=>?_) cl,by simp;omega,fun y h=>?_⟩
      ·obtain⟨q,hq,he⟩:=hy y h;rw[he];exact ht q hq
      ·rcases List.mem_cons.1 h with rfl|h
       ·exact⟨t,by simp,rfl⟩
       ·obtain⟨q,hq,he⟩:=hy y h;exact⟨q,by simp[hq],he⟩
    exact⟨key (Io _ _).1 (Io _ _).2 k1 k2 k3,key (Bu _ _).1 (Bu _ _).2 k4 k5 k6⟩
   ·cases h
  ·cases h
theorem KE{a:Rp}{p:Int}(oa:OkP a):Res ((dO a p).1.1,(dO a p).2)/\Res ((dO a p).1.2,(dO a p).2):=by
 have h0:∀e,Res (p0,e):=fun e=>⟨Cl.nil _,ayB _,.inr rfl⟩;unfold dO;cases va:vp a with
 |false=>
  grind
 |true=>
  rw[if_pos rfl];split
  ·grind
  ·obtain⟨ka,a0,a8,al⟩:=lE oa va;cases hr:Ap p a.terms with
   |none=>grind
   |some q=>
    obtain⟨⟨k1,k2,_⟩,⟨k3,k4,_⟩⟩:=LE ka hr;exact⟨⟨k1,by grind,.inl rfl⟩,⟨k3,by grind,.inl rfl⟩⟩
abbrev KF(l:List Rm):List (List AV):=l.map fun m=>Hc m
theorem apS{s:Rs}{m:Rm}(os:OkS s)(om:OkM m):R fbQ [fh m,.ref 1000 none 0 0 0] [.bx (Cm s)]=some (B (!tl s m),[.bx (Cm s)]):=by
 refine EK O0 OZ (Ca false) rfl ?_;have h:=FM os om;generalize tl s m=b at h⊢;simp only[xZ,Fj,go_sem,h];exact sj rfl rfl rfl rfl rfl
theorem atG(l:List (List AV)):l.map (dQ [])=l:=rp fun x _=>Vs x
theorem anu:Src fdL fdS 9 true [.o 0 [],.o 5 [],.o 0 [],.o 2 [],.o 0 [],.o 0 [],.o 2 [],.o 0 [],.o 0 []]:=
 ⟨bX.2.1,bX.2.2,bX.1.2.2.2 false,bX.1.2.1 false,bX.1.2.2.2 false,bX.1.1 false,
  aY.2.1,aY.2.2,aY.1.2.2.2 false⟩
theorem ak7(m:Rm):dQ [.o 0 [],.o 5 [],.o 0 [],.o 2 [],.o 0 [],.o 0 [],.o 2 [],.o 0 [],.o 0 []] (Hc m)=Hc m:=by
 simp only[go_sem,atG]
theorem LG(l:List Rm):(KF l).map (dQ [.o 0 [],.o 5 [],.o 0 [],.o 2 [],.o 0 [],.o 0 [],.o 2 [],.o 0 [],.o 0 []])=KF l:=by
 refine rp fun x hx=>?_;obtain⟨t,ht,rfl⟩:=List.mem_map.1 hx;exact ak7 t
def pN(s:Rs)(l:List Rm):Bool:=j7 s&&!(l.any fun m=>!tl s m)
theorem kD{s:Rs}{l:List Rm}(os:OkS s)(om:∀m∈l,OkM m)(hl:l.length<4611686018427387904):R fbP [mM s,.sl 9 (KF l)] []=some (B (pN s l),[]):=by
 refine au TL rfl ?_;have h1:=tj os.d os.n;unfold pN;cases g1:j7 s with
 |false=>
  rw[g1]at h1;simp only[vK,CA,go_sem,h1,ayh]
 |true=>
 rw[g1]at h1;have hc:=Lq anu (Frow:=fun m=>Hc m) (l:=l) (q:=fun m=>!tl s m) (LB s) (Fy false) (Ca false) hl (LG _) fun m hm=>⟨fh m,fh m,rfl,rfl,rfl,by rw[Nf];simp only[go_sem,EV],apS os (om m hm)⟩;generalize(l.any fun m=>!tl s m)=b at hc⊢;have hcc:=fun(h:ac) (d:Nat) (hh:h 2=.bx (Cm s)) (hf:h (2000+8*d)=.dead)=>EL (f:=fdL) (g:=fbQ) (h:=h) (d:=d) (id:=2) (zas:=[.sl 9 (KF l)]) (as':=[.sl 9 (KF l)]) (aY.1.2.1 false) (aY.1.2.2.2 false)
  (by rw[aY.1.1];simp only[go_sem,LG,ayW,ayq]) rfl rfl hh (LB _) (LB _) (fun h=>h) hc (Xi _) (ayU rfl) (by simp[cA,cF,hf,bY])
 simp only[ayW,ayq,go_sem]at hcc;simp only[vK,CA,go_sem,h1];rw[hcc _ _ rfl rfl];simp only[go_sem]
def bV(s:Rs):Rm:=⟨⟨s.dom.length,[]⟩,dm⟩
theorem mY{s:Rs}:R fbS [mM s] []=some (fh (bV s),[]):=by
 refine au VR rfl ?_;have h:=jD;simp only[am,ap,dm,aH]at h;simp only[CB,JF,bV,dm,aH,ayu,go_sem,h];rfl
noncomputable def KG (a:Rp) (dom:List Ri) (p:Int):Ri:=open Classical in if h:∃z,R fak [aT a,.sl 7 (bQ dom),I p] []=some (am z,[])/\OkI z/\vi z=true then Classical.choose h else dm
theorem LH{a:Rp}{dom:List Ri}{p:Int}(oa:OkP a)(od:∀x∈dom,OkI x)(h2:dom.length<=100000):R fak [aT a,.sl 7 (bQ dom),I p] []=some (am (KG a dom p),[])/\OkI (KG a dom p)/\vi (KG a dom p)=true:=by
 have h:∃z,R fak [aT a,.sl 7 (bQ dom),I p] []=some (am z,[])/\OkI z/\vi z=true:=by
  obtain⟨b,hB,hbr,hbn⟩:=XH oa od h2 (p:=p);cases hq:(nP a dom&&bG p)with
  |false=>
   have hb:=hbn hq;subst hb;refine⟨_,NV oa od h2 (p:=p) (b:=dm) Kf.ok' (fun _=>hB),?_⟩;unfold Im;rw[hq];exact⟨Kf.ok',rfl⟩
  |true=>
   have hq2:=hq;rw[ayf]at hq2;obtain⟨hv,hl,hk⟩:=PH od hq2.1;have i2:=hbr _ _ (LC dom);obtain⟨m1,m2⟩:=Ii (Ky (p:=p) oa (uq.inL hk (LC dom))) i2;refine⟨_,NV oa od h2 (p:=p) (b:=b) i2.ok (fun _=>hB),?_⟩;unfold Im;rw[if_pos hq,if_pos m1];exact⟨m2.ok,m2.v⟩
 unfold KG;rw[dif_pos h];exact Classical.choose_spec h
noncomputable def iO (a:Rp) (dom:List Ri) (p:Int):Ri:=if a.terms.length=0 then bN else KG a dom p
theorem yW{a:Rp}{dom:List Ri}{p:Int}(oa:OkP a)(od:∀x∈dom,OkI x)(h2:dom.length<=100000):OkI (iO a dom p)/\vi (iO a dom p)=true:=by
 unfold iO;split
 ·exact⟨⟨aU.2,aU.2⟩,by have v:=aU.1;unfold bN;grind[vi]⟩
 ·exact(LH oa od h2).2
theorem FO{a:Rp}{dom:List Ri}{p:Int}(oa:OkP a)(od:∀x∈dom,OkI x)(h2:dom.length<=100000):R fbT [aT a,.sl 7 (bQ dom),I p] []=some (am (iO a dom p),[]):=by
 refine au Qn rfl ?_;have h1:=S2;have h3:=(LH oa od h2 (p:=p)).1;unfold iO;generalize KG a dom p=z at h3⊢;simp only[aT,am,ap]at h1 h3;by_cases g:a.terms.length=0
 ·have f:((a.terms.length:Int)=0)=True:=tt;rw[if_pos g];simp only[tT,AI,aT,am,ap,go_sem,h1,f]
 ·have f:((a.terms.length:Int)=0)=False:=ff;rw[if_neg g];simp only[tT,AI,aT,am,ap,go_sem,h3,f]
noncomputable def vB (s:Rs) (q:Rp):(Rp×Ri)×Bool:=
 if(dO (cR q s.ord).1 s.p).2=0 then((⟨s.dom.length,(dO (cR q s.ord).1 s.p).1.1.terms⟩,eG (iO (cR q s.ord).2 s.dom s.p) (iO (dO (cR q s.ord).1 s.p).1.2 s.dom s.p) s.p),true)
 else(((dO (cR q s.ord).1 s.p).1.1,bN),false)
theorem ak8{s:Rs}{q:Rp}(os:OkS s)(oq:OkP q)(h2:s.dom.length<=100000):R fbO [mM s,aT q] []=some (.tup [aT (vB s q).1.1,am (vB s q).1.2,B (vB s q).2],[]):=by
 refine au YQ rfl ?_;have h1:=SU (o:=s.ord) oq;obtain⟨⟨c1,_⟩,c2,_⟩:=Cn (o:=s.ord) oq;unfold vB;generalize cR q s.ord=sp at h1 c1 c2⊢;have h3:=S5 (p:=s.p) (iW c1);obtain⟨r1,r2⟩:=KE (p:=s.p) (iW c1);generalize dO sp.1 s.p=r at h3 r1 r2⊢;have h4:=FO (p:=s.p) (iW c2) os.d h2;have h5:=FO (p:=s.p) (iW r2.cl) os.d h2;have k4:=yW (p:=s.p) (iW c2) os.d h2;have k5:=yW (p:=s.p) (iW r2.cl) os.d h2;generalize iO sp.2 s.dom s.p=x at h4 k4⊢;simp only at h5 k5;generalize iO r.1.2 s.dom s.p=y at h5 k5⊢;have h6:=yH k4.1 k5.1 (p:=s.p);generalize eG x y s.p=z at h6⊢;simp only[Xv,S4,aT,am,ap]at h1 h3 h4 h5 h6;by_cases g:r.2=0
 ·have f:(r.2=0)=True:=eq_true g;rw[if_pos g];simp only[zH,F5,aT,am,ap,go_sem,h1,h3,h4,h5,h6,f]
 ·have f:(r.2=0)=False:=eq_false g;rw[if_neg g];simp only[zH,F5,aT,am,ap,bN,aH,go_sem,h1,h3,f]
noncomputable def jF (s:Rs) (q:Rp) (e:Int) (r:Ri):Rm:=if e=0 then(if(vB s q).2=true then⟨(vB s q).1.1,eG r (vB s q).1.2 s.p⟩else bV s)else bV s
theorem ak9{s:Rs}{q:Rp}:OkI (vB s q).1.2:=by
 unfold vB;split
 ·exact yL
 ·exact⟨aU.2,aU.2⟩
theorem NX{s:Rs}{q:Rp}{e:Int}{r:Ri}(os:OkS s)(oq:OkP q)(or:OkI r)(h2:s.dom.length<=100000):R fbR [mM s,aT q,I e,am r] []=some (fh (jF s q e r),[]):=by
 refine au VU rfl ?_;have h1:=mY (s:=s);have h3:=ak8 os oq h2;have h4:=yH or (ak9 (s:=s) (q:=q)) (p:=s.p);unfold jF;generalize vB s q=c at h3 h4⊢;generalize eG r c.1.2 s.p=z at h4⊢;simp only[aT,am,ap]at h3 h4;by_cases g:e=0
 ·have f:(e=0)=True:=eq_true g;rw[if_pos g];cases g2:c.2 with
  |true=>
   rw[g2]at h3;rw[if_pos rfl];simp only[sF,zB,aT,am,ap,go_sem,h3,h4,f]
  |false=>
   rw[g2]at h3;rw[if_neg ayl];generalize bV s=n at h1⊢;simp only[sF,zB,aT,am,ap,go_sem,h1,h3,f]
 ·have f:(e=0)=False:=eq_false g;rw[if_neg g];generalize bV s=n at h1⊢;simp only[sF,zB,aT,am,ap,go_sem,h1,f]
theorem anv:R fcE [I 0] []=some (ae aH,[]):=Rq (n:=60) κ
theorem afX:R fcE [I 1] []=some (ae one,[]):=Rq (n:=60) κ
theorem aiA:R fcE [I (-1)] []=some (ae yu,[]):=Rq (n:=60) κ
theorem PJ:R fbB [I 0] []=some (am bN,[]):=by
 refine au Zv rfl ?_;have h1:=anv;have h2:=gX aU.2 aU.1;simp only[am,ap,ae,ah,aH]at h1 h2;simp only[HD,P8,am,ap,bN,aH,go_sem,h1,h2]
theorem aaI:R fde [] []=some (am lG,[]):=by
 refine au ach rfl ?_;have h1:=aiA;have h2:=afX;simp only[ae,ah,yu,one]at h1 h2;simp only[F4,OF,am,ap,lG,yu,one,go_sem,h1,h2]
theorem anw{d:Rd}{p:Int}(od:Ok0 d)(hl:d.m.length<=100000):R fcX [ae d,I p] []=some (B (vA d p),[]):=by
 refine au ag9 rfl ?_;have h1:=ahH (p:=p);have h2:=FF od;have h3:=ahF od.lb hl;unfold vA;simp only[ae,ah]at h2;cases g1:bG p with
 |false=>
  rw[g1]at h1;simp only[B4,HI,ae,ah,go_sem,h1,ayh]
 |true=>
 rw[g1]at h1;cases g2:vd d with
 |false=>
  rw[g2]at h2;simp only[B4,HI,ae,ah,go_sem,h1,h2,ayh,ay1]
 |true=>
 rw[g2]at h2;simp only[B4,HI,ae,ah,go_sem,h1,h2,h3,ayg]
theorem anx{x y:Ri}(h:vi x=false\/x.all=true)(hy:y.all=false):lS x y=false:=by
 grind[lS]
theorem ala{s:Rs}(os:OkS s)(hl:s.dom.length<=100000):∀ (rest:List Ri) (n:Nat),s.dom.drop n=rest->n<=s.dom.length->∀ (S:ak) (h:ac),S 1=.ref 1 none 0 0 0->S 3=I n->h 1=.bx (Cm s)->
  ∃hh,ai 0 [] (ax (aj R (az false) gG) [1,3] [1] S h)=if(rest.any fun x=>!lS x lG)=true then some (.ret,⟨upd (fun _=>.any) 2 (B false),hh⟩)else some (.normal,⟨fun _=>.any,hh⟩):=by
 intro rest;induction rest with
 |nil=>
  intro n hd hn S h h1 h3 k1;have e:n=s.dom.length:=by
   have:=congrArg List.length hd;grind
  subst e;rw[ag];refine⟨?hh0,?_⟩;rotate_left
  ·simp only[gG,go_sem,h1,h3,k1,ay6];rfl
 |cons x rest ih=>
  intro n hd hn S h h1 h3 k1;have hlt:n<s.dom.length:=by
   grind
  have hr:s.dom[n]?=some x:=by
   have:=congrArg (·[0]?) hd;grind
  have ih':=ih (n+1) (by rw[←List.drop_drop,hd];rfl) hlt;have e1:((n:Int)< (s.dom.length:Int))=True:=tt;have e2:aX (bQ s.dom) (n:Int)=some (.ipt (ap x)):=Ds rfl hr;have e3:IntKind.i64.wrap ((n:Int)+1)=((n+1:Nat):Int):=by grind[i64_in]
  have ox:=os.d x (List.mem_of_getElem? hr);have v1:=FG ox;have v2:=aaI;have v3:=adb ox LA.1;have hk:=anx (x:=x) (y:=lG);rw[List.any_cons,ag];generalize lS x lG=bi at v3 hk⊢;simp only[am,ap,lG,yu,one]at e2 v1 v2 v3;cases g1:vi x with
  |false=>
   rw[g1]at v1;rw[hk (Or.inl g1) rfl];refine⟨?hh1,?_⟩;rotate_left
   ·simp only[gG,go_sem,h1,h3,k1,e1,e2,v1];rfl
  |true=>
  rw[g1]at v1;cases g2:x.all with
  |true=>
   rw[hk (Or.inr g2) rfl];rw[g2]at v1 e2;refine⟨?hh2,?_⟩;rotate_left
   ·simp only[gG,go_sem,h1,h3,k1,e1,e2,v1];rfl
  |false=>
  rw[g2]at v1 e2 v3;cases bi with
  |false=>
   refine⟨?hh3,?_⟩;rotate_left
   ·simp only[gG,go_sem,h1,h3,k1,e1,e2,v1,v2,v3];rfl
  |true=>
   simp only[gG,go_sem,h1,h3,k1,e1,e2,e3,v1,v2,v3];exact ih' _ _ rfl rfl rfl
theorem XM{s:Rs}(os:OkS s):R fdd [mM s] []=some (B (j7 s),[]):=by
 refine au YJ rfl ?_;have hp:=ahI (p:=s.p);unfold j7;by_cases g1:(s.dom.length:Int)<1
 ·have f1:((s.dom.length:Int)<1)=True:=eq_true g1;rw[decide_eq_false (p:=1<=s.dom.length) ω,ayh];simp only[kU,pW,go_sem,f1]
 have f1:((s.dom.length:Int)<1)=False:=eq_false g1;rw[decide_eq_true (p:=1<=s.dom.length) ω,ayg];by_cases g2:8< (s.dom.length:Int)
 ·have f2:(8< (s.dom.length:Int))=True:=eq_true g2;rw[decide_eq_false (p:=s.dom.length<=8) ω,ayh];simp only[kU,pW,go_sem,f1,f2]
 have f2:(8< (s.dom.length:Int))=False:=eq_false g2;rw[decide_eq_true (p:=s.dom.length<=8) ω,ayg];by_cases g3:s.ord<1
 ·have f3:(s.ord<1)=True:=eq_true g3;rw[decide_eq_false (p:=1<=s.ord) ω,ayh];simp only[kU,pW,go_sem,f1,f2,f3]
 have f3:(s.ord<1)=False:=eq_false g3;rw[decide_eq_true (p:=1<=s.ord) ω,ayg];by_cases g4:16<s.ord
 ·have f4:(16<s.ord)=True:=eq_true g4;rw[decide_eq_false (p:=s.ord<=16) ω,ayh];simp only[kU,pW,go_sem,f1,f2,f3,f4]
 have f4:(16<s.ord)=False:=eq_false g4;rw[decide_eq_true (p:=s.ord<=16) ω,ayg];cases g5:bG s.p with
 |false=>
  rw[g5]at hp;simp only[kU,pW,go_sem,f1,f2,f3,f4,hp,ayh]
 |true=>
 rw[g5]at hp;have hL:=ala os ω s.dom 0 rfl (ayB _);generalize hLL:ax (aj R (az false) gG) [1,3] [1]=L at hL;have hXL:∀s h,aj R (az false) (.loop [1,3] [1] gG) s h=L s h:=fun s h=>by rw[←hLL];rfl
 clear hLL;rw[ayg];generalize(s.dom.any fun x=>!lS x lG)=b at hL⊢;have hL2:∀ (S:ak) (h:ac) (X:Option (Ex×St)),ai 0 [] (L S h)=X->S 1=.ref 1 none 0 0 0->S 3=I 0->h 1=.bx (Cm s)->∃hh,X=if b=true then some (.ret,⟨upd (fun _=>.any) 2 (B false),hh⟩)else some (.normal,⟨fun _=>.any,hh⟩):=fun S h X hX k1 k2 k3=>by
  rw[←hX];exact hL S h k1 k2 k3
 simp only[kU,pW,go_sem,f1,f2,f3,f4,hp,hXL];generalize hX2:ai 0 [] (L _ _)=X;obtain⟨hh,g0⟩:=hL2 _ _ _ hX2 rfl rfl rfl;rw[g0];cases b with
 |true=>
  rw[if_pos rfl];simp only[go_sem]
 |false=>
  rw[if_neg ayl];simp only[go_sem]
theorem alb{s:Rs}{m:Rm}(hc:∀t∈m.P.terms,Ok0 t.c/\t.c.m.length<=100000)(hl:m.P.terms.length<=100000):∀ (rest:List Rt) (n:Nat),m.P.terms.drop n=rest->n<=m.P.terms.length->∀ (S:ak) (h:ac),S 2=.ref 2 none 0 0 0->S 3=.ref 3 none 0 0 0->S 5=I n->h 2=.bx (Cm s)->h 3=.bx (Hc m)->
  ∃hh,ai 0 [] (ax (aj R (az false) kq) [2,3,5] [2,3] S h)=if(rest.any fun t=>!vA t.c s.p)=true then some (.ret,⟨upd (fun _=>.any) 4 (B false),hh⟩)else some (.normal,⟨fun _=>.any,hh⟩):=by
 intro rest;induction rest with
 |nil=>
  intro n hd hn S h h2 h3 h5 k2 k3;have e:n=m.P.terms.length:=by
   have:=congrArg List.length hd;grind
  subst e;rw[ag];refine⟨?hh0,?_⟩;rotate_left
  ·rw[List.any_nil,if_neg ayl];simp only[kq,go_sem,h2,h3,h5,k2,k3,ay6];rfl
 |cons x rest ih=>
  intro n hd hn S h h2 h3 h5 k2 k3;have hlt:n<m.P.terms.length:=by
   grind
  have hr:m.P.terms[n]?=some x:=by
   have:=congrArg (·[0]?) hd;grind
  have ih':=ih (n+1) (by rw[←List.drop_drop,hd];rfl) hlt;have e1:((n:Int)< (m.P.terms.length:Int))=True:=tt;have e2:aX (aJ m.P.terms) (n:Int)=some (.ipt (bL x)):=fY rfl hr;have e3:IntKind.i64.wrap ((n:Int)+1)=((n+1:Nat):Int):=by grind[i64_in]
  obtain⟨ox,lx⟩:=hc x (List.mem_of_getElem? hr);have v1:=anw (p:=s.p) ox lx;rw[ag];generalize ax _ _ _=L at ih'⊢;simp only[bL]at e2;simp only[ae,ah]at v1;rw[List.any_cons];cases g1:vA x.c s.p with
  |false=>
   rw[g1]at v1;refine⟨?hh1,?_⟩;rotate_left
   ·rw[Bool.not_false,ay9,if_pos rfl];simp only[kq,go_sem,h2,h3,h5,k2,k3,e1,e2,v1];rfl
  |true=>
   rw[g1]at v1;simp only[Bool.not_true,Bool.false_or];simp only[kq,go_sem,h2,h3,h5,k2,k3,e1,e2,e3,v1];exact ih' _ _ rfl rfl rfl rfl rfl
theorem afY{s:Rs}{m:Rm}(os:OkS s)(om:OkM m)(hm:∀t∈m.P.terms,t.c.m.length<=100000):R fdf [mM s,fh m] []=some (B (tl s m),[]):=by
 refine au YI rfl ?_;have h1:=XM os;have h2:=MI om.c;have h4:=FG om.r;unfold tl;simp only[aT,am,ap]at h2 h4;cases g1:j7 s with
 |false=>
  rw[g1]at h1;simp only[kT,pU,go_sem,h1,ayh]
 |true=>
 rw[g1]at h1;cases g2:vp m.P with
 |false=>
  rw[g2]at h2;simp only[kT,pU,go_sem,h1,h2,ayh,ay1]
 |true=>
 rw[g2]at h2;by_cases g3:m.P.vars=(s.dom.length:Int)
 case neg=>
  have f3:(m.P.vars=(s.dom.length:Int))=False:=eq_false g3;simp only[kT,pU,go_sem,h1,h2,f3,ayh,ay1]
 have f3:(m.P.vars=(s.dom.length:Int))=True:=eq_true g3;have op:=XI om.c g2;have h3:=Y6 op;simp only[aT]at h3;by_cases g4:s.ord<eX m.P
 case pos=>
  have f4:(s.ord<eX m.P)=True:=eq_true g4;have f4':(eX m.P<=s.ord)=False:=ff;simp only[kT,pU,go_sem,h1,h2,h3,f3,f4,f4',ayh,ay1]
 have f4:(s.ord<eX m.P)=False:=eq_false g4;have f4':(eX m.P<=s.ord)=True:=tt;cases g5:vi m.R with
 |false=>
  rw[g5]at h4;simp only[kT,pU,go_sem,h1,h2,h3,h4,f3,f4,f4',ayh,ay1]
 |true=>
 rw[g5]at h4;have hL:=alb (s:=s) (m:=m) (fun t ht=>⟨om.c t ht,hm t ht⟩) (by have:=(lE op g2).2.2.2;omega) m.P.terms 0 rfl (ayB _);generalize hLL:ax (aj R (az false) kq) [2,3,5] [2,3]=L at hL;have hXL:∀s h,aj R (az false) (.loop [2,3,5] [2,3] kq) s h=L s h:=fun s h=>by rw[←hLL];rfl
 clear hLL;generalize(m.P.terms.any fun t=>!vA t.c s.p)=b at hL⊢;have hL2:∀ (S:ak) (h:ac) (X:Option (Ex×St)),ai 0 [] (L S h)=X->S 2=.ref 2 none 0 0 0->S 3=.ref 3 none 0 0 0->S 5=I 0->h 2=.bx (Cm s)->h 3=.bx (Hc m)->∃hh,X=if b=true then some (.ret,⟨upd (fun _=>.any) 4 (B false),hh⟩)else some (.normal,⟨fun _=>.any,hh⟩):=fun S h X hX k1 k2 k3 k4 k5=>by
  rw[←hX];exact hL S h k1 k2 k3 k4 k5
 simp only[kT,pU,go_sem,h1,h2,h3,h4,f3,f4,f4',hXL];generalize hX2:ai 0 [] (L _ _)=X;obtain⟨hh,g0⟩:=hL2 _ _ _ hX2 rfl rfl rfl rfl rfl;rw[g0];cases b with
 |true=>
  rw[if_pos rfl];simp only[go_sem]
 |false=>
  rw[if_neg ayl];simp only[go_sem]
theorem aBX{s:Rs}{a b:Rm}(os:OkS s)(oa:OkM a)(ob:OkM b)(ha:∀t∈a.P.terms,t.c.m.length<=100000)(hb:∀t∈b.P.terms,t.c.m.length<=100000):R fbC [mM s,fh a,fh b] []=some (B (tl s a&&tl s b),[]):=by
 refine au aBu rfl ?_;have h1:=afY os oa ha;have h2:=afY os ob hb;cases g:tl s a with
 |false=>
  rw[g]at h1;simp only[aAj,aAC,go_sem,h1,ayh]
 |true=>
  rw[g]at h1;simp only[aAj,aAC,go_sem,h1,h2,ayg]
theorem S6{x:Ri}(h:vi x=true):lS x x=true:=by
 unfold lS;cases ha:x.all with
 |true=>simp[h]
 |false=>simp[h]
def tM(p:Int):Ri->List Ri->Ri
 |x,[]=>x
 |x,y::l=>tM p (eG x y p) l
theorem aaJ{p:Int}:∀ {l:List Ri} {x:Ri},OkI x->OkI (tM p x l)
 |[],_,h=>h
 |y::l,x,_=>(aaJ (l:=l) yL:OkI (tM p (eG x y p) l))
theorem af0{p:Int}{l:List Ri}(ol:∀x∈l,OkI x)(hl:l.length<=100000):∀ (rest:List Ri) (n:Nat) (x:Ri),OkI x->l.drop n=rest->n<=l.length->∀ (S:ak) (h:ac),S 0=I p->S 4=.ref 4 none 0 0 0->S 6=.ref 6 none 0 0 0->S 9=.sl 7 (bQ l)->S 10=I l.length->S 11=I n->h 4=.bx (ap x)->h 6=.bx [B false,.emp,I 0,B false,.emp,I 0,B false]->
  ∃hh,ai 0 [4,6] (ax (aj R (az false) mP) [0,4,6,9,10,11] [4,6] S h)=some (.normal,⟨upd (upd (fun _=>.any) 6 (.ref 6 none 0 0 0)) 4 (.ref 4 none 0 0 0),hh⟩)/\hh 4=.bx (ap (tM p x rest))/\hh 6=.bx [B false,.emp,I 0,B false,.emp,I 0,B false]:=by
 intro rest;induction rest with
 |nil=>
  intro n x ox hd hn S h h0 h4 h6 h9 h10 h11 k4 k6;have e:n=l.length:=by
   have:=congrArg List.length hd;grind
  subst e;rw[ag];simp only[ap]at k4;refine⟨?hh0,?_,?_,?_⟩;rotate_left
  ·simp only[mP,go_sem,h0,h4,h6,h9,h10,h11,k4,k6,ay6];rfl
  ·rfl
  ·rfl
 |cons y rest ih=>
  intro n x ox hd hn S h h0 h4 h6 h9 h10 h11 k4 k6;have hlt:n<l.length:=by
   grind
  have hr:l[n]?=some y:=by
   have:=congrArg (·[0]?) hd;grind
  have ih':=ih (n+1) (eG x y p) yL (by rw[←List.drop_drop,hd];rfl) hlt;have e1:((n:Int)< (l.length:Int))=True:=tt;have e2:aX (bQ l) (n:Int)=some (.ipt (ap y)):=Ds rfl hr;have e3:IntKind.i64.wrap ((n:Int)+1)=((n+1:Nat):Int):=by grind[i64_in]
  have v1:=yH ox (ol y (List.mem_of_getElem? hr)) (p:=p);rw[ag];rw[show tM p x (y::rest)=tM p (eG x y p) rest from rfl];generalize ax _ _ _=L at ih'⊢;generalize eG x y p=z at v1 ih'⊢;simp only[ap]at e2 k4;simp only[am,ap]at v1;simp only[mP,go_sem,h0,h4,h6,h9,h10,h11,k4,k6,e1,e2,e3,v1];exact ih' _ _ rfl rfl rfl rfl rfl rfl rfl rfl
theorem alc{p:Int}{l:List Ri}{x:Ri}(ox:OkI x)(ol:∀x∈l,OkI x)(hl:l.length<=100000):R fbU [I p,am x,.sl 7 (bQ l)] []=some (am (tM p x l),[]):=by
 refine au YM rfl ?_;have hL:=af0 (p:=p) ol hl l 0 x ox rfl (ayB _);generalize hLL:ax (aj R (az false) mP) [0,4,6,9,10,11] [4,6]=L at hL;have hXL:∀s h,aj R (az false) (.loop [0,4,6,9,10,11] [4,6] mP) s h=L s h:=fun s h=>by rw[←hLL];rfl
 clear hLL;generalize tM p x l=z at hL⊢;have hL2:∀ (S:ak) (h:ac) (X:Option (Ex×St)),ai 0 [4,6] (L S h)=X->S 0=I p->S 4=.ref 4 none 0 0 0->S 6=.ref 6 none 0 0 0->S 9=.sl 7 (bQ l)->S 10=I l.length->S 11=I 0->h 4=.bx (ap x)->h 6=.bx [B false,.emp,I 0,B false,.emp,I 0,B false]->
   ∃hh,X=some (.normal,⟨upd (upd (fun _=>.any) 6 (.ref 6 none 0 0 0)) 4 (.ref 4 none 0 0 0),hh⟩)/\hh 4=.bx (ap z)/\hh 6=.bx [B false,.emp,I 0,B false,.emp,I 0,B false]:=fun S h X hX a b c d e f i j=>by
  rw[←hX];exact hL S h a b c d e f i j
 simp only[DV,Mq,am,ap,go_sem,hXL];generalize hX2:ai 0 [4,6] (L _ _)=X;obtain⟨hh,g0,g4,g6⟩:=hL2 _ _ _ hX2 rfl rfl rfl rfl rfl rfl rfl rfl;rw[g0];simp only[ap]at g4;simp only[go_sem,g4,g6]
noncomputable def adM (s:Rs) (a b:Rm):Rm:=if pN s [a,b]=true then jF s (Kl a.P b.P).1 (Kl a.P b.P).2 (eG a.R b.R s.p)else bV s
noncomputable def aDA (s:Rs) (a b:Rm):Rm:=if pN s [a,b]=true then jF s (aC2 a.P b.P).1 (aC2 a.P b.P).2 (If a.R b.R s.p)else bV s
theorem af2{s:Rs}{l:List Rm}(h:pN s l=true):j7 s=true/\∀m∈l,tl s m=true:=by
 simp_all[pN,ayf,azf,List.any_eq_false]
theorem iX{s:Rs}(h:j7 s=true):s.dom.length<=8/\bG s.p=true:=by
 simp_all[j7,ayf,decide_eq_true_eq]
theorem KH{s:Rs}{m:Rm}(om:OkM m)(h:tl s m=true):OkP m.P/\vp m.P=true/\m.P.vars=s.dom.length/\vi m.R=true:=by
 unfold tl at h;simp only[ayf,decide_eq_true_eq]at h;exact⟨XI om.c h.2.1,h.2.1,h.2.2.1,h.2.2.2.2.1⟩
theorem XO{α:Type}{p:α->Prop}{a b:α}(ha:p a)(hb:p b):∀m∈[a,b],p m:=fun m hm=>by
 grind
theorem ale{s:Rs}{a b:Rm}(os:OkS s)(oa:OkM a)(ob:OkM b):R fbE [mM s,fh a,fh b] []=some (fh (adM s a b),[]):=by
 refine au ME rfl ?_;have h1:=kD os (l:=[a,b]) (XO oa ob) σ;have h2:=mY (s:=s);unfold adM;simp only[ays,ayu]at h1;cases g:pN s [a,b]with
 |false=>
  rw[g]at h1;simp only[uE,BG,go_sem,h1,h2]
 |true=>
  rw[g]at h1;obtain⟨q1,q2⟩:=af2 g;obtain⟨a1,_⟩:=KH oa (q2 a σ);obtain⟨b1,_⟩:=KH ob (q2 b σ);have h3:=akm a1 b1;have h4:=yH oa.r ob.r (p:=s.p);have h5:=NX (e:=(Kl a.P b.P).2) (r:=eG a.R b.R s.p) os (ahR a1 b1) yL (by grind[iX]);simp only[pV,aT,am,ap]at h3 h4 h5;simp only[uE,BG,go_sem,h1,h3,h4,h5]
theorem aiB{s:Rd}(ok:Ok0 s)(v:vd s=true):R faN [ae s,I (-1)] []=some (rV (PI s),[]):=by
 refine au Qq rfl ?_;obtain⟨h0,h1,h2,h3⟩:=ef v ok.lb;have hv:=eC ok;rw[v]at hv;have hx:=BO (e:=-1);have ho:=nN (neg:=s.neg) (m:=s.m) (e:=s.e+-1) ok.lb ω (by grind[Exq]);rw[Ry ok v]at ho;have hl:Ok0 (df (zI s) (-16384- (1:Nat))):=by
  rw[←Ry ok v];exact⟨yG _ _ _,ayS (Be (k:=128) ω) δ⟩
 have hc:=Dh hl.lb (by
  rw[←Ry ok v];exact ayj (Be (k:=128) ω) δ)
 have e:(if rh (af (ab (df (zI s) (-16384- (1:Nat))).m)) (df (zI s) (-16384- (1:Nat))).e=true then AV.tup [ae (df (zI s) (-16384- (1:Nat))),I 0]else .tup [ae aH,I 9])=rV (PI s):=by
  grind[PI,cH,rV]
 rw[e]at hc;have ew:IntKind.i64.wrap (s.e+-1)=s.e+-1:=by grind[i64_in]
 simp only[ae,ah,rV]at hv ho hc;simp only[zC,Gy,rV,ae,ah,go_sem,hv,hx,ho,hc,ew,show decide ((-32768:Int)≤-1)=true from rfl,show decide ((-1:Int)<=32768)=true from rfl]
def lh(x:Ri)(p:Int):Rd:=if(kI x&&bG p)=true then(if(du x.lo x.hi p false).2=0 then(if(PI (du x.lo x.hi p false).1).2=0 then(if Rz x (PI (du x.lo x.hi p false).1).1=true then(PI (du x.lo x.hi p false).1).1 else x.lo)else x.lo)else x.lo)else aH
theorem Uv{x:Ri}(h:kI x=true):x.all=false/\vd x.lo=true/\vd x.hi=true:=by
 grind[kI,vi]
theorem aaK{x:Ri}{p:Int}(ox:OkI x):vd (lh x p)=true/\Ok0 (lh x p):=by
 unfold lh;split
 ·rename_i h;rw[ayf]at h;have hl:=(Uv h.1).2.1;split
  ·split
   ·split
    ·exact yO
    ·exact⟨hl,ox.lo⟩
   ·exact⟨hl,ox.lo⟩
  ·exact⟨hl,ox.lo⟩
 ·exact aU
theorem af3{x:Ri}{p:Int}(ox:OkI x):R fbb [am x,I p] []=some (ae (lh x p),[]):=by
 refine au Qh rfl ?_;have h1:=ve ox;have h2:=u9 (p:=p);unfold lh;cases g1:kI x with
 |false=>
  rw[g1]at h1;simp only[gY,ko,am,ap,ae,ah,aH,go_sem,h1,ayh,aza]
 |true=>
 rw[g1]at h1;cases g2:bG p with
 |false=>
  rw[g2]at h2;simp only[gY,ko,am,ap,ae,ah,aH,go_sem,h1,h2,ay1,aza]
 |true=>
 rw[g2]at h2;have h3:=H5 ox.lo ox.hi (p:=p);have h4:=aiB (Lc (a:=x.lo) (b:=x.hi) (p:=p) (up:=false)) QZ;have h5:=afU ox (d:=(PI (du x.lo x.hi p false).1).1) yO.2;generalize Rz x (PI (du x.lo x.hi p false).1).1=b at h5⊢;generalize PI (du x.lo x.hi p false).1=m at h4 h5⊢;generalize du x.lo x.hi p false=s at h3 h4⊢;simp only[am,ap,ae,ah,rV]at h3 h4 h5;by_cases k1:s.2=0
 case neg=>
  have f1:(s.2=0)=False:=eq_false k1;simp only[gY,ko,am,ap,ae,ah,go_sem,h1,h2,h3,f1]
 have f1:(s.2=0)=True:=eq_true k1;by_cases k2:m.2=0
 case neg=>
  have f2:(m.2=0)=False:=eq_false k2;simp only[gY,ko,am,ap,ae,ah,go_sem,h1,h2,h3,h4,f1,f2]
 have f2:(m.2=0)=True:=eq_true k2;cases b with
 |false=>
  simp only[gY,ko,am,ap,ae,ah,go_sem,h1,h2,h3,h4,h5,f1,f2]
 |true=>
  simp only[gY,ko,am,ap,ae,ah,go_sem,h1,h2,h3,h4,h5,f1,f2]
def Ip(x:Ri):Bool:=decide (20<x.lo.m.length)||decide (20<x.hi.m.length)
theorem aje{x:Ri}:R fby [am x] []=some (B (Ip x),[]):=by
 refine au CP rfl ?_;unfold Ip;by_cases g:20<x.lo.m.length
 ·have f:(20< (x.lo.m.length:Int))=True:=tt;rw[decide_eq_true g,ay9];simp only[vJ,Cz,am,ap,go_sem,f]
 ·have f:(20< (x.lo.m.length:Int))=False:=ff;have f2:(20< (x.hi.m.length:Int))=(20<x.hi.m.length):=γ
  rw[decide_eq_false g,Bool.false_or];simp only[vJ,Cz,am,ap,go_sem,f,f2]
theorem anz{t:Rt}:R fbA [.agg (bL t)] []=some (B (decide (20<t.c.m.length)),[]):=by
 refine au Fw rfl ?_;have f2:(20< (t.c.m.length:Int))=(20<t.c.m.length):=γ
 simp only[xT,Fd,bL,go_sem,f2]
def Hd(m:Rm):Bool:=decide (40<m.P.terms.length)|| (Ip m.R||m.P.terms.any fun t=>decide (20<t.c.m.length))
abbrev oG1:Ob:=.bx [.fn fby [] []]
theorem adc:OC oG1:=⟨fun _=>rfl,rfl,fun _=>rfl,rfl⟩
theorem apT{m:Rm}(hn:m.P.terms.length<4611686018427387904):R fbz [fh m,.ref 1000 none 0 0 0] [oG1]=some (B (Hd m),[oG1]):=by
 refine EK TK TJ (Ek false) rfl ?_;unfold Hd;by_cases g:40<m.P.terms.length
 ·have f:(40< (m.P.terms.length:Int))=True:=tt;rw[decide_eq_true g,ay9];simp only[qJ,xG,go_sem,f];exact sj rfl rfl rfl rfl rfl
 have f:(40< (m.P.terms.length:Int))=False:=ff;rw[decide_eq_false g,Bool.false_or];have h1:=aje (x:=m.R);have h2:R fdM [.sl 4 (aJ m.P.terms),.fn fbA [] []] []=some (B (m.P.terms.any fun t=>decide (20<t.c.m.length)),[]):=aai ajb (Frow:=bL) (f:=fbA) (Fw.1.2.1 false) hn (EV _) fun t ht=>⟨.agg (bL t),rfl,rfl,by simp only[bL,go_sem];exact anz⟩;simp only[am,ap]at h1;cases g2:Ip m.R with
 |true=>
  rw[g2]at h1;simp only[qJ,xG,go_sem,f,h1];exact sj rfl rfl rfl rfl rfl
 |false=>
  rw[g2]at h1;simp only[qJ,xG,go_sem,f,h1,h2];exact sj rfl rfl rfl rfl rfl
def KI(s:Rs)(l:List Rm):Bool:=(decide (3< (s.dom.length:Int))&&decide ((s.dom.length:Int)<=8))|| ((decide (6<s.ord)&&decide (s.ord<=16))|| ((decide (64<s.p)&&decide (s.p<=512))|| (decide (100< (s.dom.length:Int))|| (s.dom.any Ip||l.any Hd))))
theorem pr3(x y:Bool):x=false\/x=true/\y=false\/x=true/\y=true:=by cases x<;>cases y<;>simp
theorem ade{s:Rs}{l:List Rm}(os:OkS s)(om:∀m∈l,OkM m)(hl:l.length<4611686018427387904):R fbx [mM s,.sl 9 (KF l)] []=some (B (KI s l),[]):=by
 refine au YF rfl ?_;have h1:R fdK [.sl 7 (bQ s.dom),.fn fby [] []] []=some (B (s.dom.any Ip),[]):=aai ans (Frow:=ap) (f:=fby) (CP.1.2.1 false) os.n (ZT _) fun x hx=>⟨am x,rfl,rfl,by rw[CP.1.1];simp only[am,ap,go_sem];exact aje⟩;have h2:=Lq anu (Frow:=fun m=>Hc m) (l:=l) (q:=Hd) adc (IY false) (Ek false) hl (LG _) fun m hm=>⟨fh m,fh m,rfl,rfl,rfl,by rw[Ql];simp only[go_sem,EV],apT (om m hm).n⟩;have h2':=fun(h:ac) (d:Nat) (hh:h 5=oG1) (hf:h (2000+8*d)=.dead)=>EL (f:=fdL) (g:=fbz) (h:=h) (d:=d) (id:=5) (zas:=[.sl 9 (KF l)]) (as':=[.sl 9 (KF l)]) (aY.1.2.1 false) (aY.1.2.2.2 false)
  (by rw[aY.1.1];simp only[go_sem,LG,ayW,ayq]) rfl rfl hh adc adc (fun h=>h) h2 (Xi _) (ayU rfl) (by grind[cA,cF,bY])
 simp only[ayW,ayq,go_sem]at h2';unfold KI;generalize s.dom.any Ip=b1 at h1⊢;generalize l.any Hd=b2 at h2'⊢;generalize d1:decide (3< (s.dom.length:Int))=x1;generalize d2:decide ((s.dom.length:Int)<=8)=x2;generalize d3:decide (6<s.ord)=x3;generalize d4:decide (s.ord<=16)=x4;generalize d5:decide (64<s.p)=x5;generalize d6:decide (s.p<=512)=x6;generalize d7:decide (100< (s.dom.length:Int))=x7;rcases pr3 x1 x2 with rfl| ⟨rfl,rfl⟩| ⟨rfl,rfl⟩
 case inr.inr=>simp only[kS,pS,go_sem,d1,d2,ayK,ay9]
 all_goals
  rcases pr3 x3 x4 with rfl| ⟨rfl,rfl⟩| ⟨rfl,rfl⟩
  case inr.inr=>simp only[kS,pS,go_sem,d1,d2,d3,d4,ayK,ay9,Bool.or_true]
  all_goals
   rcases pr3 x5 x6 with rfl| ⟨rfl,rfl⟩| ⟨rfl,rfl⟩
   case inr.inr=>simp only[kS,pS,go_sem,d1,d2,d3,d4,d5,d6,ayK,ay9,Bool.or_true]
   all_goals
    cases x7 with
    |true=>simp only[kS,pS,go_sem,d1,d2,d3,d4,d5,d6,d7,ayK,ay9,Bool.or_true]
    |false=>
     cases b1 with
     |true=>simp only[kS,pS,go_sem,d1,d2,d3,d4,d5,d6,d7,h1,ayK,ay9,Bool.or_true]
     |false=>
      simp only[kS,pS,go_sem,d1,d2,d3,d4,d5,d6,d7,h1];rw[h2' _ _ rfl rfl];simp only[go_sem]
noncomputable def RE (s:Rs) (a b:Rm):Rm:=if pN s [a,b]=true then jF s (Bo a.P b.P).1 (Bo a.P b.P).2 (tM s.p (iu (iO a.P s.dom s.p) b.R s.p) [iu (iO b.P s.dom s.p) a.R s.p,iu a.R b.R s.p])else bV s
theorem aaL{s:Rs}{a b:Rm}(os:OkS s)(oa:OkM a)(ob:OkM b):R fbF [mM s,fh a,fh b] []=some (fh (RE s a b),[]):=by
 refine au MF rfl ?_;have h1:=kD os (l:=[a,b]) (XO oa ob) σ;have h2:=mY (s:=s);unfold RE;simp only[ays,ayu]at h1;cases g:pN s [a,b]with
 |false=>
  rw[g]at h1;simp only[uF,BI,go_sem,h1,h2]
 |true=>
  rw[g]at h1;obtain⟨q1,q2⟩:=af2 g;obtain⟨a1,_⟩:=KH oa (q2 a σ);obtain⟨b1,_⟩:=KH ob (q2 b σ);have hl:s.dom.length<=100000:=by grind[iX]
  have h3:=aks a1 b1;have r1:=FO (p:=s.p) a1 os.d hl;have r2:=FO (p:=s.p) b1 os.d hl;have k1:=(yW (p:=s.p) a1 os.d hl).1;have k2:=(yW (p:=s.p) b1 os.d hl).1;generalize iO a.P s.dom s.p=x at r1 k1⊢;generalize iO b.P s.dom s.p=y at r2 k2⊢;have m1:=Du k1 ob.r (p:=s.p);have m2:=Du k2 oa.r (p:=s.p);have m3:=Du oa.r ob.r (p:=s.p);have h4:=alc (p:=s.p) (x:=iu x b.R s.p) (l:=[iu y a.R s.p,iu a.R b.R s.p]) Bk (XO Bk Bk) σ;have h5:=NX (q:=(Bo a.P b.P).1) (e:=(Bo a.P b.P).2) (r:=tM s.p (iu x b.R s.p) [iu y a.R s.p,iu a.R b.R s.p]) os (ahS a1 b1) (aaJ Bk) hl;simp only[pV,aT,am,ap]at h3 h5 r1 r2 m1 m2 m3;simp only[am,ap,bQ,ays,ayu]at h4;simp only[uF,BI,go_sem,h1,h3,h4,h5,r1,r2,m1,m2,m3]
theorem anB:∃W:Int,∀n:Nat,n≠0->zI (bk false n 0)=n*W:=by
 refine⟨((2^16384:Nat):Int),fun n hn=>?_⟩;obtain⟨q1,q2,_,_⟩:=pZ (neg:=false) (e:=0) hn;obtain⟨t1,_⟩:=tC hn;have hneg:(bk false n 0).neg=false:=by rw[iN hn]
 unfold zI mg;rw[hneg,if_neg ayl,q1,q2];have ht:((0:Int)+(tz n:Int)+16384).toNat=tz n+16384:=ω
 rw[ht];rw[ayn,←ayD,ayy (n/2^tz n),←t1,Int.natCast_mul]
def pwZ:List Int->List Rd->Int
 |e::es,x::xs=>zI x^e.toNat*pwZ es xs
 |_,_=>1
def dg:List Int->List Rd->Nat
 |e::es,_::xs=>e.toNat+dg es xs
 |_,_=>0
theorem aCk:∀ {es:List Int} {xs:List Rd},(∀e∈es,0<=e)->(dg es xs:Int)<=bj es
 |e::es,x::xs,h=>by
  have ih:=aCk (es:=es) (xs:=xs) fun y hy=>h y γ;have he:=h e σ;grind[dg,bj]
 |[],xs,h=>by show((0:Nat):Int)<=0;decide
 |e::es,[],h=>by
  have h2:=(Lm (l:=e::es) fun y hy=>h y hy).1;show((0:Nat):Int)<=bj (e::es);omega
noncomputable def ph (xs:List Rd) (u:List Int):Int:=pwZ u xs*KK^ (32-dg u xs)
theorem VT.dg{v:Int}{t:Rt}(vt:VT v t)(xs:List Rd):dg t.exps xs<=32:=by
 have h1:=aCk (xs:=xs) fun e he=>(vt.b e he).1;have h2:=vt.d;omega
theorem aD7:∀ {u v:List Int} {xs:List Rd},u.length=v.length->(∀e∈u,0<=e)->(∀e∈v,0<=e)->pwZ (mE u v) xs=pwZ u xs*pwZ v xs/\dg (mE u v) xs=dg u xs+dg v xs
 |a::u,b::v,x::xs,hl,hu,hv=>by
  obtain⟨h1,h2⟩:=aD7 (u:=u) (v:=v) (xs:=xs) γ (fun e he=>hu e γ) (fun e he=>hv e γ);have ha:=hu a σ;have hb:=hv b σ;have ht:(a+b).toNat=a.toNat+b.toNat:=ω
  constructor
  ·simp_all[zI,pwZ,mE,Int.pow_add,Int.mul_assoc,Int.mul_left_comm]
  ·show(a+b).toNat+dg (mE u v) xs=a.toNat+dg u xs+(b.toNat+dg v xs);omega
 |[],[],xs,_,_,_=>⟨rfl,rfl⟩
 |a::u,b::v,[],_,_,_=>⟨rfl,rfl⟩
theorem aEP{w:Int}{t q:Rt}(vt:VT w t)(vq:VT w q)(hd:bj t.exps+bj q.exps<=32)(xs:List Rd):ph xs (mE t.exps q.exps)*KK^32=ph xs t.exps*ph xs q.exps:=by
 have nt:=fun e he=>(vt.b e he).1;have nq:=fun e he=>(vq.b e he).1;obtain⟨h1,h2⟩:=aD7 (xs:=xs) (vt.l2 vq) nt nq;have d1:=aCk (xs:=xs) nt;have d2:=aCk (xs:=xs) nq;unfold ph;have hp:KK^ (32- (dg t.exps xs+dg q.exps xs))*KK^32=KK^ (32-dg t.exps xs)*KK^ (32-dg q.exps xs):=by
  rw[←Int.pow_add,←Int.pow_add];grind
 grind
theorem aDV{d:Rd}{f:List Int->Int}:∀ {ts r:List Rt},aiT d ts=some r->lfn r f*KK=zI d*lfn ts f
 |[],r,h=>by
  cases h;show 0*KK=zI d*0;omega
 |t::ts,r,h=>by
  unfold aiT at h;split at h
  ·rename_i h0;rw[aye]at h;obtain⟨r2,h2,rfl⟩:=h;have ih:=aDV (f:=f) h2;have hk:=akk h0;show(zI (fS t.c d).1*f t.exps+lfn r2 f)*KK=zI d*(zI t.c*f t.exps+lfn ts f);rw[Int.add_mul,ih,Int.mul_add,Int.mul_right_comm,hk,Int.mul_comm (zI t.c),Int.mul_assoc]
  ·cases h
theorem aEs(l:List Rd):OC (.bx [Cf l]):=⟨fun _=>rfl,rfl,fun _=>rfl,rfl⟩
theorem aDe{a:Rp}{d:Rd}(oa:OkP a)(od:Ok0 d):OkP (ajd a d).1:=by
 unfold ajd;split
 ·split
  ·exact⟨fun t ht=>by grind⟩
  grind[aiT,Uq,iW,axE,lE]
 ·exact Uq
noncomputable def aEQ (s:Rs) (a:Rm) (x:Ri):Ri:=eG (iu x a.R s.p) (iu (If x ⟨lh x s.p,lh x s.p,false⟩ s.p) (iO a.P s.dom s.p) s.p) s.p
noncomputable def aDb (s:Rs) (a:Rm) (x:Ri):Rm:=if(pN s [a]&&kI x)=true then jF s ⟨s.dom.length,(ajd a.P (lh x s.p)).1.terms⟩ (ajd a.P (lh x s.p)).2 (aEQ s a x)else bV s
theorem aaM{x y:Ri}{p:Int}:OkI (If x y p):=yL
theorem aEi{s:Rs}{a:Rm}{x:Ri}(os:OkS s)(oa:OkM a)(ox:OkI x):R fbH [mM s,fh a,am x] []=some (fh (aDb s a x),[]):=by
 refine au TE rfl ?_;have h1:=kD os (l:=[a]) (fun m hm=>by grind) σ;have h2:=mY (s:=s);have hv:=mK ox;unfold aDb;simp only[ays,ayu]at h1;simp only[am,ap]at hv;cases g:pN s [a]with
 |false=>
  rw[g]at h1;generalize bV s=n at h2⊢;simp only[AE,Iy,am,ap,go_sem,h1,h2]
 |true=>
 rw[g]at h1;unfold kI;cases g2:x.all with
 |true=>
  simp only[AE,Iy,am,ap,go_sem,h1,h2,g2]
 |false=>
 rw[g2]at hv;cases g3:vi x with
 |false=>
  rw[g3]at hv;generalize bV s=n at h2⊢;simp only[AE,Iy,am,ap,go_sem,h1,h2,g2,hv]
 |true=>
 rw[g3]at hv;obtain⟨q1,q2⟩:=af2 g;obtain⟨a1,_⟩:=KH oa (q2 a σ);have hl:s.dom.length<=100000:=by grind[iX]
 have hm:=af3 ox (p:=s.p);obtain⟨mv,mo⟩:=aaK (p:=s.p) ox;have hs:=azs a1 mo;have sok:=aDe a1 mo;have hp:=gX mo mv;have r1:=FO (p:=s.p) a1 os.d hl;have k1:=(yW (p:=s.p) a1 os.d hl).1;have pok:OkI ⟨lh x s.p,lh x s.p,false⟩:=⟨mo,mo⟩;unfold aEQ;generalize iO a.P s.dom s.p=y at r1 k1⊢;have u1:=Rh ox pok (p:=s.p);have u2:=Du (aaM (x:=x) (y:=⟨lh x s.p,lh x s.p,false⟩) (p:=s.p)) k1 (p:=s.p);have u3:=Du ox oa.r (p:=s.p);have u4:=yH (Bk (x:=x) (y:=a.R) (p:=s.p)) (Bk (x:=If x ⟨lh x s.p,lh x s.p,false⟩ s.p) (y:=y) (p:=s.p)) (p:=s.p);have h5:=NX (q:=⟨s.dom.length,(ajd a.P (lh x s.p)).1.terms⟩) (e:=(ajd a.P (lh x s.p)).2) (r:=eG (iu x a.R s.p) (iu (If x ⟨lh x s.p,lh x s.p,false⟩ s.p) y s.p) s.p) os ⟨sok.t⟩ yL hl;generalize lh x s.p=c at hm hs hp u1 u2 u4 h5;generalize If x ⟨c,c,false⟩ s.p=t1 at u1 u2 u4 h5;generalize iu t1 y s.p=t2 at u2 u4 h5;generalize iu x a.R s.p=t3 at u3 u4 h5;simp only[pV,aT,am,ap,ae,ah,g2]at hm hs hp r1 u1 u2 u3 u4 h5;simp only[AE,Iy,am,ap,go_sem,h1,h5,g2,hv,hm,hs,hp,r1,u1,u2,u3,u4]
theorem ajg{d:Rd}(h:z0 d=true):d=aH:=by
 obtain⟨n,m,e⟩:=d;unfold z0 at h;simp only[ayf,azf,decide_eq_true_eq]at h;obtain⟨h1,h2,h3⟩:=h;subst h1 h3;rw[List.length_eq_zero_iff.1 h2];rfl
theorem aEz{s:Rs}{a b:Rm}(os:OkS s)(oa:OkM a)(ob:OkM b):R fbI [mM s,fh a,fh b] []=some (fh (aDA s a b),[]):=by
 refine au YG rfl ?_;have h1:=kD os (l:=[a,b]) (XO oa ob) σ;have h2:=mY (s:=s);unfold aDA;simp only[ays,ayu]at h1;cases g:pN s [a,b]with
 |false=>
  rw[g]at h1;simp only[DQ,Mm,go_sem,h1,h2]
 |true=>
  rw[g]at h1;obtain⟨q1,q2⟩:=af2 g;obtain⟨a1,_⟩:=KH oa (q2 a σ);obtain⟨b1,_⟩:=KH ob (q2 b σ);have h3:=aEy a1 b1;have h4:=Rh oa.r ob.r (p:=s.p);have h5:=NX (e:=(aC2 a.P b.P).2) (r:=If a.R b.R s.p) os (aDw a1 b1) aaM (by grind[iX]);simp only[pV,aT,am,ap]at h3 h4 h5;simp only[DQ,Mm,go_sem,h1,h3,h4,h5]
noncomputable def aDB (s:Rs) (a:Rm):Rm:=if pN s [a]=true then(if(ajd a.P yu).2=0 then⟨(ajd a.P yu).1,NO a.R⟩else bV s)else bV s
theorem atH{α:Type}{p:α->Prop}{a:α}(ha:p a):∀m∈[a],p m:=fun m hm=>by grind
theorem aEA{s:Rs}{a:Rm}(os:OkS s)(oa:OkM a):R fbG [mM s,fh a] []=some (fh (aDB s a),[]):=by
 refine au YH rfl ?_;have h1:=kD os (l:=[a]) (atH oa) σ;have h2:=mY (s:=s);unfold aDB;simp only[ays,ayu]at h1;cases g:pN s [a]with
 |false=>
  rw[g]at h1;simp only[DS,Mn,go_sem,h1,h2]
 |true=>
  rw[g]at h1;obtain⟨q1,q2⟩:=af2 g;obtain⟨a1,_⟩:=KH oa (q2 a σ);have h0:=ak3;have h3:=azs a1 aaE.2;have h4:=akz oa.r;generalize hm:yu=mo at h0 h3⊢;generalize ajd a.P mo=t at h3⊢;simp only[pV,aT,am,ap,ae,ah]at h0 h3 h4;by_cases g2:t.2=0
  ·have f:(t.2=0)=True:=eq_true g2;simp only[DS,Mn,go_sem,h0,h1,h3,h4,f]
  ·have f:(t.2=0)=False:=eq_false g2;simp only[DS,Mn,go_sem,h0,h1,h2,h3,f]
theorem aCu{a b:Rd}(oa:Ok0 a)(ob:Ok0 b):R fcK [ae a,ae b] []=some (rV (mF a b),[]):=by
 refine au aBM rfl ?_;have ha:=FF oa;have hb:=FF ob;cases va:vd a with
 |false=>
  rw[va]at ha;unfold mF;rw[va,ayh,if_neg ayl];simp only[ae,ah]at ha hb;simp only[az9,aAw,rV,ae,ah,aH,go_sem,ha]
 |true=>
  rw[va]at ha;cases vb:vd b with
  |false=>
   rw[vb]at hb;unfold mF;rw[vb,ay1,if_neg ayl];simp only[ae,ah]at ha hb;simp only[az9,aAw,rV,ae,ah,aH,go_sem,ha,hb]
  |true=>
   rw[vb]at hb;have vn:=(yM vb).2;have on:=ws ob;have hn:=ajZ (d:=b);rw[aj0 vb]at hn;have hp:=aj1 oa on va vn;have hl:Ok0 (df (zI a+zI (gW b)) (-16384)):=aBm (k:=2000) (ayj (aAx (aAK oa va) (aAK on vn)) δ) δ;have hc:=aAB hl;rw[aAP]at hc;have e:mF a b=cH (df (zI a+zI (gW b)) (-16384)):=by
    rw[aix vb];unfold je;rw[va,vn];rfl
   rw[e];simp only[rV,ae,ah]at ha hb hn hp hc;simp only[az9,aAw,rV,ae,ah,go_sem,ha,hb,hn,hp,hc]
theorem aCv{x:Ri}{d:Rd}(ox:OkI x)(od:Ok0 d):R fcZ [am x,ae d] []=some (B (Rz x d),[]):=by
 refine au aBN rfl ?_;have v1:=FG ox;have v2:=FF od;unfold Rz;cases h1:vi x with
 |false=>
  rw[h1]at v1;simp only[am,ap,ae,ah]at v1 v2;simp only[azR,az3,am,ap,ae,ah,go_sem,v1]
 |true=>
  rw[h1]at v1;cases h2:vd d with
  |false=>
   rw[h2]at v2;simp only[am,ap,ae,ah]at v1 v2;simp only[azR,az3,am,ap,ae,ah,go_sem,v1,v2]
  |true=>
   rw[h2]at v2;cases h3:x.all with
   |true=>
    simp only[am,ap,ae,ah,h3]at v1 v2;simp only[azR,az3,am,ap,ae,ah,go_sem,v1,v2,h3]
   |false=>
    have hl:vd x.lo=true/\vd x.hi=true:=by
     unfold vi at h1;rw[h3]at h1;simp at h1;exact⟨h1.1,h1.2.1⟩
    have c1:=QY ox.lo od hl.1 h2;have c2:=QY od ox.hi h2 hl.2;have e1:=@wo (zI x.lo) (zI d);have e2:=@wo (zI d) (zI x.hi);generalize cx (zI x.lo) (zI d)=q1 at c1 e1;generalize cx (zI d) (zI x.hi)=q2 at c2 e2;simp only[am,ap,ae,ah,h3]at v1 v2 c1 c2;by_cases h4:zI x.lo<=zI d
    ·simp only[azR,az3,am,ap,ae,ah,go_sem,v1,v2,h3,c1,c2,e1,e2,h4]
    ·simp only[azR,az3,am,ap,ae,ah,go_sem,v1,v2,h3,c1,e1,h4]
def rq(w:Bool)(M d:Nat):Nat:=if w=true/\M%2^d≠0 then M/2^d+1 else M/2^d
def dR(M n j:Nat):Nat:=if af M<=n+j then j else af M-n
theorem alt{w:Bool}{M M' d:Nat}(h:M<=M'):rq w M d<=rq w M' d:=by
 have h1:=ay4 M (2^d);have h3:=ay4 M' (2^d);have h5:M/2^d<=M'/2^d:=Nat.div_le_div_right h;grind[rq,Nat.eq_or_lt_of_le]
theorem apV{w:Bool}{M d e:Nat}(h:M<2^ (d+e)):rq w M d<=2^e:=by
 have h1:M/2^d<2^e:=by
  rw[Nat.div_lt_iff_lt_mul (ayr d),←ayn,Nat.add_comm];omega
 grind[rq]
theorem ajm(M n j:Nat):j<=dR M n j/\af M<=n+dR M n j:=by
 grind[dR]
theorem aiM{M j n:Nat}{w:Bool}(hn:8<=n):cB M (-16384- (j:Int)) false (n:Int) w=sf n w (rq w M (dR M n j)) ((dR M n j:Int)-j-16384):=by
 have hu:ej M (-16384- (j:Int)) (n:Int)=(dR M n j:Int)-j-16384:=by
  grind[ej,dR]
 unfold cB;have hq:nO M (-16384- (j:Int)) false ((dR M n j:Int)-j-16384)=(M/2^dR M n j,decide (M%2^dR M n j≠0)):=by
  unfold nO;generalize dR M n j=d;by_cases h:d=0
  ·subst h;grind
  grind
 grind[lD,rq]
theorem Zb{q d T:Nat}(hq:q≠0):T<af q+d↔2^T<=q*2^d:=by
 by_cases h:d<=T
 ·rw[show T<af q+d↔T-d<af q by omega,jK]
  conv=>rhs;rw[show T=(T-d)+d by omega,ayn]
  simp_all[Nat.mul_le_mul_right_iff,ayr]
 ·refine⟨fun _=>?_,fun _=>by omega⟩;refine ayj (ayP δ (by omega:T<=d)) ?_;exact Nat.le_mul_of_pos_left _ ω
theorem anO{q n k:Nat}(h:q<=2^n)(hk:n<k):af q<=k:=bD.2 (ayS h (Nat.pow_lt_pow_right δ hk))
theorem apW{w:Bool}{M n j:Nat}(hn:n<=512):af (rq w M (dR M n j))<=4096/\(w=false->rq w M (dR M n j)<2^n):=by
 have k:=ajm M n j;have k5:M<2^af M:=bD.1 (ayd _);have k6:M<2^ (dR M n j+n):=ay8 k5 (ayP δ ω);have h1:=apV (w:=w) k6;refine⟨anO h1 ω,?_⟩
 simp_all[rq,if_neg,Nat.div_lt_iff_lt_mul,ayr,ayn,Nat.add_comm]
theorem alu{M j n:Nat}{w:Bool}(h0:M≠0)(hn:8<=n/\n<=512):
  (rq w M (dR M n j)*2^dR M n j<2^ (32768+j)->(cB M (-16384- (j:Int)) false (n:Int) w).2=0/\zI (cB M (-16384- (j:Int)) false (n:Int) w).1*2^j=((rq w M (dR M n j)*2^dR M n j:Nat):Int))/\
  (2^ (32768+j)<=rq w M (dR M n j)*2^dR M n j->(w=true->(cB M (-16384- (j:Int)) false (n:Int) w).2≠0)/\
   (w=false->(cB M (-16384- (j:Int)) false (n:Int) w).2=0/\zI (cB M (-16384- (j:Int)) false (n:Int) w).1=(((2^n-1)*2^ (32768-n):Nat):Int))):=by
 have k:=ajm M n j;obtain⟨b1,_⟩:=apW (w:=w) (M:=M) (j:=j) hn.2;rw[aiM hn.1];have hq0:rq w M (dR M n j)=0->¬32768+j<af (rq w M (dR M n j))+dR M n j:=fun h=>by
  rw[h,show af 0=0 from rfl];have hM:M<2^dR M n j:=by
   unfold rq at h;split at h
   all_goals simp_all
  have h3:af M<=dR M n j:=bD.2 hM;unfold dR at h3⊢;grind
 generalize hd:dR M n j=d at*
 generalize rq w M d=q at*
 have ov:16384< (af q:Int)+((d:Int)-j-16384)↔2^ (32768+j)<=q*2^d:=by
  by_cases hq:q=0
  ·subst hq;have h5:=ayr (32768+j);constructor<;>intro h6<;>omega
  ·rw[←Zb hq];omega
 unfold sf;constructor
 ·intro h;have h1:¬16384< (af q:Int)+((d:Int)-j-16384):=fun hc=>by
   omega
  rw[if_neg h1];have hc:=EC (neg:=false) (M:=q) (e:=(d:Int)-j-16384) b1 ω ω;have h2:(cH (bk false q ((d:Int)-j-16384))).2=0:=by rw[hc]
  refine⟨h2,?_⟩;rw[Kn ω h2,show((d:Int)-j-16384+16384).toNat=d-j by omega,show(2:Int)^j=((2^j:Nat):Int)by simp,←Int.natCast_mul,ayD,←ayn,show d-j+j=d by omega]
 ·intro h;have h1:=ov.2 h;rw[if_pos h1];constructor
  ·rintro rfl
   simp
  ·rintro rfl
   rw[if_neg σ];have hp1:2^n-1<2^n:=by have:=ayr n;omega
   have hb:af (2^n-1)<=n:=bD.2 hp1;have hc:=EC (neg:=false) (M:=2^n-1) (e:=16384- (n:Int)) ω ω ω;have h2:(cH (bk false (2^ ((n:Int)).toNat-1) (16384- (n:Int)))).2=0:=by rw[ayk,hc]
   refine⟨h2,?_⟩;rw[Kn ω h2,ayk,show(16384- (n:Int)+16384).toNat=32768-n by omega]
theorem anP{M j n:Nat}{w:Bool}(h0:M≠0)(hn:8<=n/\n<=512)(h:(cB M (-16384- (j:Int)) false (n:Int) w).2=0):0<=zI (cB M (-16384- (j:Int)) false (n:Int) w).1:=by
 obtain⟨k,h1,_⟩:=Ie (s:=0) (t:=j) h0 (p:=n) ω ω (fun h=>absurd h ayl) h;omega
theorem alv{z f p:Int}{up:Bool}(h:z<0):iV z f p up=gI true (cB z.natAbs f false p (!up)):=by
 unfold iV;rw[if_neg ω,decide_eq_true h]
 simp_all
theorem alx{z f p:Int}{up:Bool}(h:0<z):iV z f p up=cB z.natAbs f false p up:=by
 unfold iV;rw[if_neg ω,decide_eq_false ω]
 simp_all[gI,if_neg]
theorem anQ{M:Nat}{f p:Int}{w:Bool}:(gI true (cB M f false p w)).2=(cB M f false p w).2/\((cB M f false p w).2=0->zI (gI true (cB M f false p w)).1=-zI (cB M f false p w).1):=by
 unfold gI;by_cases h:(cB M f false p w).2=0
 all_goals simp_all[if_pos,yM,Rb,if_neg,absurd]
theorem ajn{f p:Int}{up:Bool}:iV 0 f p up=(aH,0):=by simp_all[iV,if_pos]
theorem X4{a b:Rd}{p:Int}(va:vd a=true)(vb:vd b=true)(hp:bG p=true):aZ p [a,b]=0/\∃n:Nat,p=n/\8<=n/\n<=512:=by
 have hp2:8<=p/\p<=512:=by
  simp_all[bG,ayf,decide_eq_true_eq]
 refine⟨by grind[aZ],p.toNat,by omega,by omega,by omega⟩
def Sb(x y:Ri):Prop:=(∃q,In q x)/\(y=dm\/x.all=false/\y.all=false/\(∃q,In q y)/\zI y.lo<=zI x.lo/\zI x.hi<=zI y.hi)
theorem Sb.ins{x y:Ri}(h:Sb x y):lS x y=true:=by
 obtain⟨⟨q,hx⟩,rfl| ⟨h1,h2,⟨r,hy⟩,h3,h4⟩⟩:=h
 ·unfold lS;have:=hx.v;split
  ·rfl
  ·rw[this];rfl
 ·unfold lS;rw[if_pos ⟨hx.v,hy.v,h1⟩];grind
theorem apX{x:Ri}(h:∃q,In q x)(ha:x.all=false):kI x=true:=by
 obtain⟨q,h⟩:=h;unfold kI;rw[ha,h.v];rfl
theorem agk{a b:List Nat}(h:lm a=lm b):a=b:=by
 unfold lm aB at h;grind[List.map_inj_right]
theorem aly{x y:Ri}(h:am x=am y):x=y:=by
 unfold am ap at h;simp only[AV.agg.injEq,List.cons.injEq,AV.v.injEq,Value.bool.injEq,Value.int.injEq,true_and,and_true]at h;obtain⟨h1,g2,h3,h4,g5,h6,h7⟩:=h;have h2:=agk g2;have h5:=agk g5;obtain⟨⟨a1,a2,a3⟩,⟨a4,a5,a6⟩,a7⟩:=x
 simp_all
theorem X5{a:Rp}{dom:List Ri}{p:Int}(oa:OkP a)(od:∀x∈dom,OkI x)(h2:dom.length<=100000)(hd:nP a dom=true):∃b,KG a dom p=Im a dom p b/\∀xs ts:List Rat,uq dom xs ts->In (fv xs a.terms) b:=by
 obtain⟨b,hB,hbr,_⟩:=XH oa od h2 (p:=p);have i2:=hbr _ _ (LC dom);have h3:=NV oa od h2 (p:=p) (b:=b) i2.ok (fun _=>hB);grind[LH,aly]
theorem anR{a:Rp}{dom:List Ri}{p:Int}(oa:OkP a)(od:∀x∈dom,OkI x)(h2:dom.length<=100000)(hd:nP a dom=true){xs ts:List Rat}(hpt:uq dom xs ts):In (fv xs a.terms) (iO a dom p):=by
 unfold iO;split
 ·rename_i h0;have e:a.terms=[]:=List.length_eq_zero_iff.1 h0;rw[e];have:=sn aU.1 aU.2;rwa[show qv aH=0 by unfold qv;rw[cO rfl];simp]at this
 ·obtain⟨b,hb,hbr⟩:=X5 (p:=p) oa od h2 hd;obtain⟨hv,hl,hk⟩:=PH od hd;rw[hb];unfold Im;split
  ·obtain⟨m1,m2⟩:=Ii (Ky (p:=p) oa (uq.inL hk hpt)) (hbr _ _ hpt);grind
  ·exact Or.inl rfl
theorem alz{a b:Rd}(va:vd a=true)(vb:vd b=true):zI a<=zI (kO a b):=by
 unfold kO;rw[Q1 va vb];rcases n8 (zI a) (zI b)with⟨g,e⟩| ⟨g,e⟩| ⟨g,e⟩<;>rw[e]<;>simp<;>omega
theorem alA{a b:Rd}(va:vd a=true)(vb:vd b=true):zI (kN a b)<=zI a:=by
 grind[kN,Q1,n8,zI]
theorem alB{x y:Ri}(hx:x.all=false){q:Rat}(ix:In q x)(iy:In q y):Sb (uk x y).1 x:=by
 obtain⟨m1,m2⟩:=Ii ix iy;refine⟨⟨q,m2⟩,Or.inr ?_⟩;have key:(uk x y).1.all=false/\zI x.lo<=zI (uk x y).1.lo/\zI (uk x y).1.hi<=zI x.hi:=by
  have vx:=ix.vi;have vy:=iy.vi;unfold uk at m1⊢;rw[ix.v,iy.v,ayK,if_pos rfl,hx,if_neg ayl]at m1⊢;split
  ·grind
  ·split
   ·exact⟨rfl,alz vx.1.1 vy.1.1,alA vx.2.1 vy.2.1⟩
   grind
 grind
theorem anS{a:Rp}{dom:List Ri}{p:Int}(oa:OkP a)(od:∀x∈dom,OkI x)(h2:dom.length<=100000)(hd:nP a dom=true)(hp:bG p=true)(h0:a.terms.length≠0)(hn:(pI a dom p).all=false):Sb (iO a dom p) (pI a dom p):=by
 unfold iO;obtain⟨b,hb,hbr⟩:=X5 (p:=p) oa od h2 hd;obtain⟨hv,hl,hk⟩:=PH od hd;have i1:=Ky (p:=p) oa (uq.inL hk (LC dom));have i2:=hbr _ _ (LC dom);rw[hb];unfold Im;rw[hd,hp,ayK,if_pos rfl,if_pos (Ii i1 i2).1];grind[alB]
theorem PN{a b:Rd}(va:vd a=true)(vb:vd b=true):(eW a b<0↔zI a<zI b)/\(0<eW a b↔zI b<zI a):=by
 rw[Q1 va vb];unfold cx;split
 ·omega
 ·split<;>omega
section
variable {dn up:Rd→Rd→Rd × Int} {pr:Nat→Rd × Rd}
abbrev FP(dn:Rd->Rd->Rd×Int)(pr:Nat->Rd×Rd)(j:Nat):Rd×Int:=dn (pr j).1 (pr j).2
theorem PO(okd:∀a b,vd (dn a b).1=true)(oku:∀a b,vd (up a b).1=true):∀ (k i:Nat) (o:Rd×Rd),vd o.1=true->vd o.2=true->(∀j,i<=j->j<i+k->(FP dn pr j).2=0/\(FP up pr j).2=0)->
  ∃q,wr dn up pr k i o=some q/\zI q.1<=zI o.1/\zI o.2<=zI q.2/\(∀j,i<=j->j<i+k->zI q.1<=zI (FP dn pr j).1/\zI (FP up pr j).1<=zI q.2)/\
   (q.1=o.1\/∃j,i<=j/\j<i+k/\q.1=(FP dn pr j).1)/\(q.2=o.2\/∃j,i<=j/\j<i+k/\q.2=(FP up pr j).1)
 |0,i,o,_,_,_=>⟨o,rfl,Int.le_refl _,Int.le_refl _,fun j h1 h2=>by omega,Or.inl rfl,Or.inl rfl⟩
 |k+1,i,o,v1,v2,h=>by
  have h0:=h i (ayd _) ω;unfold wr;rw[if_pos h0];have c1:=(PN (okd (pr i).1 (pr i).2) v1).1;have c2:=(PN (oku (pr i).1 (pr i).2) v2).2;have w1:=okd (pr i).1 (pr i).2;have w2:=oku (pr i).1 (pr i).2;obtain⟨q,q0,q1,q2,q3,q4,q5⟩:=PO okd oku k (i+1) (if eW (dn (pr i).1 (pr i).2).1 o.1<0 then(dn (pr i).1 (pr i).2).1 else o.1,if 0<eW (up (pr i).1 (pr i).2).1 o.2 then(up (pr i).1 (pr i).2).1 else o.2)
   (by simp only;split<;>assumption) (by simp only;split<;>assumption) fun j h1 h2=>h j ω ω
  have a1:zI q.1<=zI o.1/\zI q.1<=zI (FP dn pr i).1:=by
   simp only at q1;split at q1
   ·rename_i hc;have:=c1.1 hc;exact⟨by omega,q1⟩
   ·rename_i hc;have:=mt c1.2 hc;exact⟨q1,by show zI q.1<=zI (dn (pr i).1 (pr i).2).1;omega⟩
  have a2:zI o.2<=zI q.2/\zI (FP up pr i).1<=zI q.2:=by
   simp only at q2;split at q2
   ·rename_i hc;have:=c2.1 hc;exact⟨by omega,q2⟩
   ·rename_i hc;have:=mt c2.2 hc;exact⟨q2,by show zI (up (pr i).1 (pr i).2).1<=zI q.2;omega⟩
  refine⟨q,q0,a1.1,a2.1,fun j h1 h2=>?_,?_,?_⟩
  ·rcases Nat.eq_or_lt_of_le h1 with rfl|h3
   ·exact⟨a1.2,a2.2⟩
   ·exact q3 j h3 ω
  ·rcases q4 with q4| ⟨j,h1,h2,h3⟩
   ·simp only at q4;split at q4
    ·exact Or.inr ⟨i,ayd _,by omega,q4⟩
    ·exact Or.inl q4
   ·exact Or.inr ⟨j,by omega,by omega,h3⟩
  ·rcases q5 with q5| ⟨j,h1,h2,h3⟩
   ·simp only at q5;split at q5
    ·exact Or.inr ⟨i,ayd _,by omega,q5⟩
    ·exact Or.inl q5
   ·exact Or.inr ⟨j,by omega,by omega,h3⟩
theorem adh(okd:∀a b,vd (dn a b).1=true)(oku:∀a b,vd (up a b).1=true)(h:∀j,j<4->(FP dn pr j).2=0/\(FP up pr j).2=0):
  ∃q,qA dn up pr=some q/\(∀j,j<4->zI q.1<=zI (FP dn pr j).1/\zI (FP up pr j).1<=zI q.2)/\(∃j,j<4/\q.1=(FP dn pr j).1)/\∃j,j<4/\q.2=(FP up pr j).1:=by
 obtain⟨q,q0,q1,q2,q3,q4,q5⟩:=PO okd oku 3 1 ((dn (pr 0).1 (pr 0).2).1,(up (pr 0).1 (pr 0).2).1) (okd _ _) (oku _ _) fun j h1 h2=>h j ω;refine⟨q,?_,fun j hj=>?_,?_,?_⟩
 ·unfold qA;rw[if_pos (h 0 δ)];exact q0
 ·rcases Nat.eq_zero_or_pos j with rfl|h1
  ·exact⟨q1,q2⟩
  ·exact q3 j h1 ω
 ·rcases q4 with q4| ⟨j,h1,h2,h3⟩
  ·exact⟨0,by decide,q4⟩
  ·exact⟨j,by omega,h3⟩
 ·rcases q5 with q5| ⟨j,h1,h2,h3⟩
  ·exact⟨0,by decide,q5⟩
  ·exact⟨j,by omega,h3⟩
end
theorem ajo{x:Ri}(h:∃q,In q x)(ha:x.all=false):zI x.lo<=zI x.hi:=by
 obtain⟨q,rfl| ⟨_,_,h1,h2⟩⟩:=h
 ·cases ha
 ·exact Ao.1 (Rat.le_trans h1 h2)
theorem apY{x y:Ri}(hx:VI x)(hy:VI y)(i:Nat):vd (gw x y i).1=true/\vd (gw x y i).2=true:=by
 unfold gw;split
 ·exact⟨hx.1.1,hy.1.1⟩
 ·exact⟨hx.1.1,hy.2.1⟩
 ·exact⟨hx.2.1,hy.1.1⟩
 ·exact⟨hx.2.1,hy.2.1⟩
theorem atQ{d:Rd}{p:Int}{n:Nat}{up:Bool}:vd (pw d n p up).1=true:=by
 unfold pw;exact(Ut _ _ Kt).1
theorem PP{d:Rd}(v:vd d=true):vd (si d)=true/\zI (si d)=((zI d).natAbs:Int):=by
 unfold si;by_cases h:d.m.length=0
 ·rw[if_pos (Or.inr h),cO h];exact⟨rfl,cO rfl⟩
 ·refine⟨?_,?_⟩
  ·simp_all[vd,if_neg]
  grind[zI,mg]
theorem ajp{d:Rd}(v:vd d=true):(0<cQ d↔0<zI d)/\(cQ d<0↔zI d<0):=by
 have h0:d.m.length=0->zI d=0:=cO;have hp:d.m.length≠0->0<mg d:=fun h=>by
  exact Nat.mul_pos (by grind[G2]) (ayr _)
 unfold cQ;by_cases h:d.m.length=0
 ·omega
 ·grind[zI]
theorem apZ{x:Ri}(h:VI x)(hle:zI x.lo<=zI x.hi):vd (Bj x)=true/\zI (Bj x)=(if 0<zI x.lo then zI x.lo else if zI x.hi<0 then-zI x.hi else 0):=by
 obtain⟨a1,a2⟩:=PP h.1.1;obtain⟨b1,b2⟩:=PP h.2.1;obtain⟨s1,s2⟩:=ajp h.1.1;obtain⟨t1,t2⟩:=ajp h.2.1;have c:=PN a1 b1;unfold Bj Ka kN;by_cases k1:0<zI x.lo
 ·grind
 ·rw[if_neg (mt s1.1 k1),if_neg k1];by_cases k2:zI x.hi<0
  ·grind
  ·rw[if_neg (mt t2.1 k2),if_pos rfl,if_neg k2];exact⟨rfl,cO rfl⟩
theorem ap0{x:Ri}(h:VI x):vd (H6 x)=true/\zI (H6 x)=(if(zI x.lo).natAbs<=(zI x.hi).natAbs then((zI x.hi).natAbs:Int)else(zI x.lo).natAbs):=by
 obtain⟨a1,a2⟩:=PP h.1.1;obtain⟨b1,b2⟩:=PP h.2.1;have c:=PN a1 b1;grind[H6,kO]
theorem atS{w:Bool}{T d:Nat}(h:d<=T):rq w (2^T) d=2^ (T-d):=by
 have e:2^T=2^ (T-d)*2^d:=by rw[←ayn];grind
 simp_all[rq,if_neg,Nat.mul_mod_left,Nat.mul_div_cancel,ayr]
theorem agl{M j n m:Nat}{w:Bool}(h0:M≠0)(hn:8<=n/\n<=512)(hm:m<16384)(h:M<=2^ (16384+m+j)):
  (cB M (-16384- (j:Int)) false (n:Int) w).2=0/\0<=zI (cB M (-16384- (j:Int)) false (n:Int) w).1/\zI (cB M (-16384- (j:Int)) false (n:Int) w).1<=((2^ (16384+m):Nat):Int):=by
 have hd:dR M n j<=16384+m+j:=by
  have:=bD.2 (ayS h (Nat.pow_lt_pow_right δ (Nat.lt_succ_self _)));unfold dR;split<;>omega
 have h1:rq w M (dR M n j)*2^dR M n j<=2^ (16384+m+j):=by
  refine ayj (aym _ (alt h)) ?_;rw[atS hd,←ayn];exact ayP δ ω
 obtain⟨c1,c2⟩:=(alu (w:=w) (j:=j) h0 hn).1 (ayS h1 (Nat.pow_lt_pow_right δ ω));have c3:=anP (w:=w) (j:=j) h0 hn c1;refine⟨c1,c3,?_⟩;have h2:zI (cB M (-16384- (j:Int)) false (n:Int) w).1*((2^j:Nat):Int)<=((2^ (16384+m):Nat):Int)*((2^j:Nat):Int):=by
  rw[←Int.natCast_mul,←ayn];refine Int.le_trans (Int.le_of_eq ?_) (Int.ofNat_le.2 h1);rw[←c2];simp
 exact Int.le_of_mul_le_mul_right h2 (Int.ofNat_lt.2 (ayr j))
theorem X6{z:Int}{j n m:Nat}{up:Bool}(hn:8<=n/\n<=512)(hm:m<16384)(h:z.natAbs<=2^ (16384+m+j)):
  (iV z (-16384- (j:Int)) n up).2=0/\(zI (iV z (-16384- (j:Int)) n up).1).natAbs<=2^ (16384+m):=by
 rcases Int.lt_trichotomy z 0 with a|rfl|a
 ·rw[alv a];obtain⟨s1,s2⟩:=anQ (M:=z.natAbs) (f:=-16384- (j:Int)) (p:=n) (w:=!up);obtain⟨b1,b2,b3⟩:=agl (w:=!up) (show z.natAbs≠0 by omega) hn hm h;omega
 ·simp_all[ajn,cO,aH,ayB]
 ·rw[alx a];obtain⟨b1,b2,b3⟩:=agl (w:=up) (show z.natAbs≠0 by omega) hn hm h;omega
def Ld(m:Nat)(d:Rd):Prop:=(zI d).natAbs<=2^ (16384+m)
theorem Ld.up{m k:Nat}{d:Rd}(h:Ld m d)(hk:m<=k):Ld k d:=ayj h (ayP δ ω)
theorem aaV{a b:Rd}{p:Int}{m:Nat}{up:Bool}(va:vd a=true)(vb:vd b=true)(hp:bG p=true)(hm:m+1<16384)(ha:Ld m a)(hb:Ld m b):(du a b p up).2=0/\Ld (m+1) (du a b p up).1:=by
 obtain⟨f1,n,rfl,hn⟩:=X4 va vb hp;unfold du;rw[if_pos f1];refine X6 (j:=0) hn hm ?_;unfold Ld at ha hb;have e:2^ (16384+(m+1)+0)=2^ (16384+m)+2^ (16384+m):=by rw[ayF,←Nat.add_assoc,ayZ];omega
 omega
theorem aaW{a b:Rd}{p:Int}{m k:Nat}{up:Bool}(va:vd a=true)(vb:vd b=true)(hp:bG p=true)(hm:m+k<16384)(ha:Ld m a)(hb:Ld k b):(fJ a b p up).2=0/\Ld (m+k) (fJ a b p up).1:=by
 obtain⟨f1,n,rfl,hn⟩:=X4 va vb hp;unfold fJ;rw[if_pos f1];refine X6 (j:=16384) hn hm ?_;rw[Int.natAbs_mul,show 16384+(m+k)+16384=(16384+m)+(16384+k)by omega,ayn];exact Nat.mul_le_mul ha hb
theorem alC{a:Rd}{p:Int}{m:Nat}{up:Bool}(va:vd a=true)(hp:bG p=true)(hm:m<16384)(ha:Ld m a):(bZ a p up).2=0/\Ld m (bZ a p up).1:=by
 have hp2:=vo hp;unfold bZ;rw[if_pos (by grind[aZ])];obtain⟨n,rfl⟩:∃n:Nat,p=n:=⟨p.toNat,by omega⟩;exact X6 (j:=0) ω hm ha
theorem agm{a:Rd}{p:Int}{up:Bool}(va:vd a=true)(hp:bG p=true)(ha:Ld 0 a):∀ (k:Nat) (r:Rd×Int),vd r.1=true->r.2=0->Ld 0 r.1->(mL a p up k r).2=0/\Ld 0 (mL a p up k r).1
 |0,r,_,h1,h2=>⟨h1,h2⟩
 |k+1,r,vr,h1,h2=>by
  unfold mL;rw[if_pos h1];obtain⟨m1,m2⟩:=aaW (up:=up) vr va hp δ h2 ha;exact agm va hp ha k _ Ku.1 m1 m2
theorem ap1{a:Rd}{p:Int}{n:Nat}{up:Bool}(va:vd a=true)(hp:bG p=true)(ha:Ld 0 a):(pw a n p up).2=0/\Ld 0 (pw a n p up).1:=by
 obtain⟨m1,m2⟩:=alC (up:=up) va hp δ ha;exact agm va hp ha _ _ Kt.1 m1 m2
theorem aaX{a:Rd}{p:Int}{n:Nat}{up:Bool}(va:vd a=true)(hp:bG p=true)(ha:Ld 0 a):(rj a n p up).2=0/\Ld 0 (rj a n p up).1:=by
 grind[rj,ap1,Ld,gW,g1,Int.natAbs_neg,yM,atQ]
structure Bd (m:Nat) (x:Ri):Prop where
 i:∃q,In q x
 a:x.all=false
 l:Ld m x.lo
 h:Ld m x.hi
theorem Bd.up{m k:Nat}{x:Ri}(h:Bd m x)(hk:m<=k):Bd k x:=⟨h.i,h.a,h.l.up hk,h.h.up hk⟩
theorem Bd.v{m:Nat}{x:Ri}(h:Bd m x):VI x:=h.i.elim fun _ h=>h.vi
theorem Bd.k{m:Nat}{x:Ri}(h:Bd m x):kI x=true:=apX h.i h.a
theorem RI{x y:Ri}{p:Int}{m:Nat}(hp:bG p=true)(hm:m+1<16384)(hx:Bd m x)(hy:Bd m y):Bd (m+1) (eG x y p):=by
 obtain⟨q,ix⟩:=hx.i;obtain⟨r,iy⟩:=hy.i;have hi:=ww (p:=p) ix iy;obtain⟨a1,a2⟩:=aaV (up:=false) ix.vi.1.1 iy.vi.1.1 hp hm hx.l hy.l;obtain⟨a3,a4⟩:=aaV (up:=true) ix.vi.2.1 iy.vi.2.1 hp hm hx.h hy.h;have e:eG x y p=⟨(du x.lo y.lo p false).1,(du x.hi y.hi p true).1,false⟩:=by
  unfold eG ui;rw[hx.k,hy.k,hp,ayK,ayK,if_pos rfl,if_pos ⟨a1,a3⟩]
 rw[e]at hi⊢;exact⟨⟨_,hi⟩,rfl,a2,a4⟩
theorem aaY{x y:Ri}{p:Int}{m k:Nat}(hp:bG p=true)(hm:m+k<16384)(hx:Bd m x)(hy:Bd k y):Bd (m+k) (iu x y p):=by
 obtain⟨q,ix⟩:=hx.i;obtain⟨r,iy⟩:=hy.i;have hi:=Br (p:=p) ix iy;have lx:∀i,Ld m (gw x y i).1:=fun i=>by unfold gw;split;exact hx.l;exact hx.l;exact hx.h;exact hx.h
 have ly:∀i,Ld k (gw x y i).2:=fun i=>by unfold gw;split;exact hy.l;exact hy.h;exact hy.l;exact hy.h
 have key:∀i up,(fJ (gw x y i).1 (gw x y i).2 p up).2=0/\Ld (m+k) (fJ (gw x y i).1 (gw x y i).2 p up).1:=fun i up=>by
  obtain⟨v1,v2⟩:=apY ix.vi iy.vi i;grind[aaW]
 obtain⟨t,t0,_,⟨j,_,t1⟩,j',_,t2⟩:=adh (dn:=fun a b=>fJ a b p false) (up:=fun a b=>fJ a b p true) (pr:=gw x y) (fun a b=>Ku.1) (fun a b=>Ku.1) fun i _=>⟨(key i false).1,(key i true).1⟩;have e:iu x y p=⟨t.1,t.2,false⟩:=by
  unfold iu;rw[hx.k,hy.k,hp,ayK,ayK,if_pos rfl,t0];rfl
 rw[e]at hi⊢;refine⟨⟨_,hi⟩,rfl,?_,?_⟩
 all_goals grind
theorem KM{n:Bool}{k:Nat}:zI ⟨n,[1],(k:Int)⟩=bE n (2^ (16384+k)):=by
 have h1:zI ⟨n,[1],(k:Int)⟩=bE n (mg ⟨n,[1],(k:Int)⟩):=rfl;rw[h1];unfold mg;rw[show((k:Int)+16384).toNat=16384+k by omega]
 simp_all[ab,Nat.one_mul]
theorem alD{n:Bool}{a:Nat}:(bE n a).natAbs=a:=by
 grind[bE]
theorem anT{n:Bool}{k:Nat}:Ld k ⟨n,[1],(k:Int)⟩:=by
 simp_all[Ld,KM,alD,ayd]
theorem PQ:Ld 0 one:=anT (k:=0)
theorem RJ{x:Ri}{n:Nat}{p:Int}(hp:bG p=true)(h16:n<=16)(hx:Bd 0 x):Bd 0 (EE x n p):=by
 obtain⟨q,ix⟩:=hx.i;have hi:=Lw (n:=n) (p:=p) ix;have e0:=hx.k;unfold EE at hi⊢;rw[if_pos (by rw[e0,hp];simp[h16])]at hi⊢;by_cases h0:n=0
 ·rw[if_pos h0]at hi⊢;exact⟨⟨_,hi⟩,rfl,PQ,PQ⟩
 ·rw[if_neg h0]at hi⊢;have hX:(vd (if n%2=0 then vf x else x).lo=true/\vd (if n%2=0 then vf x else x).hi=true)/\Ld 0 (if n%2=0 then vf x else x).lo/\Ld 0 (if n%2=0 then vf x else x).hi:=by
   have b1:=hx.l;have b2:=hx.h;split
   ·unfold vf;obtain⟨m1,m2⟩:=apZ ix.vi (ajo hx.i hx.a);obtain⟨g1,g2⟩:=ap0 ix.vi;grind[Ld,b2,g1,zI,Bj,H6]
   ·exact⟨⟨ix.vi.1.1,ix.vi.2.1⟩,b1,b2⟩
  obtain⟨⟨v1,v2⟩,l1,l2⟩:=hX;obtain⟨a1,a2⟩:=aaX (n:=n) (up:=false) v1 hp l1;obtain⟨a3,a4⟩:=aaX (n:=n) (up:=true) v2 hp l2;unfold ui at hi⊢;rw[if_pos ⟨a1,a3⟩]at hi⊢;exact⟨⟨_,hi⟩,rfl,a2,a4⟩
theorem alE{x:Ri}{n:Nat}{p:Int}(hp:bG p=true)(h16:n<=32)(hx:Bd 0 x):Bd 0 (EF x n p):=by
 unfold EF;split
 ·grind[RJ]
 ·exact aaY (m:=0) (k:=0) hp δ (RJ hp ω hx) (RJ hp ω hx)
theorem agn{p:Int}{m:Nat}(hp:bG p=true)(hm:m<16384):∀ (ds:List Ri) (es:List Int) (x:Ri),(∀d∈ds,Bd 0 d)->(∀e∈es,e<=32)->Bd m x->Bd m (Kd p ds es x)
 |[],es,x,_,_,h=>by cases es<;>exact h
 |d::ds,[],x,_,_,h=>h
 |d::ds,e::es,x,hd,he,h=>by
  refine agn hp hm ds es _ (fun i hi=>hd i γ) (fun i hi=>he i γ) ?_;split
  ·have:=he e σ;exact aaY (m:=m) (k:=0) hp hm h (alE hp ω (hd d σ))
  omega
theorem ago{p:Int}{ds:List Ri}{m:Nat}(hp:bG p=true)(hd:∀d∈ds,Bd 0 d):∀ (l:List Rt) (k:Nat) (s:Ri),m+k+l.length<16384->(∀t∈l,vd t.c=true/\Ok0 t.c/\Ld m t.c/\∀e∈t.exps,e<=32)->Bd (m+k) s->Bd (m+k+l.length) (Pi p ds l s)
 |[],_,_,_,_,h=>h
 |t::l,k,s,hl,ht,h=>by
  show Bd _ (Pi p ds l (eG s (Kd p ds t.exps ⟨t.c,t.c,false⟩) p));obtain⟨c1,c2,c3,c4⟩:=ht t σ;have hl2:m+k+(l.length+1)<16384:=hl;have:=ago hp hd l (k+1) _ ω (fun t ht'=>ht t γ) (RI (m:=m+k) hp ω h ((agn hp ω ds t.exps _ hd c4 ⟨⟨_,sn c1 c2⟩,rfl,c3,c3⟩).up (Nat.le_add_right m k)));grind
theorem so{m:Nat}:Bd m bN:=by
 have h:Ld m aH:=by unfold Ld;rw[cO rfl];grind
 exact⟨⟨_,sn aU.1 aU.2⟩,rfl,h,h⟩
theorem Sb.bd{m:Nat}{x y:Ri}(h:Sb x y)(hy:Bd m y):Bd m x:=by
 obtain⟨i,rfl| ⟨h1,h2,_,h3,h4⟩⟩:=h
 ·cases hy.a
 ·have:=ajo i h1;have l1:=hy.l;have l2:=hy.h;unfold Ld at l1 l2;refine⟨i,h1,?_,?_⟩<;> (unfold Ld;generalize 2^ (16384+m)=T at*;omega)
inductive Mrg:List Rt->List Rt->List Rt->Prop
 |nil:Mrg [] [] []
 |left {A r1 r2:List Rt} {t:Rt}:Mrg A r1 r2->Mrg (t::A) (t::r1) r2
 |right {A r1 r2:List Rt} {t:Rt}:Mrg A r1 r2->Mrg (t::A) r1 (t::r2)
 |both {A r1 r2:List Rt} {t:Rt} {c d:Rd}:Mrg A r1 r2->je c d=(t.c,0)->Mrg (t::A) (⟨t.exps,c⟩::r1) (⟨t.exps,d⟩::r2)
theorem Mrg.mem{A r1 r2:List Rt}(h:Mrg A r1 r2):(∀y∈r1,∃t∈A,y.exps=t.exps)/\∀y∈r2,∃t∈A,y.exps=t.exps:=by
 induction h with
 |nil=>grind
 |left h ih=>
  grind
 |right h ih=>
  grind
 |both h _ ih=>
  grind
theorem aBU{t y:Rt}{l:List Rt}(h:bU t.exps y.exps<0):wZ (t::l) y=(wZ l y).map (t::·):=by
 show(if bU t.exps y.exps<0 then _ else _)=_;grind
theorem aAy{t:Rt}:∀ {ts l:List Rt},(∀y∈ts,bU t.exps y.exps<0)->oE (t::l) ts=(oE l ts).map (t::·)
 |[],l,_=>rfl
 |y::ts,l,h=>by
  show(wZ (t::l) y).bind (fun l'=>oE l' ts)=((wZ l y).bind fun l'=>oE l' ts).map (t::·);rw[aBU (h y σ)];cases wZ l y with
  |none=>rfl
  |some l'=>exact aAy (fun q hq=>h q (by simp[hq]))
theorem aBV{t:Rt}:∀ {l:List Rt},(∀y∈l,bU t.exps y.exps<0/\t.exps.length=y.exps.length)->wZ l t=some (t::l)
 |[],_=>rfl
 |y::l,h=>by
  obtain⟨h1,h2⟩:=h y σ;have h3:=Kh h2;show(if bU y.exps t.exps<0 then _ else if bU y.exps t.exps=0 then _ else _)=_;grind
theorem aCs{v:Int}{A r1 r2:List Rt}(c:Cl v A)(h:Mrg A r1 r2):oE r1 r2=some A:=by
 induction h with
 |nil=>rfl
 |left h ih=>
  obtain⟨vt,ht,c2⟩:=c.cons;rw[aAy fun y hy=>?_,ih c2]
  ·rfl
  ·obtain⟨q,hq,he⟩:=h.mem.2 y hy;grind
 |right h ih=>
  rename_i A r1 r2 t;obtain⟨vt,ht,c2⟩:=c.cons;have hi:wZ r1 t=some (t::r1):=aBV fun y hy=>by
   obtain⟨q,hq,he⟩:=h.mem.1 y hy;rw[he];exact⟨ht q hq,vt.l2 (c2.t q hq)⟩
  show(wZ r1 t).bind (fun l'=>oE l' r2)=_;rw[hi,ayi,aAy fun y hy=>?_,ih c2]
  ·rfl
  ·obtain⟨q,hq,he⟩:=h.mem.2 y hy;grind
 |both h hadd ih=>
  rename_i A r1 r2 t c' d;obtain⟨vt,ht,c2⟩:=c.cons;have hi:wZ (⟨t.exps,c'⟩::r1) ⟨t.exps,d⟩=some (t::r1):=by
   show(if bU t.exps t.exps<0 then _ else if bU t.exps t.exps=0 then(if(je c' d).2=0 then some (if(je c' d).1.m.length=0 then r1 else⟨t.exps,(je c' d).1⟩::r1)else none)else _)=_;rw[SI,if_neg ω,if_pos rfl,hadd,if_pos rfl,if_neg vt.nz]
  show(wZ (⟨t.exps,c'⟩::r1) ⟨t.exps,d⟩).bind (fun l'=>oE l' r2)=_;rw[hi,ayi,aAy fun y hy=>?_,ih c2]
  ·rfl
  ·obtain⟨q,hq,he⟩:=h.mem.2 y hy;grind
theorem aAJ(o:Int):∀A:List Rt,Mrg A (A.filter (ST o)) (A.filter (PA o))
 |[]=>.nil
 |t::A=>by
  by_cases hd:bj t.exps<=o
  ·have f1:(ST o t)=true:=decide_eq_true hd;have f2:¬ (PA o t)=true:=by unfold PA;rw[decide_eq_true hd];exact ayl
   rw[List.filter_cons_of_pos f1,List.filter_cons_of_neg f2];exact .left (aAJ o A)
  ·have f1:¬ (ST o t)=true:=by unfold ST;rw[decide_eq_false hd];exact ayl
   have f2:(PA o t)=true:=by unfold PA;rw[decide_eq_false hd];rfl
   rw[List.filter_cons_of_neg f1,List.filter_cons_of_pos f2];exact .right (aAJ o A)
theorem aBW{c d t:Rd}(ot:Ok0 t)(vt:vd t=true)(vc:vd c=true)(vdd:vd d=true)(h:zI c+zI d=zI t):je c d=(t,0):=by
 unfold je;rw[vc,vdd,ayK,if_pos rfl,h,Bm ot vt];unfold cH;by_cases h0:t.m.length=0
 ·rw[Bb vt h0];rfl
 grind[Cd]
theorem aBA{v:Int}{t:Rt}{c d:Rd}{A l1 l2:List Rt}(vt:VT v t)(om:Ok0 c)(vm:vd c=true)(oq:Ok0 d)(vq:vd d=true)(hz:zI d=zI t.c-zI c)(ih:Mrg A l1 l2):Mrg (t::A) (eu t.exps c l1) (eu t.exps d l2):=by
 unfold eu;by_cases hc:c.m.length=0
 ·rw[if_pos hc];have hd:d=t.c:=aBR oq vt.c vq vt.vc (by rw[hz,cO hc,Int.sub_zero]);rw[hd,if_neg vt.nz];exact .right ih
 ·rw[if_neg hc];by_cases hd:d.m.length=0
  ·rw[if_pos hd];have hcc:c=t.c:=aBR om vt.c vm vt.vc (by grind[cO]);rw[hcc];exact .left ih
  ·rw[if_neg hd];exact .both ih (aBW vt.c vt.vc vm vq ω)
theorem aAY{v p:Int}:∀ {A:List Rt} {q:List Rt×List Rt},(∀t∈A,VT v t)->Ap p A=some q->Mrg A q.1 q.2
 |[],q,_,h=>by
  cases h;exact .nil
 |t::A,q,hv,h=>by
  have vt:=hv t σ;unfold Ap at h;split at h
  ·split at h
   ·rename_i h1 h2;rw[aye]at h;obtain⟨q2,h3,rfl⟩:=h;have ih:=aAY (fun x hx=>hv x γ) h3;grind[Io,Bu,mG,aBA,aaH]
   grind
  grind
def inc(l:List Int)(i:Nat):List Int:=l.set i (l.getD i 0+1)
theorem aaN(l:List Int)(i:Nat):(inc l i).length=l.length:=by simp[inc]
theorem anC{l:List Int}{i:Nat}(h:i<l.length):(inc l i).getD i 0=l.getD i 0+1:=by
 grind[inc]
theorem alf{l:List Int}{i:Nat}(h:i<l.length):dec (inc l i) i=l:=by
 simp_all[dec,anC,inc,List.set_set,Int.add_sub_cancel,List.set_getElem_self]
theorem aaO{l:List Int}{i:Nat}(h:i<l.length):bj (inc l i)=bj l+1:=by
 grind[aay,inc,aaN,alf]
def aiC(x:List Int):Rt:=⟨x,one⟩
def atI(v:Int)(t:Rt)(i:Nat):Rp:=⟨v,[aiC (inc t.exps i)]⟩
structure VS (v:Int) (i:Nat) (t:Rt):Prop where
 vt:VT v t
 hd:bj t.exps<=16
 hi:i<t.exps.length
theorem aaP{l:List Int}{i:Nat}(h:∀e∈l,0<=e/\e<=32)(hi:i<l.length):0<=l.getD i 0/\l.getD i 0<=bj l:=by
 simp_all[Lm]
theorem VS.inc{v:Int}{i:Nat}{t:Rt}(h:VS v i t){d:Rd}(od:Ok0 d)(vdd:vd d=true)(nd:d.m.length≠0):VT v ⟨inc t.exps i,d⟩:=by
 obtain⟨x1,x2⟩:=aaP h.vt.b h.hi;have:=h.hd;refine⟨od,by rw[aaN];exact h.vt.len,h.vt.v8,vdd,nd,fun e he=>?_,by rw[aaO h.hi];omega⟩;rcases List.mem_or_eq_of_mem_set he with h2|rfl
 ·exact h.vt.b e h2
 omega
theorem VS.one{v:Int}{i:Nat}{t:Rt}(h:VS v i t):VT v (aiC (Go.Ab.inc t.exps i)):=h.inc dN.2 dN.1 δ
theorem VS.oneC{v:Int}{i:Nat}{t:Rt}(h:VS v i t):Cl v [aiC (Go.Ab.inc t.exps i)]:=Cl.mk' h.one (fun _ h=>nomatch h) (Cl.nil _)
theorem VS.vp{v:Int}{i:Nat}{t:Rt}(h:VS v i t)(h0:0<=v):vp (atI v t i)=true:=Li h.oneC h0 h.vt.v8 γ
theorem VS.intD{v:Int}{i:Nat}{t:Rt}(h:VS v i t):Ok0 (intD (t.exps.getD i 0+1))/\vd (intD (t.exps.getD i 0+1))=true:=by
 obtain⟨x1,x2⟩:=aaP h.vt.b h.hi;have:=h.hd;obtain⟨k1,k2,_⟩:=akH (e:=t.exps.getD i 0+1) ω ω;grind
def nT(v i:Nat):List Int:=(lF v).set i 1
def RF(v i:Nat):Rp:=⟨v,[⟨nT v i,one⟩]⟩
theorem NZ(v i:Nat):(nT v i).length=v:=by simp[nT,lF]
theorem XQ{v i:Nat}(h:i<v):bj (nT v i)=1:=by
 have:=aaO (l:=lF v) (i:=i) (by grind[lF]);grind[Ru,inc,lF,nT]
theorem af4{v i:Nat}(h8:v<=8)(h:i<v):VT v ⟨nT v i,one⟩:=by
 refine⟨dN.2,by grind[nT,NZ],by omega,dN.1,(by show(1:Nat)≠0;decide),fun e he=>?_,by grind[XQ]⟩;rcases List.mem_or_eq_of_mem_set he with h|rfl
 ·exact ai8 e h
 omega
theorem af5{v:Nat}{i:Int}:R fcr [I v,I i] []=some (if v<=8/\0<=i/\i<v then pV (RF v i.toNat,0)else pV (p0,2),[]):=by
 refine au acg rfl ?_;have e1:((v:Int)<0)=False:=ff;by_cases g:v<=8/\0<=i/\i<v
 ·rw[if_pos g];obtain⟨h8,g1,g2⟩:=g;obtain⟨n,rfl⟩:=aze g1;have hn:n<v:=ω
  have e2:(8< (v:Int))=False:=ff;have e3:((n:Int)<0)=False:=ff;have e4:((v:Int)<=(n:Int))=False:=ff;have z1:nU (.v (.int .i64 (v:Int))) (.v (.int .i64 (v:Int)))=some (v,v):=by
   grind[nU]
  have z2:(v*8<=140737488355328)=True:=tt;have he:=Bp (v:=v);have h1:=Kb;simp only[ae,ah]at h1;have ei:Int.toNat (n:Int)=n:=ayk _;have k0:(aO (lF v)).set n [I 1]=aO (nT v n):=aag _ _ _;have k3:(aO (lF v))[n]?=some [I 0]:=by grind[aO,lF]
  have e7:(0<=(n:Int)/\(n:Int)< (v:Int))=True:=eq_true ⟨by omega,by omega⟩;simp only[tr,zz,go_sem,e1,e2,e3,e4,h1,he,pM,z1,z2,Xw,e7,ei,k0,k3,ayc];have k1:(v<=(nT v n).length)=True:=eq_true (by simp_all[NZ,ayd]);have k2:(aO (nT v n)).take v=aO (nT v n):=ayt (by simp_all[Dw,NZ,ayd]);simp only[k1,k2,go_sem];have hadd:=dy (aS.1.2.1 false) rfl (pK (d:=34) (id:=2240) (v:=v) (e:=0) (e':=0) (c:=.emp) (l:=[]) (x:=nT v n) (q:=one) (h:=upd (upd (upd (upd (upd (fun _=>.dead) 4 (.bx [I 0,.emp])) 25 (.ar 1 (aO (lF v)))) 25 (.ar 1 (aO (nT v n)))) 2240 (.bx [I v,.emp,I 0])) 25 (.fz 1 (aO (nT v n)))) rfl (.inr ⟨rfl,rfl⟩) (.inl rfl) (NM (af4 h8 hn)));simp only[ae,ah,t3]at hadd;simp only[hadd,go_sem];obtain⟨o,hdn⟩:=Cj (v:=v) (e:=0) (c:=.osl 4 (aJ [⟨nT v n,one⟩])) (l:=[⟨nT v n,one⟩]) (d:=36) (id:=2240) (h:=upd (upd (upd (upd (upd (upd (fun _=>.dead) 4 (.bx [I 0,.emp])) 25 (.ar 1 (aO (lF v)))) 25 (.ar 1 (aO (nT v n)))) 2240 (.bx [I v,.emp,I 0])) 25 (.fz 1 (aO (nT v n)))) 2240 (.bx [I v,.osl 4 (aJ [⟨nT v n,one⟩]),I 0])) rfl (.inl rfl) rfl;have hd':=dy (br.1.2.1 false) rfl hdn;rw[hd'];have e4:tL v (some [⟨nT v n,one⟩])=(RF v n,0):=rfl;have e5:=GZ [⟨nT v n,one⟩];rw[e4];simp only[pV,aT,e5,go_sem]
 ·rw[if_neg g];by_cases g1:v<=8
  ·have e2:(8< (v:Int))=False:=ff;by_cases g2:0<=i
   ·have e3:(i<0)=False:=ff;have e4:((v:Int)<=i)=True:=tt;simp only[tr,zz,go_sem,e1,e2,e3,e4];rfl
   ·have e3:(i<0)=True:=tt;simp only[tr,zz,go_sem,e1,e2,e3];rfl
  ·have e2:(8< (v:Int))=True:=tt;simp only[tr,zz,go_sem,e1,e2];rfl
noncomputable def yv (s:Rs) (i:Int):Rm:=if(j7 s&&decide (0<=i/\i<s.dom.length))=true then⟨RF s.dom.length i.toNat,bN⟩else bV s
theorem aaQ{s:Rs}{i:Int}(os:OkS s):R fbN [mM s,I i] []=some (fh (yv s i),[]):=by
 refine au YK rfl ?_;have h1:=tj os.d os.n;have h2:=mY (s:=s);have h3:=af5 (v:=s.dom.length) (i:=i);have h4:=S2;unfold yv;by_cases g:s.dom.length<=8/\0<=i/\i<s.dom.length
 ·rw[if_pos g]at h3;rw[decide_eq_true g.2,Bool.and_true];simp only[pV,aT,am,ap]at h3 h4;cases g1:j7 s with
  |false=>
   rw[g1]at h1;simp only[qH,xd,go_sem,h1,h2,h3]
  |true=>
   rw[g1]at h1;simp only[qH,xd,go_sem,h1,h3,h4]
 ·rw[if_neg g]at h3;have gf:(j7 s&&decide (0<=i/\i<s.dom.length))=false:=by
   grind[g1,j7,decide_eq_false,iX]
  rw[gf,if_neg ayl];simp only[pV,aT,p0]at h3;have f:((2:Int)=0)=False:=eq_false δ;cases g1:j7 s with
  |false=>
   rw[g1]at h1;simp only[qH,xd,go_sem,h1,h2,h3]
  |true=>
   rw[g1]at h1;simp only[qH,xd,go_sem,h1,h2,h3,f]
theorem aiD{a:Rp}{o:Int}(ho:-1<=o)(h:∀t∈a.terms,bj t.exps<=o):eX a<=o:=by
 grind[eX]
theorem aaR{s:Rs}(h:j7 s=true):1<=s.dom.length/\1<=s.ord:=by
 simp_all[j7,ayf,decide_eq_true_eq]
theorem Ux{s:Rs}{m:Rm}(hs:j7 s=true)(c:Cl s.dom.length m.P.terms)(hv:m.P.vars=s.dom.length)(hl:m.P.terms.length<=500)(hd:∀t∈m.P.terms,bj t.exps<=s.ord)(hr:vi m.R=true)(hi:∀t∈m.P.terms,vA t.c s.p=true):tl s m=true:=by
 unfold tl;have h8:=(iX hs).1;have hp:vp m.P=true:=by
  have:m.P=⟨(s.dom.length:Int),m.P.terms⟩:=by rw[←hv]
  grind[Li]
 rw[hs,hp,decide_eq_true hv,decide_eq_true (aiD (by grind[aaR]) hd),hr,ayg,ayg,ayg,ayg,ayg,azf,List.any_eq_false];grind
theorem alF{n:Bool}{a k:Nat}:bE n (a*2^k)=bE n a*2^k:=by
 grind[bE,Int.natCast_mul,Int.neg_mul]
theorem aiN{c:Rd}{p:Int}{up:Bool}(ok:Ok0 c)(vc:vd c=true)(hp:bG p=true)(hb:(af (ab c.m):Int)<=p):bZ c p up=(c,0):=by
 have hp2:=vo hp;by_cases h0:c.m.length=0
 ·grind[Bb,XC]
 have hi:(af (ab c.m):Int)+c.e<=16384∧-16384<=c.e:=by
  have h:=vc;unfold vd at h;rw[if_neg h0]at h;have o:=G2 vc h0;simp only[ayf,decide_eq_true_eq]at h;have hi:=Bc h.2.2.2 (by have:=(jK (n:=ab c.m) (k:=0)).2 ω;omega);omega
 unfold bZ;rw[if_pos (by grind[aZ]),show zI c=bE c.neg (mg c)from rfl];unfold mg;rw[alF,Sw,show(-16384:Int)+((c.e+16384).toNat:Int)=c.e by omega,←Pf hp2];have hk:J9 (ab c.m) c.e p=0:=by grind[J9]
 simp_all[ED,QS,ab,Nat.pow_zero,Nat.mod_one,Nat.div_one,Bi,if_neg,Kg]
theorem agp{c:Rd}{p:Int}(ok:Ok0 c)(vc:vd c=true)(hp:bG p=true)(hb:(af (ab c.m):Int)<=p):mG c p=(c,0):=by
 simp_all[mG,aiN,if_pos,LD,XL]
theorem agq{c:Rd}(vc:vd c=true):mF c c=(aH,0):=by
 unfold mF;rw[vc,ayK,if_pos rfl,Int.sub_self];exact EI rfl
theorem X7{p:Int}(hp:bG p=true):∀ts:List Rt,(∀t∈ts,Ok0 t.c/\t.c.m.length≠0/\vA t.c p=true)->Ap p ts=some (ts,[])
 |[],_=>rfl
 |t::ts,h=>by
  obtain⟨h1,h2,h3⟩:=h t σ;unfold vA at h3;simp only[ayf,decide_eq_true_eq]at h3;have hn:=agp h1 h3.2.1 hp h3.2.2;unfold Ap;rw[hn,if_pos rfl,agq h3.2.1,if_pos rfl,X7 hp ts fun t ht=>h t (by simp[ht])];show some (eu t.exps t.c ts,eu t.exps aH [])=_;unfold eu;rw[if_neg h2,if_pos (show aH.m.length=0 from rfl)]
structure Fit (s:Rs) (q:Rp):Prop where
 v:q.vars=s.dom.length
 n:q.terms.length<=500
 c:Cl s.dom.length q.terms
 d:∀t∈q.terms,bj t.exps<=s.ord
 r:∀t∈q.terms,vA t.c s.p=true
theorem Fit.ok{s:Rs}{q:Rp}(h:Fit s q):OkP q:=⟨fun t ht=>(h.c.t t ht).ok⟩
theorem Fit.vp{s:Rs}{q:Rp}(hs:j7 s=true)(h:Fit s q):vp q=true:=by
 have:=h.v;obtain⟨v,l⟩:=q;subst this;exact Li h.c ω (by have:=(iX hs).1;omega) h.n
theorem ags{s:Rs}{q:Rp}(hs:j7 s=true)(h:Fit s q):cR q s.ord=(q,⟨q.vars,[]⟩):=by
 unfold cR;rw[if_pos (h.vp hs),List.filter_eq_self.2 fun t ht=>by exact decide_eq_true (h.d t ht),List.filter_eq_nil_iff.2 fun t ht=>by unfold PA;rw[decide_eq_true (h.d t ht)];grind]
theorem Tf{s:Rs}{q:Rp}(hs:j7 s=true)(h:Fit s q):dO q s.p=((q,⟨q.vars,[]⟩),0):=by
 have hp:=(iX hs).2;have hp2:=vo hp;unfold dO;rw[if_pos (h.vp hs),if_neg ω,X7 hp _ fun t ht=>⟨(h.c.t t ht).c,(h.c.t t ht).nz,h.r t ht⟩]
theorem LJ{p:Int}(hp:bG p=true):eG bN bN p=bN:=by
 unfold eG;rw[(so (m:=0)).k,hp,ayK,ayK,if_pos rfl];show ui (du aH aH p false) (du aH aH p true)=_;rw[afJ,afJ,XC hp,XC hp];rfl
theorem aaZ{v p:Int}{dom:List Ri}:iO ⟨v,[]⟩ dom p=bN:=by
 simp_all[iO,if_pos]
theorem alG{s:Rs}{q:Rp}(hs:j7 s=true)(h:Fit s q):vB s q=((q,bN),true):=by
 unfold vB;simp only[ags hs h,Tf hs h,aaZ,LJ (iX hs).2,←h.v];rfl
theorem X8{s:Rs}{q:Rp}(hs:j7 s=true)(h:Fit s q):jF s q 0 bN=⟨q,bN⟩:=by
 simp_all[jF,alG,if_pos,LJ,iX]
theorem agt{r:Ri}{p:Int}(hk:kI r=true)(hp:bG p=true):iu r bN p=bN:=by
 obtain⟨_,v1,v2⟩:=Uv hk;have e1:∀i,(gw r bN i).2=aH:=fun i=>by unfold gw;split<;>rfl
 have e2:∀i,vd (gw r bN i).1=true:=fun i=>by unfold gw;grind
 have e3:∀i up,fJ (gw r bN i).1 (gw r bN i).2 p up=(aH,0):=fun i up=>by
  rw[e1];unfold fJ;rw[if_pos (X4 (e2 i) XB hp).1,cO (d:=aH) rfl,Int.mul_zero,ajn]
 unfold iu;rw[hk,hp,(so (m:=0)).k,ayK,ayK,if_pos rfl];unfold qA;simp only[e3,and_self,if_true];have e4:∀k i,wr (fun a b=>fJ a b p false) (fun a b=>fJ a b p true) (gw r bN) k i (aH,aH)=some (aH,aH):=fun k=>by
  induction k with
  |zero=>exact fun i=>rfl
  |succ k ih=>
   simp_all[wr,and_self,if_true,ite_self]
 rw[e4];rfl
theorem alH{x:Ri}(hv:OkI x)(h:lS x lG=true):Bd 0 x:=by
 unfold lS at h;split at h
 ·rename_i g;obtain⟨g1,g2,g3⟩:=g;simp only[lG,Bool.false_or,ayf,decide_eq_true_eq]at h;have h5:zI yu<=zI x.lo:=of_decide_eq_true h.1;have h6:zI x.hi<=zI one:=of_decide_eq_true h.2;have k:kI x=true:=by grind[kI,g1]
  obtain⟨_,v1,v2⟩:=Uv k;have hl:zI x.lo<=zI x.hi:=by
   simp_all[vi,g1,if_neg,ayf,decide_eq_true_eq]
  have e1:zI one=((2^ (16384+0):Nat):Int):=KM (n:=false) (k:=0);have e2:zI yu=-((2^ (16384+0):Nat):Int):=KM (n:=true) (k:=0);refine⟨⟨qv x.lo,Or.inr ⟨g3,⟨⟨v1,hv.1⟩,⟨v2,hv.2⟩⟩,Rat.le_refl,Ao.2 hl⟩⟩,g3,?_,?_⟩<;> (unfold Ld;generalize 2^ (16384+0)=T at e1 e2⊢;omega)
 grind[lG]
theorem agu{s:Rs}(os:OkS s)(hs:j7 s=true):∀x∈s.dom,Bd 0 x:=fun x hx=>by
 unfold j7 at hs;exact alH (os.d x hx) γ
theorem aa0{s:Rs}(os:OkS s)(hs:j7 s=true){q:Rp}(hv:vp q=true)(h:q.vars=s.dom.length):nP q s.dom=true:=by
 unfold nP;rw[hv,decide_eq_true h.symm,ayg,ayg,azf,List.any_eq_false];exact fun x hx=>by rw[(agu os hs x hx).k];grind
theorem agv{s:Rs}(os:OkS s)(hs:j7 s=true){q:Rp}{m:Nat}(oq:OkP q)(hv:vp q=true)(h:q.vars=s.dom.length)(hc:∀t∈q.terms,Ld m t.c)(hm:m+q.terms.length<16384):Bd (m+q.terms.length) (iO q s.dom s.p):=by
 have hp:=(iX hs).2;have hd:=aa0 os hs hv h;have hcl:=(lE oq hv).1;by_cases h0:q.terms.length=0
 ·simp_all[iO,if_pos,so]
 ·have hb:Bd (m+q.terms.length) (pI q s.dom s.p):=by
   unfold pI;rw[hd,hp,ayK,if_pos rfl];exact ago (k:=0) hp (agu os hs) q.terms _ hm (fun t ht=>⟨(hcl.t t ht).vc,(hcl.t t ht).c,hc t ht,fun e he=>((hcl.t t ht).b e he).2⟩) so
  exact(anS oq os.d (by grind[iX]) hd hp h0 hb.a).bd hb
def I3(a b:Rat)(q:Rat->Rat->Rat):Prop:=∃C,0<=C/\∀x y,a<=x->x<=b->a<=y->y<=b→-C<=q x y/\q x y<=C
theorem I3.add{a b:Rat}{p q:Rat->Rat->Rat}(hp:I3 a b p)(hq:I3 a b q):I3 a b fun x y=>p x y+q x y:=by
 obtain⟨C,c0,hc⟩:=hp;obtain⟨D,d0,hd⟩:=hq;refine⟨C+D,by grind,fun x y h1 h2 h3 h4=>?_⟩;grind
theorem I3.mul{a b:Rat}{p q:Rat->Rat->Rat}(hp:I3 a b p)(hq:I3 a b q):I3 a b fun x y=>p x y*q x y:=by
 obtain⟨C,c0,hc⟩:=hp;obtain⟨D,d0,hd⟩:=hq;refine⟨C*D,Rat.mul_nonneg c0 d0,fun x y h1 h2 h3 h4=>?_⟩;obtain⟨u1,u2⟩:=hc x y h1 h2 h3 h4;obtain⟨v1,v2⟩:=hd x y h1 h2 h3 h4;show-(C*D)<=p x y*q x y/\p x y*q x y<=C*D;generalize p x y=u at*
 generalize q x y=v at*
 have k1:=Rat.mul_nonneg (show 0<=C-u by grind) (show 0<=D-v by grind);have k2:=Rat.mul_nonneg (show 0<=C+u by grind) (show 0<=D+v by grind);have k3:=Rat.mul_nonneg (show 0<=C-u by grind) (show 0<=D+v by grind);have k4:=Rat.mul_nonneg (show 0<=C+u by grind) (show 0<=D-v by grind);grind
theorem I3.c{a b:Rat}(k:Rat):I3 a b fun _ _=>k:=by
 rcases Rat.le_total (a:=0) (b:=k)with h|h
 ·exact⟨k,h,fun _ _ _ _ _ _=>by grind⟩
 ·exact⟨-k,by grind,fun _ _ _ _ _ _=>by grind⟩
def Smo(a b:Rat)(f g:Rat->Rat):Prop:=∃q,I3 a b q/\∀x y,f y-f x-g x*(y-x)=(y-x)*(y-x)*q x y
theorem Smo.lin{a b c d:Rat}{f g f' g':Rat->Rat}(h1:Smo a b f g)(h2:Smo a b f' g')(hd:d=c):Smo a b (fun x=>c*f x+f' x) fun x=>d*g x+g' x:=by
 obtain⟨q,hq,e⟩:=h1;obtain⟨q',hq',e'⟩:=h2;refine⟨fun x y=>d*q x y+q' x y,((I3.c _).mul hq).add hq',fun x y=>?_⟩;grind
def u8R(l:List Nat):List (List AV):=l.map fun k=>[.v (.int .u8 (k:Nat))]
@[go_sem] theorem awb(l:List Nat):(u8R l).length=l.length:=by simp[u8R]
theorem aAs{a b:Rd}(h:(fS a b).2=0):qv (fS a b).1=qv a*qv b:=by
 have e:=akb h;have e2:=Kp 16384;have e3:(zI (fS a b).1:Rat)*pQ 16384=(zI a:Rat)*zI b:=by
  unfold pQ;rw[←Rat.intCast_mul,←Rat.intCast_mul,e]
 unfold qv EQ;grind
theorem anU{a b:Rd}(h:(je a b).2=0):qv (je a b).1=qv a+qv b:=by
 simp_all[qv,ZZ,Rat.intCast_add,Rat.add_mul]
theorem aA7{x:Rd}:∀ {n:Nat} {c d:Rd},aes x n c=some d->qv d=qv c*qv x^n
 |0,c,d,h=>by
  cases h;grind
 |n+1,c,d,h=>by
  unfold aes at h;split at h
  ·rename_i h0;rw[aA7 h,aAs h0,Rat.pow_succ];grind
  ·cases h
theorem aBr:∀ {es:List Int} {xs:List Rd} {c d:Rd},azP es xs c=some d->qv d=qv c*Ks (xs.map qv) (EP es)
 |e::es,x::xs,c,d,h=>by
  simp only[azP,ayb]at h;obtain⟨m,h1,h2⟩:=h;show qv d=qv c*(qv x^e.toNat*Ks (xs.map qv) (EP es));rw[aBr h2,aA7 h1,Rat.mul_assoc]
 |[],xs,c,d,h=>by
  grind[azP,EP,Ks]
 |e::es,[],c,d,h=>by
  grind[azP,EP,Ks]
theorem aBY{xs:List Rd}:∀ {l:List Rt} {s:Rd},(azO xs l s).2=0->qv (azO xs l s).1=qv s+fv (xs.map qv) l
 |[],s,_=>by
  grind[azO,fv]
 |t::l,s,h=>by
  unfold azO at h⊢;cases hp:azP t.exps xs t.c with
  |none=>grind
  |some d=>
   rw[hp]at h;simp only at h⊢;split at h
   ·rename_i h0;rw[if_pos h0,aBY h,anU h0,aBr hp];grind[qv,Ks,EP,fv]
   omega
theorem aBs{a:Rp}{xs:List Rd}(h:(anA a xs).2=0):qv (anA a xs).1=fv (xs.map qv) a.terms:=by
 unfold anA at h⊢;split at h
 ·rename_i he;rw[if_pos he,aBY h,Ig];grind
 omega
theorem aAQ(x:Rat)(m:Nat):∀n,x^ (m+n)=x^m*x^n
 |0=>by grind
 |n+1=>by rw[←Nat.add_assoc,Rat.pow_succ,aAQ x m n,Rat.pow_succ,Rat.mul_assoc]
theorem aBZ:∀ {es:List Int} {xs:List Rd},Ks (xs.map qv) (EP es)=(pwZ es xs:Rat)*EQ^dg es xs
 |e::es,x::xs=>by
  show qv x^e.toNat*Ks (xs.map qv) (EP es)=((zI x^e.toNat*pwZ es xs:Int):Rat)*EQ^ (e.toNat+dg es xs);rw[aBZ,aAQ,Rat.intCast_mul];have:qv x^e.toNat=((zI x^e.toNat:Int):Rat)*EQ^e.toNat:=by
   generalize e.toNat=n;induction n with
   |zero=>grind
   |succ n ih=>
    grind[qv]
  grind
 |[],xs=>by
  show Ks _ _=((1:Int):Rat)*EQ^0
  simp_all[Rat.pow_zero,EP,Ks]
 |e::es,[]=>by
  show(1:Rat)=((1:Int):Rat)*EQ^0;grind
theorem aB0{xs:List Rd}{W:Int}(hW:(W:Rat)*EQ=1){w:Int}:∀ {l:List Rt},(∀t∈l,VT w t)->fv (xs.map qv) l*(W:Rat)^32=EQ*(lfn l (fun u=>pwZ u xs*W^ (32-dg u xs)):Rat)
 |[],_=>by show(0:Rat)*_=EQ*((0:Int):Rat);simp
 |t::l,h=>by
  have ih:=aB0 (xs:=xs) hW (l:=l) fun t ht=>h t (List.mem_cons_of_mem _ ht);have hd:=(h t σ).dg xs;show(qv t.c*Ks (xs.map qv) (EP t.exps)+fv (xs.map qv) l)*(W:Rat)^32=EQ*((zI t.c*(pwZ t.exps xs*W^ (32-dg t.exps xs))+lfn l _:Int):Rat);rw[Rat.intCast_add,Rat.mul_add,←ih,aBZ,Rat.intCast_mul,Rat.intCast_mul];have e1:∀n:Nat,((W^n:Int):Rat)=(W:Rat)^n:=fun n=>by
   grind
  have e2:∀n:Nat,(W:Rat)^n*EQ^n=1:=fun n=>by
   induction n with
   |zero=>grind
   |succ n ih=>
    grind
  have e3:(W:Rat)^32=(W:Rat)^ (32-dg t.exps xs)*(W:Rat)^dg t.exps xs:=by rw[←aAQ];grind
  have e4:=e2 (dg t.exps xs);rw[e1,e3,show qv t.c=(zI t.c:Rat)*EQ from rfl];grind
theorem aER{a b:Rp}{xs:List Rd}(oa:OkP a)(ob:OkP b)(h:(Kl a b).2=0):fv (xs.map qv) (Kl a b).1.terms=fv (xs.map qv) a.terms+fv (xs.map qv) b.terms:=by
 obtain⟨pa,pb,pc,f⟩:=aD2 oa ob h;have hW:(((2:Int)^16384:Int):Rat)*EQ=1:=by
  have:=Kp 16384;rw[Rat.mul_comm];exact this
 have q1:=aB0 (xs:=xs) hW pa.cl.t;have q2:=aB0 (xs:=xs) hW pb.cl.t;have q3:=aB0 (xs:=xs) hW pc.cl.t;rw[f,Rat.intCast_add,Rat.mul_add,←q1,←q2,←Rat.add_mul]at q3;grind
theorem alI{e:Int}(h1:1<=e)(h2:e<=32):qv (intD e)=(e:Rat):=by
 obtain⟨W,hW⟩:=anB;have h1:=hW e.natAbs ω;have h2:=hW 1 ω;have h3:bk false 1 0=one:=by grind[se,one,iN,xu,av,re,ft]
 have h5:((e.natAbs:Nat):Int)=e:=ω
 have h4:=Kx
 simp_all[qv,intD,Rat.intCast_mul,Rat.mul_assoc,Rat.one_mul,Rat.mul_one]
def cE(dom:List Ri)(k j:Nat):Rd:=if k/2^j%2=1 then(dom.getD j dm).hi else(dom.getD j dm).lo
theorem aC3{a b y:Rat}(h1:a<=y)(h2:y<=b):∃t,y=a+(b-a)*t/\0<=t/\t<=1:=by
 by_cases he:b-a=0
 ·exact⟨0,by grind,Rat.le_refl,by decide⟩
 ·have hp:0<b-a:=γ
  have hi:=Ro hp;have hm:(b-a)*(b-a)⁻¹=1:=Rat.mul_inv_cancel _ he;refine⟨(y-a)*(b-a)⁻¹,?_,Rat.mul_nonneg γ (Rat.le_of_lt hi),?_⟩
  ·generalize(b-a)⁻¹=w at*
   grind
  ·have:=Rat.mul_nonneg (show 0<=b-y by grind) (Rat.le_of_lt hi);generalize(b-a)⁻¹=w at*
   grind
theorem adi{z:Int}{k:Nat}{e:Int}:df (z*((2^k:Nat):Int)) e=df z (e+k):=by
 have hp:0< ((2^k:Nat):Int):=Int.natCast_pos.2 (ayr k);generalize hP:(2^k:Nat)=P at hp;grind[Int.mul_nonneg,Int.le_of_lt,Int.mul_neg_of_neg_of_pos,df,Int.natAbs_mul,Int.natAbs_natCast,jC]
def Gl:Rd:=⟨false,[1],1⟩
theorem LK:vd Gl=true/\Ok0 Gl:=⟨by decide,⟨fun x hx=>by rw[List.mem_singleton.1 hx];decide,by decide⟩⟩
theorem agw:fS one one=(one,0):=by
 unfold fS;rw[dN.1,ayK,if_pos rfl];have h:zI one=((2^ (16384+0):Nat):Int):=KM (n:=false) (k:=0);have h2:=adi (z:=zI one) (k:=16384+0) (e:=-32768);rw[←h]at h2;rw[h2,show(-32768:Int)+((16384+0:Nat):Int)=-16384 by omega,Bm dN.2 dN.1,EI dN.1]
theorem agx:je one one=(Gl,0):=by
 unfold je;rw[dN.1,ayK,if_pos rfl];have h:zI one=((2^ (16384+0):Nat):Int):=KM (n:=false) (k:=0);have h2:=KM (n:=false) (k:=0+1);have hp:∀a:Nat,2^ (a+(0+1))=2^ (a+0)*2:=fun a=>by rw[ayc,ayn,Nat.pow_one,ayF]
 rw[hp 16384,show(⟨false,[1],((0+1:Nat):Int)⟩:Rd)=Gl from rfl]at h2;unfold bE at h2;rw[if_neg ayl]at h2;have e:zI one+zI one=zI Gl:=by
  omega
 rw[e,Bm LK.2 LK.1,EI LK.1]
def s0:Rs:=⟨[lG],2,24⟩
abbrev tX(n:Int)(c:Rd):Rt:=⟨[n],c⟩
def xP:Rp:=⟨1,[tX 1 one]⟩
def qP:Rp:=⟨1,[tX 2 one]⟩
def yP:Rp:=⟨1,[tX 1 one,tX 2 one]⟩
def hP:Rp:=⟨1,[tX 3 Gl,tX 4 one]⟩
def wP:Rp:=⟨1,[tX 2 one,tX 3 Gl,tX 4 one]⟩
theorem ajr{n:Int}{c:Rd}(hn:0<=n/\n<=32)(h:vd c=true/\Ok0 c)(h0:c.m.length≠0):VT 1 (tX n c):=⟨h.2,rfl,by decide,h.1,h0,fun e he=>by grind,by show n+0<=32;omega⟩
theorem cl1{a:Rt}(h:VT 1 a):Cl 1 [a]:=Cl.mk' h (fun _ h=>nomatch h) (Cl.nil _)
theorem cl2{a:Rt}{b:Rt}{l:List Rt}(h:VT 1 a)(hb:Cl 1 (b::l))(h1:∀t∈ (b::l),bU a.exps t.exps<0):Cl 1 (a::b::l):=Cl.mk' h h1 hb
theorem v1_{n:Int}(hn:0<=n/\n<=32):VT 1 (tX n one):=ajr hn dN δ
theorem v2_{n:Int}(hn:0<=n/\n<=32):VT 1 (tX n Gl):=ajr hn LK δ
theorem anV:Cl 1 yP.terms:=cl2 (v1_ δ) (cl1 (v1_ δ)) (by decide+revert)
theorem anW:Cl 1 hP.terms:=cl2 (v2_ δ) (cl1 (v1_ δ)) (by decide+revert)
theorem anX:vp yP=true:=Li anV δ δ δ
theorem LL:Fit s0 xP:=⟨rfl,by decide,cl1 (v1_ δ),by decide+revert,fun t ht=>by rw[List.mem_singleton.1 ht];decide⟩
theorem Uy:Fit s0 qP:=⟨rfl,by decide,cl1 (v1_ δ),by decide+revert,fun t ht=>by rw[List.mem_singleton.1 ht];decide⟩
theorem PR:Fit s0 yP:=⟨rfl,by decide,anV,by decide+revert,by decide+revert⟩
theorem alJ:In (qv yu) lG:=Or.inr ⟨rfl,LA.2,Rat.le_refl,Ao.2 (by
 rw[show zI yu=bE true (2^ (16384+0))from KM (k:=0),show zI lG.hi=bE false (2^ (16384+0))from KM (k:=0)];simp only[bE,if_true,aza,if_false];omega)⟩
theorem aiO{x:Ri}{q:Rat}(h:In q x)(ha:x.all=false):lS x x=true:=Sb.ins ⟨⟨_,h⟩,Or.inr ⟨ha,ha,⟨_,h⟩,Int.le_refl _,Int.le_refl _⟩⟩
theorem MN:j7 s0=true:=by
 have h:=aiO alJ rfl;unfold j7;simp[s0,h];rfl
theorem Tg:OkS s0:=⟨fun x hx=>by rw[List.mem_singleton.1 hx];exact LA.1,by decide⟩
theorem vm0{q:Rp}(h:Fit s0 q):tl s0 ⟨q,bN⟩=true:=Ux MN h.c h.v h.n h.d ((so (m:=0)).i.elim fun _ h=>h.v) h.r
theorem ev0{a b:Rp}(ha:Fit s0 a)(hb:Fit s0 b):pN s0 [⟨a,bN⟩,⟨b,bN⟩]=true:=by
 grind[pN,MN,vm0]
theorem anY:Bo xP xP=(qP,0):=by
 unfold Bo;simp only[xP,tX,mf,nQ,Ia,agw,if_true,ayi,ayT,ayp];rfl
theorem anZ:Kl xP qP=(yP,0):=by
 rfl
theorem an0:Bo yP yP=(wP,0):=by
 unfold Bo;rw[if_pos (Ci.2 ⟨anX,anX,rfl⟩),if_neg (by rw[show eX yP=2 by rfl];omega)];simp only[yP,tX,mf,nQ,Ia,agw,if_true,ayi,ayT,ayp,ayW,ayq];have e:∀c:Rd,oE [] [tX 2 c,tX 3 c,tX 3 c,tX 4 c]=((if(je c c).2=0 then some (if(je c c).1.m.length=0 then []else [tX 3 (je c c).1])else none).map (tX 2 c::·)).bind fun l=>oE l [tX 4 c]:=fun c=>rfl;show tL 1 (oE [] [tX 2 one,tX 3 one,tX 3 one,tX 4 one])=_;rw[e,agx];rfl
theorem ap2:cR wP 2=(qP,hP):=by
 rfl
theorem mz{q:Rp}(h:Fit s0 q)(hl:∀t∈q.terms,t.c=one):iu (iO q s0.dom s0.p) bN s0.p=bN:=
 agt (agv (m:=0) Tg MN h.ok (h.vp MN) h.v (fun t ht=>by grind[PQ]) (by have:=h.n;omega)).k rfl
theorem z3:tM s0.p bN [bN,bN]=bN:=by
 simp only[tM,LJ (show bG s0.p=true from rfl)]
theorem an1{a b q:Rp}(ha:Fit s0 a)(hb:Fit s0 b)(la:∀t∈a.terms,t.c=one)(lb:∀t∈b.terms,t.c=one)(hm:Bo a b=(q,0)):RE s0 ⟨a,bN⟩ ⟨b,bN⟩=jF s0 q 0 bN:=by
 unfold RE;rw[if_pos (ev0 ha hb),hm,mz ha la,mz hb lb,agt (so (m:=0)).k (show bG s0.p=true from rfl),z3]
theorem c_x:∀t∈xP.terms,t.c=one:=fun t ht=>by rw[List.mem_singleton.1 ht]
theorem c_y:∀t∈yP.terms,t.c=one:=fun t ht=>by
 rcases List.mem_cons.1 ht with rfl|ht
 all_goals grind
theorem atT:yv s0 0=⟨xP,bN⟩:=by
 unfold yv;rw[MN];rfl
theorem atU:RE s0 ⟨xP,bN⟩ ⟨xP,bN⟩=⟨qP,bN⟩:=by
 rw[an1 LL LL c_x c_x anY,X8 MN Uy]
theorem atV:adM s0 ⟨xP,bN⟩ ⟨qP,bN⟩=⟨yP,bN⟩:=by
 unfold adM;rw[if_pos (ev0 LL Uy),anZ,LJ rfl,X8 MN PR]
noncomputable def zR:Ri:=eG bN (eG (iO hP s0.dom s0.p) bN s0.p) s0.p
theorem atW:RE s0 ⟨yP,bN⟩ ⟨yP,bN⟩=⟨qP,zR⟩:=by
 rw[an1 PR PR c_y c_y an0];have e:vB s0 wP=((qP,eG (iO hP s0.dom s0.p) bN s0.p),true):=by
  unfold vB;simp only[show cR wP s0.ord=(qP,hP)from ap2,Tf MN Uy,aaZ];rfl
 unfold jF;rw[e,if_pos rfl,if_pos rfl];rfl
theorem an2:OkP hP:=⟨fun t ht=>(anW.t t ht).ok⟩
theorem an3:vp hP=true:=Li anW δ δ δ
theorem atX:Bd 3 (iO hP s0.dom s0.p):=agv (m:=1) Tg MN an2 an3 rfl (fun t ht=>by
 rcases List.mem_cons.1 ht with rfl|ht
 ·exact anT (k:=1)
 ·rw[List.mem_singleton.1 ht];exact PQ.up δ) δ
theorem ap3:zR.all=false:=(RI (m:=4) rfl δ so (RI (m:=3) rfl δ atX so)).a
theorem ajt:In 3 zR:=by
 have h1:=Kx;have h2:qv Gl=2:=by
  grind[anU,one,agx,qv,Gl]
 have hp:uq s0.dom [1] [1]:=⟨by grind[lG],by decide,by decide,trivial⟩;have hi:=anR (p:=s0.p) an2 Tg.d δ (aa0 Tg MN an3 rfl) hp;have e:fv [1] hP.terms=3:=by
  simp[fv,hP,tX,Ks,EP,h1,h2];grind
 rw[e]at hi;have hz:In 0 bN:=by
  have:=sn aU.1 aU.2;rwa[Ig]at this
 have:=ww (p:=s0.p) hz (ww (p:=s0.p) hi hz);have e2:(0:Rat)+(3+0)=3:=γ
 rwa[e2]at this
theorem aBB:(KK:Rat)*EQ=1:=by
 have h:=akk (a:=one) (b:=one) (by rw[agw]);rw[agw]at h;have h1:=Kx;unfold qv at h1;have hk:KK=zI one:=by
  refine Int.eq_of_mul_eq_mul_left (fun h0=>?_) h
  simp_all
 grind
noncomputable def K33:Rat:=(KK:Rat)^32*KK
theorem aB3:(KK:Rat)≠0:=fun h=>by
 grind[aBB]
theorem aCI:K33≠0:=by
 have hp:∀n:Nat,(KK:Rat)^n≠0:=fun n=>by
  induction n with
  |zero=>grind
  |succ n ih=>grind[aB3]
 exact fun h=>(Rat.mul_eq_zero.1 h).elim (hp 32) aB3
theorem aBC{xs:List Rd}{w:Int}{l:List Rt}(h:∀t∈l,VT w t):fv (xs.map qv) l*K33=(lfn l (ph xs):Rat):=by
 have h1:=aB0 (xs:=xs) aBB h;have h2:(lfn l (fun u=>pwZ u xs*KK^ (32-dg u xs)):Rat)=(lfn l (ph xs):Rat):=rfl;rw[h2]at h1;unfold K33;rw[←Rat.mul_assoc,h1,Rat.mul_comm,←Rat.mul_assoc,aBB,Rat.one_mul]
theorem aC4{x y:Rat}(h:x*K33=y*K33):x=y:=by
 have hm:K33*K33⁻¹=1:=Rat.mul_inv_cancel _ aCI;grind
theorem aES{a b:Rp}{xs:List Rd}(oa:OkP a)(ob:OkP b)(h:(aC2 a b).2=0):fv (xs.map qv) (aC2 a b).1.terms=fv (xs.map qv) a.terms-fv (xs.map qv) b.terms:=by
 obtain⟨pa,pb,pc,f⟩:=aD3 oa ob h;refine aC4 ?_;rw[aBC pc.cl.t,f,Rat.intCast_sub,←aBC pa.cl.t,←aBC pb.cl.t];grind
theorem aET{a b:Rp}{xs:List Rd}(oa:OkP a)(ob:OkP b)(h3:(Bo a b).2=0):fv (xs.map qv) (Bo a b).1.terms=fv (xs.map qv) a.terms*fv (xs.map qv) b.terms:=by
 obtain⟨pa,pb,k,f⟩:=aD4 oa ob h3;have hfit:∀s∈a.terms,∀t∈b.terms,bj s.exps+bj t.exps<=32:=by
  unfold Bo at h3;split at h3
  ·split at h3
   ·omega
   ·rename_i hd;exact Xd oa ob pa.p pb.p hd
  omega
 have la:=pa.cl.t;have lb:=pb.cl.t;have e2:(lfn a.terms fun u=>lfn b.terms fun v=>ph xs (mE u v))*KK^32=lfn a.terms (ph xs)*lfn b.terms (ph xs):=by
  rw[Int.mul_comm,←aDf,Int.mul_comm (lfn a.terms (ph xs)),←aDf];refine aDr fun t ht=>?_;rw[←aDf,Int.mul_comm,←aDf];grind[aDr,aEP,la,Int.mul_comm]
 rw[←f (ph xs)]at e2;have e3:(lfn (Bo a b).1.terms (ph xs):Rat)*K33=(lfn a.terms (ph xs):Rat)*(lfn b.terms (ph xs):Rat):=by
  rw[←Rat.intCast_mul,←e2,Rat.intCast_mul,Rat.intCast_mul,Rat.intCast_pow];grind[K33]
 rw[←aBC la,←aBC lb,←aBC k.cl.t]at e3;grind[aC4]
theorem aDW{a:Rp}{d:Rd}(oa:OkP a)(od:Ok0 d)(h3:(ajd a d).2=0):vp a=true/\Cl a.vars (ajd a d).1.terms/\(ajd a d).1.terms.length<=500/\(ajd a d).1.vars=a.vars/\∀f,lfn (ajd a d).1.terms f*KK=zI d*lfn a.terms f:=by
 unfold ajd at h3⊢;split at h3
 ·rename_i hv;obtain⟨ca,_,_,hl⟩:=lE oa hv.1;rw[if_pos hv];split at h3
  ·rename_i nd;rw[if_pos nd];refine⟨hv.1,Cl.nil _,ayB _,rfl,fun f=>?_⟩;rw[cO ω,Int.zero_mul];show 0*KK=0;omega
  ·grind[aiT,axE,ca,aDV]
 omega
theorem aDX{a:Rp}{d:Rd}{xs:List Rd}(oa:OkP a)(od:Ok0 d)(h3:(ajd a d).2=0):fv (xs.map qv) (ajd a d).1.terms=qv d*fv (xs.map qv) a.terms:=by
 obtain⟨va,c,_,_,f⟩:=aDW oa od h3;refine aC4 ?_;have h:=f (ph xs);have h1:(lfn (ajd a d).1.terms (ph xs):Rat)*KK=(zI d:Rat)*(lfn a.terms (ph xs):Rat):=by rw[←Rat.intCast_mul,h,Rat.intCast_mul]
 rw[←aBC c.t,←aBC (lE oa va).1.t]at h1;have h2:=aBB;rw[show qv d=(zI d:Rat)*EQ from rfl];grind
theorem aB4{v:Int}{A r1 r2:List Rt}{xs:List Rd}(c:Cl v A)(c1:Cl v r1)(c2:Cl v r2)(h:Mrg A r1 r2):fv (xs.map qv) A=fv (xs.map qv) r1+fv (xs.map qv) r2:=by
 have h1:=aA5 (f:=ph xs) c1 c2.t (aCs c h);refine aC4 ?_;rw[aBC c.t,h1,Rat.intCast_add,←aBC c1.t,←aBC c2.t];grind
def Des(m:Rm)(xs:List Rat)(w:Rat):Prop:=In (w-fv xs m.P.terms) m.R
theorem aAR{s:Rs}{xs:List Rat}{w:Rat}:Des (bV s) xs w:=Or.inl rfl
theorem aCc{s:Rs}{q:Rp}{e:Int}{r:Ri}{xs:List Rd}{ts:List Rat}{w:Rat}(os:OkS s)(hs:j7 s=true)(oq:OkP q)(hv:e=0->vp q=true/\q.vars=s.dom.length)(hpt:uq s.dom (xs.map qv) ts)(hw:e=0->In (w-fv (xs.map qv) q.terms) r):Des (jF s q e r) (xs.map qv) w:=by
 unfold jF;split
 case isFalse=>exact aAR
 rename_i he;obtain⟨vq,vv⟩:=hv he;have hr:=hw he;obtain⟨cq,v0,v8,vl⟩:=lE oq vq;have hl:s.dom.length<=100000:=ω
 have sp:cR q s.ord=(⟨q.vars,q.terms.filter (ST s.ord)⟩,⟨q.vars,q.terms.filter (PA s.ord)⟩):=by simp_all[cR,if_pos]
 have n1:=List.length_filter_le (ST s.ord) q.terms;have n2:=List.length_filter_le (PA s.ord) q.terms;have c1:=cq.filter (ST s.ord);have c2:=cq.filter (PA s.ord);have f1:=aB4 (xs:=xs) cq c1 c2 (aAJ s.ord q.terms);unfold vB;rw[sp];generalize q.terms.filter (ST s.ord)=lo at*
 generalize q.terms.filter (PA s.ord)=hi at*
 have vlo:vp ⟨q.vars,lo⟩=true:=Li c1 v0 v8 ω;have vhi:vp ⟨q.vars,hi⟩=true:=Li c2 v0 v8 ω;by_cases g:(dO ⟨q.vars,lo⟩ s.p).2=0
 case neg=>
  simp_all[if_neg,ayl,aAR]
 unfold dO at g⊢;rw[if_pos vlo]at g⊢;split at g
 ·omega
 rename_i hp;rw[if_neg hp];cases hR:Ap s.p lo with
 |none=>grind
 |some z=>
  obtain⟨⟨k1,m1,_⟩,k2,m2,_⟩:=LE c1 hR;have f2:=aB4 (xs:=xs) c1 k1 k2 (aAY c1.t hR);have vr:vp ⟨q.vars,z.2⟩=true:=Li k2 v0 v8 ω;have i1:=anR (p:=s.p) (iW c2) os.d hl (aa0 os hs vhi vv) hpt;have i2:=anR (p:=s.p) (iW k2) os.d hl (aa0 os hs vr vv) hpt;have:=ww (p:=s.p) hr (ww (p:=s.p) i1 i2);show In (w-fv (xs.map qv) z.1) _;grind
section
variable {s:Rs} {a b:Rm} {xs:List Rd} {ts:List Rat} {u v:Rat}
theorem aEB(os:OkS s)(oa:OkM a)(ob:OkM b)(hpt:uq s.dom (xs.map qv) ts)(ha:Des a (xs.map qv) u)(hb:Des b (xs.map qv) v):Des (adM s a b) (xs.map qv) (u+v):=by
 unfold adM;split
 case isFalse=>exact aAR
 rename_i h;obtain⟨q1,q2⟩:=af2 h;obtain⟨a1,a2,a3,_⟩:=KH oa (q2 a σ);obtain⟨b1,_⟩:=KH ob (q2 b σ);refine aCc os q1 (ahR a1 b1) (fun e=>?_) hpt fun e=>?_
 ·obtain⟨_,_,k,_⟩:=aD2 a1 b1 e;exact⟨k.p,k.v.trans a3⟩
 ·have:=ww (p:=s.p) ha hb;grind[aER,fv,qv]
theorem aEC(os:OkS s)(oa:OkM a)(ob:OkM b)(hpt:uq s.dom (xs.map qv) ts)(ha:Des a (xs.map qv) u)(hb:Des b (xs.map qv) v):Des (aDA s a b) (xs.map qv) (u-v):=by
 unfold aDA;split
 case isFalse=>exact aAR
 rename_i h;obtain⟨q1,q2⟩:=af2 h;obtain⟨a1,a2,a3,_⟩:=KH oa (q2 a σ);obtain⟨b1,_⟩:=KH ob (q2 b σ);refine aCc os q1 (aDw a1 b1) (fun e=>?_) hpt fun e=>?_
 ·obtain⟨_,_,k,_⟩:=aD3 a1 b1 e;exact⟨k.p,k.v.trans a3⟩
 ·have:=Rj (p:=s.p) ha hb;grind[aES,fv,qv]
theorem aED(os:OkS s)(oa:OkM a)(ob:OkM b)(hpt:uq s.dom (xs.map qv) ts)(ha:Des a (xs.map qv) u)(hb:Des b (xs.map qv) v):Des (RE s a b) (xs.map qv) (u*v):=by
 unfold RE;split
 case isFalse=>exact aAR
 rename_i h;obtain⟨q1,q2⟩:=af2 h;obtain⟨a1,a2,a3,_⟩:=KH oa (q2 a σ);obtain⟨b1,b2,b3,_⟩:=KH ob (q2 b σ);have hl:s.dom.length<=100000:=by grind[iX]
 refine aCc os q1 (ahS a1 b1) (fun e=>?_) hpt fun e=>?_
 ·obtain⟨_,_,k,_⟩:=aD4 a1 b1 e;exact⟨k.p,k.v.trans a3⟩
 ·have i1:=anR (p:=s.p) a1 os.d hl (aa0 os q1 a2 a3) hpt;have i2:=anR (p:=s.p) b1 os.d hl (aa0 os q1 b2 b3) hpt;rw[aET a1 b1 e];unfold Des at ha hb;generalize fv (xs.map qv) a.P.terms=A at*
  generalize fv (xs.map qv) b.P.terms=B at*
  have:=ww (p:=s.p) (ww (p:=s.p) (Br (p:=s.p) i1 hb) (Br (p:=s.p) i2 ha)) (Br (p:=s.p) ha hb);have e2:u*v-A*B=A*(v-B)+B*(u-A)+(u-A)*(v-B):=γ
  rw[e2];exact this
theorem aEE:qv yu=-1:=by
 have e:zI yu=-zI one:=by
  rw[show zI yu=bE true (2^ (16384+0))from KM (k:=0),show zI one=bE false (2^ (16384+0))from KM (k:=0)];rfl
 rw[←Kx];unfold qv;rw[e];grind
theorem aEF(oa:OkM a)(ha:Des a (xs.map qv) u):Des (aDB s a) (xs.map qv) (-u):=by
 unfold aDB;split
 case isFalse=>exact aAR
 rename_i h;obtain⟨q1,q2⟩:=af2 h;obtain⟨a1,_⟩:=KH oa (q2 a σ);split
 case isFalse=>exact aAR
 rename_i e;have:=akB ha;show In (-u-fv (xs.map qv) (ajd a.P yu).1.terms) (NO a.R);rw[aDX a1 aaE.2 e,aEE];have e2:-u- -1*fv (xs.map qv) a.P.terms=-(u-fv (xs.map qv) a.P.terms):=γ
 grind
theorem aDU{x:Ri}{c:Rat}(os:OkS s)(oa:OkM a)(ox:OkI x)(hc:In c x)(hpt:uq s.dom (xs.map qv) ts)(ha:Des a (xs.map qv) u):Des (aDb s a x) (xs.map qv) (c*u):=by
 unfold aDb;split
 case isFalse=>exact aAR
 rename_i h;rw[ayf]at h;obtain⟨q1,q2⟩:=af2 h.1;obtain⟨a1,a2,a3,_⟩:=KH oa (q2 a σ);have hl:s.dom.length<=100000:=by grind[iX]
 obtain⟨m1,m2⟩:=aaK (p:=s.p) ox;refine aCc os q1 ?_ (fun e=>?_) hpt fun e=>?_
 ·exact⟨(aDe a1 m2).t⟩
 ·grind[aDW,Li,iX]
 ·have i1:=anR (p:=s.p) a1 os.d hl (aa0 os q1 a2 a3) hpt;rw[aDX a1 m2 e];unfold Des at ha;generalize fv (xs.map qv) a.P.terms=A at*
  have:=ww (p:=s.p) (Br (p:=s.p) hc ha) (Br (p:=s.p) (Rj (p:=s.p) hc (sn m1 m2)) i1);have e2:c*u-qv (lh x s.p)*A=c*(u-A)+(c-qv (lh x s.p))*A:=γ
  rw[e2];exact this
theorem aCJ{x:Ri}(v:vi x=true)(ha:x.all=true):x=dm:=by
 unfold vi at v;rw[ha]at v;simp at v;obtain⟨l,h,a⟩:=x;simp only at v ha;rw[ajg v.1,ajg v.2,ha];rfl
theorem aA9{x:Ri}{d:Rd}(ox:OkI x)(h:Rz x d=true):In (qv d) x/\vd d=true:=by
 unfold Rz at h;simp only[ayf,Bool.or_eq_true,decide_eq_true_eq]at h;obtain⟨⟨h1,h2⟩,h3⟩:=h;refine⟨?_,h2⟩;cases ha:x.all with
 |true=>exact Or.inl (aCJ h1 ha)
 |false=>
  obtain⟨_,v1,v2⟩:=Uv (show kI x=true by grind[kI]);rcases h3 with h3| ⟨h3,h4⟩
  ·grind
  ·exact Or.inr ⟨ha,⟨⟨v1,ox.lo⟩,v2,ox.hi⟩,Ao.2 h3,Ao.2 h4⟩
end
theorem aCK{a b:Rd}(h:(mF a b).2=0):qv (mF a b).1=qv a-qv b:=by
 have vb:vd b=true:=by
  unfold mF at h;grind
 rw[aix vb]at h⊢;rw[anU h];have:qv (gW b)=-qv b:=by
  unfold qv;rw[(yM vb).1];grind
 grind
def ptB:List Ri->List Rd->Bool
 |d::ds,x::xs=>Rz d x&&ptB ds xs
 |_,_=>true
theorem aCw{s:Rs}{x:List Rd}(os:OkS s)(ox:∀d∈x,Ok0 d)(hl:x.length=s.dom.length)(h8:x.length<=100000):∀ (k n:Nat),n+k=x.length->∀ (S:ak) (h:ac) (X:Option (Ex×St)),ai 0 [] (ax (aj R (az false) azp) [1,2,5] [2] S h)=X->S 1=Cf x->S 2=.ref 2 none 0 0 0->S 5=I n->h 2=.bx (Cm s)->
  ∃hh,X=if ptB (s.dom.drop n) (x.drop n)=true then some (.normal,⟨fun _=>.any,hh⟩)else some (.ret,⟨upd (fun _=>.any) 4 (B false),hh⟩):=by
 intro k;induction k with
 |zero=>
  intro n hn S h X hX h1 h2 h5 k2;have e1:((n:Int)< (x.length:Int))=False:=ff;subst hX;rw[ag,show x.drop n=[]from ayw ω];have e0:ptB (s.dom.drop n) []=true:=by cases s.dom.drop n<;>rfl
  rw[e0];refine⟨?hh0,?_⟩;rotate_left
  ·simp only[azp,Cf,go_sem,h1,h2,h5,k2,e1,avI];rfl
 |succ k ih=>
  intro n hn S h X hX h1 h2 h5 k2;have hd:n<s.dom.length:=ω
  have hx:n<x.length:=ω
  have e1:((n:Int)< (x.length:Int))=True:=tt;have e2:aX (bQ s.dom) (n:Int)=some (.ipt (ap s.dom[n])):=Ds rfl (List.getElem?_eq_getElem hd);have e4:aX (Ez x) (n:Int)=some (.ipt (ah x[n])):=ajN rfl (List.getElem?_eq_getElem hx);have e3:IntKind.i64.wrap ((n:Int)+1)=((n+1:Nat):Int):=wi;have v1:=aCv (os.d _ (ayC hd)) (ox _ (ayC hx));rw[ayv hd,ayv hx];have e0:ptB (s.dom[n]::s.dom.drop (n+1)) (x[n]::x.drop (n+1))=(Rz s.dom[n] x[n]&&ptB (s.dom.drop (n+1)) (x.drop (n+1))):=rfl;rw[e0];have ih':=ih (n+1) ω;subst hX;rw[ag];generalize Rz s.dom[n] x[n]=b at v1⊢;simp only[am,ap,ae,ah]at e2 e4 v1;cases b with
  |false=>
   refine⟨?hh1,?_⟩;rotate_left
   ·simp only[azp,Cf,go_sem,h1,h2,h5,k2,e1,e2,e4,v1,avI];rfl
  |true=>
   simp only[azp,Cf,go_sem,h1,h2,h5,k2,e1,e2,e3,e4,v1,avI];exact ih' _ _ _ rfl rfl rfl rfl rfl
def ptR(s:Rs)(x:List Rd):Bool:=decide (x.length=s.dom.length)&&ptB s.dom x
theorem aBD{s:Rs}{x:List Rd}(os:OkS s)(ox:∀d∈x,Ok0 d)(h8:x.length<=100000):R fdc [mM s,Cf x] []=some (B (ptR s x),[]):=by
 refine au aBi rfl ?_;unfold ptR;by_cases g:x.length=s.dom.length
 ·have f:((x.length:Int)=(s.dom.length:Int))=True:=tt;have hL:=aCw os ox g h8 x.length 0 (ayc _);rw[azb,azb]at hL;rw[decide_eq_true g,ayg];generalize hLL:ax (aj R (az false) azp)=L at hL;have hX:∀s h,aj R (az false) (.loop [1,2,5] [2] azp) s h=L [1,2,5] [2] s h:=fun s h=>by rw[←hLL];rfl
  simp only[az5,aAA,Cf,go_sem,hX,avI,f];generalize hB:ai 0 [] (L _ _ _ _)=X;obtain⟨hh,hE⟩:=hL _ _ _ hB rfl rfl rfl rfl;rw[hE];cases ptB s.dom x with
  |true=>
   simp only[go_sem]
  |false=>
   simp only[go_sem]
 ·have f:((x.length:Int)=(s.dom.length:Int))=False:=ff;rw[decide_eq_false g,ayh];simp only[az5,aAA,Cf,go_sem,avI,f]
def aB2(m:Rm)(x:List Rd)(r:Rd):Rd×Bool:=if(anA m.P x).2=0 then((je (anA m.P x).1 r).1,decide ((je (anA m.P x).1 r).2=0))else((anA m.P x).1,false)
theorem aC9{m:Rm}{x:List Rd}{r:Rd}(om:OkP m.P)(ox:∀d∈x,Ok0 d)(h2:x.length<=100000)(or:Ok0 r):R fdg [fh m,Cf x,ae r] []=some (.tup [ae (aB2 m x r).1,B (aB2 m x r).2],[]):=by
 refine au aC0 rfl ?_;have h1:=aAX om ox h2;have o1:=(aA3 m.P x).2;unfold aB2;generalize anA m.P x=v at h1 o1⊢;have h3:=aBn o1 or;simp only[rV,aT,ae,ah,Cf]at h1 h3;by_cases g:v.2=0
 ·have f:(v.2=0)=True:=eq_true g;simp only[aBq,aCh,ae,ah,Cf,go_sem,h1,h3,f]
 ·have f:(v.2=0)=False:=eq_false g;simp only[aBq,aCh,ae,ah,Cf,go_sem,h1,f]
def aDa(m:Rm)(x:List Rd)(v:Rd):Bool:=if(anA m.P x).2=0 then(if(mF v (anA m.P x).1).2=0 then Rz m.R (mF v (anA m.P x).1).1 else true)else true
theorem aDm{m:Rm}{x:List Rd}{v:Rd}(om:OkP m.P)(oi:OkI m.R)(ox:∀d∈x,Ok0 d)(h2:x.length<=100000)(ov:Ok0 v):R fdb [fh m,Cf x,ae v] []=some (B (aDa m x v),[]):=by
 refine au aCG rfl ?_;have h1:=aAX om ox h2;have o1:=(aA3 m.P x).2;unfold aDa;generalize anA m.P x=e at h1 o1⊢;have h3:=aCu ov o1;have o3:=(Bu v e.1).2;generalize mF v e.1=d at h3 o3⊢;have h4:=aCv oi o3;simp only[rV,aT,am,ap,ae,ah,Cf]at h1 h3 h4;by_cases g:e.2=0
 ·have f:(e.2=0)=True:=eq_true g;by_cases g2:d.2=0
  ·have f2:(d.2=0)=True:=eq_true g2;simp only[aAO,aA8,ae,ah,Cf,go_sem,h1,h3,h4,f,f2]
  ·have f2:(d.2=0)=False:=eq_false g2;simp only[aAO,aA8,ae,ah,Cf,go_sem,h1,h3,f,f2]
 ·have f:(e.2=0)=False:=eq_false g;simp only[aAO,aA8,ae,ah,Cf,go_sem,h1,f]
def aBE(s:Rs)(a b:Rm)(x:List Rd)(r t:Rd):Bool:=(tl s a&&tl s b)&& (decide ((r.m.length:Int)<=20)&& (decide ((t.m.length:Int)<=20)&& (ptR s x&& (Rz a.R r&&Rz b.R t))))
theorem aB6{s:Rs}{a b:Rm}{x:List Rd}{r t:Rd}(os:OkS s)(oa:OkM a)(ob:OkM b)(ha:∀t∈a.P.terms,t.c.m.length<=100000)(hb:∀t∈b.P.terms,t.c.m.length<=100000)(ox:∀d∈x,Ok0 d)(h8:x.length<=100000)(or:Ok0 r)(ot:Ok0 t):R fbD [mM s,fh a,fh b,Cf x,ae r,ae t] []=some (B (aBE s a b x r t),[]):=by
 refine au aBh rfl ?_;have h1:=aBX os oa ob ha hb;have h2:=aBD os ox h8;have h3:=afU oa.r or;have h4:=afU ob.r ot;unfold aBE;generalize(tl s a&&tl s b)=b1 at h1⊢;generalize ptR s x=b2 at h2⊢;generalize Rz a.R r=b3 at h3⊢;generalize Rz b.R t=b4 at h4⊢;generalize d1:decide ((r.m.length:Int)<=20)=x1;generalize d2:decide ((t.m.length:Int)<=20)=x2;simp only[am,ap,ae,ah,Cf]at h2 h3 h4;cases b1<;>cases x1<;>cases x2<;>cases b2<;>cases b3<;>simp only[aAp,aAL,ae,ah,Cf,go_sem,h1,h2,h3,h4,d1,d2,ayg,ayh,ay1]
theorem aDO{m:Rm}{x:List Rd}{v:Rd}(h:Des m (x.map qv) (qv v)):aDa m x v=true:=by
 unfold aDa;split
 ·rename_i h1;split
  ·rename_i h2;refine ak2 ?_ (Bu _ _).1;rw[aCK h2,aBs h1];exact h
  ·rfl
 ·rfl
theorem aDP{m:Rm}{x:List Rd}{r:Rd}(h:(aB2 m x r).2=true):qv (aB2 m x r).1=fv (x.map qv) m.P.terms+qv r:=by
 unfold aB2 at h⊢;split at h
 all_goals simp_all[if_pos,anU,of_decide_eq_true,aBs]
theorem aDG(m:Rm)(x:List Rd)(r:Rd):Ok0 (aB2 m x r).1:=by
 grind[aB2,aj8,aA3]
theorem aB7:∀ {ds:List Ri} {xs:List Rd},(∀d∈ds,OkI d/\d.all=false)->xs.length=ds.length->ptB ds xs=true->∃ts,uq ds (xs.map qv) ts
 |[],[],_,_,_=>⟨[],trivial⟩
 |d::ds,x::xs,hd,hl,h=>by
  have h':(Rz d x&&ptB ds xs)=true:=h;rw[ayf]at h';obtain⟨ts,ht⟩:=aB7 (ds:=ds) (xs:=xs) (fun d h=>hd d γ) γ h'.2;obtain⟨o,ha⟩:=hd d σ;rcases(aA9 o h'.1).1 with rfl| ⟨_,_,h1,h2⟩
  ·cases ha
  ·obtain⟨t,t1,t2,t3⟩:=aC3 h1 h2;exact⟨t::ts,t1,t2,t3,ht⟩
theorem aCN{s:Rs}{x:List Rd}(os:OkS s)(hs:j7 s=true)(h:ptR s x=true):∃ts,uq s.dom (x.map qv) ts:=by
 unfold ptR at h;rw[ayf,decide_eq_true_eq]at h;exact aB7 (fun d hd=>⟨os.d d hd,(agu os hs d hd).a⟩) h.1 h.2
theorem af9{s:Rs}{l:List Rm}(h:KI s l=false):∀m∈l,m.P.terms.length<=40/\∀t∈m.P.terms,t.c.m.length<=100000:=by
 unfold KI at h;simp only[Bool.or_eq_false_iff]at h;intro m hm;have:=List.any_eq_false.1 h.2.2.2.2.2 m hm;unfold Hd at this;simp only[Bool.or_eq_true,not_or,decide_eq_true_eq,List.any_eq_true,not_exists,not_and]at this;exact⟨by omega,fun t ht=>by have:=this.2.2 t ht;omega⟩
theorem azY{s:Rs}{a b:Rm}(h1:tl s a=true)(h2:tl s b=true):pN s [a,b]=true/\pN s [a]=true:=by
 have:j7 s=true:=by unfold tl at h1;simp only[ayf]at h1;exact h1.1
 unfold pN;simp[this,h1,h2]
theorem VS.ct{v:Int}{i:Nat}{t:Rt}(h:VS v i t):R fbV [I (t.exps.getD i 0+1)] []=some (am ⟨Go.Ab.intD (t.exps.getD i 0+1),Go.Ab.intD (t.exps.getD i 0+1),false⟩,[]):=by
 refine au TN rfl ?_;obtain⟨x1,x2⟩:=aaP h.vt.b h.hi;have:=h.hd;have k1:=azV (x:=t.exps.getD i 0+1) ω ω;have k2:=gX h.intD.1 h.intD.2;simp only[am,ap,ae,ah]at k1 k2;simp only[AK,IF,am,ap,go_sem,k1,k2]
section
variable {s:Rs} {a b:Rm} {xs:List Rd} {ts:List Rat} {u v:Rat}
theorem aCL{q:Rp}{e:Int}{r:Ri}:(jF s q e r).P.terms=[]\/(jF s q e r).P.terms=(dO (cR q s.ord).1 s.p).1.1.terms:=by
 unfold jF vB;by_cases g:(dO (cR q s.ord).1 s.p).2=0
 ·split
  ·grind
  ·exact Or.inl rfl
 ·split<;>exact Or.inl rfl
end
theorem aEk{m:Rm}{x:List Rd}{v:Rd}{e:Int}(om:OkP m.P)(oi:OkI m.R)(ox:∀d∈x,Ok0 d)(h2:x.length<=100000)(ov:Ok0 v)(hv:e=0->aDa m x v=true):R fbv [fh m,ae v,I e,.ref 1000 none 0 0 0] [.bx [Cf x]]=some (B true,[.bx [Cf x]]):=by
 refine EK aDq aDp (aC6 false) rfl ?_;have h1:=aDm om oi ox h2 ov;by_cases g:e=0
 ·subst g;rw[hv rfl]at h1;simp only[Cf,ae,ah]at h1;simp only[aCn,aCQ,Cf,ae,ah,go_sem,h1,not_true];exact sj rfl (by rfl) rfl (by rfl) rfl
 ·have f:(e=0)=False:=eq_false g;simp only[aCn,aCQ,Cf,ae,ah,go_sem,f,not_false_eq_true];exact sj rfl (by rfl) rfl (by rfl) rfl
theorem aCW{m:Rm}{x:List Rd}{v:Rd}{e:Int}(om:OkP m.P)(oi:OkI m.R)(ox:∀d∈x,Ok0 d)(h2:x.length<=100000)(ov:Ok0 v)(hv:e=0->aDa m x v=true)(h:ac)(d:Nat)(h6:h 10=.bx [.sl 3 (Ez x)])(hf:h (2000+8*d)=.dead):
  bF R (az false) h d [.agg [I m.P.vars,.sl 4 (aJ m.P.terms),B m.R.lo.neg,lm m.R.lo.m,I m.R.lo.e,B m.R.hi.neg,lm m.R.hi.m,I m.R.hi.e,B m.R.all],.agg [B v.neg,lm v.m,I v.e],I e] (.fn fbv [] [.ref 10 none 0 0 0])=some (B true,upd h 10 (.bx [.sl 3 (Ez x)]),[]):=
 afj (aDc false) (aC6 false) (as':=[fh m,ae v,I e]) (by rw[aDi];simp only[ae,ah,go_sem,ayW,ayq,GZ]) rfl rfl h6 (aEs x) (aEs x) (fun _=>rfl) (aEk om oi ox h2 ov hv) (Xi _) (ayU rfl) (by simp[cA,cF,hf,bY])
theorem aEG{m:Rm}{x:List Rd}{u lo hi:Rd}(om:OkP m.P)(oi:OkI m.R)(ox:∀d∈x,Ok0 d)(h2:x.length<=100000)(ou:Ok0 u)(ol:Ok0 lo)(oh:Ok0 hi)(hl:(fS lo u).2=0->aDa m x (fS lo u).1=true)(hh:(fS hi u).2=0->aDa m x (fS hi u).1=true)(S:ak)(h:ac)(X:Option (Ex×St))(hX:ai 0 [] (ax (aj R (az false) aCi) [15,19,26,162,163,164] [10,15,26,162] S h)=X)(k15:S 15=.ref 15 none 0 0 0)(k19:S 19=.fn fbv [] [.ref 10 none 0 0 0])(k26:S 26=.ref 26 none 0 0 0)(k162:S 162=.rsl 162 none 3 0 2)(k163:S 163=I 2)(k164:S 164=I 0)(h10:h 10=.bx [Cf x])(h15:h 15=.bx (ah u))(h26:h 26=.bx (Hc m))(h162:h 162=.ar 3 [ah lo,ah hi]):
  ∃hh,X=some (.normal,⟨fun _=>.any,hh⟩):=by
 subst hX;have m1:=aAi ol ou;have m2:=aAi oh ou;have o1:=(Lg lo u).2;have o2:=(Lg hi u).2;generalize fS lo u=w1 at hl m1 o1;generalize fS hi u=w2 at hh m2 o2;have c1:=aCW om oi ox h2 o1 hl;have c2:=aCW om oi ox h2 o2 hh;simp only[Cf,ah]at h10 h15 h162;simp only[rV,ae,ah]at m1 m2;have e1:IntKind.i64.wrap ((0:Int)+1)=1:=δ
 have e2:IntKind.i64.wrap ((1:Int)+1)=2:=δ
 have f0:((0:Int)<2)=True:=eq_true δ;have f1:((1:Int)<2)=True:=eq_true δ;have f2:((2:Int)<2)=False:=eq_false δ;refine⟨?hh0,?_⟩;rotate_left
 ·rw[ag];generalize hL:ax _=L;simp only[aCi,go_sem,k15,k19,k26,k162,k163,k164,h10,h15,h26,h162,m1,e1,f0,ayN,ayz,ayE,and_self,Int.cast_ofNat_Int,ayc];rw[c1 _ _ rfl rfl];simp only[go_sem,e1];rw[←hL,ag];generalize hL2:ax _=L2;simp only[aCi,go_sem,m2,e2,f1,ayN,ayz,ayE,and_self,Int.cast_ofNat_Int,ayc];rw[c2 _ _ rfl rfl];simp only[go_sem,e2];rw[←hL2,ag];simp only[aCi,go_sem,f2];rfl
theorem aCe{s:Rs}{q:Rp}{e:Int}{r:Ri}(oq:OkP q):OkP (jF s q e r).P:=by
 have h1:=(KE (p:=s.p) (iW (Cn (o:=s.ord) oq).1.1:OkP (cR q s.ord).1)).1.cl;rcases aCL (s:=s) (q:=q) (e:=e) (r:=r)with k|k
 ·exact⟨fun t ht=>by rw[k]at ht;cases ht⟩
 ·exact⟨fun t ht=>by rw[k]at ht;exact(h1.t t ht).ok⟩
theorem aCf{s:Rs}:OkP (bV s).P:=⟨fun _ h=>nomatch h⟩
theorem aEH{s:Rs}{a b:Rm}{y:Ri}(oa:OkM a)(ob:OkM b)(oy:OkI y):OkP (adM s a b).P/\OkP (aDA s a b).P/\OkP (RE s a b).P/\OkP (aDB s a).P/\OkP (aDb s a y).P:=by
 unfold adM aDA RE aDB aDb;refine⟨?_,?_,?_,?_,?_⟩
 ·split
  ·rename_i h;have q:=(af2 h).2;exact aCe (ahR (KH oa (q a σ)).1 (KH ob (q b σ)).1)
  ·exact aCf
 ·split
  ·rename_i h;have q:=(af2 h).2;exact aCe (aDw (KH oa (q a σ)).1 (KH ob (q b σ)).1)
  ·exact aCf
 ·split
  ·rename_i h;have q:=(af2 h).2;exact aCe (ahS (KH oa (q a σ)).1 (KH ob (q b σ)).1)
  ·exact aCf
 ·split
  ·rename_i h;split
   ·exact aDe (KH oa ((af2 h).2 a σ)).1 aaE.2
   ·exact aCf
  ·exact aCf
 ·split
  ·rename_i h;rw[ayf]at h;have:=(aDe (d:=lh y s.p) (KH oa ((af2 h.1).2 a σ)).1 (aaK oy).2).t;exact aCe ⟨this⟩
  ·exact aCf
theorem aD9{y:Ri}(oy:OkI y)(hk:kI y=true):In (qv y.lo) y/\In (qv y.hi) y:=by
 obtain⟨h1,h2,h3⟩:=Uv hk;have hl:=Ao.2 (ai1 hk).2.2.1;exact⟨Or.inr ⟨h1,⟨⟨h2,oy.lo⟩,h3,oy.hi⟩,Rat.le_refl,hl⟩,Or.inr ⟨h1,⟨⟨h2,oy.lo⟩,h3,oy.hi⟩,hl,Rat.le_refl⟩⟩
theorem aEl{s:Rs}{a b:Rm}{x:List Rd}{r t:Rd}{y:Ri}(haw:R fbw [] []=some (B true,[]))(os:OkS s)(oa:OkM a)(ob:OkM b)(ox:∀d∈x,Ok0 d)(_lx:x.length<4611686018427387904)(or:Ok0 r)(ot:Ok0 t)(oy:OkI y):R fbu [mM s,fh a,fh b,Cf x,ae r,ae t,am y] []=some (B true,[]):=by
 refine au aDv rfl ?_;have hg:=ade os (l:=[a,b]) (XO oa ob) σ;simp only[ays,ayu]at hg;cases g0:KI s [a,b]with
 |true=>
  rw[g0]at hg;simp only[aBb,aBS,Cf,ae,ah,am,ap,go_sem,haw,hg]
 |false=>
 rw[g0]at hg;by_cases g1:10< (x.length:Int)
 case pos=>
  have f1:(10< (x.length:Int))=True:=eq_true g1;simp only[aBb,aBS,Cf,ae,ah,am,ap,go_sem,haw,hg,avI,f1]
 have f1:(10< (x.length:Int))=False:=eq_false g1;by_cases g2:20< (y.lo.m.length:Int)
 case pos=>
  have f2:(20< (y.lo.m.length:Int))=True:=eq_true g2;simp only[aBb,aBS,Cf,ae,ah,am,ap,go_sem,haw,hg,avI,f1,f2]
 have f2:(20< (y.lo.m.length:Int))=False:=eq_false g2;by_cases g3:20< (y.hi.m.length:Int)
 case pos=>
  have f3:(20< (y.hi.m.length:Int))=True:=eq_true g3;simp only[aBb,aBS,Cf,ae,ah,am,ap,go_sem,haw,hg,avI,f1,f2,f3]
 have f3:(20< (y.hi.m.length:Int))=False:=eq_false g3;have lx:x.length<=100000:=ω
 have la:=(af9 g0 a σ).2;have lb:=(af9 g0 b σ).2;have hp:=aB6 os oa ob la lb ox lx or ot;cases g4:aBE s a b x r t with
 |false=>
  rw[g4]at hp;simp only[Cf,ae,ah]at hp;simp only[aBb,aBS,Cf,ae,ah,am,ap,go_sem,haw,hg,avI,f1,f2,f3,hp]
 |true=>
 rw[g4]at hp;unfold aBE at g4;simp only[ayf]at g4;obtain⟨⟨va,vb⟩,_,_,g5,g6,g7⟩:=g4;have hs:=(af2 (azY va va).2).1;obtain⟨a1,_⟩:=KH oa va;obtain⟨b1,_⟩:=KH ob vb;obtain⟨ts,hpt⟩:=aCN os hs g5;have hu:(aB2 a x r).2=true->Des a (x.map qv) (qv (aB2 a x r).1):=fun h=>by
  unfold Des;rw[aDP h];have e:fv (x.map qv) a.P.terms+qv r-fv (x.map qv) a.P.terms=qv r:=γ
  rw[e];exact(aA9 oa.r g6).1
 have hv:(aB2 b x t).2=true->Des b (x.map qv) (qv (aB2 b x t).1):=fun h=>by
  unfold Des;rw[aDP h];have e:fv (x.map qv) b.P.terms+qv t-fv (x.map qv) b.P.terms=qv t:=γ
  rw[e];exact(aA9 ob.r g7).1
 have h3:=aC9 a1 ox lx or;have h4:=aC9 b1 ox lx ot;have ou:=aDG a x r;have ov:=aDG b x t;have vu:vd (aB2 a x r).1=true:=by
  unfold aB2;split
  ·exact(aj8 _ _).1
  ·exact(aA3 _ _).1
 generalize aB2 a x r=w1 at h3 hu ou vu;generalize aB2 b x t=w2 at h4 hv ov;obtain⟨u,k1⟩:=w1;obtain⟨v,k2⟩:=w2;simp only at h3 h4 hu hv ou ov vu;simp only[Cf,ae,ah]at hp h3 h4;cases k1 with
 |false=>simp only[aBb,aBS,Cf,ae,ah,am,ap,go_sem,haw,hg,avI,f1,f2,f3,hp,h3,h4]
 |true=>
 cases k2 with
 |false=>simp only[aBb,aBS,Cf,ae,ah,am,ap,go_sem,haw,hg,avI,f1,f2,f3,hp,h3,h4]
 |true=>
 replace hu:=hu rfl
 replace hv:=hv rfl
 obtain⟨o1,o2,o3,o4,o5⟩:=aEH (s:=s) oa ob oy;have d1:=aEB os oa ob hpt hu hv;have d2:=aEC os oa ob hpt hu hv;have d3:=aED os oa ob hpt hu hv;have d4:=aEF (s:=s) oa hu;have m1:=ale os oa ob;have m2:=aEz os oa ob;have m3:=aaL os oa ob;have m4:=aEA os oa;have m5:=aEi os oa oy;have n1:=aBn ou ov;have n2:=aCu ou ov;have n3:=aAi ou ov;have n4:=ajZ (d:=u);rw[aj0 vu]at n4;have vN:=yM vu;have c1:=aCW (v:=(je u v).1) (e:=(je u v).2) o1 d1.ok ox lx (aj8 _ _).2 fun h=>aDO (by rw[anU h];exact d1);have c2:=aCW (v:=(mF u v).1) (e:=(mF u v).2) o2 d2.ok ox lx (Bu _ _).2 fun h=>aDO (by rw[aCK h];exact d2);have c3:=aCW (v:=(fS u v).1) (e:=(fS u v).2) o3 d3.ok ox lx (Lg _ _).2 fun h=>aDO (by rw[aAs h];exact d3);have oN:Ok0 (gW u):=by
  unfold gW;split
  ·exact aU.2
  ·exact⟨ou.1,ou.2⟩
 have c4:=aCW (v:=gW u) (e:=0) o4 d4.ok ox lx oN fun _=>aDO (by
  have e:qv (gW u)=-qv u:=by
   unfold qv;rw[vN.1];grind
  rw[e];exact d4)
 have hiv:=mK oy;have hsc:kI y=true->∀c:Rd,In (qv c) y->(fS c u).2=0->aDa (aDb s a y) x (fS c u).1=true:=fun _ c hc h=>aDO (by rw[aAs h];exact aDU os oa oy hc hpt hu);have hrs:kI y=true->OkI (aDb s a y).R:=fun hk=>by
  obtain⟨_,w1,w2⟩:=Uv hk;exact(aDU os oa oy (aD9 oy hk).1 hpt hu).ok
 generalize adM s a b=A1 at m1 c1;generalize aDA s a b=A2 at m2 c2;generalize RE s a b=A3 at m3 c3;generalize aDB s a=A4 at m4 c4;generalize aDb s a y=A5 at m5 hsc hrs o5;generalize je u v=e1 at n1 c1;generalize mF u v=e2 at n2 c2;generalize fS u v=e3 at n3 c3;generalize gW u=e4 at n4 c4;simp only[rV,ae,ah,am,ap]at n1 n2 n3 n4 hiv m5;have hk:kI y=(!y.all&&vi y):=rfl;have hie:=aD9 oy;obtain⟨ylo,yhi,ya⟩:=y;dsimp only at*
 cases gv:vi ⟨ylo,yhi,ya⟩with
 |false=>
  rw[gv]at hiv;simp only[aBb,aBS,Cf,ae,ah,am,ap,go_sem,haw,hg,avI,f1,f2,f3,hp,h3,h4,n1,n2,n3,n4,m1,m2,m3,m4,c1,c2,c3,c4,hiv]
 |true=>
 rw[gv]at hiv hk;cases ya with
 |true=>simp only[aBb,aBS,Cf,ae,ah,am,ap,go_sem,haw,hg,avI,f1,f2,f3,hp,h3,h4,n1,n2,n3,n4,m1,m2,m3,m4,c1,c2,c3,c4,hiv]
 |false=>
 obtain⟨i1,i2⟩:=hie hk;have hL:=aEG o5 (hrs hk) ox lx ou oy.lo oy.hi (hsc hk _ i1) (hsc hk _ i2);simp only at hL;generalize hLL:ax (aj R (az false) aCi)=L at hL;have hX:∀s h,aj R (az false) (.loop [15,19,26,162,163,164] [10,15,26,162] aCi) s h=L [15,19,26,162,163,164] [10,15,26,162] s h:=fun s h=>by rw[←hLL];rfl
 simp only[aBb,aBS,Cf,ae,ah,am,ap,go_sem,haw,hg,avI,f1,f2,f3,hp,h3,h4,n1,n2,n3,n4,m1,m2,m3,m4,c1,c2,c3,c4,hiv,m5,hX];generalize hBB:ai 0 [] (L _ _ _ _)=X;obtain⟨hh,hE⟩:=hL _ _ _ hBB rfl rfl rfl rfl rfl rfl rfl rfl rfl rfl;rw[hE];simp only[go_sem]
noncomputable def Gk:Env:=⟨fun f=>Um.lookup f,cK.C,cK.md⟩
noncomputable def R0:iG:=kj Gk
theorem Hg{f:FuncId}{fd:FD}{args:List AV}{hs:List Ob}{r:AV×List Ob}(hE:Gk.E f=none)(hC:Gk.C f=some fd)(hk:Gk.md.keep f=false)(h1:args.length=fd.np)(h2:hs.length<=1000)
  (hz:ip false fd.rs fd.res hs.length (aj R0 (az false) fd.body (uw args) (aq hs))=some r):R0 f args hs=some r:=by
 refine Sj hE hC ?_;unfold abV;rw[if_pos ⟨h1,h2⟩,hk];exact hz
theorem Aq(o:Ob):aq [o]=upd (fun _=>.dead) 1000 o:=by
 funext i;unfold aq upd;by_cases h:i=1000
 ·subst h;rfl
 ·rw[if_neg h];split
  ·rw[List.getElem?_eq_none (by simp;omega)];rfl
  ·rfl
theorem aiG{r:List AV}{rs:List (List AV)}(h:(rs.length+1)*8<=140737488355328):R0 fdF [.sl 1 (r::rs)] []=some (.osl 1 (r::rs),[]):=by
 refine Hg (fd:=nc) κ κ κ rfl δ ?_;have e1:((rs.length+1)*8<=140737488355328)=True:=eq_true h;have e2:KO false (.sl 1 (r::rs))=some (B false):=rfl;simp only[nc,wz,go_sem,e1,e2,ayL,ayR,ayc,ayB,ayd,true_and,true_or,ayq]
theorem aiH:eA 4 .emp (some (I 0)) none none=some .emp:=rfl
theorem ali{r:List AV}:R0 fdW [.emp,I 0,.sl 4 [r]] []=some (.osl 4 [r],[]):=by
 refine Hg (fd:=bu) κ κ κ rfl δ ?_;have e1:((1:Int)=0)=False:=δ
 simp only[bu,dq,go_sem,aiH,ayL,ayR,Int.natCast_one,e1,ayc]
theorem Bv{n i:Nat}(h:i<=n):j8 n (some (I i)) none none=some (i,n):=by
 simp only[j8,jW,ayi];rw[if_pos ⟨by omega,by omega⟩];rfl
theorem aga{id k l0 n i:Nat}(h:i<=n):eA k (.rsl id none k l0 n) (some (I i)) none none=some (.rsl id none k (l0+i) (n-i)):=by
 simp only[eA,if_true,Bv h,ayT,Option.isNone_none]
theorem RG{h:ac}{j k n:Nat}{rows:List (List AV)}(hj:bh j=false)(hh:h j=.ar k rows)(hn:n=rows.length)(hc:aD [1000] (h 1000)=true):wE [[]] 1 h [.rsl j none k 0 n]=some (.osl k rows,[h 1000]):=by
 subst hn;have hp:de 1=[1000]:=rfl;unfold wE;rw[if_pos]
 ·simp[vE,rG,mq,hj,hh,Cr,xC,bp,nrmV,nrmL,hp]
 ·simp[hp,hc,kR,cf,fI,hj]
theorem agb{r:List AV}{rows:List (List AV)}{n:Nat}(hn:n=rows.length)(hb:(n+1)*64<=140737488355328):R0 fdW [.rsl 1000 none 4 0 n,I n,.sl 4 [r]] [.ar 4 rows]=some (.osl 4 (rows++[r]),[.dead]):=by
 refine Hg (fd:=bu) κ κ κ rfl σ ?_;subst hn;rw[Aq];have e1:((1:Int)=0)=False:=δ
 have e2:=aga (id:=1000) (k:=4) (l0:=0) (ayd rows.length);have e3:((rows.length+1)*64<=140737488355328)=True:=eq_true hb;have e4:(rows.length+1<=rows.length)=False:=ff;have e5:∀h,MQ h 25 4 64 1000 4 0 rows.length [r] 4 rows=cW (upd h 1000 .dead) 25 4 (rows++[r]) (rows.length+1) [(1000,false)]:=fun h=>by
  simp only[MQ,List.length_singleton];rw[if_neg ω,if_pos ⟨trivial,trivial,trivial,trivial,hb⟩]
 simp only[bu,dq,go_sem,ayL,ayR,Int.natCast_one,e1,e2,e3,e4,e5,ayc,ayF,Nat.sub_self,or_self,ayd,ay5];exact RG rfl rfl σ rfl
theorem anF{f:FuncId}{g:List AV->List Ob->Option (AV×List Ob)}{args:List AV}{hs:List Ob}(hE:Gk.E f=some g):R0 f args hs=g args hs:=MX hE
theorem alj{h:ac}{d:Nat}{r:List AV}{rows:List (List AV)}{lo m:Nat}(hh:h 1000=.ar 4 rows)(hd:h (2000+8*d)=.dead):
  bF R0 (az false) h d [.sl 4 [r],.rsl 1000 none 4 lo m] (.fn fdY [] [])=some (B false,upd h 1000 (.ar 4 rows),[(1000,true)]):=by
 have hm:(az false).m fdY=[0,1]:=by kernel_rfl
 have hs:(az false).sh fdY=[]:=by kernel_rfl
 have hk:(az false).keep fdY=false:=by kernel_rfl
 have hf:R0 fdY [.sl 4 [r],.rsl 1000 none 4 lo m] [.ar 4 rows]=some (B false,[.ar 4 rows]):=by
  rw[anF (g:=Zu 4) κ];simp[Zu]
 have hb:kh (az false) [.sl 4 [r],.rsl 1000 none 4 lo m] (.fn fdY [] [])=false:=by
  simp[kh,hm]
 have hr:ce h 40 [1000] 0=[1000]:=by
  simp[ce,hh,oA,bH]
 have hn:cF (B false)=1:=rfl;unfold bF;rw[if_neg (by rw[hb];exact ayl)];have h1:bS h [0,1] [.sl 4 [r],.rsl 1000 none 4 lo m]=some ([.sl 4 [r],.rsl 1000 none 4 lo m],h,[]):=by
  simp[bS,dC,wx,fP,aE]
 have h2:bH [] ([AV.sl 4 [r],.rsl 1000 none 4 lo m].flatMap cf)=[1000]:=by
  simp[cf,fI,bH]
 have h3:bm [1000] 1000=1000:=rfl;simp only[dW,hm,ayq,ayp,h1,ayi,h2,hr,hs];simp[jV,bp,bg,bo,hh,aD,bY,dV,kg,h3,dS,hf,eP,hn,cA,hd,dh,bf,oT,Cp,rB,fI,jj,fy,E4,eE,mat,dL,gb,hk,FT,hm]
theorem Tc{id k l0 n i:Nat}:eA k (.rsl id none k l0 n) (some (I i)) none none=(j8 n (some (I i)) none none).map fun p=>.rsl id none k (l0+p.1) (p.2-p.1):=by
 simp only[eA,if_true,Option.isNone_none]
theorem agc{n c i:Nat}(h:i<=c):jW n c (some (I i))=some i:=by
 simp only[jW];rw[if_pos ⟨by omega,by omega⟩];rfl
theorem alk{r:List AV}{rows:List (List AV)}{n i:Nat}(hn:n=rows.length)(hi:i<n)(hb:(n+1)*64<=140737488355328):
  R0 fdW [.rsc 1000 4 0 n n,I i,.sl 4 [r]] [.ar 4 rows]=some (.osl 4 (rows.take i++r::rows.drop i),[.ar 4 rows]):=by
 refine Hg (fd:=bu) κ κ κ rfl σ ?_;rw[Aq];have e1:((1:Int)=0)=False:=δ
 have e2:((i:Int)=(n:Int))=False:=ff;have e3:IntKind.i64.wrap ((n:Int)+1)=((n+1:Nat):Int):=wi;have e4:((n:Int)< ((n+1:Nat):Int))=True:=tt;have e5:IntKind.i64.wrap (((n+1:Nat):Int)- (i:Int))=((n+1-i:Nat):Int):=wi;have e6:IntKind.i64.wrap ((i:Int)+1)=((i+1:Nat):Int):=wi;have b1:=Bv (n:=n) (i:=i) ω;have b2:=agc (n:=n) (c:=n) (i:=i) ω;have b3:=Bv (n:=n+1) (i:=i) ω;have b4:=Bv (n:=n+1) (i:=i+1) ω;have f1:((0:Int)< ((n+1-i:Nat):Int))=True:=tt;have f2:(n<i+((n+1-i:Nat):Int).toNat)=True:=tt;have f3:i+((n+1-i:Nat):Int).toNat=n+1:=ω
 have f4:(i<=rows.length)=True:=tt;have f5:((n+1)*64<=140737488355328)=True:=eq_true hb;have f6:(n<n+1)=True:=tt;obtain⟨A,hA⟩:∃A,rows.take i++aya ((n+1-i:Nat):Int).toNat [AV.emp,B false,AV.emp,I 0]=A:=⟨_,rfl⟩;have a1:A.length=n+1:=by rw[←hA,ay5,ayo,azc];omega
 have a2:A.take i=rows.take i:=by
  rw[←hA,List.take_append_of_le_length (by rw[ayo];omega),ayt (by rw[ayo];omega)]
 have a3:(i<=A.length)=True:=tt;obtain⟨D,hD⟩:∃D,A.take i++[r]++A.drop (i+1)=D:=⟨_,rfl⟩;have d1:D.length=n+1:=by
  rw[←hD,ay5,ay5,ayo,azd,List.length_singleton];omega
 have d2:D.take (i+1)=rows.take i++[r]:=by
  rw[←hD,a2,List.take_append_of_le_length (by rw[ay5,ayo,List.length_singleton];omega),ayt (by rw[ay5,ayo,List.length_singleton];omega)]
 have d3:(i+1<=D.length)=True:=tt;have t1:List.take (n+1-i) [r]=[r]:=ayt (by rw[List.length_singleton];omega);have t2:(rows.drop i).take (n-i)=rows.drop i:=ayt (by rw[azd];omega);have t3:(1=min 1 (n+1-i))=True:=tt;have t4:n+1- (i+1)=n-i:=ω
 have t5:(i+(n-i)<=rows.length)=True:=tt;have t6:(rows.drop i).length=n-i:=by rw[azd];omega
 have t7:D.drop (i+1+(n-i))=[]:=ayw ω;simp only[bu,dq,go_sem,ayL,ayR,Int.natCast_one,e1,e2,e3,e4,e5,e6,b1,b2,b3,b4,f1,f2,f3,f4,f5,f6,hA,hD,a3,d3,t1,t2,t3,t4,t5,t6,t7,Nat.min_self,ayc,ayF,Nat.sub_self,or_self,ayd,Tc,and_self];rw[d2];have hfin:rows.take i++[r]++rows.drop i=rows.take i++r::rows.drop i:=by rw[ayX];rfl
 rw[hfin];exact RG rfl rfl (by rw[ay5,ayo,ayL,azd];omega) rfl
theorem alm{r:List AV}{rows:List (List AV)}{n i c:Nat}(hn:n=rows.length)(hi:i<n)(hc:n+1<=c)(hb:(n+1)*64<=140737488355328):
  R0 fdW [.rsc 1000 4 0 n c,I i,.sl 4 [r]] [.ar 4 rows]=some (.osl 4 (rows.take i++r::rows.drop i),[.dead]):=by
 refine Hg (fd:=bu) κ κ κ rfl σ ?_;rw[Aq];have e1:((1:Int)=0)=False:=δ
 have e2:((i:Int)=(n:Int))=False:=ff;have e3:IntKind.i64.wrap ((n:Int)+1)=((n+1:Nat):Int):=wi;have e4:((c:Int)< ((n+1:Nat):Int))=False:=ff;have e6:IntKind.i64.wrap ((i:Int)+1)=((i+1:Nat):Int):=wi;have b1:=Bv (n:=n) (i:=i) ω;have b2:=agc (n:=n) (c:=c) (i:=n+1) hc;have b3:=Bv (n:=n+1) (i:=i) ω;have b4:=Bv (n:=n+1) (i:=i+1) ω;have o1:=fun(h:ac) (h0:h 1000=.ar 4 rows) (h1:h (2000+8*67)=.dead)=>alj (r:=r) (lo:=i+1) (m:=n-i) h0 h1;have t1:List.take (n+1-i) [r]=[r]:=ayt (by rw[List.length_singleton];omega);have t2:(rows.drop i).take (n-i)=rows.drop i:=ayt (by rw[azd];omega);have t3:(1=min 1 (n+1-i))=True:=tt;have t4:n+1- (i+1)=n-i:=ω
 have t5:(i+(n-i)<=rows.length)=True:=tt;have t6:(rows.drop i).length=n-i:=by rw[azd];omega
 have t8:min (n-i) (n+1-i)=n-i:=ω
 have t9:(n-i=min (n+1-i) (n-i))=True:=tt;have f4:(i+1<=rows.length)=True:=tt;have t7:rows.drop (i+1+(n-i))=[]:=ayw ω;obtain⟨A,hA⟩:∃A,rows.take (i+1)++rows.drop i=A:=⟨_,rfl⟩;have a1:A.length=n+1:=by
  rw[←hA,ay5,ayo,azd];omega
 have a2:A.take i=rows.take i:=by
  rw[←hA,List.take_append_of_le_length (by rw[ayo];omega),List.take_take,ay0 ω]
 have a4:A.drop (i+1)=rows.drop i:=by
  rw[←hA,List.drop_append_of_le_length (by rw[ayo];omega),ayw (by rw[ayo];omega),ayq]
 have a3:(i<=A.length)=True:=tt;simp only[bu,dq,go_sem,ayL,ayR,Int.natCast_one,e1,e2,e3,e4,e6,b1,b2,b3,b4,t4,ayc];rw[o1 _ rfl rfl];simp only[go_sem,ayL,ayR,Int.natCast_one,e1,e2,e3,e4,e6,b1,b2,b3,b4,t1,t2,t3,t4,t5,t6,t7,t8,t9,f4,a3,hA,ayc,ayF,Nat.sub_self,or_self,ayd,Tc,and_self];rw[a2,a4,show rows.take i++[r]++rows.drop i=rows.take i++r::rows.drop i by rw[ayX];rfl];exact RG rfl rfl (by rw[ay5,ayo,ayL,azd];omega) rfl
def aji:Ren:=⟨fun|28=>242|n=>n,fun|25=>121|27=>57|53=>218|n=>n,fun n=>n⟩
theorem agd:Lays7.n28 Tryz.prog aji where
 mixed:=by kernel_rfl
 f28:=by kernel_rfl
 t0:=by kernel_rfl
 a0:=Tryz.isAgg0
 z0:=Tryz.sizeOf0
 v0:=Tryz.zeroValue0
 i0:=by kernel_rfl
 t3:=by kernel_rfl
 a3:=Tryz.isAgg3
 z3:=Tryz.sizeOf3
 v3:=Tryz.zeroValue3
 i3:=by kernel_rfl
 t4:=by kernel_rfl
 a4:=Tryz.isAgg4
 z4:=Tryz.sizeOf4
 v4:=Tryz.zeroValue4
 i4:=by kernel_rfl
 t5:=by kernel_rfl
 a5:=Tryz.isAgg5
 z5:=Tryz.sizeOf5
 v5:=Tryz.zeroValue5
 i5:=by kernel_rfl
 t25:=by kernel_rfl
 a25:=Tryz.isAgg121
 z25:=Tryz.sizeOf121
 v25:=Tryz.zeroValue121
 i25:=by kernel_rfl
 t27:=by kernel_rfl
 a27:=Tryz.isAgg57
 z27:=Tryz.sizeOf57
 v27:=Tryz.zeroValue57
 i27:=by kernel_rfl
 t53:=by kernel_rfl
 a53:=Tryz.isAgg218
 z53:=Tryz.sizeOf218
 v53:=Tryz.zeroValue218
 i53:=by kernel_rfl
 g0:=by kernel_rfl
def KL:Inv where
 p w _:=TabAt 0 Lib.deBruijn32tab w
 stab:=fun{w w' X} h hs j hj=>by rw[pe (hs 0 (.inr rfl))];exact h j hj
 more:=fun h _=>h
theorem aaT:∀ (k x:Nat),Lib.ctzFrom k x=Su k x
 |0,x=>rfl
 |k+1,x=>by
  unfold Lib.ctzFrom Su;rw[aaT k (x/2),Nat.add_comm]
set_option maxRecDepth 100000 in
theorem ajj:qh Tryz.prog KL false fai tzF:=by
 intro args obs obs' res w X ρ vals n hz hn hi hr hs hv;unfold tzF at hz;split at hz
 ·rename_i x;by_cases hc:0<x/\x<4294967296/\obs=[]
  ·rw[if_pos hc]at hz;obtain⟨h0,h1,rfl⟩:=hc;simp only[Option.some.injEq,Prod.mk.injEq]at hz;obtain⟨rfl,rfl⟩:=hz;have hv0:=hv 0 (.v (.int .u32 x)) (vals.getD 0 undef) rfl (by simp at hs;simp[Array.getD_eq_getD_getElem?,hs]);have e0:vals=#[.int .u32 x]:=by
    simp only[ayL,ayR]at hs;have:=hv0.v_inv.1;apply Array.ext
    ·simpa using hs
    ·intro i h2 h3;have:i=0:=by simp at h3;exact h3
     subst this;simpa [Array.getD_eq_getD_getElem?,hs]using this
   subst e0;obtain⟨m,rfl⟩:∃m:Nat,x=m:=⟨x.toNat,by omega⟩;have key:=Any7.bits_TrailingZeros32 agd m ω w fun _=>hi;have he:(callFunc fai #[.int .u32 (m:Int)]).run Tryz.prog w=.ok (.enter fai #[.int .u32 (m:Int)]) w:=(enters_of (agd.f28) κ rfl:Proofs.Enters Tryz.prog (aji.f 28)) _ _;unfold Enters;rw[he];refine Calls.mono key fun e w' hw=>?_;obtain⟨rfl,rfl⟩:=hw;refine⟨ρ,hr,.refl _ _ _ _,?_⟩;refine .dat ?_;have:Lib.ctz 32 m=Su 32 m:=by
    unfold Lib.ctz;rw[if_neg ω,aaT]
   simp only[this,ayk,mat,dL];exact .v _ rfl
  ·rw[if_neg hc]at hz;cases hz
 ·cases hz
section
variable {H:Type} {enc:TypeId × Value→H} {w:World}
def I2(w:World)(b:Nat):Prop:=b<w.heap.size
def EW(w:World):Prop:=∀o v,w.cell? ⟨0,o,none⟩=some v->∃n,v=.int .u8 n
def EX(u:Value):Prop:=u=u
theorem anG(_:EW w){a:Addr}{u:Value}(h:w.cell? a=some u)(_:EX u):I2 w a.block/\a.spot=none:=by
 have h1:a.spot=none:=by
  unfold World.cell? at h;split at h
  ·split at h
   ·cases h
   ·rename_i hs;simpa using hs
  ·cases h
 refine⟨?_,h1⟩;unfold World.cell? at h;split at h
 ·rename_i hb;exact(Array.getElem?_eq_some_iff.1 hb).1
 ·cases h
def p8(w:World)(fs:List AV)(cs:List Value):Prop:=
 fs.length=cs.length/\∀ (j:Nat) (c:AV) (u:Value),fs[j]?=some c->cs[j]?=some u->RD w (I2 w) c u/\aE c=true/\u.oneCell'=true
theorem p8.app{fa fb:List AV}{ca cb:List Value}(ha:p8 w fa ca)(hb:p8 w fb cb):p8 w (fa++fb) (ca++cb):=by
 refine⟨by simp[ha.1,hb.1],fun j c u h1 h2=>?_⟩;by_cases hj:j<fa.length
 ·rw[List.getElem?_append_left hj]at h1;rw[List.getElem?_append_left (by rw[←ha.1];exact hj)]at h2;exact ha.2 j c u h1 h2
 ·rw[List.getElem?_append_right ω]at h1;rw[List.getElem?_append_right (by rw[←ha.1];omega),←ha.1]at h2;exact hb.2 _ c u h1 h2
theorem p8.one{c:AV}{u:Value}(h:RD w (I2 w) c u)(hd:aE c=true)(h1:u.oneCell'=true):p8 w [c] [u]:=by
 refine⟨rfl,fun j c' u' hc hu=>?_⟩;cases j with
 |zero=>simp at hc hu;subst hc hu;exact⟨h,hd,h1⟩
 |succ j=>simp at hc
noncomputable abbrev Tr (w:World) (enc:TypeId×Value->H) (n:Nat) (t:TypeId) (cs:List Value):Option (DataW H×List MemPlace):=DataW.trod enc Tryz.prog w 0 (fun _=>true) true n t cs
def tp(t:TypeId)(d:DataW H):Prop:=∀m∈DataW.weights Tryz.prog t d,m<=reachBytes
theorem anH{e:TypeId}:∀ {l:List (DataW H)} {d:DataW H} {m:Nat},d∈l->m∈DataW.weights Tryz.prog e d->m∈DataW.weightsAll Tryz.prog e l
 |[],d,m,h,_=>by simp at h
 |a::l,d,m,h,hm=>by
  simp only[DataW.weightsAll,aDh];rcases List.mem_cons.1 h with rfl|h
  ·exact .inl hm
  ·exact .inr (anH h hm)
theorem aaU{α:Type}{p:Nat->α->Prop}:∀ (n:Nat),(∀i,i<n->∃r,p i r)->∃l:List α,l.length=n/\∀ (i:Nat) (r:α),l[i]?=some r->p i r
 |0,_=>⟨[],rfl,fun i r h=>by simp at h⟩
 |n+1,h=>by
  obtain⟨l,h1,h2⟩:=aaU n fun i hi=>h i ω;obtain⟨r,hr⟩:=h n ω;refine⟨l++[r],by simp[h1],fun i r' hi=>?_⟩;by_cases hin:i<n
  ·rw[List.getElem?_append_left ω]at hi;exact h2 i r' hi
  ·rw[List.getElem?_append_right ω]at hi;have:i=n:=by
    have:=(List.getElem?_eq_some_iff.1 hi).1;simp at this;omega
   subst this;simp[h1]at hi;subst hi;exact hr
theorem LI{α:Type}{t e:TypeId}{k bs:Nat}(ht:Tryz.prog.underlying t=some (.slice e))(hk:Tryz.prog.cellsOf e=k)(h0:0<k)(hbs:Tryz.prog.bytesOf e=bs)(F:α->List AV)(Q:α->Prop)(hT:EW w)
  (hrow:∀n cs' x,Tr w enc n e cs'=some x->tp e x.1->∃r,Q r/\p8 w (F r) cs'/\∃u,cs'[0]?=some u/\EX u) {fuel:Nat} {cs:List Value} {x:DataW H×List MemPlace}
  (h:Tr w enc fuel t cs=some x) (hw:tp t x.1):∃ (l:List α) (v:Value),cs=[v]/\(∀r∈l,Q r)/\l.length*bs<=reachBytes/\RD w (I2 w) (.sl k (l.map F)) v/\v.oneCell'=true/\EX v:=by
 rcases open_slice ht h with⟨rfl,_⟩| ⟨a,len,cap,m,n,D,Pl,rfl,hb,hl,hm,hmm,rfl,hx⟩
 ·exact⟨[],_,rfl,fun r hr=>by simp at hr,by simp,.sl k [] none 0 ⟨0,0,none⟩ (fun _ _=>undef) σ (fun h=>absurd rfl h) (fun r hr=>by simp at hr) (fun i r j c hr=>by simp at hr) (fun r hr=>by simp at hr) (fun i r j c hr=>by simp at hr),rfl,rfl⟩
 ·have hlm:len<=m:=by rw[hmm];split<;>omega
  have hwe:∀i,i<len->tp e (D i):=fun i hi q hq=>by
   refine hw q ?_;simp only[DataW.weights,ht,List.mem_cons,aDh];exact .inr (.inl (anH (List.mem_map.2 ⟨i,List.mem_range.2 hi,rfl⟩) hq))
  have hbn:len*bs<=reachBytes:=by
   have:=hw ((((List.range len).map D).length+((List.range (m-len)).map fun j=>D (len+j)).length)*Tryz.prog.bytesOf e) (by simp[DataW.weights,ht]);simp only[List.length_map,List.length_range,hbs]at this;exact ayj (aym _ ω) this
  obtain⟨l,l1,l2⟩:=aaU (p:=fun i r=>Q r/\∃cs',w.cells? 0 (a.add (i*k)) k=some cs'/\p8 w (F r) cs'/\∃u,cs'[0]?=some u/\EX u) len fun i hi=>by
   obtain⟨cs',h1,h2⟩:=hx i ω;obtain⟨r,g1,g2,g3⟩:=hrow _ _ _ h2 (hwe i hi);rw[hk]at h1;exact⟨r,g1,cs',h1,g2,g3⟩
  have cell:∀ (i:Nat) (row:List AV) (j:Nat) (c:AV),(l.map F)[i]?=some row->row[j]?=some c->∃u,w.cell? (a.add (i*k+j))=some u/\RD w (I2 w) c u/\aE c=true:=fun i row j c hi hj=>by
   simp only[List.getElem?_map,aye]at hi;obtain⟨r,hr,rfl⟩:=hi;obtain⟨_,cs',c1,c2,_⟩:=l2 i r hr;obtain⟨_,c3,c4⟩:=World.cells?_some c1;have hjk:j<k:=by
    have:=(List.getElem?_eq_some_iff.1 hj).1;rw[c2.1,c3]at this;exact this
   have:=c4 j hjk;rw[DD]at this;obtain⟨u,hu⟩:∃u,cs'[j]?=some u:=⟨cs'[j]'(by omega),by simp⟩;exact⟨u,by rw[this,hu],(c2.2 j c u hj hu).1,(c2.2 j c u hj hu).2.1⟩
  refine⟨l,_,rfl,fun r hr=>?_,by rw[l1];exact hbn,?_,rfl,rfl⟩
  ·obtain⟨i,hi⟩:=List.getElem?_of_mem hr;exact(l2 i r hi).1
  ·have:=RD.sl (w:=w) (A:=I2 w) k (l.map F) (some a) cap a (fun i j=>(w.cell? (a.add (i*k+j))).getD undef) (by simp[l1,hl]) (fun hne=>?_) (fun row hr=>?_) (fun i row j c hi hj=>?_) (fun row hr c hc=>?_) (fun i row j c hi hj=>?_)
   ·simpa [l1]using this
   ·have hlen:0<l.length:=List.length_pos_iff.2 fun e=>hne (by simp[e]);obtain⟨_,cs',c1,c2,u,c3,c4⟩:=l2 0 l[0] σ;have:=(World.cells?_some c1).2.2 0 h0;rw[c3,Nat.zero_mul,E7,E7]at this;obtain⟨q1,q2⟩:=anG hT this c4;exact⟨rfl,q1,q2⟩
   ·simp only[ay2]at hr;obtain⟨r,hr,rfl⟩:=hr;obtain⟨i,hi⟩:=List.getElem?_of_mem hr;obtain⟨_,cs',c1,c2,_⟩:=l2 i r hi;rw[c2.1];exact(World.cells?_some c1).2.1
   ·obtain⟨u,q1,_⟩:=cell i row j c hi hj;rw[q1];rfl
   ·obtain⟨i,hi⟩:=List.getElem?_of_mem hr;obtain⟨j,hj⟩:=List.getElem?_of_mem hc;obtain⟨u,_,_,q⟩:=cell i row j c hi hj;exact q
   ·obtain⟨u,q1,q2,_⟩:=cell i row j c hi hj;rw[q1];exact q2
theorem aln{n:Nat}{cs:List Value}{x:DataW H×List MemPlace}(h:Tr w enc n 57 cs=some x)(_:tp 57 x.1):∃r:Nat,r<4294967296/\p8 w [U (r:Int)] cs/\∃u,cs[0]?=some u/\EX u:=by
 obtain⟨z,rfl,rfl,hw⟩:=DataW.trod_int Tryz.underlying57 h;simp only[Lit.wf,ayf,decide_eq_true_eq]at hw;have h1:(0:Int)<=z:=hw.1;have h2:z<=4294967295:=hw.2;obtain⟨m,rfl⟩:∃m:Nat,z=m:=⟨z.toNat,by omega⟩;exact⟨m,by omega,.one (.v _ rfl) rfl rfl,_,rfl,rfl⟩
theorem alp{n:Nat}{cs:List Value}{x:DataW H×List MemPlace}(h:Tr w enc n 3 cs=some x)(_:tp 3 x.1):∃r:Int,True/\p8 w [I r] cs/\∃u,cs[0]?=some u/\EX u:=by
 obtain⟨z,rfl,rfl,hw⟩:=DataW.trod_int Tryz.underlying3 h;exact⟨z,trivial,.one (.v _ rfl) rfl rfl,_,rfl,rfl⟩
theorem age(hT:EW w){n:Nat}{cs:List Value}{x:DataW H×List MemPlace}(h:Tr w enc n 28 cs=some x)(hw:tp 28 x.1):∃m:List Nat,(Lb m/\m.length<4611686018427387904)/\p8 w [lm m] cs/\∃u,cs[0]?=some u/\EX u:=by
 obtain⟨l,v,rfl,h1,h2,h3,h4,h5⟩:=LI (k:=1) (bs:=4) Tryz.underlying28 κ δ κ (fun(r:Nat)=>[U (r:Int)]) (fun r=>r<4294967296) hT (fun n cs' x=>aln) h hw;refine⟨l,⟨h1,?_⟩,.one h3 rfl h4,_,rfl,h5⟩;unfold reachBytes at h2;omega
theorem aiI(hT:EW w){n:Nat}{cs:List Value}{x:DataW H×List MemPlace}(h:Tr w enc n 54 cs=some x)(hw:tp 54 x.1):∃m:List Int,True/\p8 w [.sl 1 (aO m)] cs/\∃u,cs[0]?=some u/\EX u:=by
 obtain⟨l,v,rfl,h1,h2,h3,h4,h5⟩:=LI (k:=1) (bs:=8) Tryz.underlying54 κ δ κ (fun(r:Int)=>[I r]) (fun r=>True) hT (fun n cs' x=>alp) h hw;exact⟨l,trivial,.one h3 rfl h4,_,rfl,h5⟩
theorem XY(hT:EW w){n:Nat}{cs:List Value}{x:DataW H×List MemPlace}(h:Tr w enc n 30 cs=some x)(hw:tp 30 x.1):∃d:Rd,Ok0 d/\p8 w (ah d) cs/\∃u,cs[0]?=some u/\EX u:=by
 obtain⟨y0,y1,y2,m,rfl,hl,h0,h1,h2⟩:=trod_struct3 Tryz.underlying30 h;have hl3:cs.length=3:=hl.trans κ
 match cs,hl3 with
 |[a,b,c],_=>
  have k0:Tr w enc m 4 [a]=some y0:=h0;have k1:Tr w enc m 28 [b]=some y1:=h1;have k2:Tr w enc m 3 [c]=some y2:=h2;have w1:tp 28 y1.1:=fun q hq=>hw q (by simp[DataW.weights,DataW.weightsEach,Tryz.underlying30];exact .inr (.inl hq));obtain⟨bb,e0,e1⟩:=DataW.trod_bool Tryz.underlying4 k0;simp only[List.cons.injEq,and_true]at e0;subst e0;obtain⟨l,⟨q1,q2⟩,q3,_⟩:=age hT k1 w1;obtain⟨z,e2,e3,_⟩:=DataW.trod_int Tryz.underlying3 k2;simp only[List.cons.injEq,and_true]at e2;subst e2;exact⟨⟨bb,l,z⟩,⟨q1,q2⟩,(p8.one (.v _ rfl) rfl rfl).app (q3.app (.one (.v _ rfl) rfl rfl)),_,rfl,rfl⟩
theorem aiJ(hT:EW w){n:Nat}{cs:List Value}{x:DataW H×List MemPlace}(h:Tr w enc n 56 cs=some x)(hw:tp 56 x.1):∃d:Rt,Ok0 d.c/\p8 w (bL d) cs/\∃u,cs[0]?=some u/\EX u:=by
 obtain⟨y0,y1,m,rfl,hl,h0,h1⟩:=trod_struct2 Tryz.underlying56 h;have hl3:cs.length=4:=hl.trans κ
 match cs,hl3 with
 |[a,b,c,d],_=>
  have k0:Tr w enc m 54 [a]=some y0:=h0;have k1:Tr w enc m 30 [b,c,d]=some y1:=h1;have w0:tp 54 y0.1:=fun q hq=>hw q (by simp[DataW.weights,DataW.weightsEach,Tryz.underlying56];exact .inl hq);have w1:tp 30 y1.1:=fun q hq=>hw q (by simp[DataW.weights,DataW.weightsEach,Tryz.underlying56];exact .inr hq);obtain⟨l,_,q3,q4⟩:=aiI hT k0 w0;obtain⟨d,d1,d2,_⟩:=XY hT k1 w1;exact⟨⟨l,d⟩,d1,q3.app d2,q4⟩
theorem X1(hT:EW w){n:Nat}{cs:List Value}{x:DataW H×List MemPlace}(h:Tr w enc n 32 cs=some x)(hw:tp 32 x.1):∃d:Ri,OkI d/\p8 w (ap d) cs/\∃u,cs[0]?=some u/\EX u:=by
 obtain⟨y0,y1,y2,m,rfl,hl,h0,h1,h2⟩:=trod_struct3 Tryz.underlying32 h;have hl3:cs.length=7:=hl.trans κ
 match cs,hl3 with
 |[a,b,c,d,e,f,g],_=>
  have k0:Tr w enc m 30 [a,b,c]=some y0:=h0;have k1:Tr w enc m 30 [d,e,f]=some y1:=h1;have k2:Tr w enc m 4 [g]=some y2:=h2;have w0:tp 30 y0.1:=fun q hq=>hw q (by simp[DataW.weights,DataW.weightsEach,Tryz.underlying32];exact .inl hq);have w1:tp 30 y1.1:=fun q hq=>hw q (by simp[DataW.weights,DataW.weightsEach,Tryz.underlying32];exact .inr (.inl hq));obtain⟨d0,p1,p2,p3⟩:=XY hT k0 w0;obtain⟨d1,q1,q2,_⟩:=XY hT k1 w1;obtain⟨bb,e0,e1⟩:=DataW.trod_bool Tryz.underlying4 k2;simp only[List.cons.injEq,and_true]at e0;subst e0;exact⟨⟨d0,d1,bb⟩,⟨p1,q1⟩,p2.app (q2.app (.one (.v _ rfl) rfl rfl)),p3⟩
theorem RH{fs:List AV}{us:Array Value}(rc:p8 w fs us.toList):RD w (I2 w) (.agg fs) (.agg us):=by
 refine .agg _ _ (by have:=rc.1;simpa using this.symm) (fun i u hu=>?_) fun i c u hc hu=>(rc.2 i c u hc (by simpa using hu)).1;have hu':us.toList[i]?=some u:=by simpa using hu
 obtain⟨c,hc⟩:∃c,fs[i]?=some c:=⟨_,List.getElem?_eq_getElem (by rw[rc.1];exact(List.getElem?_eq_some_iff.1 hu').1)⟩;exact(rc.2 i c u hc hu').2.2
theorem az2(hT:EW w){n:Nat}{us:Array Value}{x:DataW H×List MemPlace}(h:Tr w enc n 30 us.toList=some x)(hw:tp 30 x.1):∃d:Rd,Ok0 d/\RD w (I2 w) (ae d) (.agg us):=by
 obtain⟨d,h1,h2,_⟩:=XY hT h hw;exact⟨d,h1,RH h2⟩
theorem aCz(hT:EW w){n:Nat}{v:Value}{x:DataW H×List MemPlace}(h:Tr w enc n 35 [v]=some x)(hw:tp 35 x.1):∃l:List Rd,((∀d∈l,Ok0 d)/\l.length<4611686018427387904)/\RD w (I2 w) (Cf l) v:=by
 obtain⟨l,v',e4,q1,q2,q3,q4,q5⟩:=LI (k:=3) (bs:=40) Tryz.underlying35 κ δ κ ah Ok0 hT (fun n cs' x=>XY hT) h hw;simp only[List.cons.injEq,and_true]at e4;subst e4;exact⟨l,⟨q1,by unfold reachBytes at q2;omega⟩,q3⟩
theorem alq(hT:EW w){n:Nat}{us:Array Value}{x:DataW H×List MemPlace}(h:Tr w enc n 32 us.toList=some x)(hw:tp 32 x.1):∃d:Ri,OkI d/\RD w (I2 w) (am d) (.agg us):=by
 obtain⟨d,h1,h2,_⟩:=X1 hT h hw;exact⟨d,h1,RH h2⟩
theorem agf(hT:EW w){n:Nat}{us:Array Value}{x:DataW H×List MemPlace}(h:Tr w enc n 24 us.toList=some x)(hw:tp 24 x.1):∃s:Rs,OkS s/\RD w (I2 w) (mM s) (.agg us):=by
 obtain⟨y0,y1,y2,m,rfl,hl,h0,h1,h2⟩:=trod_struct3 Tryz.underlying24 h;have hl3:us.toList.length=3:=hl.trans κ;obtain⟨cs⟩:=us;simp only at hl3 h0 h1 h2
 match cs,hl3 with
 |[a,b,c],_=>
  have k0:Tr w enc m 22 [a]=some y0:=h0;have k1:Tr w enc m 3 [b]=some y1:=h1;have k2:Tr w enc m 3 [c]=some y2:=h2;have w0:tp 22 y0.1:=fun q hq=>hw q (by simp[DataW.weights,DataW.weightsEach,Tryz.underlying24];exact .inl hq);obtain⟨z1,e2,e3,_⟩:=DataW.trod_int Tryz.underlying3 k1;obtain⟨z2,e4,e5,_⟩:=DataW.trod_int Tryz.underlying3 k2;simp only[List.cons.injEq,and_true]at e2 e4;subst e2 e4;obtain⟨l,v,e4,q1,q2,q3,q4,q5⟩:=LI (k:=7) (bs:=88) Tryz.underlying22 κ δ κ ap OkI hT (fun n cs' x=>X1 hT) k0 w0;simp only[List.cons.injEq,and_true]at e4;subst e4;exact⟨⟨l,z1,z2⟩,⟨q1,by show l.length<_;unfold reachBytes at q2;omega⟩,RH ((p8.one q3 rfl q4).app ((p8.one (.v _ rfl) rfl rfl).app (.one (.v _ rfl) rfl rfl)))⟩
theorem agh(hT:EW w){n:Nat}{us:Array Value}{x:DataW H×List MemPlace}(h:Tr w enc n 34 us.toList=some x)(hw:tp 34 x.1):∃s:Rm,OkM s/\RD w (I2 w) (fh s) (.agg us):=by
 obtain⟨y0,y1,m,rfl,hl,h0,h1⟩:=trod_struct2 Tryz.underlying34 h;have hl3:us.toList.length=9:=hl.trans κ;obtain⟨cs⟩:=us;simp only at hl3 h0 h1
 match cs,hl3 with
 |[a,b,c1,c2,c3,c4,c5,c6,c7],_=>
  have k0:Tr w enc m 27 [a,b]=some y0:=h0;have k1:Tr w enc m 32 [c1,c2,c3,c4,c5,c6,c7]=some y1:=h1;have w0:tp 27 y0.1:=fun q hq=>hw q (by simp[DataW.weights,DataW.weightsEach,Tryz.underlying34];exact .inl hq);have w1:tp 32 y1.1:=fun q hq=>hw q (by simp[DataW.weights,DataW.weightsEach,Tryz.underlying34];exact .inr hq);obtain⟨d,d1,d2,_⟩:=X1 hT k1 w1;obtain⟨u0,u1,m2,rfl,hl,h0,h1⟩:=trod_struct2 Tryz.underlying27 k0;have k2:Tr w enc m2 3 [a]=some u0:=h0;have k3:Tr w enc m2 25 [b]=some u1:=h1;have w2:tp 25 u1.1:=fun q hq=>w0 q (by simp[DataW.weights,DataW.weightsEach,Tryz.underlying27];exact .inr hq);obtain⟨z,e2,e3,_⟩:=DataW.trod_int Tryz.underlying3 k2;simp only[List.cons.injEq,and_true]at e2;subst e2;obtain⟨l,v,e4,q1,q2,q3,q4,q5⟩:=LI (k:=4) (bs:=64) Tryz.underlying25 κ δ κ bL (fun t=>Ok0 t.c) hT (fun n cs' x=>aiJ hT) k3 w2;simp only[List.cons.injEq,and_true]at e4;subst e4;exact⟨⟨⟨z,l⟩,d⟩,⟨q1,d1,by show l.length<_;unfold reachBytes at q2;omega⟩,RH ((p8.one (.v _ rfl) rfl rfl).app ((p8.one q3 rfl q4).app d2))⟩
end
theorem Ir{args:List AV}{vals:Array Value}(h:vals.size=args.length){i:Nat}{c:AV}(hc:args[i]?=some c):∃u,vals[i]?=some u:=by
 have:i<args.length:=(List.getElem?_eq_some_iff.1 hc).1;exact⟨vals[i]'(by omega),by simp[h,this]⟩
theorem atK{vals:Array Value}{a:Value}(h:vals.size=1)(h0:vals[0]?=some a):vals=#[a]:=by
 apply Array.ext_getElem?;intro i
 match i with
 |0=>simpa using h0
 |i+1=>simp[h]
theorem atL{vals:Array Value}{a b:Value}(h:vals.size=2)(h0:vals[0]?=some a)(h1:vals[1]?=some b):vals=#[a,b]:=by
 apply Array.ext_getElem?;intro i
 match i with
 |0=>simpa using h0
 |1=>simpa using h1
 |i+2=>simp[h]
theorem Td{w:World}{a:Addr}{us:Array Value}{e:TypeId}(h:w.heap[a.block]?=some (.cells us e (0,0))):w.frozen? a=false:=by
 simp[World.frozen?,h]
theorem alr{P:Program}(w:World)(tS tR e:TypeId)(ht:P.underlying tS=some (.slice e))(size:Nat)(hz:∀w,(Go.sizeOf e).run P w=.ok size w)(a:Addr)(b:Option Addr)(la ca cb:Nat):
  (Extern.SlicesOverlaps.overlaps #[tS,tS] #[tR] #[.slice (some a) la ca,.slice b 0 cb]).run P w=.ok (.bool false) w:=by
 change Sem.run P (α:=Value) (do
  let some t:= (#[tS,tS]:Array TypeId)[0]?|stuck "slices.overlaps: no parameter types"
  let .slice elem←underlying t|stuck "slices.overlaps: slice type expected"
  let size←sizeOf elem
  match (some a:Option Addr),b with
  |some a,some b=>
   if la=0\/0=0\/size=0 then pure (Value.bool false)
   else if a.block !=b.block&& (←frozen a)&& (←frozen b)then unsupported .addressObserved
   else do
    if a.block !=b.block then do
     noView a;noView b
     if←mayBeOne a b then return Value.bool ((←choose (.extern "sameAddr.stringBytes" 2))==1)
    pure (Value.bool (a.block==b.block&&a.off<b.off+0*size&&b.off<a.off+la*size))
  |_,_=>pure (Value.bool false)) w=_
 cases b<;>simp[run_underlying ht,hz]
theorem anI{P:Program}(w:World)(tS tR e:TypeId)(ht:P.underlying tS=some (.slice e))(size:Nat)(hz:∀w,(Go.sizeOf e).run P w=.ok size w)
  (a b:Addr) (la ca lb cb:Nat) (hne:a.block≠b.block) (tA:TypeId) (kA:Nat) {us:Array Value} {tB:TypeId}
  (hkA:kA≠0) (hsa:w.shape? a.block=some (tA,kA)) (hb:w.heap[b.block]?=some (.cells us tB (0,0))) (hu:us.size≠0):
  (Extern.SlicesOverlaps.overlaps #[tS,tS] #[tR] #[.slice (some a) la ca,.slice (some b) lb cb]).run P w=.ok (.bool false) w:=by
 have hnb:(a.block !=b.block)=true:=by simpa using hne
 have hnb':(a.block==b.block)=false:=by simpa using hne
 have hsb:w.shape? b.block=some (tB,us.size):=by simp[World.shape?,hb]
 have hfb:w.frozen? b=false:=Td hb;have hfe:w.frozen? {block:=b.block,off:=us.size}=false:=Td (a:=⟨b.block,us.size,none⟩) hb;change Sem.run P (α:=Value) (do
  let some t:= (#[tS,tS]:Array TypeId)[0]?|stuck "slices.overlaps: no parameter types"
  let .slice elem←underlying t|stuck "slices.overlaps: slice type expected"
  let size←sizeOf elem
  match (some a:Option Addr),(some b:Option Addr)with
  |some a,some b=>
   if la=0\/lb=0\/size=0 then pure (Value.bool false)
   else if a.block !=b.block&& (←frozen a)&& (←frozen b)then unsupported .addressObserved
   else do
    if a.block !=b.block then do
     noView a;noView b
     if←mayBeOne a b then return Value.bool ((←choose (.extern "sameAddr.stringBytes" 2))==1)
    pure (Value.bool (a.block==b.block&&a.off<b.off+lb*size&&b.off<a.off+la*size))
  |_,_=>pure (Value.bool false)) w=_
 by_cases h0:la=0\/lb=0\/size=0
 ·simp[run_underlying ht,hz,h0]
 ·obtain⟨n,hn⟩:∃n,us.size=n+1:=⟨us.size-1,by omega⟩;rw[hn]at hsb hfe;obtain⟨kA,rfl⟩:∃k,kA=k+1:=⟨kA-1,by omega⟩;cases hfa:w.frozen? a<;>cases hfa2:w.frozen? {block:=a.block,off:=kA+1}<;>
   simp[run_underlying ht,hz,h0,hnb,hnb',frozen,noView,viewAt,mayBeOne,stringish,shape,Sem.run,hsa,hsb,hfa,hfa2,hfb,hfe]
theorem adg{w:World}{a:Addr}{v:Value}(h:w.cell? a=some v):∃t k,k≠0/\w.shape? a.block=some (t,k):=by
 unfold World.cell? at h;split at h
 ·rename_i cs t fr hb;refine⟨t,cs.size,fun h0=>?_,by unfold World.shape?;rw[hb]⟩;split at h
  ·cases h
  ·have:=(Array.getElem?_eq_some_iff.1 h).1;omega
 ·cases h
theorem anJ{P:Program}{I:Inv}{f:FuncId}{fn:Func}{tS tR e:TypeId}{size:Nat}(hf:P.funcs[f]?=some fn)(hname: (fn.name== "runtime.NumGoroutine")=false)(hb:fn.body.isNone=true)(hn:Extern.findNext fn=none)
  (he:Extern.find fn=some (Extern.SlicesOverlaps.overlaps #[tS,tS] #[tR])) (ht:P.underlying tS=some (.slice e)) (hz:∀w,(Go.sizeOf e).run P w=.ok size w):qh P I false f (Zu 4):=by
 intro args obs obs' res w X ρ vals n hz' hn' hi hr hs hv;unfold Zu at hz';split at hz'
 ·rename_i k0 row rows k1 lo m k2 rows2;split at hz'
  ·rename_i hk;obtain⟨rfl,rfl,rfl⟩:=hk;cases hz';obtain⟨u0,h0⟩:=Ir hs (i:=0) rfl;obtain⟨u1,h1⟩:=Ir hs (i:=1) rfl;have e0:=hv 0 _ _ rfl h0;have e1:=hv 1 _ _ rfl h1;obtain rfl:=atL hs h0 h1;have d0:=e0.sl_inv;obtain⟨a1,cap1,rfl,hp,hn1,hb1,ha1⟩:=e1.rsl_inv;have ho:RO w (aI w X (aq [.ar 4 rows2]) ρ) ρ (aq [.ar 4 rows2]) 1000 (.ar 4 rows2):=hr.ob 1000;obtain⟨us,tB,g1,g2,g3,g4⟩:=ho;have hlive:live (aq [.ar 4 rows2]) 1000 none:=trivial;cases d0 with
   |sl _ _ a cap ad vs hc ha hk hv2 hl hr2=>
    obtain⟨rfl,hA,hsp⟩:=ha σ;have hlen:=hk row σ;obtain⟨c,hrow⟩:∃c,row[0]?=some c:=⟨row[0]'(by omega),by simp⟩;have hcell:=hv2 0 row 0 c rfl hrow;obtain⟨tA,kA,hkA,hsh⟩:=adg hcell;rw[oW]at hsh;have run:(callFunc f #[.slice (some ad) (row::rows).length cap,.slice a1 m cap1]).run P w=.ok (.value (.bool false)) w:=by
     rw[run_callFunc_extern hf hname hb hn he];by_cases hm:m=0
     ·subst hm;rw[alr w tS tR e ht size hz];rfl
     ·rcases ha1 with h|rfl
      ·omega
      ·rw[anI w tS tR e ht size hz ad ⟨(ρ 1000 none).1,lo*4,none⟩ _ cap m cap1 (fun hh=>hA.2.2 ⟨1000,none,hlive,hh.symm⟩) tA kA hkA hsh g1 ω];rfl
    unfold Enters;rw[run];exact⟨ρ,hr,.refl _ _ _ _,.dat (.v _ rfl)⟩
  ·cases hz'
 ·cases hz'
theorem als{P:Program}{I:Inv}(hR:qh P I false fdW (R0 fdW)):qh P I false fdW (VJ 4 64):=by
 intro args obs obs' res w X ρ vals n hz hn hi hr hs hv;unfold VJ at hz;split at hz
 ·rename_i k0 r;split at hz
  ·rename_i hk;subst hk;cases hz;exact hR ali hn hi hr hs hv
  ·cases hz
 ·rename_i k1 m i k0 r k2 rows;split at hz
  ·rename_i hk;obtain⟨rfl,rfl,rfl,rfl,hi0,hi1,hb⟩:=hk;cases hz;obtain⟨i,rfl⟩:=aze hi0;rw[ayk];by_cases hend:i=rows.length
   ·subst hend;have:=hR (agb (r:=r) rfl hb) hn hi hr hs hv;rw[ayt (ayd _),ayw (ayd _)];exact this
   ·have hlt:i<rows.length:=ω
    obtain⟨u0,h0⟩:=Ir hs (i:=0) rfl;obtain⟨a,cap,rfl,hp,hn1,hb1,ha⟩:=(hv 0 _ _ rfl h0).rsl_inv;have hv':∀ (j:Nat) (c:AV) (u:Value),[AV.rsc 1000 4 0 rows.length cap,.v (.int .i64 i),.sl 4 [r]][j]?=some c->vals[j]?=some u->RV w (aI w X (aq [.ar 4 rows]) ρ) ρ (aq [.ar 4 rows]) c u:=by
     intro j c u hc hu
     match j,hc with
     |0,hc=>
      cases hc;rw[h0]at hu;cases hu;exact .rsc 1000 4 0 _ cap a hp hn1 hb1 ha
     |j+1,hc=>exact hv (j+1) c u hc hu
    rcases Nat.lt_or_ge rows.length cap with hc|hc
    ·exact hR (alm rfl hlt hc hb) hn hi hr hs hv'
    ·obtain rfl:cap=rows.length:=ω
     refine(hR (alk rfl hlt hb) hn hi hr hs hv').mono fun v w' ⟨ρ',q1,q2,q3⟩=>?_;generalize rows.take i++r::rows.drop i=L at q1 q2 q3⊢;have hd:=Oi q1 (id:=1000) (k:=4) (rows:=rows) (by
      show(if 1000=n then _ else _)=_;rw[if_neg ω];rfl)
     have eq:upd (mat n (aq [.ar 4 rows]) (.osl 4 L)).2 1000 .dead=(mat n (aq [.dead]) (.osl 4 L)).2:=by
      show upd (upd (aq [.ar 4 rows]) n (.ar 4 L)) 1000 .dead=upd (aq [.dead]) n (.ar 4 L);rw[Aq,Aq];funext j;unfold upd;by_cases h1:j=1000
      ·rw[if_pos h1,if_neg ω,if_pos h1]
      ·rw[if_neg h1,if_neg h1,if_neg h1]
     rw[eq]at hd;refine⟨ρ',hd.1,q2.trans (hd.2.far rfl),hd.2.rvk q3 (.inr ?_)⟩;show ji [(1000,false)] n none=false;simp[ji];omega
  ·cases hz
 ·cases hz
theorem Te{w w':World}{X:Nat->Prop}{ρ:ey}(hr:Rel w X ρ (aq []))(hb:Below w.heap.size w w'):Rel w' X ρ (aq [])/\Far false w ρ (aq []) w' ρ (aq []):=by
 have hl:∀id sub,¬live (aq []) id sub:=fun id sub=>by
  have hd:aq [] id=.dead:=by
   unfold aq;split<;>simp
  cases sub with
  |none=>simp[live,hd]
  |some p=>simp[live,hd]
 refine⟨⟨fun id sub _ _ h=>(hl id sub h).elim,fun id sub h=>(hl id sub h).elim,fun id=>?_,fun b hb'=>ay8 (hr.xl b hb') hb.size⟩,hb.os,hb.tape,hb.output,hb.size,fun b h1 _=>hb.block b h1,fun b ⟨id,sub,h,_⟩=>(hl id sub h).elim,fun id _ h=>?_,fun h=>by cases h⟩
 ·have hd:aq [] id=.dead:=by
   unfold aq;split<;>simp
  rw[hd];trivial
 ·exfalso;apply h;unfold aq;split<;>simp
theorem anK{P:Program}{I:Inv}{ρ0:Ren}(L:Lays2.n15 P ρ0)(hf:ρ0.f 15=fdF)(he:∀a w,(callFunc fdF a).run P w=.ok (.enter fdF a) w)
  (hR:qh P I false fdF (R0 fdF)):qh P I false fdF clF:=by
 intro args obs obs' res w X ρ vals n hz hn hi hr hs hv;unfold clF at hz;split at hz
 ·cases hz;obtain⟨u0,h0⟩:=Ir hs (i:=0) rfl;have d0:=(hv 0 _ _ rfl h0).sl_inv;obtain rfl:=atK hs h0;cases d0 with
  |sl _ _ a cap ad vs hc ha hk hv2 hl hr2=>
   unfold Enters;rw[he];have fin:∀ (w':World) (b:Option Addr) (c:Nat),Below w.heap.size w w'->∃ρ',Rel w' X ρ' (mat n (aq []) (.sl 1 [])).2/\Far false w ρ (aq []) w' ρ' (mat n (aq []) (.sl 1 [])).2/\
     RV w' (aI w' X (mat n (aq []) (.sl 1 [])).2 ρ') ρ' (mat n (aq []) (.sl 1 [])).2 (mat n (aq []) (.sl 1 [])).1 (.slice b 0 c):=fun w' b c hb=>
    ⟨ρ,(Te hr hb).1,(Te hr hb).2,.dat (.sl 1 [] b c ad vs (ayB _) (fun h=>absurd rfl h) (fun _ h=>by cases h) (fun i row j c h=>by simp at h) (fun _ h=>by cases h) (fun i row j c h=>by simp at h))⟩
   cases a with
   |none=>
    have key:=Any.slices_Clone_int_nil L 0 cap w;rw[hf]at key;refine Calls.mono key fun e w' hw=>?_;obtain⟨rfl,rfl⟩:=hw;exact fin _ _ _ (Below.refl _ _)
   |some a0=>
    have key:=Any.slices_Clone_int_zero L a0 cap w;rw[hf]at key;refine Calls.mono key fun e w' hw=>?_;obtain⟨v',rfl,⟨_,hown⟩,_,hb⟩:=hw;rcases hown with⟨rfl,_⟩| ⟨g,c2,I1,rfl,_⟩
    ·exact fin _ _ _ hb
    ·exact fin _ _ _ hb
 ·rename_i r rs;split at hz
  ·rename_i hb;cases hz;exact hR (aiG hb) hn hi hr hs hv
  ·cases hz
 ·cases hz
abbrev TX(f:Nat)(fd:FD):Prop:=Text Go.Proofs.Tryz.prog f fd
theorem tx{f:Nat}{fd:FD}{fn:Func}(h:Go.Proofs.Tryz.prog.funcs[f]?=some fn)(h2: (fn.body.bind fun c=>i8 Go.Proofs.Tryz.prog fn.ntmps c fd.body,Hn Go.Proofs.Tryz.prog fn.results.toList,decide (fn.ntmps<=1000),fn.name== "runtime.NumGoroutine")= (some fd.body,some fd.res,true,false)):TX f fd:=by
 simp only[Prod.mk.injEq,ayb,decide_eq_true_eq]at h2;obtain⟨⟨c,h3,h4⟩,h5,h6,h7⟩:=h2;exact⟨⟨fn,c,_,h,h3,rfl,h6,h4,h5,h7⟩⟩
theorem tn:∀p∈ ([]:List (Nat×FD)),TX p.1 p.2:=fun _ h=>by cases h
theorem tc{f:Nat}{fd:FD}{l:List (Nat×FD)}(h1:TX f fd)(h2:∀p∈l,TX p.1 p.2):∀p∈ (f,fd)::l,TX p.1 p.2:=fun p hp=>by
 rcases List.mem_cons.1 hp with rfl|hp
 ·exact h1
 ·exact h2 p hp
set_option maxRecDepth 100000 in
theorem X3:∀p∈aiW,TX p.1 p.2:=tc (tx func239 κ) (tc (tx func249 κ) (tc (tx func260 κ) (tc (tx func261 κ) (tc (tx func263 κ) (tc (tx func266 κ) (tc (tx func267 κ) (tc (tx func269 κ) (tc (tx func161 κ) (tc (tx func198 κ) (tc (tx func206 κ) (tc (tx func207 κ) (tc (tx func208 κ) (tc (tx func209 κ) (tc (tx func210 κ) (tc (tx func213 κ) (tc (tx func231 κ) (tc (tx func234 κ) (tc (tx func237 κ) (tc (tx func238 κ) (tc (tx func241 κ) (tc (tx func243 κ) (tc (tx func250 κ) (tc (tx func251 κ) (tc (tx func253 κ) (tc (tx func254 κ) (tc (tx func262 κ) (tc (tx func264 κ) (tc (tx func265 κ) (tc (tx func270 κ) (tc (tx func200 κ) (tc (tx func235 κ) (tc (tx func26 κ) (tc (tx func37 κ) (tc (tx func54 κ) (tc (tx func59 κ) (tc (tx func78 κ) (tc (tx func89 κ) (tc (tx func121 κ) (tc (tx func122 κ) (tc (tx func141 κ) (tc (tx func145 κ) (tc (tx func148 κ) (tc (tx func151 κ) (tc (tx func154 κ) (tc (tx func158 κ) (tc (tx func201 κ) (tc (tx func205 κ) (tc (tx func214 κ) (tc (tx func223 κ) (tc (tx func224 κ) (tc (tx func240 κ) (tc (tx func255 κ) (tc (tx func85 κ) (tc (tx func86 κ) (tc (tx func88 κ) (tc (tx func98 κ) (tc (tx func102 κ) (tc (tx func103 κ) (tc (tx func119 κ) (tc (tx func146 κ) (tc (tx func147 κ) (tc (tx func153 κ) (tc (tx func160 κ) (tc (tx func162 κ) (tc (tx func163 κ) (tc (tx func177 κ) (tc (tx func179 κ) (tc (tx func196 κ) (tc (tx func197 κ) (tc (tx func199 κ) (tc (tx func204 κ) (tc (tx func211 κ) (tc (tx func212 κ) (tc (tx func256 κ) (tc (tx func268 κ) (tc (tx func118 κ) (tc (tx func134 κ) (tc (tx func135 κ) (tc (tx func140 κ) (tc (tx func143 κ) (tc (tx func164 κ) (tc (tx func165 κ) (tc (tx func176 κ) (tc (tx func178 κ) (tc (tx func194 κ) (tc (tx func195 κ) (tc (tx func215 κ) (tc (tx func216 κ) (tc (tx func217 κ) (tc (tx func218 κ) (tc (tx func219 κ) (tc (tx func220 κ) (tc (tx func232 κ) (tc (tx func233 κ) (tc (tx func244 κ) (tc (tx func245 κ) (tc (tx func246 κ) (tc (tx func17 κ) (tc (tx func22 κ) (tc (tx func45 κ) (tc (tx func47 κ) (tc (tx func49 κ) (tc (tx func50 κ) (tc (tx func61 κ) (tc (tx func63 κ) (tc (tx func64 κ) (tc (tx func68 κ) (tc (tx func82 κ) (tc (tx func100 κ) (tc (tx func115 κ) (tc (tx func116 κ) (tc (tx func117 κ) (tc (tx func125 κ) (tc (tx func132 κ) (tc (tx func133 κ) (tc (tx func144 κ) (tc (tx func181 κ) (tc (tx func182 κ) (tc (tx func189 κ) (tc (tx func222 κ) (tc (tx func247 κ) (tc (tx func248 κ) (tc (tx func257 κ) (tc (tx func258 κ) (tc (tx func259 κ) (tc (tx func65 κ) (tc (tx func123 κ) (tc (tx func124 κ) (tc (tx func126 κ) (tc (tx func127 κ) (tc (tx func180 κ) (tc (tx func183 κ) (tc (tx func184 κ) (tc (tx func185 κ) (tc (tx func186 κ) (tc (tx func187 κ) (tc (tx func188 κ) (tc (tx func221 κ) (tc (tx func225 κ) (tc (tx func226 κ) (tc (tx func227 κ) (tc (tx func228 κ) (tc (tx func229 κ) (tc (tx func230 κ) (tc (tx func16 κ) (tc (tx func27 κ) (tc (tx func31 κ) (tc (tx func32 κ) (tc (tx func48 κ) (tc (tx func75 κ) (tc (tx func84 κ) (tc (tx func90 κ) (tc (tx func91 κ) (tc (tx func92 κ) (tc (tx func96 κ) (tc (tx func97 κ) (tc (tx func113 κ) (tc (tx func114 κ) (tc (tx func149 κ) (tc (tx func150 κ) (tc (tx func152 κ) (tc (tx func159 κ) (tc (tx func29 κ) (tc (tx func30 κ) (tc (tx func33 κ) (tc (tx func44 κ) (tc (tx func57 κ) (tc (tx func69 κ) (tc (tx func71 κ) (tc (tx func73 κ) (tc (tx func81 κ) (tc (tx func83 κ) (tc (tx func94 κ) (tc (tx func95 κ) (tc (tx func99 κ) (tc (tx func101 κ) (tc (tx func136 κ) (tc (tx func139 κ) (tc (tx func142 κ) (tc (tx func157 κ) (tc (tx func193 κ) (tc (tx func35 κ) (tc (tx func36 κ) (tc (tx func39 κ) (tc (tx func40 κ) (tc (tx func41 κ) (tc (tx func58 κ) (tc (tx func104 κ) (tc (tx func105 κ) (tc (tx func106 κ) (tc (tx func107 κ) (tc (tx func110 κ) (tc (tx func111 κ) (tc (tx func112 κ) (tc (tx func166 κ) (tc (tx func167 κ) (tc (tx func168 κ) (tc (tx func169 κ) (tc (tx func170 κ) (tc (tx func172 κ) (tc (tx func173 κ) (tc (tx func174 κ) (tc (tx func175 κ) (tc (tx func130 κ) (tc (tx func192 κ) (tc (tx func87 κ) (tc (tx func129 κ) (tc (tx func137 κ) (tc (tx func138 κ) (tc (tx func191 κ) (tc (tx func21 κ) (tc (tx func23 κ) (tc (tx func24 κ) (tc (tx func38 κ) (tc (tx func66 κ) (tc (tx func70 κ) (tc (tx func76 κ) (tc (tx func108 κ) (tc (tx func109 κ) (tc (tx func128 κ) (tc (tx func155 κ) (tc (tx func171 κ) (tc (tx func190 κ) (tc (tx func8 κ) (tc (tx func12 κ) (tc (tx func13 κ) (tc (tx func15 κ) (tc (tx func20 κ) (tc (tx func25 κ) (tc (tx func56 κ) (tc (tx func77 κ) (tc (tx func79 κ) (tc (tx func80 κ) (tn))))))))))))))))))))))))))))))))))))))))))))))))))))))))))))))))))))))))))))))))))))))))))))))))))))))))))))))))))))))))))))))))))))))))))))))))))))))))))))))))))))))))))))))))))))))))))))))))))))))))))))))))))))))))))))))))))))))))))
end Go.Ab
