/-
  A law of tapes on models holds at every input that the statement speaks of, under the conditions that its card names. Part G1.
-/
import Derived.Lib.Overlaps
import Derived.Laws.Externs
import Derived.Shelf.Slices.Clone
import Derived.Shelf.RegionOpenPlain
import Derived.WalkKit
import Derived.Lib.Walk
import Derived.Lib.SliceRun
import Derived.Test.YtjjejmhekjbmbaaGreatDoorProg
import Derived.Shelf.Spec.TrailingZeros
import Derived.Test.YtjjejmhekjbmbaaGreatDoorRows
import Derived.Deep.Strs
import Derived.ProofKit
import Derived.LaidMore
import Derived.OpenShut
import Derived.Carry
import Derived.Test.YtjjejmhekjbmbaaGreatDoorF1
open Nat renaming add_zero → aBR, le_of_ble_eq_true → aBI, le_refl → aBh, le_trans → aBq, lt_of_le_of_lt → aBU, lt_of_lt_of_le → aCf, min_eq_left → aCc, mul_comm → aBD, mul_le_mul_left → aCg, mul_le_mul_right → aBv, pow_add → aBx, two_pow_pos → aBA, zero_add → aBi, zero_le → aBB
open Int renaming eq_ofNat_of_zero_le → aCj, lt_irrefl → aCh, natCast_zero → aBV, reduceEq → aBo, reduceLE → aBn, reduceLT → aBm, toNat_natCast → aBr
open Bool renaming and_eq_true → aBk, and_self → aB3, false_and → aBy, false_eq_true → aCa, false_ne_true → aBu, not_eq_true' → aCi, true_and → aBt
open List renaming all_cons → aBO, all_eq_true → aBC, append_nil → aBz, cons_append → aBF, drop_eq_nil_of_le → aBQ, getElem?_eq_getElem → aBp, getElem?_map → aBS, getElem?_of_mem → aB5, getElem_mem → aBT, length_cons → aB0, length_nil → aB1, map_congr_left → aBK, map_id' → aB2, mem_map → aB7, nil_append → aBw, replicate → aBg, take_of_length_le → aBE
open Option renaming bind_eq_some_iff → aBf, bind_some → aBl, map_eq_some_iff → aBj, map_some → aBZ
set_option linter.all false
namespace Go.Ab
open Go Go.IntWalk Go.Proofs Go.Shelf Go.RowKit Go.Lib Go.ChangeShapes Go.WideShapes Go.Deep Go.Proofs.Tryz
set_option maxRecDepth 100000
set_option maxHeartbeats 16000000
variable{P:Program}{args cap:List AV}{fd:FD}{h':ah}{id:Nat}{p:Int}{rows:List (List AV)}{us vals:Array Value}{y:Ri}{β:Type}
def awB:Rd:=⟨false,[1],1⟩
theorem Q7:gS one one=(one,0):=by
 unfold gS;rw[fg.1,aB3,aq rfl];have h:zI one=(2^ (16384+0):Nat):=Jy (n:=false) (k:=0);have h2:=aeg (z:=zI one) (k:=16384+0) (e:=-32768);rw[←h]at h2;rw[h2,show(-32768)+((16384+0:Nat):Int)=-16384 by omega,CQ fg.2 fg.1,Jm fg.1]
def s0:Rs:=⟨[cA],2,24⟩
abbrev tX(n:Int)(c:Rd):Rt:=⟨[n],c⟩
def xP:Rp:=⟨1,[tX 1 one]⟩
def hP:Rp:=⟨1,[tX 3 awB,tX 4 one]⟩
theorem asx{n}{c}(hn:0<=n/\n<=32)(h:vd c=true/\Ok0 c)(h0:c.m.length≠0):VT 1 (tX n c):=⟨h.2,rfl,by decide,h.1,h0,fun e he=>by grind,by show n+0<=32;omega⟩
theorem cl1{a}(h:VT 1 a):Cl 1 [a]:=Cl.mk' h (fun _ h=>nomatch h) (Cl.nil _)
theorem v1_{n}(hn:0<=n/\n<=32):VT 1 (tX n one):=asx hn fg δ
theorem anp:In (qv qi) cA:=Or.inr ⟨rfl,ER.2,Rat.le_refl,uD.2 (by
 rw[show zI qi=cF true (2^ (16384+0))from Jy (k:=0),show zI cA.hi=cF false (2^ (16384+0))from Jy (k:=0)];simp only[cF,if_true,aCa,if_false];omega)⟩
theorem aj4{x}{q}(h:In q x)(ha:x.all=false):ze x x=true:=Sb.ins ⟨⟨_,h⟩,Or.inr ⟨ha,ha,⟨_,h⟩,Int.le_refl _,Int.le_refl _⟩⟩
theorem z3:C0 s0.p cp [cp,cp]=cp:=by
 simp only[C0,ab1 (show bE s0.p=true from rfl)]
theorem aeh:KK*EQ=1:=by
 have h:=Mn (a:=one) (b:=one) (by rw[Q7]);rw[Q7]at h;have h1:=xf;unfold qv at h1;have hk:=by
  refine Int.eq_of_mul_eq_mul_left (fun h0=>?_) h
  simp_all
 grind
noncomputable def Y0:Rat:=KK^32*KK
theorem aho:(KK:Rat)≠0:=fun h=>by
 grind[aeh]
theorem apZ:Y0≠0:=by
 have hp:∀n:Nat,(KK:Rat)^n≠0:=fun n=>by
  induction n with
  |zero=>grind
  |succ n ih=>grind[aho]
 exact fun h=>(Rat.mul_eq_zero.1 h).elim (hp 32) aho
theorem EC{xs}{w}{l}(h:∀t∈l,VT w t):fv (xs.map qv) l*Y0=(fK l (ph xs)):=by
 have h1:=LI (xs:=xs) aeh h;have h2:(fK l (fun u=>LE u xs*KK^ (32-dg u xs)))=(fK l (ph xs)):=rfl;rw[h2]at h1;unfold Y0;rw[←Rat.mul_assoc,h1,Rat.mul_comm,←Rat.mul_assoc,aeh,Rat.one_mul]
theorem aj5{x y}(h:x*Y0=y*Y0):x=y:=by
 have hm:=Rat.mul_inv_cancel _ apZ;grind
theorem ap0{a b}{xs:List Rd}(oa:OkP a)(ob:OkP b)(h:(y8 a b).2=0):fv (xs.map qv) (y8 a b).1.terms=fv (xs.map qv) a.terms-fv (xs.map qv) b.terms:=by
 obtain⟨pa,pb,pc,f⟩:=S0 oa ob h;refine aj5 ?_;rw[EC pc.cl.t,f,Rat.intCast_sub,←EC pa.cl.t,←EC pb.cl.t];grind
theorem ap1{a b}{xs:List Rd}(oa:OkP a)(ob:OkP b)(h3:(vO a b).2=0):fv (xs.map qv) (vO a b).1.terms=fv (xs.map qv) a.terms*fv (xs.map qv) b.terms:=by
 obtain⟨pa,pb,k,f⟩:=S1 oa ob h3;have hfit:∀s∈a.terms,∀t∈b.terms,bO s.exps+bO t.exps<=32:=by
  unfold vO at h3;split at h3
  ·split at h3
   ·omega
   ·rename_i hd;exact Jn oa ob pa.p pb.p hd
  omega
 have la:=pa.cl.t;have lb:=pb.cl.t;have e2:(fK a.terms fun u=>fK b.terms fun v=>ph xs (jX u v))*KK^32=fK a.terms (ph xs)*fK b.terms (ph xs):=by
  rw[Int.mul_comm,←H6,Int.mul_comm (fK a.terms (ph xs)),←H6];refine Lm fun t ht=>?_;rw[←H6,Int.mul_comm,←H6];grind[Lm,apQ,la,Int.mul_comm]
 rw[←f (ph xs)]at e2;have e3:(fK (vO a b).1.terms (ph xs))*Y0=(fK a.terms (ph xs))*(fK b.terms (ph xs)):=by
  rw[←Rat.intCast_mul,←e2,Rat.intCast_mul,Rat.intCast_mul,Rat.intCast_pow];grind[Y0]
 rw[←EC la,←EC lb,←EC k.cl.t]at e3;grind[aj5]
theorem ahp{v}{A r1 r2}{xs:List Rd}(c:Cl v A)(c1:Cl v r1)(c2:Cl v r2)(h:Mrg A r1 r2):fv (xs.map qv) A=fv (xs.map qv) r1+fv (xs.map qv) r2:=by
 have h1:=FO (f:=ph xs) c1 c2.t (anb c h);refine aj5 ?_;rw[EC c.t,h1,Rat.intCast_add,←EC c1.t,←EC c2.t];grind
def ws(m:Rm)(xs:List Rat)(w:Rat):Prop:=In (w-fv xs m.P.terms) m.R
theorem At{s}{xs}{w}:ws (cu s) xs w:=Or.inl rfl
theorem JA{s}{q}{e}{r}{xs:List Rd}{ts}{w}(os:OkS s)(hs:fk s=true)(oq:OkP q)(hv:e=0->vp q=true/\q.vars=s.dom.length)(hpt:nD s.dom (xs.map qv) ts)(hw:e=0->In (w-fv (xs.map qv) q.terms) r):ws (jD s q e r) (xs.map qv) w:=by
 unfold jD;split
 case isFalse=>exact At
 rename_i he;obtain⟨vq,vv⟩:=hv he;have hr:=hw he;obtain⟨cq,v0,v8,vl⟩:=gj oq vq;have hl:s.dom.length<=100000:=ω
 have sp:dH q s.ord=(⟨q.vars,q.terms.filter (Eg s.ord)⟩,⟨q.vars,q.terms.filter (Ch s.ord)⟩):=by simp_all[dH,aq]
 have n1:=List.length_filter_le (Eg s.ord) q.terms;have n2:=List.length_filter_le (Ch s.ord) q.terms;have c1:=cq.filter (Eg s.ord);have c2:=cq.filter (Ch s.ord);have f1:=ahp (xs:=xs) cq c1 c2 (LG s.ord q.terms);unfold xp;rw[sp];generalize q.terms.filter (Eg s.ord)=lo at*
 generalize q.terms.filter (Ch s.ord)=hi at*
 have vlo:=B0 c1 v0 v8 ω;have vhi:=B0 c2 v0 v8 ω;by_cases g:(fE ⟨q.vars,lo⟩ s.p).2=0
 case neg=>
  simp_all[ax,aBu,At]
 unfold fE at g⊢;rw[aq vlo]at g⊢;split at g
 ·omega
 rename_i hp;rw[ax hp];cases hR:xk s.p lo with
 |none=>grind
 |some z=>
  obtain⟨⟨k1,m1,_⟩,k2,m2,_⟩:=Ij c1 hR;have f2:=ahp (xs:=xs) c1 k1 k2 (UF c1.t hR);have vr:=B0 k2 v0 v8 ω;have i1:=DL (p:=s.p) (kS c2) os.d hl (C1 os hs vhi vv) hpt;have i2:=DL (p:=s.p) (kS k2) os.d hl (C1 os hs vr vv) hpt;have:=iq (p:=s.p) hr (iq (p:=s.p) i1 i2);show In (w-fv (xs.map qv) z.1) _;grind
section
variable {s:Rs} {a b:Rm} {xs:List Rd} {ts:List Rat} {u v:Rat}
theorem anq(os:OkS s)(oa:OkM a)(ob:OkM b)(hpt:nD s.dom (xs.map qv) ts)(ha:ws a (xs.map qv) u)(hb:ws b (xs.map qv) v):ws (Q5 s a b) (xs.map qv) (u+v):=by
 unfold Q5;split
 case isFalse=>exact At
 rename_i h;obtain⟨q1,q2⟩:=rp h;obtain⟨a1,a2,a3,_⟩:=gB oa (q2 a σ);obtain⟨b1,_⟩:=gB ob (q2 b σ);refine JA os q1 (OT a1 b1) (fun e=>?_) hpt fun e=>?_
 ·obtain⟨_,_,k,_⟩:=SZ a1 b1 e;exact⟨k.p,k.v.trans a3⟩
 ·have:=iq (p:=s.p) ha hb;grind[apY,fv,qv]
theorem anr(os:OkS s)(oa:OkM a)(ob:OkM b)(hpt:nD s.dom (xs.map qv) ts)(ha:ws a (xs.map qv) u)(hb:ws b (xs.map qv) v):ws (O4 s a b) (xs.map qv) (u-v):=by
 unfold O4;split
 case isFalse=>exact At
 rename_i h;obtain⟨q1,q2⟩:=rp h;obtain⟨a1,a2,a3,_⟩:=gB oa (q2 a σ);obtain⟨b1,_⟩:=gB ob (q2 b σ);refine JA os q1 (OU a1 b1) (fun e=>?_) hpt fun e=>?_
 ·obtain⟨_,_,k,_⟩:=S0 a1 b1 e;exact⟨k.p,k.v.trans a3⟩
 ·have:=AP (p:=s.p) ha hb;grind[ap0,fv,qv]
theorem ans(os:OkS s)(oa:OkM a)(ob:OkM b)(hpt:nD s.dom (xs.map qv) ts)(ha:ws a (xs.map qv) u)(hb:ws b (xs.map qv) v):ws (rK s a b) (xs.map qv) (u*v):=by
 unfold rK;split
 case isFalse=>exact At
 rename_i h;obtain⟨q1,q2⟩:=rp h;obtain⟨a1,a2,a3,_⟩:=gB oa (q2 a σ);obtain⟨b1,b2,b3,_⟩:=gB ob (q2 b σ);have hl:s.dom.length<=100000:=by grind[gg]
 refine JA os q1 (OV a1 b1) (fun e=>?_) hpt fun e=>?_
 ·obtain⟨_,_,k,_⟩:=S1 a1 b1 e;exact⟨k.p,k.v.trans a3⟩
 ·have i1:=DL (p:=s.p) a1 os.d hl (C1 os q1 a2 a3) hpt;have i2:=DL (p:=s.p) b1 os.d hl (C1 os q1 b2 b3) hpt;rw[ap1 a1 b1 e];unfold ws at ha hb;generalize fv (xs.map qv) a.P.terms=A at*
  generalize fv (xs.map qv) b.P.terms=B at*
  have:=iq (p:=s.p) (iq (p:=s.p) (jI (p:=s.p) i1 hb) (jI (p:=s.p) i2 ha)) (jI (p:=s.p) ha hb);have e2:u*v-A*B=A*(v-B)+B*(u-A)+(u-A)*(v-B):=γ
  rw[e2];exact this
theorem ab2:qv qi=-1:=by
 have e:zI qi=-zI one:=by
  rw[show zI qi=cF true (2^ (16384+0))from Jy (k:=0),show zI one=cF false (2^ (16384+0))from Jy (k:=0)];rfl
 rw[←xf];unfold qv;rw[e];grind
theorem ap2{x}(v:vi x=true)(ha:x.all=true):x=cG:=by
 unfold vi at v;rw[ha]at v;simp at v;obtain⟨l,h,a⟩:=x;simp only at v ha;rw[VW v.1,VW v.2,ha];rfl
theorem ap3{x}{d}(ox:OkI x)(h:Jv x d=true):In (qv d) x/\vd d=true:=by
 unfold Jv at h;simp only[aBk,Bool.or_eq_true,decide_eq_true_eq]at h;obtain⟨⟨h1,h2⟩,h3⟩:=h;refine⟨?_,h2⟩;cases ha:x.all with
 |true=>exact Or.inl (ap2 h1 ha)
 |false=>
  obtain⟨_,v1,v2⟩:=Jz (show kI x=true by grind[kI]);rcases h3 with h3| ⟨h3,h4⟩
  ·grind
  ·exact Or.inr ⟨ha,⟨⟨v1,ox.lo⟩,v2,ox.hi⟩,uD.2 h3,uD.2 h4⟩
end
def fT(d:Rd):Ri:=⟨d,d,false⟩
theorem VS.ct{v}{i}{t}(h:VS v i t):R 35 [I (t.exps.getD i 0+1)] []=some (af ⟨Go.Ab.intD (t.exps.getD i 0+1),Go.Ab.intD (t.exps.getD i 0+1),false⟩,[]):=by
 refine az J0 rfl ?_;obtain⟨x1,x2⟩:=Tw h.vt.b h.hi;have:=h.hd;have k1:=amC (x:=t.exps.getD i 0+1) ω ω;have k2:=gR h.intD.1 h.intD.2;simp only[af,am,ae,aj]at k1 k2;simp only[xH,af,am,go_sem,k1,k2]
section
variable {s:Rs} {a b:Rm} {xs:List Rd} {ts:List Rat} {u v:Rat}
theorem ap4(os:OkS s)(oa:OkM a)(hpt:nD s.dom (xs.map qv) ts)(ha:ws a (xs.map qv) u):In u (bN s a):=by
 unfold bN;split
 case isFalse=>exact Or.inl rfl
 rename_i h;obtain⟨q1,q2⟩:=rp h;obtain⟨a1,a2,a3,_⟩:=gB oa (q2 a σ);have hl:s.dom.length<=100000:=by grind[gg]
 have:=iq (p:=s.p) (DL (p:=s.p) a1 os.d hl (C1 os q1 a2 a3) hpt) ha;grind
theorem ahq{x}(oa:OkM a)(ox:∀d∈x,OkI d/\kI d=true)(hpt:nD x (xs.map qv) ts)(ha:ws a (xs.map qv) u):In u (O7 s a x):=by
 unfold O7;split
 case isFalse=>exact Or.inl rfl
 rename_i h;unfold YX at h;simp only[aBk,decide_eq_true_eq]at h;obtain⟨h,hl,_⟩:=h;obtain⟨q1,q2⟩:=rp h;obtain⟨a1,a2,a3,_⟩:=gB oa (q2 a σ);have hd:mW a.P x=true:=by
  simp_all[mW,decide_eq_true,aBt,aCi,List.any_eq_false,aBu]
 have:=iq (p:=s.p) (DL (p:=s.p) a1 (fun d h=>(ox d h).1) (by grind[gg]) hd hpt) ha;grind
end
theorem aj6{s}{q}{e}{r}(oq:OkP q)(os:OkS s)(hs:fk s=true)(hv:e=0->vp q=true->q.vars=s.dom.length)(ir:∃q,In q r):OkM (jD s q e r):=by
 obtain⟨k1,k2,k3,k4⟩:=YW (e:=e) oq os (by grind[gg]) hv ir;exact⟨fun t ht=>(k3.t t ht).c,k1,by omega⟩
theorem Pa{s}:OkM (cu s):=⟨(fun _ h=>nomatch h),CR.ok',by show 0<_;decide⟩
noncomputable def JB (s:Rs) (d:Rm) (c:Ri) (g:Ri->Int->Ri):Nat->Rm->Rm
 |0,out=>out
 |k+1,out=>JB s d c g k (Q5 s (rK s out d) (gU s (g c k)))
def Ci(x:Ri)(n:Nat)(p:Int):Ri:=if n<=16 then An x n p else cU (An x 16 p) (An x (n-16) p) p
noncomputable def kW (s:Rs) (a:Rm):Rd:=uE (bN s a) s.p
noncomputable def Y3 (s:Rs) (a:Rm):Rm:=O4 s a (gU s (fT (kW s a)))
noncomputable def LJ (s:Rs) (a:Rm) (g:Ri->Int->Ri):Ri:=cU (g (bN s a) (s.ord+1)) (Ci (B4 (bN s a) (fT (kW s a)) s.p) (s.ord.toNat+1) s.p) s.p
noncomputable def F0 (s:Rs) (a:Rm) (g:Ri->Int->Ri):Rm:=
 LH s (JB s (Y3 s a) (fT (kW s a)) g s.ord.toNat (gU s (g (fT (kW s a)) s.ord))) (LJ s a g)
def hv(cf:Nat->Rat)(x:Rat):Nat->Rat->Rat
 |0,y=>y
 |k+1,y=>hv cf x k (y*x+cf k)
section
variable {s:Rs} {a b:Rm} {xs:List Rd} {ts:List Rat} {u v:Rat}
theorem Y4{x}{a}{n}{p}(hx:In a x):In (a^n) (Ci x n p):=by
 unfold Ci;split
 ·exact CV hx
 ·have:=jI (p:=p) (CV (n:=16) (p:=p) hx) (CV (n:=n-16) (p:=p) hx);have e:a^n=a^16*a^ (n-16):=by
   rw[show n=16+(n-16)by omega];grind
  grind
theorem ab3:∀w v,zF w (xg (kU v))=1
 |[],0=>rfl
 |[],_+1=>rfl
 |_::_,0=>rfl
 |x::w,v+1=>by
  show x^0*zF w (xg (kU v))=1;rw[ab3 w v];grind
theorem ap5{n}{c}{w}:fv w (B5 n c).terms=qv c:=by
 unfold B5 FW;split
 ·show 0=(zI c)*EQ
  simp_all[cT]
 ·show qv c*zF w (xg (kU n))+0=_;grind[ab3]
structure VM (s:Rs) (m:Rm):Prop where
 ok:OkM m
 v:rm s m=true
theorem C2(hs:fk s=true):VM s (cu s):=⟨Pa,Q6 hs (Cl.nil _) rfl (aBB _) (fun _ h=>nomatch h) rfl (fun _ h=>nomatch h)⟩
theorem MG{q}{e}{r}(oq:OkP q)(os:OkS s)(hs:fk s=true)(hq:e=0->vp q=true->q.vars=s.dom.length)(ir:∃q,In q r):VM s (jD s q e r):=by
 by_cases h:e=0
 ·exact⟨aj6 oq os hs hq ir,aef oq os hs (hq h) ir⟩
 simp_all[jD,ax,C2]
theorem ru{x}(os:OkS s)(hs:fk s=true)(ox:OkI x):VM s (gU s x):=by
 unfold gU;split
 case isFalse=>exact C2 hs
 obtain⟨m1,m2⟩:=ym (p:=s.p) ox;obtain⟨q,hq⟩:=EB ox (by grind[kI]);exact MG (kS (MF (gg hs).1 m2 m1)) os hs (fun _ _=>rfl) ⟨_,AP (p:=s.p) hq (jC m1 m2)⟩
theorem JC{m}(h:VM s m):∃q,In q m.R:=EB h.ok.r (gB h.ok h.v).2.2.2
theorem aei(os:OkS s)(hs:fk s=true)(ha:VM s a)(hb:VM s b):VM s (Q5 s a b):=by
 unfold Q5;split
 case isFalse=>exact C2 hs
 obtain⟨a1,_,a3,_⟩:=gB ha.ok ha.v;obtain⟨b1,_⟩:=gB hb.ok hb.v;obtain⟨q,hq⟩:=JC ha;obtain⟨r,hr⟩:=JC hb;exact MG (OT a1 b1) os hs (fun e _=>by
  obtain⟨_,_,k,_⟩:=SZ a1 b1 e;exact k.v.trans a3) ⟨_,iq (p:=s.p) hq hr⟩
theorem Y5(os:OkS s)(hs:fk s=true)(ha:VM s a)(hb:VM s b):VM s (O4 s a b):=by
 unfold O4;split
 case isFalse=>exact C2 hs
 obtain⟨a1,_,a3,_⟩:=gB ha.ok ha.v;obtain⟨b1,_⟩:=gB hb.ok hb.v;obtain⟨q,hq⟩:=JC ha;obtain⟨r,hr⟩:=JC hb;exact MG (OU a1 b1) os hs (fun e _=>by
  obtain⟨_,_,k,_⟩:=S0 a1 b1 e;exact k.v.trans a3) ⟨_,AP (p:=s.p) hq hr⟩
theorem LK(os:OkS s)(hs:fk s=true)(ha:VM s a)(hb:VM s b):VM s (rK s a b):=by
 unfold rK;split
 case isFalse=>exact C2 hs
 obtain⟨a1,a2,a3,_⟩:=gB ha.ok ha.v;obtain⟨b1,b2,b3,_⟩:=gB hb.ok hb.v;obtain⟨q,hq⟩:=JC ha;obtain⟨r,hr⟩:=JC hb;have hl:s.dom.length<=100000:=by grind[gg]
 have k1:=tC (p:=s.p) a1 os.d hl;have k2:=tC (p:=s.p) b1 os.d hl;obtain⟨y,hy⟩:=EB k1.1 k1.2;obtain⟨z,hz⟩:=EB k2.1 k2.2;refine MG (OV a1 b1) os hs (fun e _=>?_) ⟨_,iq (p:=s.p) (iq (p:=s.p) (jI (p:=s.p) hy hr) (jI (p:=s.p) hz hq)) (jI (p:=s.p) hq hr)⟩;obtain⟨_,_,k,_⟩:=S1 a1 b1 e;exact k.v.trans a3
theorem ahr{x}(hs:fk s=true)(ha:VM s a)(hx:∃q,In q x):VM s (LH s a x):=by
 unfold LH;split
 case isFalse=>exact C2 hs
 obtain⟨q,hq⟩:=JC ha;obtain⟨r,hr⟩:=hx;have hi:=iq (p:=s.p) hq hr;refine⟨⟨ha.ok.c,hi.ok,ha.ok.n⟩,?_⟩;have h:=ha.v;unfold rm at h⊢;simp only[aBk]at h⊢;exact⟨h.1,h.2.1,h.2.2.1,h.2.2.2.1,hi.v,h.2.2.2.2.2⟩
theorem MH{x}(os:OkS s)(ox:OkI x)(hpt:nD s.dom (xs.map qv) ts)(hx:In v x):ws (gU s x) (xs.map qv) v:=by
 unfold gU;split
 case isFalse=>exact At
 rename_i h;rw[aBk]at h;have h8:=(gg h.1).1;obtain⟨m1,m2⟩:=ym (p:=s.p) ox;have hc:=MF (v:=s.dom.length) h8 m2 m1;refine JA os h.1 (kS hc) (fun _=>⟨B0 hc ω ω ?_,rfl⟩) hpt fun _=>?_
 all_goals grind[FW,ap5,AP,jC]
theorem ant{x}{r}(hx:In r x)(ha:ws a (xs.map qv) u):ws (LH s a x) (xs.map qv) (u+r):=by
 unfold LH;split
 case isFalse=>exact At
 have:=iq (p:=s.p) ha hx;show In (u+r-fv (xs.map qv) a.P.terms) (dk a.R x s.p);grind
theorem Y6{d}{c}{g}(os:OkS s)(hs:fk s=true)(hd:VM s d)(hg:∀k,OkI (g c k)):∀k out,VM s out->VM s (JB s d c g k out)
 |0,_,h=>h
 |k+1,_,h=>Y6 os hs hd hg k _ (aei os hs (LK os hs h hd) (ru os hs (hg k)))
theorem ab4{d}{c}{g}{cf}(os:OkS s)(hs:fk s=true)(hd:VM s d)(hg:∀k,OkI (g c k))(hpt:nD s.dom (xs.map qv) ts)(hx:ws d (xs.map qv) u):∀k out v,(∀j,j<k->In (cf j) (g c j))->VM s out->ws out (xs.map qv) v->ws (JB s d c g k out) (xs.map qv) (hv cf u k v)
 |0,_,_,_,_,h=>h
 |k+1,_,_,hc,ho,h=>ab4 os hs hd hg hpt hx k _ _ (fun j hj=>hc j ω) (aei os hs (LK os hs ho hd) (ru os hs (hg k)))
   (anq os (LK os hs ho hd).ok (ru os hs (hg k)).ok hpt (ans os ho.ok hd.ok hpt h hx) (MH os (hg k) hpt (hc k ω)))
theorem anu{g}{cf}{r}(os:OkS s)(hs:fk s=true)(ha:VM s a)(hg:∀x k,OkI (g x k))(hpt:nD s.dom (xs.map qv) ts)(hu:ws a (xs.map qv) u)
  (h1:∀j,j<=s.ord.toNat->In (cf j) (g (fT (kW s a)) j)) (h2:In r (g (bN s a) (s.ord+1))):ws (F0 s a g) (xs.map qv) (hv cf (u-qv (kW s a)) s.ord.toNat (cf s.ord.toNat)+r*(u-qv (kW s a))^ (s.ord.toNat+1)):=by
 have hb:=ap4 os ha.ok hpt hu;obtain⟨m1,m2⟩:=ym (p:=s.p) hb.ok;have hc:=jC m1 m2;have vc:=ru os hs hc.ok;have hd:=anr os ha.ok vc.ok hpt hu (MH os hc.ok hpt hc);have hn:(s.ord.toNat:Nat)=s.ord:=by
  unfold fk at hs;grind
 refine ant (jI h2 (Y4 (AP hb hc))) ?_;have k:=h1 _ (aBh _);rw[hn]at k;exact ab4 os hs (Y5 os hs ha vc) (hg _) hpt hd _ _ _ (fun j hj=>h1 j ω) (ru os hs (hg _ _)) (MH os (hg _ _) hpt k)
end
theorem aj7(o q):au [o,q]=upd (upd (fun _=>.dead) 1000 o) 1001 q:=by
 unfold au upd;funext i;by_cases h1:i=1001
 ·simp_all
 grind
theorem aej(k){f}{fd}{args}{o q}{r}(hE:cQ.E f=none)(hC:cQ.C f=some fd)(hk:cQ.md.keep f=k)(h1:args.length=fd.np)
  (hz:lI k fd.rs fd.res 2 (ap R (aC k) fd.body (vH args) (upd (upd (fun _=>.dead) 1000 o) 1001 q))=some r):R f args [o,q]=some r:=by
 grind[KV,aj7]
theorem aek{h}{o q}{rs}{vs us}{r}(h0:((vs.flatMap cH).filter fun i=>!bt i)=[])(h1:h 1000=o)(h4:h 1001=q)(ho:aE [1000,1001] o=true)(hq:aE [1000,1001] q=true)(h2:vT h vs=some us)(h3:xw (bv rs us)=r):vG rs 2 h vs=some (r,[o,q]):=by
 have hp:dx 2=[1000,1001]:=rfl;unfold vG;rw[h0,hp,h2,aq (by grind[lR])];grind
theorem Q8{h:ah}{i}{o}(hh:h i=o):upd h i o=h:=by
 grind[upd]
section
variable {f g:FuncId} {h:ah} {d i j:Nat} {zas as':List AV} {o q:Ob} {res:AV}
theorem aj8(hm:(aC false).m f=[])(hk:(aC false).keep f=false)(hn:bv ((aC false).sh f) (zas++[.fn g [] [ac i,ac j]])=as'++[.fn g [] [ac i,ac j]])(hd:zas.all dat=true)(hd':as'.all dat=true)(hij:i≠j)
  (hi:h i=o) (hj:h j=q) (ho:OC o) (hq:OC q) (hR:R f (as'++[.fn g [] [ac 1000,ac 1001]]) [o,q]=some (res,[o,q])) (hr:RT res) (h8:cM res<=8) (hfr:cj h (2000+8*d) (cM res)=true):
  bB R (aC false) h d (zas++[.fn g [] [ac i,ac j]]) (.fn f [] [])=some (res,h,[(i,true),(j,true)]):=by
 have hin:∀l,l.all dat=true->ce h [] (l++[.fn g [] [ac i,ac j]])=some (l++[.fn g [] [ac i,ac j]],h,[]):=by
  intro l;induction l with
  |nil=>intro _;rfl
  |cons x l ih=>
   simp_all[aBF,ce,List.headD_nil,Lp,aBl,List.tail_nil,aBz]
 have h1:=hin zas hd;have hp:bC [] ((zas++[AV.fn g [] [ac i,ac j]]).flatMap cH)=[i,j]:=by
  rw[List.flatMap_append,Aq fun x hx=>EL (List.all_eq_true.1 hd x hx)];show bC [] [i,j]=[i,j]
  simp_all[bC,Ne.symm]
 have hre:bU h 40 [i,j] 0=[i,j]:=by
  simp[bU,ho.ids,hq.ids,bC, *]
 have p1:bg [i,j] i=1000:=by simp[bg]
 have p2:bg [i,j] j=1001:=by
  have e:(i==j)=false:=by simpa using hij
  simp[bg,List.idxOf_cons,e]
 have hall:(as'++[AV.fn g [] [ac i,ac j]]).all (be [i,j])=true:=by
  grind[H7,be,bw]
 have hmap:(as'++[AV.fn g [] [ac i,ac j]]).map (dS (bg [i,j]))=as'++[.fn g [] [ac 1000,ac 1001]]:=by
  rw[List.map_append,(aBK (g:=fun c=>c) fun x hx=>EM (List.all_eq_true.1 hd' x hx) _).trans (aB2 as')];grind[dS,ko]
 have hob:([i,j].map fun a=>dY (bg [i,j]) (h a))=[o,q]:=by simp[ho.ren,hq.ren, *]
 have hids:([i,j].all fun a=>aE [i,j] (h a)&&!bX (h a))=true:=by simp[ho.cl,ho.nd,hq.cl,hq.nd, *]
 unfold bB;rw[ax (by grind[kC])];simp only[dZ,aBw,aBz,aBl, *];unfold ke;rw[hall,hids,hmap,hob,hR,aB3,aq rfl,aBl,hk,hm,tw];unfold eJ;have hbf:cY h [] [i,j] [o,q]=true:=by
  grind[bf,cY]
 have hend:mG h [i,j] [] (res,[o,q])=true:=by
  simp[mG,A7,hr.ok,ho.cl,hq.cl]
 rw[aq ⟨rfl,by simp,h8,hfr,hbf,hend⟩];simp[eB,gD,hr.mat,hr.ren,ho.ren,hq.ren,Q8 hi,Q8 hj]
end
theorem ael(m):RT (cw m):=⟨fun _=>rfl,fun _ _=>rfl,fun _=>rfl⟩
theorem yp{s}{a}:OkI (bN s a):=by
 unfold bN;split
 ·exact yg
 ·exact CR.ok'
def Eh(n:Int):Rd:=bu (decide (n<0)) n.natAbs 0
theorem ry{n}(h:GD n):vd (Eh n)=true/\Ok0 (Eh n):=by
 have hb:ag n.natAbs<=64:=bT.2 (by
  obtain⟨h1,h2⟩:=h;omega)
 unfold Eh;by_cases g:n.natAbs=0
 ·grind[lF,aO]
 exact⟨HZ (OK g ω δ ω),⟨ye _ _ _,aBU (wX (k:=128) ω) δ⟩⟩
abbrev gp(n:Int):Ri:=fT (Eh n)
theorem xr{n}(h:GD n):OkI (gp n):=⟨(ry h).2,(ry h).2⟩
theorem JD{n}(h:GD n):R 54 [I n] []=some (af (gp n),[]):=by
 refine az M2 rfl ?_;have h1:=DD h;have h2:=gR (ry h).2 (ry h).1;rw[show bu (decide (n<0)) n.natAbs 0=Eh n from rfl]at h1;unfold gp fT;simp only[af,am,ae,aj]at h1 h2;simp only[wE,af,am,go_sem,h1,h2]
theorem ab5{x}(ok:OkI x){p}{n:Nat}(hn:n<=16):R 55 [af x,I n,I p] []=some (af (An x n p),[]):=by
 refine az Fw rfl ?_;have h:=DG ok (p:=p) (n:=n) ω;have e1:((n:Int)<=16)=True:=tt;simp only[af,am]at h;simp only[rQ,af,am,go_sem,e1,h]
theorem ak7{x}(ok:OkI x){p}{n:Nat}(hn:n<=32):R 55 [af x,I n,I p] []=some (af (Ci x n p),[]):=by
 unfold Ci;by_cases g:n<=16
 ·grind[ab5]
 rw[ax g];refine az Fw rfl ?_;have h1:=DG ok (p:=p) (n:=16) ω;have h2:=ab5 ok (p:=p) (n:=n-16) ω;have h3:=vE (CN ok (n:=16) (p:=p)) (CN ok (n:=n-16) (p:=p)) (p:=p);have e1:((n:Int)<=16)=False:=ff;have e2:aS (n-16)=(n-16:Nat):=wi;simp only[af,am,Int.cast_ofNat_Int]at h1 h2 h3;simp only[rQ,af,am,go_sem,e1,e2,h1,h2,h3]
theorem tN{s}(os:OkS s):R 31 [go s] []=some (cw (cu s),[]):=by
 refine az N2 rfl ?_;have h1:=gP;have h2:=AX os (x:=cG) CR.ok';have e:gU s cG=cu s:=by
  simp_all[gU,ax,kI,cG]
 rw[e]at h2;simp only[af,am,cG,aG]at h1 h2;simp only[yB,go_sem,h1,h2]
def GU(x:Ri)(p:Int):Bool:=kI x&& (bE p&&decide ((dq x.hi (fC x.lo) p true).2=0))
theorem ab6{x}{p}(h:GU x p=true):x.all=false:=by
 grind[GU,kI]
theorem Y7{x}{p}(ox:OkI x):∃w b,R 145 [af x,I p] []=some (.tup [ae w,B b],[])/\Ok0 w/\vd w=true/\b=GU x p:=by
 have h1:=pg ox;have h2:=mV (p:=p);cases g1:kI x with
 |false=>
  rw[g1]at h1;refine⟨aG,false,az Ah rfl ?_,aO.2,aO.1,by simp[GU,g1]⟩;simp only[nT,af,am,ae,aj,aG,go_sem,h1]
 |true=>
 rw[g1]at h1;cases g2:bE p with
 |false=>
  rw[g2]at h2;refine⟨aG,false,az Ah rfl ?_,aO.2,aO.1,by grind[GU]⟩;simp only[nT,af,am,ae,aj,aG,go_sem,h1,h2]
 |true=>
 rw[g2]at h2;have h3:=BX ox.lo;rw[show(if vd x.lo=false\/x.lo.m.length=0 then aG else⟨!x.lo.neg,x.lo.m,x.lo.e⟩)=fC x.lo from rfl]at h3;have on:Ok0 (fC x.lo):=by
  unfold fC;split
  ·exact aO.2
  ·exact⟨ox.lo.1,ox.lo.2⟩
 have h4:=OL ox.hi on (p:=p);refine⟨(dq x.hi (fC x.lo) p true).1,decide ((dq x.hi (fC x.lo) p true).2=0),az Ah rfl ?_,H3,Mf,by grind[GU,g1]⟩;simp only[rV,ae,aj]at h3 h4;simp only[nT,af,am,ae,aj,go_sem,h1,h2,h3,h4]
theorem ap6{s}(ok:Ok0 s)(v:vd s=true):∃r,R 129 [ae s,I 3] []=some (rV r,[])/\Ok0 r.1:=by
 obtain⟨h0,h1,h2,h3⟩:=fA v ok.lb;have hl:Ok0 (bu s.neg (ab s.m) (s.e+3)):=⟨ye _ _ _,aBU (wX (k:=128) ω) δ⟩;refine⟨cS (bu s.neg (ab s.m) (s.e+3)),az HP rfl ?_,?_⟩
 ·have hv:=eG ok;rw[v]at hv;have hx:=zu (e:=3);have ho:=mU (neg:=s.neg) (m:=s.m) (e:=s.e+3) ok.lb ω (by grind[Exq]);have hc:=BV hl.lb (aBq (wX (k:=128) ω) δ);have ew:aS (s.e+3)=s.e+3:=by grind[i64_in]
  generalize bu s.neg (ab s.m) (s.e+3)=d at ho hc⊢;have e:(if s9 (ag (ab d.m)) d.e=true then AV.tup [ae d,I 0]else .tup [ae aG,I 9])=rV (cS d):=by
   grind[cS,rV]
  rw[e]at hc;simp only[ae,aj,rV]at hv ho hc;simp only[vZ,rV,ae,aj,go_sem,hv,hx,ho,hc,ew,show decide ((-32768)<=3)=true from rfl,show decide ((3:Int)<=32768)=true from rfl]
 ·unfold cS;split
  ·omega
  ·exact aO.2
theorem aj9{s}{a b}(os:OkS s)(oa:OkM a)(ob:OkM b):∃w,R 89 [go s,cw a,cw b] []=some (B w,[])/\(w=false->GU (bN s b) s.p=true->(bN s a).all=false):=by
 have h1:=tM os oa;have h2:=tM os ob;obtain⟨w1,b1,h3,o1,v1,e1⟩:=Y7 (x:=bN s a) (p:=s.p) yp;obtain⟨w2,b2,h4,o2,v2,e2⟩:=Y7 (x:=bN s b) (p:=s.p) yp;obtain⟨r,h5,o3⟩:=ap6 o2 v2;have h6:=pF o1 o3;generalize(if vd w1=true/\vd r.1=true then gy (zI w1) (zI r.1)else 0)=k at h6;simp only[af,am,ae,aj,rV]at h1 h2 h3 h4 h5 h6;cases b2 with
 |false=>
  refine⟨false,az uw rfl ?_,fun _ h=>by grind⟩;simp only[kZ,go_sem,h1,h2,h3,h4]
 |true=>
 cases b1 with
 |false=>
  refine⟨true,az uw rfl ?_,fun h=>by grind⟩;simp only[kZ,go_sem,h1,h2,h3,h4,h5]
 |true=>
 by_cases g:r.2=0
 ·have f:=tt g;refine⟨decide (0<k),az uw rfl ?_,fun _ _=>ab6 e1.symm⟩;simp only[kZ,go_sem,h1,h2,h3,h4,h5,h6,f]
 ·have f:=ff g;refine⟨false,az uw rfl ?_,fun _ _=>ab6 e1.symm⟩;simp only[kZ,go_sem,h1,h2,h3,h4,h5,f]
theorem Q9{l:List Nat}{p}{x}(h:x∈ (l.filter p).map di):x∈l.map di:=by
 obtain⟨y,hy,rfl⟩:=List.mem_map.1 h;exact List.mem_map_of_mem (List.mem_filter.1 hy).1
theorem MI{a b}(h:∀x∈a,x∉b):mO a b=true:=by
 unfold mO;rw[aBC];intro x hx;simp[h x hx]
theorem ak8(h h':ah)(d:Nat){a b g:Bool}{m n:List Nat}{e f:Int}{z:Value}(hi:lH (h 1000)=[]):gu h d [.agg [B a,lm m,I e,B b,lm n,I f,B g],.v z,ac 1000] h'=some ([1000],(Di h h' [1000]).map di++[2000+8*d]):=by
 have hre:bU h 40 [1000] 0=[1000]:=by grind[bU,bC]
 show(if _ then _ else if _ then some ((bU h 40 [1000] 0).map di,(Di h h' (bU h 40 [1000] 0)).map di++[2000+8*d])else none)=_;rw[hre];rfl
theorem ap7{h:ah}{d x:Nat}(hx:x∈ (Di h h' [1000]).map di++[2000+8*d]):x=1000\/x=2000+8*d:=by
 rcases List.mem_append.1 hx with h1|h1
 ·have:=Q9 h1;grind[di]
 grind
section
variable {a b g:Bool} {m n:List Nat} {e f:Int} {z:Value} {r w:List Nat}
theorem F1(h h':ah)(d:Nat)(hi:lH (h 1000)=[])(hk:mO (r++w) [1000,2000+8*d]=true):kY (gu h d [.agg [B a,lm m,I e,B b,lm n,I f,B g],.v z,ac 1000] h') (some (r,w))=true:=by
 rw[ak8 h h' d hi];have hk':∀x,x∈r\/x∈w->x≠1000/\x≠2000+8*d:=fun x hx=>by
  have:=Az hk (List.mem_append.2 hx);grind
 show(mO _ (r++w)&&mO w [1000])=true;grind[MI,ap7]
theorem F3(h h':ah)(d:Nat)(hi:lH (h 1000)=[])(hk:mO (r++w) [1000,2000+8*d]=true):kY (some (r,w)) (gu h d [.agg [B a,lm m,I e,B b,lm n,I f,B g],.v z,ac 1000] h')=true:=by
 rw[ak8 h h' d hi];have hk':∀x,x∈r\/x∈w->x≠1000/\x≠2000+8*d:=fun x hx=>by
  have:=Az hk (List.mem_append.2 hx);grind
 show(mO w ([1000]++_)&&mO _ r)=true;grind[MI,ap7]
end
theorem ak9(h h':ah)(d:Nat){a b g:Bool}{m n:List Nat}{e f:Int}{z:Value}(hi:lH (h 1000)=[])(hj:lH (h 1001)=[]):gu h d [.agg [B a,lm m,I e,B b,lm n,I f,B g],.v z,ac 1000,ac 1001] h'=some ([1000,1001],(Di h h' [1000,1001]).map di++[2000+8*d]):=by
 have hre:bU h 40 [1000,1001] 0=[1000,1001]:=by simp_all[bU,bC]
 show(if _ then _ else if _ then some ((bU h 40 [1000,1001] 0).map di,(Di h h' (bU h 40 [1000,1001] 0)).map di++[2000+8*d])else none)=_;rw[hre];rfl
theorem ap8{h:ah}{d x:Nat}(hx:x∈ (Di h h' [1000,1001]).map di++[2000+8*d]):x=1000\/x=1001\/x=2000+8*d:=by
 rcases List.mem_append.1 hx with h1|h1
 ·have:=Q9 h1;grind[di]
 grind
section
variable {a b g:Bool} {m n:List Nat} {e f:Int} {z:Value} {r w:List Nat}
theorem F4(h h':ah)(d:Nat)(hi:lH (h 1000)=[])(hj:lH (h 1001)=[])(hk:mO (r++w) [1000,1001,2000+8*d]=true):kY (gu h d [.agg [B a,lm m,I e,B b,lm n,I f,B g],.v z,ac 1000,ac 1001] h') (some (r,w))=true:=by
 rw[ak9 h h' d hi hj];have hk':∀x,x∈r\/x∈w->x≠1000/\x≠1001/\x≠2000+8*d:=fun x hx=>by
  have:=Az hk (List.mem_append.2 hx);grind
 show(mO _ (r++w)&&mO w [1000,1001])=true;grind[MI,ap8]
theorem F5(h h':ah)(d:Nat)(hi:lH (h 1000)=[])(hj:lH (h 1001)=[])(hk:mO (r++w) [1000,1001,2000+8*d]=true):kY (some (r,w)) (gu h d [.agg [B a,lm m,I e,B b,lm n,I f,B g],.v z,ac 1000,ac 1001] h')=true:=by
 rw[ak9 h h' d hi hj];have hk':∀x,x∈r\/x∈w->x≠1000/\x≠1001/\x≠2000+8*d:=fun x hx=>by
  have:=Az hk (List.mem_append.2 hx);grind
 show(mO w ([1000,1001]++_)&&mO _ r)=true;grind[MI,ap8]
end
abbrev zM:List AV:=[I 0,.emp,B false,.emp,I 0,B false,.emp,I 0,B false]
attribute [-go_sem] tF in
theorem aka{s:Rs}{d:Rm}{b c:Ri}{f:FuncId}{g:Ri->Int->Ri}{o q:Ob}{N:Int}(hcap:cap=[ac 1000]/\q=.dead\/cap=[ac 1000,ac 1001])(os:OkS s)(hs:fk s=true)(hd:VM s d)(hg:∀k,OkI (g c k))(ho:OC o)(hoq:(∀l,aE l q=true)/\lH q=[])
  (hf:∀ (k:Nat),k<=17->∀ (h:ah) (e:Nat),h 1000=o->h 1001=q->h (2000+8*e)=.dead->bB R (aC false) h e [af c,I k] (.fn f [] cap)=some (af (g c k),h,[])):∀ (k:Nat) (out:Rm),VM s out->k<=17->∀ (S:aN) (h:ah) (X:Option (Ex×St)),ao 0 [2,3,6,7,8,10,11] (aD (ap R (aC false) eW) [2,3,6,7,8,9,10,11,12] [3,6,7,8,9,11,1000,1001] S h)=X->
  S 2=.fn f [] cap->S 3=ac 3->S 6=ac 6->S 7=ac 7->S 8=ac 8->S 9=ac 9->S 10=I N->S 11=ac 11->S 12=I ((k:Int)-1)->
  h 3=.bx (tL s)->h 6=.bx zM->h 7=.bx (am b)->h 8=.bx (am c)->h 9=.bx (yy d)->h 11=.bx (yy out)->h 1000=o->h 1001=q->
  ∃hh,X=some (.normal,⟨upd (upd (upd (upd (upd (upd (upd cr 11 (ac 11)) 10 (I N)) 8 (ac 8)) 7 (ac 7)) 6 (ac 6)) 3 (ac 3)) 2 (.fn f [] cap),hh⟩)/\hh 3=.bx (tL s)/\hh 6=.bx zM/\hh 7=.bx (am b)/\hh 8=.bx (am c)/\hh 11=.bx (yy (JB s d c g k out))/\hh 1000=o/\hh 1001=q/\∀i,i≠3->i≠6->i≠7->i≠8->i≠9->i≠11->i≠1000->i≠1001->hh i=.dead:=by
 have hcl:=ho.cl;have hids:=ho.ids;obtain⟨hcq,hiq⟩:=hoq;clear ho;intro k;induction k with
 |zero=>
  intro out ho hk S h X hX k2 k3 k6 k7 k8 k9 k10 k11 k12 h3 h6 h7 h8 h9 h11 h0 h1;subst hX;rw[ai];have e1:(0<=((0:Nat):Int)-1)=False:=ff;rcases hcap with⟨rfl,rfl⟩|rfl
  ·refine⟨?hh0,?_,?_,?_,?_,?_,?_,?_,?_,?_⟩;rotate_left
   ·simp only[eW,go_sem,k2,k3,k6,k7,k8,k9,k10,k11,k12,h3,h6,h7,h8,h9,h11,h0,h1,hcl,hcq,e1];rfl
   all_goals first|rfl| (intro i b1 b2 b3 b4 b5 b6 b7 b8;simp only[dv,b1,b2,b3,b4,b5,b6,b7,b8,if_false];try (split<;>rfl))
  ·refine⟨?hh1,?_,?_,?_,?_,?_,?_,?_,?_,?_⟩;rotate_left
   ·simp only[eW,go_sem,k2,k3,k6,k7,k8,k9,k10,k11,k12,h3,h6,h7,h8,h9,h11,h0,h1,hcl,hcq,e1];rfl
   all_goals first|rfl| (intro i b1 b2 b3 b4 b5 b6 b7 b8;simp only[dv,b1,b2,b3,b4,b5,b6,b7,b8,if_false];try (split<;>rfl))
 |succ k ih=>
  intro out ho hk S h X hX k2 k3 k6 k7 k8 k9 k10 k11 k12 h3 h6 h7 h8 h9 h11 h0 h1;have vm:=LK os hs ho hd;have vc:=ru os hs (hg k);have ih':=ih (Q5 s (rK s out d) (gU s (g c k))) (aei os hs vm vc) ω;have e2:((k+1:Nat):Int)-1=k:=ω
  have e3:aS ((k:Int)-1)=(k:Int)-1:=by grind[i64_in]
  have m1:=Tv os ho.ok hd.ok;have m2:=AX os (hg k);have m3:=ane os vm.ok vc.ok;have hc:=hf k ω;rw[e2]at k12;have e4:(0<=(k:Int))=True:=tt;subst hX;rw[ai];rw[show JB s d c g (k+1) out=JB s d c g k (Q5 s (rK s out d) (gU s (g c k)))from rfl];generalize rK s out d=y1 at*
  generalize gU s (g c k)=y2 at*
  generalize g c k=x at*
  simp only[af,am]at hc m2 h8;rcases hcap with⟨rfl,rfl⟩|rfl
  ·simp only[eW,am,go_sem,k2,k3,k6,k7,k8,k9,k10,k11,k12,h3,h6,h7,h8,h9,h11,h0,h1,hcl,e4,m1,gA];rw[hc _ _ Z Z Z];simp only[go_sem,hcl,hids,F1,F3,gA,m2,m3,e3];apply ih'<;>rfl
  ·simp only[eW,am,go_sem,k2,k3,k6,k7,k8,k9,k10,k11,k12,h3,h6,h7,h8,h9,h11,h0,h1,hcl,hcq,e4,m1,gA];rw[hc _ _ Z Z Z];simp only[go_sem,hcl,hcq,hids,hiq,F4,F5,gA,m2,m3,e3];apply ih'<;>rfl
theorem ap9{x:Ri}{n:Nat}(ok:OkI x):OkI (Ci x n p):=by
 grind[Ci,CN,qG]
theorem Ra{s:Rs}{a:Rm}(os:OkS s)(oa:OkM a):∃q,In q (bN s a):=by
 unfold bN;split
 case isFalse=>exact⟨0,.inl rfl⟩
 rename_i h;obtain⟨q1,q2⟩:=rp h;obtain⟨a1,a2,a3,a4⟩:=gB oa (q2 a σ);obtain⟨k1,k2⟩:=tC (p:=s.p) a1 os.d (by grind[gg]);obtain⟨y,hy⟩:=EB k1 k2;obtain⟨z,hz⟩:=EB oa.r a4;exact⟨_,iq (p:=s.p) hy hz⟩
attribute [-go_sem] tF in
theorem Tx{s:Rs}{a:Rm}{f:FuncId}{o q:Ob}{hs':List Ob}(hcap:cap=[ac 1000]/\q=.dead/\hs'=[o]\/cap=[ac 1000,ac 1001]/\hs'=[o,q])(os:OkS s)(oa:OkM a)(ho:OC o)(hoq:(∀l,aE l q=true)/\lH q=[])(g0:(bN s a).all=true):
  R 37 [go s,cw a,.fn f [] cap] hs'=some (cw (cu s),hs'):=by
 have hb:=tM os oa;have hcl:=ho.cl;have hids:=ho.ids;obtain⟨hcq,hiq⟩:=hoq;have hw:=tN os;generalize bN s a=b at*
 generalize cu s=z at*
 simp only[af,am]at hb;rcases hcap with⟨rfl,rfl,rfl⟩| ⟨rfl,rfl⟩
 ·refine rh aX.2.1 aX.2.2 (aX.1.2.2.2 false) rfl ?_;simp only[fW,jn,go_sem,hb,hw,g0];exact lP Z Z (hcl _) rfl (by simp only[go_sem,dC])
 ·refine aej false aX.2.1 aX.2.2 (aX.1.2.2.2 false) rfl ?_;simp only[fW,jn,go_sem,hb,hw,g0];exact aek Z Z Z (hcl _) (hcq _) rfl (by simp only[go_sem,dC])
attribute [-go_sem] tF in
theorem anv{s:Rs}{a:Rm}{f:FuncId}{g:Ri->Int->Ri}{o q:Ob}{hs':List Ob}(hcap:cap=[ac 1000]/\q=.dead/\hs'=[o]\/cap=[ac 1000,ac 1001]/\hs'=[o,q])(os:OkS s)(oa:OkM a)(ho:OC o)(hoq:(∀l,aE l q=true)/\lH q=[])(hg:∀x k,OkI (g x k))(hgi:∀k:Nat,∃q,In q (g (bN s a) ((k+1:Nat):Int)))(hf:∀x,x=fT (kW s a)\/x=bN s a->∀ (k:Nat),k<=17->∀ (h:ah) (e:Nat),h 1000=o->h 1001=q->h (2000+8*e)=.dead->bB R (aC false) h e [af x,I k] (.fn f [] cap)=some (af (g x k),h,[])):
  ∃m,R 37 [go s,cw a,.fn f [] cap] hs'=some (cw m,hs')/\(fk s=true->VM s m)/\((bN s a).all=true/\m=cu s\/(bN s a).all=false/\fk s=true/\rm s a=true/\(m=F0 s a g/\(GU (bN s (gU s (g (bN s a) 0))) s.p=true->(bN s (F0 s a g)).all=false)\/m=gU s (g (bN s a) 0))):=by
 have hb:=tM os oa;have okb:=yp (s:=s) (a:=a);have hcl:=ho.cl;have hids:=ho.ids;obtain⟨hcq,hiq⟩:=hoq;cases g0:(bN s a).all with
 |true=>
  exact⟨cu s,Tx hcap os oa ho ⟨hcq,hiq⟩ g0,fun h=>C2 h,.inl ⟨rfl,rfl⟩⟩
 |false=>
 have he:yz s [a]=true:=by
  cases h:yz s [a]with
  |true=>rfl
  |false=>
   unfold bN at g0;rw[h,ax aBu]at g0;cases g0
 obtain⟨hs,q2⟩:=rp he;have va:=q2 a σ;have ha:VM s a:=⟨oa,va⟩;obtain⟨m1,m2⟩:=ym (p:=s.p) okb;have hm:R 84 [af (bN s a),I s.p] []=some (ae (kW s a),[]):=ahd okb;have hp:R 82 [ae (kW s a)] []=some (af (fT (kW s a)),[]):=gR m2 m1;have okc:OkI (fT (kW s a)):=⟨m2,m2⟩;have vc:=ru os hs okc;have h1:=AX os okc;have h2:R 85 [go s,cw a,cw (gU s (fT (kW s a)))] []=some (cw (Y3 s a),[]):=anf os oa vc.ok;have vd:VM s (Y3 s a):=Y5 os hs ha vc;obtain⟨n,hn⟩:∃n:Nat,s.ord=n:=aCj (by
  unfold fk at hs;grind)
 have hn17:n<=16:=by
  unfold fk at hs;grind
 have hnt:s.ord.toNat=n:=ω
 have h3:=hf _ (.inl rfl) n ω;have h4:=AX os (hg (fT (kW s a)) n);have v4:=ru os hs (hg (fT (kW s a)) n);have hL:=fun b N=>aka (b:=b) (N:=N) (hcap.imp (fun h=>⟨h.1,h.2.1⟩) fun h=>h.1) os hs vd (hg (fT (kW s a))) ho ⟨hcq,hiq⟩ (fun k hk h e=>hf _ (.inl rfl) k hk h e) n _ v4 ω;have vh:=Y6 os hs vd (hg (fT (kW s a))) n _ v4;have h5:=Ms okb okc (p:=s.p);have h6:=hf _ (.inr rfl) (n+1) ω;have h7:=ak7 (ME (x:=bN s a) (y:=fT (kW s a)) (p:=s.p)) (p:=s.p) (n:=n+1) ω;have eR:LJ s a g=cU (g (bN s a) ((n+1:Nat):Int)) (Ci (B4 (bN s a) (fT (kW s a)) s.p) (n+1) s.p) s.p:=by
  grind[LJ]
 have h8:R 71 [af (g (bN s a) ((n+1:Nat):Int)),af (Ci (B4 (bN s a) (fT (kW s a)) s.p) (n+1) s.p),I s.p] []=some (af (LJ s a g),[]):=by
  grind[vE,ap9,ME]
 obtain⟨qb,hqb⟩:=Ra os oa;obtain⟨qg,hqg⟩:=hgi n;have iR:∃q,In q (LJ s a g):=by
  rw[eR];exact⟨_,jI hqg (Y4 (AP hqb (jC m1 m2)))⟩
 have eO:F0 s a g=LH s (JB s (Y3 s a) (fT (kW s a)) g n (gU s (g (fT (kW s a)) n))) (LJ s a g):=by
  grind[F0]
 have vw:=ahr hs vh iR;rw[←eO]at vw;have h9:=ahe os vh.ok (r:=LJ s a g) (iR.elim fun _ h=>h.ok);rw[←eO]at h9;have h10:=hf _ (.inr rfl) 0 ω;have h11:=AX os (hg (bN s a) 0);have vk:=ru os hs (hg (bN s a) 0);obtain⟨w,h12,hw⟩:=aj9 os vw.ok vk.ok;have vw':=fun _:fk s=true=>vw;have vk':=fun _:fk s=true=>vk;clear eO eR vw vh vk v4 vc vd ha hqg hqb iR m1 m2 okc okb hgi hg hf he q2;have lL:=hL (bN s a) s.ord;clear hL;rw[hn]at lL;obtain⟨dom,ord,p⟩:=s;simp only at hn;subst hn;generalize bN ⟨dom,(n:Int),p⟩ a=b at*
 generalize kW ⟨dom,(n:Int),p⟩ a=cc at*
 generalize Y3 ⟨dom,(n:Int),p⟩ a=D at*
 generalize LJ ⟨dom,(n:Int),p⟩ a g=RR at*
 generalize F0 ⟨dom,(n:Int),p⟩ a g=OO at*
 simp only[aBV]at h10;simp only at hm h5 h7 h8 lL;generalize gU ⟨dom,(n:Int),p⟩ (fT cc)=c1 at*
 generalize g (fT cc) n=x1 at*
 generalize gU ⟨dom,(n:Int),p⟩ x1=c2 at*
 generalize gU ⟨dom,(n:Int),p⟩ (g b 0)=c3 at*
 generalize JB _ D (fT cc) g n c2=HH at*
 generalize B4 b (fT cc) p=e1 at*
 generalize Ci e1 (n+1) p=pw at*
 generalize g b ((n+1:Nat):Int)=x2 at*
 generalize g b 0=x3 at*
 generalize hLL:aD (ap R (aC false) eW)=L at lL;have hX:∀s h,ap R (aC false) (.loop [2,3,6,7,8,9,10,11,12] [3,6,7,8,9,11,1000,1001] eW) s h=L [2,3,6,7,8,9,10,11,12] [3,6,7,8,9,11,1000,1001] s h:=fun s h=>by rw[←hLL];rfl
 clear hLL;have w1:aS ((n:Int)-1)=(n:Int)-1:=by grind[i64_in]
 have w2:aS ((n:Int)+1)=((n+1:Nat):Int):=wi;simp only[fT,af,am,ae,aj]at hb hm hp h1 h2 h3 h4 h5 h6 h7 h8 h9 h10 h11 lL;rw[g0]at hm h5;simp only[g0]at h6 h10 lL;cases w with
 |false=>
  refine⟨OO,?_,vw',.inr ⟨rfl,hs,va,.inl ⟨rfl,hw rfl⟩⟩⟩;rcases hcap with⟨rfl,rfl,rfl⟩| ⟨rfl,rfl⟩
  ·refine rh aX.2.1 aX.2.2 (aX.1.2.2.2 false) rfl ?_;simp only[fW,jn,go_sem,hb,g0,hm,hp,h1,h2,hX,gA,hcl,hids];rw[h3 _ _ Z Z Z];simp only[go_sem,hcl,hids,F1,F3,gA,h4,w1,hX];generalize hBB:ao 0 [2,3,6,7,8,10,11] (L _ _ _ _)=X;obtain⟨hh,hE,k3,k6,k7,k8,k11,k0,kq,kd⟩:=lL _ _ _ hBB Z Z Z Z Z Z Z Z Z Z Z Z Z Z Z Z Z;rw[hE];simp only[go_sem,hcl,hids,gA,k3,k6,k7,k8,k11,k0,kd,ne_eq,not_false_eq_true,h5,w2];rw[h6 _ _ (by simp only[go_sem,k0]) (by simp only[go_sem,kq]) (by simp only[go_sem,kd,ne_eq,not_false_eq_true])];simp only[go_sem,hcl,hids,F1,F3,gA,k3,k6,k7,k8,k11,k0,kd,ne_eq,not_false_eq_true,w2,h7,h8,h9];rw[h10 _ _ (by simp only[go_sem,k0]) (by simp only[go_sem,kq]) (by simp only[go_sem,kd,ne_eq,not_false_eq_true])];simp only[go_sem,hcl,hids,F1,F3,gA,k3,k6,k7,k8,k11,k0,kd,ne_eq,not_false_eq_true,h11,h12];exact lP rfl (by simp only[go_sem,k0]) (hcl _) rfl (by simp only[go_sem,dC])
  ·refine aej false aX.2.1 aX.2.2 (aX.1.2.2.2 false) rfl ?_;simp only[fW,jn,go_sem,hb,g0,hm,hp,h1,h2,hX,gA,hcl,hcq,hids,hiq];rw[h3 _ _ Z Z Z];simp only[go_sem,hcl,hcq,hids,hiq,F4,F5,gA,h4,w1,hX];generalize hBB:ao 0 [2,3,6,7,8,10,11] (L _ _ _ _)=X;obtain⟨hh,hE,k3,k6,k7,k8,k11,k0,kq,kd⟩:=lL _ _ _ hBB Z Z Z Z Z Z Z Z Z Z Z Z Z Z Z Z Z;rw[hE];simp only[go_sem,hcl,hcq,hids,hiq,gA,k3,k6,k7,k8,k11,k0,kq,kd,ne_eq,not_false_eq_true,h5,w2];rw[h6 _ _ (by simp only[go_sem,k0]) (by simp only[go_sem,kq]) (by simp only[go_sem,kd,ne_eq,not_false_eq_true])];simp only[go_sem,hcl,hcq,hids,hiq,F4,F5,gA,k3,k6,k7,k8,k11,k0,kq,kd,ne_eq,not_false_eq_true,w2,h7,h8,h9];rw[h10 _ _ (by simp only[go_sem,k0]) (by simp only[go_sem,kq]) (by simp only[go_sem,kd,ne_eq,not_false_eq_true])];simp only[go_sem,hcl,hcq,hids,hiq,F4,F5,gA,k3,k6,k7,k8,k11,k0,kq,kd,ne_eq,not_false_eq_true,h11,h12];exact aek rfl (by simp only[go_sem,k0]) (by simp only[go_sem,kq]) (hcl _) (hcq _) rfl (by simp only[go_sem,dC])
 |true=>
  refine⟨c3,?_,vk',.inr ⟨rfl,hs,va,.inr rfl⟩⟩;rcases hcap with⟨rfl,rfl,rfl⟩| ⟨rfl,rfl⟩
  ·refine rh aX.2.1 aX.2.2 (aX.1.2.2.2 false) rfl ?_;simp only[fW,jn,go_sem,hb,g0,hm,hp,h1,h2,hX,gA,hcl,hids];rw[h3 _ _ Z Z Z];simp only[go_sem,hcl,hids,F1,F3,gA,h4,w1,hX];generalize hBB:ao 0 [2,3,6,7,8,10,11] (L _ _ _ _)=X;obtain⟨hh,hE,k3,k6,k7,k8,k11,k0,kq,kd⟩:=lL _ _ _ hBB Z Z Z Z Z Z Z Z Z Z Z Z Z Z Z Z Z;rw[hE];simp only[go_sem,hcl,hids,gA,k3,k6,k7,k8,k11,k0,kd,ne_eq,not_false_eq_true,h5,w2];rw[h6 _ _ (by simp only[go_sem,k0]) (by simp only[go_sem,kq]) (by simp only[go_sem,kd,ne_eq,not_false_eq_true])];simp only[go_sem,hcl,hids,F1,F3,gA,k3,k6,k7,k8,k11,k0,kd,ne_eq,not_false_eq_true,w2,h7,h8,h9];rw[h10 _ _ (by simp only[go_sem,k0]) (by simp only[go_sem,kq]) (by simp only[go_sem,kd,ne_eq,not_false_eq_true])];simp only[go_sem,hcl,hids,F1,F3,gA,k3,k6,k7,k8,k11,k0,kd,ne_eq,not_false_eq_true,h11,h12];exact lP rfl (by simp only[go_sem,k0]) (hcl _) rfl (by simp only[go_sem,dC])
  ·refine aej false aX.2.1 aX.2.2 (aX.1.2.2.2 false) rfl ?_;simp only[fW,jn,go_sem,hb,g0,hm,hp,h1,h2,hX,gA,hcl,hcq,hids,hiq];rw[h3 _ _ Z Z Z];simp only[go_sem,hcl,hcq,hids,hiq,F4,F5,gA,h4,w1,hX];generalize hBB:ao 0 [2,3,6,7,8,10,11] (L _ _ _ _)=X;obtain⟨hh,hE,k3,k6,k7,k8,k11,k0,kq,kd⟩:=lL _ _ _ hBB Z Z Z Z Z Z Z Z Z Z Z Z Z Z Z Z Z;rw[hE];simp only[go_sem,hcl,hcq,hids,hiq,gA,k3,k6,k7,k8,k11,k0,kq,kd,ne_eq,not_false_eq_true,h5,w2];rw[h6 _ _ (by simp only[go_sem,k0]) (by simp only[go_sem,kq]) (by simp only[go_sem,kd,ne_eq,not_false_eq_true])];simp only[go_sem,hcl,hcq,hids,hiq,F4,F5,gA,k3,k6,k7,k8,k11,k0,kq,kd,ne_eq,not_false_eq_true,w2,h7,h8,h9];rw[h10 _ _ (by simp only[go_sem,k0]) (by simp only[go_sem,kq]) (by simp only[go_sem,kd,ne_eq,not_false_eq_true])];simp only[go_sem,hcl,hcq,hids,hiq,F4,F5,gA,k3,k6,k7,k8,k11,k0,kq,kd,ne_eq,not_false_eq_true,h11,h12];exact aek rfl (by simp only[go_sem,k0]) (by simp only[go_sem,kq]) (hcl _) (hcq _) rfl (by simp only[go_sem,dC])
theorem ahs{s:Rs}{a:Rm}{f:FuncId}{g:Ri->Int->Ri}{o:Ob}(os:OkS s)(oa:OkM a)(ho:OC o)(hg:∀x k,OkI (g x k))(hgi:∀k:Nat,∃q,In q (g (bN s a) ((k+1:Nat):Int)))(hf:∀x,x=fT (kW s a)\/x=bN s a->∀ (k:Nat),k<=17->∀ (h:ah) (e:Nat),h 1000=o->h (2000+8*e)=.dead->bB R (aC false) h e [af x,I k] (.fn f [] [ac 1000])=some (af (g x k),h,[])):
  ∃m,R 37 [go s,cw a,.fn f [] [ac 1000]] [o]=some (cw m,[o])/\(fk s=true->VM s m)/\((bN s a).all=true/\m=cu s\/(bN s a).all=false/\fk s=true/\rm s a=true/\(m=F0 s a g/\(GU (bN s (gU s (g (bN s a) 0))) s.p=true->(bN s (F0 s a g)).all=false)\/m=gU s (g (bN s a) 0))):=
 anv (.inl ⟨rfl,rfl,rfl⟩) os oa ho ⟨fun _=>rfl,rfl⟩ hg hgi fun x hx k hk h e h0 _ h2=>hf x hx k hk h e h0 h2
noncomputable def akb (s:Rs) (a:Rm):Nat->Rm->Rm
 |0,o=>o
 |k+1,o=>akb s a k (rK s o a)
theorem akc{s}{a}{n}(os:OkS s)(hs:fk s=true)(ha:VM s a)(hn:n<=16):∀ (k i:Nat) out,i+k=n->VM s out->∀S h X,ao 0 [6,7] (aD (ap R (aC false) jE) [3,4,6,7,30,31] [3,4,6,7] S h)=X->
  S 3=ac 3->S 4=ac 4->S 6=ac 6->S 7=ac 7->S 30=I n->S 31=I i->h 3=.bx (tL s)->h 4=.bx (yy a)->h 6=.bx zM->h 7=.bx (yy out)->
  ∃hh,X=some (.normal,⟨upd (upd cr 7 (ac 7)) 6 (ac 6),hh⟩)/\hh 6=.bx zM/\hh 7=.bx (yy (akb s a k out)):=by
 intro k;induction k with
 |zero=>
  intro i out hi ho S h X hX k3 k4 k6 k7 k30 k31 h3 h4 h6 h7;have:i=n:=ω
  subst this;subst hX;rw[ai];refine⟨?hh0,?_,?_,?_⟩;rotate_left
  ·simp only[jE,go_sem,k3,k4,k6,k7,k30,k31,h3,h4,h6,h7,aCh];rfl
  all_goals rfl
 |succ k ih=>
  intro i out hi ho S h X hX k3 k4 k6 k7 k30 k31 h3 h4 h6 h7;have ih':=ih (i+1) (rK s out a) ω (LK os hs ho ha);have e1:(i< (n:Int))=True:=tt;have e3:aS (i+1)=(i+1:Nat):=wi;have m1:=Tv os ho.ok ha.ok;subst hX;rw[ai];simp only[jE,go_sem,k3,k4,k6,k7,k30,k31,h3,h4,h6,h7,e1,e3,m1];apply ih'<;>rfl
noncomputable def pwM (s:Rs) (a:Rm) (n:Int):Rm:=if(decide (0<=n)&& (decide (n<=16)&& (rm s a&&!a.R.all)))=true then akb s a n.toNat (gU s (gp 1))else cu s
theorem aht{s}{a}{n}(os:OkS s)(oa:OkM a):R 26 [go s,cw a,I n] []=some (cw (pwM s a n),[]):=by
 refine az N1 rfl ?_;have hw:=tN os;have hv:=GN os oa;unfold pwM;by_cases g1:n<0
 ·have f1:=tt g1;rw[decide_eq_false (p:=0<=n) ω,aBy,ax aBu];simp only[jl,mj,go_sem,f1,hw]
 have f1:=ff g1;rw[decide_eq_true (p:=0<=n) ω,aBt];by_cases g2:16<n
 ·have f2:=tt g2;rw[decide_eq_false (p:=n<=16) ω,aBy,ax aBu];simp only[jl,mj,go_sem,f1,f2,hw]
 have f2:=ff g2;rw[decide_eq_true (p:=n<=16) ω,aBt];cases g3:rm s a with
 |false=>
  rw[g3]at hv;simp only[jl,mj,go_sem,f1,f2,hw,hv]
 |true=>
 rw[g3]at hv;cases g4:a.R.all with
 |true=>
  simp only[cw,yy,g4]at hv;simp only[jl,mj,go_sem,f1,f2,hw,hv,g4]
 |false=>
 have hs:fk s=true:=by
  simp_all[rm,aBk]
 have h1:=JD (n:=1) ⟨by decide,by decide⟩;have o1:OkI (gp 1):=xr ⟨by decide,by decide⟩;have h2:=AX os o1;obtain⟨m,rfl⟩:=aCj (show 0<=n by omega);have hL:=akc os hs ⟨oa,g3⟩ (n:=m) ω m 0 _ (aBi _) (ru os hs o1);rw[aBr];generalize gU s (gp 1)=c at*
 generalize hLL:aD (ap R (aC false) jE)=L at hL;have hX:∀s h,ap R (aC false) (.loop [3,4,6,7,30,31] [3,4,6,7] jE) s h=L [3,4,6,7,30,31] [3,4,6,7] s h:=fun s h=>by rw[←hLL];rfl
 clear hLL;simp only[af,am]at h1 h2;simp only[cw,yy,g4]at hv;simp only[jl,mj,go_sem,f1,f2,hv,g4,h1,h2,hX];generalize hBB:ao 0 [6,7] (L _ _ _ _)=X;obtain⟨hh,hE,k6,k7⟩:=hL _ _ _ hBB Z Z Z Z Z Z Z (by simp only[go_sem,yy,g4]) Z Z;rw[hE];simp only[go_sem,k6,k7,dC]
def JE(p:Int):Nat->Nat->Ri->Ri
 |0,_,x=>x
 |n+1,i,x=>JE p n (i+1) (cU x (gp i) p)
def C3(k:Nat)(p:Int):Ri:=JE p (k-1) 2 (gp 1)
theorem ab8{p:Int}:∀ (n i:Nat) {x:Ri},OkI x->OkI (JE p n i x)
 |0,_,_,h=>h
 |n+1,i,x,_=>(ab8 n (i+1) qG:OkI (JE p n (i+1) (cU x (gp i) p)))
theorem JF{n:Nat}(h:n<=100):GD (n:Int):=⟨by omega,by omega⟩
theorem anw{k:Nat}:OkI (C3 k p):=ab8 _ _ (xr (JF (n:=1) ω))
theorem akd{k:Nat}{p:Int}(hk:k<=50):∀ (n i:Nat) (x:Ri),OkI x->i+n=k+1->2<=i->∀ (S:aN) (h:ah) (X:Option (Ex×St)),ao 0 [4,5] (aD (ap R (aC false) dF) [0,1,4,5,6] [4,5] S h)=X->
  S 0=I k->S 1=I p->S 4=ac 4->S 5=ac 5->S 6=I i->h 4=.bx [B false,.emp,I 0,B false,.emp,I 0,B false]->h 5=.bx (am x)->
  ∃hh,X=some (.normal,⟨upd (upd cr 5 (ac 5)) 4 (ac 4),hh⟩)/\hh 4=.bx [B false,.emp,I 0,B false,.emp,I 0,B false]/\hh 5=.bx (am (JE p n i x)):=by
 intro n;induction n with
 |zero=>
  intro i x ox hi h2 S h X hX k0 k1 k4 k5 k6 h4 h5;have e1:((i:Int)<=(k:Int))=False:=ff;subst hX;rw[ai];refine⟨?hh0,?_,?_,?_⟩;rotate_left
  ·simp only[dF,go_sem,k0,k1,k4,k5,k6,h4,h5,e1];rfl
  all_goals rfl
 |succ n ih=>
  intro i x ox hi h2 S h X hX k0 k1 k4 k5 k6 h4 h5;have ih':=ih (i+1) (cU x (gp i) p) qG ω ω;have e1:((i:Int)<=(k:Int))=True:=tt;have e3:aS ((i:Int)+1)=((i+1:Nat):Int):=wi;have q1:=JD (n:=i) (JF ω);have q2:=vE ox (xr (JF (n:=i) ω)) (p:=p);rw[show JE p (n+1) i x=JE p n (i+1) (cU x (gp i) p)from rfl];subst hX;rw[ai];generalize aD _ _ _=L at ih'⊢;generalize cU x (gp i) p=y at*
  generalize gp (i:Int)=z at*
  simp only[af,am]at q1 q2 h5 ih';simp only[dF,go_sem,k0,k1,k4,k5,k6,h4,h5,e1,e3,q1,q2];apply ih'<;>rfl
theorem anx{k:Nat}{p:Int}(hk:k<=50):R 41 [I k,I p] []=some (af (C3 k p),[]):=by
 refine az IZ rfl ?_;have h1:=JD (n:=1) ⟨by decide,by decide⟩;have o1:OkI (gp 1):=xr ⟨by decide,by decide⟩;have hL:∀ (S:aN) (h:ah) (X:Option (Ex×St)),ao 0 [4,5] (aD (ap R (aC false) dF) [0,1,4,5,6] [4,5] S h)=X->
   S 0=I k->S 1=I p->S 4=ac 4->S 5=ac 5->S 6=I 2->h 4=.bx [B false,.emp,I 0,B false,.emp,I 0,B false]->h 5=.bx (am (gp 1))->
   ∃hh,X=some (.normal,⟨upd (upd cr 5 (ac 5)) 4 (ac 4),hh⟩)/\hh 4=.bx [B false,.emp,I 0,B false,.emp,I 0,B false]/\hh 5=.bx (am (C3 k p)):=by
  by_cases g:1<=k
  ·exact akd hk (k-1) 2 _ o1 ω (aBh 2)
  ·intro S h X hX k0 k1 k4 k5 k6 h4 h5;have e0:k=0:=ω
   subst e0;have e1:((2:Int)<=((0:Nat):Int))=False:=ff;subst hX;rw[ai];refine⟨?hh0,?_,?_,?_⟩;rotate_left
   ·simp only[dF,go_sem,k0,k1,k4,k5,k6,h4,h5,e1];rfl
   all_goals rfl
 generalize hLL:aD (ap R (aC false) dF)=L at hL;have hX:∀s h,ap R (aC false) (.loop [0,1,4,5,6] [4,5] dF) s h=L [0,1,4,5,6] [4,5] s h:=fun s h=>by rw[←hLL];rfl
 clear hLL;generalize C3 k p=y at*
 generalize gp 1=x at*
 simp only[af,am]at h1 hL;simp only[sz,Bu,af,am,go_sem,h1,hX];generalize hBB:ao 0 [4,5] (L _ _ _ _)=X;obtain⟨hh,hE,k4,k5⟩:=hL _ _ _ hBB Z Z Z Z Z Z Z;rw[hE];simp only[go_sem,k4,k5]
theorem JG{x:Ri}:OkI (jY x y p):=by
 unfold jY;split
 ·split
  ·exact⟨aO.2,aO.2⟩
  ·exact afS (fun _ _=>EO.2) (fun _ _=>EO.2)
 ·exact⟨aO.2,aO.2⟩
theorem anz{s:Rs}{x:Ri}{k:Nat}(ox:OkI x)(oy:OkI y)(hk:k<=50)(he:R 40 [af x,I s.p] []=some (af y,[])):R 38 [af x,I k,ac 1000] [.bx (tL s)]=some (af (jY y (C3 k s.p) s.p),[.bx (tL s)]):=by
 refine B3 N4 N3 (Cc false) rfl ?_;have h1:=anx (p:=s.p) hk;have h2:=H8 oy anw (p:=s.p) (y:=C3 k s.p);generalize jY y (C3 k s.p) s.p=z at h2⊢;generalize C3 k s.p=w at h1 h2;simp only[af,am]at he h1 h2;simp only[yC,af,am,go_sem,he,h1,h2];exact lP Z Z Z Z (by simp only[go_sem])
def gJ(p:Int)(x:Ri)(k:Int):Ri:=if k.toNat%2=1 then D7 (jY (gp 1) (Ci x (k.toNat+1) p) p)else jY (gp 1) (Ci x (k.toNat+1) p) p
theorem Ty{x}(ok:OkI x){n}{p}:OkI (Ci x n p):=by
 grind[Ci,CN,qG]
theorem asy(p)(x)(k):OkI (gJ p x k):=by
 grind[gJ,abv,JG]
theorem anA{s}{x}{k:Nat}(ox:OkI x)(hk:k<=20):R 53 [af x,I k,ac 1000] [.bx (tL s)]=some (af (gJ s.p x k),[.bx (tL s)]):=by
 refine B3 I2 I1 (yt false) rfl ?_;have h1:=JD (n:=1) ⟨by decide,by decide⟩;have o1:OkI (gp 1):=xr ⟨by decide,by decide⟩;have h2:=ak7 ox (p:=s.p) (n:=k+1) ω;have h3:=H8 o1 (Ty ox (n:=k+1) (p:=s.p)) (p:=s.p);have w1:aS (k+1)=(k+1:Nat):=wi;have w2:(k:Int).tmod 2=(k%2:Nat):=by
  grind
 unfold gJ;rw[aBr];have od:OkI (jY (gp 1) (Ci x (k+1) s.p) s.p):=JG;have h4:=abw od;simp only[af,am]at h1 h2 h3 h4;by_cases g:k%2=1
 ·rw[aq g];have f:(((k%2:Nat):Int)=1)=True:=tt;simp only[ni,af,am,go_sem,aBo,aBn,aBm,iQ,w1,w2,h1,h2,h3,h4,f];exact lP Z Z Z Z (by simp only[go_sem])
 ·rw[ax g];have f:(((k%2:Nat):Int)=1)=False:=ff;simp only[ni,af,am,go_sem,aBo,aBn,aBm,iQ,w1,w2,h1,h2,h3,f];exact lP Z Z Z Z (by simp only[go_sem])
theorem UH{s}{a b m}(os:OkS s)(ob:OkM b)(om:OkM m)(h:R 19 [go s,cw a] []=some (cw m,[])):R 11 [go s,cw b,cw a] []=some (cw (if b.R.all=true then cu s else rK s b m),[]):=by
 refine az MZ rfl ?_;have h1:=tN os;have h2:=Tv os ob om;cases g:b.R.all with
 |true=>
  simp only[qQ,go_sem,aBo,aBn,aBm,iQ,h1,g,dC]
 |false=>
  simp only[cw,yy,g]at h2;simp only[qQ,go_sem,aBo,aBn,aBm,iQ,h,h2,g,dC]
def sI(d:Rd):Int:=cF d.neg (ab d.m)
theorem Rb(d):zI d=sI d*2^ (d.e+16384).toNat:=by
 rw[aeb];unfold sI mg cF;split
 ·rw[Int.neg_mul,Int.natCast_mul,Int.natCast_pow];rfl
 ·rw[Int.natCast_mul,Int.natCast_pow];rfl
def Tz(a b:Rd):Bool:=decide (-16384<=a.e)&&decide (-16384<=b.e)
def TA(a b:Rd)(p:Int)(up:Bool):Rd×Int:=if bh p [a,b]=0 then(if Tz a b=true then iL (sI a*sI b) (a.e+b.e) p up else iL (zI a*zI b) (-32768) p up)else(aG,bh p [a,b])
theorem TB{a b}{p}{up}:eA a b p up=TA a b p up:=by
 unfold eA TA;split
 ·split
  ·rename_i h;unfold Tz at h;simp only[aBk,decide_eq_true_eq]at h;rw[Rb a,Rb b];have e:sI a*2^ (a.e+16384).toNat*(sI b*2^ (b.e+16384).toNat)=sI a*sI b*2^ ((a.e+16384).toNat+(b.e+16384).toNat):=by
    rw[Int.pow_add];grind
   rw[e,DE];congr 1;omega
  ·rfl
 ·rfl
def aem(a b:Rd)(p:Int)(up:Bool):Rd×Int:=if bh p [a,b]=0 then(if Tz a b=true then iL (sI a*2^ (a.e-min a.e b.e).toNat+sI b*2^ (b.e-min a.e b.e).toNat) (min a.e b.e) p up else iL (zI a+zI b) (-16384) p up)else(aG,bh p [a,b])
theorem anB{a b}{p}{up}:dq a b p up=aem a b p up:=by
 unfold dq aem;split
 ·split
  ·rename_i h;unfold Tz at h;simp only[aBk,decide_eq_true_eq]at h;rw[Rb a,Rb b];have e1:(a.e+16384).toNat=(a.e-min a.e b.e).toNat+(min a.e b.e+16384).toNat:=ω
   have e2:(b.e+16384).toNat=(b.e-min a.e b.e).toNat+(min a.e b.e+16384).toNat:=ω
   rw[e1,e2,Int.pow_add,Int.pow_add,←Int.mul_assoc,←Int.mul_assoc,←Int.add_mul,DE];congr 1;omega
  ·rfl
 ·rfl
def ake(x y:Ri)(p:Int):Ri:=if(kI x&&kI y&&bE p)=true then H1 (sf (fun a b=>TA a b p false) (fun a b=>TA a b p true) (gM x y))else cG
theorem ab9{x y}{p}:cU x y p=ake x y p:=by
 unfold cU ake;simp only[TB]
def aen(x y:Ri)(p:Int):Ri:=if(kI x&&kI y&&bE p)=true then nC (aem x.lo y.lo p false) (aem x.hi y.hi p true)else cG
theorem TC{x y}{p}:dk x y p=aen x y p:=by
 unfold dk aen;simp only[anB]
def aeo(d:Rd)(p:Int)(up:Bool):Rd×Int:=if bh p [d]=0 then(if Tz d d=true then iL (sI d) d.e p up else iL (zI d) (-16384) p up)else(aG,bh p [d])
theorem anC{d}{p}{up}:cx d p up=aeo d p up:=by
 unfold cx aeo;split
 ·split
  ·rename_i h;unfold Tz at h;simp only[aBk,decide_eq_true_eq]at h;rw[Rb d,DE];congr 1;omega
  ·rfl
 ·rfl
def ahu(x:Ri)(p:Int):Ri:=if(bE p&&kI x)=true then nC (aeo x.lo p false) (aeo x.hi p true)else cG
theorem GV{x}{p}:tr x p=ahu x p:=by
 unfold tr ahu;simp only[anC]
theorem JH{n}(h:GD n):R 148 [I n] []=some (af (gp n),[]):=by
 refine az Oe rfl ?_;have h1:=DD h;have h2:=gR (ry h).2 (ry h).1;rw[show bu (decide (n<0)) n.natAbs 0=Eh n from rfl]at h1;unfold gp fT;generalize Eh n=d at h1 h2⊢;simp only[af,am,ae,aj]at h1 h2;simp only[yF,af,am,go_sem,h1,h2]
abbrev Rc(p:Int):AV:=.agg [I p]
theorem aca{x y}{p}(ox:OkI x)(oy:OkI y):R 172 [Rc p,af x,af y] []=some (af (dk x y p),[]):=by
 refine az I7 rfl ?_;have h:=te ox oy (p:=p);generalize dk x y p=z at h⊢;simp only[af,am]at h;simp only[sK,af,am,go_sem,h]
theorem anD{x y}{p}(ox:OkI x)(oy:OkI y):R 174 [Rc p,af x,af y] []=some (af (cU x y p),[]):=by
 refine az I8 rfl ?_;have h:=vE ox oy (p:=p);generalize cU x y p=z at h⊢;simp only[af,am]at h;simp only[sL,af,am,go_sem,h]
theorem anE{x y}{p}(ox:OkI x)(oy:OkI y):R 171 [Rc p,af x,af y] []=some (af (jY x y p),[]):=by
 refine az I6 rfl ?_;have h:=H8 ox oy (p:=p);generalize jY x y p=z at h⊢;simp only[af,am]at h;simp only[sJ,af,am,go_sem,h]
def smB(x:Ri)(p:Int):Bool:=decide (kj (vL x)=0)||decide (aW (vL x)≤-p)
theorem Y8{x}(ok:OkI x)(hx:kI x=true):vd (vL x)=true/\Ok0 (vL x):=by
 have h:vd x.lo=true/\vd x.hi=true:=by grind[kI,vi]
 have hv:VI x:=⟨⟨h.1,ok.lo⟩,⟨h.2,ok.hi⟩⟩;exact⟨(ak4 hv).1,OM (tj ok.lo) (tj ok.hi)⟩
theorem ahw{x}{p}(ok:OkI x)(hx:kI x=true)(hp:0<=p/\p<=1000):R 218 [Rc p,af x] []=some (B (smB x p),[]):=by
 refine az Hh rfl ?_;have h1:=X7 ok hx;obtain⟨m1,m2⟩:=Y8 ok hx;have h2:=Al m2 m1;have h3:=zA m2;have e1:aS (0-p)=-p:=by grind[i64_in]
 unfold smB;generalize vL x=d at*
 generalize aW d=t at*
 generalize kj d=g at*
 simp only[af,am,ae,aj]at h1 h2 h3;by_cases c1:g=0
 ·have f1:=tt c1;simp only[lM,af,am,go_sem,h1,h2,h3,f1,e1,decide_true,Bool.true_or]
 ·have f1:=ff c1;simp only[lM,af,am,go_sem,h1,h2,h3,f1,e1,decide_false,Bool.false_or]
def F6(x:Ri):Ri:=⟨fC (vL x),vL x,false⟩
theorem aai{x}(ok:OkI x)(hx:kI x=true):R 219 [af x] []=some (af (F6 x),[]):=by
 refine az M7 rfl ?_;have h1:=X7 ok hx;obtain⟨m1,m2⟩:=Y8 ok hx;have h2:=BX m2;unfold F6 fC;generalize vL x=d at*
 generalize(if vd d=false\/d.m.length=0 then aG else⟨!d.neg,d.m,d.e⟩)=n at*
 simp only[af,am,ae,aj]at h1 h2;simp only[wL,af,am,go_sem,h1,h2]
theorem aqa(n):OC (.bx [I n]):=⟨fun _=>rfl,rfl,fun _=>rfl,rfl⟩
def UI(y:Ri)(p:Int):Nat->Nat->Ri->Ri->Option (Ri×Ri)
 |0,_,_,_=>none
 |f+1,n,t,s=>if kI (jY (cU t y p) (gp n) p)=true then(if smB (jY (cU t y p) (gp n) p) p=true then some (jY (cU t y p) (gp n) p,dk s (jY (cU t y p) (gp n) p) p)else UI y p f (n+1) (jY (cU t y p) (gp n) p) (dk s (jY (cU t y p) (gp n) p) p))else none
theorem ahx{n:Nat}(h:n<=1000):GD n:=⟨by omega,by omega⟩
abbrev zC:List AV:=[B false,.emp,I 0,B false,.emp,I 0,B false]
theorem akf{y}{p}{r}(oy:OkI y)(hp:0<=p/\p<=1000):∀f n t s,OkI t->OkI s->n+f<=1000->UI y p f n t s=some r->∀S h X,ao 0 [2,4,5,6] (aD (ap R (aC false) ge) [2,3,4,5,6,7] [2,3,4,5,6] S h)=X->
  S 2=ac 2->S 3=ac 3->S 4=ac 4->S 5=ac 5->S 6=ac 6->S 7=I n->h 2=.bx [I p]->h 3=.bx (am y)->h 4=.bx zC->h 5=.bx (am t)->h 6=.bx (am s)->
  OkI r.1/\OkI r.2/\∃hh,X=some (.normal,⟨upd (upd (upd (upd cr 6 (ac 6)) 5 (ac 5)) 4 (ac 4)) 2 (ac 2),hh⟩)/\hh 2=.bx [I p]/\hh 4=.bx zC/\hh 5=.bx (am r.1)/\hh 6=.bx (am r.2)/\∀i,i≠2->i≠3->i≠4->i≠5->i≠6->hh i=.dead:=by
 intro f;induction f with
 |zero=>intro n t s _ _ _ h;cases h
 |succ f ih=>
  intro n t s ot os hn hx S h X hX k2 k3 k4 k5 k6 k7 h2 h3 h4 h5 h6;have on:=xr (ahx (n:=n) ω);have q1:=anD ot oy (p:=p);have q2:=JH (n:=n) (ahx ω);have q3:=anE (qG (x:=t) (y:=y) (p:=p)) on (p:=p);have od:OkI (jY (cU t y p) (gp n) p):=JG;have q4:=aca os od (p:=p);have oa:OkI (dk s (jY (cU t y p) (gp n) p) p):=yg;unfold UI at hx;generalize dk s (jY (cU t y p) (gp n) p) p=s1 at*
  generalize jY (cU t y p) (gp n) p=t1 at*
  generalize cU t y p=m1 at*
  generalize gp n=z at*
  cases c1:kI t1 with
  |false=>
   rw[c1,ax aBu]at hx;cases hx
  |true=>
  rw[c1,aq rfl]at hx;have q5:=ahw od c1 hp;have e3:aS (n+1)=(n+1:Nat):=wi;cases c2:smB t1 p with
  |true=>
   rw[c2,aq rfl]at hx;cases hx;rw[c2]at q5;subst hX;rw[ai];simp only[af,am]at q1 q2 q3 q4 q5 h3 h5 h6;refine⟨od,oa,?hh0,?_,?_,?_,?_,?_,?_⟩;rotate_left
   ·simp only[ge,go_sem,k2,k3,k4,k5,k6,k7,h2,h3,h4,h5,h6,q1,q2,q3,q4,q5];rfl
   all_goals first|rfl| (intro i b1 b2 b3 b4 b5;simp only[dv,b2,if_false, *];try (split<;>rfl))
  |false=>
   rw[c2,ax aBu]at hx;rw[c2]at q5;have ih':=ih (n+1) t1 s1 od oa ω hx;subst hX;rw[ai];generalize aD _ _ _=L at ih'⊢;simp only[af,am]at q1 q2 q3 q4 q5 h3 h5 h6 ih';simp only[ge,go_sem,k2,k3,k4,k5,k6,k7,h2,h3,h4,h5,h6,q1,q2,q3,q4,q5,e3];apply ih'<;>rfl
theorem anF{x}(ok:OkI x)(hx:kI x=true):OkI (F6 x):=by
 obtain⟨m1,m2⟩:=Y8 ok hx;unfold F6 fC;generalize vL x=d at*
 refine⟨?_,m2⟩;show Ok0 (if _ then _ else _);split
 ·exact aO.2
 ·exact⟨m2.lb,m2.len⟩
theorem ala{y}{p}{r}:∀f n t s,UI y p f n t s=some r->kI r.1=true
 |0,_,_,_,h=>by cases h
 |f+1,n,t,s,h=>by
  unfold UI at h;split at h
  ·rename_i hk;split at h
   ·cases h;exact hk
   ·exact ala f _ _ _ h
  ·cases h
theorem anG{y}{p}{f}{r}(oy:OkI y)(hp:0<=p/\p<=1000)(hf:f<=900)(hx:UI y p f 1 (gp 1) (gp 1)=some r):R 194 [Rc p,af y] []=some (af (dk r.2 (F6 r.1) p),[]):=by
 refine az I9 rfl ?_;have h1:=JH (n:=1) ⟨by decide,by decide⟩;have o1:OkI (gp 1):=xr ⟨by decide,by decide⟩;have hL:=akf oy hp f 1 _ _ o1 o1 ω hx;have hk:=ala _ _ _ _ hx;have hA:=fun h=>aai h hk;have hS:OkI r.1->OkI r.2->R 172 [Rc p,af r.2,af (F6 r.1)] []=some (af (dk r.2 (F6 r.1) p),[]):=fun h g=>aca g (anF h hk);generalize dk r.2 (F6 r.1) p=z at*
 generalize F6 r.1=a at*
 obtain⟨t,s⟩:=r;simp only at hA hS hL;clear hx hk;generalize gp 1=x1 at*
 generalize hLL:aD (ap R (aC false) ge)=L at hL;have hX:∀s h,ap R (aC false) (.loop [2,3,4,5,6,7] [2,3,4,5,6] ge) s h=L [2,3,4,5,6,7] [2,3,4,5,6] s h:=fun s h=>by rw[←hLL];rfl
 clear hLL;simp only[af,am]at h1 hL hA hS;simp only[sN,BE,af,am,go_sem,h1,hX];generalize hBB:ao 0 [2,4,5,6] (L _ _ _ _)=X;obtain⟨ot,os,hh,hE,k2,k4,k5,k6,kd⟩:=hL _ _ _ hBB Z Z Z Z Z Z Z Z Z Z Z;have hA:=hA ot;have hS:=hS ot os;rw[hE];simp only[go_sem,k2,k4,k5,k6,kd,ne_eq,not_false_eq_true,hA,hS]
def LL(x:Ri)(p:Int):Ri:=if(!(lK x).all&&bE p)=true then nC (eA (lK x).lo (lK x).lo p false) (eA (lK x).hi (lK x).hi p true)else cG
theorem aqb{x}(ox:OkI x){p}:R 195 [af x,I p] []=some (af (LL x p),[]):=by
 refine az M6 rfl ?_;have ha:=aaZ ox;have oa:=SN ox;have hp:=mV (p:=p);have hw:=gP;have hd:=Hk oa.lo oa.lo (p:=p);have hu:=La oa.hi oa.hi (p:=p);unfold LL;generalize lK x=y at*
 generalize eA y.lo y.lo p false=r at hd⊢;generalize eA y.hi y.hi p true=q at hu⊢;obtain⟨r1,r2⟩:=r;obtain⟨q1,q2⟩:=q;have hm:=EH (a:=r1) (b:=q1) (e:=r2) (f:=q2);simp only[af,am,rV,ae,aj]at ha hw hd hu hm;cases h1:y.all with
 |true=>
  rw[Bool.not_true,aBy,ax aBu];simp only[mP,af,am,go_sem,ha,h1,hw]
 |false=>
  rw[Bool.not_false,aBt];rw[h1]at ha;cases h2:bE p with
  |false=>
   rw[h2]at hp;rw[ax aBu];simp only[mP,af,am,go_sem,ha,hp,hw]
  |true=>
   rw[h2]at hp;rw[aq rfl];simp only[mP,af,am,go_sem,ha,hp,hw,hd,hu,hm]
theorem ahy{s}:vd (FY s).1=true/\Ok0 (FY s).1:=yj
def Re(x:Ri):Ri:=if kI x=true then nC (FY x.lo) (FY x.hi)else cG
theorem aqc{x}:OkI (Re x):=by
 unfold Re;split
 ·exact FK ahy.2 ahy.2
 ·exact CR.ok'
theorem akg{x}(ox:OkI x):R 75 [af x,I (-1)] []=some (af (Re x),[]):=by
 refine az N7 rfl ?_;have hk:=pg ox;have hw:=gP;unfold Re;cases h1:kI x with
 |false=>
  rw[h1]at hk;simp only[rR,af,am,cG,aG,go_sem,hk,hw,aCa]
 |true=>
  rw[h1]at hk;obtain⟨_,v1,v2⟩:=Jz h1;have hl:=O5 ox.lo v1;have hh:=O5 ox.hi v2;generalize FY x.lo=r at*
  generalize FY x.hi=q at*
  obtain⟨r1,r2⟩:=r;obtain⟨q1,q2⟩:=q;have hm:=EH (a:=r1) (b:=q1) (e:=r2) (f:=q2);simp only[af,am,rV,ae,aj]at hk hw hl hh hm;simp only[rR,af,am,go_sem,hk,hl,hh,hm]
theorem aqd{x}{p}:OkI (LL x p):=by
 unfold LL;split
 ·grind[FK,CK]
 ·exact CR.ok'
theorem UJ{x}{p}:OkI (tr x p):=by
 unfold tr;split
 ·grind[FK,CL]
 ·exact CR.ok'
def aep(e:Int->Ri->Option Ri):Prop:=∀p y z,0<=p/\p<=1000->OkI y->e p y=some z->R 194 [Rc p,af y] []=some (af z,[])/\OkI z
def Y9(e:Int->Ri->Option Ri)(p:Int):Nat->Ri->Option Ri
 |0,y=>e p y
 |n+1,y=>(Y9 e p n (Re y)).map fun z=>LL z p
theorem Rf{e}(he:aep e){p}(hp:0<=p/\p<=1000):∀n {y z},n<=100->OkI y->Y9 e p n y=some z->R 152 [Rc p,af y,I n] []=some (af z,[])/\OkI z
 |0,y,z,_,oy,h=>by
  obtain⟨hx,oz⟩:=he p y z hp oy h;refine⟨az yv rfl ?_,oz⟩;simp only[af,am]at hx;simp only[kJ,af,am,go_sem,hx,show decide (((0:Nat):Int)=0)=true from rfl]
 |n+1,y,z,hn,oy,h=>by
  unfold Y9 at h;rw[aBj]at h;obtain⟨r,h1,rfl⟩:=h;obtain⟨g1,g2⟩:=Rf he hp n ω aqc h1;have g3:=aqb g2 (p:=p);have g4:=akg oy;have e1:aS ((n+1:Nat)-1)=n:=wi;have e2:(((n+1:Nat):Int)=0)=False:=ff;refine⟨az yv rfl ?_,aqd⟩;simp only[af,am]at g1 g3 g4;simp only[kJ,af,am,go_sem,g1,g3,g4,e1,e2]
def Za(d:Rd):Bool:=decide (gy (zI (nP d)) (zI (Eh 1000))<=0)
theorem acb{d}(ok:Ok0 d)(v:vd d=true):R 96 [ae d] []=some (B (Za d),[]):=by
 refine az Kd rfl ?_;have h1:=K5 ok;have hn:GD 1000:=⟨by omega,by omega⟩;have h2:=DD hn;rw[show bu (decide ((1000:Int)<0)) (Int.natAbs 1000) 0=Eh 1000 from rfl]at h2;have h3:=pF (a:=nP d) (b:=Eh 1000) (tj ok) (ry hn).2;rw[aq ⟨(alY v).2,(ry hn).1⟩]at h3;rw[show(if vd d=false\/d.m.length=0 then aG else⟨false,d.m,d.e⟩)=nP d from rfl]at h1;unfold Za;simp only[ae,aj]at h1 h2 h3;simp only[ui,ae,aj,go_sem,h1,h2,h3]
theorem ahz{x}{p}(ok:OkI x)(hk:kI x=true)(hp:bE p=true):R 95 [af x,I p] []=some (B true,[]):=by
 refine az P7 rfl ?_;have h1:=pf ok;unfold kI at hk;simp only[aBk,aCi]at hk;rw[hk.2]at h1;have hp2:=vo hp;have e1:=tt hp2.1;have e2:=tt hp2.2;simp only[af,am,hk.1]at h1;simp only[zY,af,am,go_sem,h1,hk.1,e1,e2]
theorem akh{p q}(hp:0<=p/\p<=1000)(hq:0<=q/\q<=1000):R 150 [I p,I q] []=some (Rc (if 512<p+q then 512 else p+q),[]):=by
 refine az Of rfl ?_;have e1:aS (p+q)=p+q:=by grind[i64_in]
 simp only[yG,go_sem,e1]
def Rg(a b:Ri):Ri:=if(a.all||b.all)=true then cG else⟨a.lo,b.hi,false⟩
theorem anH{a b}:R 97 [af a,af b] []=some (af (Rg a b),[]):=by
 refine az P8 rfl ?_;have hw:=gP;unfold Rg;cases h1:a.all<;>cases h2:b.all<;>simp only[zZ,af,am,cG,aG,go_sem,h1,h2,hw,Bool.or_true,Bool.or_false,aCa]
def Ik(d:Rd):Nat:=(if aW d+1<0 then 0 else aW d+1).toNat
def J7(d:Rd)(p:Int):Int:=if 512<p+(Ik d+24)then 512 else p+(Ik d+24)
def UK(e:Int->Ri->Option Ri)(d:Rd)(p:Int):Option Ri:=if kj d=0 then some (gp 1)else(Y9 e (J7 d p) (Ik d) (tr (fT d) (J7 d p))).map fun z=>tr z p
theorem Zb{e}(he:aep e){d}{p}{z}(ok:Ok0 d)(v:vd d=true)(hp:bE p=true)(ht:aW d<=50)(h:UK e d p=some z):R 98 [ae d,I p] []=some (af z,[])/\OkI z:=by
 have h1:=Al ok v;have o1:OkI (gp 1):=xr ⟨by decide,by decide⟩;have hp2:=vo hp;unfold UK at h;by_cases g:kj d=0
 ·rw[aq g]at h;have hz:=(Option.some.inj h).symm;have h2:=JH (n:=1) ⟨by decide,by decide⟩;rw[←hz]at h2 o1;have f:=tt g;refine⟨az Fy rfl ?_,o1⟩;simp only[af,am,ae,aj]at h1 h2;simp only[rT,af,am,ae,aj,go_sem,h1,h2,f]
 ·rw[ax g,aBj]at h;obtain⟨y,hy,rfl⟩:=h;have f:=ff g;have h3:=zA ok;have h4:=gR ok v;have hN:(if aW d+1<0 then 0 else aW d+1)=(Ik d:Nat):=by
   grind[Ik]
  have tb:-100000<=aW d:=by
   unfold aW;split
   ·omega
   ·have:=(fA v ok.lb).2.1;omega
  have e1:aS (aW d+1)=aW d+1:=by grind[i64_in]
  have e2:aS ((Ik d)+24)=(Ik d)+24:=by grind[i64_in]
  have h5:=akh (p:=p) (q:=(Ik d)+24) ⟨by omega,by omega⟩ ⟨by omega,by omega⟩;rw[show(if 512<p+((Ik d)+24)then 512 else p+((Ik d)+24))=J7 d p from rfl]at h5;have hP:0<=J7 d p/\J7 d p<=1000:=by
   grind[J7]
  have okp:OkI ⟨d,d,false⟩:=⟨ok,ok⟩;have h6:=Ut okp (p:=J7 d p);have okr:OkI (tr (fT d) (J7 d p)):=UJ;obtain⟨h7,oy⟩:=Rf he hP (Ik d) ω okr hy;have h8:=Ut oy (p:=p);refine⟨az Fy rfl ?_,UJ⟩;simp only[fT]at h7;simp only[af,am,ae,aj]at h1 h3 h4 h5 h6 h7 h8;simp only[rT,af,am,ae,aj,go_sem,h1,h3,h4,h5,h6,h7,h8,f,e1,e2,hN]
theorem Zc{e}(he:aep e){x a b}{p}(ok:OkI x)(hk:kI x=true)(hp:bE p=true)(m1:Za x.lo=true)(m2:Za x.hi=true)(t1:aW x.lo<=50)(t2:aW x.hi<=50)(h1:UK e x.lo p=some a)(h2:UK e x.hi p=some b):R 40 [af x,I p] []=some (af (Rg a b),[]):=by
 obtain⟨_,v1,v2⟩:=Jz hk;have g1:=ahz ok hk hp;have g2:=acb ok.lo v1;have g3:=acb ok.hi v2;obtain⟨g4,oa⟩:=Zb he ok.lo v1 hp t1 h1;obtain⟨g5,ob⟩:=Zb he ok.hi v2 hp t2 h2;have g6:=anH (a:=a) (b:=b);rw[m1]at g2;rw[m2]at g3;refine az Sa rfl ?_;simp only[af,am,ae,aj]at g1 g2 g3 g4 g5 g6;simp only[Bs,af,am,go_sem,g1,g2,g3,g4,g5,g6]
theorem ahA{M j n T:Nat}{w}(h0:M≠0)(hn:8<=n/\n<=512)(hT:T<32768)(h:M<=2^ (T+j)):
  (cO M (-16384-j) false n w).2=0/\0<=zI (cO M (-16384-j) false n w).1/\zI (cO M (-16384-j) false n w).1<=(2^T:Nat):=by
 have hd:dR M n j<=T+j:=by
  have:=bT.2 (aBU h (Nat.pow_lt_pow_right δ (Nat.lt_succ_self _)));grind[dR]
 have h1:rq w M (dR M n j)*2^dR M n j<=2^ (T+j):=by
  refine aBq (aBv _ (abQ h)) ?_;rw[apP hd,←aBx];grind
 obtain⟨c1,c2⟩:=(abR (w:=w) (j:=j) h0 hn).1 (aBU h1 (Nat.pow_lt_pow_right δ ω));have c3:=ag0 (w:=w) (j:=j) h0 hn c1;refine⟨c1,c3,?_⟩;have h2:zI (cO M (-16384-j) false n w).1*(2^j:Nat)<=(2^T:Nat)*(2^j:Nat):=by
  grind
 exact Int.le_of_mul_le_mul_right h2 (Int.ofNat_lt.2 (aBA j))
theorem aqe{z}{j n T:Nat}{up}(hn:8<=n/\n<=512)(hT:T<32768)(h:z.natAbs<=2^ (T+j)):
  (iL z (-16384-j) n up).2=0/\(zI (iL z (-16384-j) n up).1).natAbs<=2^T:=by
 rcases Int.lt_trichotomy z 0 with a|rfl|a
 ·rw[abS a];obtain⟨s1,s2⟩:=ag1 (M:=z.natAbs) (f:=-16384-j) (p:=n) (w:=!up);obtain⟨b1,b2,b3⟩:=ahA (w:=!up) (show z.natAbs≠0 by omega) hn hT h;omega
 ·simp_all[ak0,cT,aG,aBB]
 ·rw[abT a];obtain⟨b1,b2,b3⟩:=ahA (w:=up) (show z.natAbs≠0 by omega) hn hT h;omega
theorem anI{a b}{p}{T U V}{up}(va:vd a=true)(vb:vd b=true)(hp:bE p=true)(e:T+U=V+16384)(hV:V<32768)(ha:(zI a).natAbs<=2^T)(hb:(zI b).natAbs<=2^U):(eA a b p up).2=0/\(zI (eA a b p up).1).natAbs<=2^V:=by
 obtain⟨f1,n,rfl,hn⟩:=YS va vb hp;unfold eA;rw[aq f1];refine aqe (j:=16384) hn hV ?_;rw[Int.natAbs_mul,←e,aBx];exact Nat.mul_le_mul ha hb
def Mq(T:Nat)(x:Ri):Prop:=kI x=true->(zI x.lo).natAbs<=2^T/\(zI x.hi).natAbs<=2^T
theorem alb{x}(ok:OkI x)(h:kI x=true):VI x:=by
 obtain⟨_,v1,v2⟩:=Jz h;exact⟨⟨v1,ok.lo⟩,⟨v2,ok.hi⟩⟩
theorem Mq.mul{x y}{p}{T U V}(ox:OkI x)(oy:OkI y)(e:T+U=V+16384)(hV:V<32768)(hx:Mq T x)(hy:Mq U y):Mq V (cU x y p):=by
 intro hk;cases hc:(kI x&&kI y&&bE p)with
 |false=>
  unfold cU at hk;rw[hc,ax aBu]at hk;cases hk
 |true=>
 have hc2:=hc;simp only[aBk]at hc2;obtain⟨⟨kx,ky⟩,hp⟩:=hc2;obtain⟨x1,x2⟩:=hx kx;obtain⟨y1,y2⟩:=hy ky;have lx:∀i,(zI (gM x y i).1).natAbs<=2^T:=fun i=>by unfold gM;grind
 have ly:∀i,(zI (gM x y i).2).natAbs<=2^U:=fun i=>by unfold gM;grind
 have key:∀i up,(eA (gM x y i).1 (gM x y i).2 p up).2=0/\(zI (eA (gM x y i).1 (gM x y i).2 p up).1).natAbs<=2^V:=fun i up=>by
  obtain⟨v1,v2⟩:=ak2 (alb ox kx) (alb oy ky) i;exact anI v1 v2 hp e hV (lx i) (ly i)
 obtain⟨t,t0,_,⟨j,_,t1⟩,j',_,t2⟩:=Q3 (dn:=fun a b=>eA a b p false) (up:=fun a b=>eA a b p true) (pr:=gM x y) (fun a b=>FS.1) (fun a b=>FS.1) fun i _=>⟨(key i false).1,(key i true).1⟩;have e:cU x y p=⟨t.1,t.2,false⟩:=by
  unfold cU;rw[hc,aq rfl,t0];rfl
 grind
theorem alc{x:Ri}(ok:OkI x)(h:kI x=true):∃q,In q x:=EB ok (by
 unfold kI at h;exact(Bool.and_eq_true_iff.1 h).2)
theorem ahB{x:Ri}{p:Int}(ox:OkI x)(oy:OkI y):∃q,In q (jY x y p):=by
 cases h:(kI x&&kI y&&bE p)with
 |false=>
  refine⟨0,.inl ?_⟩;unfold jY;rw[h,ax aBu]
 |true=>
  simp only[aBk]at h;obtain⟨q,hq⟩:=alc ox h.1.1;obtain⟨r,hr⟩:=alc oy h.1.2;exact⟨_,If hq hr⟩
theorem aqf{x:Ri}(h:∃q,In q x):∃q,In q (D7 x):=h.elim fun _ h=>⟨_,Td h⟩
theorem aaj{s:Rs}{a:Rm}(os:OkS s)(oa:OkM a):R 68 [go s,cw a] []=some (B (!(bN s a).all&&decide (J2 (bN s a)=1)),[]):=by
 refine az Kc rfl ?_;have h1:=tM os oa;have okb:=yp (s:=s) (a:=a);have kB:=fun h=>FJ (x:=bN s a) okb h;have hx:=Ra os oa;cases hB:(bN s a).all with
 |true=>
  simp only[af,am,hB]at h1;simp only[oL,go_sem,aBo,aBn,aBm,iQ,h1,Bool.not_true,aBy]
 |false=>
  have h2:=kB (VU hx hB);simp only[af,am,hB]at h1 h2;simp only[oL,go_sem,aBo,aBn,aBm,iQ,h1,h2,Bool.not_false,aBt]
theorem awC{s:Rs}{a:Rm}{f:FuncId}{g:Ri->Int->Ri}(hm:(aC false).m f=[])(hk:(aC false).keep f=true)(hn:∀x (k:Int),bv ((aC false).sh f) ([af x,I k]++[ac 1000])=[af x,I k]++[ac 1000])
  (hR:∀x,OkI x->∀k:Nat,k<=17->R f [af x,I k,ac 1000] [.bx (tL s)]=some (af (g x k),[.bx (tL s)])):
  ∀x,x=fT (kW s a)\/x=bN s a->∀ (k:Nat),k<=17->∀ (h:ah) (e:Nat),h 1000=.bx (tL s)->h (2000+8*e)=.dead->bB R (aC false) h e [af x,I k] (.fn f [] [ac 1000])=some (af (g x k),h,[]):=by
 intro x hx k hk' h e h0 hd;have ox:OkI x:=by
  rcases hx with rfl|rfl
  ·exact⟨(ym yp).2,(ym yp).2⟩
  ·exact yp
 have hh:=Lq (f:=f) (h:=h) (d:=e) (id:=1000) (zas:=[af x,I k]) (as':=[af x,I k]) hm hk (hn x k) Z Z h0 (nE s) (nE s) (fun h=>h) (hR x ox k hk') (VR _) (aBI rfl) (by
  show cj h (2000+8*e) 1=true;grind[cj,bX])
 grind[Q8]
structure MM (m:Rm):Prop where
 ok:OkM m
 l:m.P.terms.length<=100000
 t:∀t∈m.P.terms,t.exps.length<=100000/\t.c.m.length<=100000
 q:m.R.lo.m.length<=100000/\m.R.hi.m.length<=100000
theorem TD{s:Rs}:MM (cu s):=⟨Pa,aBB _,(fun _ h=>nomatch h),aBB _,aBB _⟩
theorem aqg{x:Ri}(o:OkI x)(h:vi x=true):x.lo.m.length<=100000/\x.hi.m.length<=100000:=by
 unfold vi at h;split at h
 ·simp only[z0,aBk,decide_eq_true_eq]at h;omega
 ·simp only[aBk]at h;exact⟨aBq (wZ h.1 o.1.lb) δ,aBq (wZ h.2.1 o.2.lb) δ⟩
theorem VM.mm{s:Rs}{m:Rm}(h:VM s m):MM m:=by
 obtain⟨a1,a2,_,a4⟩:=gB h.ok h.v;obtain⟨c,_,_,n⟩:=gj a1 a2;refine⟨h.ok,by omega,fun t ht=>?_,aqg h.ok.r a4⟩;have k:=c.t t ht;exact⟨by have:=k.len;omega,aBq (wZ k.vc k.c.lb) δ⟩
def Tot(f:FuncId)(s:Rs)(a:Rm):Prop:=∃m,R f [go s,cw a] []=some (cw m,[])/\MM m/\((bN s a).all=true->m=cu s)
theorem aqh{s:Rs}{a m:Rm}{P:Prop}(hv:fk s=true->VM s m)(h:(bN s a).all=true/\m=cu s\/(bN s a).all=false/\fk s=true/\P):MM m/\((bN s a).all=true->m=cu s):=by
 rcases h with⟨_,rfl⟩| ⟨hb,hs,_⟩
 ·grind[TD]
 ·refine⟨(hv hs).mm,fun h=>?_⟩;grind
theorem Zd{s:Rs}{a m:Rm}{f:FuncId}(g1:R 37 [go s,cw a,.fn f [] [ac 1000]] [.bx (tL s)]=some (cw m,[.bx (tL s)]))(h:ah)(d:Nat)(hh:h 2=.bx (tL s))(hf:h (2000+8*d)=.dead):
  bB R (aC false) h d ([go s,cw a]++[.fn f [] [ac 2]]) (.fn 37 [] [])=some (cw m,upd h 2 (.bx (tL s)),[(2,true)]):=
 Ar (f:=37) (g:=f) (h:=h) (d:=d) (id:=2) (zas:=[go s,cw a]) (as':=[go s,cw a]) (aX.1.2.1 false) (aX.1.2.2.2 false)
  (by simp only[go_sem,dC,aBF,aBw]) Z Z hh (nE _) (nE _) (fun h=>h) g1 (ael _) (aBI rfl) (by show cj h (2000+8*d) 1=true;grind[cj,bX])
theorem anJ{s:Rs}{a:Rm}(os:OkS s)(oa:OkM a):Tot 19 s a:=by
 have h1:=tM os oa;have okb:=yp (s:=s) (a:=a);have h3:=tN os;have kB:=fun h=>FJ (x:=bN s a) okb h;have hx:=Ra os oa;cases hB:(bN s a).all with
 |true=>
  refine⟨cu s,az mT rfl ?_,TD,fun _=>rfl⟩;simp only[af,am,hB]at h1;simp only[gO,go_sem,aBo,aBn,aBm,iQ,h1,h3,dC]
 |false=>
 have h2:=kB (VU hx hB);by_cases hg:J2 (bN s a)=0
 ·refine⟨cu s,az mT rfl ?_,TD,fun _=>rfl⟩;rw[hg]at h2;simp only[af,am,hB]at h1 h2;simp only[gO,go_sem,aBo,aBn,aBm,iQ,h1,h2,h3,dC]
 have i1:GD 1:=⟨by omega,by omega⟩;have hc:=awC (s:=s) (a:=a) (f:=53) (g:=gJ s.p) (BP false) (yt false) (fun x k=>by simp only[af,am,go_sem,aBF,aBw]) fun x ox k hk=>anA ox ω;obtain⟨m,g1,g2,g3⟩:=ahs os oa (nE s) (g:=gJ s.p) (asy s.p) (fun k=>by
  unfold gJ;split
  ·exact aqf (ahB (xr i1) (Ty okb))
  simp_all[ahB,xr,Ty]) hc
 obtain⟨q1,q2⟩:=aqh g2 g3;refine⟨m,az mT rfl ?_,q1,fun h=>by grind⟩;have hcc:=Zd g1;simp only[aBF,aBw,go_sem]at hcc;have f2:=eq_false hg;simp only[af,am,hB]at h1 h2;simp only[gO,go_sem,aBo,aBn,aBm,iQ,h1,h2,f2];rw[hcc _ _ Z Z];simp only[go_sem,aBo,aBn,aBm,iQ]
abbrev aeq:=List (Nat×List AV×AV)
def Ze:aeq->FuncId->List AV->Option AV
 |[],_,_=>none
 |x::l,f,args=>if x.1=f then(if B8 x.2.1 args=true then some x.2.2 else Ze l f args)else Ze l f args
def acd(a:Option AV)(hs:List Ob)(b:Option (AV×List Ob)):Option (AV×List Ob):=match a,hs with
 |some r,[]=>some (r,[])
 |_,_=>b
abbrev Lk:=FuncId->List AV->Option AV
def TE(e:Env)(T:Lk):Nat->jJ
 |0=>fun _ _ _=>none
 |n+1=>fun f args hs=>acd (T f args) hs (match e.E f with
  |some g=>g args hs
  |none=>(e.C f).bind fun fd=>Kl (TE e T n) {e.md with nm:=e.md.keep f} n fd args hs)
def awD(e:Env)(T:Lk):Prop:=∀f args r,T f args=some r->jj e f args []=some (r,[])
theorem TF{e:Env}:∀ {T:aeq} {f:FuncId} {args:List AV} {r:AV},(∀x∈T,jj e x.1 x.2.1 []=some (x.2.2,[]))->Ze T f args=some r->jj e f args []=some (r,[])
 |[],f,args,r,_,h=>by cases h
 |x::l,f,args,r,ht,h=>by
  unfold Ze at h;split at h
  ·rename_i h1;split at h
   ·rename_i h2;cases h;have:=ht x σ;rw[h1,Bj h2]at this;exact this
   ·exact TF (fun y hy=>ht y (by simp[hy])) h
  ·exact TF (fun y hy=>ht y (by simp[hy])) h
theorem vA{call:jJ}{md:Mode}{lf:Nat}:∀ (c:Cmd) {s:aN} {h:ah} {r:Ex×St},cZ call md lf c s h=some r->ap call md c s h=some r
 | .skip,s,h,r,hz=>hz
 | .ops ks l,s,h,r,hz=>hz
 | .dops ks l ps,s,h,r,hz=>hz
 | .seq a b,s,h,r,hz=>by
  simp only[cZ,dD]at hz;split at hz
  ·cases hz
  ·rename_i t1 ht1;simp only[ap,dD,vA a ht1,vA b hz]
  ·rename_i i t1 ht1;simp only[ap,dD,vA a ht1];exact hz
  ·rename_i t1 ht1;simp only[ap,dD,vA a ht1];exact hz
 | .cond c a b,s,h,r,hz=>by
  simp only[cZ,tW]at hz;split at hz
  ·rename_i t ht;cases t with
   |true=>simp only[ap,tW,ht,if_true];exact vA a hz
   |false=>simp only[ap,tW,ht,aCa,if_false];exact vA b hz
  ·cases hz
 | .block id ks a,s,h,r,hz=>by
  simp only[cZ,ao]at hz;split at hz
  ·cases hz
  ·rename_i t1 ht1;simp only[ap,ao,vA a ht1];exact hz
  ·rename_i i t1 ht1;simp only[ap,ao,vA a ht1];exact hz
  ·rename_i t1 ht1;simp only[ap,ao,vA a ht1];exact hz
 | .loop ks hs a,s,h,r,hz=>by
  simp only[cZ]at hz;simp only[ap,aD];rw[rB];exact⟨lf,fun k hk=>LA (fun hh=>vA a hh) lf hk hz⟩
 | .exit id,s,h,r,hz=>hz
 | .ret,s,h,r,hz=>hz
 | .frz is a,s,h,r,hz=>by
  simp only[cZ,bA]at hz;split at hz
  ·cases hz
  ·rename_i t1 ht1;simp only[ap,bA,ht1];exact vA a hz
theorem ace{e:Env}{T:Lk}(ht:awD e T):∀n,J5 (TE e T n) (jj e)
 |0=>fun f a hs r hz=>by cases hz
 |n+1=>fun f a hs r hz=>by
  have old:(match e.E f with|some g=>g a hs|none=>(e.C f).bind fun fd=>Kl (TE e T n) {e.md with nm:=e.md.keep f} n fd a hs)=some r->jj e f a hs=some r:=by
   intro hz;split at hz
   ·rename_i g hE;rw[Fb hE];exact hz
   ·rename_i hE;simp only[aBf]at hz;obtain⟨fd,hC,hz⟩:=hz;refine KJ hE hC ?_;unfold Kl at hz;unfold WQ;split at hz
    ·rename_i hcc;rw[aq hcc];cases hx:cZ (TE e T n) {e.md with nm:=e.md.keep f} n fd.body (vH a) (au hs)with
     |none=>rw[hx]at hz;cases hz
     |some q=>
      rw[hx]at hz;rw[vA fd.body (lG (ace ht n) (aBh n) fd.body hx)];exact hz
    ·cases hz
  unfold TE at hz;unfold acd at hz;split at hz
  ·rename_i r' hl;cases hz;exact ht _ _ _ hl
  ·exact old hz
theorem aki{e:Env}:∀x∈ ([]:aeq),jj e x.1 x.2.1 []=some (x.2.2,[]):=fun _ h=>by cases h
theorem awE{e:Env}(T:aeq)(n:Nat)(x:Nat×List AV×AV)(ht:∀x∈T,jj e x.1 x.2.1 []=some (x.2.2,[]))(h:TE e (Ze T) n x.1 x.2.1 []=some (x.2.2,[])):jj e x.1 x.2.1 []=some (x.2.2,[]):=ace (fun _ _ _ h=>TF ht h) n _ _ _ _ h
def s2:Rs:=⟨[cA,cA],2,53⟩
theorem awF:KK=(2^ (16384+0):Nat):=by
 have h:=Mn (a:=one) (b:=one) (by rw[Q7]);rw[Q7]at h;have h1:zI one=(2^ (16384+0):Nat):=Jy (n:=false) (k:=0);grind[Int.eq_of_mul_eq_mul_left]
def LM(B:Nat)(z:Int):Prop:=∃n,z=n*KK/\n.natAbs<=B
theorem LM.up{B C}{z}(h:LM B z)(hc:B<=C):LM C z:=h.imp fun _ h=>⟨h.1,aBq h.2 hc⟩
def Wt:List Rt->Nat->Prop
 |[],_=>True
 |t::l,B=>∃n C,LM n (zI t.c)/\Wt l C/\n+C<=B
theorem Wt.up:∀ {l} {B C},Wt l B->B<=C->Wt l C
 |[],_,_,_,_=>trivial
 |_::_,_,_,⟨n,D,h1,h2,h3⟩,h=>⟨n,D,h1,h2,by omega⟩
theorem Wt.mem:∀ {l} {B},Wt l B->∀t∈l,LM B (zI t.c)
 |t::l,B,⟨n,D,h1,h2,h3⟩,y,hy=>by
  rcases List.mem_cons.1 hy with rfl|hy
  ·exact h1.up ω
  ·exact(h2.mem y hy).up ω
theorem Wt.app:∀ {l r} {B C},Wt l B->Wt r C->Wt (l++r) (B+C)
 |[],r,B,C,_,h=>h.up ω
 |t::l,r,B,C,⟨n,D,h1,h2,h3⟩,h=>⟨n,D+C,h1,h2.app h,by omega⟩
theorem Wt.of{B}:∀ {l},(∀t∈l,LM B (zI t.c))->Wt l (B*l.length)
 |[],_=>trivial
 |t::l,h=>⟨B,B*l.length,h t σ,Wt.of fun x hx=>h x γ,by grind[aB0,Nat.mul_succ]⟩
structure Ex1 (s:Rs) (a:Rp):Prop where
 o:OkP a
 p:vp a=true
 v:a.vars=s.dom.length
 d:mA a<=s.ord
 n:a.terms.length<=10
 c:∀t∈a.terms,LM 16000 (zI t.c)
theorem Ex1.t{s}{a}(h:Ex1 s a):∀t∈a.terms,VT s.dom.length t:=by
 have:=(gj h.o h.p).1.t;rw[h.v]at this;omega
def Sm(c:Int):Prop:=-128<=c/\c<=128
theorem Sm.i{c}(h:Sm c):GD c:=by
 obtain⟨h1,h2⟩:=h;exact⟨by omega,by omega⟩
theorem asz{c}(h:c≠0):(Eh c).m.length≠0:=by
 have hn:c.natAbs≠0:=ω
 unfold Eh;rw[jW hn];intro h0;have h1:=py.1 (List.length_eq_zero_iff.1 h0);have h2:=(rH (neg:=false) (e:=0) hn).2.2.1;omega
theorem LM.ldd{B k}{z}(h:LM B z)(hb:B<=2^k):z.natAbs<=2^ (16384+k):=by
 obtain⟨n,rfl,h2⟩:=h;have e:∀a,2^ (a+k)=2^k*2^ (a+0):=fun a=>by rw[aBR,aBx,aBD]
 rw[Int.natAbs_mul,e,awF];rw[Int.natAbs_natCast];exact Nat.mul_le_mul (aBq h2 hb) (aBh _)
theorem LM.Ld{B m}{d}(h:LM B (zI d))(hb:B<=2^m):Go.Ab.Ld m d:=h.ldd hb
structure Sq (s:Rs):Prop where
 os:OkS s
 sp:fk s=true
 p:s.p=64
 h8:s.dom.length<=8
 o:s.ord<=16
theorem Sq.pr{s}(h:Sq s):bE s.p=true:=by rw[h.p];rfl
structure Xp (s:Rs) (e:List Int):Prop where
 l:e.length=s.dom.length
 b:∀x∈e,0<=x
 d:bO e<=s.ord
theorem Xp.vt{s}(hs:Sq s){e}(h:Xp s e){c}(hc:Sm c)(h0:c≠0):VT s.dom.length ⟨e,Eh c⟩:=by
 have h8:=hs.h8;have ho:=hs.o;have hd:=h.d;refine⟨(ry hc.i).2,by rw[h.l],by omega,(ry hc.i).1,asz h0,fun x hx=>?_,Int.le_trans hd ω⟩;have:=(EK (l:=e) h.b).2 x hx;exact⟨h.b x hx,by omega⟩
structure Ps (s:Rs) (L:List Rt) (N:Nat):Prop where
 c:Cl s.dom.length L
 w:Wt L (128*N)
 n:L.length<=N
 d:∀t∈L,bO t.exps<=s.ord
theorem Ps.up{s}{L}{N M}(h:Ps s L N)(hM:N<=M):Ps s L M:=⟨h.c,h.w.up (aCg 128 hM),aBq h.n hM,h.d⟩
structure To where
 k:Int
 a:Int
 b:Int
 n:Int
 cn:Int
 cd:Int
variable {s:Rs} {a:Rm}
theorem acf(os:OkS s)(oa:OkM a)(h:(bN s a).all=true):R 68 [go s,cw a] []=some (B false,[]):=by
 rw[aaj os oa,h];rfl
theorem anK(os:OkS s)(oa:OkM a)(h:(bN s a).all=true):R 15 [go s,cw a] []=some (cw (cu s),[]):=by
 refine az HN rfl ?_;have hcc:=Zd (Tx (f:=38) (.inl ⟨rfl,rfl,rfl⟩) os oa (nE s) ⟨fun _=>rfl,rfl⟩ h);simp only[aBF,aBw,go_sem]at hcc;simp only[vV,go_sem,aBo,aBn,aBm,iQ];rw[hcc _ _ Z Z];simp only[go_sem,aBo,aBn,aBm,iQ]
theorem anL(os:OkS s)(oa:OkM a)(h:(bN s a).all=true):R 27 [go s,cw a] []=some (cw (cu s),[]):=by
 have hp:=acf os oa h;have hw:=tN os;refine az R6 rfl ?_;simp only[Bo,go_sem,aBo,aBn,aBm,iQ,hp,hw,dC]
theorem akj(os:OkS s)(oa:OkM a)(h:(bN s a).all=true):R 30 [go s,cw a] []=some (cw (cu s),[]):=by
 have hp:=acf os oa h;have hw:=tN os;refine az P4 rfl ?_;simp only[zU,go_sem,aBo,aBn,aBm,iQ,hp,hw,dC]
theorem acg(os:OkS s)(oa:OkM a)(h:(bN s a).all=true):R 19 [go s,cw a] []=some (cw (cu s),[]):=by
 have h1:=tM os oa;have h3:=tN os;refine az mT rfl ?_;simp only[af,am,h]at h1;simp only[gO,go_sem,aBo,aBn,aBm,iQ,h1,h3,dC]
theorem Rh{sh:Int}(os:OkS s)(oa:OkM a)(h:(bN s a).all=true):R 72 [go s,cw a,I sh] []=some (cw (cu s),[]):=by
 refine az M3 rfl ?_;have g1:=Tx (f:=124) (.inr ⟨rfl,rfl⟩) os oa (aqa sh) ⟨(nE s).cl,(nE s).ids⟩ h;have hcc:=fun(h:ah) (d:Nat) (hi:h 5=.bx [I sh]) (hj:h 3=.bx (tL s)) (hf:h (2000+8*d)=.dead)=>aj8 (f:=37) (g:=124) (h:=h) (d:=d) (i:=5) (j:=3) (zas:=[go s,cw a]) (as':=[go s,cw a]) (aX.1.2.1 false) (aX.1.2.2.2 false)
  (by simp only[go_sem,dC,aBF,aBw]) Z Z δ hi hj (aqa sh) (nE _) g1 (ael _) (aBI rfl) (by show cj h (2000+8*d) 1=true;grind[cj,bX])
 simp only[aBF,aBw,go_sem]at hcc;simp only[wF,go_sem,aBo,aBn,aBm,iQ];rw[hcc _ _ Z Z Z];simp only[go_sem,aBo,aBn,aBm,iQ]
theorem anM(os:OkS s)(oa:OkM a)(h:(bN s a).all=true):R 28 [go s,cw a] []=some (cw (cu s),[]):=by
 have g1:=Rh (sh:=0) os oa h;refine az R7 rfl ?_;simp only[Bp,go_sem,aBo,aBn,aBm,iQ,g1]
theorem anN(os:OkS s)(oa:OkM a)(h:(bN s a).all=true):R 29 [go s,cw a] []=some (cw (cu s),[]):=by
 have g1:=Rh (sh:=1) os oa h;refine az R8 rfl ?_;simp only[Bq,go_sem,aBo,aBn,aBm,iQ,g1]
def fcN(n:Nat)(k:Nat->β):β:=match n with
 |0=>k 0
 |n+1=>k (n+1)
theorem ahC{n:Nat}{k:Nat->β}:fcN n k=k n:=by cases n<;>rfl
def Zf{β:Type}:List Nat->(List Nat->β)->β
 |[],k=>k []
 |x::l,k=>fcN x fun x=>Zf l fun l=>k (x::l)
theorem ahD{β:Type}:∀ {l:List Nat} {k:List Nat->β},Zf l k=k l
 |[],_=>rfl
 |x::l,k=>by
  unfold Zf;rw[ahC,ahD]
def fcD(d:Rd)(k:Rd->β):β:=match d with
 | ⟨false,m,.ofNat e⟩=>fcN e fun e=>Zf m fun m=>k ⟨false,m,.ofNat e⟩
 | ⟨true,m,.ofNat e⟩=>fcN e fun e=>Zf m fun m=>k ⟨true,m,.ofNat e⟩
 | ⟨false,m,.negSucc e⟩=>fcN e fun e=>Zf m fun m=>k ⟨false,m,.negSucc e⟩
 | ⟨true,m,.negSucc e⟩=>fcN e fun e=>Zf m fun m=>k ⟨true,m,.negSucc e⟩
theorem aqi{d:Rd}{k:Rd->β}:fcD d k=k d:=by
 obtain⟨n,m,e⟩:=d;cases n<;>cases e<;>simp[fcD,ahC,ahD]
def fcI(x:Ri)(k:Ri->β):β:=match x with
 | ⟨a,b,false⟩=>fcD a fun a=>fcD b fun b=>k ⟨a,b,false⟩
 | ⟨a,b,true⟩=>fcD a fun a=>fcD b fun b=>k ⟨a,b,true⟩
theorem aqj{x:Ri}{k:Ri->β}:fcI x k=k x:=by
 obtain⟨a,b,c⟩:=x;cases c<;>simp[fcI,aqi]
def exT(y:Ri)(p:Int):Nat->Nat->Ri->Ri->Option Ri
 |0,_,_,_=>none
 |f+1,n,t,s=>fcI (jY (ake t y p) (gp n) p) fun t1=>fcI (aen s t1 p) fun s1=>if kI t1=true then(if smB t1 p=true then some (aen s1 (F6 t1) p)else exT y p f (n+1) t1 s1)else none
theorem ahE{y:Ri}{p:Int}:∀ (f n:Nat) (t s:Ri),exT y p f n t s=(UI y p f n t s).map fun r=>dk r.2 (F6 r.1) p
 |0,_,_,_=>rfl
 |f+1,n,t,s=>by
  unfold exT UI;simp only[aqj,←ab9,←TC];split
  ·split
   ·rfl
   ·rw[ahE f]
  ·rfl
def Zg(p:Int)(y:Ri):Option Ri:=exT y p 900 1 (gp 1) (gp 1)
theorem ahF:aep Zg:=fun p y z hp oy h=>by
 unfold Zg at h;rw[ahE,aBj]at h;obtain⟨r,h1,rfl⟩:=h;exact⟨anG oy hp (aBh _) h1,yg⟩
theorem aqk{x:Ri}:LL x p=if(!(lK x).all&&bE p)=true then nC (TA (lK x).lo (lK x).lo p false) (TA (lK x).hi (lK x).hi p true)else cG:=by
 unfold LL;rw[TB,TB]
def aql:Ri:=fT ⟨false,[1],-1⟩
def aqm:Ri:=fT ⟨true,[1],-1⟩
def qP4:Ri:=fT ⟨false,[1],-2⟩
def qM4:Ri:=fT ⟨true,[1],-2⟩
def pA0:Ri:=⟨⟨false,[3492859111,2439759751,2],-65⟩,⟨false,[3893913211,1219879875,1],-64⟩,false⟩
def pB0:Ri:=⟨⟨false,[2420202757,494793685,3],-66⟩,⟨false,[1678792517,3344923893],-64⟩,false⟩
def pA1:Ri:=⟨⟨false,[3235084575,1277505987,3],-65⟩,⟨false,[3765025955,2786236641,1],-64⟩,false⟩
def pA2:Ri:=⟨⟨false,[2330798673,3084996962,2],-64⟩,⟨false,[1165399369,1542498481,1],-63⟩,false⟩
def pA3:Ri:=⟨⟨false,[4230622289,86],-37⟩,⟨false,[4166277283,173],-38⟩,false⟩
def pB1:Ri:=⟨⟨false,[4183859169,915091398,1],-65⟩,⟨false,[4072751067,1830182797,2],-66⟩,false⟩
def pB2:Ri:=⟨⟨false,[2649159861,4050306757,2],-67⟩,⟨false,[2649159923,4050306757,2],-67⟩,false⟩
def pB3:Ri:=⟨⟨false,[1521594727,188],-41⟩,⟨false,[2337682989,23],-38⟩,false⟩
theorem xA:tr (fT one) 66=fT one/\tr (fT qi) 66=fT qi:=by
 rw[GV,GV];exact⟨by kernel_rfl,by kernel_rfl⟩
theorem xB:Re (fT one)=aql/\Re (fT qi)=aqm:=⟨by kernel_rfl,by kernel_rfl⟩
theorem xC:Re aql=qP4/\Re aqm=qM4:=⟨by kernel_rfl,by kernel_rfl⟩
theorem xD:Zg 66 qP4=some pA0/\Zg 66 qM4=some pB0:=⟨by kernel_rfl,by kernel_rfl⟩
theorem xE:LL pA0 66=pA1/\LL pA1 66=pA2/\LL pB0 66=pB1/\LL pB1 66=pB2:=by
 simp only[aqk];exact⟨by kernel_rfl,by kernel_rfl,by kernel_rfl,by kernel_rfl⟩
theorem xF:tr pA2 40=pA3/\tr pB2 40=pB3:=by
 rw[GV,GV];exact⟨by kernel_rfl,by kernel_rfl⟩
theorem xG:UK Zg one 40=some pA3/\UK Zg qi 40=some pB3:=by
 have n1:Ik one=2/\Ik qi=2:=⟨by kernel_rfl,by kernel_rfl⟩;have p1:J7 one 40=66/\J7 qi 40=66:=⟨by kernel_rfl,by kernel_rfl⟩;have s1:¬kj one=0/\¬kj qi=0:=⟨by decide,by decide⟩;unfold UK;rw[ax s1.1,ax s1.2,n1.1,n1.2,p1.1,p1.2,xA.1,xA.2];unfold Y9;rw[xB.1,xB.2];unfold Y9;rw[xC.1,xC.2];unfold Y9;rw[xD.1,xD.2];simp only[aBZ,xE.1,xE.2.1,xE.2.2.1,xE.2.2.2,xF.1,xF.2,and_self]
theorem tpU:aW one<=50/\aW qi<=50:=by
 have h1:aW one=1:=by kernel_rfl
 have h2:aW qi=1:=by kernel_rfl
 rw[h1,h2];decide
theorem anO(d:Rd):Rg (fT d) (fT d)=fT d:=rfl
def pE:Ri:=⟨pB3.lo,pA3.hi,false⟩
theorem ahG:R 40 [af cA,I 40] []=some (af pE,[]):=
 Zc ahF ER.1 κ rfl κ κ tpU.2 tpU.1 xG.2 xG.1
theorem ahH:R 40 [af cp,I 40] []=some (af (gp 1),[]):=by
 have h:UK Zg aG 40=some (gp 1):=aq rfl;have hm:Za aG=true:=by kernel_rfl
 have ht:aW aG<=50:=δ
 have hk:kI cp=true:=by kernel_rfl
 have e:Rg (gp 1) (gp 1)=gp 1:=anO (Eh 1);rw[←e];exact Zc ahF ⟨aO.2,aO.2⟩ hk rfl hm hm ht ht h h
def s6:Rs:=⟨[cA],4,40⟩
theorem F7:fk s6=true:=by
 have h:=aj4 anp rfl;unfold fk;simp[s6,h];rfl
theorem GW:OkS s6:=⟨fun x hx=>by rw[List.mem_singleton.1 hx];exact ER.1,by decide⟩
theorem Au:Fit s6 xP:=⟨rfl,by decide,cl1 (v1_ δ),by decide+revert,fun t ht=>by rw[List.mem_singleton.1 ht];decide⟩
theorem akk:OkM ⟨xP,cp⟩:=⟨fun t ht=>(Au.c.t t ht).c,⟨aO.2,aO.2⟩,by decide⟩
theorem awG:aed s6 0=⟨xP,cp⟩:=by
 unfold aed;rw[F7];rfl
theorem awH:CM cA 1 40=cA:=by kernel_rfl
theorem awI:cU ⟨one,one,false⟩ cA 40=cA:=by
 rw[ab9];kernel_rfl
theorem aqn:dk cp cA 40=cA/\dk cA cp 40=cA:=by
 rw[TC,TC];exact⟨by kernel_rfl,by kernel_rfl⟩
theorem aer:mW xP [cA]=true:=C1 GW F7 (Au.vp F7) rfl
theorem aqo:oA xP [cA] 40=cA:=by
 unfold oA;rw[aer,show bE 40=true from rfl,aB3,aq rfl];have e:Lf 40 [cA] xP.terms ⟨aG,aG,false⟩=dk cp (cU ⟨one,one,false⟩ (CM cA 1 40) 40) 40:=by
  simp only[xP,tX,Lf,J3,cp,aBm,if_true,Int.toNat_one]
 rw[e,awH,awI,aqn.1]
theorem awJ:mY xP [cA] 40=cA:=by
 have od:∀x∈[cA],OkI x:=GW.d;have hsb:=ag3 (dom:=[cA]) (p:=40) Au.ok od δ aer rfl δ (by rw[aqo];rfl);rw[aqo]at hsb;have q1:=xf;have q2:=ab2;have h1:=DL (dom:=[cA]) (p:=40) Au.ok od δ aer (xs:=[1]) (ts:=[1]) ⟨by grind[cA],by decide,by decide,trivial⟩;have h2:=DL (dom:=[cA]) (p:=40) Au.ok od δ aer (xs:=[-1]) (ts:=[0]) ⟨by grind[cA],by decide,by decide,trivial⟩;have e1:fv [1] xP.terms=1:=by
  simp[fv,xP,tX,zF,xg,q1,Rat.add_zero]
 have e2:fv [-1] xP.terms=-1:=by
  simp[fv,xP,tX,zF,xg,q1,Rat.add_zero]
 rw[e1]at h1;rw[e2]at h2;generalize mY xP [cA] 40=z at*
 obtain⟨_,hsb⟩:=hsb;rcases hsb with h| ⟨ha,_,_,l1,l2⟩
 ·cases h
 rcases h1 with h| ⟨_,vz,_,g1⟩
 ·rw[h]at ha;cases ha
 rcases h2 with h| ⟨_,_,g2,_⟩
 ·rw[h]at ha;cases ha
 rw[←q1,uD]at g1;rw[←q2,uD]at g2;obtain⟨a,b,c⟩:=z;have x1:a=qi:=QA vz.1.2 MA.2 vz.1.1 MA.1 (Int.le_antisymm g2 l1);have x2:b=one:=QA vz.2.2 fg.2 vz.2.1 fg.1 (Int.le_antisymm l2 g1);rw[x1,x2,show c=false from ha];rfl
theorem Zh:bN s6 ⟨xP,cp⟩=cA:=by
 have hv:rm s6 ⟨xP,cp⟩=true:=Q6 F7 Au.c Au.v Au.n Au.d ((As (m:=0)).i.elim fun _ h=>h.v) Au.r;have he:yz s6 [⟨xP,cp⟩]=true:=by
  unfold yz;simp[F7,hv]
 unfold bN;rw[aq he];show dk (mY xP [cA] 40) cp 40=cA;rw[awJ,aqn.2]
theorem VX:Eh 1=one:=by
 have h:(1:Int).natAbs≠0:=δ
 unfold Eh;rw[jW h,show(1:Int).natAbs=1*2^0 from rfl,Yf rfl,Nat.pow_zero,Nat.mul_one,Nat.div_one,qE δ,show(1:Nat)/4294967296=0 from rfl,py.2 rfl];rfl
theorem akl:kW s6 ⟨xP,cp⟩=aG:=by
 unfold kW;rw[Zh];kernel_rfl
theorem Rj:OkI pE:=⟨⟨fun x hx=>by
 have:x=1521594727\/x=188:=by simpa [pE,pB3]using hx
 rcases this with rfl|rfl<;>decide,by decide⟩,⟨fun x hx=>by
 have:x=4166277283\/x=173:=by simpa [pE,pA3]using hx
 rcases this with rfl|rfl<;>decide,by decide⟩⟩
def eF(x:Ri):Ri:=if x.lo.m.length=0 then gp 1 else pE
theorem asA(x:Ri):OkI (eF x):=by
 unfold eF;split
 ·exact xr ⟨by decide,by decide⟩
 ·exact Rj
theorem asB{x:Ri}(h:x=cp\/x=cA):R 40 [af x,I 40] []=some (af (eF x),[]):=by
 rcases h with rfl|rfl
 ·exact ahH
 ·exact ahG
def gF(x:Ri)(k:Int):Ri:=jY (eF x) (C3 (min k.toNat 50) 40) 40
theorem aes(x:Ri)(k:Int):OkI (gF x k):=JG
theorem acj{p:Int}:∀ (n i:Nat) {x:Ri} {q:Rat},i+n<=100->In q x->∃r,In r (JE p n i x)
 |0,_,_,q,_,h=>⟨q,h⟩
 |n+1,i,x,q,hi,h=>by
  have hz:=ry (n:=(i:Int)) (JF ω);exact acj n (i+1) ω (jI h (jC hz.1 hz.2))
theorem anP{k:Nat}(hk:k<=50){p:Int}:∃r,In r (C3 k p):=by
 have hz:=ry (n:=1) (JF (n:=1) ω);exact acj _ _ ω (jC hz.1 hz.2)
theorem aet(x:Ri):In 1 (eF x):=by
 unfold eF;split
 ·have hz:=ry (n:=1) (JF (n:=1) ω);have:=jC hz.1 hz.2;rw[VX,xf]at this;rw[show gp 1=fT one by unfold gp;rw[VX]];exact this
 ·have h:Jv pE one=true:=by kernel_rfl
  have:=(ap3 Rj h).1;rwa[xf]at this
theorem GX(x:Ri)(k:Int):∃q,In q (gF x k):=by
 obtain⟨r,hr⟩:=anP (k:=min k.toNat 50) (p:=40) ω;exact⟨_,If (aet x) hr⟩
theorem awK(x:Ri):In 1 (gF x 0):=by
 have hz:=ry (n:=1) (JF (n:=1) ω);have h1:=jC hz.1 hz.2;rw[VX,xf]at h1;have h:=If (p:=40) (aet x) h1;rw[show(1:Rat)/1=1 by grind]at h;show In 1 (jY (eF x) (C3 0 40) 40);unfold C3 JE;rw[show gp 1=fT one by unfold gp;rw[VX]];exact h
theorem vm6:VM s6 ⟨xP,cp⟩:=⟨akk,Q6 F7 Au.c Au.v Au.n Au.d ((As (m:=0)).i.elim fun _ h=>h.v) Au.r⟩
theorem anQ:∃m,R 15 [go s6,cw ⟨xP,cp⟩] []=some (cw m,[])/\(m=F0 s6 ⟨xP,cp⟩ gF/\(GU (bN s6 (gU s6 (gF cA 0))) 40=true->(bN s6 (F0 s6 ⟨xP,cp⟩ gF)).all=false)\/m=gU s6 (gF cA 0)):=by
 have hc:∀x,x=fT (kW s6 ⟨xP,cp⟩)\/x=bN s6 ⟨xP,cp⟩->∀ (k:Nat),k<=17->∀ (h:ah) (e:Nat),h 1000=.bx (tL s6)->h (2000+8*e)=.dead->bB R (aC false) h e [af x,I k] (.fn 38 [] [ac 1000])=some (af (gF x k),h,[]):=by
  intro x hx k hk h e h0 hd;have hx':x=cp\/x=cA:=by
   rw[akl,Zh]at hx;exact hx
  have ox:OkI x:=by
   rcases hx' with rfl|rfl
   ·exact⟨aO.2,aO.2⟩
   ·exact ER.1
  have hR:=anz (s:=s6) (k:=k) ox (asA x) ω (asB hx');have hg:gF x k=jY (eF x) (C3 k s6.p) s6.p:=by
   unfold gF;rw[aBr,aCc ω];rfl
  rw[hg];have hh:=Lq (f:=38) (h:=h) (d:=e) (id:=1000) (zas:=[af x,I k]) (as':=[af x,I k]) (Fv false) (Cc false) (by rw[M0];simp only[af,am,go_sem,aBF,aBw]) Z Z h0 (nE s6) (nE s6) (fun h=>h) hR (VR _) (aBI rfl) (by show cj h (2000+8*e) 1=true;simp[cj,hd,bX]);rw[Q8 h0]at hh;exact hh
 obtain⟨m,h1,_,h2⟩:=ahs (s:=s6) (a:=⟨xP,cp⟩) (f:=38) (g:=gF) (o:=.bx (tL s6)) GW vm6.ok (nE s6) aes (fun k=>GX _ _) hc;refine⟨m,?_,?_⟩
 ·refine az HN rfl ?_;have hcc:=fun(h:ah) (d:Nat) (hh:h 2=.bx (tL s6)) (hf:h (2000+8*d)=.dead)=>Ar (f:=37) (g:=38) (h:=h) (d:=d) (id:=2) (zas:=[go s6,cw ⟨xP,cp⟩]) (as':=[go s6,cw ⟨xP,cp⟩]) (aX.1.2.1 false) (aX.1.2.2.2 false)
   (by rw[aX.1.1];simp only[go_sem,dC,aBF,aBw]) Z Z hh (nE _) (nE _) (fun h=>h) h1 (ael _) (aBI rfl) (by show cj h (2000+8*d) 1=true;simp[cj,hf,bX])
  simp only[aBF,aBw,go_sem]at hcc;simp only[vV,go_sem];rw[hcc _ _ Z Z];simp only[go_sem]
 ·rw[Zh]at h2;rcases h2 with⟨h,_⟩| ⟨_,_,_,h⟩
  ·cases h
  ·exact h
def ldB(m:Nat)(d:Rd):Bool:=Nat.ble (zI d).natAbs (2^ (16384+m))
theorem Zi{m:Nat}{d:Rd}(h:ldB m d=true):Ld m d:=aBI h
theorem asC{x:Ri}{m:Nat}(h:Bd m x)(hp:bE p=true)(hm:m+1<16384):GU x p=true:=by
 obtain⟨n1,n2⟩:=yi h.v.1.1;have hl:Ld m (fC x.lo):=by
  have:=h.l;unfold Ld at this⊢;rw[n1,Int.natAbs_neg];exact this
 have:=(Tt (up:=true) h.v.2.1 n2 hp hm h.h hl).1;unfold GU;rw[h.k,hp,this];rfl
theorem asD{s:Rs}{m:Rm}(h:(bN s m).all=false):m.R.all=false:=by
 cases g:m.R.all with
 |false=>rfl
 |true=>
  unfold bN at h;split at h
  ·unfold dk at h;have hk:kI m.R=false:=by
    unfold kI;rw[g];rfl
   rw[hk,Bool.and_false,aBy,ax aBu]at h;cases h
  ·cases h
theorem awL:gF cA 0=pE:=by kernel_rfl
theorem Zj{c:Rd}:∀t∈FW 1 c,t=⟨kU 1,c⟩/\c.m.length≠0:=fun t ht=>by
 unfold FW at ht;split at ht
 ·exact nomatch ht
 ·rename_i h;exact⟨List.mem_singleton.1 ht,h⟩
theorem ahJ{c:Rd}:(FW 1 c).length<=1:=by
 unfold FW;split
 ·exact aBB _
 ·exact aBh _
theorem anR{c:Rd}(v:vd c=true)(o:Ok0 c)(hr:DK c 40=true):Fit s6 (B5 1 c):=by
 have hl:=ahJ (c:=c);refine⟨rfl,aBq hl δ,MF (v:=1) δ o v,fun t ht=>?_,fun t ht=>?_⟩
 ·rw[(Zj t ht).1];show bO (kU 1)<=4;decide
 ·rw[(Zj t ht).1];exact hr
theorem aqp{x:Ri}(hx:Bd 2 x)(ox:OkI x)(hc:Ld 2 (uE x 40))(hr:DK (uE x 40) 40=true):Bd 4 (gU s6 x).R/\GU (bN s6 (gU s6 x)) 40=true:=by
 obtain⟨v,o⟩:=ym (p:=40) ox;have e0:gU s6 x=jD s6 (B5 1 (uE x 40)) 0 (B4 x (fT (uE x 40)) 40):=by
  unfold gU;rw[F7,hx.k,aB3,aq rfl];rfl
 have vm:=ru GW F7 ox;generalize uE x 40=c at*
 have hf:=anR v o hr;have e1:gU s6 x=⟨B5 1 c,dk (B4 x (fT c) 40) cp 40⟩:=by
  rw[e0];unfold jD;rw[ann F7 hf,aq rfl,aq rfl];rfl
 have hn:Bd 2 (D7 (fT c)):=by
  have h:=Td (jC v o);obtain⟨n1,n2⟩:=yi v;have hl:Ld 2 (fC c):=by
   unfold Ld at hc⊢;rw[n1,Int.natAbs_neg];exact hc
  have hk:kI (fT c)=true:=VU ⟨_,jC v o⟩ rfl;have e:D7 (fT c)=⟨fC c,fC c,false⟩:=aq hk;have h':In (-(qv c)) (D7 (fT c)):=h;rw[e]at h'⊢;exact⟨⟨_,h'⟩,rfl,hl,hl⟩
 have hb:Bd 4 (gU s6 x).R:=by
  rw[e1];exact MD rfl δ (MD rfl δ hx hn) As
 refine⟨hb,?_⟩;have he:yz s6 [gU s6 x]=true:=by
  unfold yz;simp[F7,vm.v]
 have hr:=apX (m:=2) GW F7 (q:=B5 1 c) hf.ok (hf.vp F7) rfl (fun t ht=>by
  rw[(Zj t ht).1];exact hc) (by have:=hf.n;omega)
 have hl:(B5 1 c).terms.length<=1:=ahJ;have h:=MD (p:=40) rfl δ (hr.up (by omega:2+(B5 1 c).terms.length<=4)) hb;have e:(gU s6 x).P=B5 1 c:=by rw[e1]
 unfold bN;rw[aq he,e];exact asC h rfl δ
theorem asE:Bd 2 pE:=by
 have h:=aet cA;have e:eF cA=pE:=ax δ;rw[e]at h;exact⟨⟨_,h⟩,rfl,Zi κ,Zi κ⟩
theorem alh:Bd 4 (gU s6 pE).R/\GU (bN s6 (gU s6 pE)) 40=true:=
 aqp asE Rj (Zi κ) κ
theorem aqq{s:Rs}{a:Rm}{g:Ri->Int->Ri}(os:OkS s)(hs:fk s=true)(ha:VM s a)(hg:∀x k,OkI (g x k))(hgi:∀k,∃q,In q (g (bN s a) k)):VM s (F0 s a g):=by
 obtain⟨m1,m2⟩:=ym (x:=bN s a) (p:=s.p) yp;obtain⟨qb,hqb⟩:=Ra os ha.ok;obtain⟨qg,hqg⟩:=hgi (s.ord+1);have vc:=ru os hs (x:=fT (kW s a)) ⟨m2,m2⟩;exact ahr hs (Y6 os hs (Y5 os hs ha vc) (hg _) _ _ (ru os hs (hg _ _))) ⟨_,jI hqg (Y4 (AP hqb (jC m1 m2)))⟩
theorem aqr{cf:Nat->Rat}:∀ (k:Nat) (y:Rat),hv cf 0 (k+1) y=cf 0
 |0,y=>by
  show y*0+cf 0=cf 0;grind
 |k+1,y=>aqr k _
theorem awM:∃m,R 15 [go s6,cw ⟨xP,cp⟩] []=some (cw m,[])/\VM s6 m/\m.R.all=false/\In 1 (O7 s6 m [cp]):=by
 have hvm:=vm6;have hvv:([aG].map qv)=[0]:=by
  show [qv aG]=_;rw[Hm]
 obtain⟨m,h1,h2⟩:=anQ;refine⟨m,h1,?_⟩;clear h1;rw[awL]at h2;have hx:∀d∈[cp],OkI d/\kI d=true:=fun d hd=>by
  rw[List.mem_singleton.1 hd];exact⟨⟨aO.2,aO.2⟩,(As (m:=0)).k⟩
 have q1:=xf;have q2:=ab2;have q0:=Hm;have hz:nD [cp] ([aG].map qv) [0]:=⟨by show qv aG=_;grind[cp],by decide,by decide,trivial⟩;have hu:nD s6.dom ([aG].map qv) [1/2]:=⟨by show qv aG=_;grind[cA],by decide+kernel,by decide+kernel,trivial⟩;rcases h2 with⟨hm,hw⟩|hm
 ·rw[hm];have vm:=aqq GW F7 vm6 aes fun k=>GX _ k;have hd:ws ⟨xP,cp⟩ ([aG].map qv) 0:=by
   have e:fv [0] xP.terms=0:=by
    simp[fv,xP,tX,zF,xg];grind
   have h:=jC aO.1 aO.2;rw[q0]at h;unfold ws;rw[hvv,e,show(0:Rat)-0=0 by grind];exact h
  have ht:=anu (cf:=fun j=>if j=0 then 1 else Classical.choose (GX cp j)) (r:=Classical.choose (GX cA 5)) GW F7 vm6 aes hu hd (fun j hj=>by
   rw[akl];show In (if j=0 then 1 else Classical.choose (GX cp (j:Int))) (gF cp (j:Int));split
   ·rename_i h;rw[h];exact awK cp
   ·exact Classical.choose_spec (GX cp (j:Int))) (by
   rw[Zh];exact Classical.choose_spec (GX cA 5))
  refine⟨vm,asD (hw alh.2),ahq vm.ok hx hz ?_⟩;rw[akl,q0,show(0:Rat)-0=0 by grind,show s6.ord.toNat=3+1 from rfl,aqr]at ht;have e:∀r:Rat,(if(0:Nat)=0 then(1:Rat)else r)+Classical.choose (GX cA 5)*0^ (3+1+1)=1:=fun r=>by
   rw[aq rfl];grind
  rw[e]at ht;exact ht
 ·rw[hm];have vm:=ru GW F7 Rj;refine⟨vm,alh.1.a,ahq vm.ok hx hz (MH GW Rj hu ?_)⟩;have h:=aet cA;have e:eF cA=pE:=ax δ;rw[e]at h;exact h
theorem ahK:R 14 [] []=some (go s6,[]):=awE (e:=cQ) [] 60 (14,[],go s6) aki κ
theorem asF{s:aN}{h:ah}(d k z n qs):iv d (.buildSl k z n qs) s h h'=if(qs.all fun p=>dat (ev s p.2))=true then some ([],[di d])else none:=θ _
theorem anS:R 19 [go s6,cw ⟨xP,cp⟩] []=some (cw (cu s6),[]):=by
 refine az mT rfl ?_;have h1:=tM GW vm6.ok;have h2:=FJ ER.1 κ;have h3:=tN GW;rw[Zh]at h1;have hs:J2 cA=0:=δ
 rw[hs]at h2;have ha:cA.all=false:=rfl;generalize s6=s at h1 h3⊢;generalize(⟨xP,cp⟩:Rm)=x at h1⊢;generalize cu s=z at h3⊢;generalize cA=u at*
 simp only[af,am,ha]at h1 h2;simp only[gO,go_sem,aBo,aBn,aBm,iQ,h1,h2,h3,dC]
theorem awN:R 8 [] []=some (B true,[]):=by
 obtain⟨⟨P,⟨lo,hi',al⟩⟩,h1,hv,hR,hi⟩:=awM;have hR:al=false:=hR;subst hR;obtain⟨m,hm⟩:∃m:Rm,m=⟨P,⟨lo,hi',false⟩⟩:=⟨_,rfl⟩;rw[←hm]at h1 hv hi;have g1:=ahK;have g2:=ani (s:=s6) (i:=0) GW;rw[awG]at g2;have g3:=ajY (x:=[cp]) GW hv.ok (fun b hb=>by rw[List.mem_singleton.1 hb];exact⟨aO.2,aO.2⟩) δ;have g4:=alX;have q1:=xf;have g5:=agU (x:=O7 s6 m [cp]) hi.ok fg.2;rw[amW (by rw[q1];exact hi) fg.1]at g5;have g6:=anS;have g7:=GN GW hv.ok;rw[hv.v]at g7;refine az ZQ rfl ?_;have hn:(cu s6).R.all=true:=rfl;have e0:cB [cp]=[[B false,lm [],I 0,B false,lm [],I 0,B false]]:=rfl;rw[e0]at g3;generalize O7 s6 m [cp]=v at*
 generalize cu s6=z at*
 obtain⟨zP,⟨zl,zh,za⟩⟩:=z;have hn:za=true:=hn;subst hn;generalize(⟨xP,cp⟩:Rm)=x at*
 generalize s6=s at*
 subst hm;simp only[af,am,ae,aj]at g1 g2 g3 g4 g5 g6 g7;simp only[Fd,go_sem,aBo,aBn,aBm,iQ,g1,g2,h1,g3,g4,g5,g6,g7,dC,asF]
theorem ahL{f:FuncId}{h:ah}{d:Nat}{zas as':List AV}{o o':Ob}{res:AV}(hm:(aC false).m f=[])(hk:(aC false).keep f=false)(hn:bv ((aC false).sh f) (zas++[ac id])=as'++[ac id])(hd:zas.all dat=true)(hd':as'.all dat=true)
  (hh:h id=o) (ho:OC o) (ho':OC o') (hb:bf o=true->bf o'=true) (hR:R f (as'++[ac 1000]) [o]=some (res,[o'])) (hr:RT res) (h8:cM res<=8) (hfr:cj h (2000+8*d) (cM res)=true):
  bB R (aC false) h d zas (.fn f [] [ac id])=some (res,upd h id o',[(id,true)]):=by
 have hin:∀l:List AV,l.all dat=true->ce h [] (l++[ac id])=some (l++[ac id],h,[]):=by
  intro l;induction l with
  |nil=>intro _;rfl
  |cons x l ih=>
   intro h2;simp only[aBO,aBk]at h2;simp only[aBF,ce,List.headD_nil,Lp h2.1,aBl,List.tail_nil,ih h2.2,aBz]
 have h1:=hin zas hd;have hp:bC [] ((zas++[ac id]).flatMap cH)=[id]:=by
  rw[List.flatMap_append,Aq fun x hx=>EL (List.all_eq_true.1 hd x hx)];rfl
 have hre:bU h 40 [id] 0=[id]:=by
  simp[bU,hh,ho.ids,bC]
 have h3:bg [id] id=1000:=by simp[bg]
 have hall:(as'++[ac id]).all (be [id])=true:=by
  rw[List.all_append,aBk];exact⟨List.all_eq_true.2 fun x hx=>H7 (List.all_eq_true.1 hd' x hx) _,by simp[be,bw]⟩
 have hmap:(as'++[ac id]).map (dS (bg [id]))=as'++[ac 1000]:=by
  rw[List.map_append,(aBK (g:=fun c=>c) fun x hx=>EM (List.all_eq_true.1 hd' x hx) _).trans (aB2 as')];simp[dS,ko,h3]
 have hob:([id].map fun a=>dY (bg [id]) (h a))=[o]:=by simp[hh,ho.ren]
 have hids:([id].all fun a=>aE [id] (h a)&&!bX (h a))=true:=by simp[hh,ho.cl,ho.nd]
 unfold bB;rw[ax (by simp[kC,hm])];simp only[dZ,hm,aBw,h1,aBl,hp,hre,hn];unfold ke;rw[hall,hids,hmap,hob,hR,aB3,aq rfl,aBl,hk,hm,tw];unfold eJ;have hbf:cY h [] [id] [o']=true:=by
  have:=ho'.nd;cases h5:bf o with
  |false=>simp[cY,hh,h5,this]
  |true=>simp[cY,hh,h5,hb h5,this]
 have hend:mG h [id] [] (res,[o'])=true:=by
  simp[mG,A7,hr.ok,ho'.cl]
 rw[aq ⟨rfl,by simp,h8,hfr,hbf,hend⟩];simp[eB,gD,hr.mat,hr.ren,ho'.ren]
section
variable {α:Type} {Frow:α→List AV} {l:List α} {q:α→Bool}
variable {ci fi:FuncId} {k:Nat} {g:Bool} {cs:List Sh}
end
def awO(k:Int):Prop:=k=3\/k=4\/k=5\/k=6
instance (k:Int):Decidable (awO k):=inferInstanceAs (Decidable (_\/_))
theorem aqs{x}(h:x.all=true):kI x=false:=by
 unfold kI;rw[h];rfl
theorem anT{x y}{p}(h:kI x=false\/kI y=false):dk x y p=cG:=by
 unfold dk;rcases h with h|h<;>simp[h]
theorem anU{s}{a}(h:a.R.all=true):(bN s a).all=true:=by
 unfold bN;split
 ·rw[anT (.inr (aqs h))];rfl
 ·rfl
theorem aqt{d:Rd}(ok:Ok0 d):R 4 [ae d] []=some (B (decide (300<d.m.length)),[]):=by
 refine az Ge rfl ?_;have hl:=ok.len;by_cases g:300<d.m.length
 ·have e:((300:Int)< (d.m.length:Int))=True:=tt;rw[decide_eq_true g];simp only[kF,ae,aj,go_sem,aBo,aBn,aBm,iQ,e]
 ·have e:((300:Int)< (d.m.length:Int))=False:=ff;rw[decide_eq_false g];simp only[kF,ae,aj,go_sem,aBo,aBn,aBm,iQ,e]
noncomputable abbrev Zk:Ob:=.bx [.fn 4 [] []]
theorem LN:OC Zk:=⟨fun _=>rfl,rfl,fun _=>rfl,rfl⟩
def po2(t:Rt):Bool:=decide (10<t.exps.length)||decide (300<t.c.m.length)
theorem aqu{t:Rt}(ok:Ok0 t.c):R 7 [.agg (dB t),ac 1000] [Zk]=some (B (po2 t),[Zk]):=by
 refine B3 Es Ep (sT false) rfl ?_;have h1:=aqt ok;unfold po2;generalize decide (300<t.c.m.length)=a at h1⊢;simp only[ae,aj]at h1;by_cases g1:10<t.exps.length
 ·have e1:((10:Int)< (t.exps.length:Int))=True:=tt;rw[decide_eq_true g1];simp only[jP,dB,go_sem,aBo,aBn,aBm,iQ,e1,Bool.true_or];exact lP Z Z Z Z Z
 ·have e1:((10:Int)< (t.exps.length:Int))=False:=ff;rw[decide_eq_false g1];simp only[jP,dB,go_sem,aBo,aBn,aBm,iQ,e1,h1,Bool.false_or];exact lP Z Z Z Z Z
def po3(m:Rm):Bool:=decide (40<m.P.terms.length)||m.P.terms.any po2
theorem aqv{m:Rm}(om:OkM m):R 5 [cw m,ac 1000] [Zk]=some (B (po3 m),[Zk]):=by
 refine rh jd.2.1 jd.2.2 (jd.1.2.2.2 false) rfl ?_;have hn:=om.n;unfold po3;by_cases g:40<m.P.terms.length
 ·have f:(40< (m.P.terms.length:Int))=True:=tt;rw[decide_eq_true g,Bool.true_or];simp only[kG,go_sem,aBo,aBn,aBm,iQ,f];exact lP Z Z Z Z Z
 have f:(40< (m.P.terms.length:Int))=False:=ff;rw[decide_eq_false g,Bool.false_or];have h3:=Mp akY (Frow:=dB) (l:=m.P.terms) (q:=po2) LN (wl false) (sT false) hn (dC _) fun t ht=>⟨.agg (dB t),.agg (dB t),rfl,rfl,rfl,by rw[D5];simp only[dB,go_sem],aqu (om.c t ht)⟩;have h3':=fun(h:ah) (d:Nat) (hh:h 1000=Zk) (hf:h (2000+8*d)=.dead)=>Ar (f:=6) (g:=7) (h:=h) (d:=d) (id:=1000) (zas:=[.sl 4 (aT m.P.terms)]) (as':=[.sl 4 (aT m.P.terms)]) (bF.1.2.1 false) (bF.1.2.2.2 false)
  (by rw[bF.1.1];simp only[go_sem,dC,aBF,aBw]) Z Z hh LN LN (fun h=>h) h3 (S6 _) (aBI rfl) (by simp[cj,cM,hf,bX])
 simp only[aBF,aBw,go_sem]at h3';generalize m.P.terms.any po2=c at h3'⊢;simp only[kG,go_sem,aBo,aBn,aBm,iQ,f];rw[h3' _ _ Z Z];simp only[go_sem,aBo,aBn,aBm,iQ];exact lP Z Z Z Z Z
abbrev kdL:List Int:=[6,8,9,10,11,12,13]
theorem akm{s:Rs}{a:Rm}{k n:Int}(os:OkS s)(oa:OkM a)(hb:(bN s a).all=true)(hp:pwM s a n=cu s)(hk:k∈kdL):R 10 [I k,I n,go s,cw a] []=some (cw (cu s),[]):=by
 refine az ZR rfl ?_;have h1:=acg os oa hb;have h2:=aht (n:=n) os oa;rw[hp]at h2;have h3:=anK os oa hb;have h4:=anL os oa hb;have h5:=anM os oa hb;have h6:=anN os oa hb;have h7:=akj os oa hb;simp only[kdL,List.mem_cons,List.not_mem_nil,or_false]at hk;rcases hk with rfl|rfl|rfl|rfl|rfl|rfl|rfl<;>simp only[Fe,go_sem,aBo,aBn,aBm,iQ,h1,h2,h3,h4,h5,h6,h7,dC]
theorem anV{s:Rs}{a b:Rm}{z:Int}(hd:s.dom.length<=8)(os:OkS s)(oa:OkM a)(hb:(bN s a).all=true)(hp:∀n,pwM s a n=cu s):∀ (k i:Nat),i+k=7->∀ (S:aN) (h:ah) (X:Option (Ex×St)),ao 0 [4,5,6] (aD (ap R (aC false) kE) [3,4,5,6,45,46,47] [4,5,6] S h)=X->S 3=.v (.int .u8 z)->S 4=ac 4->S 5=ac 5->S 6=ac 6->S 45=.sl 1 (aZ kdL)->S 46=I 7->S 47=I i->h 4=.bx (tL s)->h 5=.bx (yy a)->h 6=.bx (yy b)->
  ∃hh,X=some (.normal,⟨upd (upd (upd cr 6 (ac 6)) 5 (ac 5)) 4 (ac 4),hh⟩)/\hh 4=.bx (tL s)/\hh 5=.bx (yy a)/\hh 6=.bx (yy b)/\∀b,b≠4->b≠5->b≠6->hh b=.dead:=by
 intro k;induction k with
 |zero=>
  intro i hi S h X hX k3 k4 k5 k6 k45 k46 k47 h4 h5 h6;have e1:((i:Int)<7)=False:=ff;subst hX;rw[ai];refine⟨?hh0,?_,?_,?_,?_,?_⟩;rotate_left
  ·simp only[kE,go_sem,aBo,aBn,aBm,iQ,k3,k4,k5,k6,k45,k46,k47,h4,h5,h6,e1];rfl
  all_goals first|rfl| (intro b b1 b2 b3;simp only[dv,b1,b2,b3,if_false])
 |succ k ih=>
  intro i hi S h X hX k3 k4 k5 k6 k45 k46 k47 h4 h5 h6;have hlt:i<kdL.length:=by show i<7;omega
  have e1:((i:Int)<7)=True:=tt;have e2:=yf rfl (aBp hlt);have e3:aS ((i:Int)+1)=((i+1:Nat):Int):=wi;have e4:((s.dom.length:Int)=((cB s.dom).length:Int))=True:=tt (by simp[cB]);have ih':=ih (i+1) ω;have hc:=fun n=>akm (n:=n) os oa hb (hp n) (aBT hlt);subst hX;rw[ai];generalize aD _ _ _=L at ih'⊢;generalize kdL=K at*
  generalize K[i]=c at e2 hc;have e0:aT []=[]:=rfl;have e5:lm []=.sl 1 []:=rfl;simp only[cu,cG,aG,cw,yy,e0,e5]at hc;simp only[kE,go_sem,aBo,aBn,aBm,iQ,k3,k4,k5,k6,k45,k46,k47,h4,h5,h6,e1,e2,e3,e4,hc,aB1,aBV];apply ih'<;>rfl
theorem aqw{s:Rs}{q:Rp}{e:Int}:(jD s q e cG).R=cG:=by
 unfold jD;split
 ·split
  ·simp[dk,apO]
  ·rfl
 ·rfl
theorem asG{s:Rs}{a b:Rm}(h:a.R=cG\/b.R=cG):(rK s a b).R=cG:=by
 unfold rK;split
 ·have e:C0 s.p (cU (mY a.P s.dom s.p) b.R s.p) [cU (mY b.P s.dom s.p) a.R s.p,cU a.R b.R s.p]=cG:=by
   rcases h with h|h<;>rw[h]<;>simp[C0,dk,cU,apO]
  rw[e];exact aqw
 ·rfl
theorem Rk:∀l,l8 l []=some []
 |[]=>rfl
 |s::ss=>by
  unfold l8 oC;rw[Rk ss];rfl
theorem akn{v:Int}:(pZ v (some [])).1.terms=[]:=by
 unfold pZ;grind
theorem ako{a:Rp}{n:Int}:(vO a ⟨n,[]⟩).1.terms=[]:=by
 unfold vO;split
 ·rw[ax σ,Rk];exact akn
 ·rfl
theorem anW{s:Rs}{q:Rp}(h:q.terms=[]):(xp s q).1.1.terms=[]:=by
 have h1:(dH q s.ord).1.terms=[]:=by
  unfold dH;split
  ·show q.terms.filter _=[];rw[h];rfl
  ·rfl
 have h2:(fE (dH q s.ord).1 s.p).1.1.terms=[]:=by
  generalize(dH q s.ord).1=y at h1;unfold fE;rw[h1];split
  ·split<;>rfl
  ·rfl
 unfold xp;split
 ·exact h2
 ·exact h2
theorem akp{s:Rs}{b:Rm}:(rK s b (cu s)).R=cG/\(rK s b (cu s)).P.terms=[]:=by
 refine⟨asG (.inr rfl),?_⟩;unfold rK;split
 ·unfold jD;split
  ·split
   ·exact anW ako
   ·rfl
  ·rfl
 ·rfl
theorem ack{s:Rs}{a:Rm}(h:rm s a=false\/a.R.all=true):(bN s a).all=true:=by
 rcases h with h|h
 ·unfold bN;split
  ·rename_i e;have:=(rp e).2 a σ;rw[h]at this;cases this
  ·rfl
 ·exact anU h
theorem aqx{s:Rs}{a:Rm}(h:rm s a=false\/a.R.all=true)(n:Int):pwM s a n=cu s:=by
 unfold pwM;rw[ax];intro g;simp only[aBk]at g;rcases h with h|h<;>rw[h]at g<;>simp at g
theorem anX{s:Rs}{a m:Rm}(h:rm s a=false):rK s a m=cu s:=by
 unfold rK;rw[ax];intro e;have:=(rp e).2 a σ;rw[h]at this;cases this
theorem asH{s:Rs}{a b:Rm}(os:OkS s)(oa:OkM a)(ob:OkM b)(h:rm s a=false\/a.R.all=true):R 11 [go s,cw a,cw b] []=some (cw (cu s),[]):=by
 obtain⟨m,h1,om,_⟩:=anJ os ob;have h2:=UH os oa om.ok h1;have:(if a.R.all=true then cu s else rK s a m)=cu s:=by
  split
  ·rfl
  ·rename_i g;exact anX (h.resolve_right g)
 rwa[this]at h2
theorem asI{s:Rs}{a b:Rm}(os:OkS s)(oa:OkM a)(ob:OkM b)(h:rm s a=false\/a.R.all=true):∃m,R 11 [go s,cw b,cw a] []=some (cw m,[])/\m.R=cG/\m.P.terms=[]:=by
 refine⟨_,UH os ob Pa (acg os oa (ack h)),?_⟩;split
 ·exact⟨rfl,rfl⟩
 ·exact akp
theorem akq{s:Rs}{a b:Rm}{z:Int}(haw:R 8 [] []=some (B true,[]))(os:OkS s)(oa:OkM a)(ob:OkM b)(_:0<=z/\z<256):R 3 [go s,cw a,cw b,.v (.int .u8 z)] []=some (B true,[]):=by
 refine az HM rfl ?_;have hn:=os.n;have hc:=fun(m:Rm) (om:OkM m) (h:ah) (d:Nat) (hh:h 9=Zk) (hf:h (2000+8*d)=.dead)=>ahL (f:=5) (h:=h) (d:=d) (id:=9) (zas:=[cw m]) (as':=[cw m]) (jd.1.2.1 false) (jd.1.2.2.2 false) (by simp only[go_sem,dC,aBF,aBw]) Z Z hh LN LN (fun h=>h) (aqv om) (S6 _) (aBI rfl) (by simp[cj,cM,hf,bX]);have c1:=hc a oa;have c2:=hc b ob;by_cases g0:8<s.dom.length
 ·have f:((8:Int)< (s.dom.length:Int))=True:=tt;simp only[ft,ic,go_sem,aBo,aBn,aBm,iQ,haw,f]
 have f0:((8:Int)< (s.dom.length:Int))=False:=ff;cases g1:po3 a with
 |true=>
  rw[g1]at c1;simp only[ft,ic,go_sem,aBo,aBn,aBm,iQ,haw,f0];rw[c1 _ _ Z Z];simp only[go_sem,aBo,aBn,aBm,iQ,haw]
 |false=>
 cases g2:po3 b with
 |true=>
  rw[g1]at c1;rw[g2]at c2;simp only[ft,ic,go_sem,aBo,aBn,aBm,iQ,haw,f0];rw[c1 _ _ Z Z];simp only[go_sem,aBo,aBn,aBm,iQ,haw];rw[c2 _ _ Z Z];simp only[go_sem,aBo,aBn,aBm,iQ,haw]
 |false=>
 rw[g1]at c1;rw[g2]at c2;have hv:=GN os oa;by_cases hb:rm s a=false\/a.R.all=true
 ·have hL:=anV (z:=z) (b:=b) ω os oa (ack hb) (aqx hb) 7 0 rfl;have hx:=asH os oa ob hb;obtain⟨⟨⟨v,ts⟩,r⟩,hy,y1,y2⟩:=asI os oa ob hb;simp only at y1 y2;subst y1 y2;obtain⟨⟨av,ats⟩,⟨lo,hi,al⟩⟩:=a;simp only at hb;simp only[cw,yy,cu,cG,aG]at hL hv hx hy c1 c2;generalize rm s _=vb at hb hv;simp only[ft,ic,go_sem,aBo,aBn,aBm,iQ,haw,f0];rw[c1 _ _ Z Z];simp only[go_sem,aBo,aBn,aBm,iQ];rw[c2 _ _ Z Z];cases vb with
  |false=>
   simp only[go_sem,aBo,aBn,aBm,iQ,hv];generalize hX:ao 0 [4,5,6] _=X;obtain⟨hh,rfl,k4,k5,k6,kd⟩:=hL _ _ _ hX Z Z Z Z Z Z Z Z Z Z;simp only[go_sem,aBo,aBn,aBm,iQ,k4,k5,k6,kd,hx,hy,ne_eq,not_false_eq_true,aBV]
  |true=>
   obtain rfl:al=true:=hb.resolve_left δ;simp only[go_sem,aBo,aBn,aBm,iQ,hv];generalize hX:ao 0 [4,5,6] _=X;obtain⟨hh,rfl,k4,k5,k6,kd⟩:=hL _ _ _ hX Z Z Z Z Z Z Z Z Z Z;simp only[go_sem,aBo,aBn,aBm,iQ,k4,k5,k6,kd,hx,hy,ne_eq,not_false_eq_true,aBV]
 ·have g3:rm s a=true:=by
   cases h:rm s a
   ·exact absurd (.inl h) hb
   ·rfl
  have g4:a.R.all=false:=by
   cases h:a.R.all
   ·rfl
   ·exact absurd (.inr h) hb
  rw[g3]at hv;simp only[cw,yy,g4]at hv c1;simp only[ft,ic,go_sem,aBo,aBn,aBm,iQ,haw,f0,g4];rw[c1 _ _ Z Z];simp only[go_sem,aBo,aBn,aBm,iQ];rw[c2 _ _ Z Z];simp only[go_sem,aBo,aBn,aBm,iQ,hv,g4]
noncomputable def Hn:Env:=⟨fun f=>VK.lookup f,cQ.C,cQ.md⟩
noncomputable def R0:jJ:=jj Hn
theorem ES{f:FuncId}{hs:List Ob}{r:AV×List Ob}(hE:Hn.E f=none)(hC:Hn.C f=some fd)(hk:Hn.md.keep f=false)(h1:args.length=fd.np)(h2:hs.length<=1000)
  (hz:lI false fd.rs fd.res hs.length (ap R0 (aC false) fd.body (vH args) (au hs))=some r):R0 f args hs=some r:=by
 refine KJ hE hC ?_;unfold WQ;rw[aq ⟨h1,h2⟩,hk];exact hz
theorem B6(o:Ob):au [o]=upd (fun _=>.dead) 1000 o:=by
 unfold au upd;grind
theorem akr{r:List AV}{rs:List (List AV)}(h:(rs.length+1)*8<=140737488355328):R0 132 [.sl 1 (r::rs)] []=some (.osl 1 (r::rs),[]):=by
 refine ES (fd:=pO) κ κ κ rfl δ ?_;have e1:((rs.length+1)*8<=140737488355328)=True:=eq_true h;have e2:Im false (.sl 1 (r::rs))=some (B false):=rfl;simp only[pO,go_sem,e1,e2,aB0,aB1,aBi,aBB,aBh,true_and,true_or,aBw]
theorem aks:fm 4 .emp (some (I 0)) none none=some .emp:=rfl
theorem anY{r:List AV}:R0 136 [.emp,I 0,.sl 4 [r]] []=some (.osl 4 [r],[]):=by
 refine ES (fd:=bI) κ κ κ rfl δ ?_;have e1:((1:Int)=0)=False:=δ
 simp only[bI,go_sem,aks,aB0,aB1,Int.natCast_one,e1,aBi]
theorem C4{n i:Nat}(h:i<=n):me n (some (I i)) none none=some (i,n):=by
 simp_all[me,lQ,aBl,aq]
theorem ahO{k l0 n i:Nat}(h:i<=n):fm k (.rsl id none k l0 n) (some (I i)) none none=some (.rsl id none k (l0+i) (n-i)):=by
 simp_all[fm,if_true,C4,aBZ,Option.isNone_none]
theorem TG{h:ah}{j k n:Nat}(hj:bt j=false)(hh:h j=.ar k rows)(hn:n=rows.length)(hc:aE [1000] (h 1000)=true):vG [[]] 1 h [.rsl j none k 0 n]=some (.osl k rows,[h 1000]):=by
 simp_all[dx,vG,aq,vT,tZ,oG,DO,xw,bv,nrmV,nrmL,lR,cH,gN]
theorem ahP{r:List AV}{n:Nat}(hn:n=rows.length)(hb:(n+1)*64<=140737488355328):R0 136 [.rsl 1000 none 4 0 n,I n,.sl 4 [r]] [.ar 4 rows]=some (.osl 4 (rows++[r]),[.dead]):=by
 refine ES (fd:=bI) κ κ κ rfl σ ?_;subst hn;rw[B6];have e1:((1:Int)=0)=False:=δ
 have e2:=ahO (id:=1000) (k:=4) (l0:=0) (aBh rows.length);have e3:((rows.length+1)*64<=140737488355328)=True:=eq_true hb;have e4:(rows.length+1<=rows.length)=False:=ff;have e5:∀h,NI h 25 4 64 1000 4 0 rows.length [r] 4 rows=dw (upd h 1000 .dead) 25 4 (rows++[r]) (rows.length+1) [(1000,false)]:=fun h=>by
  simp_all[NI,List.length_singleton,ax,aq,trivial]
 simp only[bI,go_sem,aB0,aB1,Int.natCast_one,e1,e2,e3,e4,e5,aBi,aBR,Nat.sub_self,or_self,aBh,List.length_append];exact TG Z Z σ rfl
theorem aqy{f:FuncId}{g:List AV->List Ob->Option (AV×List Ob)}{hs:List Ob}(hE:Hn.E f=some g):R0 f args hs=g args hs:=Fb hE
theorem anZ{h:ah}{d:Nat}{r:List AV}{lo m:Nat}(hh:h 1000=.ar 4 rows)(hd:h (2000+8*d)=.dead):
  bB R0 (aC false) h d [.sl 4 [r],.rsl 1000 none 4 lo m] (.fn 184 [] [])=some (B false,upd h 1000 (.ar 4 rows),[(1000,true)]):=by
 have hm:(aC false).m 184=[0,1]:=by kernel_rfl
 have hs:(aC false).sh 184=[]:=by kernel_rfl
 have hk:(aC false).keep 184=false:=by kernel_rfl
 have hf:R0 184 [.sl 4 [r],.rsl 1000 none 4 lo m] [.ar 4 rows]=some (B false,[.ar 4 rows]):=by
  rw[aqy (g:=ovF 4) κ];simp[ovF]
 have hb:kC (aC false) [.sl 4 [r],.rsl 1000 none 4 lo m] (.fn 184 [] [])=false:=by
  grind[kC]
 have hr:bU h 40 [1000] 0=[1000]:=by
  grind[bU,lH,bC]
 have hn:cM (B false)=1:=rfl;unfold bB;rw[ax γ];have h1:ce h [0,1] [.sl 4 [r],.rsl 1000 none 4 lo m]=some ([.sl 4 [r],.rsl 1000 none 4 lo m],h,[]):=by
  simp[ce,dV,yq,gZ,aH]
 have h2:bC [] ([AV.sl 4 [r],.rsl 1000 none 4 lo m].flatMap cH)=[1000]:=by
  simp[cH,gN,bC]
 have h3:bg [1000] 1000=1000:=rfl;simp only[dZ,hm,aBw,aBz,h1,aBl,h2,hr,hs];simp[ke,bv,be,bw,hh,aE,bX,dS,ko,h3,dY,hf,eJ,hn,cj,hd,cY,bf,mG,A7,tQ,gN,ku,gr,Gi,eB,mat,ez,gD,hk,G1,hm]
theorem UM{k l0 n i:Nat}:fm k (.rsl id none k l0 n) (some (I i)) none none=(me n (some (I i)) none none).map fun p=>.rsl id none k (l0+p.1) (p.2-p.1):=by
 simp only[fm,if_true,Option.isNone_none]
theorem ahQ{n c i:Nat}(h:i<=c):lQ n c (some (I i))=some i:=by
 simp_all[lQ,aq]
theorem an0{r:List AV}{n i:Nat}(hn:n=rows.length)(hi:i<n)(hb:(n+1)*64<=140737488355328):
  R0 136 [.rsc 1000 4 0 n n,I i,.sl 4 [r]] [.ar 4 rows]=some (.osl 4 (rows.take i++r::rows.drop i),[.ar 4 rows]):=by
 refine ES (fd:=bI) κ κ κ rfl σ ?_;rw[B6];have e1:((1:Int)=0)=False:=δ
 have e2:((i:Int)=(n:Int))=False:=ff;have e3:aS ((n:Int)+1)=((n+1:Nat):Int):=wi;have e4:((n:Int)< ((n+1:Nat):Int))=True:=tt;have e5:aS (((n+1:Nat):Int)- (i:Int))=((n+1-i:Nat):Int):=wi;have e6:aS ((i:Int)+1)=((i+1:Nat):Int):=wi;have b1:=C4 (n:=n) (i:=i) ω;have b2:=ahQ (n:=n) (c:=n) (i:=i) ω;have b3:=C4 (n:=n+1) (i:=i) ω;have b4:=C4 (n:=n+1) (i:=i+1) ω;have f1:((0:Int)< ((n+1-i:Nat):Int))=True:=tt;have f2:(n<i+((n+1-i:Nat):Int).toNat)=True:=tt;have f3:i+((n+1-i:Nat):Int).toNat=n+1:=ω
 have f4:(i<=rows.length)=True:=tt;have f5:((n+1)*64<=140737488355328)=True:=eq_true hb;have f6:(n<n+1)=True:=tt;obtain⟨A,hA⟩:∃A,rows.take i++aBg ((n+1-i:Nat):Int).toNat [AV.emp,B false,AV.emp,I 0]=A:=⟨_,rfl⟩;have a1:A.length=n+1:=γ
 have a3:(i<=A.length)=True:=tt;obtain⟨D,hD⟩:∃D,A.take i++[r]++A.drop (i+1)=D:=⟨_,rfl⟩;have d1:D.length=n+1:=by
  grind
 have d2:D.take (i+1)=rows.take i++[r]:=by
  grind
 have d3:(i+1<=D.length)=True:=tt;have t1:List.take (n+1-i) [r]=[r]:=aBE γ;have t2:(rows.drop i).take (n-i)=rows.drop i:=aBE γ;have t3:(1=min 1 (n+1-i))=True:=tt;have t4:n+1- (i+1)=n-i:=ω
 have t5:(i+(n-i)<=rows.length)=True:=tt;have t6:(rows.drop i).length=n-i:=γ
 have t7:D.drop (i+1+(n-i))=[]:=aBQ ω;simp only[bI,go_sem,aB0,aB1,Int.natCast_one,e1,e2,e3,e4,e5,e6,b1,b2,b3,b4,f1,f2,f3,f4,f5,f6,hA,hD,a3,d3,t1,t2,t3,t4,t5,t6,t7,Nat.min_self,aBi,aBR,Nat.sub_self,or_self,aBh,UM,and_self];rw[d2];have hfin:rows.take i++[r]++rows.drop i=rows.take i++r::rows.drop i:=γ
 rw[hfin];exact TG Z Z γ rfl
theorem an1{r:List AV}{n i c:Nat}(hn:n=rows.length)(hi:i<n)(hc:n+1<=c)(hb:(n+1)*64<=140737488355328):
  R0 136 [.rsc 1000 4 0 n c,I i,.sl 4 [r]] [.ar 4 rows]=some (.osl 4 (rows.take i++r::rows.drop i),[.dead]):=by
 refine ES (fd:=bI) κ κ κ rfl σ ?_;rw[B6];have e1:((1:Int)=0)=False:=δ
 have e2:((i:Int)=(n:Int))=False:=ff;have e3:aS ((n:Int)+1)=((n+1:Nat):Int):=wi;have e4:((c:Int)< ((n+1:Nat):Int))=False:=ff;have e6:aS ((i:Int)+1)=((i+1:Nat):Int):=wi;have b1:=C4 (n:=n) (i:=i) ω;have b2:=ahQ (n:=n) (c:=c) (i:=n+1) hc;have b3:=C4 (n:=n+1) (i:=i) ω;have b4:=C4 (n:=n+1) (i:=i+1) ω;have o1:=fun(h:ah) (h0:h 1000=.ar 4 rows) (h1:h (2000+8*67)=.dead)=>anZ (r:=r) (lo:=i+1) (m:=n-i) h0 h1;have t1:List.take (n+1-i) [r]=[r]:=aBE γ;have t2:(rows.drop i).take (n-i)=rows.drop i:=aBE γ;have t3:(1=min 1 (n+1-i))=True:=tt;have t4:n+1- (i+1)=n-i:=ω
 have t5:(i+(n-i)<=rows.length)=True:=tt;have t6:(rows.drop i).length=n-i:=γ
 have t8:min (n-i) (n+1-i)=n-i:=ω
 have t9:(n-i=min (n+1-i) (n-i))=True:=tt;have f4:(i+1<=rows.length)=True:=tt;have t7:rows.drop (i+1+(n-i))=[]:=aBQ ω;obtain⟨A,hA⟩:∃A,rows.take (i+1)++rows.drop i=A:=⟨_,rfl⟩;have a1:A.length=n+1:=by
  grind
 have a2:A.take i=rows.take i:=by
  grind
 have a4:A.drop (i+1)=rows.drop i:=by
  grind
 have a3:(i<=A.length)=True:=tt;simp only[bI,go_sem,aB0,aB1,Int.natCast_one,e1,e2,e3,e4,e6,b1,b2,b3,b4,t4,aBi];rw[o1 _ Z Z];simp only[go_sem,aB0,aB1,Int.natCast_one,e1,e2,e3,e4,e6,b1,b2,b3,b4,t1,t2,t3,t4,t5,t6,t7,t8,t9,f4,a3,hA,aBi,aBR,Nat.sub_self,or_self,aBh,UM,and_self];rw[a2,a4,show rows.take i++[r]++rows.drop i=rows.take i++r::rows.drop i by grind];exact TG Z Z γ rfl
theorem F8(h:vals.size=args.length){i:Nat}{c:AV}(hc:args[i]?=some c):∃u,vals[i]?=some u:=by
 have:i<args.length:=(List.getElem?_eq_some_iff.1 hc).1
 simp_all
theorem aqz{a:Value}(h:vals.size=1)(h0:vals[0]?=some a):vals=#[a]:=by
 grind
theorem awP{a b:Value}(h:vals.size=2)(h0:vals[0]?=some a)(h1:vals[1]?=some b):vals=#[a,b]:=by
 grind
theorem UN{w:World}{a}{us}{e}(h:w.heap[a.block]?=some (.cells us e (0,0))):w.frozen? a=false:=by
 simp[World.frozen?,h]
theorem an2{P}(w)(tS tR e)(ht:P.underlying tS=some (.slice e))(size)(hz:∀w,(Go.sizeOf e).run P w=.ok size w)(a)(b)(la ca cb):
  (Extern.SlicesOverlaps.overlaps #[tS,tS] #[tR] #[.slice (some a) la ca,.slice b 0 cb]).run P w=.ok (.bool false) w:=by
 change Sem.run P (α:=Value) (do
  let some t:= (#[tS,tS])[0]?|stuck "slices.overlaps: no parameter types"
  let .slice elem←underlying t|stuck "slices.overlaps: slice type expected"
  let size←sizeOf elem
  match (some a),b with
  |some a,some b=>
   if la=0\/0=0\/size=0 then pure (Value.bool false)
   else if a.block !=b.block&& (←frozen a)&& (←frozen b)then unsupported .addressObserved
   else do
    if a.block !=b.block then do
     noView a;noView b
     if←mayBeOne a b then return Value.bool ((←choose (.extern "sameAddr.stringBytes" 2))==1)
    pure (Value.bool (a.block==b.block&&a.off<b.off+0*size&&b.off<a.off+la*size))
  |_,_=>pure (Value.bool false)) w=_
 cases b<;>simp[run_underlying ht,hz]
theorem aqA(w:World)(tS tR e:TypeId)(ht:P.underlying tS=some (.slice e))(size:Nat)(hz:∀w,(Go.sizeOf e).run P w=.ok size w)
  (a b:Addr) (la ca lb cb:Nat) (hne:a.block≠b.block) (tA:TypeId) (kA:Nat) {tB:TypeId}
  (hkA:kA≠0) (hsa:w.shape? a.block=some (tA,kA)) (hb:w.heap[b.block]?=some (.cells us tB (0,0))) (hu:us.size≠0):
  (Extern.SlicesOverlaps.overlaps #[tS,tS] #[tR] #[.slice (some a) la ca,.slice (some b) lb cb]).run P w=.ok (.bool false) w:=by
 have hnb:(a.block !=b.block)=true:=γ
 have hnb':(a.block==b.block)=false:=γ
 have hsb:w.shape? b.block=some (tB,us.size):=by simp[World.shape?,hb]
 have hfb:w.frozen? b=false:=UN hb;have hfe:w.frozen? {block:=b.block,off:=us.size}=false:=UN (a:=⟨b.block,us.size,none⟩) hb;change Sem.run P (α:=Value) (do
  let some t:= (#[tS,tS]:Array TypeId)[0]?|stuck "slices.overlaps: no parameter types"
  let .slice elem←underlying t|stuck "slices.overlaps: slice type expected"
  let size←sizeOf elem
  match (some a:Option Addr),(some b:Option Addr)with
  |some a,some b=>
   if la=0\/lb=0\/size=0 then pure (Value.bool false)
   else if a.block !=b.block&& (←frozen a)&& (←frozen b)then unsupported .addressObserved
   else do
    if a.block !=b.block then do
     noView a;noView b
     if←mayBeOne a b then return Value.bool ((←choose (.extern "sameAddr.stringBytes" 2))==1)
    pure (Value.bool (a.block==b.block&&a.off<b.off+lb*size&&b.off<a.off+la*size))
  |_,_=>pure (Value.bool false)) w=_
 by_cases h0:la=0\/lb=0\/size=0
 ·simp_all[run_underlying]
 ·obtain⟨kA,rfl⟩:∃k,kA=k+1:=⟨kA-1,by omega⟩;cases hfa:w.frozen? a<;>cases hfa2:w.frozen? {block:=a.block,off:=kA+1}<;>
   simp[run_underlying ht,hz,h0,hnb,hnb',frozen,noView,viewAt,mayBeOne,stringish,shape,Sem.run,hsa,hsb,hfa,hfa2,hfb,hfe]
theorem aeu{w:World}{a:Addr}{v:Value}(h:w.cell? a=some v):∃t k,k≠0/\w.shape? a.block=some (t,k):=by
 unfold World.cell? at h;split at h
 ·rename_i cs t fr hb;refine⟨t,cs.size,fun h0=>?_,by unfold World.shape?;grind⟩;grind
 grind
theorem aqB{I:Inv}{f:FuncId}{fn:Func}{tS tR e:TypeId}{size:Nat}(hf:P.funcs[f]?=some fn)(hname: (fn.name== "runtime.NumGoroutine")=false)(hb:fn.body.isNone=true)(hn:Extern.findNext fn=none)
  (he:Extern.find fn=some (Extern.SlicesOverlaps.overlaps #[tS,tS] #[tR])) (ht:P.underlying tS=some (.slice e)) (hz:∀w,(Go.sizeOf e).run P w=.ok size w):qt P I false f (ovF 4):=by
 intro args obs obs' res w X ρ vals n hz' hn' hi hr hs hv;unfold ovF at hz';split at hz'
 ·rename_i k0 row rows k1 lo m k2 rows2;split at hz'
  ·rename_i hk;obtain⟨rfl,rfl,rfl⟩:=hk;cases hz';obtain⟨u0,h0⟩:=F8 hs (i:=0) rfl;obtain⟨u1,h1⟩:=F8 hs (i:=1) rfl;have e0:=hv 0 _ _ rfl h0;have e1:=hv 1 _ _ rfl h1;obtain rfl:=awP hs h0 h1;have d0:=e0.sl_inv;obtain⟨a1,cap1,rfl,hp,hn1,hb1,ha1⟩:=e1.rsl_inv;have ho:RO w (aM w X (au [.ar 4 rows2]) ρ) ρ (au [.ar 4 rows2]) 1000 (.ar 4 rows2):=hr.ob 1000;obtain⟨us,tB,g1,g2,g3,g4⟩:=ho;have hlive:live (au [.ar 4 rows2]) 1000 none:=trivial;cases d0 with
   |sl _ _ a cap ad vs hc ha hk hv2 hl hr2=>
    obtain⟨rfl,hA,hsp⟩:=ha σ;have hlen:=hk row σ;obtain⟨c,hrow⟩:∃c,row[0]?=some c:=⟨row[0]'(by omega),by simp⟩;have hcell:=hv2 0 row 0 c rfl hrow;obtain⟨tA,kA,hkA,hsh⟩:=aeu hcell;have run:(callFunc f #[.slice (some ad) (row::rows).length cap,.slice a1 m cap1]).run P w=.ok (.value (.bool false)) w:=by
     rw[run_callFunc_extern hf hname hb hn he];by_cases hm:m=0
     ·simp_all[an2]
     ·rcases ha1 with h|rfl
      ·omega
      ·rw[aqA w tS tR e ht size hz ad ⟨(ρ 1000 none).1,lo*4,none⟩ _ cap m cap1 (fun hh=>hA.2.2 ⟨1000,none,hlive,hh.symm⟩) tA kA hkA hsh g1 ω];rfl
    unfold Enters;rw[run];exact⟨ρ,hr,.refl _ _ _ _,.dat (.v _ rfl)⟩
  grind
 grind
theorem an3{I:Inv}(hR:qt P I false 136 (R0 136)):qt P I false 136 (Xe 4 64):=by
 intro args obs obs' res w X ρ vals n hz hn hi hr hs hv;unfold Xe at hz;split at hz
 ·rename_i k0 r;split at hz
  ·rename_i hk;subst hk;cases hz;exact hR anY hn hi hr hs hv
  grind
 ·rename_i k1 m i k0 r k2 rows;split at hz
  ·rename_i hk;obtain⟨rfl,rfl,rfl,rfl,hi0,hi1,hb⟩:=hk;cases hz;obtain⟨i,rfl⟩:=aCj hi0;rw[aBr];by_cases hend:i=rows.length
   ·subst hend;have:=hR (ahP (r:=r) rfl hb) hn hi hr hs hv;grind
   ·have hlt:i<rows.length:=ω
    obtain⟨u0,h0⟩:=F8 hs (i:=0) rfl;obtain⟨a,cap,rfl,hp,hn1,hb1,ha⟩:=(hv 0 _ _ rfl h0).rsl_inv;have hv':∀ (j:Nat) (c:AV) (u:Value),[AV.rsc 1000 4 0 rows.length cap,.v (.int .i64 i),.sl 4 [r]][j]?=some c->vals[j]?=some u->RV w (aM w X (au [.ar 4 rows]) ρ) ρ (au [.ar 4 rows]) c u:=by
     intro j c u hc hu
     match j,hc with
     |0,hc=>
      cases hc;rw[h0]at hu;cases hu;exact .rsc 1000 4 0 _ cap a hp hn1 hb1 ha
     |j+1,hc=>grind
    rcases Nat.lt_or_ge rows.length cap with hc|hc
    ·exact hR (an1 rfl hlt hc hb) hn hi hr hs hv'
    ·obtain rfl:cap=rows.length:=ω
     refine(hR (an0 rfl hlt hb) hn hi hr hs hv').mono fun v w' ⟨ρ',q1,q2,q3⟩=>?_;generalize rows.take i++r::rows.drop i=L at q1 q2 q3⊢;have hd:=Pw q1 (id:=1000) (k:=4) (rows:=rows) (by
      show(if 1000=n then _ else _)=_;rw[ax ω];rfl)
     have eq:upd (mat n (au [.ar 4 rows]) (.osl 4 L)).2 1000 .dead=(mat n (au [.dead]) (.osl 4 L)).2:=by
      show upd (upd (au [.ar 4 rows]) n (.ar 4 L)) 1000 .dead=upd (au [.dead]) n (.ar 4 L);rw[B6,B6];unfold upd;grind
     rw[eq]at hd;refine⟨ρ',hd.1,q2.trans (hd.2.far rfl),hd.2.rvk q3 (.inr ?_)⟩;show kl [(1000,false)] n none=false;grind[kl]
  grind
 grind
theorem AY{w w':World}{X:Nat->Prop}{ρ:eS}(hr:Rel w X ρ (au []))(hb:Below w.heap.size w w'):Rel w' X ρ (au [])/\Far false w ρ (au []) w' ρ (au []):=by
 have hl:∀id sub,¬live (au []) id sub:=fun id sub=>by
  have hd:au [] id=.dead:=by
   grind[au]
  cases sub with
  |none=>grind[live]
  |some p=>grind[live]
 refine⟨⟨fun id sub _ _ h=>(hl id sub h).elim,fun id sub h=>(hl id sub h).elim,fun id=>?_,fun b hb'=>aCf (hr.xl b hb') hb.size⟩,hb.os,hb.tape,hb.output,hb.size,fun b h1 _=>hb.block b h1,fun b ⟨id,sub,h,_⟩=>(hl id sub h).elim,fun id _ h=>?_,fun h=>by grind⟩
 ·have hd:au [] id=.dead:=by
   grind[au]
  rw[hd];trivial
 grind
theorem aqC{I:Inv}{ρ0:Ren}(L:Lays2.n15 P ρ0)(hf:ρ0.f 15=132)(he:∀a w,(callFunc 132 a).run P w=.ok (.enter 132 a) w)
  (hR:qt P I false 132 (R0 132)):qt P I false 132 clF:=by
 intro args obs obs' res w X ρ vals n hz hn hi hr hs hv;unfold clF at hz;split at hz
 ·obtain⟨u0,h0⟩:=F8 hs (i:=0) rfl;have d0:=(hv 0 _ _ rfl h0).sl_inv;obtain rfl:=aqz hs h0;cases d0 with
  |sl _ _ a cap ad vs hc ha hk hv2 hl hr2=>
   unfold Enters;rw[he];have fin:∀ (w':World) (b:Option Addr) (c:Nat),Below w.heap.size w w'->∃ρ',Rel w' X ρ' (mat n (au []) (.sl 1 [])).2/\Far false w ρ (au []) w' ρ' (mat n (au []) (.sl 1 [])).2/\
     RV w' (aM w' X (mat n (au []) (.sl 1 [])).2 ρ') ρ' (mat n (au []) (.sl 1 [])).2 (mat n (au []) (.sl 1 [])).1 (.slice b 0 c):=fun w' b c hb=>
    ⟨ρ,(AY hr hb).1,(AY hr hb).2,.dat (.sl 1 [] b c ad vs (aBB _) (fun h=>absurd rfl h) (fun _ h=>by grind) (fun i row j c h=>by grind) (fun _ h=>by grind) (fun i row j c h=>by grind))⟩
   cases a with
   |none=>
    have key:=Any.slices_Clone_int_nil L 0 cap w;rw[hf]at key;refine Calls.mono key fun e w' hw=>?_
    simp_all[Below.refl]
   |some a0=>
    have key:=Any.slices_Clone_int_zero L a0 cap w;rw[hf]at key;refine Calls.mono key fun e w' hw=>?_;obtain⟨v',rfl,⟨_,hown⟩,_,hb⟩:=hw;rcases hown with⟨rfl,_⟩| ⟨g,c2,J4,rfl,_⟩
    all_goals simp_all
 ·split at hz
  ·rename_i hb;cases hz;exact hR (akr hb) hn hi hr hs hv
  grind
 grind
theorem an4{I:Inv}{f:FuncId}{g:List AV->List Ob->Option (AV×List Ob)}{k:Nat}{E:AV}{q:Nat->Prop}(he:∀a w,(callFunc f a).run P w=.ok (.enter f a) w)
  (hW:∀a c w,Calls P f #[.slice a 0 c] w fun e w'=>(∃b d,e=.returned (.slice b 0 d)/\q d)/\Below w.heap.size w w') (hE:E=.sl k []\/E=.emp/\∀d,q d->d=0)
  (hm:∀args obs r,g args obs=some r->(args=[.sl k []]/\obs=[]/\r=(E,[]))\/R0 f args obs=some r) (hR:qt P I false f (R0 f)):qt P I false f g:=by
 intro args obs obs' res w X ρ vals n hz hn hi hr hs hv;rcases hm _ _ _ hz with⟨rfl,rfl,h⟩|h
 ·cases h;obtain⟨u0,h0⟩:=F8 hs (i:=0) rfl;have d0:=(hv 0 _ _ rfl h0).sl_inv;obtain rfl:=aqz hs h0;cases d0 with
  |sl _ _ a cap ad vs hc ha hk hv2 hl hr2=>
   unfold Enters;rw[he];refine Calls.mono (hW a cap w) fun e w' hw=>?_;obtain⟨⟨b,c,rfl,hq⟩,hb⟩:=hw;rcases hE with rfl| ⟨rfl,h0⟩
   ·exact⟨ρ,(AY hr hb).1,(AY hr hb).2,.dat (.sl k [] b c ad vs (aBB _) (fun h=>absurd rfl h) (fun _ h=>by cases h) (fun i row j c h=>by simp at h) (fun _ h=>by cases h) (fun i row j c h=>by simp at h))⟩
   ·obtain rfl:=h0 _ hq;exact⟨ρ,(AY hr hb).1,(AY hr hb).2,.dat (.emp b)⟩
 ·exact hR h hn hi hr hs hv
theorem ahR{r:List AV}{rs:List (List AV)}(h:(rs.length+1)*4<=140737488355328):R0 164 [.sl 1 (r::rs)] []=some (.sl 1 (r::rs),[]):=by
 refine ES (fd:=gX) κ κ κ rfl δ ?_;have e1:((rs.length+1)*4<=140737488355328)=True:=eq_true h;have e2:Im false (.sl 1 (r::rs))=some (B false):=rfl;simp only[gX,go_sem,e1,e2,aB0,aB1,aBi,aBB,aBh,true_and,true_or,aBw]
theorem asJ(args:List AV)(obs:List Ob)(r:AV×List Ob)(h:clU args obs=some r):(args=[.sl 1 []]/\obs=[]/\r=(.sl 1 [],[]))\/R0 164 args obs=some r:=by
 unfold clU at h;split at h
 ·cases h;exact .inl ⟨rfl,rfl,rfl⟩
 ·split at h
  ·rename_i hb;cases h;exact .inr (ahR hb)
  ·cases h
 ·cases h
theorem akt(a:Option Addr)(c:Nat)(w:World):Calls Tryz.prog 164 #[.slice a 0 c] w fun e w'=>(∃b d,e=.returned (.slice b 0 d)/\d=0)/\Below w.heap.size w w':=by
 have q:∀ (w:World) (a:Option Addr) (n c n' c':Nat),(binOp .eql 28 (.slice a n c) (.slice none n' c')).run Tryz.prog w=.ok (.bool a.isNone) w:=fun w a n c n' c'=>Lib.run_eql_slice_nil w _ _ a n c n' c' Tryz.underlying28;cases a with
 |none=>
  go_enter Tryz.func164,Tryz.ntmps164
  go_wp2
  go_ret
  exact⟨⟨_,_,rfl,rfl⟩,Below.refl _ _⟩
 |some a=>
  go_enter Tryz.func164,Tryz.ntmps164
  go_wp2
  go_ret
  exact⟨⟨_,_,rfl,rfl⟩,(Below.refl _ w).alloc (aBh _) _⟩
def alj:Ren:=⟨fun|28=>213|n=>n,fun|25=>79|27=>78|53=>206|n=>n,fun|0=>1|n=>n⟩
theorem ahS:Lays7.n28 Tryz.prog alj where
 mixed:=by kernel_rfl
 f28:=by kernel_rfl
 t0:=by kernel_rfl
 a0:=Tryz.isAgg0
 z0:=Tryz.sizeOf0
 v0:=Tryz.zeroValue0
 i0:=by kernel_rfl
 t3:=by kernel_rfl
 a3:=Tryz.isAgg3
 z3:=Tryz.sizeOf3
 v3:=Tryz.zeroValue3
 i3:=by kernel_rfl
 t4:=by kernel_rfl
 a4:=Tryz.isAgg4
 z4:=Tryz.sizeOf4
 v4:=Tryz.zeroValue4
 i4:=by kernel_rfl
 t5:=by kernel_rfl
 a5:=Tryz.isAgg5
 z5:=Tryz.sizeOf5
 v5:=Tryz.zeroValue5
 i5:=by kernel_rfl
 t25:=by kernel_rfl
 a25:=Tryz.isAgg79
 z25:=Tryz.sizeOf79
 v25:=Tryz.zeroValue79
 i25:=by kernel_rfl
 t27:=by kernel_rfl
 a27:=Tryz.isAgg78
 z27:=Tryz.sizeOf78
 v27:=Tryz.zeroValue78
 i27:=by kernel_rfl
 t53:=by kernel_rfl
 a53:=Tryz.isAgg206
 z53:=Tryz.sizeOf206
 v53:=Tryz.zeroValue206
 i53:=by kernel_rfl
 g0:=by kernel_rfl
def Ho:Inv where
 p w X:=(TabAt 1 Lib.deBruijn32tab w/\X 3)/\X 1/\¬X 0/\∃u,w.cell? ⟨0,0,none⟩=some u/\RD w (fun b=>X (2*b+1)/\¬X (2*b)) kdA u
 stab:=fun{w w' X} ⟨⟨h,h3⟩,h1,h0,u,hc,hr⟩ hs=>⟨⟨fun j hj=>by rw[oI (hs 1 (.inr h3))];exact h j hj,h3⟩,h1,h0,u,by rw[oI (hs 0 (.inr h1))];exact hc,hr.mono fun b hb=>⟨hb,hs b (.inr hb.1)⟩⟩
 more:=fun{w X X'} ⟨⟨h,h3⟩,h1,h0,u,hc,hr⟩ hm hn=>⟨⟨h,hm _ h3⟩,hm _ h1,fun h=>h0 (hn 0 h1 h),u,hc,hr.mono fun b hb=>⟨⟨hm _ hb.1,fun h=>hb.2 (hn b hb.1 h)⟩,rfl⟩⟩
 gl:=fun{w X g a} ⟨_,h1,h0,u,hc,hr⟩ e=>by
  unfold glV at e;split at e
  ·cases e;exact⟨rfl,h1,h0,u,hc,hr⟩
  ·cases e
theorem acl:∀ (k x:Nat),Lib.ctzFrom k x=Ue k x
 |0,x=>rfl
 |k+1,x=>by
  unfold Lib.ctzFrom Ue;rw[acl k (x/2),Nat.add_comm]
set_option maxRecDepth 100000 in
theorem alk:qt Tryz.prog Ho false 213 tzF:=by
 intro args obs obs' res w X ρ vals n hz hn hi hr hs hv;unfold tzF at hz;split at hz
 ·rename_i x;by_cases hc:0<x/\x<4294967296/\obs=[]
  ·rw[if_pos hc]at hz;obtain⟨h0,h1,rfl⟩:=hc;simp only[Option.some.injEq,Prod.mk.injEq]at hz;obtain⟨rfl,rfl⟩:=hz;have hv0:=hv 0 (.v (.int .u32 x)) (vals.getD 0 undef) rfl (by simp at hs;simp[Array.getD_eq_getD_getElem?,hs]);have e0:vals=#[.int .u32 x]:=by
    simp only[aB0,aB1]at hs;have:=hv0.v_inv.1;apply Array.ext
    ·simpa using hs
    ·intro i h2 h3;have:i=0:=by simp at h3;exact h3
     subst this;simpa [Array.getD_eq_getD_getElem?,hs]using this
   subst e0;obtain⟨m,rfl⟩:∃m:Nat,x=m:=⟨x.toNat,by omega⟩;have key:=Any7.bits_TrailingZeros32 ahS m ω w fun _=>hi.1.1;have he:(callFunc 213 #[.int .u32 (m:Int)]).run Tryz.prog w=.ok (.enter 213 #[.int .u32 (m:Int)]) w:=(enters_of (ahS.f28) κ rfl:Proofs.Enters Tryz.prog (alj.f 28)) _ _;unfold Enters;rw[he];refine Calls.mono key fun e w' hw=>?_;obtain⟨rfl,rfl⟩:=hw;refine⟨ρ,hr,.refl _ _ _ _,?_⟩;refine .dat ?_;have:Lib.ctz 32 m=Ue 32 m:=by
    unfold Lib.ctz;rw[if_neg ω,acl]
   simp only[this,aBr,mat,ez];exact .v _ rfl
  ·rw[if_neg hc]at hz;cases hz
 ·cases hz
section
variable {H:Type} {enc:TypeId × Value→H} {w:World}
def Il(w:World)(b:Nat):Prop:=b<w.heap.size
def D8(w:World):Prop:=∀o v,w.cell? ⟨1,o,none⟩=some v->∃n,v=.int .u8 n
def F9(u:Value):Prop:=u=u
theorem ahT(_:D8 w){a:Addr}{u:Value}(h:w.cell? a=some u)(_:F9 u):Il w a.block/\a.spot=none:=by
 have h1:a.spot=none:=by
  unfold World.cell? at h;split at h
  ·split at h
   ·cases h
   ·rename_i hs;simpa using hs
  ·cases h
 refine⟨?_,h1⟩;unfold World.cell? at h;split at h
 ·rename_i hb;exact(Array.getElem?_eq_some_iff.1 hb).1
 ·cases h
def rM(w:World)(fs:List AV)(cs:List Value):Prop:=
 fs.length=cs.length/\∀ (j:Nat) (c:AV) (u:Value),fs[j]?=some c->cs[j]?=some u->RD w (Il w) c u/\aH c=true/\u.oneCell'=true
theorem rM.app{fa fb:List AV}{ca cb:List Value}(ha:rM w fa ca)(hb:rM w fb cb):rM w (fa++fb) (ca++cb):=by
 refine⟨by simp[ha.1,hb.1],fun j c u h1 h2=>?_⟩;by_cases hj:j<fa.length
 ·rw[List.getElem?_append_left hj]at h1;rw[List.getElem?_append_left (by rw[←ha.1];exact hj)]at h2;exact ha.2 j c u h1 h2
 ·rw[List.getElem?_append_right ω]at h1;rw[List.getElem?_append_right (by rw[←ha.1];omega),←ha.1]at h2;exact hb.2 _ c u h1 h2
theorem rM.one{c:AV}{u:Value}(h:RD w (Il w) c u)(hd:aH c=true)(h1:u.oneCell'=true):rM w [c] [u]:=by
 refine⟨rfl,fun j c' u' hc hu=>?_⟩;cases j with
 |zero=>simp at hc hu;subst hc hu;exact⟨h,hd,h1⟩
 |succ j=>simp at hc
noncomputable abbrev Tr (w:World) (enc:TypeId×Value->H) (n:Nat) (t:TypeId) (cs:List Value):Option (DataW H×List MemPlace):=DataW.trod enc Tryz.prog w 0 (fun _=>true) true n t cs
def wt(t:TypeId)(d:DataW H):Prop:=∀m∈DataW.weights Tryz.prog t d,m<=reachBytes
theorem aqD{e:TypeId}:∀ {l:List (DataW H)} {d:DataW H} {m:Nat},d∈l->m∈DataW.weights Tryz.prog e d->m∈DataW.weightsAll Tryz.prog e l
 |[],d,m,h,_=>by simp at h
 |a::l,d,m,h,hm=>by
  simp only[DataW.weightsAll,List.mem_append];rcases List.mem_cons.1 h with rfl|h
  ·exact .inl hm
  ·exact .inr (aqD h hm)
theorem acm{α:Type}{p:Nat->α->Prop}:∀ (n:Nat),(∀i,i<n->∃r,p i r)->∃l:List α,l.length=n/\∀ (i:Nat) (r:α),l[i]?=some r->p i r
 |0,_=>⟨[],rfl,fun i r h=>by simp at h⟩
 |n+1,h=>by
  obtain⟨l,h1,h2⟩:=acm n fun i hi=>h i ω;obtain⟨r,hr⟩:=h n ω;refine⟨l++[r],by simp[h1],fun i r' hi=>?_⟩;by_cases hin:i<n
  ·rw[List.getElem?_append_left ω]at hi;exact h2 i r' hi
  ·rw[List.getElem?_append_right ω]at hi;have:i=n:=by
    have:=(List.getElem?_eq_some_iff.1 hi).1;simp at this;omega
   subst this;simp[h1]at hi;subst hi;exact hr
theorem MJ{α:Type}{t e:TypeId}{k bs:Nat}(ht:Tryz.prog.underlying t=some (.slice e))(hk:Tryz.prog.cellsOf e=k)(h0:0<k)(hbs:Tryz.prog.bytesOf e=bs)(F:α->List AV)(Q:α->Prop)(hT:D8 w)
  (hrow:∀n cs' x,Tr w enc n e cs'=some x->wt e x.1->∃r,Q r/\rM w (F r) cs'/\∃u,cs'[0]?=some u/\F9 u) {fuel:Nat} {cs:List Value} {x:DataW H×List MemPlace}
  (h:Tr w enc fuel t cs=some x) (hw:wt t x.1):∃ (l:List α) (v:Value),cs=[v]/\(∀r∈l,Q r)/\l.length*bs<=reachBytes/\RD w (Il w) (.sl k (l.map F)) v/\v.oneCell'=true/\F9 v:=by
 rcases open_slice ht h with⟨rfl,_⟩| ⟨a,len,cap,m,n,D,Pl,rfl,hb,hl,hm,hmm,rfl,hx⟩
 ·exact⟨[],_,rfl,fun r hr=>by simp at hr,by simp,.sl k [] none 0 ⟨0,0,none⟩ (fun _ _=>undef) σ (fun h=>absurd rfl h) (fun r hr=>by simp at hr) (fun i r j c hr=>by simp at hr) (fun r hr=>by simp at hr) (fun i r j c hr=>by simp at hr),rfl,rfl⟩
 ·have hlm:len<=m:=by rw[hmm];split<;>omega
  have hwe:∀i,i<len->wt e (D i):=fun i hi q hq=>by
   refine hw q ?_;simp only[DataW.weights,ht,List.mem_cons,List.mem_append];exact .inr (.inl (aqD (List.mem_map.2 ⟨i,List.mem_range.2 hi,rfl⟩) hq))
  have hbn:len*bs<=reachBytes:=by
   have:=hw ((((List.range len).map D).length+((List.range (m-len)).map fun j=>D (len+j)).length)*Tryz.prog.bytesOf e) (by simp[DataW.weights,ht]);simp only[List.length_map,List.length_range,hbs]at this;exact aBq (aBv _ ω) this
  obtain⟨l,l1,l2⟩:=acm (p:=fun i r=>Q r/\∃cs',w.cells? 0 (a.add (i*k)) k=some cs'/\rM w (F r) cs'/\∃u,cs'[0]?=some u/\F9 u) len fun i hi=>by
   obtain⟨cs',h1,h2⟩:=hx i ω;obtain⟨r,g1,g2,g3⟩:=hrow _ _ _ h2 (hwe i hi);rw[hk]at h1;exact⟨r,g1,cs',h1,g2,g3⟩
  have cell:∀ (i:Nat) (row:List AV) (j:Nat) (c:AV),(l.map F)[i]?=some row->row[j]?=some c->∃u,w.cell? (a.add (i*k+j))=some u/\RD w (Il w) c u/\aH c=true:=fun i row j c hi hj=>by
   simp only[aBS,aBj]at hi;obtain⟨r,hr,rfl⟩:=hi;obtain⟨_,cs',c1,c2,_⟩:=l2 i r hr;obtain⟨_,c3,c4⟩:=World.cells?_some c1;have hjk:j<k:=by
    have:=(List.getElem?_eq_some_iff.1 hj).1;rw[c2.1,c3]at this;exact this
   have:=c4 j hjk;rw[EW]at this;obtain⟨u,hu⟩:∃u,cs'[j]?=some u:=⟨cs'[j]'(by omega),by simp⟩;exact⟨u,by rw[this,hu],(c2.2 j c u hj hu).1,(c2.2 j c u hj hu).2.1⟩
  refine⟨l,_,rfl,fun r hr=>?_,by rw[l1];exact hbn,?_,rfl,rfl⟩
  ·obtain⟨i,hi⟩:=aB5 hr;exact(l2 i r hi).1
  ·have:=RD.sl (w:=w) (A:=Il w) k (l.map F) (some a) cap a (fun i j=>(w.cell? (a.add (i*k+j))).getD undef) (by simp[l1,hl]) (fun hne=>?_) (fun row hr=>?_) (fun i row j c hi hj=>?_) (fun row hr c hc=>?_) (fun i row j c hi hj=>?_)
   ·simpa [l1]using this
   ·have hlen:0<l.length:=List.length_pos_iff.2 fun e=>hne (by simp[e]);obtain⟨_,cs',c1,c2,u,c3,c4⟩:=l2 0 l[0] σ;have:=(World.cells?_some c1).2.2 0 h0;rw[c3,Nat.zero_mul,Gm,Gm]at this;obtain⟨q1,q2⟩:=ahT hT this c4;exact⟨rfl,q1,q2⟩
   ·simp only[aB7]at hr;obtain⟨r,hr,rfl⟩:=hr;obtain⟨i,hi⟩:=aB5 hr;obtain⟨_,cs',c1,c2,_⟩:=l2 i r hi;rw[c2.1];exact(World.cells?_some c1).2.1
   ·obtain⟨u,q1,_⟩:=cell i row j c hi hj;rw[q1];rfl
   ·obtain⟨i,hi⟩:=aB5 hr;obtain⟨j,hj⟩:=aB5 hc;obtain⟨u,_,_,q⟩:=cell i row j c hi hj;exact q
   ·obtain⟨u,q1,q2,_⟩:=cell i row j c hi hj;rw[q1];exact q2
theorem an5{n:Nat}{cs:List Value}{x:DataW H×List MemPlace}(h:Tr w enc n 78 cs=some x)(_:wt 78 x.1):∃r:Nat,r<4294967296/\rM w [U (r:Int)] cs/\∃u,cs[0]?=some u/\F9 u:=by
 obtain⟨z,rfl,rfl,hw⟩:=DataW.trod_int Tryz.underlying78 h;simp only[Lit.wf,aBk,decide_eq_true_eq]at hw;have h1:(0:Int)<=z:=hw.1;have h2:z<=4294967295:=hw.2;obtain⟨m,rfl⟩:∃m:Nat,z=m:=⟨z.toNat,by omega⟩;exact⟨m,by omega,.one (.v _ rfl) Z Z,_,rfl,rfl⟩
theorem an6{n:Nat}{cs:List Value}{x:DataW H×List MemPlace}(h:Tr w enc n 3 cs=some x)(_:wt 3 x.1):∃r:Int,True/\rM w [I r] cs/\∃u,cs[0]?=some u/\F9 u:=by
 obtain⟨z,rfl,rfl,hw⟩:=DataW.trod_int Tryz.underlying3 h;exact⟨z,trivial,.one (.v _ rfl) Z Z,_,rfl,rfl⟩
theorem ahU(hT:D8 w){n:Nat}{cs:List Value}{x:DataW H×List MemPlace}(h:Tr w enc n 28 cs=some x)(hw:wt 28 x.1):∃m:List Nat,(Lb m/\m.length<4611686018427387904)/\rM w [lm m] cs/\∃u,cs[0]?=some u/\F9 u:=by
 obtain⟨l,v,rfl,h1,h2,h3,h4,h5⟩:=MJ (k:=1) (bs:=4) Tryz.underlying28 κ δ κ (fun(r:Nat)=>[U (r:Int)]) (fun r=>r<4294967296) hT (fun n cs' x=>an5) h hw;refine⟨l,⟨h1,?_⟩,.one h3 rfl h4,_,rfl,h5⟩;unfold reachBytes at h2;omega
theorem aku(hT:D8 w){n:Nat}{cs:List Value}{x:DataW H×List MemPlace}(h:Tr w enc n 37 cs=some x)(hw:wt 37 x.1):∃m:List Int,True/\rM w [.sl 1 (aZ m)] cs/\∃u,cs[0]?=some u/\F9 u:=by
 obtain⟨l,v,rfl,h1,h2,h3,h4,h5⟩:=MJ (k:=1) (bs:=8) Tryz.underlying37 κ δ κ (fun(r:Int)=>[I r]) (fun r=>True) hT (fun n cs' x=>an6) h hw;exact⟨l,trivial,.one h3 rfl h4,_,rfl,h5⟩
theorem Zl(hT:D8 w){n:Nat}{cs:List Value}{x:DataW H×List MemPlace}(h:Tr w enc n 30 cs=some x)(hw:wt 30 x.1):∃d:Rd,Ok0 d/\rM w (aj d) cs/\∃u,cs[0]?=some u/\F9 u:=by
 obtain⟨y0,y1,y2,m,rfl,hl,h0,h1,h2⟩:=trod_struct3 Tryz.underlying30 h;have hl3:cs.length=3:=hl.trans κ
 match cs,hl3 with
 |[a,b,c],_=>
  have k0:Tr w enc m 4 [a]=some y0:=h0;have k1:Tr w enc m 28 [b]=some y1:=h1;have k2:Tr w enc m 3 [c]=some y2:=h2;have w1:wt 28 y1.1:=fun q hq=>hw q (by simp[DataW.weights,DataW.weightsEach,Tryz.underlying30];exact .inr (.inl hq));obtain⟨bb,e0,e1⟩:=DataW.trod_bool Tryz.underlying4 k0;simp only[List.cons.injEq,and_true]at e0;subst e0;obtain⟨l,⟨q1,q2⟩,q3,_⟩:=ahU hT k1 w1;obtain⟨z,e2,e3,_⟩:=DataW.trod_int Tryz.underlying3 k2;simp only[List.cons.injEq,and_true]at e2;subst e2;exact⟨⟨bb,l,z⟩,⟨q1,q2⟩,(rM.one (.v _ rfl) Z Z).app (q3.app (.one (.v _ rfl) Z Z)),_,rfl,rfl⟩
theorem akv(hT:D8 w){n:Nat}{cs:List Value}{x:DataW H×List MemPlace}(h:Tr w enc n 39 cs=some x)(hw:wt 39 x.1):∃d:Rt,Ok0 d.c/\rM w (dB d) cs/\∃u,cs[0]?=some u/\F9 u:=by
 obtain⟨y0,y1,m,rfl,hl,h0,h1⟩:=trod_struct2 Tryz.underlying39 h;have hl3:cs.length=4:=hl.trans κ
 match cs,hl3 with
 |[a,b,c,d],_=>
  have k0:Tr w enc m 37 [a]=some y0:=h0;have k1:Tr w enc m 30 [b,c,d]=some y1:=h1;have w0:wt 37 y0.1:=fun q hq=>hw q (by simp[DataW.weights,DataW.weightsEach,Tryz.underlying39];exact .inl hq);have w1:wt 30 y1.1:=fun q hq=>hw q (by simp[DataW.weights,DataW.weightsEach,Tryz.underlying39];exact .inr hq);obtain⟨l,_,q3,q4⟩:=aku hT k0 w0;obtain⟨d,d1,d2,_⟩:=Zl hT k1 w1;exact⟨⟨l,d⟩,d1,q3.app d2,q4⟩
theorem ahV(hT:D8 w){n:Nat}{cs:List Value}{x:DataW H×List MemPlace}(h:Tr w enc n 32 cs=some x)(hw:wt 32 x.1):∃d:Ri,OkI d/\rM w (am d) cs/\∃u,cs[0]?=some u/\F9 u:=by
 obtain⟨y0,y1,y2,m,rfl,hl,h0,h1,h2⟩:=trod_struct3 Tryz.underlying32 h;have hl3:cs.length=7:=hl.trans κ
 match cs,hl3 with
 |[a,b,c,d,e,f,g],_=>
  have k0:Tr w enc m 30 [a,b,c]=some y0:=h0;have k1:Tr w enc m 30 [d,e,f]=some y1:=h1;have k2:Tr w enc m 4 [g]=some y2:=h2;have w0:wt 30 y0.1:=fun q hq=>hw q (by simp[DataW.weights,DataW.weightsEach,Tryz.underlying32];exact .inl hq);have w1:wt 30 y1.1:=fun q hq=>hw q (by simp[DataW.weights,DataW.weightsEach,Tryz.underlying32];exact .inr (.inl hq));obtain⟨d0,p1,p2,p3⟩:=Zl hT k0 w0;obtain⟨d1,q1,q2,_⟩:=Zl hT k1 w1;obtain⟨bb,e0,e1⟩:=DataW.trod_bool Tryz.underlying4 k2;simp only[List.cons.injEq,and_true]at e0;subst e0;exact⟨⟨d0,d1,bb⟩,⟨p1,q1⟩,p2.app (q2.app (.one (.v _ rfl) Z Z)),p3⟩
theorem u8b{z:Int}(h:(Lit.int .u8 z).wf=true):0<=z/\z<256:=by
 simp only[Lit.wf,aBk,decide_eq_true_eq]at h;have h1:(0:Int)<=z:=h.1;have h2:z<=255:=h.2;exact⟨h1,by omega⟩
theorem acn{fs:List AV}(rc:rM w fs us.toList):RD w (Il w) (.agg fs) (.agg us):=by
 refine .agg _ _ (by have:=rc.1;simpa using this.symm) (fun i u hu=>?_) fun i c u hc hu=>(rc.2 i c u hc (by simpa using hu)).1;have hu':us.toList[i]?=some u:=by simpa using hu
 obtain⟨c,hc⟩:∃c,fs[i]?=some c:=⟨_,aBp (by rw[rc.1];exact(List.getElem?_eq_some_iff.1 hu').1)⟩;exact(rc.2 i c u hc hu').2.2
theorem ahW(hT:D8 w){n:Nat}{x:DataW H×List MemPlace}(h:Tr w enc n 24 us.toList=some x)(hw:wt 24 x.1):∃s:Rs,OkS s/\RD w (Il w) (go s) (.agg us):=by
 obtain⟨y0,y1,y2,m,rfl,hl,h0,h1,h2⟩:=trod_struct3 Tryz.underlying24 h;have hl3:us.toList.length=3:=hl.trans κ;obtain⟨cs⟩:=us;simp only at hl3 h0 h1 h2
 match cs,hl3 with
 |[a,b,c],_=>
  have k0:Tr w enc m 22 [a]=some y0:=h0;have k1:Tr w enc m 3 [b]=some y1:=h1;have k2:Tr w enc m 3 [c]=some y2:=h2;have w0:wt 22 y0.1:=fun q hq=>hw q (by simp[DataW.weights,DataW.weightsEach,Tryz.underlying24];exact .inl hq);obtain⟨z1,e2,e3,_⟩:=DataW.trod_int Tryz.underlying3 k1;obtain⟨z2,e4,e5,_⟩:=DataW.trod_int Tryz.underlying3 k2;simp only[List.cons.injEq,and_true]at e2 e4;subst e2 e4;obtain⟨l,v,e4,q1,q2,q3,q4,q5⟩:=MJ (k:=7) (bs:=88) Tryz.underlying22 κ δ κ am OkI hT (fun n cs' x=>ahV hT) k0 w0;simp only[List.cons.injEq,and_true]at e4;subst e4;exact⟨⟨l,z1,z2⟩,⟨q1,by show l.length<_;unfold reachBytes at q2;omega⟩,acn ((rM.one q3 rfl q4).app ((rM.one (.v _ rfl) Z Z).app (.one (.v _ rfl) Z Z)))⟩
theorem UO(hT:D8 w){n:Nat}{x:DataW H×List MemPlace}(h:Tr w enc n 34 us.toList=some x)(hw:wt 34 x.1):∃s:Rm,OkM s/\RD w (Il w) (cw s) (.agg us):=by
 obtain⟨y0,y1,m,rfl,hl,h0,h1⟩:=trod_struct2 Tryz.underlying34 h;have hl3:us.toList.length=9:=hl.trans κ;obtain⟨cs⟩:=us;simp only at hl3 h0 h1
 match cs,hl3 with
 |[a,b,c1,c2,c3,c4,c5,c6,c7],_=>
  have k0:Tr w enc m 27 [a,b]=some y0:=h0;have k1:Tr w enc m 32 [c1,c2,c3,c4,c5,c6,c7]=some y1:=h1;have w0:wt 27 y0.1:=fun q hq=>hw q (by simp[DataW.weights,DataW.weightsEach,Tryz.underlying34];exact .inl hq);have w1:wt 32 y1.1:=fun q hq=>hw q (by simp[DataW.weights,DataW.weightsEach,Tryz.underlying34];exact .inr hq);obtain⟨d,d1,d2,_⟩:=ahV hT k1 w1;obtain⟨u0,u1,m2,rfl,hl,h0,h1⟩:=trod_struct2 Tryz.underlying27 k0;have k2:Tr w enc m2 3 [a]=some u0:=h0;have k3:Tr w enc m2 25 [b]=some u1:=h1;have w2:wt 25 u1.1:=fun q hq=>w0 q (by simp[DataW.weights,DataW.weightsEach,Tryz.underlying27];exact .inr hq);obtain⟨z,e2,e3,_⟩:=DataW.trod_int Tryz.underlying3 k2;simp only[List.cons.injEq,and_true]at e2;subst e2;obtain⟨l,v,e4,q1,q2,q3,q4,q5⟩:=MJ (k:=4) (bs:=64) Tryz.underlying25 κ δ κ dB (fun t=>Ok0 t.c) hT (fun n cs' x=>akv hT) k3 w2;simp only[List.cons.injEq,and_true]at e4;subst e4;exact⟨⟨⟨z,l⟩,d⟩,⟨q1,d1,by show l.length<_;unfold reachBytes at q2;omega⟩,acn ((rM.one (.v _ rfl) Z Z).app ((rM.one q3 rfl q4).app d2))⟩
end
abbrev TX(f:Nat)(fd:FD):Prop:=Text Go.Proofs.Tryz.prog f fd
theorem tx{f:Nat}{fn:Func}(h:Go.Proofs.Tryz.prog.funcs[f]?=some fn)(h2: (fn.body.bind fun c=>jv Go.Proofs.Tryz.prog fn.ntmps c fd.body,Iv Go.Proofs.Tryz.prog fn.results.toList,decide (fn.ntmps<=1000),fn.name== "runtime.NumGoroutine")= (some fd.body,some fd.res,true,false)):TX f fd:=by
 simp only[Prod.mk.injEq,aBf,decide_eq_true_eq]at h2;obtain⟨⟨c,h3,h4⟩,h5,h6,h7⟩:=h2;exact⟨⟨fn,c,_,h,h3,rfl,h6,h4,h5,h7⟩⟩
theorem tn:∀p∈ ([]:List (Nat×FD)),TX p.1 p.2:=fun _ h=>by cases h
theorem tc{f:Nat}{l:List (Nat×FD)}(h1:TX f fd)(h2:∀p∈l,TX p.1 p.2):∀p∈ (f,fd)::l,TX p.1 p.2:=fun p hp=>by
 rcases List.mem_cons.1 hp with rfl|hp
 ·exact h1
 ·exact h2 p hp
set_option maxRecDepth 100000 in
theorem Zm:∀p∈akI,TX p.1 p.2:=tc (tx func217 κ) (tc (tx func266 κ) (tc (tx func269 κ) (tc (tx func270 κ) (tc (tx func274 κ) (tc (tx func275 κ) (tc (tx func277 κ) (tc (tx func278 κ) (tc (tx func153 κ) (tc (tx func167 κ) (tc (tx func170 κ) (tc (tx func181 κ) (tc (tx func189 κ) (tc (tx func196 κ) (tc (tx func197 κ) (tc (tx func214 κ) (tc (tx func215 κ) (tc (tx func216 κ) (tc (tx func224 κ) (tc (tx func226 κ) (tc (tx func230 κ) (tc (tx func231 κ) (tc (tx func233 κ) (tc (tx func234 κ) (tc (tx func247 κ) (tc (tx func261 κ) (tc (tx func264 κ) (tc (tx func265 κ) (tc (tx func267 κ) (tc (tx func268 κ) (tc (tx func276 κ) (tc (tx func116 κ) (tc (tx func169 κ) (tc (tx func6 κ) (tc (tx func12 κ) (tc (tx func45 κ) (tc (tx func58 κ) (tc (tx func60 κ) (tc (tx func102 κ) (tc (tx func114 κ) (tc (tx func115 κ) (tc (tx func117 κ) (tc (tx func132 κ) (tc (tx func134 κ) (tc (tx func136 κ) (tc (tx func139 κ) (tc (tx func155 κ) (tc (tx func164 κ) (tc (tx func168 κ) (tc (tx func188 κ) (tc (tx func232 κ) (tc (tx func238 κ) (tc (tx func239 κ) (tc (tx func246 κ) (tc (tx func271 κ) (tc (tx func42 κ) (tc (tx func43 κ) (tc (tx func57 κ) (tc (tx func66 κ) (tc (tx func99 κ) (tc (tx func100 κ) (tc (tx func101 κ) (tc (tx func112 κ) (tc (tx func113 κ) (tc (tx func119 κ) (tc (tx func129 κ) (tc (tx func131 κ) (tc (tx func138 κ) (tc (tx func147 κ) (tc (tx func149 κ) (tc (tx func154 κ) (tc (tx func165 κ) (tc (tx func166 κ) (tc (tx func179 κ) (tc (tx func180 κ) (tc (tx func186 κ) (tc (tx func228 κ) (tc (tx func262 κ) (tc (tx func25 κ) (tc (tx func65 κ) (tc (tx func93 κ) (tc (tx func94 κ) (tc (tx func104 κ) (tc (tx func105 κ) (tc (tx func118 κ) (tc (tx func122 κ) (tc (tx func123 κ) (tc (tx func127 κ) (tc (tx func128 κ) (tc (tx func146 κ) (tc (tx func156 κ) (tc (tx func176 κ) (tc (tx func178 κ) (tc (tx func190 κ) (tc (tx func191 κ) (tc (tx func192 κ) (tc (tx func193 κ) (tc (tx func198 κ) (tc (tx func199 κ) (tc (tx func225 κ) (tc (tx func227 κ) (tc (tx func235 κ) (tc (tx func236 κ) (tc (tx func16 κ) (tc (tx func23 κ) (tc (tx func39 κ) (tc (tx func46 κ) (tc (tx func47 κ) (tc (tx func48 κ) (tc (tx func52 κ) (tc (tx func56 κ) (tc (tx func64 κ) (tc (tx func71 κ) (tc (tx func74 κ) (tc (tx func75 κ) (tc (tx func82 κ) (tc (tx func84 κ) (tc (tx func87 κ) (tc (tx func90 κ) (tc (tx func91 κ) (tc (tx func92 κ) (tc (tx func106 κ) (tc (tx func111 κ) (tc (tx func145 κ) (tc (tx func151 κ) (tc (tx func159 κ) (tc (tx func162 κ) (tc (tx func163 κ) (tc (tx func195 κ) (tc (tx func201 κ) (tc (tx func202 κ) (tc (tx func209 κ) (tc (tx func210 κ) (tc (tx func211 κ) (tc (tx func212 κ) (tc (tx func107 κ) (tc (tx func157 κ) (tc (tx func158 κ) (tc (tx func160 κ) (tc (tx func161 κ) (tc (tx func200 κ) (tc (tx func203 κ) (tc (tx func204 κ) (tc (tx func205 κ) (tc (tx func206 κ) (tc (tx func207 κ) (tc (tx func208 κ) (tc (tx func237 κ) (tc (tx func240 κ) (tc (tx func241 κ) (tc (tx func242 κ) (tc (tx func243 κ) (tc (tx func244 κ) (tc (tx func245 κ) (tc (tx func21 κ) (tc (tx func22 κ) (tc (tx func33 κ) (tc (tx func61 κ) (tc (tx func62 κ) (tc (tx func63 κ) (tc (tx func76 κ) (tc (tx func79 κ) (tc (tx func80 κ) (tc (tx func81 κ) (tc (tx func120 κ) (tc (tx func130 κ) (tc (tx func135 κ) (tc (tx func137 κ) (tc (tx func143 κ) (tc (tx func144 κ) (tc (tx func182 κ) (tc (tx func183 κ) (tc (tx func9 κ) (tc (tx func13 κ) (tc (tx func17 κ) (tc (tx func20 κ) (tc (tx func24 κ) (tc (tx func32 κ) (tc (tx func34 κ) (tc (tx func35 κ) (tc (tx func44 κ) (tc (tx func49 κ) (tc (tx func51 κ) (tc (tx func59 κ) (tc (tx func67 κ) (tc (tx func77 κ) (tc (tx func78 κ) (tc (tx func85 κ) (tc (tx func86 κ) (tc (tx func88 κ) (tc (tx func103 κ) (tc (tx func133 κ) (tc (tx func18 κ) (tc (tx func50 κ) (tc (tx func83 κ) (tc (tx func108 κ) (tc (tx func109 κ) (tc (tx func110 κ) (tc (tx func140 κ) (tc (tx func141 κ) (tc (tx func142 κ) (tc (tx func187 κ) (tc (tx func36 κ) (tc (tx func3 κ) (tc (tx func4 κ) (tc (tx func5 κ) (tc (tx func7 κ) (tc (tx func8 κ) (tc (tx func10 κ) (tc (tx func14 κ) (tc (tx func11 κ) (tc (tx func15 κ) (tc (tx func19 κ) (tc (tx func26 κ) (tc (tx func27 κ) (tc (tx func28 κ) (tc (tx func29 κ) (tc (tx func30 κ) (tc (tx func31 κ) (tc (tx func37 κ) (tc (tx func38 κ) (tc (tx func40 κ) (tc (tx func41 κ) (tc (tx func53 κ) (tc (tx func54 κ) (tc (tx func55 κ) (tc (tx func68 κ) (tc (tx func69 κ) (tc (tx func70 κ) (tc (tx func72 κ) (tc (tx func73 κ) (tc (tx func89 κ) (tc (tx func95 κ) (tc (tx func96 κ) (tc (tx func97 κ) (tc (tx func98 κ) (tc (tx func121 κ) (tc (tx func124 κ) (tc (tx func125 κ) (tc (tx func126 κ) (tc (tx func148 κ) (tc (tx func150 κ) (tc (tx func152 κ) (tc (tx func171 κ) (tc (tx func172 κ) (tc (tx func173 κ) (tc (tx func174 κ) (tc (tx func175 κ) (tc (tx func177 κ) (tc (tx func194 κ) (tc (tx func218 κ) (tc (tx func219 κ) (tc (tx func220 κ) (tc (tx func221 κ) (tc (tx func222 κ) (tc (tx func223 κ) (tc (tx func248 κ) (tc (tx func249 κ) (tc (tx func250 κ) (tc (tx func251 κ) (tc (tx func252 κ) (tc (tx func253 κ) (tc (tx func254 κ) (tc (tx func255 κ) (tc (tx func256 κ) (tc (tx func257 κ) (tc (tx func258 κ) (tc (tx func259 κ) (tc (tx func260 κ) (tc (tx func272 κ) (tc (tx func273 κ) (tc (tx func279 κ) (tc (tx func280 κ) (tn)))))))))))))))))))))))))))))))))))))))))))))))))))))))))))))))))))))))))))))))))))))))))))))))))))))))))))))))))))))))))))))))))))))))))))))))))))))))))))))))))))))))))))))))))))))))))))))))))))))))))))))))))))))))))))))))))))))))))))))))))))))))))))))))))))))))))))))))))
end Go.Ab
