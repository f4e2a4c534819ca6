/-
  A law of tapes on models holds at every input that the statement speaks of, under the conditions that its card names. Part F1.
-/
import Derived.Test.YtoaheljbgnbicaaGreatDoorE1
open Nat renaming add_assoc → awp, add_mul → avP, add_zero → av1, div_add_mod → awi, le_of_ble_eq_true → avW, le_refl → avt, le_trans → avx, lt_of_le_of_lt → awl, lt_of_lt_of_le → awn, min_eq_left → awm, mod_eq_of_lt → awh, mod_lt → av3, mul_assoc → avT, mul_comm → avM, mul_le_mul_left → awq, mul_le_mul_right → avA, pow_add → avG, pow_le_pow_right → av8, reduceMod → av0, reduceSub → avV, two_pow_pos → avJ, zero_add → avs, zero_le → av6
open Int renaming lt_irrefl → awf, reduceEq → avX, toNat_natCast → avy
open Bool renaming and_eq_true → avv, and_self → awa, false_and → avC, false_eq_true → awo, false_ne_true → avD, not_eq_true' → awu, true_and → avz
open List renaming all_cons → avQ, append_assoc → awe, append_nil → avE, cons_append → avS, drop_eq_getElem_cons → avI, drop_eq_nil_of_le → avH, getElem_mem → avN, length_cons → av2, length_map → awk, length_nil → awd, length_replicate → awr, map_congr_left → avR, map_cons → avY, map_id' → av5, map_nil → av4, mem_map → awc, nil_append → avB, replicate → avr, take_of_length_le → avL
open Option renaming bind_eq_some_iff → avq, bind_some → avw, map_eq_some_iff → avu, map_some → av9
open Rat renaming mul_le_mul_of_nonneg_right → awg
set_option linter.all false
namespace Go.Ab
open Go Go.IntWalk
set_option maxRecDepth 4000
set_option maxHeartbeats 8000000
abbrev LF:=G->Rat
def ym(W v:G):Nat->Rat
 |0=>0
 |d+1=>ym W v d+W d*v d
def pE(d:Nat)(L:LF):Prop:=∃W,∀v,L v=ym W v d
theorem acR{W v w:G}:∀d:Nat,(∀j,j<d->v j=w j)->ym W v d=ym W w d
 |0,_=>rfl
 |d+1,h=>by simp only[ym];rw[acR d fun j hj=>h j ω,h d ω]
theorem Ye{W v w:G}{a b:Rat}:∀d:Nat,ym W (fun j=>a*v j+b*w j) d=a*ym W v d+b*ym W w d
 |0=>by grind[ym]
 |d+1=>by simp only[ym];rw[Ye d];grind
theorem agp{U W v:G}{a b:Rat}:∀d:Nat,ym (fun j=>a*U j+b*W j) v d=a*ym U v d+b*ym W v d
 |0=>by grind[ym]
 |d+1=>by simp only[ym];rw[agp d];grind
theorem pE.cg{d:Nat}{L:LF}(h:pE d L){v w:G}(e:∀j,j<d->v j=w j):L v=L w:=by
 obtain⟨W,h⟩:=h;rw[h,h,acR d e]
theorem pE.lin{d:Nat}{L:LF}(h:pE d L){v w:G}{a b:Rat}:L (fun j=>a*v j+b*w j)=a*L v+b*L w:=by
 obtain⟨W,h⟩:=h;rw[h,h,h,Ye d]
theorem pE.zero{d:Nat}{L:LF}(h:pE d L):L (fun _=>0)=0:=by
 have:=h.lin (v:=fun _=>0) (w:=fun _=>0) (a:=0) (b:=0);grind
theorem pE.swap{d c:Nat}{L P:LF}(h:pE d L)(hP:pE c P)(f:Nat->Nat->Rat):P (fun j=>L (fun r=>f r j))=L (fun r=>P (fun j=>f r j)):=by
 obtain⟨W,hP⟩:=hP;simp only[hP];clear hP;induction c with
 |zero=>exact h.zero.symm
 |succ c ih=>
  simp only[ym];have:=h.lin (v:=fun r=>ym W (fun j=>f r j) c) (w:=fun r=>f r c) (a:=1) (b:=W c);grind
theorem acS{d i:Nat}(h:i<d):pE d fun v=>v i:=by
 refine⟨fun j=>if j=i then 1 else 0,fun v=>?_⟩;have:∀c,ym (fun j=>if j=i then 1 else 0) v c=if i<c then v i else 0:=by
  intro c;induction c with
  |zero=>rfl
  |succ c ih=>
   simp only[ym,ih];grind
 grind
theorem pE.comb{d:Nat}{L M:LF}(h:pE d L)(h':pE d M)(a b:Rat):pE d fun v=>a*L v+b*M v:=by
 obtain⟨W,h⟩:=h;obtain⟨U,h'⟩:=h';exact⟨fun j=>a*W j+b*U j,fun v=>by
  show a*L v+b*M v=_;rw[agp,h,h']⟩
theorem afp{d:Nat}:pE d fun _=>0:=⟨fun _=>0,fun v=>by
 induction d with
 |zero=>rfl
 |succ d ih=>grind[ym]⟩
theorem Jx{x:Rat}{d:Nat}:∀c i:Nat,i+c<=d->pE d fun v=>pl x v i c
 |0,_,_=>afp
 |c+1,i,h=>by
  have:=(acS (d:=d) (i:=i) ω).comb (Jx (x:=x) c (i+1) ω) 1 x;simp only[Rat.one_mul]at this;exact this
theorem N5{t:Rat}{d:Nat}:∀n i:Nat,i+n<d->pE d fun v=>dc t v n i
 |0,i,h=>acS h
 |n+1,i,h=>(N5 (t:=t) n i ω).comb (N5 n (i+1) ω) (1-t) t
theorem Vx{t lo hi:Rat}(h0:0<=t)(h1:t<=1){v:G}:∀n i:Nat,(∀j,i<=j->j<=i+n->lo<=v j/\v j<=hi)->lo<=dc t v n i/\dc t v n i<=hi
 |0,i,h=>h i (avt _) (avt _)
 |n+1,i,h=>by
  have a:=Vx h0 h1 n i fun j a b=>h j a ω;have b:=Vx h0 h1 n (i+1) fun j a b=>h j ω ω;have h2:0<=1-t:=γ
  simp only[dc];have q1:=Rat.mul_le_mul_of_nonneg_left a.1 h2;have q2:=Rat.mul_le_mul_of_nonneg_left a.2 h2;have q3:=Rat.mul_le_mul_of_nonneg_left b.1 h0;have q4:=Rat.mul_le_mul_of_nonneg_left b.2 h0;grind
def iJ:List (Nat×LF)->Nat->Nat->G->Rat
 |[],_,i,g=>g i
 |p::ls,s,i,g=>p.2 fun j=>iJ ls (s*(p.1+1)) (i+j*s) g
def Af:List (Nat×LF)->Nat->Nat
 |[],s=>s
 |p::ls,s=>Af ls (s*(p.1+1))
def N6(ls:List (Nat×LF)):Prop:=∀p∈ls,pE (p.1+1) p.2
theorem acT{g1 g2:G}:∀ (ls:List (Nat×LF)),N6 ls->∀s i:Nat,(∀q,q*s+s<=Af ls s->g1 (i+q*s)=g2 (i+q*s))->iJ ls s i g1=iJ ls s i g2
 |[],_,s,i,h=>by
  have:=h 0 (by grind[Af]);grind[iJ]
 |p::ls,ok,s,i,h=>by
  refine(ok p σ).cg fun j hj=>acT ls (fun q hq=>ok q γ) _ _ fun q hq=>?_;have e:i+j*s+q*(s*(p.1+1))=i+(j+q*(p.1+1))*s:=γ
  rw[e];refine h _ (avx ?_ hq);have:(j+1)*s<=(p.1+1)*s:=avA _ hj;grind
theorem Mp{c:Nat}{P:LF}(hP:pE c P){g:G}(a:Nat->Nat):∀ (ls:List (Nat×LF)),N6 ls->∀s i:Nat,P (fun j=>iJ ls s (i+a j) g)=iJ ls s i fun i'=>P fun j=>g (i'+a j)
 |[],_,_,_=>rfl
 |p::ls,ok,s,i=>by
  show P (fun j=>p.2 fun r=>iJ ls (s*(p.1+1)) (i+a j+r*s) g)=p.2 fun r=>iJ ls (s*(p.1+1)) (i+r*s) _;rw[(ok p σ).swap hP];refine congrArg p.2 (funext fun r=>?_);rw[←Mp hP a ls (fun q hq=>ok q γ)];grind
theorem Vy{d:Nat}{P B:LF}(hP:pE (d+1) P)(hB:pE (d+1) B){post:List (Nat×LF)}(op:N6 post){g g':G}:∀ (pre:List (Nat×LF)),N6 pre->∀s i:Nat,i<s->
  (∀i0 q,i0<Af pre s->q*(Af pre s*(d+1))+Af pre s*(d+1)<=Af post (Af pre s*(d+1))->P (fun j=>g (i0+q*(Af pre s*(d+1))+j*Af pre s))=B (fun j=>g' (i0+q*(Af pre s*(d+1))+j*Af pre s)))->
  iJ (pre++(d,P)::post) s i g=iJ (pre++(d,B)::post) s i g'
 |[],_,s,i,hi,h=>by
  show P (fun j=>iJ post (s*(d+1)) (i+j*s) g)=B (fun j=>iJ post (s*(d+1)) (i+j*s) g');rw[Mp hP _ post op,Mp hB _ post op];exact acT post op _ _ fun q hq=>h i q hi hq
 |p::pre,ok,s,i,hi,h=>by
  refine(ok p σ).cg fun j hj=>Vy hP hB op pre (fun q hq=>ok q (by simp[hq])) _ _ ?_ h;have:j*s<=p.1*s:=avA _ ω;grind
theorem Yf{lo hi:Rat}{g:G}:∀ (ls:List (Nat×LF)),(∀p∈ls,∀v:G,(∀j,j<=p.1->lo<=v j/\v j<=hi)->lo<=p.2 v/\p.2 v<=hi)->∀s i:Nat,(∀q,q*s+s<=Af ls s->lo<=g (i+q*s)/\g (i+q*s)<=hi)->lo<=iJ ls s i g/\iJ ls s i g<=hi
 |[],_,s,i,h=>by
  have:=h 0 (by grind[Af]);grind[iJ]
 |p::ls,ok,s,i,h=>by
  refine ok p σ _ fun j hj=>Yf ls (fun q hq=>ok q γ) _ _ fun q hq=>?_;have e:i+j*s+q*(s*(p.1+1))=i+(j+q*(p.1+1))*s:=γ
  rw[e];refine h _ (avx ?_ hq);have:j*s<=p.1*s:=avA _ hj;grind
def ps(op:Nat->G->G)(s n:Nat):Nat->Nat->G->G
 |0,_,g=>g
 |k+1,i,g=>ps op s n k (i+1) (if i/s% (n+1)=0 then op i g else g)
theorem ahY{s n f f' m m':Nat}(hs:0<s)(h1:f/s% (n+1)=0)(h2:f'/s% (n+1)=0)(hm:m<=n)(hm':m'<=n)(e:f+m*s=f'+m'*s):f=f':=by
 have h3:(f+m*s)/s% (n+1)=m:=by
  rw[Nat.add_mul_div_right _ _ hs,Nat.add_mod,h1,avs,Nat.mod_mod,awh ω]
 have h4:(f'+m'*s)/s% (n+1)=m':=by
  rw[Nat.add_mul_div_right _ _ hs,Nat.add_mod,h2,avs,Nat.mod_mod,awh ω]
 grind
theorem am6{L L':LF}{s n:Nat}(hs:0<s)(cL:pE (n+1) L)(cL':pE (n+1) L'){op:Nat->G->G}(hop:∀f g,(∀a,(∀m,m<=n->a≠f+m*s)->op f g a=g a)/\L (fun m=>g (f+m*s))=L' (fun m=>op f g (f+m*s))):
  ∀ (k i:Nat) (g:G),(∀f m,f<i->f/s% (n+1)=0->m<=n->ps op s n k i g (f+m*s)=g (f+m*s))/\∀f,i<=f->f<i+k->f/s% (n+1)=0->L (fun m=>g (f+m*s))=L' (fun m=>ps op s n k i g (f+m*s)):=by
 intro k;induction k with
 |zero=>exact fun i g=>⟨fun _ _ _ _ _=>rfl,fun f h1 h2=>by omega⟩
 |succ k ih=>
  intro i g;have e:ps op s n (k+1) i g=ps op s n k (i+1) (if i/s% (n+1)=0 then op i g else g):=rfl;rw[e];have hg:∀f m,f≠i->f/s% (n+1)=0->m<=n->(if i/s% (n+1)=0 then op i g else g) (f+m*s)=g (f+m*s):=fun f m hf h0 hm=>by
   grind[ahY]
  have hi:i/s% (n+1)=0->L (fun m=>g (i+m*s))=L' (fun m=>(if i/s% (n+1)=0 then op i g else g) (i+m*s)):=fun h=>by
   simp_all
  generalize(if i/s% (n+1)=0 then op i g else g)=g1 at*
  obtain⟨a,b⟩:=ih (i+1) g1;refine⟨fun f m hf h0 hm=>by rw[a f m ω h0 hm,hg f m ω h0 hm],fun f h1 h2 h0=>?_⟩;by_cases hq:f=i
  ·subst hq;rw[hi h0];exact cL'.cg fun m hm=>(a f m ω h0 ω).symm
  ·rw[←b f ω ω h0];exact cL.cg fun m hm=>(hg f m hq h0 ω).symm
def dl(a:Nat):G:=fun b=>if b=a then 1 else 0
theorem PX{a c:Rat}{g h:G}:∀ (ls:List (Nat×LF)),N6 ls->∀s i:Nat,iJ ls s i (fun b=>a*g b+c*h b)=a*iJ ls s i g+c*iJ ls s i h
 |[],_,_,_=>rfl
 |p::ls,ok,s,i=>by
  show p.2 (fun j=>iJ ls _ (i+j*s) _)=a*p.2 _+c*p.2 _;rw[← (ok p σ).lin];refine congrArg p.2 (funext fun j=>?_);exact PX ls (fun q hq=>ok q γ) _ _
theorem akF{ls:List (Nat×LF)}(ok:N6 ls){s i a:Nat}{g:G}{y:Rat}:iJ ls s i (gs g a y)=iJ ls s i g+(y-g a)*iJ ls s i (dl a):=by
 have:gs g a y=fun b=>1*g b+(y-g a)*dl a b:=by
  grind[gs,dl]
 rw[this,PX ls ok];grind
def pA:List Nat->List Rat->List (Nat×LF)
 |d::ds,x::xs=>(d,fun v=>pl x v 0 (d+1))::pA ds xs
 |_,_=>[]
theorem Kn:∀ (ds:List Nat) (xs:List Rat),N6 (pA ds xs)
 |d::ds,x::xs=>fun p hp=>by
  rcases List.mem_cons.1 hp with rfl|hp
  ·simp_all[Jx]
  ·exact Kn ds xs p hp
 |[],_=>fun _ h=>by grind[pA]
 |_::_,[]=>fun _ h=>by grind[pA]
def Li:List Rat->List Nat->Rat
 |x::xs,e::es=>x^e*Li xs es
 |_,_=>1
def pos:List Nat->List Nat->Nat->Nat
 |d::ds,e::es,s=>e*s+pos ds es (s*(d+1))
 |_,_,_=>0
def N7:List Nat->List Nat->Prop
 |d::ds,e::es=>e<=d/\N7 ds es
 |[],[]=>True
 |_,_=>False
theorem agq{x y:Rat}{e:Nat}:∀c i:Nat,(e<i->pl x (fun j=>if j=e then y else 0) i c=0)/\(i<=e->e<i+c->pl x (fun j=>if j=e then y else 0) i c=x^ (e-i)*y)
 |0,i=>⟨fun _=>rfl,fun h1 h2=>by omega⟩
 |c+1,i=>by
  obtain⟨a,b⟩:=agq (x:=x) (y:=y) (e:=e) c (i+1);simp only[pl];constructor
  ·grind
  ·intro h1 h2;by_cases h:i=e
   ·subst h;grind
   ·rw[if_neg h,b ω ω,show e-i=e- (i+1)+1 by omega,Rat.pow_succ];grind
theorem ags{s i i0 j e:Nat}(h1:i<s)(h2:i0<s):i+j*s=i0+e*s↔i=i0/\j=e:=by
 constructor
 ·intro h;have a:(i+j*s) %s=i:=by rw[Nat.add_mul_mod_self_right,awh h1]
  have b:(i0+e*s) %s=i0:=by rw[Nat.add_mul_mod_self_right,awh h2]
  have c:i=i0:=γ
  subst c;exact⟨rfl,Nat.eq_of_mul_eq_mul_right ω (Nat.add_left_cancel h)⟩
 grind
theorem Ej{s i j d:Nat}(h:i<s)(hj:j<=d):i+j*s<s*(d+1):=by
 have:j*s<=d*s:=avA _ hj;grind
theorem Yg:∀ (ds es:List Nat) (xs:List Rat),N7 ds es->xs.length=ds.length->∀s i i0:Nat,i<s->i0<s->iJ (pA ds xs) s i (dl (i0+pos ds es s))=if i=i0 then Li xs es else 0
 |[],[],xs,_,hx,s,i,i0,_,_=>by
  have:xs=[]:=List.length_eq_zero_iff.1 hx;subst this;rfl
 |d::ds,e::es,x::xs,h,hx,s,i,i0,h1,h2=>by
  show pl x (fun j=>iJ (pA ds xs) (s*(d+1)) (i+j*s) (dl (i0+(e*s+pos ds es (s*(d+1)))))) 0 (d+1)=_;have hc:=(Jx (x:=x) (d:=d+1) (d+1) 0 σ).cg (v:=fun j=>iJ (pA ds xs) (s*(d+1)) (i+j*s) (dl (i0+(e*s+pos ds es (s*(d+1)))))) (w:=fun j=>if j=e then(if i=i0 then Li xs es else 0)else 0) (fun j hj=>by
   rw[←awp,Yg ds es xs h.2 γ (s*(d+1)) _ _ (Ej h1 ω) (Ej h2 h.1)];grind[ags])
  rw[hc,(agq (d+1) 0).2 ω (by have:=h.1;omega)];by_cases ha:i=i0
  ·rw[if_pos ha,if_pos ha];rfl
  grind
 |[],_::_,_,h,_,_,_,_,_,_=>h.elim
 |_::_,[],_,h,_,_,_,_,_,_=>h.elim
 |_::_,_::_,[],_,hx,_,_,_,_,_=>by grind
theorem acU:∀ (ds es:List Nat) (xs:List Rat),N7 ds es->xs.length=ds.length->∀s i0:Nat,i0<s->i0+pos ds es s<Af (pA ds xs) s
 |[],[],xs,_,hx,s,i0,h2=>by
  exact h2
 |d::ds,e::es,x::xs,h,hx,s,i0,h2=>by
  show i0+(e*s+pos ds es (s*(d+1)))<Af (pA ds xs) (s*(d+1));rw[←awp];exact acU ds es xs h.2 γ _ _ (Ej h2 h.1)
 |[],_::_,_,h,_,_,_,_=>h.elim
 |_::_,[],_,h,_,_,_,_=>h.elim
 |_::_,_::_,[],_,hx,_,_,_=>by grind
theorem Yh:∀ (ds es es':List Nat),N7 ds es->N7 ds es'->∀s i i0:Nat,i<s->i0<s->i+pos ds es s=i0+pos ds es' s->i=i0/\es=es'
 |[],[],[],_,_,_,_,_,_,_,h=>⟨h,rfl⟩
 |d::ds,e::es,e'::es',h,h',s,i,i0,h1,h2,hq=>by
  have:i+(e*s+pos ds es (s*(d+1)))=i0+(e'*s+pos ds es' (s*(d+1))):=hq;rw[←awp,←awp]at this;obtain⟨a,b⟩:=Yh ds es es' h.2 h'.2 _ _ _ (Ej h1 h.1) (Ej h2 h'.1) this;obtain⟨c,d⟩:=(ags h1 h2).1 a;exact⟨c,by rw[d,b]⟩
 |[],_::_,_,h,_,_,_,_,_,_,_=>h.elim
 |_::_,[],_,h,_,_,_,_,_,_,_=>h.elim
 |[],[],_::_,_,h,_,_,_,_,_,_=>h.elim
 |_::_,_::_,[],_,h,_,_,_,_,_,_=>h.elim
theorem PY{y:Rat}(h:0<y):0<y⁻¹:=by
 refine Rat.not_le.1 fun hn=>?_;have:=awg hn (Rat.le_of_lt h);grind
theorem Yi{y z:Rat}(h1:0<y)(h2:y<=z):z⁻¹<=y⁻¹:=by
 have a:=PY h1;have b:=PY (show 0<z by grind);have c:=awg (awg h2 (Rat.le_of_lt a)) (Rat.le_of_lt b);rw[show y*y⁻¹*z⁻¹=z⁻¹ by grind,show z*y⁻¹*z⁻¹=y⁻¹ by grind]at c;omega
theorem acV{y z:Rat}(h:0<y/\y<=z\/y<=z/\z<0):z⁻¹<=y⁻¹:=by
 rcases h with⟨h1,h2⟩| ⟨h2,h1⟩
 ·grind[Yi]
 ·have:=Yi (y:=-z) (z:=-y) γ γ;grind
theorem tZ{d:Rd}:(d.neg=true->zI d=-(mg d:Int))/\(d.neg=false->zI d=mg d):=by
 simp_all[zI,if_pos]
theorem akG{a b:Rd}{p:Int}{w:Bool}{N:Nat}(hN:N=16384)(oa:Ok0 a)(ob:Ok0 b)(va:vd a=true)(vb:vd b=true)(hp:8<=p/\p<=512)(a0:a.m.length≠0)(b0:b.m.length≠0)
  (h:(cR (ab a.m*2^wE a b p/ab b.m) (a.e-wE a b p-b.e) (decide (ab a.m*2^wE a b p%ab b.m≠0)) p w).2=0):
  ∃n:Nat,zI (cR (ab a.m*2^wE a b p/ab b.m) (a.e-wE a b p-b.e) (decide (ab a.m*2^wE a b p%ab b.m≠0)) p w).1=n/\(w=true->mg a*2^N<=n*mg b)/\(w=false->n*mg b<=mg a*2^N):=by
 obtain⟨a1,a2,a3,a4⟩:=eY va oa.lb;obtain⟨b1,b2,b3,b4⟩:=eY vb ob.lb;have hA:=dJ va a0;have hB:=dJ vb b0;have hk:wE a b p=(p+3+ae (ab b.m)-ae (ab a.m)).toNat:=rfl;generalize wE a b p=k at*
 have hm2:=dW k hA;have hbM:p< (ae (ab a.m*2^k/ab b.m):Nat):=by
  have h1:2^ (ae (ab a.m*2^k)-1)<=ab a.m*2^k:=PO ω;have h2:ab b.m<2^ae (ab b.m):=bV.1 (avt _);have h3:2^p.toNat*ab b.m<=ab a.m*2^k:=by
   refine avx (awq _ (Nat.le_of_lt h2)) (avx ?_ h1);rw[←avG];exact av8 δ ω
  have h4:2^p.toNat<=ab a.m*2^k/ab b.m:=(Nat.le_div_iff_mul_le (Nat.pos_of_ne_zero hB)).2 h3;have h5:=jN.2 h4;omega
 have hdm:=awi (ab a.m*2^k) (ab b.m);have hml:=av3 (ab a.m*2^k) (Nat.pos_of_ne_zero hB);generalize ab a.m*2^k/ab b.m=M at*
 generalize hR:ab a.m*2^k%ab b.m=R at*
 obtain⟨n,n1,n2,n3⟩:=Ht (s:=(a.e+16384).toNat+N) (t:=k+(b.e+16384).toNat) (fun h0=>by grind[yc]) hp ω (fun _=>hbM) h;refine⟨n,n1,fun hw=>?_,fun hw=>?_⟩
 ·have g:=n2 hw;have h1:ab a.m*2^k<=(M+(decide (R≠0)).toNat)*ab b.m:=by
   rw[←hdm,avP,avM M];by_cases h0:R=0
   all_goals grind
  refine Nat.le_of_mul_le_mul_right ?_ (avJ k);have h2:=avA (2^ ((a.e+16384).toNat+N)) h1;have h3:=avA (ab b.m) g;unfold mg;grind
 ·have g:=n3 hw;have h1:M*ab b.m<=ab a.m*2^k:=by
   grind
  refine Nat.le_of_mul_le_mul_right ?_ (avJ k);have h2:=avA (2^ ((a.e+16384).toNat+N)) h1;have h3:=avA (ab b.m) g;unfold mg;grind
theorem Rc{A B n:Nat}(k:Nat)(hB:0<B):(A*2^k<=n*B->(A:Rat)*(B:Rat)⁻¹<=n*eQ k)/\(n*B<=A*2^k->(n:Rat)*eQ k<=(A:Rat)*(B:Rat)⁻¹):=by
 have hb:(0:Rat)<B:=by exact_mod_cast hB
 have hi:=PY hb;have hk:=Vv k;have hm:=Ju k;have e1:((A*2^k:Nat):Rat)=A*pQ k:=by
  simp_all[pQ,Rat.natCast_mul,Rat.natCast_pow,Rat.intCast_pow]
 have e2:((n*B:Nat):Rat)=n*B:=Rat.natCast_mul _ _;have r1:(A:Rat)*(B:Rat)⁻¹=A*pQ k*(eQ k*(B:Rat)⁻¹):=γ
 have r2:(n:Rat)*eQ k=n*B*(eQ k*(B:Rat)⁻¹):=γ
 have hc:0<=eQ k*(B:Rat)⁻¹:=Rat.mul_nonneg (Rat.le_of_lt hk) (Rat.le_of_lt hi);rw[r1,r2,←e1,←e2];exact⟨fun h=>awg (by exact_mod_cast h) hc,fun h=>awg (by exact_mod_cast h) hc⟩
theorem acW{a b:Rd}{p:Int}{up:Bool}(va:vd a=true/\Ok0 a)(vb:vd b=true/\Ok0 b)(hb:qv b≠0)(hp:bQ p=true)(h:(rS a b p up).2=0):(up=true->qv a*(qv b)⁻¹<=qv (rS a b p up).1)/\(up=false->qv (rS a b p up).1<=qv a*(qv b)⁻¹):=by
 unfold rS at h⊢;rw[if_pos (N2 va.1 vb.1 hp)]at h⊢;have b0:b.m.length≠0:=fun h0=>hb γ;rw[if_neg b0]at h⊢;by_cases a0:a.m.length=0
 ·rw[if_pos a0,Jv]
  simp_all[qv,du]
 rw[if_neg a0]at h⊢;obtain⟨N,hN⟩:∃N:Nat,N=16384:=⟨_,rfl⟩;have hcut:=fun w hw=>akG (w:=w) hN va.2 vb.2 va.1 vb.1 (zO hp) a0 b0 hw;have hmb:=Gd vb.1 b0;have hE:=Gk;generalize hc:cR (ab a.m*2^wE a b p/ab b.m) (a.e-wE a b p-b.e) (decide (ab a.m*2^wE a b p%ab b.m≠0)) p=c at*
 have hvc:∀w,vd (c w).1=true:=fun w=>by rw[←hc];exact PP
 have hq:qv a*(qv b)⁻¹=if(a.neg !=b.neg)=true then-((mg a:Rat)*(mg b:Rat)⁻¹)else(mg a:Rat)*(mg b:Rat)⁻¹:=by
  unfold qv;have i1:((-(mg a:Int):Int):Rat)=-(mg a:Rat):=by rfl
  have i2:((-(mg b:Int):Int):Rat)=-(mg b:Rat):=by rfl
  have i3:((mg a:Int):Rat)=(mg a:Rat):=rfl;have i4:((mg b:Int):Rat)=(mg b:Rat):=rfl;cases ha:a.neg<;>cases hb:b.neg
  ·rw[tZ.2 ha,tZ.2 hb,i3,i4,if_neg δ];grind
  ·rw[tZ.2 ha,tZ.1 hb,i3,i2,if_pos δ];grind
  ·rw[tZ.1 ha,tZ.2 hb,i1,i4,if_pos δ];grind
  ·rw[tZ.1 ha,tZ.1 hb,i1,i2,if_neg δ];grind
 rw[hq];generalize(a.neg !=b.neg)=sg at*
 unfold hH at h⊢;cases sg with
 |true=>
  have h2:(c (up !=true)).2=0:=by
   grind
  rw[if_pos (show(c (up !=true)).2=0/\true=true from⟨h2,rfl⟩),if_pos (show true=true from rfl)];obtain⟨n,n1,n2,n3⟩:=hcut _ h2;rw[(Gm (hvc _)).1];have e:qv (c (up !=true)).1=(n:Rat)*eQ N:=by unfold qv;rw[n1,hN];rfl
  grind[Rc,mg]
 |false=>
  have hn:¬((c (up !=false)).2=0/\false=true):=fun h1=>avD h1.2;rw[if_neg hn]at h;obtain⟨n,n1,n2,n3⟩:=hcut _ h;have e:qv (c (up !=false)).1=(n:Rat)*eQ N:=by unfold qv;rw[n1,hN];rfl
  grind[Rc,mg]
theorem Hv{d:Rd}(h:vd d=true):(0<gb d↔0<qv d)/\(gb d<0↔qv d<0):=by
 have hE:=Gk;unfold gb;by_cases h0:d.m.length=0
 ·simp_all[qv,du,if_pos]
 ·have hm:=Gd h h0;have hq:(0:Rat)< (mg d:Rat)*EQ:=Rat.mul_pos (by exact_mod_cast hm) hE;cases hn:d.neg with
  |true=>
   have:qv d=-((mg d:Rat)*EQ):=by unfold qv;rw[tZ.1 hn,Rat.intCast_neg,Rat.intCast_natCast];grind
   grind
  |false=>
   have:qv d=(mg d:Rat)*EQ:=by unfold qv;rw[tZ.2 hn];rfl
   grind
theorem Yj{x y:Ri}{a b:Rat}{p:Int}(hx:In a x)(hy:In b y):In (a/b) (PT x y p):=by
 unfold PT;split
 ·next h=>
  simp only[avv]at h;obtain⟨⟨kx,ky⟩,hp⟩:=h;rcases hx.k with⟨rfl,h⟩| ⟨_,x1,x2⟩
  ·grind
  rcases hy.k with⟨rfl,h⟩| ⟨_,y1,y2⟩
  ·grind
  split
  ·exact Or.inl rfl
  ·next hs=>
   have hpr:∀i,((gw x y i).1=x.lo\/(gw x y i).1=x.hi)/\((gw x y i).2=y.lo\/(gw x y i).2=y.hi):=fun i=>by
    unfold gw;grind
   have hsg:0<qv y.lo\/qv y.hi<0:=by
    unfold Jf at hs;by_cases g1:0<gb y.lo
    ·exact Or.inl ((Hv hy.vi.1.1).1.1 g1)
    ·by_cases g2:gb y.hi<0
     ·exact Or.inr ((Hv hy.vi.2.1).2.1 g2)
     omega
   have hv:∀i,(vd (gw x y i).1=true/\Ok0 (gw x y i).1)/\(vd (gw x y i).2=true/\Ok0 (gw x y i).2)/\qv (gw x y i).2≠0:=fun i=>by
    obtain⟨h1,h2⟩:=hpr i;refine⟨?_,?_,?_⟩
    ·rcases h1 with h1|h1<;>rw[h1]
     ·exact hx.vi.1
     ·exact hx.vi.2
    ·rcases h2 with h1|h1<;>rw[h1]
     ·exact hy.vi.1
     ·exact hy.vi.2
    grind
   refine Yc (dn:=fun a b=>rS a b p false) (up:=fun a b=>rS a b p true) (v:=fun i=>qv (gw x y i).1*(qv (gw x y i).2)⁻¹) (fun _ _=>Kk) (fun _ _=>Kk) (fun i _ h=>(acW (hv i).1 (hv i).2.1 (hv i).2.2 hp h).2 rfl) (fun i _ h=>(acW (hv i).1 (hv i).2.1 (hv i).2.2 hp h).1 rfl) fun lo hi h=>?_;have i1:(qv y.hi)⁻¹<=b⁻¹:=acV γ;have i2:b⁻¹<=(qv y.lo)⁻¹:=acV γ;exact Yd x1 x2 i1 i2 (h 1 δ) (h 0 δ) (h 3 δ) (h 2 δ)
 ·exact Or.inl rfl
theorem acX{z p:Int}{j:Nat}{up:Bool}(hp:8<=p/\p<=512)(hz:0<=z)(h:(jG z (-16384- (j:Int)) p up).2=0):0<=zI (jG z (-16384- (j:Int)) p up).1:=by
 unfold jG at h⊢;by_cases h0:z=0
 ·rw[if_pos h0,du rfl];omega
 ·rw[if_neg h0,decide_eq_false ω]at h⊢;unfold hH at h⊢;rw[if_neg (fun h1=>avD h1.2)]at h⊢;obtain⟨n,g1,_⟩:=Ht (s:=0) (t:=j) ω hp ω (fun h=>absurd h avD) h;omega
theorem aav{d:Rd}:0<=qv d↔0<=zI d:=by
 rw[←Jv,BB,du rfl]
theorem akH{d:Rd}{p:Int}{up:Bool}(v:vd d=true)(hp:bQ p=true)(h:(cz d p up).2=0):(0<=qv d->0<=qv (cz d p up).1)/\(up=true->qv d<=qv (cz d p up).1)/\(up=false->qv (cz d p up).1<=qv d):=by
 refine⟨fun hd=>?_,?_,?_⟩
 ·rw[aav]at hd⊢;have hp2:=zO hp;have hf:aY p [d]=0:=by grind[aY]
  unfold cz at h⊢;rw[if_pos hf]at h⊢;exact acX (j:=0) hp2 hd h
 ·rintro rfl
  exact BB.2 (ahP v hp h)
 ·rintro rfl
  exact BB.2 (ahO v hp h)
theorem ahZ{a b:Rd}{p:Int}{up:Bool}(ha:vd a=true)(hb:vd b=true)(hp:bQ p=true)(h1:0<=qv a)(h2:0<=qv b)(h:(fK a b p up).2=0):0<=qv (fK a b p up).1:=by
 rw[aav]at*
 unfold fK at h⊢;rw[if_pos (N2 ha hb hp)]at h⊢;exact acX (j:=16384) (zO hp) (Int.mul_nonneg h1 h2) h
theorem Jy{d:Rd}{p:Int}{up:Bool}:vd (cz d p up).1=true/\Ok0 (cz d p up).1:=by
 grind[cz,sN,bh]
theorem Jz{a b:Rd}{p:Int}{up:Bool}:vd (fK a b p up).1=true/\Ok0 (fK a b p up).1:=by
 grind[fK,sN,bh]
theorem SP{d:Rd}{p:Int}{up:Bool}:∀ (k:Nat) (r:Rd×Int),(vd r.1=true/\Ok0 r.1)->vd (mB d p up k r).1=true/\Ok0 (mB d p up k r).1
 |0,_,h=>h
 |k+1,r,h=>by
  unfold mB;split
  ·exact SP k _ Jz
  ·exact h
theorem agt{d:Rd}{p:Int}{up:Bool}(v:vd d=true)(hp:bQ p=true)(h0:0<=qv d):∀ (k m:Nat) (r:Rd×Int),vd r.1=true->(r.2=0->0<=qv r.1/\(up=true->qv d^m<=qv r.1)/\(up=false->qv r.1<=qv d^m))->(mB d p up k r).2=0->
  (up=true->qv d^ (m+k)<=qv (mB d p up k r).1)/\(up=false->qv (mB d p up k r).1<=qv d^ (m+k))
 |0,m,r,_,h,he=>(h he).2
 |k+1,m,r,vr,h,he=>by
  unfold mB at he⊢;by_cases hr:r.2=0
  ·rw[if_pos hr]at he⊢;obtain⟨a,b,c⟩:=h hr;rw[show m+(k+1)=m+1+k by omega];refine agt v hp h0 k (m+1) _ Jz.1 (fun hm=>⟨ahZ vr v hp a h0 hm,fun hu=>?_,fun hu=>?_⟩) he
   ·have h1:=(N4 vr v hp hm).1 hu;have h2:=awg (b hu) h0;grind[Rat.pow_succ,Rat.le_trans]
   grind[N4,awg,Rat.pow_succ,Rat.le_trans]
  grind
theorem akI{d:Rd}{p:Int}{up:Bool}{n:Nat}(v:vd d=true)(hp:bQ p=true)(h0:0<=qv d)(hn:1<=n)(he:(pw d n p up).2=0):(up=true->qv d^n<=qv (pw d n p up).1)/\(up=false->qv (pw d n p up).1<=qv d^n):=by
 have:=agt v hp h0 (n-1) 1 (cz d p up) Jy.1 (fun h=>by
  grind[akH,qv]) he
 rw[show 1+(n-1)=n by omega]at this;exact this
theorem BC{x:Rat}:∀n:Nat,(-x)^ (2*n+1)=-(x^ (2*n+1))
 |0=>by grind
 |n+1=>by
  have:=BC (x:=x) n;grind
theorem JA{x:Rat}:∀n:Nat,(-x)^ (2*n)=x^ (2*n)
 |0=>by grind
 |n+1=>by
  have:=JA (x:=x) n;grind
theorem N8{x:Rat}(h:0<=x):∀n:Nat,0<=x^n
 |0=>by grind
 |n+1=>by rw[Rat.pow_succ];exact Rat.mul_nonneg (N8 h n) h
theorem JB{x y:Rat}(h:0<=x)(h1:x<=y):∀n:Nat,x^n<=y^n
 |0=>by grind
 |n+1=>by
  rw[Rat.pow_succ,Rat.pow_succ];have a:=awg (JB h h1 n) h;have b:=Rat.mul_le_mul_of_nonneg_left h1 (N8 (Rat.le_trans h h1) n);exact Rat.le_trans a b
theorem aaw{x y:Rat}(h1:x<=y)(n:Nat):x^ (2*n+1)<=y^ (2*n+1):=by
 by_cases hx:0<=x
 ·grind[JB]
 ·by_cases hy:0<=y
  ·have a:=N8 (show 0≤-x by grind) (2*n+1);grind[N8,BC]
  ·have:=JB (x:=-y) (y:=-x) γ γ (2*n+1);grind[BC]
theorem akJ{d:Rd}(v:vd d=true):sS d<0↔qv d<0:=by
 rw[← (Hv v).2];grind[sS,gb]
theorem N9{d:Rd}{p:Int}{up:Bool}{n:Nat}(v:vd d=true)(hp:bQ p=true)(hn:1<=n)(ho:n%2=1\/0<=qv d)(he:(qJ d n p up).2=0):(up=true->qv d^n<=qv (qJ d n p up).1)/\(up=false->qv (qJ d n p up).1<=qv d^n):=by
 unfold qJ at he⊢;by_cases hs:sS d<0
 ·rw[if_pos hs]at he⊢;have hq:=(akJ v).1 hs;obtain⟨n1,n2⟩:=Gm v;have hodd:n=2*(n/2)+1:=by
   grind
  have hw:=akI n2 hp γ hn he;grind[vd,pw,hF,SP,Jy,qv,Gm,BC]
 ·rw[if_neg hs]at he⊢;exact akI v hp (Rat.not_lt.1 fun h=>hs ((akJ v).2 h)) hn he
theorem acY{d:Rd}(v:vd d=true)(ok:Ok0 d):(vd (rQ d)=true/\Ok0 (rQ d))/\0<=qv (rQ d)/\(qv (rQ d)=qv d\/qv (rQ d)=-qv d):=by
 unfold rQ;by_cases h0:d.m.length=0
 ·rw[if_pos (Or.inr h0),Jv]
  simp_all[qv,du,bh,Rat.le_refl]
 ·rw[if_neg γ];have hm:mg ⟨false,d.m,d.e⟩=mg d:=rfl;have h1:zI ⟨false,d.m,d.e⟩=mg d:=by rw[tZ.2 rfl,hm]
  refine⟨⟨?_,ok.1,ok.2⟩,?_,?_⟩
  ·simp_all[vd,if_neg]
  ·grind[aav]
  ·unfold qv;rw[h1];cases hn:d.neg with
   |true=>
    rw[tZ.1 hn,Rat.intCast_neg];grind
   |false=>
    left;rw[tZ.2 hn]
theorem ah0{x:Ri}{a b:Rat}(hx:In a x)(hb:0<=b)(hab:b=a\/b=-a):In b (uQ x)/\(kI x=true->0<=qv (uQ x).lo/\(uQ x).all=false):=by
 unfold uQ;by_cases h:kI x=true
 ·rw[if_pos h];rcases hx.k with⟨rfl,h1⟩| ⟨_,x1,x2⟩
  ·grind
  obtain⟨l1,l2,l3⟩:=acY hx.vi.1.1 hx.vi.1.2;obtain⟨h1,h2,h3⟩:=acY hx.vi.2.1 hx.vi.2.2;obtain⟨m1,m2,m3,m4,m5⟩:=PW l1 h1;obtain⟨n1,n2,n3,n4,n5⟩:=PV l1 h1;have hmag:b<=qv (Hl x):=by
   grind[Hl]
  have hmig:(vd (AT x)=true/\Ok0 (AT x))/\0<=qv (AT x)/\qv (AT x)<=b:=by
   unfold AT;split
   ·grind[Jv,bh,Rat.le_refl]
   ·next hs=>
    have hsg:0<qv x.lo\/qv x.hi<0:=by
     unfold Jf at hs;by_cases g1:0<gb x.lo
     ·exact Or.inl ((Hv hx.vi.1.1).1.1 g1)
     ·by_cases g2:gb x.hi<0
      ·exact Or.inr ((Hv hx.vi.2.1).2.1 g2)
      omega
    grind
  exact⟨Or.inr ⟨rfl,⟨hmig.1,⟨m3,m4⟩⟩,hmig.2.2,hmag⟩,fun _=>⟨hmig.2.1,rfl⟩⟩
 ·rw[if_neg h];exact⟨Or.inl rfl,fun hk=>absurd hk h⟩
theorem Vz:qv one=1:=by
 obtain⟨N,hN⟩:∃N:Nat,N=16384:=⟨_,rfl⟩;have hm:mg one=2^N:=by
  unfold mg;rw[show(one.e+16384).toNat=N by rw[hN];rfl];exact Nat.one_mul _
 unfold qv EQ;rw[tZ.2 rfl,hm,←hN,show(((2^N:Nat):Int):Rat)=pQ N by grind[pQ,Int.natCast_pow]];grind[Ju]
theorem Oa{d:Rd}{p:Int}{up:Bool}{n:Nat}:vd (qJ d n p up).1=true/\Ok0 (qJ d n p up).1:=by
 grind[qJ,vd,pw,SP,Jy,Gm,yg]
theorem Ko{x:Ri}{a:Rat}{n:Nat}{p:Int}(hx:In a x):In (a^n) (Eb x n p):=by
 unfold Eb;split
 ·next h=>
  simp only[avv]at h;obtain⟨⟨kx,hp⟩,_⟩:=h;split
  ·next h0=>
   subst h0;rw[Rat.pow_zero,←Vz];exact tW eG.1 eG.2
  ·next h0=>
   by_cases he:n%2=0
   ·rw[if_pos he];obtain⟨b,hb,hab⟩:∃b:Rat,0<=b/\(b=a\/b=-a):=by
     grind
    obtain⟨h1,h2⟩:=ah0 hx hb hab;obtain⟨g1,g2⟩:=h2 kx;have hpw:a^n=b^n:=by
     rcases hab with rfl|rfl
     ·rfl
     ·rw[show n=2*(n/2)by omega,JA]
    rw[hpw];rcases h1 with hW| ⟨_,hv,y1,y2⟩
    ·rw[hW]at g2;exact absurd g2 δ
    refine SO Oa Oa (fun h=>?_) (fun h=>?_)
    ·exact Rat.le_trans ((N9 hv.1.1 hp ω (Or.inr g1) h).2 rfl) (JB g1 y1 n)
    ·exact Rat.le_trans (JB (Rat.le_trans g1 y1) y2 n) ((N9 hv.2.1 hp ω (Or.inr (Rat.le_trans g1 (Rat.le_trans y1 y2))) h).1 rfl)
   ·rw[if_neg he];rcases hx.k with⟨rfl,h1⟩| ⟨_,x1,x2⟩
    ·grind
    have ho:n=2*(n/2)+1:=ω
    have le:∀ {x y:Rat},x<=y->x^n<=y^n:=fun h=>by
     grind[aaw]
    refine SO Oa Oa (fun h=>?_) (fun h=>?_)
    ·exact Rat.le_trans ((N9 hx.vi.1.1 hp ω (Or.inl ω) h).2 rfl) (le x1)
    ·exact Rat.le_trans (le x2) ((N9 hx.vi.2.1 hp ω (Or.inl ω) h).1 rfl)
 ·exact Or.inl rfl
theorem Yk{x:Rat}{m:Nat}:∀n:Nat,x^m*x^n=x^ (m+n)
 |0=>by grind
 |n+1=>by rw[Rat.pow_succ,←Rat.mul_assoc,Yk n,←awp,Rat.pow_succ]
theorem ah1{x:Ri}{a:Rat}{n:Nat}{p:Int}(hx:In a x):In (a^n) (Ec x n p):=by
 unfold Ec;split
 ·exact Ko hx
 ·have:=Be (p:=p) (Ko (n:=16) (p:=p) hx) (Ko (n:=n-16) (p:=p) hx);grind[Yk]
def InL:List Rat->List Ri->Prop
 |x::xs,d::ds=>In x d/\InL xs ds
 |[],[]=>True
 |_,_=>False
def E4(es:List Int):List Nat:=es.map Int.toNat
def fv(xs:List Rat):List Rt->Rat
 |[]=>0
 |t::l=>qv t.c*Li xs (E4 t.exps)+fv xs l
theorem ac0{p:Int}:∀ (xs:List Rat) (ds:List Ri) (es:List Int) (x:Ri) (q:Rat),InL xs ds->ds.length=es.length->In q x->In (q*Li xs (E4 es)) (Ji p ds es x)
 |[],[],[],x,q,_,_,h=>by
  show In (q*1) x;grind
 |y::xs,d::ds,e::es,x,q,hl,hd,h=>by
  show In (q*(y^e.toNat*Li xs (E4 es))) (Ji p ds es (if 0<e then iH x (Ec d e.toNat p) p else x));rw[←Rat.mul_assoc];refine ac0 xs ds es _ _ hl.2 γ ?_;split
  ·exact Be h (ah1 hl.1)
  ·rw[show e.toNat=0 by omega,Rat.pow_zero,Rat.mul_one];omega
 |[],_::_,_,_,_,hl,_,_=>hl.elim
 |_::_,[],_,_,_,hl,_,_=>hl.elim
 |_::_,_::_,[],_,_,_,hd,_=>by grind
 |[],[],_::_,_,_,_,hd,_=>by grind
theorem ac1{p:Int}{xs:List Rat}{dom:List Ri}(hl:InL xs dom):∀ (l:List Rt) (s:Ri) (q:Rat),(∀t∈l,vd t.c=true/\Ok0 t.c/\dom.length=t.exps.length)->In q s->In (q+fv xs l) (NX p dom l s)
 |[],s,q,_,h=>by
  show In (q+0) s;grind
 |t::l,s,q,ht,h=>by
  obtain⟨a,b,c⟩:=ht t σ;show In (q+(qv t.c*Li xs (E4 t.exps)+fv xs l)) _;rw[←Rat.add_assoc];exact ac1 hl l _ _ (fun u hu=>ht u (by simp[hu])) (Bc h (ac0 xs dom _ _ _ hl c (tW a b)))
theorem Re{a:Rp}{dom:List Ri}{xs:List Rat}{p:Int}(oa:OkP a)(hl:InL xs dom):In (fv xs a.terms) (pj a dom p):=by
 unfold pj;split
 ·next h=>
  unfold nP at h;simp only[avv,decide_eq_true_eq]at h;obtain⟨⟨hv,hd,_⟩,_⟩:=h;unfold vp at hv;simp only[avv,decide_eq_true_eq]at hv;have:=ac1 (p:=p) hl a.terms ⟨aI,aI,false⟩ 0 (fun t ht=>by
   have h1:=Ee (J9 _ _ hv.2.2.2 t ht);exact⟨h1.2.1,(oa.t t ht).c,by omega⟩) (by rw[←Jv];exact tW bh.1 bh.2)
  grind
 ·exact Or.inl rfl
def dec(l:List Int)(i:Nat):List Int:=l.set i (l.getD i 0-1)
theorem Yl:∀ {l:List Int} {i:Nat},i<l.length->bt (dec l i)=bt l-1
 |x::l,0,_=>by
  show(x-1)+bt l=(x+bt l)-1;omega
 |x::l,i+1,h=>by
  have ih:=Yl (l:=l) (i:=i) (by simpa using h);show x+bt (dec l i)=(x+bt l)-1;omega
theorem ColE.nil{v:Int}{l:List Rt}{c:AV}{e:Int}(hc:lX c l)(he:e=0\/e=9):ColE v l [] e c l e:=by
 refine⟨hc,?_⟩;rcases he with rfl|rfl
 ·exact .inl ⟨rfl,rfl,rfl⟩
 ·exact .inr ⟨rfl,fun h=>by omega⟩
structure Bf (v:Int) (l A:List Rt):Prop where
 cl:Cl v l
 lt:∀q∈l,∀t∈A,cw q.exps t.exps<0
theorem Bf.nil{v:Int}(A:List Rt):Bf v [] A:=⟨Cl.nil _,fun q h=>by grind⟩
theorem Bf.drop{v:Int}{l A:List Rt}{t:Rt}(h:Bf v l (t::A)):Bf v l A:=⟨h.cl,fun q hq x hx=>h.lt q hq x γ⟩
theorem Cl.tail{v:Int}{l:List Rt}{t:Rt}(h:Cl v (t::l)):Cl v l:=⟨fun q hq=>h.t q γ,(List.pairwise_cons.1 h.s).2⟩
theorem Cl.head{v:Int}{l:List Rt}{t:Rt}(h:Cl v (t::l)):VT v t:=h.t t σ
theorem Bf.push{v:Int}{l A:List Rt}{t:Rt}{d:Rd}(h:Bf v l (t::A))(hA:Cl v (t::A))(vt:VT v ⟨t.exps,d⟩):Bf v (l++[⟨t.exps,d⟩]) A:=by
 refine⟨⟨fun q hq=>?_,?_⟩,fun q hq x hx=>?_⟩
 ·rcases List.mem_append.1 hq with h1|h1
  ·exact h.cl.t q h1
  grind
 ·rw[List.pairwise_append];refine⟨h.cl.s,List.pairwise_singleton _ _,fun q hq x hx=>?_⟩;rw[List.mem_singleton.1 hx];exact h.lt q hq t σ
 ·rcases List.mem_append.1 hq with h1|h1
  ·exact h.lt q h1 x γ
  ·rw[List.mem_singleton.1 h1];exact(List.pairwise_cons.1 hA.s).1 x hx
theorem Cl.dropN{v:Int}:∀ {l:List Rt} (i:Nat),Cl v l->Cl v (l.drop i)
 |l,0,h=>h
 |[],_+1,h=>h
 |_::l,i+1,h=>Cl.dropN i h.tail
theorem Ek{v v':Int}{l A:List Rt}{t:Rt}{d:Rd}{c:AV}(h:Bf v l (t::A))(vt:VT v ⟨t.exps,d⟩)(hl:l.length<=1000000)(hc:lX c l):
  ∃c1,R F.poly_collector_add [.ref 1000 none 0 0 0,.sl 1 (aO t.exps),af d] [t3 v' c 0]=some (.tup [],[t3 v' c1 0])/\lX c1 (l++[⟨t.exps,d⟩]):=by
 obtain⟨c1,l1,e1,g1,g2,g3⟩:=PI (v':=v') h.cl vt hl hc;have he:wD l ⟨t.exps,d⟩=some (l++[⟨t.exps,d⟩]):=Vc fun q hq=>h.lt q hq t σ;grind
def VA(o:Int)(t:Rt):Bool:=decide (bt t.exps<=o)
def Oc(o:Int)(t:Rt):Bool:=!decide (bt t.exps<=o)
def gO(a:Rp)(o:Int):Rp×Rp:=if vp a=true then(⟨a.vars,a.terms.filter (VA o)⟩,⟨a.vars,a.terms.filter (Oc o)⟩)else(p0,p0)
def El(blk:Option (Ex×St))(i1 i2:Nat)(S:ak)(v':Int)(l1 l2 r1 r2:List Rt):Prop:=
 ∃hh c1 c2,blk=some (.normal,⟨S,hh⟩)/\hh 4=.bx [I 0,.emp]/\hh 5=.bx [I 0,.emp]/\hh i1=t3 v' c1 0/\hh i2=t3 v' c2 0/\lX c1 (l1++r1)/\lX c2 (l2++r2)
theorem El.p1{blk:Option (Ex×St)}{i1 i2:Nat}{S:ak}{v':Int}{l1 l2 r1 r2:List Rt}{t:Rt}(h:El blk i1 i2 S v' (l1++[t]) l2 r1 r2):El blk i1 i2 S v' l1 l2 (t::r1) r2:=by
 obtain⟨hh,c1,c2,h1,h2,h3,h4,h5,h6,h7⟩:=h;exact⟨hh,c1,c2,h1,h2,h3,h4,h5,by rwa[List.append_cons],h7⟩
theorem El.p2{blk:Option (Ex×St)}{i1 i2:Nat}{S:ak}{v':Int}{l1 l2 r1 r2:List Rt}{t:Rt}(h:El blk i1 i2 S v' l1 (l2++[t]) r1 r2):El blk i1 i2 S v' l1 l2 r1 (t::r2):=by
 obtain⟨hh,c1,c2,h1,h2,h3,h4,h5,h6,h7⟩:=h;exact⟨hh,c1,c2,h1,h2,h3,h4,h5,h6,by rwa[List.append_cons]⟩
theorem afq{v v' o:Int}{A:List Rt}(hA:Cl v A)(hn:A.length<=100000){o2:Ob}(k2c:∀ids,az ids o2=true):
  ∀ (k i:Nat),i+k=A.length->∀ (c1 c2:AV) (l1 l2:List Rt),lX c1 l1->lX c2 l2->Bf v l1 (A.drop i)->Bf v l2 (A.drop i)->l1.length+k<=1000000->l2.length+k<=1000000->∀ (s:ak) (h:ac),s 1=I o->s 4=.ref 4 none 0 0 0->s 5=.ref 5 none 0 0 0->s 6=.ref 2136 none 0 0 0->s 7=.ref 2160 none 0 0 0->s 22=.sl 4 (aH A)->s 23=I A.length->s 24=I i->h 2=o2->h 4=.bx [I 0,.emp]->h 5=.bx [I 0,.emp]->h 2136=t3 v' c1 0->h 2160=t3 v' c2 0->
  El (ah 0 [4,5,6,7] (av (ai R (ax false) lj) [1,4,5,6,7,22,23,24] [2,4,5,2136,2160] s h)) 2136 2160 (upd (upd (upd (upd (fun _=>.any) 7 (.ref 2160 none 0 0 0)) 6 (.ref 2136 none 0 0 0)) 5 (.ref 5 none 0 0 0)) 4 (.ref 4 none 0 0 0)) v' l1 l2 ((A.drop i).filter (VA o)) ((A.drop i).filter (Oc o)):=by
 intro k;induction k with
 |zero=>
  intro i hi c1 c2 l1 l2 hc1 hc2 _ _ _ _ s h g1 g4 g5 g6 g7 g22 g23 g24 k2 k4 k5 k2136 k2160;have e1:((i:Int)< (A.length:Int))=False:=ff;have ho1:=(kO (v:=v') (e:=0) hc1).cl [2,4,5,2136,2160];have ho2:=(kO (v:=v') (e:=0) hc2).cl [2,4,5,2136,2160];have ho3:=k2c [2,4,5,2136,2160];rw[avH ω,ag];refine⟨?hh0,c1,c2,?_,?_,?_,?_,?_,by grind,by grind⟩;rotate_left
  ·simp only[lj,go_sem,g1,g4,g5,g6,g7,g22,g23,g24,k2,k4,k5,k2136,k2160,ho1,ho2,ho3,e1];rfl
  ·rfl
  ·rfl
  ·rfl
  ·rfl
 |succ k ih=>
  intro i hi c1 c2 l1 l2 hc1 hc2 b1 b2 hl1 hl2 s h g1 g4 g5 g6 g7 g22 g23 g24 k2 k4 k5 k2136 k2160;have hlt:i<A.length:=ω
  have e1:((i:Int)< (A.length:Int))=True:=tt;have e2:bp (aH A) (i:Int)=some (.ipt (cx A[i])):=iX rfl (List.getElem?_eq_getElem hlt);have e5:IntKind.i64.wrap ((i:Int)+1)=((i+1:Nat):Int):=wi;have ho1:=(kO (v:=v') (e:=0) hc1).cl [2,4,5,2136,2160];have ho2:=(kO (v:=v') (e:=0) hc2).cl [2,4,5,2136,2160];have ho3:=k2c [2,4,5,2136,2160];have hAd:=hA.dropN i;rw[avI hlt]at b1 b2 hAd⊢;have ih':=ih (i+1) ω;have vt:=hAd.head;generalize A[i]=t at e2 vt b1 b2 hAd⊢;have hdeg:=yi vt.sm;rw[ag];generalize av _ _ _=L at ih'⊢;simp only[cx]at e2;by_cases hd:bt t.exps<=o
  ·have e3:(bt t.exps<=o)=True:=eq_true hd;have f1:(VA o t)=true:=decide_eq_true hd;have f2:¬ (Oc o t)=true:=by simp_all[Oc,decide_eq_true,avD]
   rw[List.filter_cons_of_pos f1,List.filter_cons_of_neg f2];obtain⟨c3,s1,s2⟩:=Ek (v':=v') b1 vt ω hc1;have hcall:=fun(h:ac) (hh:h 2136=t3 v' c1 0) (d:Nat)=>dA (aS.1.2.1 false) rfl (pn (d:=d) hh hc1 s2 s1);have ih2:=ih' c3 c2 _ l2 s2 hc2 (b1.push hAd vt) b2.drop γ ω;refine El.p1 ?_;simp only[af,aj]at hcall;simp only[lj,go_sem,g1,g4,g5,g6,g7,g22,g23,g24,k2,k4,k5,k2136,k2160,ho1,ho2,ho3,e1,e2,hdeg,e3];rw[hcall _ rfl];simp only[go_sem,e5];refine ih2 _ _ ?_ ?_ ?_ ?_ ?_ ?_ ?_ ?_ ?_ ?_ ?_ ?_ ?_
   all_goals first|rfl|assumption
  ·have e3:(bt t.exps<=o)=False:=eq_false hd;have f1:¬ (VA o t)=true:=by simp_all[VA,decide_eq_false,avD]
   have f2:(Oc o t)=true:=by grind[Oc,decide_eq_false]
   rw[List.filter_cons_of_neg f1,List.filter_cons_of_pos f2];obtain⟨c3,s1,s2⟩:=Ek (v':=v') b2 vt ω hc2;have hcall:=fun(h:ac) (hh:h 2160=t3 v' c2 0) (d:Nat)=>dA (aS.1.2.1 false) rfl (pn (d:=d) hh hc2 s2 s1);have ih2:=ih' c1 c3 l1 _ hc1 s2 b1.drop (b2.push hAd vt) ω γ;refine El.p2 ?_;simp only[af,aj]at hcall;simp only[lj,go_sem,g1,g4,g5,g6,g7,g22,g23,g24,k2,k4,k5,k2136,k2160,ho1,ho2,ho3,e1,e2,hdeg,e3];rw[hcall _ rfl];simp only[go_sem,e5];refine ih2 _ _ ?_ ?_ ?_ ?_ ?_ ?_ ?_ ?_ ?_ ?_ ?_ ?_ ?_
   all_goals first|rfl|assumption
theorem am7{v v' o:Int}{A:List Rt}(hA:Cl v A)(hn:A.length<=100000){o2:Ob}(k2c:∀ids,az ids o2=true)(s:ak)(h:ac)(X:Option (Ex×St))(hX:ah 0 [4,5,6,7] (av (ai R (ax false) lj) [1,4,5,6,7,22,23,24] [2,4,5,2136,2160] s h)=X)
  (g1:s 1=I o) (g4:s 4=.ref 4 none 0 0 0) (g5:s 5=.ref 5 none 0 0 0) (g6:s 6=.ref 2136 none 0 0 0) (g7:s 7=.ref 2160 none 0 0 0) (g22:s 22=.sl 4 (aH A)) (g23:s 23=I A.length) (g24:s 24=I 0) (k2:h 2=o2) (k4:h 4=.bx [I 0,.emp]) (k5:h 5=.bx [I 0,.emp]) (k2136:h 2136=t3 v' .emp 0) (k2160:h 2160=t3 v' .emp 0):
  El X 2136 2160 (upd (upd (upd (upd (fun _=>.any) 7 (.ref 2160 none 0 0 0)) 6 (.ref 2136 none 0 0 0)) 5 (.ref 5 none 0 0 0)) 4 (.ref 4 none 0 0 0)) v' [] [] (A.filter (VA o)) (A.filter (Oc o)):=by
 subst hX;exact afq hA hn k2c A.length 0 (avs _) .emp .emp [] [] (.inr ⟨rfl,rfl⟩) (.inr ⟨rfl,rfl⟩) (Bf.nil _) (Bf.nil _) γ γ s h g1 g4 g5 g6 g7 g22 g23 g24 k2 k4 k5 k2136 k2160
def afr(id:Nat)(s:ak)(h:ac):Ob->Option (ak×ac×K)
 | .bx cs=>some (kg [(id,true)] s,upd h id (.bx (cs.map lA)),[(id,true)])
 |_=>none
theorem uV(i id x y z:Nat)(s:ak)(h:ac):OE i s h (.ref id none x y z)=afr id s h (h id):=by
 grind[OE,afr]
theorem yn(id:Nat)(s:ak)(h:ac)(cs:List AV):afr id s h (.bx cs)=some (kg [(id,true)] s,upd h id (.bx (cs.map lA)),[(id,true)]):=rfl
def Ym(r:Rp×Rp):AV:=.tup [aZ r.1,aZ r.2]
theorem ac2{a:Rp}{o:Int}(oa:OkP a):R F.poly_Split [aZ a,I o] []=some (Ym (gO a o),[]):=by
 refine aB Un rfl ?_;have v1:=uS oa;simp only[aZ]at v1;unfold gO;cases va:vp a with
 |false=>
  rw[va]at v1;simp only[xd,DG,aZ,go_sem,v1];rfl
 |true=>
  rw[va]at v1;obtain⟨ka,a0,a8,al⟩:=lv oa va;have hemp:=A9 (v:=a.vars);have hl:=am7 (v:=a.vars) (v':=a.vars) (o:=o) ka ω (o2:=.bx [I a.vars,.sl 4 (aH a.terms)]) (fun _=>rfl);simp only[xd,DG,aZ,go_sem,v1,hemp,po];generalize hX:ah 0 _ _=X;have hM:=hl _ _ _ hX rfl rfl rfl rfl rfl rfl rfl rfl rfl rfl rfl rfl rfl;obtain⟨hh,c1,c2,rfl,q4,q5,q1,q2,i1,i2⟩:=hM;generalize a.terms.filter (VA o)=r1 at i1⊢;generalize a.terms.filter (Oc o)=r2 at i2⊢;rcases i1 with rfl| ⟨rfl,rfl⟩
  ·rcases i2 with rfl| ⟨rfl,rfl⟩
   ·simp only[t3]at q1 q2;simp only[Ym,aZ,go_sem,avV,av0,q4,q5,q1,q2,uV,yn,avY,av4,wS,uU]
   ·simp only[t3]at q1 q2;simp only[Ym,aZ,go_sem,avV,av0,q4,q5,q1,q2,uV,yn,avY,av4,wS,uU,Ba];rfl
  ·rcases i2 with rfl| ⟨rfl,rfl⟩
   ·simp only[t3]at q1 q2;simp only[Ym,aZ,go_sem,avV,av0,q4,q5,q1,q2,uV,yn,avY,av4,wS,uU,Ba];rfl
   ·simp only[t3]at q1 q2;simp only[Ym,aZ,go_sem,avV,av0,q4,q5,q1,q2,uV,yn,avY,av4,wS,Ba];rfl
def bI(ds:List Int)(cs:List Ri)(p:Int):Ob:=.bx [.osl 1 (aO ds),.osl 7 (bc cs),I p]
def Mq:List Int->Int->Int
 |[],n=>n
 |d::l,n=>Mq l (n*(d+1))
theorem qW(a b:AV)(k:Nat)(r:List (List AV)):kh 0 (.bx [.osl k r,a,b])=some (k,r):=rfl
theorem yp(h:ac)(n:Nat)(g:Bool)(i j:Nat)(r:List (List AV)):og h n g 1 i j (some (1,r))=(r[i]?).bind fun row=>(kF n g row j).map fun a=>(a,h,[]):=rfl
theorem afs{ds:List Int}{cs:List Ri}{p:Int}{m:Nat}(hm:m<=ds.length)(h8:m<=1000)(hb:∀d∈ds,0<=d/\d<=32):
  ∀ (k i:Nat),i+k=m->∀ (n:Int),0<=n->n*33^k<=10000000000000->∀ (s:ak) (h:ac),s 5=I n->s 13=.rsl 1000 (some 0) 1 0 m->s 14=I m->s 15=I i->h 1000=bI ds cs p->
  ∃hh,ah 0 [5] (av (ai R (ax true) jD) [5,13,14,15] [1000] s h)=some (.normal,⟨upd (fun _=>.any) 5 (I (Mq ((ds.take m).drop i) n)),hh⟩)/\hh 1000=bI ds cs p:=by
 intro k;induction k with
 |zero=>
  intro i hi n h0 hn s h g5 g13 g14 g15 k1000;have e1:((i:Int)< (m:Int))=False:=ff;rw[avH γ,ag];refine⟨?hh0,?_,?_⟩;rotate_left
  ·simp only[jD,bI,go_sem,g5,g13,g14,g15,k1000,e1];rfl
  ·rfl
 |succ k ih=>
  intro i hi n h0 hn s h g5 g13 g14 g15 k1000;have hlt2:i< (ds.take m).length:=γ
  have e1:((i:Int)< (m:Int))=True:=tt;have e2:(aO ds)[i]?=some [I (ds.take m)[i]]:=by
   unfold aO;rw[List.getElem?_map,List.getElem_take,List.getElem?_eq_getElem ω];rfl
  have e5:IntKind.i64.wrap ((i:Int)+1)=((i+1:Nat):Int):=wi;rw[avI hlt2];have hd:=hb (ds.take m)[i] (List.mem_of_mem_take (avN hlt2));generalize(ds.take m)[i]=d at e2 hd⊢;have e6:(0<=(i:Int))=True:=tt;have e3:IntKind.i64.wrap (d+1)=d+1:=i64_in _ ⟨by omega,by omega⟩;have hn2:n*(d+1)*33^k<=n*33^ (k+1):=by
   rw[Int.pow_succ,Int.mul_comm _ 33,←Int.mul_assoc];exact Int.mul_le_mul_of_nonneg_right (Int.mul_le_mul_of_nonneg_left ω h0) (Int.pow_nonneg δ)
  have hp1:(1:Int)<=33^k:=by
   have:=Int.pow_pos (n:=33) (m:=k) δ;omega
  have hn0:0<=n*(d+1):=Int.mul_nonneg h0 ω;have hn3:n*(d+1)<=10000000000000:=by
   have:=Int.mul_le_mul_of_nonneg_left hp1 hn0;omega
  have e4:IntKind.i64.wrap (n*(d+1))=n*(d+1):=i64_in _ ⟨by omega,by omega⟩;have ih':=ih (i+1) ω (n*(d+1)) hn0 ω;rw[ag];simp only[bI]at k1000;simp only[jD,go_sem,g5,g13,g14,g15,k1000,e1,e2,e3,e4,e5,e6,avy,avs,qW,yp];exact ih' _ _ rfl rfl rfl rfl rfl
theorem am8{ds:List Int}{cs:List Ri}{p:Int}{m:Nat}(hm:m<=ds.length)(h8:m<=8)(hb:∀d∈ds,0<=d/\d<=32)(s:ak)(h:ac)(X:Option (Ex×St))(hX:ah 0 [5] (av (ai R (ax true) jD) [5,13,14,15] [1000] s h)=X)(g5:s 5=I 1)(g13:s 13=.rsl 1000 (some 0) 1 0 m)(g14:s 14=I m)(g15:s 15=I 0)(k1000:h 1000=bI ds cs p):
  ∃hh,X=some (.normal,⟨upd (fun _=>.any) 5 (I (Mq (ds.take m) 1)),hh⟩)/\hh 1000=bI ds cs p:=by
 subst hX;exact afs hm ω hb m 0 (avs _) 1 δ (by
  have:(33:Int)^m<=33^8:=by
   have h1:33^m<=33^8:=av8 δ h8;grind
  omega) s h g5 g13 g14 g15 k1000
theorem Bg(ds:List Int):(aO ds).length=ds.length:=by simp[aO]
theorem ah2{ds:List Int}{cs:List Ri}{p:Int}{m:Nat}(hm:m<=ds.length)(h8:m<=8)(hb:∀d∈ds,0<=d/\d<=32):R F.bound_grid_step [.ref 1000 none 0 0 0,I m] [bI ds cs p]=some (I (Mq (ds.take m) 1),[bI ds cs p]):=by
 refine B0 KI KH (zK false) rfl ?_;have hl:=am8 (ds:=ds) (cs:=cs) (p:=p) hm h8 hb;have e1:eS 1 (.rsl 1000 (some 0) 1 0 ds.length) none (some (I (m:Int))) none=some (.rsl 1000 (some 0) 1 0 m):=by
  grind[eS,kf,jY]
 simp only[uG,CE,go_sem,bI,Bg,e1];generalize hX:ah 0 [5] _=X;obtain⟨hh,rfl,q⟩:=hl _ _ _ hX rfl rfl rfl rfl rfl;exact nJ rfl q rfl (by rfl) (by rfl)
def H4(c1 c2:ic):Prop:=∀f a hs r,c1 f a hs=some r->c2 f a hs=some r
section
variable {c1 c2:ic} {md:Mode}
theorem WP(hc:H4 c1 c2){h:ac}{d:Nat}{zas:List AV}{f:AV}{r:R3}(hz:dH c1 md h d zas f=some r):dH c2 md h d zas f=some r:=by
 cases f<;>simp only[dH]at hz⊢ <;>try (cases hz;done)
 simp only[avq]at hz⊢;obtain⟨p,e1,e2⟩:=hz;unfold jd at e2⊢;split at e2
 ·rename_i hcc;simp only[avq]at e2;obtain⟨q,e3,e4⟩:=e2;refine⟨p,e1,?_⟩;rw[if_pos hcc];simp only[avq];exact⟨q,hc _ _ _ _ e3,e4⟩
 ·cases e2
theorem Od(hc:H4 c1 c2){h:ac}{d:Nat}{zas:List AV}{f:AV}{r:R3}(hz:bv c1 md h d zas f=some r):bv c2 md h d zas f=some r:=by
 unfold bv at hz⊢;split at hz
 ·rename_i hb;rw[if_pos hb];cases f<;>simp only[MI]at hz⊢ <;>try (cases hz;done)
  simp only[avq]at hz⊢;obtain⟨p,e1,q,e3,e4⟩:=hz;exact⟨p,e1,q,hc _ _ _ _ e3,e4⟩
 ·rename_i hb;rw[if_neg hb];exact WP hc hz
theorem Rf(hc:H4 c1 c2){d:Nat}{op:AOp}{s:ak}{h:ac}{r:R3}(hz:step c1 md d op s h=some r):step c2 md d op s h=some r:=by
 cases op with
 |call f zas=>exact Od hc hz
 |callC f zas=>
  simp only[step,avq]at hz⊢;obtain⟨q,e1,e2⟩:=hz;exact⟨q,Od hc e1,e2⟩
 |_=>exact hz
theorem Rg(hc:H4 c1 c2){d:Option Nat}{op:AOp}{s:ak}{h:ac}{t:St}(hz:dC md.nm s d (step c1 md (d.getD 0) op s h)=some t):dC md.nm s d (step c2 md (d.getD 0) op s h)=some t:=by
 cases hs:step c1 md (d.getD 0) op s h with
 |none=>rw[hs]at hz;cases hz
 |some r=>
  rw[hs]at hz;rw[Rf hc hs];exact hz
theorem aax(hc:H4 c1 c2){o:COp}{s:ak}{h:ac}{t:St}(hz:lZ c1 md o s h=some t):lZ c2 md o s h=some t:=by
 unfold lZ at hz⊢;cases hg:o.g with
 |none=>rw[hg]at hz;exact Rg hc hz
 |some g=>
  rw[hg]at hz;simp only at hz⊢;unfold kW at hz⊢;split at hz
  ·split at hz
   ·rename_i hb;simp only[if_pos hb];exact Rg hc hz
   ·rename_i hb;simp only[if_neg hb];exact hz
  ·exact hz
  ·cases hz
theorem Em(hc:H4 c1 c2):∀ {l:List COp} {s:ak} {h:ac} {t:St},aF c1 md l s h=some t->aF c2 md l s h=some t
 |[],s,h,t,hz=>hz
 |o::l,s,h,t,hz=>by
  simp only[aF,bq]at hz;split at hz
  ·cases hz
  ·rename_i t1 ht1;simp only[aF,bq,aax hc ht1,Em hc hz]
theorem Oe(hc:H4 c1 c2){d:Option Nat}{op:AOp}{s:ak}{h:ac}{f:ac->Fp}{t:St×Fp}(hz:nF s d f (step c1 md (d.getD 0) op s h)=some t):nF s d f (step c2 md (d.getD 0) op s h)=some t:=by
 cases hs:step c1 md (d.getD 0) op s h with
 |none=>rw[hs]at hz;cases hz
 |some r=>
  rw[hs]at hz;rw[Rf hc hs];exact hz
theorem aay(hc:H4 c1 c2){o:COp}{s:ak}{h:ac}{t:St×Fp}(hz:ab3 c1 md o s h=some t):ab3 c2 md o s h=some t:=by
 unfold ab3 at hz⊢;cases hg:o.g with
 |none=>rw[hg]at hz;exact Oe hc hz
 |some g=>
  rw[hg]at hz;simp only at hz⊢;unfold rh at hz⊢;split at hz
  ·split at hz
   ·rename_i hb;simp only[if_pos hb];exact Oe hc hz
   ·rename_i hb;simp only[if_neg hb];exact hz
  ·exact hz
  ·cases hz
theorem JC(hc:H4 c1 c2):∀ {l:List COp} {s:ak} {h:ac} {t:St×List Fp},iw c1 md l s h=some t->iw c2 md l s h=some t
 |[],s,h,t,hz=>hz
 |o::l,s,h,t,hz=>by
  simp only[iw,avq]at hz;obtain⟨r,e1,q,e2,e3⟩:=hz;simp only[iw,aay hc e1,JC hc e2,avw,e3]
theorem aaz(hc:H4 c1 c2){l:List COp}{ps:List (Nat×Nat)}{s:ak}{h:ac}{t:St}(hz:ri c1 md l ps s h=some t):ri c2 md l ps s h=some t:=by
 unfold ri at hz⊢;cases hb:Bp ps with
 |none=>
  rw[hb]at hz;simp only[BE,avq]at hz;obtain⟨q,e1,e2⟩:=hz;simp only[BE,JC hc e1,avw,e2]
 |some b=>
  rw[hb]at hz;simp only[Gz,avq]at hz;obtain⟨q,e1,e2⟩:=hz;split at e2
  ·rename_i hps;simp only[bq]at e2;split at e2
   ·cases e2
   ·rename_i t1 ht1;simp only[Gz,JC hc e1,avw,if_pos hps,ht1,bq,Em hc e2]
  ·cases e2
theorem JD{b1 b2:ak->ac->Option (Ex×St)}{ks hs:List Nat}(ih:∀ {s:ak} {h:ac} {r:Ex×St},b1 s h=some r->b2 s h=some r):
  ∀ (m:Nat) {j:Nat},m<=j->∀ {s:ak} {h:ac} {r:Ex×St},td b1 ks hs m s h=some r->td b2 ks hs j s h=some r
 |0,j,hj,s,h,r,hz=>by simp[td]at hz
 |m+1,j,hj,s,h,r,hz=>by
  obtain⟨j,rfl⟩:∃j',j=j'+1:=⟨j-1,by omega⟩;simp only[td]at hz⊢;split at hz
  ·rename_i hc;rw[if_pos hc];cases hb:b1 (mk .any (fun i=>gE hs (s i)) ks) (mk .dead h hs)with
   |none=>rw[hb]at hz;cases hz
   |some q=>
    rw[hb]at hz;rw[ih hb];obtain⟨ex,t⟩:=q;cases ex with
    |normal=>exact JD ih m ω hz
    |exit id=>exact hz
    |ret=>exact hz
  ·cases hz
theorem jU(hc:H4 c1 c2){lf lf':Nat}(hl:lf<=lf'):∀ (c:Cmd) {s:ak} {h:ac} {r:Ex×St},cI c1 md lf c s h=some r->cI c2 md lf' c s h=some r
 | .skip,s,h,r,hz=>hz
 | .ops ks l,s,h,r,hz=>by
  simp only[cI,bq]at hz;split at hz
  ·cases hz
  ·rename_i t1 ht1;simp only[cI,Em hc ht1,bq];exact hz
 | .dops ks l ps,s,h,r,hz=>by
  simp only[cI,bq]at hz;split at hz
  ·cases hz
  ·rename_i t1 ht1;simp only[cI,aaz hc ht1,bq];exact hz
 | .seq a b,s,h,r,hz=>by
  simp only[cI,cS]at hz;split at hz
  ·cases hz
  ·rename_i t1 ht1;simp only[cI,cS,jU hc hl a ht1,jU hc hl b hz]
  ·rename_i i t1 ht1;simp only[cI,cS,jU hc hl a ht1];exact hz
  ·rename_i t1 ht1;simp only[cI,cS,jU hc hl a ht1];exact hz
 | .cond c a b,s,h,r,hz=>by
  simp only[cI,rj]at hz;split at hz
  ·rename_i t ht;cases t with
   |true=>simp only[cI,rj,ht,if_true];exact jU hc hl a hz
   |false=>simp only[cI,rj,ht,awo,if_false];exact jU hc hl b hz
  ·cases hz
 | .block id ks a,s,h,r,hz=>by
  simp only[cI,ah]at hz;split at hz
  ·cases hz
  ·rename_i t1 ht1;simp only[cI,ah,jU hc hl a ht1];exact hz
  ·rename_i i t1 ht1;simp only[cI,ah,jU hc hl a ht1];exact hz
  ·rename_i t1 ht1;simp only[cI,ah,jU hc hl a ht1];exact hz
 | .loop ks hs a,s,h,r,hz=>by
  simp only[cI]at hz⊢;exact JD (fun hh=>jU hc hl a hh) lf hl hz
 | .exit id,s,h,r,hz=>hz
 | .ret,s,h,r,hz=>hz
 | .frz is a,s,h,r,hz=>by
  simp only[cI,bq]at hz;split at hz
  ·cases hz
  ·rename_i t1 ht1;simp only[cI,bq,ht1];exact jU hc hl a hz
end
theorem akK:Option.any bB (some AV.emp)=false:=rfl
def lw(v:Nat):List Int:=avr v 0
theorem akL{h:ac}{id id2 k n:Nat}{rows:List (List AV)}{a:AV}{z:Int}(h1:h id2=.ar k rows)(hn:n=rows.length)(h2:h id=.bx [.any,.any,.any])(hne:id≠id2):
  Lm id 0 [.rsl id2 none k 0 n,.emp,I z] (a,h,[])=some (a,upd (upd (upd (upd h id2 .dead) id (.bx [.osl k rows,.any,.any])) id (.bx [.osl k rows,.emp,.any])) id (.bx [.osl k rows,.emp,I z]),[(id2,false)]):=by
 have h3:upd h id2 .dead id=.bx [.any,.any,.any]:=by
  simp_all[upd,if_neg]
 have e1:∀ (g:ac) o,upd g id o id=o:=fun g o=>by simp_all[upd,if_pos]
 have k1:∀K,tv K .emp=.emp:=fun K=>rfl;have k2:∀K,tv K (I z)=I z:=fun K=>rfl
 simp_all[bB,aD,I,Lm,rX,HC,Qf,Ll,CM]
def C2:List Int->Int->Option Int
 |[],n=>some n
 |d::l,n=>if 400<n*(d+1)then none else C2 l (n*(d+1))
def Gr2(blk:Option (Ex×St))(o2 g:Ob):Option Int->Prop
 |some n=>∃hh,blk=some (.normal,⟨upd (upd (upd (fun _=>.any) 11 (I n)) 6 (.ref 24 none 0 0 0)) 2 (.ref 2 none 0 0 0),hh⟩)/\hh 2=o2/\hh 24=g/\(∀a,a≠2->a≠24->hh a=.dead)
 |none=>∃hh,blk=some (.ret,⟨upd (upd (fun _=>.any) 5 (B false)) 4 (.v (.pointer none)),hh⟩)
theorem aft{ds:List Int}{p:Int}{m:Nat}(hm:m=ds.length)(h8:m<=1000)(hb:∀d∈ds,0<=d/\d<=32){o2:Ob}(c2:∀l,az l o2=true):
  ∀ (k i:Nat),i+k=m->∀ (n:Int),0<=n->n<=400->∀ (s:ak) (h:ac),s 2=.ref 2 none 0 0 0->s 6=.ref 24 none 0 0 0->s 11=I n->s 60=.rsl 24 (some 0) 1 0 m->s 61=I m->s 62=I i->h 2=o2->h 21=.dead->h 24=.bx [.osl 1 (aO ds),.emp,I p]->h 2624=.dead->
  Gr2 (ah 4 [2,6,11] (av (ai R (ax false) gW) [2,6,11,60,61,62] [2,21,24,2624] s h)) o2 (.bx [.osl 1 (aO ds),.emp,I p]) (C2 (ds.drop i) n):=by
 intro k;induction k with
 |zero=>
  intro i hi n h0 hn s h g2 g6 g11 g60 g61 g62 k2 k21 k24 k2624;have e1:((i:Int)< (m:Int))=False:=ff;have hc:=c2 [2,21,24,2624];rw[avH ω,ag];refine⟨?hh0,?_,?_,?_,?_⟩;rotate_left
  ·simp only[gW,go_sem,g2,g6,g11,g60,g61,g62,k2,k21,k24,k2624,hc,e1];rfl
  all_goals simp_all[cU,if_false,ite_self]
 |succ k ih=>
  intro i hi n h0 hn s h g2 g6 g11 g60 g61 g62 k2 k21 k24 k2624;have hlt:i<ds.length:=ω
  have e1:((i:Int)< (m:Int))=True:=tt;have e2:(aO ds)[i]?=some [I ds[i]]:=by
   grind[aO]
  have e5:IntKind.i64.wrap ((i:Int)+1)=((i+1:Nat):Int):=wi;have hc:=c2 [2,21,24,2624];rw[avI hlt];have hd:=hb ds[i] (avN hlt);generalize ds[i]=d at e2 hd⊢;have e6:(0<=(i:Int))=True:=tt;have e3:IntKind.i64.wrap (d+1)=d+1:=i64_in _ ⟨by omega,by omega⟩;have hn0:0<=n*(d+1):=Int.mul_nonneg h0 ω;have hn3:n*(d+1)<=400*33:=Int.mul_le_mul hn ω ω δ;have e4:IntKind.i64.wrap (n*(d+1))=n*(d+1):=i64_in _ ⟨by omega,by omega⟩;have ih':=ih (i+1) ω (n*(d+1)) hn0;have hrow:C2 (d::ds.drop (i+1)) n=if 400<n*(d+1)then none else C2 (ds.drop (i+1)) (n*(d+1)):=rfl
  rw[hrow,ag];by_cases hq:400<n*(d+1)
  ·have e7:(400<n*(d+1))=True:=eq_true hq;rw[if_pos hq];refine⟨?hh1,?_⟩;rotate_left
   ·simp only[gW,go_sem,g2,g6,g11,g60,g61,g62,k2,k21,k24,k2624,hc,e1,e2,e3,e4,e6,e7,avy,avs,qW,yp];rfl
  ·have e7:(400<n*(d+1))=False:=eq_false hq;simp only[gW,go_sem,g2,g6,g11,g60,g61,g62,k2,k21,k24,k2624,hc,e1,e2,e3,e4,e5,e6,e7,avy,avs,qW,yp];refine ih' ω _ _ ?_ ?_ ?_ ?_ ?_ ?_ ?_ ?_ ?_ ?_
   all_goals first|rfl|assumption
theorem am9{ds:List Int}{p:Int}{m:Nat}(hm:m=ds.length)(h8:m<=1000)(hb:∀d∈ds,0<=d/\d<=32){o2:Ob}(c2:∀l,az l o2=true)(s:ak)(h:ac)(X:Option (Ex×St))(hX:ah 4 [2,6,11] (av (ai R (ax false) gW) [2,6,11,60,61,62] [2,21,24,2624] s h)=X)(g2:s 2=.ref 2 none 0 0 0)(g6:s 6=.ref 24 none 0 0 0)(g11:s 11=I 1)(g60:s 60=.rsl 24 (some 0) 1 0 m)(g61:s 61=I m)(g62:s 62=I 0)(k2:h 2=o2)(k21:h 21=.dead)(k24:h 24=.bx [.osl 1 (aO ds),.emp,I p])(k2624:h 2624=.dead):
  Gr2 X o2 (.bx [.osl 1 (aO ds),.emp,I p]) (C2 ds 1):=by
 subst hX;exact aft hm h8 hb c2 m 0 (avs _) 1 δ δ s h g2 g6 g11 g60 g61 g62 k2 k21 k24 k2624
theorem VB(v:Nat):avr v [I 0]=aO (lw v):=by
 grind[aO,lw,List.map_replicate]
theorem agv{v:Nat}:∀d∈lw v,0<=d/\d<=32:=fun d hd=>by
 rw[List.eq_of_mem_replicate hd];decide
theorem ah3(h:ac)(i:Nat)(xs:List AV)(a b:AV)(r:List (List AV)):Es h 1 24 0 1 i 0 xs [] (.bx [.osl 1 r,a,b])=(qZ 1 1 i 0 xs 1 r).map fun q=>(.und,upd h 24 (.bx [.osl 1 q,a,b]),[]):=rfl
theorem JE{f:FuncId}{h:ac}{d id:Nat}{zas as':List AV}{o o':Ob}{res:AV}(hm:(ax false).m f=[])(hk:(ax false).keep f=true)(hn:bm ((ax false).sh f) (.ref id none 0 0 0::zas)=.ref id none 0 0 0::as')(hd:zas.all dat=true)(hd':as'.all dat=true)
  (hh:h id=o) (ho:OC o) (ho':OC o') (hb:bf o=true->bf o'=true) (hR:R f (.ref 1000 none 0 0 0::as') [o]=some (res,[o'])) (hr:RT res) (h8:cu res<=8) (hfr:bY h (2000+8*d) (cu res)=true):
  bv R (ax false) h d (.ref id none 0 0 0::zas) (.fn f [] [])=some (res,upd h id o',[]):=by
 have h1:bO h [] (.ref id none 0 0 0::zas)=some (.ref id none 0 0 0::zas,h,[]):=by
  simp only[bO,dE,avw,List.tail_nil,Ki h hd,avE]
 have hp:bu [] ((AV.ref id none 0 0 0::zas).flatMap bZ)=[id]:=by
  rw[List.flatMap_cons,xN fun x hx=>Dc (List.all_eq_true.1 hd x hx)];rfl
 have hre:bX h 40 [id] 0=[id]:=by
  simp[bX,hh,ho.ids,bu]
 have h3:aW [id] id=1000:=by simp[aW]
 have hall:(AV.ref id none 0 0 0::as').all (aX [id])=true:=by
  grind[aX,bo,Gi]
 have hmap:(AV.ref id none 0 0 0::as').map (dB (aW [id]))=.ref 1000 none 0 0 0::as':=by
  rw[avY,(avR (g:=fun c=>c) fun x hx=>Dd (List.all_eq_true.1 hd' x hx) _).trans (av5 as')];grind[dB,jk]
 have hob:([id].map fun a=>dG (aW [id]) (h a))=[o]:=by simp[hh,ho.ren]
 have hids:([id].all fun a=>az [id] (h a)&&!bL (h a))=true:=by simp[hh,ho.cl,ho.nd]
 unfold bv;rw[if_neg (by grind[jn])];simp only[dH,hm,avB,avE,h1,avw,hp,hre,hn];unfold jd;rw[hall,hids,hmap,hob,hR,awa,if_pos rfl,avw,hk,hm,qO];unfold dX;have hbf:cO h [] [id] [o']=true:=by
  have:=ho'.nd;grind[bf,cO]
 have hend:kG h [id] [] (res,[o'])=true:=by
  simp[kG,yw,hr.ok,ho'.cl]
 rw[if_pos ⟨rfl,by simp,h8,hfr,hbf,hend⟩];simp[dS,fG,hr.mat,hr.ren,ho'.ren]
theorem cB(ds:List Int)(cs:List Ri)(p:Int):OC (bI ds cs p):=⟨fun _=>rfl,rfl,fun _=>rfl,rfl⟩
theorem JF{ds:List Int}{cs:List Ri}{p:Int}{m:Nat}(hm:m<=ds.length)(h8:m<=8)(hb:∀d∈ds,0<=d/\d<=32){h:ac}{d id:Nat}(hh:h id=bI ds cs p)(hd:h (2000+8*d)=.dead):
  bv R (ax false) h d [.ref id none 0 0 0,I m] (.fn F.bound_grid_step [] [])=some (I (Mq (ds.take m) 1),upd h id (bI ds cs p),[]):=
 JE (lW false) (zK false) (as':=[I m]) (by simp only[go_sem]) rfl rfl hh (cB _ _ _) (cB _ _ _) (fun _=>rfl) (ah2 hm h8 hb) (akb _) (avW rfl) (by grind[bY,cu,bL])
theorem yq(a b:AV)(k:Nat)(r:List (List AV)):kh 1 (.bx [a,.osl k r,b])=some (k,r):=rfl
theorem ana{f:FuncId}{fd:FD}{args:List AV}{os:List Ob}{r:AV×List Ob}(hE:cG.E f=none)(hC:cG.C f=some fd)(hk:cG.md.keep f=false)(h1:args.length=fd.np)(h2:os.length<=1000)
  (hz:jV false fd.rs fd.res os.length (ai R (ax false) fd.body (te args) (ao os))=some r):R f args os=some r:=
 IZ false hE hC hk h1 h2 hz
theorem VC(a b c d e:Ob):ao [a,b,c,d,e]=upd (upd (upd (upd (upd (fun _=>.dead) 1004 e) 1003 d) 1002 c) 1001 b) 1000 a:=by
 funext i;unfold ao upd;by_cases h0:i=1000
 ·simp_all
 by_cases h1:i=1001
 ·simp_all
 by_cases h2:i=1002
 ·simp_all
 by_cases h3:i=1003
 ·simp_all
 by_cases h4:i=1004
 ·simp_all
 simp only[h0,h1,h2,h3,h4,if_false];by_cases h5:1000<=i
 ·rw[if_pos h5,List.getElem?_eq_none (by simp;omega)];rfl
 grind
theorem VD(a b c:Ob):ao [a,b,c]=upd (upd (upd (fun _=>.dead) 1002 c) 1001 b) 1000 a:=by
 funext i;unfold ao upd;by_cases h0:i=1000
 ·simp_all
 by_cases h1:i=1001
 ·simp_all
 by_cases h2:i=1002
 ·simp_all
 simp only[h0,h1,h2,if_false];by_cases h5:1000<=i
 ·rw[if_pos h5,List.getElem?_eq_none γ];rfl
 grind
def fP(x:Ri):Ob:=.bx [B x.lo.neg,lm x.lo.m,I x.lo.e,B x.hi.neg,lm x.hi.m,I x.hi.e,B x.all]
theorem ge(x:Ri):OC (fP x):=⟨fun _=>rfl,rfl,fun _=>rfl,rfl⟩
theorem aaA{l st n:Int}{lo w:Ri}{ds:List Int}{cs cs':List Ri}{p:Int}(hR:R F.bound_grid_unit_1 [I l,I st,.ref 1000 none 0 0 0,.ref 1001 none 0 0 0,.ref 1002 none 0 0 0,.ref 1003 none 0 0 0] [.bx [I n],.bx [.ref 1004 none 0 0 0],fP lo,fP w,bI ds cs p]=some (.tup [],[.bx [I n],.bx [.ref 1004 none 0 0 0],fP lo,fP w,bI ds cs' p])){h:ac}{d:Nat}(h0:h 1000=bI ds cs p)(h1:h 1001=.bx [I n])(h2:h 1002=.bx [.ref 1000 none 0 0 0])(h3:h 1003=fP lo)(h4:h 1004=fP w)(hf:h (2000+8*d)=.dead):
  bv R (ax false) h d [I l,I st] (.fn F.bound_grid_unit_1 [] [.ref 1001 none 0 0 0,.ref 1002 none 0 0 0,.ref 1003 none 0 0 0,.ref 1004 none 0 0 0])=some (.tup [],upd (upd (upd (upd (upd h 1001 (.bx [I n])) 1002 (.bx [.ref 1000 none 0 0 0])) 1003 (fP lo)) 1004 (fP w)) 1000 (bI ds cs' p),[(1001,true),(1002,true),(1003,true),(1004,true),(1000,true)]):=by
 have hre:bX h 40 [1001,1002,1003,1004] 0=[1001,1002,1003,1004,1000]:=by
  have i0:nM (bI ds cs p)=[]:=(cB ds cs p).ids;have i1:nM (.bx [I n])=[]:=rfl;have i2:nM (.bx [.ref 1000 none 0 0 0])=[1000]:=rfl;have i3:nM (fP lo)=[]:=(ge lo).ids;have i4:nM (fP w)=[]:=(ge w).ids
  simp_all[bX,bu]
 unfold bv;rw[if_neg (by simp[jn,eN.1.2.1])];have hin:bO h [] [I l,I st,.ref 1001 none 0 0 0,.ref 1002 none 0 0 0,.ref 1003 none 0 0 0,.ref 1004 none 0 0 0]=some ([I l,I st,.ref 1001 none 0 0 0,.ref 1002 none 0 0 0,.ref 1003 none 0 0 0,.ref 1004 none 0 0 0],h,[]):=rfl;have hids:bu [] ([I l,I st,AV.ref 1001 none 0 0 0,.ref 1002 none 0 0 0,.ref 1003 none 0 0 0,.ref 1004 none 0 0 0].flatMap bZ)=[1001,1002,1003,1004]:=rfl;simp only[dH,eN.1.2.1,avB,avS,hin,avw,hids,hre,eN.1.1];have hn:bm [] [I l,I st,AV.ref 1001 none 0 0 0,.ref 1002 none 0 0 0,.ref 1003 none 0 0 0,.ref 1004 none 0 0 0]=[I l,I st,AV.ref 1001 none 0 0 0,.ref 1002 none 0 0 0,.ref 1003 none 0 0 0,.ref 1004 none 0 0 0]:=rfl;rw[hn];unfold jd;have hob:([1001,1002,1003,1004,1000].map fun a=>dG (aW [1001,1002,1003,1004,1000]) (h a))=[.bx [I n],.bx [.ref 1004 none 0 0 0],fP lo,fP w,bI ds cs p]:=by
  simp only[List.map,h0,h1,h2,h3,h4];rfl
 have hcl:([1001,1002,1003,1004,1000].all fun a=>az [1001,1002,1003,1004,1000] (h a)&&!bL (h a))=true:=by
  simp only[avQ,List.all_nil,h0,h1,h2,h3,h4];rfl
 rw[hob,hcl,if_pos (by rfl)];rw[show [I l,I st,AV.ref 1001 none 0 0 0,.ref 1002 none 0 0 0,.ref 1003 none 0 0 0,.ref 1004 none 0 0 0].map (dB (aW [1001,1002,1003,1004,1000]))=[I l,I st,.ref 1000 none 0 0 0,.ref 1001 none 0 0 0,.ref 1002 none 0 0 0,.ref 1003 none 0 0 0]from rfl,hR,avw,eN.1.2.2.2,eN.1.2.1,qO];unfold dX;rw[if_pos ⟨rfl,avW rfl,avW rfl,by simp[bY,cu],by grind[cO,fP,bI,bf,bL],rfl⟩];rfl
theorem aaB{l st n:Int}{ds:List Int}{cs cs':List Ri}{p:Int}(hR:R F.bound_grid_bernstein_1 [I l,I st,.ref 1000 none 0 0 0,.ref 1001 none 0 0 0] [.bx [I n],.bx [.ref 1002 none 0 0 0],bI ds cs p]=some (.tup [],[.bx [I n],.bx [.ref 1002 none 0 0 0],bI ds cs' p])){h:ac}{d:Nat}(h0:h 1000=bI ds cs p)(h1:h 1001=.bx [I n])(h2:h 1002=.bx [.ref 1000 none 0 0 0])(hf:h (2000+8*d)=.dead):
  bv R (ax false) h d [I l,I st] (.fn F.bound_grid_bernstein_1 [] [.ref 1001 none 0 0 0,.ref 1002 none 0 0 0])=some (.tup [],upd (upd (upd h 1001 (.bx [I n])) 1002 (.bx [.ref 1000 none 0 0 0])) 1000 (bI ds cs' p),[(1001,true),(1002,true),(1000,true)]):=by
 have hre:bX h 40 [1001,1002] 0=[1001,1002,1000]:=by
  have i0:nM (bI ds cs p)=[]:=(cB ds cs p).ids;have i1:nM (.bx [I n])=[]:=rfl;have i2:nM (.bx [.ref 1000 none 0 0 0])=[1000]:=rfl
  simp_all[bX,bu]
 unfold bv;rw[if_neg (by simp[jn,di.1.2.1])];have hin:bO h [] [I l,I st,.ref 1001 none 0 0 0,.ref 1002 none 0 0 0]=some ([I l,I st,.ref 1001 none 0 0 0,.ref 1002 none 0 0 0],h,[]):=rfl;have hids:bu [] ([I l,I st,AV.ref 1001 none 0 0 0,.ref 1002 none 0 0 0].flatMap bZ)=[1001,1002]:=rfl;simp only[dH,di.1.2.1,avB,avS,hin,avw,hids,hre,di.1.1];have hn:bm [] [I l,I st,AV.ref 1001 none 0 0 0,.ref 1002 none 0 0 0]=[I l,I st,AV.ref 1001 none 0 0 0,.ref 1002 none 0 0 0]:=rfl;rw[hn];unfold jd;have hob:([1001,1002,1000].map fun a=>dG (aW [1001,1002,1000]) (h a))=[.bx [I n],.bx [.ref 1002 none 0 0 0],bI ds cs p]:=by
  simp only[List.map,h0,h1,h2];rfl
 have hcl:([1001,1002,1000].all fun a=>az [1001,1002,1000] (h a)&&!bL (h a))=true:=by
  simp only[avQ,List.all_nil,h0,h1,h2];rfl
 rw[hob,hcl,if_pos (by rfl)];rw[show [I l,I st,AV.ref 1001 none 0 0 0,.ref 1002 none 0 0 0].map (dB (aW [1001,1002,1000]))=[I l,I st,.ref 1000 none 0 0 0,.ref 1001 none 0 0 0]from rfl,hR,avw,di.1.2.2.2,di.1.2.1,qO];unfold dX;rw[if_pos ⟨rfl,avW rfl,avW rfl,by simp[bY,cu],by grind[cO,bI,bf,bL],rfl⟩];rfl
theorem VE{f:FuncId}{h:ac}{d:Nat}{zas as':List AV}{r:Option R3}(hm:(ax false).m f=[])(hd:bO h [] zas=some (as',h,[]))(hc:bv R (ax false) h d zas (.fn f [] [])=r):GU R (ax false) d f (as',h,[])=r:=by
 grind[GV]
theorem Of{i:Nat}{m:Int}{lo w:Ri}{ds:List Int}{cs cs':List Ri}{p:Int}(hR:R F.bound_grid_lines [.ref 1000 none 0 0 0,I i,.fn F.bound_grid_unit_1 [] [.ref 1001 none 0 0 0,.ref 1002 none 0 0 0,.ref 1003 none 0 0 0,.ref 1004 none 0 0 0]] [bI ds cs p,.bx [I m],.bx [.ref 1000 none 0 0 0],fP lo,fP w]=some (.tup [],[bI ds cs' p,.bx [I m],.bx [.ref 1000 none 0 0 0],fP lo,fP w])){h:ac}{d:Nat}(h0:h 1000=bI ds cs p)(h1:h 8=.bx [I m])(h2:h 3=.bx [.ref 1000 none 0 0 0])(h3:h 6=fP lo)(h4:h 7=fP w)(hf:h (2000+8*d)=.dead):
  bv R (ax false) h d [.ref 1000 none 0 0 0,I i,.fn F.bound_grid_unit_1 [] [.ref 8 none 0 0 0,.ref 3 none 0 0 0,.ref 6 none 0 0 0,.ref 7 none 0 0 0]] (.fn F.bound_grid_lines [] [])=some (.tup [],upd (upd (upd (upd (upd h 1000 (bI ds cs' p)) 8 (.bx [I m])) 3 (.bx [.ref 1000 none 0 0 0])) 6 (fP lo)) 7 (fP w),[(1000,true),(8,true),(3,true),(6,true),(7,true)]):=by
 have hre:bX h 40 [1000,8,3,6,7] 0=[1000,8,3,6,7]:=by
  have i0:nM (bI ds cs p)=[]:=(cB _ _ p).ids;have i1:nM (.bx [I m])=[]:=rfl;have i2:nM (.bx [.ref 1000 none 0 0 0])=[1000]:=rfl;have i3:nM (fP lo)=[]:=(ge lo).ids;have i4:nM (fP w)=[]:=(ge w).ids
  simp_all[bX,bu]
 unfold bv;rw[if_neg (by simp[jn,bE.1.2.1])];have hin:bO h [] [.ref 1000 none 0 0 0,I i,.fn F.bound_grid_unit_1 [] [.ref 8 none 0 0 0,.ref 3 none 0 0 0,.ref 6 none 0 0 0,.ref 7 none 0 0 0]]=some ([.ref 1000 none 0 0 0,I i,.fn F.bound_grid_unit_1 [] [.ref 8 none 0 0 0,.ref 3 none 0 0 0,.ref 6 none 0 0 0,.ref 7 none 0 0 0]],h,[]):=rfl;have hids:bu [] ([AV.ref 1000 none 0 0 0,I i,.fn F.bound_grid_unit_1 [] [.ref 8 none 0 0 0,.ref 3 none 0 0 0,.ref 6 none 0 0 0,.ref 7 none 0 0 0]].flatMap bZ)=[1000,8,3,6,7]:=rfl;simp only[dH,bE.1.2.1,avB,avE,hin,avw,hids,hre,bE.1.1];have hn:bm [] [AV.ref 1000 none 0 0 0,I i,.fn F.bound_grid_unit_1 [] [.ref 8 none 0 0 0,.ref 3 none 0 0 0,.ref 6 none 0 0 0,.ref 7 none 0 0 0]]=[AV.ref 1000 none 0 0 0,I i,.fn F.bound_grid_unit_1 [] [.ref 8 none 0 0 0,.ref 3 none 0 0 0,.ref 6 none 0 0 0,.ref 7 none 0 0 0]]:=rfl;rw[hn];unfold jd;have hob:([1000,8,3,6,7].map fun a=>dG (aW [1000,8,3,6,7]) (h a))=[bI ds cs p,.bx [I m],.bx [.ref 1000 none 0 0 0],fP lo,fP w]:=by
  simp only[List.map,h0,h1,h2,h3,h4];rfl
 have hcl:([1000,8,3,6,7].all fun a=>az [1000,8,3,6,7] (h a)&&!bL (h a))=true:=by
  simp only[avQ,List.all_nil,h0,h1,h2,h3,h4];rfl
 rw[hob,hcl,if_pos (by rfl)];rw[show [AV.ref 1000 none 0 0 0,I i,.fn F.bound_grid_unit_1 [] [.ref 8 none 0 0 0,.ref 3 none 0 0 0,.ref 6 none 0 0 0,.ref 7 none 0 0 0]].map (dB (aW [1000,8,3,6,7]))=[.ref 1000 none 0 0 0,I i,.fn F.bound_grid_unit_1 [] [.ref 1001 none 0 0 0,.ref 1002 none 0 0 0,.ref 1003 none 0 0 0,.ref 1004 none 0 0 0]]from rfl,hR,avw,bE.1.2.2.2,bE.1.2.1,qO];unfold dX;rw[if_pos ⟨rfl,avW rfl,avW rfl,by simp[bY,cu],by grind[cO,fP,bI,bf,bL],rfl⟩];rfl
theorem Og{i:Nat}{m:Int}{ds:List Int}{cs cs':List Ri}{p:Int}(hR:R F.bound_grid_lines [.ref 1000 none 0 0 0,I i,.fn F.bound_grid_bernstein_1 [] [.ref 1001 none 0 0 0,.ref 1002 none 0 0 0]] [bI ds cs p,.bx [I m],.bx [.ref 1000 none 0 0 0]]=some (.tup [],[bI ds cs' p,.bx [I m],.bx [.ref 1000 none 0 0 0]])){h:ac}{d:Nat}(h0:h 1000=bI ds cs p)(h1:h 4=.bx [I m])(h2:h 2=.bx [.ref 1000 none 0 0 0])(hf:h (2000+8*d)=.dead):
  bv R (ax false) h d [.ref 1000 none 0 0 0,I i,.fn F.bound_grid_bernstein_1 [] [.ref 4 none 0 0 0,.ref 2 none 0 0 0]] (.fn F.bound_grid_lines [] [])=some (.tup [],upd (upd (upd h 1000 (bI ds cs' p)) 4 (.bx [I m])) 2 (.bx [.ref 1000 none 0 0 0]),[(1000,true),(4,true),(2,true)]):=by
 have hre:bX h 40 [1000,4,2] 0=[1000,4,2]:=by
  have i0:nM (bI ds cs p)=[]:=(cB _ _ p).ids;have i1:nM (.bx [I m])=[]:=rfl;have i2:nM (.bx [.ref 1000 none 0 0 0])=[1000]:=rfl
  simp_all[bX,bu]
 unfold bv;rw[if_neg (by simp[jn,bE.1.2.1])];have hin:bO h [] [.ref 1000 none 0 0 0,I i,.fn F.bound_grid_bernstein_1 [] [.ref 4 none 0 0 0,.ref 2 none 0 0 0]]=some ([.ref 1000 none 0 0 0,I i,.fn F.bound_grid_bernstein_1 [] [.ref 4 none 0 0 0,.ref 2 none 0 0 0]],h,[]):=rfl;have hids:bu [] ([AV.ref 1000 none 0 0 0,I i,.fn F.bound_grid_bernstein_1 [] [.ref 4 none 0 0 0,.ref 2 none 0 0 0]].flatMap bZ)=[1000,4,2]:=rfl;simp only[dH,bE.1.2.1,avB,avE,hin,avw,hids,hre,bE.1.1];have hn:bm [] [AV.ref 1000 none 0 0 0,I i,.fn F.bound_grid_bernstein_1 [] [.ref 4 none 0 0 0,.ref 2 none 0 0 0]]=[AV.ref 1000 none 0 0 0,I i,.fn F.bound_grid_bernstein_1 [] [.ref 4 none 0 0 0,.ref 2 none 0 0 0]]:=rfl;rw[hn];unfold jd;have hob:([1000,4,2].map fun a=>dG (aW [1000,4,2]) (h a))=[bI ds cs p,.bx [I m],.bx [.ref 1000 none 0 0 0]]:=by
  simp only[List.map,h0,h1,h2];rfl
 have hcl:([1000,4,2].all fun a=>az [1000,4,2] (h a)&&!bL (h a))=true:=by
  simp only[avQ,List.all_nil,h0,h1,h2];rfl
 rw[hob,hcl,if_pos (by rfl)];rw[show [AV.ref 1000 none 0 0 0,I i,.fn F.bound_grid_bernstein_1 [] [.ref 4 none 0 0 0,.ref 2 none 0 0 0]].map (dB (aW [1000,4,2]))=[.ref 1000 none 0 0 0,I i,.fn F.bound_grid_bernstein_1 [] [.ref 1001 none 0 0 0,.ref 1002 none 0 0 0]]from rfl,hR,avw,bE.1.2.2.2,bE.1.2.1,qO];unfold dX;rw[if_pos ⟨rfl,avW rfl,avW rfl,by simp[bY,cu],by grind[cO,bI,bf,bL],rfl⟩];rfl
theorem ac3{h:ac}{id id2:Nat}{cs:List AV}{a:AV}(h1:h id2=.bx cs)(h2:h id=.bx [.any]):Lm id 0 [.ref id2 none 0 0 0] (a,h,[])=some (a,upd h id (.bx [.ref id2 none 0 0 0]),[]):=by
 simp_all[bB,Lm,rX,HC,inP,Ll,CM]
def VF(v:Nat)(c:Rd):List Rt:=if c.m.length=0 then []else [⟨lw v,c⟩]
def PZ(v:Nat)(c:Rd):Rp:=⟨v,VF v c⟩
theorem P0:∀v,bt (lw v)=0
 |0=>rfl
 |v+1=>by
  have:=P0 v;show bt ((0:Int)::lw v)=0;simp[bt]at this⊢;exact this
theorem ac4{v:Nat}{c:Rd}(h8:v<=8)(oc:Ok0 c)(vc:vd c=true)(h0:c.m.length≠0):VT v ⟨lw v,c⟩:=
 ⟨oc,by simp[lw],by omega,vc,h0,agv,by grind[P0]⟩
theorem ac5{call:ic}{md:Mode}{s:ak}{h:ac}(ps acc d k z b l c rest):dh call md ps acc (⟨some d,none,.mkSl k z b l c⟩::rest) s h=je call md ps acc rest s (some d) (fun _=>some ([],[dF d])) ((nE (ev s l) (ev s c)).bind fun p=>if p.2*b<=140737488355328 then df h d k (avr p.1 z) p.1 []else none):=eM _ _ _ _ rfl
theorem afu{v:Nat}{c:Rd}(h8:v<=8)(oc:Ok0 c)(vc:vd c=true):R F.poly_Const [I v,af c] []=some (pV (PZ v c,0),[]):=by
 refine aB Uc rfl ?_;have hv:=eE oc;rw[vc]at hv;have he:=A9 (v:=v);have z1:nE (.v (.int .i64 (v:Int))) (.v (.int .i64 (v:Int)))=some (v,v):=by
  simp only[nE];grind
 have z2:(v*8<=140737488355328)=True:=tt;have e1:((v:Int)<0)=False:=ff;have e2:(8< (v:Int))=False:=ff;simp only[af,aj]at hv;by_cases h0:c.m.length=0
 ·have e3:(0< (c.m.length:Int))=False:=ff;simp only[PZ,VF,if_pos h0];simp only[wY,DC,af,aj,go_sem,e1,e2,e3,hv,he,po];obtain⟨o,hdn⟩:=BZ (v:=v) (e:=0) (c:=.emp) (l:=[]) (d:=32) (id:=2168) (h:=upd (upd (upd (fun _=>.dead) 3 (.bx [B c.neg,lm c.m,I c.e])) 4 (.bx [I 0,.emp])) 2168 (.bx [I v,.emp,I 0])) rfl (.inr ⟨rfl,rfl⟩) rfl;have hd':=dA (bA.1.2.1 false) rfl hdn;rw[hd'];have e4:tu v (some [])=(⟨v,[]⟩,0):=rfl;rw[e4];simp only[pV,aZ,go_sem]
 ·have e3:(0< (c.m.length:Int))=True:=tt;simp only[PZ,VF,if_neg h0];simp only[wY,DC,af,aj,go_sem,e1,e2,e3,hv,he,po,ac5,z1,z2,VB];have k1:(0+v<=(lw v).length)=True:=eq_true (by simp[lw]);have k2:(aO (lw v)).take v=aO (lw v):=avL (by grind[Bg,lw]);simp only[k1,k2,go_sem];have hadd:=dA (aS.1.2.1 false) rfl (pn (d:=30) (id:=2168) (v:=v) (e:=0) (e':=0) (c:=.emp) (l:=[]) (x:=lw v) (q:=c) (h:=upd (upd (upd (upd (upd (fun _=>.dead) 3 (.bx [B c.neg,lm c.m,I c.e])) 4 (.bx [I 0,.emp])) 2168 (.bx [I v,.emp,I 0])) 28 (.ar 1 (aO (lw v)))) 28 (.fz 1 (aO (lw v)))) rfl (.inr ⟨rfl,rfl⟩) (.inl rfl) (Mk (ac4 h8 oc vc h0)));simp only[af,aj,t3]at hadd;simp only[hadd,go_sem];rw[if_pos (by rfl)];obtain⟨o,hdn⟩:=BZ (v:=v) (e:=0) (c:=.osl 4 (aH [⟨lw v,c⟩])) (l:=[⟨lw v,c⟩]) (d:=32) (id:=2168) (h:=upd (upd (upd (upd (upd (upd (fun _=>.dead) 3 (.bx [B c.neg,lm c.m,I c.e])) 4 (.bx [I 0,.emp])) 2168 (.bx [I v,.emp,I 0])) 28 (.ar 1 (aO (lw v)))) 28 (.fz 1 (aO (lw v)))) 2168 (.bx [I v,.osl 4 (aH [⟨lw v,c⟩]),I 0])) rfl (.inl rfl) rfl;have hd':=dA (bA.1.2.1 false) rfl hdn;rw[hd'];have e4:tu v (some [⟨lw v,c⟩])=(⟨v,[⟨lw v,c⟩]⟩,0):=rfl;have e5:=Gf [⟨lw v,c⟩];rw[e4];simp only[pV,aZ,e5,go_sem]
theorem VG:vd aI=true:=δ
theorem afv{c:Rd}{p:Int}:aY p [aI,c]=aY p [c]:=by
 simp_all[aY,avQ,VG,avz]
theorem ac6:zI aI=0:=du rfl
theorem ac7{c:Rd}{p:Int}{up:Bool}:dt aI c p up=cz c p up:=by
 simp[dt,cz,afv,ac6,Int.zero_add]
theorem VH{p:Int}(hp:bQ p=true){up:Bool}:cz aI p up=(aI,0):=by
 simp_all[bQ,avv,decide_eq_true_eq,cz,aY,avQ,List.all_nil,VG,if_pos,ac6,jG]
theorem aaC(h:ac)(d:Nat)(r q:List (List AV))(p:Int)(b:Bool):kY h d (some (.tup [.obx [.osl 1 r,.osl 7 q,I p],B b],[]))=if bL (h (2000+8*d))&&bL (h (2000+8*d+1))then some (.tup [.ref (2000+8*d) none 0 0 0,B b],upd h (2000+8*d) (.bx [.osl 1 r,.osl 7 q,I p]),[])else none:=by
 simp[kY,cu,jl,fE,lY,aD,bB,aX,bo,bY,mat,cV,dO]
theorem Df(h:ac)(n:Nat)(g:Bool)(i j:Nat)(r:List (List AV)):og h n g 7 i j (some (7,r))=(r[i]?).bind fun row=>(kF n g row j).map fun a=>(a,h,[]):=rfl
theorem ah4{ds:List Int}{cs:List Ri}{p:Int}{x y:Ri}(ox:OkI x)(oy:OkI y):R F.bound_grid_add [.ref 1000 none 0 0 0,am x,am y] [bI ds cs p]=some (am (gJ x y p),[bI ds cs p]):=by
 refine B0 LW LV (Ac false) rfl ?_;have h:=ye ox oy (p:=p);generalize gJ x y p=z at*
 simp only[am,aq]at h;simp only[ws,DN,am,aq,bI,go_sem,h];exact nJ rfl rfl rfl (by rfl) (by simp only[go_sem])
theorem ah5{ds:List Int}{cs:List Ri}{p:Int}{x y:Ri}(ox:OkI x)(oy:OkI y):R F.bound_grid_mul [.ref 1000 none 0 0 0,am x,am y] [bI ds cs p]=some (am (iH x y p),[bI ds cs p]):=by
 refine B0 LY LX (Ad false) rfl ?_;have h:=C9 ox oy (p:=p);generalize iH x y p=z at*
 simp only[am,aq]at h;simp only[wt,DO,am,aq,bI,go_sem,h];exact nJ rfl rfl rfl (by rfl) (by simp only[go_sem])
theorem SQ(x:Ri):RT (am x):=⟨fun _=>rfl,fun _ _=>rfl,fun _=>rfl⟩
theorem Rh{ds:List Int}{cs:List Ri}{p:Int}{x y:Ri}(ox:OkI x)(oy:OkI y){h:ac}{d id:Nat}(hh:h id=bI ds cs p)(hd:h (2000+8*d)=.dead):
  GU R (ax false) d F.bound_grid_add ([.ref id none 0 0 0,am x,am y],h,[])=some (am (gJ x y p),upd h id (bI ds cs p),[]):=
 dA (xH false) rfl (JE (xH false) (Ac false) (as':=[am x,am y]) (by rw[KJ];simp only[am,aq,go_sem]) rfl rfl hh (cB _ _ _) (cB _ _ _) (fun _=>rfl) (ah4 ox oy) (SQ _) (avW rfl) (by simp[bY,am,cu,hd,bL]))
theorem E5{ds:List Int}{cs:List Ri}{p:Int}{x y:Ri}(ox:OkI x)(oy:OkI y){h:ac}{d id:Nat}(hh:h id=bI ds cs p)(hd:h (2000+8*d)=.dead):
  GU R (ax false) d F.bound_grid_mul ([.ref id none 0 0 0,am x,am y],h,[])=some (am (iH x y p),upd h id (bI ds cs p),[]):=
 dA (xI false) rfl (JE (xI false) (Ad false) (as':=[am x,am y]) (by rw[KL];simp only[am,aq,go_sem]) rfl rfl hh (cB _ _ _) (cB _ _ _) (fun _=>rfl) (ah5 ox oy) (SQ _) (avW rfl) (by simp[bY,am,cu,hd,bL]))
theorem Kp{α:Type}{f:α->List AV}(h:∀x,zV (f x) (f x)=true):∀l:List α,HD (l.map f) (l.map f)=true
 |[]=>rfl
 |a::l=>by simp only[List.map,HD,h,Kp h l,avz]
theorem anb(z:Int):zV [I z] [I z]=true:=by simp[zV,S5,S4]
theorem akM(x:Ri):zV (aq x) (aq x)=true:=by
 have h:∀m:List Nat,HD (aG m) (aG m)=true:=Kp fun x=>by simp[zV,S5,S4]
 simp[aq,zV,S5,S4,lm,h]
theorem akN(ds:List Int)(cs:List Ri)(p:Int):JP (bI ds cs p) (bI ds cs p)=true:=by
 have h1:HD (aO ds) (aO ds)=true:=Kp anb ds;have h2:HD (bc cs) (bc cs)=true:=Kp akM cs;simp[bI,JP,zV,S5,S4,h1,h2]
theorem aaD{h h':ac}{d id:Nat}{ds:List Int}{cs:List Ri}{p:Int}{x y:Ri}(hi:id<2000)(hh:h id=bI ds cs p)(hh':h' id=bI ds cs p):jo h d [.ref id none 0 0 0,am x,am y] h'=some ([id],[2000+8*d]):=by
 have hre:bX h 40 [id] 0=[id]:=by simp[bX,hh,(cB ds cs p).ids,bu]
 have hc:If h h' [id]=[]:=by simp[If,hh,hh',akN]
 show(if _ then _ else if _ then some ((bX h 40 [id] 0).map dF,(If h h' (bX h 40 [id] 0)).map dF++[2000+8*d])else none)=_;rw[hre,hc,if_neg (by simp[dat,aD]),if_pos (by rfl)];simp[dF,hi]
def jH(N:Nat)(cs:List Ri)(g:G):Prop:=cs.length=N/\∀k x,cs[k]?=some x->In (g k) x
theorem jH.get{N:Nat}{cs:List Ri}{g:G}(h:jH N cs g){k:Nat}(hk:k<N):∃x,cs[k]?=some x/\In (g k) x:=by
 have:k<cs.length:=by rw[h.1];exact hk
 exact⟨cs[k],List.getElem?_eq_getElem this,h.2 k _ (List.getElem?_eq_getElem this)⟩
theorem jH.set{N:Nat}{cs:List Ri}{g:G}(h:jH N cs g){k:Nat}{x:Ri}{y:Rat}(hx:In y x):jH N (cs.set k x) (gs g k y):=by
 refine⟨by rw[List.length_set];exact h.1,fun j z hz=>?_⟩;rw[List.getElem?_set]at hz;unfold gs;by_cases hj:k=j
 ·subst hj;rw[if_pos rfl]at hz;rw[if_pos rfl];split at hz
  ·cases hz;exact hx
  ·exact nomatch hz
 ·rw[if_neg hj]at hz;rw[if_neg fun h=>hj h.symm];exact h.2 j z hz
def Yn(n:Nat)(lo w:Ri)(ds:List Int)(cs:List Ri)(p:Int)(h:ac):Prop:=h 1000=.bx [I n]/\h 1001=.bx [.ref 1004 none 0 0 0]/\h 1002=fP lo/\h 1003=fP w/\h 1004=bI ds cs p
theorem Gn(id:Nat)(h:ac)(i:Nat)(xs:List AV)(a b:AV)(r:List (List AV)):Es h 7 id 1 7 i 0 xs [] (.bx [a,.osl 7 r,b])=(qZ 7 7 i 0 xs 7 r).map fun q=>(.und,upd h id (.bx [a,.osl 7 q,b]),[]):=rfl
theorem Gp{cs:List Ri}{k:Nat}{u:Ri}(hk:k<cs.length):qZ 7 7 k 0 (aq u) 7 (bc cs)=some (bc (cs.set k u)):=by
 have h1:(bc cs)[k]?=some (aq cs[k]):=by unfold bc;rw[List.getElem?_map,List.getElem?_eq_getElem hk];rfl
 unfold qZ;rw[if_pos rfl,h1];simp[setRow,aq,bc,List.map_set]
attribute [-go_sem] BM in
theorem ah6{ds:List Int}{p:Int}{N f st i n:Nat}{lo w:Ri}{l:Rat}(hl:In l lo)(hN:f+n*st<N)(hN4:N<=400)(hn:n<=400):∀ (k:Nat),i+k<=n->∀ (cs:List Ri) (g:G),jH N cs g->∀ (s:ak) (h:ac) (X:Option (Ex×St)),ah 2 [0,1,2,3,4,5,13,14] (av (ai R (ax false) iF) [0,1,2,3,4,5,8,9,13,14] [1000,1001,1002,1003,1004] s h)=X->
  s 0=I f->s 1=I st->s 2=.ref 1000 none 0 0 0->s 3=.ref 1001 none 0 0 0->s 4=.ref 1002 none 0 0 0->s 5=.ref 1003 none 0 0 0->s 8=I i->s 9=I ((i:Int)+k-1)->s 13=I n->s 14=I i->Yn n lo w ds cs p h->
  ∃hh cs',X=some (.normal,⟨upd (upd (upd (upd (upd (upd (upd (upd (fun _=>.any) 14 (I i)) 13 (I n)) 5 (.ref 1003 none 0 0 0)) 4 (.ref 1002 none 0 0 0)) 3 (.ref 1001 none 0 0 0)) 2 (.ref 1000 none 0 0 0)) 1 (I st)) 0 (I f),hh⟩)/\Yn n lo w ds cs' p hh/\jH N cs' (Lf l (fun j=>f+j*st) i k g):=by
 intro k;induction k with
 |zero=>
  intro hk cs g he s h X hX g0 g1 g2 g3 g4 g5 g8 g9 g13 g14 ho;subst hX;obtain⟨k0,k1,k2,k3,k4⟩:=ho;have e1:((i:Int)<=(i:Int)+((0:Nat):Int)-1)=False:=ff;have hg:=(cB ds cs p).cl [1000,1001,1002,1003,1004];have hlo:=(ge lo).cl [1000,1001,1002,1003,1004];have hw:=(ge w).cl [1000,1001,1002,1003,1004];rw[ag];refine⟨?hh0,cs,?_,?_,he⟩;rotate_left
  ·simp only[iF,go_sem,g0,g1,g2,g3,g4,g5,g8,g9,g13,g14,k0,k1,k2,k3,k4,hg,hlo,hw,e1];rfl
  ·exact⟨rfl,rfl,rfl,rfl,rfl⟩
 |succ k ih=>
  intro hk cs g he s h X hX g0 g1 g2 g3 g4 g5 g8 g9 g13 g14 ho;subst hX;obtain⟨k0,k1,k2,k3,k4⟩:=ho;have hm1:(i+k)*st<=n*st:=avA _ ω;have hm2:(i+k+1)*st<=n*st:=avA _ ω;have hs2:(i+k+1)*st=(i+k)*st+st:=by rw[avP,Nat.one_mul]
  have e1:((i:Int)<=(i:Int)+((k+1:Nat):Int)-1)=True:=tt;have w1:IntKind.i64.wrap (((i:Int)+((k+1:Nat):Int)-1)*st)=(((i+k)*st:Nat):Int):=by
   rw[show((i:Int)+((k+1:Nat):Int)-1)=((i+k:Nat):Int)by omega,←Int.natCast_mul];exact i64_in _ ⟨by omega,by omega⟩
  have w2:IntKind.i64.wrap ((f:Int)+(((i+k)*st:Nat):Int))=((f+(i+k)*st:Nat):Int):=wi;have w3:IntKind.i64.wrap (((f+(i+k)*st:Nat):Int)+(st:Int))=((f+(i+k+1)*st:Nat):Int):=wi;have w4:IntKind.i64.wrap ((i:Int)+((k+1:Nat):Int)-1-1)=(i:Int)+(k:Int)-1:=by rw[i64_in _ ⟨by omega,by omega⟩];omega
  obtain⟨x,x1,x2⟩:=he.get (k:=f+(i+k)*st) ω;obtain⟨y,y1,y2⟩:=he.get (k:=f+(i+k+1)*st) ω;have hg:=(cB ds cs p).cl [1000,1001,1002,1003,1004];have hlo:=(ge lo).cl [1000,1001,1002,1003,1004];have hw:=(ge w).cl [1000,1001,1002,1003,1004];have cm:=fun(h:ac) (d:Nat) hh hd=>E5 (ds:=ds) (cs:=cs) (p:=p) (h:=h) (d:=d) (id:=1004) hl.ok y2.ok hh hd;have pm:=Be (p:=p) hl y2;have ca:=fun(h:ac) (d:Nat) hh hd=>Rh (ds:=ds) (cs:=cs) (p:=p) (h:=h) (d:=d) (id:=1004) x2.ok pm.ok hh hd;have pa:=Bc (p:=p) x2 pm;have q1:(bc cs)[f+(i+k)*st]?=some (aq x):=by unfold bc;rw[List.getElem?_map,x1];rfl
  have q2:(bc cs)[f+(i+k+1)*st]?=some (aq y):=by unfold bc;rw[List.getElem?_map,y1];rfl
  have i1:(0<=((f+(i+k)*st:Nat):Int))=True:=tt;have i2:(0<=((f+(i+k+1)*st:Nat):Int))=True:=tt;have i3:(((f+(i+k)*st:Nat):Int)< (cs.length:Int))=True:=eq_true (by rw[he.1];omega);have i4:(((f+(i+k+1)*st:Nat):Int)< (cs.length:Int))=True:=eq_true (by rw[he.1];omega);have sr1:∀u:Ri,qZ 7 7 (f+(i+k)*st) 0 (aq u) 7 (bc cs)=some (bc (cs.set (f+(i+k)*st) u)):=fun u=>Gp (by rw[he.1];omega);have ih':=ih ω _ _ (he.set (k:=f+(i+k)*st) pa);rw[ag];generalize av _ _ _=L at ih'⊢;generalize iH lo y p=z at*
  generalize gJ x z p=u at*
  simp only[bI,am,aq]at cm ca;simp only[aq]at q1 q2 sr1;simp only[bI]at k4 hg;simp only[fP]at k2 k3 hlo hw;simp only[iF,go_sem,g0,g1,g2,g3,g4,g5,g8,g9,g13,g14,k0,k1,k2,k3,k4,hg,hlo,hw,e1,w1,w2,w3,w4,i1,i2,i3,i4,yq,Df,avy,avs,q1,q2];rw[cm _ _ rfl rfl];have fp:=fun(h h':ac) (d:Nat) (x y:Ri)=>aaD (h:=h) (h':=h') (d:=d) (id:=1004) (ds:=ds) (cs:=cs) (p:=p) (x:=x) (y:=y) δ;simp only[bI,am,aq]at fp;simp only[go_sem,fp];rw[ca _ _ rfl rfl];simp only[go_sem,fp,i1,i3,avy,avs,Gn,sr1,w4];exact ih' _ _ _ rfl rfl rfl rfl rfl rfl rfl rfl rfl rfl rfl ⟨rfl,rfl,rfl,rfl,rfl⟩
theorem ah7{ds:List Int}{p:Int}{N f st n:Nat}{lo w:Ri}{l:Rat}(hl:In l lo)(hN:f+n*st<N)(hN4:N<=400)(hn:n<=400):∀ (k i:Nat),i+k=n->∀ (cs:List Ri) (g:G),jH N cs g->∀ (s:ak) (h:ac) (X:Option (Ex×St)),ah 0 [0,1,2,3,5] (av (ai R (ax false) kH) [0,1,2,3,4,5,13,14] [1000,1001,1002,1003,1004] s h)=X->
  s 0=I f->s 1=I st->s 2=.ref 1000 none 0 0 0->s 3=.ref 1001 none 0 0 0->s 4=.ref 1002 none 0 0 0->s 5=.ref 1003 none 0 0 0->s 13=I n->s 14=I i->Yn n lo w ds cs p h->
  ∃hh cs',X=some (.normal,⟨upd (upd (upd (upd (upd (fun _=>.any) 5 (.ref 1003 none 0 0 0)) 3 (.ref 1001 none 0 0 0)) 2 (.ref 1000 none 0 0 0)) 1 (I st)) 0 (I f),hh⟩)/\Yn n lo w ds cs' p hh/\(∀a,a≠1000->a≠1001->a≠1002->a≠1003->a≠1004->hh a=.dead)/\jH N cs' (Lg l (fun j=>f+j*st) k i g):=by
 intro k;induction k with
 |zero=>
  intro i hk cs g he s h X hX g0 g1 g2 g3 g4 g5 g13 g14 ho;subst hX;obtain⟨k0,k1,k2,k3,k4⟩:=ho;have e1:((i:Int)<n)=False:=ff;have hg:=(cB ds cs p).cl [1000,1001,1002,1003,1004];have hlo:=(ge lo).cl [1000,1001,1002,1003,1004];have hw:=(ge w).cl [1000,1001,1002,1003,1004];rw[ag];refine⟨?hh0,cs,?_,?_,?_,he⟩;rotate_left
  ·simp only[kH,go_sem,g0,g1,g2,g3,g4,g5,g13,g14,k0,k1,k2,k3,k4,hg,hlo,hw,e1];rfl
  ·exact⟨rfl,rfl,rfl,rfl,rfl⟩
  ·intro a a1 a2 a3 a4 a5;simp only[cU,a1,a2,a3,a4,a5,if_false]
 |succ k ih=>
  intro i hk cs g he s h X hX g0 g1 g2 g3 g4 g5 g13 g14 ho;subst hX;have ho':=ho;obtain⟨k0,k1,k2,k3,k4⟩:=ho;have e1:((i:Int)<n)=True:=tt;have w1:IntKind.i64.wrap ((n:Int)-1)=(i:Int)+((k+1:Nat):Int)-1:=by rw[i64_in _ ⟨by omega,by omega⟩];omega
  have w2:IntKind.i64.wrap ((i:Int)+1)=((i+1:Nat):Int):=wi;have hg:=(cB ds cs p).cl [1000,1001,1002,1003,1004];have hlo:=(ge lo).cl [1000,1001,1002,1003,1004];have hw:=(ge w).cl [1000,1001,1002,1003,1004];have hu:=ah6 (ds:=ds) (p:=p) (w:=w) hl hN hN4 hn (i:=i) (k+1) ω cs g he;have ih':=ih (i+1) ω;rw[ag];generalize av _ _ _=L at ih'⊢;simp only[kH,go_sem,g0,g1,g2,g3,g4,g5,g13,g14,k0,k1,k2,k3,k4,hg,hlo,hw,e1,w1];generalize hX:ah 2 _ _=X;obtain⟨hh,cs',rfl,ho2,he2⟩:=hu _ _ _ hX rfl rfl rfl rfl rfl rfl rfl rfl rfl rfl ⟨rfl,rfl,rfl,rfl,rfl⟩;simp only[go_sem,w2];exact ih' cs' _ he2 _ _ _ rfl rfl rfl rfl rfl rfl rfl rfl rfl ho2
attribute [-go_sem] BM in
theorem ah8{ds:List Int}{p:Int}{N f st n:Nat}{lo w:Ri}{u:Rat}(hw:In u w)(hN:f+n*st<N)(hN4:N<=400)(hn:n<=400):∀ (k j:Nat),j+k=n+1->∀ (cs:List Ri) (g:G),jH N cs g->∀ (sc:Ri) (b:Rat),In b sc->∀ (s:ak) (h:ac) (X:Option (Ex×St)),ah 4 [] (av (ai R (ax false) iD) [0,1,2,3,5,11,12] [11,1000,1001,1002,1003,1004] s h)=X->
  s 0=I f->s 1=I st->s 2=.ref 1000 none 0 0 0->s 3=.ref 1001 none 0 0 0->s 5=.ref 1003 none 0 0 0->s 11=.ref 11 none 0 0 0->s 12=I j->h 11=fP sc->Yn n lo w ds cs p h->
  ∃hh cs',X=some (.normal,⟨fun _=>.any,hh⟩)/\Yn n lo w ds cs' p hh/\jH N cs' (Ra u (fun j=>f+j*st) k j b g):=by
 intro k;induction k with
 |zero=>
  intro j hk cs g he sc b hb s h X hX g0 g1 g2 g3 g5 g11 g12 k11 ho;subst hX;obtain⟨k0,k1,k2,k3,k4⟩:=ho;have e1:((j:Int)<=n)=False:=ff;have hg:=(cB ds cs p).cl [11,1000,1001,1002,1003,1004];have hlo:=(ge lo).cl [11,1000,1001,1002,1003,1004];have hw:=(ge w).cl [11,1000,1001,1002,1003,1004];have hs:=(ge sc).cl [11,1000,1001,1002,1003,1004];rw[ag];refine⟨?hh0,cs,?_,?_,he⟩;rotate_left
  ·simp only[iD,go_sem,g0,g1,g2,g3,g5,g11,g12,k0,k1,k2,k3,k4,k11,hg,hlo,hw,hs,e1];rfl
  ·exact⟨rfl,rfl,rfl,rfl,rfl⟩
 |succ k ih=>
  intro j hk cs g he sc b hb s h X hX g0 g1 g2 g3 g5 g11 g12 k11 ho;subst hX;obtain⟨k0,k1,k2,k3,k4⟩:=ho;have hm1:j*st<=n*st:=avA _ ω;have e1:((j:Int)<=n)=True:=tt;have w1:IntKind.i64.wrap ((j:Int)*st)=((j*st:Nat):Int):=wi (Int.natCast_mul ..).symm ω;have w2:IntKind.i64.wrap ((f:Int)+((j*st:Nat):Int))=((f+j*st:Nat):Int):=wi;have w4:IntKind.i64.wrap ((j:Int)+1)=((j+1:Nat):Int):=wi;obtain⟨x,x1,x2⟩:=he.get (k:=f+j*st) ω;have hg:=(cB ds cs p).cl [11,1000,1001,1002,1003,1004];have hlo:=(ge lo).cl [11,1000,1001,1002,1003,1004];have hwo:=(ge w).cl [11,1000,1001,1002,1003,1004];have hs:=(ge sc).cl [11,1000,1001,1002,1003,1004];have cm:=fun(h:ac) (d:Nat) hh hd=>E5 (ds:=ds) (cs:=cs) (p:=p) (h:=h) (d:=d) (id:=1004) hb.ok hw.ok hh hd;have pm:=Be (p:=p) hb hw;have ca:=fun(h:ac) (d:Nat) hh hd=>E5 (ds:=ds) (cs:=cs) (p:=p) (h:=h) (d:=d) (id:=1004) x2.ok pm.ok hh hd;have pa:=Be (p:=p) x2 pm;have q1:(bc cs)[f+j*st]?=some (aq x):=by unfold bc;rw[List.getElem?_map,x1];rfl
  have i1:(0<=((f+j*st:Nat):Int))=True:=tt;have i3:(((f+j*st:Nat):Int)< (cs.length:Int))=True:=eq_true (by rw[he.1];omega);have sr1:∀u:Ri,qZ 7 7 (f+j*st) 0 (aq u) 7 (bc cs)=some (bc (cs.set (f+j*st) u)):=fun u=>Gp (by rw[he.1];omega);have ih':=ih (j+1) ω _ _ (he.set (k:=f+j*st) pa) _ _ pm;rw[ag];generalize av _ _ _=L at ih'⊢;generalize iH sc w p=z at*
  generalize iH x z p=v at*
  simp only[bI,am,aq]at cm ca;simp only[aq]at q1 sr1;simp only[bI]at k4 hg;simp only[fP]at k2 k3 k11 hlo hwo hs;simp only[iD,go_sem,g0,g1,g2,g3,g5,g11,g12,k0,k1,k2,k3,k4,k11,hg,hlo,hwo,hs,e1];rw[cm _ _ rfl rfl];have fp:=fun(h h':ac) (d:Nat) (x y:Ri)=>aaD (h:=h) (h':=h') (d:=d) (id:=1004) (ds:=ds) (cs:=cs) (p:=p) (x:=x) (y:=y) δ;simp only[bI,am,aq]at fp;simp only[go_sem,w1,w2,i1,i3,yq,Df,avy,avs,q1];rw[ca _ _ rfl rfl];simp only[go_sem,fp,i1,i3,avy,avs,Gn,sr1,w4];exact ih' _ _ _ rfl rfl rfl rfl rfl rfl rfl rfl rfl ⟨rfl,rfl,rfl,rfl,rfl⟩
theorem Oh{n:Nat}{h:ac}{os:List Ob}(hm:(cF n).map h=os)(hc:(os.all fun o=>az (cF n) o)=true):pX [] n h []=some (.tup [],os):=by
 have h1:((cF n).all fun i=>az (cF n) (h i))=true:=by
  rw[←hm,List.all_map]at hc;exact hc
 unfold pX;rw[h1,hm];rfl
theorem Kq{f:FuncId}{fd:FD}{args:List AV}{os:List Ob}{α:Type}{r:α->AV×List Ob}{P:α->Prop}(hE:cG.E f=none)(hC:cG.C f=some fd)(hk:cG.md.keep f=false)(h1:args.length=fd.np)(h2:os.length<=1000)
  (hz:∃a,jV false fd.rs fd.res os.length (ai R (ax false) fd.body (te args) (ao os))=some (r a)/\P a):∃a,R f args os=some (r a)/\P a:=by
 obtain⟨a,h3,h4⟩:=hz;exact⟨a,ana hE hC hk h1 h2 h3,h4⟩
theorem afw{ds:List Int}{cs:List Ri}{p:Int}{N f st n:Nat}{lo w:Ri}{l u:Rat}{g:G}(hl:In l lo)(hw:In u w)(he:jH N cs g)(hN:f+n*st<N)(hN4:N<=400)(hn:n<=400):
  ∃cs',R F.bound_grid_unit_1 [I f,I st,.ref 1000 none 0 0 0,.ref 1001 none 0 0 0,.ref 1002 none 0 0 0,.ref 1003 none 0 0 0] [.bx [I n],.bx [.ref 1004 none 0 0 0],fP lo,fP w,bI ds cs p]=some (.tup [],[.bx [I n],.bx [.ref 1004 none 0 0 0],fP lo,fP w,bI ds cs' p])/\jH N cs' (N0 l u n (fun j=>f+j*st) g):=by
 have h2:=ah7 (ds:=ds) (p:=p) (w:=w) hl hN hN4 hn n 0 (avs _) cs g he;have h3:=fun(cs:List Ri) (g:G) he=>ah8 (ds:=ds) (p:=p) (lo:=lo) (n:=n) (st:=st) (f:=f) hw hN hN4 hn n 1 (Nat.add_comm _ _) cs g he ⟨one,one,false⟩ 1 (by rw[←Vz];exact tW eG.1 eG.2);have hi:=Jg;have hp:=kB eG.2 eG.1;refine Kq eN.2.1 eN.2.2 (eN.1.2.2.2 false) rfl (avW rfl) ?_;have hgo:=(cB ds cs p).cl [1000,1001,1002,1003,1004];have hlo:=(ge lo).cl [1000,1001,1002,1003,1004];have hwo:=(ge w).cl [1000,1001,1002,1003,1004];simp only[af,aj,am,aq]at hi hp;simp only[rJ,zX,VC,go_sem];generalize hX:ah 0 _ _=X;obtain⟨hh,cs1,rfl,ho,hd,he1⟩:=h2 _ _ _ hX rfl rfl rfl rfl rfl rfl rfl rfl ⟨rfl,rfl,rfl,rfl,rfl⟩;obtain⟨k0,k1,k2,k3,k4⟩:=ho;have d1:=hd 2456 δ δ δ δ δ;have d2:=hd 2464 δ δ δ δ δ;have d3:=hd 11 δ δ δ δ δ;simp only[go_sem,hi,hp,d1,d2,d3];generalize hX:ah 4 _ _=X;obtain⟨hh2,cs2,rfl,ho,he2⟩:=h3 cs1 _ he1 _ _ _ hX rfl rfl rfl rfl rfl rfl rfl rfl ⟨k0,k1,k2,k3,k4⟩;obtain⟨k0,k1,k2,k3,k4⟩:=ho;refine⟨cs2,?_,he2⟩;simp only[go_sem];have hp5:cF 5=[1000,1001,1002,1003,1004]:=rfl;refine Oh (by rw[hp5];simp only[List.map,k0,k1,k2,k3,k4]) ?_;simp only[hp5,avQ,List.all_nil,(cB ds cs2 p).cl,hlo,hwo];rfl
def xO(n:Nat):Rd:=bF false n 0
theorem Yo{n:Nat}(hn:n<=1000):(vd (xO n)=true/\Ok0 (xO n))/\qv (xO n)=n:=by
 have hr:qU (ae (ab (xO n).m)) (xO n).e=true:=by
  unfold xO;by_cases h0:n=0
  ·subst h0;rfl
  ·obtain⟨g1,g2,g3,g4⟩:=xK (neg:=false) (e:=0) h0;have hb:ae n<=10:=bV.2 ω;rw[g1,g2];unfold qU;simp only[Bool.or_eq_true,avv,decide_eq_true_eq];omega
 have hv:vd (xO n)=true:=J6 hr;have hb:Lb (xO n).m:=AP false n 0;refine⟨⟨hv,hb,awl (zN hv hb) δ⟩,?_⟩;have hc:cX (xO n)=(xO n,0):=by
  simp_all[cX,if_pos]
 have hz:zI (cX (xO n)).1=_:=Jr (q:=n) (u:=0) δ (by grind[cX,xO]);rw[hc]at hz;obtain⟨N,hN⟩:∃N:Nat,N=16384:=⟨_,rfl⟩;rw[show((0:Int)+16384).toNat=N by omega]at hz;unfold qv EQ;rw[hz,←hN,show(((n*2^N:Nat):Int):Rat)=n*pQ N by rw[Int.natCast_mul,Int.natCast_pow,Rat.intCast_mul];rfl];grind[Ju]
theorem ac8{n:Nat}(hn:n<=1000):R F.dyadic_Int [I n] []=some (af (xO n),[]):=by
 have:=NS (n:=(n:Int)) (by grind[I64]);exact this
def Yp(n:Nat)(ds:List Int)(cs:List Ri)(p:Int)(h:ac):Prop:=h 1000=.bx [I n]/\h 1001=.bx [.ref 1002 none 0 0 0]/\h 1002=bI ds cs p/\h 1003=.dead
theorem akO{h h':ac}{d:Nat}{l:List AV}(hl:l.all dat=true):jo h d l h'=some ([],[2000+8*d]):=by
 rw[BM,if_pos hl]
attribute [-go_sem] BM in
theorem ah9{ds:List Int}{p:Int}{N f st n:Nat}(hN:f+n*st<N)(hN4:N<=400)(hn:n<=400):∀ (k j:Nat),j+k=n->∀ (cs:List Ri) (g:G),jH N cs g->∀ (sc:Ri) (b:Rat),In b sc->∀ (s:ak) (h:ac) (X:Option (Ex×St)),ah 0 [0,1,2,3] (av (ai R (ax false) io) [0,1,2,3,6,7] [6,1000,1001,1002,1003] s h)=X->
  s 0=I f->s 1=I st->s 2=.ref 1000 none 0 0 0->s 3=.ref 1001 none 0 0 0->s 6=.ref 6 none 0 0 0->s 7=I (j+1:Nat)->h 6=fP sc->Yp n ds cs p h->
  ∃hh cs',X=some (.normal,⟨upd (upd (upd (upd (fun _=>.any) 3 (.ref 1001 none 0 0 0)) 2 (.ref 1000 none 0 0 0)) 1 (I st)) 0 (I f),hh⟩)/\Yp n ds cs' p hh/\jH N cs' (Lh n (fun j=>f+j*st) k (j+1) b g):=by
 intro k;induction k with
 |zero=>
  intro j hk cs g he sc b hb s h X hX g0 g1 g2 g3 g6 g7 k6 ho;subst hX;obtain⟨k0,k1,k2,k3⟩:=ho;have e1:(((j+1:Nat):Int)<=n)=False:=ff;have hg:=(cB ds cs p).cl [6,1000,1001,1002,1003];have hs:=(ge sc).cl [6,1000,1001,1002,1003];rw[ag];refine⟨?hh0,cs,?_,?_,he⟩;rotate_left
  ·simp only[io,go_sem,g0,g1,g2,g3,g6,g7,k0,k1,k2,k3,k6,hg,hs,e1];rfl
  ·exact⟨rfl,rfl,rfl,rfl⟩
 |succ k ih=>
  intro j hk cs g he sc b hb s h X hX g0 g1 g2 g3 g6 g7 k6 ho;subst hX;obtain⟨k0,k1,k2,k3⟩:=ho;have hm1:(j+1)*st<=n*st:=avA _ ω;have e1:(((j+1:Nat):Int)<=n)=True:=tt;have w0:IntKind.i64.wrap ((n:Int)- ((j+1:Nat):Int))=(k:Int):=wi;have w5:IntKind.i64.wrap ((k:Int)+1)=((k+1:Nat):Int):=wi;have w1:IntKind.i64.wrap (((j+1:Nat):Int)*st)=(((j+1)*st:Nat):Int):=wi (Int.natCast_mul ..).symm ω;have w2:IntKind.i64.wrap ((f:Int)+(((j+1)*st:Nat):Int))=((f+(j+1)*st:Nat):Int):=wi;have w4:IntKind.i64.wrap (((j+1:Nat):Int)+1)=((j+1+1:Nat):Int):=wi;obtain⟨x,x1,x2⟩:=he.get (k:=f+(j+1)*st) ω;have hg:=(cB ds cs p).cl [6,1000,1001,1002,1003];have hs:=(ge sc).cl [6,1000,1001,1002,1003];obtain⟨t1,t2⟩:=Yo (n:=k+1) ω;obtain⟨u1,u2⟩:=Yo (n:=j+1) ω;have ci1:=ac8 (n:=k+1) ω;have ci2:=ac8 (n:=j+1) ω;have cp1:=kB t1.2 t1.1;have cp2:=kB u1.2 u1.1;have ip1:=tW t1.1 t1.2;have ip2:=tW u1.1 u1.2;rw[t2]at ip1;rw[u2]at ip2;have cm:=fun(h:ac) (d:Nat) hh hd=>E5 (ds:=ds) (cs:=cs) (p:=p) (h:=h) (d:=d) (id:=1002) hb.ok ip1.ok hh hd;have pm:=Be (p:=p) hb ip1;have cd:=X9 pm.ok ip2.ok (p:=p);have pd:=Yj (p:=p) pm ip2;have cd2:=X9 x2.ok pd.ok (p:=p);have pd2:=Yj (p:=p) x2 pd;have hbe:b*((n:Rat)- (j+1:Nat)+1)/ (j+1:Nat)=b*((k+1:Nat):Rat)/ ((j+1:Nat):Rat):=by
   have:(n:Rat)=(j+(k+1):Nat):=by rw[hk]
   grind
  have q1:(bc cs)[f+(j+1)*st]?=some (aq x):=by grind[bc]
  have i1:(0<=((f+(j+1)*st:Nat):Int))=True:=tt;have i3:(((f+(j+1)*st:Nat):Int)< (cs.length:Int))=True:=eq_true γ;have sr1:∀u:Ri,qZ 7 7 (f+(j+1)*st) 0 (aq u) 7 (bc cs)=some (bc (cs.set (f+(j+1)*st) u)):=fun u=>Gp γ;have ih':=ih (j+1) ω _ _ (he.set (k:=f+(j+1)*st) pd2) _ _ pd;have hdv:Lh n (fun j=>f+j*st) (k+1) (j+1) b g=Lh n (fun j=>f+j*st) k (j+1+1) (b*((k+1:Nat):Rat)/ ((j+1:Nat):Rat)) (gs g (f+(j+1)*st) (g (f+(j+1)*st)/ (b*((k+1:Nat):Rat)/ ((j+1:Nat):Rat)))):=by
   rw[←hbe];rfl
  rw[hdv,ag];generalize av _ _ _=L at ih'⊢;generalize xO (k+1)=c1 at*
  generalize xO (j+1)=c2 at*
  generalize iH sc ⟨c1,c1,false⟩ p=z at*
  generalize PT z ⟨c2,c2,false⟩ p=v at*
  generalize PT x v p=y at*
  simp only[bI,am,aq]at cm;simp only[af,aj,am,aq]at ci1 ci2 cp1 cp2 cd cd2;simp only[aq]at q1 sr1;simp only[bI]at k2 hg;simp only[fP]at k6 hs;simp only[io,go_sem,g0,g1,g2,g3,g6,g7,k0,k1,k2,k3,k6,hg,hs,e1,w0,w5,ci1,cp1];have fp:=fun(h h':ac) (d:Nat) (x y:Ri)=>aaD (h:=h) (h':=h') (d:=d) (id:=1002) (ds:=ds) (cs:=cs) (p:=p) (x:=x) (y:=y) δ;simp only[bI,am,aq]at fp;have fp1:=fun(h h':ac) (d:Nat)=>fp h h' d sc ⟨c1,c1,false⟩;rw[cm _ _ rfl rfl];simp only[go_sem,fp1,akO,ci2,cp2,cd,w1,w2,i1,i3,yq,Df,avy,avs,q1,cd2,Gn,sr1,w4];exact ih' _ _ _ rfl rfl rfl rfl rfl rfl rfl rfl ⟨rfl,rfl,rfl,rfl⟩
attribute [-go_sem] BM in
theorem aia{ds:List Int}{p:Int}{N f st n j:Nat}(hN:f+n*st<N)(hN4:N<=400)(hn:n<=400):∀ (k:Nat),j+k<=n->∀ (cs:List Ri) (g:G),jH N cs g->∀ (s:ak) (h:ac) (X:Option (Ex×St)),ah 4 [0,1,2,3,8] (av (ai R (ax false) fk) [0,1,2,3,8,9] [1000,1001,1002,1003] s h)=X->
  s 0=I f->s 1=I st->s 2=.ref 1000 none 0 0 0->s 3=.ref 1001 none 0 0 0->s 8=I (j+1:Nat)->s 9=I (j+k:Nat)->Yp n ds cs p h->
  ∃hh cs',X=some (.normal,⟨upd (upd (upd (upd (upd (fun _=>.any) 8 (I (j+1:Nat))) 3 (.ref 1001 none 0 0 0)) 2 (.ref 1000 none 0 0 0)) 1 (I st)) 0 (I f),hh⟩)/\Yp n ds cs' p hh/\jH N cs' (NZ (fun j=>f+j*st) j k g):=by
 intro k;induction k with
 |zero=>
  intro hk cs g he s h X hX g0 g1 g2 g3 g8 g9 ho;subst hX;obtain⟨k0,k1,k2,k3⟩:=ho;have e1:(((j+1:Nat):Int)<=((j+0:Nat):Int))=False:=ff;have hg:=(cB ds cs p).cl [1000,1001,1002,1003];rw[ag];refine⟨?hh0,cs,?_,?_,he⟩;rotate_left
  ·simp only[fk,go_sem,g0,g1,g2,g3,g8,g9,k0,k1,k2,k3,hg,e1];rfl
  ·exact⟨rfl,rfl,rfl,rfl⟩
 |succ k ih=>
  intro hk cs g he s h X hX g0 g1 g2 g3 g8 g9 ho;subst hX;obtain⟨k0,k1,k2,k3⟩:=ho;have hm1:(j+k+1)*st<=n*st:=avA _ ω;have hs2:(j+k+1)*st=(j+k)*st+st:=γ
  have e1:(((j+1:Nat):Int)<=((j+(k+1):Nat):Int))=True:=tt;have w0:IntKind.i64.wrap (((j+(k+1):Nat):Int)-1)=((j+k:Nat):Int):=wi;have w1:IntKind.i64.wrap (((j+(k+1):Nat):Int)*st)=(((j+k+1)*st:Nat):Int):=wi (Int.natCast_mul ..).symm ω;have w2:IntKind.i64.wrap ((f:Int)+(((j+k+1)*st:Nat):Int))=((f+(j+k+1)*st:Nat):Int):=wi;have w3:IntKind.i64.wrap (((j+k:Nat):Int)*st)=(((j+k)*st:Nat):Int):=wi (Int.natCast_mul ..).symm ω;have w4:IntKind.i64.wrap ((f:Int)+(((j+k)*st:Nat):Int))=((f+(j+k)*st:Nat):Int):=wi;obtain⟨x,x1,x2⟩:=he.get (k:=f+(j+k+1)*st) ω;obtain⟨y,y1,y2⟩:=he.get (k:=f+(j+k)*st) ω;have hg:=(cB ds cs p).cl [1000,1001,1002,1003];have ca:=fun(h:ac) (d:Nat) hh hd=>Rh (ds:=ds) (cs:=cs) (p:=p) (h:=h) (d:=d) (id:=1002) x2.ok y2.ok hh hd;have pa:=Bc (p:=p) x2 y2;have q1:(bc cs)[f+(j+k+1)*st]?=some (aq x):=by grind[bc]
  have q2:(bc cs)[f+(j+k)*st]?=some (aq y):=by grind[bc]
  have i1:(0<=((f+(j+k+1)*st:Nat):Int))=True:=tt;have i2:(0<=((f+(j+k)*st:Nat):Int))=True:=tt;have i3:(((f+(j+k+1)*st:Nat):Int)< (cs.length:Int))=True:=eq_true γ;have i4:(((f+(j+k)*st:Nat):Int)< (cs.length:Int))=True:=eq_true γ;have sr1:∀u:Ri,qZ 7 7 (f+(j+k+1)*st) 0 (aq u) 7 (bc cs)=some (bc (cs.set (f+(j+k+1)*st) u)):=fun u=>Gp γ;have ih':=ih ω _ _ (he.set (k:=f+(j+k+1)*st) pa);have fp:=fun(h h':ac) (d:Nat) (x y:Ri)=>aaD (h:=h) (h':=h') (d:=d) (id:=1002) (ds:=ds) (cs:=cs) (p:=p) (x:=x) (y:=y) δ;simp only[bI,am,aq]at fp;rw[ag];generalize av _ _ _=L at ih'⊢;generalize gJ x y p=z at*
  simp only[bI,am,aq]at ca;simp only[aq]at q1 q2 sr1;simp only[bI]at k2 hg;simp only[fk,go_sem,g0,g1,g2,g3,g8,g9,k0,k1,k2,k3,hg,e1,w0,w1,w2,w3,w4,i1,i2,i3,i4,yq,Df,avy,avs,q1,q2];rw[ca _ _ rfl rfl];simp only[go_sem,fp,w0,i1,i3,avy,avs,Gn,sr1];exact ih' _ _ _ rfl rfl rfl rfl rfl rfl rfl ⟨rfl,rfl,rfl,rfl⟩
theorem aib{ds:List Int}{p:Int}{N f st n:Nat}(hN:f+n*st<N)(hN4:N<=400)(hn:n<=400):∀ (k j:Nat),j+k=n->∀ (cs:List Ri) (g:G),jH N cs g->∀ (s:ak) (h:ac) (X:Option (Ex×St)),ah 2 [] (av (ai R (ax false) il) [0,1,2,3,8] [1000,1001,1002,1003] s h)=X->
  s 0=I f->s 1=I st->s 2=.ref 1000 none 0 0 0->s 3=.ref 1001 none 0 0 0->s 8=I (j+1:Nat)->Yp n ds cs p h->
  ∃hh cs',X=some (.normal,⟨fun _=>.any,hh⟩)/\Yp n ds cs' p hh/\jH N cs' (Rb (fun j=>f+j*st) k j g):=by
 intro k;induction k with
 |zero=>
  intro j hk cs g he s h X hX g0 g1 g2 g3 g8 ho;subst hX;obtain⟨k0,k1,k2,k3⟩:=ho;have e1:(((j+1:Nat):Int)<=n)=False:=ff;have hg:=(cB ds cs p).cl [1000,1001,1002,1003];rw[ag];refine⟨?hh0,cs,?_,?_,he⟩;rotate_left
  ·simp only[il,go_sem,g0,g1,g2,g3,g8,k0,k1,k2,k3,hg,e1];rfl
  ·exact⟨rfl,rfl,rfl,rfl⟩
 |succ k ih=>
  intro j hk cs g he s h X hX g0 g1 g2 g3 g8 ho;subst hX;obtain⟨k0,k1,k2,k3⟩:=ho;have e1:(((j+1:Nat):Int)<=n)=True:=tt;have w2:IntKind.i64.wrap (((j+1:Nat):Int)+1)=((j+1+1:Nat):Int):=wi;have hg:=(cB ds cs p).cl [1000,1001,1002,1003];have hu:=aia (ds:=ds) (p:=p) hN hN4 hn (j:=j) (k+1) ω cs g he;have ih':=ih (j+1) ω;rw[ag];simp only[il,go_sem,g0,g1,g2,g3,g8,k0,k1,k2,k3,hg,e1];generalize hX:ah 4 _ _=X;obtain⟨hh,cs',rfl,ho2,he2⟩:=hu _ _ _ hX rfl rfl rfl rfl rfl (by rw[hk];rfl) ⟨rfl,rfl,rfl,rfl⟩;simp only[go_sem,w2];exact ih' cs' _ he2 _ _ _ rfl rfl rfl rfl rfl rfl ho2
theorem afx{ds:List Int}{cs:List Ri}{p:Int}{N f st n:Nat}{g:G}(he:jH N cs g)(hN:f+n*st<N)(hN4:N<=400)(hn:n<=400):
  ∃cs',R F.bound_grid_bernstein_1 [I f,I st,.ref 1000 none 0 0 0,.ref 1001 none 0 0 0] [.bx [I n],.bx [.ref 1002 none 0 0 0],bI ds cs p]=some (.tup [],[.bx [I n],.bx [.ref 1002 none 0 0 0],bI ds cs' p])/\jH N cs' (N1 n (fun j=>f+j*st) g):=by
 have h2:=ah9 (ds:=ds) (p:=p) hN hN4 hn n 0 (avs _) cs g he ⟨one,one,false⟩ 1 (by rw[←Vz];exact tW eG.1 eG.2);have h3:=fun(cs:List Ri) (g:G) he=>aib (ds:=ds) (p:=p) (n:=n) (st:=st) (f:=f) hN hN4 hn n 0 (avs _) cs g he;have hi:=Jg;have hp:=kB eG.2 eG.1;refine Kq di.2.1 di.2.2 (di.1.2.2.2 false) rfl (avW rfl) ?_;simp only[af,aj,am,aq]at hi hp;simp only[mh,uI,VD,go_sem,hi,hp];generalize hX:ah 0 _ _=X;obtain⟨hh,cs1,rfl,ho,he1⟩:=h2 _ _ _ hX rfl rfl rfl rfl rfl rfl rfl ⟨rfl,rfl,rfl,rfl⟩;obtain⟨k0,k1,k2,k3⟩:=ho;simp only[go_sem];generalize hX:ah 2 _ _=X;obtain⟨hh2,cs2,rfl,ho,he2⟩:=h3 cs1 _ he1 _ _ _ hX rfl rfl rfl rfl rfl ⟨k0,k1,k2,k3⟩;obtain⟨k0,k1,k2,k3⟩:=ho;refine⟨cs2,?_,he2⟩;have hp3:cF 3=[1000,1001,1002]:=rfl;refine Oh γ ?_;rfl
noncomputable def B1:Cmd:=.ops [0,1,2,6,15,16] [cm 32 2,cm 33 7,cm 34 6,⟨(some 35),none,.call (.t 32) [.t 33,.t 34]⟩]
theorem En:qD=.seq (.ops [0,1,2,6,15,16,17] [b2 17 .lss 16 15]) (.seq (.cond (.t 17) (.skip) (.exit 0)) (.seq (.block 1 [0,1,2,6,15,16] (.seq (.ops [0,1,2,6,7,15,16] [cm 18 16,cm 7 18]) (.seq (.dops [0,1,2,6,7,15,16,31] [cm 19 7,cm 20 6,b2 21 .quo 19 20,cm 22 0,nk 23 22,fa 24 0 23,ld 25 1 24,cm 26 1,co 27 (.iadrS 1 (.t 25) (.t 26)),ld 28 1 27,co 29 (.bin .add (.t 28) (.c (I 1))),b2 30 .rem 21 29,co 31 (.bin .eql (.t 30) (.c (I 0)))] []) (.cond (.t 31) B1 (.skip))))) (.ops [0,1,2,6,15,16] [co 36 (.bin .add (.t 16) (.c (I 1))),cm 16 36]))):=rfl
structure LnO (cl:AV) (ds:List Int) (p:Int) (N k st n:Nat) (op:Nat->G->G) (o1 o2 o3 o4:Ob):Prop where
 c1:az [1000,1001,1002,1003,1004] o1=true
 c2:az [1000,1001,1002,1003,1004] o2=true
 c3:az [1000,1001,1002,1003,1004] o3=true
 c4:az [1000,1001,1002,1003,1004] o4=true
 c5:gE [1000,1001,1002,1003,1004] cl=cl
 run:∀ (f:Nat) (cs:List Ri) (g:G),jH N cs g->f<N->f/st% (n+1)=0->∀ (s:ak) (h:ac) (X:Option (Ex×St)),ai R (ax false) B1 s h=X->s 0=.ref 1000 none 0 0 0->s 1=I k->s 2=cl->s 6=I st->s 7=I f->s 15=I N->s 16=I f->h 1000=bI ds cs p->h 1001=o1->h 1002=o2->h 1003=o3->h 1004=o4->h 2280=.dead->
  ∃cs' hh,X=some (.normal,⟨upd (upd (upd (upd (upd (upd (fun _=>.any) 16 (I f)) 15 (I N)) 6 (I st)) 2 cl) 1 (I k)) 0 (.ref 1000 none 0 0 0),hh⟩)/\hh 1000=bI ds cs' p/\hh 1001=o1/\hh 1002=o2/\hh 1003=o3/\hh 1004=o4/\jH N cs' (op f g)
theorem Oi{cl:AV}{ds:List Int}{p:Int}{N k st n:Nat}{op:Nat->G->G}{o1 o2 o3 o4:Ob}(L:LnO cl ds p N k st n op o1 o2 o3 o4)(hN4:N<=400)(hs:0<st)(hst:st<=400)(hn:n<=400)(hk:ds[k]?=some (n:Int)):
  ∀ (m i:Nat),i+m=N->∀ (cs:List Ri) (g:G),jH N cs g->∀ (s:ak) (h:ac) (X:Option (Ex×St)),ah 0 [] (av (ai R (ax false) qD) [0,1,2,6,15,16] [1000,1001,1002,1003,1004] s h)=X->
  s 0=.ref 1000 none 0 0 0->s 1=I k->s 2=cl->s 6=I st->s 15=I N->s 16=I i->h 1000=bI ds cs p->h 1001=o1->h 1002=o2->h 1003=o3->h 1004=o4->
  ∃cs' hh,X=some (.normal,⟨fun _=>.any,hh⟩)/\hh 1000=bI ds cs' p/\hh 1001=o1/\hh 1002=o2/\hh 1003=o3/\hh 1004=o4/\jH N cs' (ps op st n m i g):=by
 obtain⟨c1,c2,c3,c4,c5,lr⟩:=L;intro m;induction m with
 |zero=>
  intro i hm cs g he s h X hX g0 g1 g2 g6 g15 g16 k0 k1 k2 k3 k4;subst hX;have e1:((i:Int)<N)=False:=ff;have hg:=(cB ds cs p).cl [1000,1001,1002,1003,1004];rw[ag];refine⟨cs,?hh0,?_,?_,?_,?_,?_,?_,he⟩;rotate_left
  ·simp only[En,go_sem,g0,g1,g2,g6,g15,g16,k0,k1,k2,k3,k4,hg,c1,c2,c3,c4,c5,e1];rfl
  all_goals rfl
 |succ m ih=>
  intro i hm cs g he s h X hX g0 g1 g2 g6 g15 g16 k0 k1 k2 k3 k4;subst hX;have e1:((i:Int)<N)=True:=tt;have hg:=(cB ds cs p).cl [1000,1001,1002,1003,1004];have w1:IntKind.i64.wrap (Int.tdiv (i:Int) st)=((i/st:Nat):Int):=by
   have:=Nat.div_le_self i st;grind[wi]
  have w2:IntKind.i64.wrap ((n:Int)+1)=((n+1:Nat):Int):=wi;have w4:IntKind.i64.wrap ((i:Int)+1)=((i+1:Nat):Int):=wi;have d1:((st:Int)=0)=False:=ff;have d2:(((n+1:Nat):Int)=0)=False:=ff;have hr:=lr i cs g he ω;have ih':=ih (i+1) ω;have hps:ps op st n (m+1) i g=ps op st n m (i+1) (if i/st% (n+1)=0 then op i g else g):=rfl;rw[hps,ag];generalize av _ _ _=L at ih'⊢;have hkl:k<ds.length:=(List.getElem?_eq_some_iff.1 hk).1;have i1:(0<=(k:Int))=True:=tt;have i2:((k:Int)< (ds.length:Int))=True:=tt;have q1:(aO ds)[k]?=some [I n]:=by grind[aO]
  by_cases h0:i/st% (n+1)=0
  ·have e2:(Int.tmod ((i/st:Nat):Int) ((n+1:Nat):Int)=0)=True:=eq_true γ;rw[if_pos h0];have hr:=hr h0;simp only[bI]at k0 hg;simp only[En,go_sem,g0,g1,g2,g6,g15,g16,k0,k1,k2,k3,k4,hg,c1,c2,c3,c4,c5,e1,e2,w1,w2,d1,d2,qW,yp,q1,i1,i2,avy,avs];generalize hX:ai R (ax false) B1 _ _=X;obtain⟨cs',hh,rfl,r0,r1,r2,r3,r4,he2⟩:=hr _ _ _ hX rfl rfl rfl rfl rfl rfl rfl rfl rfl rfl rfl rfl rfl;simp only[go_sem,w4,c5];exact ih' cs' _ he2 _ _ _ rfl rfl rfl rfl rfl rfl rfl r0 r1 r2 r3 r4
  ·have e2:(Int.tmod ((i/st:Nat):Int) ((n+1:Nat):Int)=0)=False:=eq_false γ;rw[if_neg h0];simp only[bI]at k0 hg;simp only[En,go_sem,g0,g1,g2,g6,g15,g16,k0,k1,k2,k3,k4,hg,c1,c2,c3,c4,c5,e1,e2,w1,w2,w4,d1,d2,qW,yp,q1,i1,i2,avy,avs];exact ih' cs g he _ _ _ rfl rfl rfl rfl rfl rfl rfl rfl rfl rfl rfl rfl
def dI(l:List Nat):List Int:=l.map Int.ofNat
def bG:List Nat->Nat->Nat
 |[],n=>n
 |d::l,n=>bG l (n*(d+1))
theorem Kr:∀ (ds:List Nat) (n:Nat),Mq (dI ds) (n:Int)=(bG ds n:Nat)
 |[],_=>rfl
 |d::ds,n=>by
  show Mq (dI ds) ((n:Int)*(Int.ofNat d+1))=(bG ds (n*(d+1)):Nat);rw[←Kr ds (n*(d+1)),Int.natCast_mul];rfl
theorem nC:∀ (ds:List Nat) (n:Nat),0<n->n<=bG ds n
 |[],_,_=>avt _
 |d::ds,n,h=>avx (Nat.le_mul_of_pos_right n (Nat.succ_pos d)) (nC ds _ (Nat.mul_pos h (Nat.succ_pos d)))
theorem Mr:∀ (ds:List Nat) (n:Nat),bG ds n=n*bG ds 1
 |[],n=>(Nat.mul_one n).symm
 |d::ds,n=>by
  show bG ds (n*(d+1))=n*bG ds (1*(d+1));rw[Mr ds (n*(d+1)),Mr ds (1*(d+1)),Nat.one_mul,avT]
theorem Hw:∀ (ds:List Nat) (k n d:Nat),ds[k]?=some d->bG ds n=bG (ds.take k) n*(d+1)*bG (ds.drop (k+1)) 1
 |d'::ds,0,n,d,h=>by
  have:d'=d:=γ
  subst this;exact Mr ds _
 |d'::ds,k+1,n,d,h=>Hw ds k (n*(d'+1)) d γ
 |[],_,_,_,h=>by grind
theorem Yq{N st n H f:Nat}(hN:N=st*(n+1)*H)(hs:0<st)(hf:f<N)(h0:f/st% (n+1)=0):f+n*st<N:=by
 have h1:=awi f st;have h2:=av3 f hs;have h3:=awi (f/st) (n+1);rw[h0,av1]at h3;generalize f/st/ (n+1)=q at*
 have h4:q<H:=by
  refine Nat.lt_of_mul_lt_mul_left (a:=st*(n+1)) ?_;rw[←hN,avT,h3];omega
 have h5:st*(n+1)*(q+1)<=N:=by
  rw[hN];exact awq _ h4
 rw[←h3]at h1;grind
theorem ac9{dn:List Nat}{cs:List Ri}{p:Int}{k n:Nat}{lo w:Ri}{l u:Rat}{g:G}(hl:In l lo)(hw:In u w)(hk:dn[k]?=some n)(h8:dn.length<=8)(hb:∀d∈dn,d<=32)(hN4:bG dn 1<=400)(he:jH (bG dn 1) cs g):
  ∃cs',R F.bound_grid_lines [.ref 1000 none 0 0 0,I k,.fn F.bound_grid_unit_1 [] [.ref 1001 none 0 0 0,.ref 1002 none 0 0 0,.ref 1003 none 0 0 0,.ref 1004 none 0 0 0]] [bI (dI dn) cs p,.bx [I n],.bx [.ref 1000 none 0 0 0],fP lo,fP w]=some (.tup [],[bI (dI dn) cs' p,.bx [I n],.bx [.ref 1000 none 0 0 0],fP lo,fP w])/\
   jH (bG dn 1) cs' (ps (fun f=>N0 l u n (fun j=>f+j*bG (dn.take k) 1)) (bG (dn.take k) 1) n (bG dn 1) 0 g):=by
 have hkl:k<dn.length:=(List.getElem?_eq_some_iff.1 hk).1;have hn:n<=32:=hb n (List.mem_of_getElem? hk);have hbI:∀d∈dI dn,0<=d/\d<=32:=fun d hd=>by
  obtain⟨x,hx,rfl⟩:=List.mem_map.1 hd;grind
 have hsp:=Hw dn k 1 n hk;have hs0:=nC (dn.take k) 1 δ;have hst:bG (dn.take k) 1<=400:=by
  refine avx ?_ hN4;rw[hsp,avT];exact Nat.le_mul_of_pos_right _ (Nat.mul_pos (Nat.succ_pos n) (nC _ 1 δ))
 have hstep:=fun(h:ac) (d:Nat) (hh:h 1000=bI (dI dn) cs p) (hd:h (2000+8*d)=.dead)=>dA (lW false) rfl (JF (m:=k) (by grind[dI]) ω hbI (d:=d) hh hd);rw[show(dI dn).take k=dI (dn.take k)from(List.map_take ..).symm,show(1:Int)=((1:Nat):Int)from rfl,Kr]at hstep;generalize bG (dn.take k) 1=st at*
 generalize bG dn 1=N at*
 have L:LnO (.fn F.bound_grid_unit_1 [] [.ref 1001 none 0 0 0,.ref 1002 none 0 0 0,.ref 1003 none 0 0 0,.ref 1004 none 0 0 0]) (dI dn) p N k st n (fun f=>N0 l u n (fun j=>f+j*st)) (.bx [I n]) (.bx [.ref 1000 none 0 0 0]) (fP lo) (fP w):=by
  refine⟨rfl,rfl,(ge lo).cl _,(ge w).cl _,rfl,?_⟩;intro f cs g he hf h0 s h X hX g0 g1 g2 g6 g7 g15 g16 k0 k1 k2 k3 k4 kd;subst hX;obtain⟨cs',hR,he'⟩:=afw (ds:=dI dn) (p:=p) hl hw he (Yq hsp ω hf h0) hN4 ω;have hc:=aaA hR (d:=35) k0 k1 k2 k3 k4 kd;refine⟨cs',?hh0,?_,?_,?_,?_,?_,?_,he'⟩;rotate_left
  ·simp only[B1,go_sem,g0,g1,g2,g6,g7,g15,g16,hc];rfl
  all_goals rfl
 refine Kq bE.2.1 bE.2.2 (bE.1.2.2.2 false) rfl (avW rfl) ?_;have hll:=Oi L hN4 ω hst ω (by grind[dI]) N 0 (avs _) cs g he;simp only[nH,uH,VC,go_sem];rw[hstep _ _ rfl rfl];have hlen:(cs.length:Int)=N:=by rw[he.1]
 have hgo:=(cB (dI dn) cs p).cl [1000,1001,1002,1003,1004];simp only[bI]at hgo⊢;simp only[go_sem,hlen,hgo,(ge lo).cl,(ge w).cl];generalize hX:ah 0 _ _=X;obtain⟨cs',hh,rfl,k0,k1,k2,k3,k4,he2⟩:=hll _ _ _ hX rfl rfl rfl rfl rfl rfl rfl rfl rfl rfl rfl;refine⟨cs',?_,he2⟩;have hp5:cF 5=[1000,1001,1002,1003,1004]:=rfl;refine Oh (by grind[List.map,bI]) ?_;rfl
theorem ada{dn:List Nat}{cs:List Ri}{p:Int}{k n:Nat}{g:G}(hk:dn[k]?=some n)(h8:dn.length<=8)(hb:∀d∈dn,d<=32)(hN4:bG dn 1<=400)(he:jH (bG dn 1) cs g):
  ∃cs',R F.bound_grid_lines [.ref 1000 none 0 0 0,I k,.fn F.bound_grid_bernstein_1 [] [.ref 1001 none 0 0 0,.ref 1002 none 0 0 0]] [bI (dI dn) cs p,.bx [I n],.bx [.ref 1000 none 0 0 0]]=some (.tup [],[bI (dI dn) cs' p,.bx [I n],.bx [.ref 1000 none 0 0 0]])/\
   jH (bG dn 1) cs' (ps (fun f=>N1 n (fun j=>f+j*bG (dn.take k) 1)) (bG (dn.take k) 1) n (bG dn 1) 0 g):=by
 have hkl:k<dn.length:=(List.getElem?_eq_some_iff.1 hk).1;have hn:n<=32:=hb n (List.mem_of_getElem? hk);have hbI:∀d∈dI dn,0<=d/\d<=32:=fun d hd=>by
  obtain⟨x,hx,rfl⟩:=List.mem_map.1 hd;grind
 have hsp:=Hw dn k 1 n hk;have hs0:=nC (dn.take k) 1 δ;have hst:bG (dn.take k) 1<=400:=by
  refine avx ?_ hN4;rw[hsp,avT];exact Nat.le_mul_of_pos_right _ (Nat.mul_pos (Nat.succ_pos n) (nC _ 1 δ))
 have hstep:=fun(h:ac) (d:Nat) (hh:h 1000=bI (dI dn) cs p) (hd:h (2000+8*d)=.dead)=>dA (lW false) rfl (JF (m:=k) (by grind[dI]) ω hbI (d:=d) hh hd);rw[show(dI dn).take k=dI (dn.take k)from(List.map_take ..).symm,show(1:Int)=((1:Nat):Int)from rfl,Kr]at hstep;generalize bG (dn.take k) 1=st at*
 generalize bG dn 1=N at*
 have L:LnO (.fn F.bound_grid_bernstein_1 [] [.ref 1001 none 0 0 0,.ref 1002 none 0 0 0]) (dI dn) p N k st n (fun f=>N1 n (fun j=>f+j*st)) (.bx [I n]) (.bx [.ref 1000 none 0 0 0]) .dead .dead:=by
  refine⟨rfl,rfl,rfl,rfl,rfl,?_⟩;intro f cs g he hf h0 s h X hX g0 g1 g2 g6 g7 g15 g16 k0 k1 k2 k3 k4 kd;subst hX;obtain⟨cs',hR,he'⟩:=afx (ds:=dI dn) (p:=p) he (Yq hsp ω hf h0) hN4 ω;have hc:=aaB hR (d:=35) k0 k1 k2 kd;refine⟨cs',?hh0,?_,?_,?_,?_,?_,?_,he'⟩;rotate_left
  ·simp only[B1,go_sem,g0,g1,g2,g6,g7,g15,g16,hc];rfl
  all_goals first|rfl|assumption
 refine Kq bE.2.1 bE.2.2 (bE.1.2.2.2 false) rfl (avW rfl) ?_;have hll:=Oi L hN4 ω hst ω (by grind[dI]) N 0 (avs _) cs g he;simp only[nH,uH,VD,go_sem];rw[hstep _ _ rfl rfl];have hlen:(cs.length:Int)=N:=by rw[he.1]
 have hgo:=(cB (dI dn) cs p).cl [1000,1001,1002,1003,1004];simp only[bI]at hgo⊢;simp only[go_sem,hlen,hgo];generalize hX:ah 0 _ _=X;obtain⟨cs',hh,rfl,k0,k1,k2,k3,k4,he2⟩:=hll _ _ _ hX rfl rfl rfl rfl rfl rfl rfl rfl rfl rfl rfl;refine⟨cs',?_,he2⟩;have hp5:cF 3=[1000,1001,1002]:=rfl;refine Oh (by grind[List.map,bI]) ?_;rfl
theorem aic{dn:List Nat}{cs:List Ri}{p:Int}{k n:Nat}{g:G}(hk:dn[k]?=some n)(h8:dn.length<=8)(hb:∀d∈dn,d<=32)(hN4:bG dn 1<=400)(he:jH (bG dn 1) cs g):
  ∃cs',R F.bound_grid_bernstein [.ref 1000 none 0 0 0,I k] [bI (dI dn) cs p]=some (.tup [],[bI (dI dn) cs' p])/\jH (bG dn 1) cs' (ps (fun f=>N1 n (fun j=>f+j*bG (dn.take k) 1)) (bG (dn.take k) 1) n (bG dn 1) 0 g):=by
 obtain⟨cs',hR,he'⟩:=ada (p:=p) hk h8 hb hN4 he;refine⟨cs',rR eC.2.1 eC.2.2 (eC.1.2.2.2 false) rfl ?_,he'⟩;have e3:(aO (dI dn))[k]?=some [I n]:=by grind[aO,dI]
 have e7:(0<=(k:Int))=True:=tt;have e8:((k:Int)< ((dI dn).length:Int))=True:=eq_true (by grind[dI]);have hl:=fun(h:ac) (d:Nat) h0 h1 h2 hf=>VE (bE.1.2.1 false) rfl (Og hR (h:=h) (d:=d) h0 h1 h2 hf);simp only[bI]at hl⊢;simp only[nO,wO,go_sem,avs];rw[ac3 (cs:=[.osl 1 (aO (dI dn)),.osl 7 (bc cs),I p]) rfl rfl];simp only[go_sem,e3,e7,e8,Bg,avy,avs,qW,yp];rw[hl _ _ rfl rfl rfl rfl];rfl
theorem aid{dn:List Nat}{cs:List Ri}{p:Int}{k n:Nat}{b:Ri}{g:G}(vl:vd b.lo=true/\Ok0 b.lo)(vh:vd b.hi=true/\Ok0 b.hi)(hk:dn[k]?=some n)(h8:dn.length<=8)(hb:∀d∈dn,d<=32)(hN4:bG dn 1<=400)(he:jH (bG dn 1) cs g):
  ∃cs',R F.bound_grid_unit [.ref 1000 none 0 0 0,I k,am b] [bI (dI dn) cs p]=some (.tup [],[bI (dI dn) cs' p])/\jH (bG dn 1) cs' (ps (fun f=>N0 (qv b.lo) (qv b.hi-qv b.lo) n (fun j=>f+j*bG (dn.take k) 1)) (bG (dn.take k) 1) n (bG dn 1) 0 g):=by
 have i1:=tW vl.1 vl.2;have i2:=tW vh.1 vh.2;have i3:=Yb (p:=p) i2 i1;obtain⟨cs',hR,he'⟩:=ac9 (p:=p) i1 i3 hk h8 hb hN4 he;refine⟨cs',rR gY.2.1 gY.2.2 (gY.1.2.2.2 false) rfl ?_,he'⟩;have e3:(aO (dI dn))[k]?=some [I n]:=by grind[aO,dI]
 have e7:(0<=(k:Int))=True:=tt;have e8:((k:Int)< ((dI dn).length:Int))=True:=eq_true (by grind[dI]);have hl:=fun(h:ac) (d:Nat) h0 h1 h2 h3 h4 hf=>VE (bE.1.2.1 false) rfl (Of hR (h:=h) (d:=d) h0 h1 h2 h3 h4 hf);have p1:=kB vl.2 vl.1;have p2:=kB vh.2 vh.1;have p3:=PU i2.ok i1.ok (p:=p);simp only[bI,fP]at hl⊢;simp only[af,aj,am,aq]at p1 p2 p3;simp only[uC,CD,am,aq,go_sem,avs];rw[ac3 (cs:=[.osl 1 (aO (dI dn)),.osl 7 (bc cs),I p]) rfl rfl];simp only[go_sem,e3,e7,e8,Bg,avy,avs,qW,yp,p1,p2,p3];rw[hl _ _ rfl rfl rfl rfl rfl rfl];rfl
theorem afy{n:Nat}(hn:n<=400):R F.bits_Mul64 [W 1,W n] []=some (.tup [W 0,W n],[]):=by
 refine aB UB rfl ?_;have a1:eA .and (W 1) (W 4294967295)=some (W 1):=rfl;have a2:eA .and (W n) (W 4294967295)=some (W n):=by
  rw[acn rfl ω,awh ω]
 have s1:eA .shr (W 1) (W 32)=some (W 0):=rfl;have s2:eA .shr (W n) (W 32)=some (W 0):=(Bz (i:=(n:Int)) (j:=32) (k:=32) rfl rfl δ).trans γ;have s3:eA .shr (W 0) (W 32)=some (W 0):=rfl;have a3:eA .and (W 0) (W 4294967295)=some (W 0):=rfl;have w1:IntKind.u64.wrap (1*(n:Int))=n:=iG ω ω;have w2:IntKind.u64.wrap (0*(n:Int))=0:=by rw[Int.zero_mul];rfl
 have w3:IntKind.u64.wrap ((0:Int)+0)=0:=rfl;have w4:IntKind.u64.wrap ((1:Int)*0)=0:=rfl;have w5:IntKind.u64.wrap ((0:Int)*0)=0:=rfl;simp only[Cr,IV,go_sem,a1,a2,a3,s1,s2,s3,w1,w2,w3,w4,w5]
theorem aie{n:Nat}(hn:n<=400):R F.bits_Mul [W 1,W n] []=some (.tup [W 0,W n],[]):=by
 refine aB Z3 rfl ?_;have h:=afy hn;simp only[Fx,Nm,go_sem,h]
theorem afz{X Z:List AV}{N:Nat}(hN:N<=400)(c:List Bool):∀ (k m:Nat),N-m<=k->1<=m->m<=N->∀ (s:ak) (h:ac) (Y:Option (Ex×St)),ah 0 [7] (av (ai R (ax false) cT) [7,8] [30] s h)=Y->
  s 7=.rsl 30 none 7 0 N->s 8=I m->h 30=.ar 7 (avr m X++avr (N-m) Z)->
  ∃hh,Y=some (.normal,⟨upd (fun _=>.any) 7 (.rsl 30 none 7 0 N),hh⟩)/\hh 30=.ar 7 (avr N X):=by
 intro k;induction k with
 |zero=>
  intro m hk h1 hm s h Y hY g7 g8 k30;subst hY;have e:m=N:=ω
  subst e;have e1:((m:Int)<m)=False:=ff;rw[Nat.sub_self,List.replicate_zero,avE]at k30;rw[ag];refine⟨?hh0,?_,?_⟩;rotate_left
  ·simp only[cT,go_sem,g7,g8,k30,e1];rfl
  ·rfl
 |succ k ih=>
  intro m hk h1 hm s h Y hY g7 g8 k30;by_cases hq:m=N
  ·exact ih m ω h1 hm s h Y hY g7 g8 k30
  subst hY;have e1:((m:Int)<N)=True:=tt;have e2:eS 7 (.rsl 30 none 7 0 N) (some (I (m:Int))) none none=some (.rsl 30 none 7 m (N-m)):=by grind[eS,kf,jY]
  have e3:eS 7 (.rsl 30 none 7 0 N) none (some (I (m:Int))) none=some (.rsl 30 none 7 0 m):=by grind[eS,kf,jY]
  obtain⟨q,hq2⟩:∃q,min (N-m) m=q:=⟨_,rfl⟩;have hq3:min m (N-m)=q:=ω
  have ih':=ih (m+q) ω ω ω;have hl:(avr m X++avr (N-m) Z).length=N:=γ
  have t1:List.take q (avr m X++avr (N-m) Z)=avr q X:=by
   grind
  have t2:List.take m (avr m X++avr (N-m) Z)=avr m X:=by
   grind
  have t3:List.drop (m+q) (avr m X++avr (N-m) Z)=avr (N- (m+q)) Z:=by
   rw[List.drop_append,avH σ,awr,avB,List.drop_replicate];grind
  have t4:avr m X++avr q X=avr (m+q) X:=List.replicate_append_replicate;have e4:(0+q<=N)=True:=tt;have e5:(m<=N)=True:=eq_true hm;have w1:IntKind.i64.wrap ((m:Int)+(q:Int))=((m+q:Nat):Int):=wi;rw[ag];simp only[cT,go_sem,g7,g8,k30,e1,e2,e3,hq2,hq3,hl,t1,t2,t3,t4,e4,e5,awr,w1];exact ih' _ _ _ rfl rfl rfl rfl
theorem adb{x:Ri}{n:Nat}(h1:1<=n)(hn:n<=400):R F.slices_Repeat_api_Interval_api_Interval_ [.sl 7 [aq x],I n] []=some (.osl 7 (bc (avr n x)),[]):=by
 refine aB qF rfl ?_;have hm:=aie hn;have w1:IntKind.u64.wrap 1=1:=δ
 have w2:((0+1:Nat):Int)=1:=rfl;have w3:IntKind.u64.wrap (n:Int)=n:=iG rfl ω;have w4:IntKind.i64.wrap (n:Int)=n:=wi rfl ω;have e1:((0:Int)<0)=False:=ff δ;have e2:((n:Int)<0)=False:=ff;have e3:(9223372036854775807< (n:Int))=False:=ff;have z1:nE (.v (.int .i64 (n:Int))) (.v (.int .i64 (n:Int)))=some (n,n):=by
  simp only[nE];grind
 have z2:(n*88<=140737488355328)=True:=tt;have tk:∀A:List AV,List.take n [A]=[A]:=fun A=>avL ω;have hmin:min 1 n=1:=awm h1;have dr:List.drop 1 (avr n [B false,.emp,I 0,B false,.emp,I 0,B false])=avr (n-1) [B false,.emp,I 0,B false,.emp,I 0,B false]:=List.drop_replicate;have hl:=afz (X:=aq x) (Z:=[B false,.emp,I 0,B false,.emp,I 0,B false]) hn [] n 1 ω (avt _) h1;simp only[eH,iV,aq,go_sem,av2,awd,w1,w2,w3,w4,hm,e1,e2,e3,z1,z2,tk,hmin,dr,av6,awr,true_and,Int.natCast_one];generalize hX:ah 0 _ _=X;obtain⟨hh,rfl,q⟩:=hl _ _ _ hX rfl rfl rfl;simp only[go_sem,q,awr,avs,avt,if_true,avw,av9];grind[bc,List.map_replicate]
theorem VJ{l:List Nat}{i:Nat}(h:i<l.length):(dI l)[i]?=some ((l.getD i 0:Nat):Int):=by
 grind[dI]
theorem akP{l:List Nat}{i:Nat}(h:i<l.length):(aO (dI l))[i]?=some [I (l.getD i 0:Nat)]:=by
 grind[aO,VJ]
theorem Gq(l:List Nat):(dI l).length=l.length:=by simp[dI]
def Mx(dn dn' es:List Nat)(i:Nat):Prop:=dn'.length=dn.length/\(∀d∈dn',d<=32)/\(∀j,dn.getD j 0<=dn'.getD j 0)/\∀j,i<=j->es.getD j 0<=dn'.getD j 0
theorem aif{v:Nat}{p:Int}(h8:v<=8){es:List Nat}(hes:es.length=v)(he32:∀e∈es,e<=32){o2 o8:Ob}(c2:∀l,az l o2=true)(c8:∀l,az l o8=true){A:List Rt}{nA iA:Int}:
  ∀ (k i:Nat),i+k=v->∀dn:List Nat,dn.length=v->(∀d∈dn,d<=32)->∀ (s:ak) (h:ac) (X:Option (Ex×St)),ah 2 [2,6,26,27,28] (av (ai R (ax false) lR) [2,6,26,27,28,33,34,35] [2,8,21,24,2624] s h)=X->s 2=.ref 2 none 0 0 0->s 6=.ref 24 none 0 0 0->s 26=.sl 4 (aH A)->s 27=I nA->s 28=I iA->s 33=.sl 1 (aO (dI es))->s 34=I v->s 35=I i->h 2=o2->h 8=o8->h 21=.dead->h 24=.bx [.osl 1 (aO (dI dn)),.emp,I p]->h 2624=.dead->
  ∃hh dn',X=some (.normal,⟨upd (upd (upd (upd (upd (fun _=>.any) 28 (I iA)) 27 (I nA)) 26 (.sl 4 (aH A))) 6 (.ref 24 none 0 0 0)) 2 (.ref 2 none 0 0 0),hh⟩)/\hh 2=o2/\hh 24=.bx [.osl 1 (aO (dI dn')),.emp,I p]/\hh 21=.dead/\hh 2624=.dead/\Mx dn dn' es i:=by
 intro k;induction k with
 |zero=>
  intro i hi dn hd hb s h X hX g2 g6 g26 g27 g28 g33 g34 g35 k2 k8 k21 k24 k2624;subst hX;have e1:((i:Int)< (v:Int))=False:=ff;have hc:=c2 [2,8,21,24,2624];have hc8:=c8 [2,8,21,24,2624];rw[ag];refine⟨?hh0,dn,?_,?_,?_,?_,?_,rfl,hb,fun _=>avt _,fun j hj=>?_⟩;rotate_left
  ·simp only[lR,go_sem,g2,g6,g26,g27,g28,g33,g34,g35,k2,k8,k21,k24,k2624,hc,hc8,e1];rfl
  ·rfl
  ·rfl
  ·rfl
  ·rfl
  grind
 |succ k ih=>
  intro i hi dn hd hb s h X hX g2 g6 g26 g27 g28 g33 g34 g35 k2 k8 k21 k24 k2624;subst hX;have hlt:i<v:=ω
  have e1:((i:Int)< (v:Int))=True:=tt;have e2:=akP (l:=dn) (i:=i) ω;have e3:bp (aO (dI es)) (i:Int)=some (.ipt [I (es.getD i 0:Nat)]):=qK rfl (VJ ω);have e5:IntKind.i64.wrap ((i:Int)+1)=((i+1:Nat):Int):=wi;have e6:(0<=(i:Int))=True:=tt;have e7:((i:Int)< ((dI dn).length:Int))=True:=eq_true (by grind[Gq]);have hc:=c2 [2,8,21,24,2624];have hc8:=c8 [2,8,21,24,2624];obtain⟨m,hm⟩:∃m,max (dn.getD i 0) (es.getD i 0)=m:=⟨_,rfl⟩;have em:(if((dn.getD i 0:Nat):Int)< ((es.getD i 0:Nat):Int)then((es.getD i 0:Nat):Int)else((dn.getD i 0:Nat):Int))=(m:Int):=by
   omega
  have e4:qZ 1 1 i 0 [I (m:Int)] 1 (aO (dI dn))=some (aO (dI (dn.set i m))):=by
   simp_all[qZ,if_pos,setRow,aO,dI,List.map_set]
  have hms:∀d∈dn.set i m,d<=32:=fun d hd2=>by
   rcases List.mem_or_eq_of_mem_set hd2 with h|h
   ·exact hb d h
   ·subst h;have h1:dn.getD i 0<=32:=by
     rw[List.getD_eq_getElem?_getD,List.getElem?_eq_getElem ω];exact hb _ (avN _)
    have h2:es.getD i 0<=32:=by
     rw[List.getD_eq_getElem?_getD,List.getElem?_eq_getElem ω];exact he32 _ (avN _)
    omega
  have ih':=ih (i+1) ω (dn.set i m) (by rw[List.length_set];exact hd) hms;rw[ag];generalize av _ _ _=L at ih'⊢;simp only[lR,go_sem,g2,g6,g26,g27,g28,g33,g34,g35,k2,k8,k21,k24,k2624,hc,hc8,e1,e2,e3,e5,e6,e7,avy,avs,qW,yp,ah3,em,e4];generalize hX:ah 2 _ _=X;obtain⟨hh,dn',q1,q2,q3,q4,q5,m1,m2,m3,m4⟩:=ih' _ _ _ hX rfl rfl rfl rfl rfl rfl rfl rfl rfl rfl rfl rfl rfl;refine⟨hh,dn',q1,q2,q3,q4,q5,by rw[m1,List.length_set],m2,fun j=>?_,fun j hj=>?_⟩
  all_goals grind
def Nt(v:Nat)(t:Rt)(es:List Nat):Prop:=t.exps=dI es/\es.length=v/\∀e∈es,e<=32
theorem aig{v:Nat}{p:Int}(h8:v<=8){A:List Rt}{E:List (List Nat)}(hA:A.length=E.length)(h5:A.length<=500)(hn:∀ (i:Nat) (t:Rt) (es:List Nat),A[i]?=some t->E[i]?=some es->Nt v t es){o2:Ob}(c2:∀l,az l o2=true):
  ∀ (k i:Nat),i+k=A.length->∀dn:List Nat,dn.length=v->(∀d∈dn,d<=32)->∀ (s:ak) (h:ac) (X:Option (Ex×St)),ah 0 [2,6] (av (ai R (ax false) pK) [2,6,26,27,28] [2,21,24,2624] s h)=X->s 2=.ref 2 none 0 0 0->s 6=.ref 24 none 0 0 0->s 26=.sl 4 (aH A)->s 27=I A.length->s 28=I i->h 2=o2->h 21=.dead->h 24=.bx [.osl 1 (aO (dI dn)),.emp,I p]->h 2624=.dead->
  ∃hh dn',X=some (.normal,⟨upd (upd (fun _=>.any) 6 (.ref 24 none 0 0 0)) 2 (.ref 2 none 0 0 0),hh⟩)/\hh 2=o2/\hh 24=.bx [.osl 1 (aO (dI dn')),.emp,I p]/\hh 21=.dead/\hh 2624=.dead/\dn'.length=v/\(∀d∈dn',d<=32)/\(∀j,dn.getD j 0<=dn'.getD j 0)/\∀ (a:Nat) (es:List Nat),i<=a->E[a]?=some es->∀j,es.getD j 0<=dn'.getD j 0:=by
 intro k;induction k with
 |zero=>
  intro i hi dn hd hb s h X hX g2 g6 g26 g27 g28 k2 k21 k24 k2624;subst hX;have e1:((i:Int)< (A.length:Int))=False:=ff;have hc:=c2 [2,21,24,2624];rw[ag];refine⟨?hh0,dn,?_,?_,?_,?_,?_,hd,hb,fun _=>avt _,fun a es ha he=>?_⟩;rotate_left
  ·simp only[pK,go_sem,g2,g6,g26,g27,g28,k2,k21,k24,k2624,hc,e1];rfl
  ·rfl
  ·rfl
  ·rfl
  ·rfl
  grind
 |succ k ih=>
  intro i hi dn hd hb s h X hX g2 g6 g26 g27 g28 k2 k21 k24 k2624;subst hX;have e1:((i:Int)< (A.length:Int))=True:=tt;obtain⟨t,ht⟩:∃t,A[i]?=some t:=⟨_,List.getElem?_eq_getElem ω⟩;obtain⟨es,hes⟩:∃es,E[i]?=some es:=⟨_,List.getElem?_eq_getElem ω⟩;obtain⟨n1,n2,n3⟩:=hn i t es ht hes;have e2:bp (aH A) (i:Int)=some (.ipt (cx t)):=iX rfl ht;have e5:IntKind.i64.wrap ((i:Int)+1)=((i+1:Nat):Int):=wi;have hc:=c2 [2,21,24,2624];have hg:=aif (p:=p) h8 n2 n3 c2 (o8:=.bx [.sl 1 (aO (dI es)),B t.c.neg,lm t.c.m,I t.c.e]) (fun _=>rfl) (A:=A) (nA:=A.length) (iA:=i) v 0 (avs _) dn hd hb;have e3:(aO (dI es)).length=v:=by rw[Bg,Gq,n2]
  rw[cx,n1]at e2;have ih':=ih (i+1) ω;rw[ag];simp only[pK,go_sem,g2,g6,g26,g27,g28,k2,k21,k24,k2624,hc,e1,e2,e3];generalize hX:ah 2 _ _=X;obtain⟨hh,dn',rfl,q2,q24,q21,q2624,m1,m2,m3,m4⟩:=hg _ _ _ hX rfl rfl rfl rfl rfl rfl rfl rfl rfl rfl rfl rfl rfl;simp only[go_sem,e5];generalize hX:ah 0 _ _=X;obtain⟨hh2,dn2,r1,r2,r3,r4,r5,u1,u2,u3,u4⟩:=ih' dn' ω m2 _ _ _ hX rfl rfl rfl rfl rfl q2 q21 q24 q2624;grind
theorem Rj:∀ (l:List Nat) (d n:Nat),bG (l++[d]) n=bG l n*(d+1)
 |[],_,_=>rfl
 |a::l,d,n=>Rj l d (n*(a+1))
theorem adc{dn:List Nat}{i:Nat}(h:i<dn.length):bG (dn.take (i+1)) 1=bG (dn.take i) 1*(dn.getD i 0+1):=by
 grind[List.take_add_one,Rj]
theorem afA{dn es:List Nat}{i s:Nat}(h:i<dn.length)(h2:i<es.length):pos (dn.drop i) (es.drop i) s=es.getD i 0*s+pos (dn.drop (i+1)) (es.drop (i+1)) (s*(dn.getD i 0+1)):=by
 rw[avI h,avI h2,List.getD_eq_getElem?_getD,List.getD_eq_getElem?_getD,List.getElem?_eq_getElem h,List.getElem?_eq_getElem h2];rfl
theorem aih{dn es:List Nat}{cs:List Ri}{p:Int}{v:Nat}(h8:v<=8)(hd:dn.length=v)(hb:∀d∈dn,d<=32)(hN4:bG dn 1<=400)(hes:es.length=v)(he32:∀e∈es,e<=32){o2 o15:Ob}(c2:∀l,az l o2=true)(c15:∀l,az l o15=true){A:List Rt}{nA iA:Int}:
  ∀ (k i:Nat),i+k=v->∀ (at_:Nat),at_+pos (dn.drop i) (es.drop i) (bG (dn.take i) 1)<=400->∀ (s:ak) (h:ac) (X:Option (Ex×St)),ah 8 [6,15,16,82,83,84] (av (ai R (ax false) jK) [6,15,16,82,83,84,89,90,91] [2,15,21,24,2624] s h)=X->s 6=.ref 24 none 0 0 0->s 15=.ref 15 none 0 0 0->s 16=I at_->s 82=.sl 4 (aH A)->s 83=I nA->s 84=I iA->s 89=.sl 1 (aO (dI es))->s 90=I v->s 91=I i->h 2=o2->h 15=o15->h 21=.dead->h 24=bI (dI dn) cs p->h 2624=.dead->
  ∃hh,X=some (.normal,⟨upd (upd (upd (upd (upd (upd (fun _=>.any) 84 (I iA)) 83 (I nA)) 82 (.sl 4 (aH A))) 16 (I (at_+pos (dn.drop i) (es.drop i) (bG (dn.take i) 1):Nat))) 15 (.ref 15 none 0 0 0)) 6 (.ref 24 none 0 0 0),hh⟩)/\hh 2=o2/\hh 15=o15/\hh 24=bI (dI dn) cs p/\(∀a,a≠2->a≠15->a≠24->hh a=.dead):=by
 intro k;induction k with
 |zero=>
  intro i hi at_ hat s h X hX g6 g15 g16 g82 g83 g84 g89 g90 g91 k2 k15 k21 k24 k2624;subst hX;have e1:((i:Int)< (v:Int))=False:=ff;have hc:=c2 [2,15,21,24,2624];have hc15:=c15 [2,15,21,24,2624];have hg:=(cB (dI dn) cs p).cl [2,15,21,24,2624];rw[avH (show dn.length<=i by omega)];have hp0:∀s,pos [] (es.drop i) s=0:=fun s=>by grind[pos]
  rw[hp0,av1,ag];refine⟨?hh0,?_,?_,?_,?_,?_⟩;rotate_left
  ·simp only[jK,go_sem,g6,g15,g16,g82,g83,g84,g89,g90,g91,k2,k15,k21,k24,k2624,hc,hc15,hg,e1];rfl
  all_goals simp_all[cU,if_false,ite_self]
 |succ k ih=>
  intro i hi at_ hat s h X hX g6 g15 g16 g82 g83 g84 g89 g90 g91 k2 k15 k21 k24 k2624;subst hX;have e1:((i:Int)< (v:Int))=True:=tt;have e3:bp (aO (dI es)) (i:Int)=some (.ipt [I (es.getD i 0:Nat)]):=qK rfl (VJ ω);have e5:IntKind.i64.wrap ((i:Int)+1)=((i+1:Nat):Int):=wi;have hbI:∀d∈dI dn,0<=d/\d<=32:=fun d hd=>by
   obtain⟨x,hx,rfl⟩:=List.mem_map.1 hd;grind
  have hst:=fun(h:ac) (d:Nat) (hh:h 24=bI (dI dn) cs p) (hd:h (2000+8*d)=.dead)=>dA (lW false) rfl (JF (m:=i) (by grind[Gq]) ω hbI (d:=d) hh hd);rw[show(dI dn).take i=dI (dn.take i)from(List.map_take ..).symm,show(1:Int)=((1:Nat):Int)from rfl,Kr]at hst;rw[afA ω ω,←adc ω,←awp]at hat⊢;have ih':=ih (i+1) ω (at_+es.getD i 0*bG (dn.take i) 1) hat;generalize bG (dn.take i) 1=st at*
  generalize es.getD i 0=e at*
  have w1:IntKind.i64.wrap ((e:Int)*(st:Int))=((e*st:Nat):Int):=wi (Int.natCast_mul ..).symm ω;have w2:IntKind.i64.wrap ((at_:Int)+((e*st:Nat):Int))=((at_+e*st:Nat):Int):=wi;have hc:=c2 [2,15,21,24,2624];have hc15:=c15 [2,15,21,24,2624];have hg:=(cB (dI dn) cs p).cl [2,15,21,24,2624];rw[ag];simp only[jK,go_sem,g6,g15,g16,g82,g83,g84,g89,g90,g91,k2,k15,k21,k24,k2624,hc,hc15,hg,e1,e3];rw[hst _ _ rfl rfl];simp only[go_sem,w1,w2,e5];exact ih' _ _ _ rfl rfl rfl rfl rfl rfl rfl rfl rfl rfl rfl rfl rfl rfl rfl
def gT(dn:List Nat):List Rt->List (List Nat)->G->G
 |t::l,es::r,g=>gT dn l r (gs g (pos dn es 1) (qv t.c))
 |_,_,g=>g
theorem aii{dn:List Nat}{p:Int}{v:Nat}(h8:v<=8)(hd:dn.length=v)(hb:∀d∈dn,d<=32)(hN4:bG dn 1<=400){A:List Rt}{E:List (List Nat)}(hA:A.length=E.length)(h5:A.length<=500)(hn:∀ (i:Nat) (t:Rt) (es:List Nat),A[i]?=some t->E[i]?=some es->Nt v t es/\pos dn es 1<bG dn 1/\vd t.c=true/\Ok0 t.c){o2:Ob}(c2:∀l,az l o2=true):
  ∀ (k i:Nat),i+k=A.length->∀ (cs:List Ri) (g:G),jH (bG dn 1) cs g->∀ (s:ak) (h:ac) (X:Option (Ex×St)),ah 6 [6] (av (ai R (ax false) lQ) [6,82,83,84] [2,21,24,2624] s h)=X->s 6=.ref 24 none 0 0 0->s 82=.sl 4 (aH A)->s 83=I A.length->s 84=I i->h 2=o2->h 21=.dead->h 24=bI (dI dn) cs p->h 2624=.dead->
  ∃hh cs',X=some (.normal,⟨upd (fun _=>.any) 6 (.ref 24 none 0 0 0),hh⟩)/\hh 24=bI (dI dn) cs' p/\jH (bG dn 1) cs' (gT dn (A.drop i) (E.drop i) g):=by
 intro k;induction k with
 |zero=>
  intro i hi cs g he s h X hX g6 g82 g83 g84 k2 k21 k24 k2624;subst hX;have e1:((i:Int)< (A.length:Int))=False:=ff;have hc:=c2 [2,21,24,2624];have hg:=(cB (dI dn) cs p).cl [2,21,24,2624];rw[avH (show A.length<=i by omega),ag];refine⟨?hh0,cs,?_,?_,he⟩;rotate_left
  ·simp only[lQ,go_sem,g6,g82,g83,g84,k2,k21,k24,k2624,hc,hg,e1];rfl
  ·rfl
 |succ k ih=>
  intro i hi cs g he s h X hX g6 g82 g83 g84 k2 k21 k24 k2624;subst hX;have hlt:i<A.length:=ω
  have e1:((i:Int)< (A.length:Int))=True:=tt;obtain⟨t,ht⟩:∃t,A[i]?=some t:=⟨_,List.getElem?_eq_getElem hlt⟩;obtain⟨es,hes⟩:∃es,E[i]?=some es:=⟨_,List.getElem?_eq_getElem ω⟩;obtain⟨⟨n1,n2,n3⟩,n4,n5,n6⟩:=hn i t es ht hes;have hgT:gT dn (A.drop i) (E.drop i) g=gT dn (A.drop (i+1)) (E.drop (i+1)) (gs g (pos dn es 1) (qv t.c)):=by
   have h1:A[i]=t:=Option.some.inj (by rw[←ht,List.getElem?_eq_getElem hlt]);have h2:E[i]'(by omega)=es:=Option.some.inj (by rw[←hes,List.getElem?_eq_getElem ω]);rw[avI hlt,avI (by omega:i<E.length),h1,h2];rfl
  have e2:bp (aH A) (i:Int)=some (.ipt (cx t)):=iX rfl ht;have e5:IntKind.i64.wrap ((i:Int)+1)=((i+1:Nat):Int):=wi;have e3:(aO (dI es)).length=v:=by rw[Bg,Gq,n2]
  rw[cx,n1]at e2;have h0:=aih (cs:=cs) (p:=p) h8 hd hb hN4 n2 n3 c2 (o15:=.bx [.sl 1 (aO (dI es)),B t.c.neg,lm t.c.m,I t.c.e]) (fun _=>rfl) (A:=A) (nA:=A.length) (iA:=i) v 0 (avs _) 0 (by
   show 0+pos dn es 1<=400;omega)
  have hp0:0+pos (dn.drop 0) (es.drop 0) (bG (dn.take 0) 1)=pos dn es 1:=avs _;rw[hp0]at h0;have hpt:=kB n6 n5;have ih':=ih (i+1) ω _ _ (he.set (k:=pos dn es 1) (tW n5 n6));rw[hgT];generalize pos dn es 1=P at*
  have i1:(0<=(P:Int))=True:=tt;have i2:((P:Int)< (cs.length:Int))=True:=eq_true (by rw[he.1];omega);have sr1:qZ 7 7 P 0 (aq ⟨t.c,t.c,false⟩) 7 (bc cs)=some (bc (cs.set P ⟨t.c,t.c,false⟩)):=Gp γ;have hc:=c2 [2,21,24,2624];have hg:=(cB (dI dn) cs p).cl [2,21,24,2624];simp only[af,aj,am,aq]at hpt;simp only[aq]at sr1;rw[ag];simp only[lQ,go_sem,g6,g82,g83,g84,k2,k21,k24,k2624,hc,hg,e1,e2,e3];generalize hX:ah 8 _ _=X;obtain⟨hh,rfl,q2,q15,q24,qd⟩:=h0 _ _ _ hX rfl rfl rfl rfl rfl rfl rfl rfl rfl rfl rfl rfl rfl rfl;have b1:=qd 2888 δ δ δ;have b2:=qd 2624 δ δ δ;have b3:=qd 21 δ δ δ;simp only[bI]at q24;simp only[go_sem,q15,q24,b1,hpt,i1,i2,avy,avs,Gn,sr1,e5];exact ih' _ _ _ rfl rfl rfl rfl rfl q2 b3 rfl b2
theorem ade:∀ (dn es:List Nat),dn.length=es.length->(∀j,es.getD j 0<=dn.getD j 0)->N7 dn es
 |[],[],_,_=>trivial
 |d::dn,e::es,h,hj=>⟨hj 0,ade dn es γ fun j=>hj (j+1)⟩
 |[],_::_,h,_=>by grind
 |_::_,[],h,_=>by grind
theorem Ms:∀ (dn:List Nat) (xs:List Rat),xs.length=dn.length->∀n,Af (pA dn xs) n=bG dn n
 |[],[],_,_=>rfl
 |d::dn,x::xs,h,n=>Ms dn xs γ (n*(d+1))
 |[],_::_,h,_=>by grind
 |_::_,[],h,_=>by grind
theorem Yr:∀ (dn:List Nat) (n:Nat),n<=400->C2 (dI dn) (n:Int)=none\/C2 (dI dn) (n:Int)=some ((bG dn n:Nat):Int)/\bG dn n<=400
 |[],n,h=>Or.inr ⟨rfl,h⟩
 |d::dn,n,h=>by
  have e:C2 (dI (d::dn)) (n:Int)=if 400< (n:Int)*(Int.ofNat d+1)then none else C2 (dI dn) ((n:Int)*(Int.ofNat d+1)):=rfl
  have e2:(n:Int)*(Int.ofNat d+1)=((n*(d+1):Nat):Int):=by rfl
  rw[e,e2];split
  ·exact Or.inl rfl
  ·exact Yr dn (n*(d+1)) ω
def GP(v:Nat)(A:List Rt)(E:List (List Nat))(p:Int)(r:AV×List Ob):Prop:=r=(.tup [.v (.pointer none),B false],[])\/∃dn cs,r=(.tup [.obx [.osl 1 (aO (dI dn)),.osl 7 (bc cs),I p],B true],[])/\dn.length=v/\(∀d∈dn,d<=32)/\(∀es∈E,N7 dn es)/\bG dn 1<=400/\jH (bG dn 1) cs (gT dn A E fun _=>0)
theorem adf{v:Nat}{p:Int}(h8:v<=8){A:List Rt}{E:List (List Nat)}(hA:A.length=E.length)(h5:A.length<=500)(hn:∀ (i:Nat) (t:Rt) (es:List Nat),A[i]?=some t->E[i]?=some es->Nt v t es/\vd t.c=true/\Ok0 t.c):
  ∃r,R F.bound_gridOf [.agg [I v,.sl 4 (aH A)],I p] []=some r/\GP v A E p r:=by
 have z1:nE (.v (.int .i64 (v:Int))) (.v (.int .i64 (v:Int)))=some (v,v):=by
  simp only[nE];grind
 have z2:(v*8<=140737488355328)=True:=tt;have zr:avr v [I 0]=aO (dI (avr v 0)):=by grind[aO,dI,List.map_replicate]
 have hl:(aO (dI (avr v 0))).length=v:=γ
 have h4:=aig (p:=p) h8 hA h5 (fun i t es h1 h2=>(hn i t es h1 h2).1) (o2:=.bx [I v,.sl 4 (aH A)]) (fun _=>rfl) A.length 0 (avs _) (avr v 0) σ (fun d hd=>by grind);have hrl:=n9 A;refine Kq (r:=fun a=>a) AL.2.1 AL.2.2 (AL.1.2.2.2 false) rfl (avW rfl) ?_;have hh0:ao []=fun _=>.dead:=by funext i;simp[ao]
 simp only[zj,FZ,hh0,go_sem,awd,z1,z2,zr];rw[akL (k:=1) (rows:=aO (dI (avr v 0))) rfl hl.symm rfl δ];simp only[go_sem];generalize hX:ah 0 _ _=X;obtain⟨hh,dn,rfl,q2,q24,q21,q2624,d1,d2,d3,d4⟩:=h4 _ _ _ hX rfl rfl rfl rfl rfl rfl rfl rfl rfl;have hdl:(dI dn).length=v:=by rw[Gq,d1]
 have hbI:∀d∈dI dn,0<=d/\d<=32:=fun d hd=>by
  obtain⟨x,hx,rfl⟩:=List.mem_map.1 hd;grind
 simp only[go_sem,q2,q24,q21,q2624,hdl,Bg];generalize hX:ah 4 _ _=X;have hM:=am9 (ds:=dI dn) (p:=p) hdl.symm ω hbI (o2:=.bx [I v,.sl 4 (aH A)]) (fun _=>rfl) _ _ _ hX rfl rfl rfl rfl rfl rfl q2 q21 q24 q2624;rcases Yr dn 1 δ with hm| ⟨hm,h4⟩
 ·rw[show(1:Int)=((1:Nat):Int)from rfl,hm]at hM;obtain⟨hh2,rfl⟩:=hM;refine⟨_,?_,Or.inl rfl⟩;simp only[go_sem]
 rw[show(1:Int)=((1:Nat):Int)from rfl,hm]at hM;obtain⟨hh,rfl,q2,q24,qd⟩:=hM;have hle:∀es∈E,N7 dn es:=fun es he=>by
  obtain⟨i,hi⟩:=List.getElem?_of_mem he;have hiE:=(List.getElem?_eq_some_iff.1 hi).1;have:=(hn i _ es (List.getElem?_eq_getElem ω) hi).1.2.1;exact ade dn es ω (d4 i es (av6 _) hi)
 have hpt:=kB bh.2 bh.1;have hrp:=adb (x:=NY) (nC dn 1 δ) h4;have h1:=aii (p:=p) h8 d1 d2 h4 hA h5 (fun i t es h1 h2=>by
  obtain⟨a,b,c⟩:=hn i t es h1 h2;refine⟨a,?_,b,c⟩;have hL:=hle es (List.mem_of_getElem? h2);have:=acU dn es (avr dn.length 0) hL σ 1 0 δ
  simp_all[Ms,avs]) (o2:=.bx [I v,.sl 4 (aH A)]) (fun _=>rfl) A.length 0 (avs _) (avr (bG dn 1) NY) (fun _=>0) ⟨by simp,fun k x hx=>by
   rw[List.getElem?_replicate]at hx;split at hx
   ·cases hx;rw[←Jv];exact tW bh.1 bh.2
   grind⟩
 generalize avr (bG dn 1) NY=cs0 at hrp h1;have b1:=qd 2600 δ δ;have b2:=qd 76 δ δ;have b3:=qd 2624 δ δ;have b4:=qd 21 δ δ;simp only[af,aj,am,aq,aI,NY]at hpt hrp;simp only[aq,go_sem,q24,b1,b2,b3,hpt,hrp];rw[vS (h:=upd (upd (upd hh 76 _) 76 _) 2624 (.ar 7 (bc cs0))) (id:=24) (p:=1) (id2:=2624) (k:=7) (n:=cs0.length) rfl (s7 _).symm q24 δ γ];simp only[go_sem,akK,awo,q2,hrl];generalize hX:ah 6 _ _=X;obtain⟨hh2,cs2,rfl,r24,he2⟩:=h1 _ _ _ hX rfl rfl rfl rfl q2 b4 rfl rfl;refine⟨_,?_,Or.inr ⟨dn,cs2,rfl,d1,d2,hle,h4,he2⟩⟩;simp only[bI]at r24;simp only[go_sem,r24];rw[if_pos (by rfl)];have e:pW hh2 (.ref 24 none 0 0 0)=some (.obx [.osl 1 (aO (dI dn)),.osl 7 (bc cs2),I p]):=by
  have hp:bj 24=false:=rfl;simp[pW,lB,YP,r24,hp];exact⟨rfl,rfl,rfl⟩
 rw[e];rfl
def qX:List Nat->List Rat->List (Nat×LF)
 |d::ds,t::ts=>(d,fun v=>dc t v d 0)::qX ds ts
 |_,_=>[]
theorem adg:∀ (ds:List Nat) (ts:List Rat),N6 (qX ds ts)
 |d::ds,t::ts=>fun p hp=>by
  rcases List.mem_cons.1 hp with rfl|hp
  ·simp_all[N5]
  ·exact adg ds ts p hp
 |[],_=>fun _ h=>by grind[qX]
 |_::_,[]=>fun _ h=>by grind[qX]
theorem P1:∀ (dn:List Nat) (ts:List Rat),ts.length=dn.length->∀n,Af (qX dn ts) n=bG dn n
 |[],[],_,_=>rfl
 |d::dn,x::xs,h,n=>P1 dn xs γ (n*(d+1))
 |[],_::_,h,_=>by grind
 |_::_,[],h,_=>by grind
theorem VK:∀ (dn:List Nat) (ts:List Rat),ts.length=dn.length->∀d t,qX (dn++[d]) (ts++[t])=qX dn ts++[(d,fun v=>dc t v d 0)]
 |[],[],_,_,_=>rfl
 |d::dn,x::xs,h,d',t'=>by
  show _::qX (dn++[d']) (xs++[t'])=_::(qX dn xs++_);rw[VK dn xs (by simpa using h)]
 |[],_::_,h,_,_=>by grind
 |_::_,[],h,_,_=>by grind
theorem VL:∀ (a b:List Nat) (n:Nat),bG (a++b) n=bG b (bG a n)
 |[],_,_=>rfl
 |d::a,b,n=>VL a b (n*(d+1))
theorem afB{dn1 dn2:List Nat}{n N:Nat}{xs2 ts1:List Rat}(h1:ts1.length=dn1.length)(h2:xs2.length=dn2.length)(hN:N=bG (dn1++n::dn2) 1){x t lo w:Rat}(hx:x=lo+w*t)(g:G):
  iJ (qX dn1 ts1++(n,fun v=>pl x v 0 (n+1))::pA dn2 xs2) 1 0 g=
   iJ (qX dn1 ts1++(n,fun v=>dc t v n 0)::pA dn2 xs2) 1 0 (ps (fun f=>N1 n (fun j=>f+j*bG dn1 1)) (bG dn1 1) n N 0 (ps (fun f=>N0 lo w n (fun j=>f+j*bG dn1 1)) (bG dn1 1) n N 0 g)):=by
 have hs:=nC dn1 1 δ;have ht1:=P1 dn1 ts1 h1 1;have ht2:=Ms dn2 xs2 h2;rw[VL]at hN;have hN:N=bG dn2 (bG dn1 1*(n+1)):=hN;generalize bG dn1 1=s at*
 have hi:∀f a b:Nat,f+a*s=f+b*s↔a=b:=fun f a b=>⟨fun h=>Nat.eq_of_mul_eq_mul_right ω (Nat.add_left_cancel h),fun h=>by rw[h]⟩;have c1:pE (n+1) fun v=>pl x v 0 (n+1):=Jx _ _ σ;have c2:pE (n+1) fun v=>pl t v 0 (n+1):=Jx _ _ σ;have c3:pE (n+1) fun v=>dc t v n 0:=N5 _ _ σ;have key:∀ (L L':LF) (op:Nat->G->G) (g:G),pE (n+1) L->pE (n+1) L'->(∀f g,(∀a,(∀m,m<=n->a≠f+m*s)->op f g a=g a)/\L (fun m=>g (f+m*s))=L' (fun m=>op f g (f+m*s)))->
   iJ (qX dn1 ts1++(n,L)::pA dn2 xs2) 1 0 g=iJ (qX dn1 ts1++(n,L')::pA dn2 xs2) 1 0 (ps op s n N 0 g):=fun L L' op g hL hL' hop=>by
  refine Vy hL hL' (Kn dn2 xs2) (qX dn1 ts1) (adg dn1 ts1) 1 0 δ fun i0 q hi0 hq=>?_;rw[ht1]at hi0 hq⊢;refine(am6 ω hL hL' hop N 0 g).2 _ (av6 _) ?_ ?_
  ·grind
  ·have e:i0+q*(s*(n+1))=i0+q*(n+1)*s:=γ
   rw[e,Nat.add_mul_div_right _ _ ω,Nat.div_eq_of_lt hi0,avs,Nat.mul_mod_left]
 rw[key _ _ (fun f=>N0 lo w n (fun j=>f+j*s)) g c1 c2 fun f g=>akD hx (hi f) n g];exact key _ _ (fun f=>N1 n (fun j=>f+j*s)) _ c2 c3 fun f g=>akE (hi f) n g
theorem adh{dn:List Nat}{xs:List Rat}(hx:xs.length=dn.length):∀ (A:List Rt) (E:List (List Nat)) (g:G),A.length=E.length->(∀es∈E,N7 dn es)->E.Nodup->(∀es∈E,g (pos dn es 1)=0)->(∀ (i:Nat) (t:Rt) (es:List Nat),A[i]?=some t->E[i]?=some es->t.exps=dI es)->
  iJ (pA dn xs) 1 0 (gT dn A E g)=iJ (pA dn xs) 1 0 g+fv xs A
 |[],[],g,_,_,_,_,_=>by
  show _=_+0;rw[Rat.add_zero];rfl
 |t::A,es::E,g,hA,hle,hnd,h0,hE=>by
  obtain⟨hn1,hn2⟩:=List.nodup_cons.1 hnd;have hes:=hE 0 t es rfl rfl;have hxn:E4 t.exps=es:=by
   rw[hes];unfold E4 dI;rw[List.map_map];exact(avR (g:=fun c=>c) fun x _=>by simp).trans (av5 _)
  show iJ (pA dn xs) 1 0 (gT dn A E (gs g (pos dn es 1) (qv t.c)))=_;rw[adh hx A E _ γ (fun e he=>hle e γ) hn2 (fun e he=>by
   unfold gs;rw[if_neg fun hq=>?_]
   ·grind
   ·have:=(Yh dn e es (hle e γ) (hle es σ) 1 0 0 δ δ ω).2;grind) fun i u e h1 h2=>hE (i+1) u e h1 h2]
  rw[akF (Kn dn xs),h0 es σ];have hm:=Yg dn es xs (hle es σ) hx 1 0 0 δ δ;grind[qv,Li,E4,fv]
 |[],_::_,_,h,_,_,_,_=>by grind
 |_::_,[],_,h,_,_,_,_=>by grind
theorem afC{ls:List (Nat×LF)}(ok:N6 ls)(s i:Nat):iJ ls s i (fun _=>0)=0:=by
 have:=PX (a:=0) (c:=0) (g:=fun _=>0) (h:=fun _=>0) ls ok s i;grind
theorem akQ{lo hi:Rat}{g:G}{dn:List Nat}{ts:List Rat}(hl:ts.length=dn.length)(ht:∀t∈ts,0<=t/\t<=1)(h:∀k,k<bG dn 1->lo<=g k/\g k<=hi):lo<=iJ (qX dn ts) 1 0 g/\iJ (qX dn ts) 1 0 g<=hi:=by
 refine Yf (qX dn ts) ?_ 1 0 fun q hq=>?_
 ·have:∀ (dn:List Nat) (ts:List Rat),(∀t∈ts,0<=t/\t<=1)->∀p∈qX dn ts,∀v:G,(∀j,j<=p.1->lo<=v j/\v j<=hi)->lo<=p.2 v/\p.2 v<=hi:=by
   intro dn;induction dn with
   |nil=>grind[qX]
   |cons d dn ih=>
    intro ts ht p hp v hv;cases ts with
    |nil=>grind[qX]
    |cons t ts=>
     rcases List.mem_cons.1 hp with rfl|hp
     all_goals grind[Vx]
  exact this dn ts ht
 grind[P1]
theorem abJ{l:List Int}(h:∀e∈l,0<=e):l=dI (E4 l):=by
 grind[dI,E4,List.map_map,avR,Int.toNat_of_nonneg,av5]
def JG(l:List Rt):List (List Nat):=l.map fun t=>E4 t.exps
theorem afD{v:Int}{l:List Rt}(c:Cl v l):(JG l).Nodup:=by
 have h1:l.Pairwise fun a b=>a.exps≠b.exps:=c.s.imp fun h=>(Q6 h).symm;unfold JG;rw[List.nodup_iff_pairwise_ne,List.pairwise_map];refine List.Pairwise.imp_of_mem (fun{a b} ha hb h he=>h ?_) h1;rw[abJ fun e hx=>((c.t a ha).b e hx).1,abJ fun e hx=>((c.t b hb).b e hx).1,he]
theorem agw{v:Nat}{l:List Rt}(c:Cl v l)(i:Nat)(t:Rt)(es:List Nat)(h1:l[i]?=some t)(h2:(JG l)[i]?=some es):Nt v t es/\vd t.c=true/\Ok0 t.c:=by
 have hm:=c.t t (List.mem_of_getElem? h1);unfold JG at h2;rw[List.getElem?_map,h1]at h2;have h2:E4 t.exps=es:=Option.some.inj h2;subst h2;refine⟨⟨abJ fun e hx=>(hm.b e hx).1,?_,fun e he=>?_⟩,hm.vc,hm.c⟩
 ·have:=hm.len;grind[E4,awk]
 ·obtain⟨z,hz,rfl⟩:=List.mem_map.1 he;have:=hm.b z hz;omega
def qo(o:Option Rd):Rat:=qv (o.getD aI)
theorem P2{x:Rat}:∀ (l:List Rt) (o0 o1:Option Rd),(∀t∈l,t.exps=[0]/\o0=none\/t.exps=[1]/\o1=none)->l.Pairwise (fun a b=>a.exps≠b.exps)->∃p0 p1,A7 l [o0,o1]=[p0,p1]/\qo p0+qo p1*x=qo o0+qo o1*x+fv [x] l
 |[],o0,o1,_,_=>⟨o0,o1,rfl,by show _=_+0;grind⟩
 |t::l,o0,o1,h,hp=>by
  obtain⟨p1,p2⟩:=List.pairwise_cons.1 hp;have q0:qo none=0:=Jv;unfold A7;rcases h t σ with⟨he,rfl⟩| ⟨he,rfl⟩
  ·have hs:[none,o1].set (wC 1 t.exps 0+1).toNat (some t.c)=[some t.c,o1]:=by rw[he];rfl
   rw[hs];obtain⟨a,b,e1,e2⟩:=P2 (x:=x) l (some t.c) o1 (fun u hu=>by
    grind) p2
   refine⟨a,b,e1,?_⟩;rw[e2];show qv t.c+_+_=_+(qv t.c*Li [x] (E4 t.exps)+fv [x] l);rw[he,q0];show _=_+(qv t.c*(x^0*1)+_);grind
  ·have hs:[o0,none].set (wC 1 t.exps 0+1).toNat (some t.c)=[o0,some t.c]:=by rw[he];rfl
   rw[hs];obtain⟨a,b,e1,e2⟩:=P2 (x:=x) l o0 (some t.c) (fun u hu=>by
    grind) p2
   refine⟨a,b,e1,?_⟩;rw[e2];show _+qv t.c*x+_=_+(qv t.c*Li [x] (E4 t.exps)+fv [x] l);rw[he,q0];show _=_+(qv t.c*(x^1*1)+_);grind
theorem adi{a:Rp}(oa:OkP a)(hl:E2 a=true)(h1:a.vars=1)(x:Rat):∃c m,Ho a=[c,m]/\fv [x] a.terms=qv c+qv m*x:=by
 obtain⟨hv,hd⟩:=ahu hl;obtain⟨cl,_⟩:=lv oa hv;obtain⟨p0,p1,e1,e2⟩:=P2 (x:=x) a.terms none none (fun t ht=>by
  obtain⟨s1,s2,s3,s4,s5⟩:=Kb hv ht;obtain⟨e,he⟩:=ahv (s2.trans h1);have h3:=s1.2 e γ;grind[bt]) (cl.s.imp fun h=>(Q6 h).symm)
 refine⟨p0.getD aI,p1.getD aI,?_,?_⟩
 ·simp_all[Ho,XJ,A7]
 grind[qo,Jv,p0]
theorem afE{c m:Rd}{b:Ri}{x:Rat}{p:Int}(vc:vd c=true/\Ok0 c)(vm:vd m=true/\Ok0 m)(hp:bQ p=true)(hb:In x b)(hk:kI b=true):In (qv c+qv m*x) (Hp c m b p):=by
 rcases hb.k with⟨rfl,h1⟩| ⟨_,x1,x2⟩
 ·grind
 have hq:∀ {y:Rd},(fV m y).2=0->qv (fV m y).1=qv m*qv y:=fun{y} h=>by
  have h1:=aht h;have h2:=(N3 (z:=zI m*zI y) (r:=zI (fV m y).1) 16384).1 (Int.le_of_eq h1.symm);have h3:=(N3 (z:=zI m*zI y) (r:=zI (fV m y).1) 16384).2 (Int.le_of_eq h1);unfold qv EQ;grind
 unfold Hp aan;split
 ·next h=>
  have v1:=Kc m (QY m b);have v2:=Kc m (QZ m b);have ok:∀ {a b:Rd} {up:Bool},vd (dt a b p up).1=true/\Ok0 (dt a b p up).1:=fun{a b up}=>by
   grind[dt,sN,bh]
  have hm:qv m*qv (QY m b)<=qv m*x/\qv m*x<=qv m*qv (QZ m b):=by
   unfold QY QZ;by_cases hs:gb m<0
   ·have h0:=(Hv vm.1).2.1 hs;have a:=Rat.mul_le_mul_of_nonneg_left x1 (show 0≤-qv m by grind);have b:=Rat.mul_le_mul_of_nonneg_left x2 (show 0≤-qv m by grind);grind
   ·have h0:0<=qv m:=Rat.not_lt.1 fun h=>hs ((Hv vm.1).2.2 h);grind[Rat.mul_le_mul_of_nonneg_left]
  refine SO ok ok (fun h=>?_) (fun h=>?_)
  all_goals grind[Vw]
 ·exact Or.inl rfl
def wU:List Ri->List Rat->List Rat->Prop
 |b::dom,x::xs,t::ts=>x=qv b.lo+(qv b.hi-qv b.lo)*t/\0<=t/\t<=1/\wU dom xs ts
 |[],[],[]=>True
 |_,_,_=>False
theorem wU.len:∀ {dom:List Ri} {xs ts:List Rat},wU dom xs ts->xs.length=dom.length/\ts.length=dom.length
 |_::_,_::_,_::_,h=>by
  obtain⟨a,b⟩:=wU.len h.2.2.2;grind
 |[],[],[],_=>⟨rfl,rfl⟩
 |[],_::_,_,h=>h.elim
 |[],[],_::_,h=>h.elim
 |_::_,[],_,h=>h.elim
 |_::_,_::_,[],h=>h.elim
theorem wU.get:∀ {dom:List Ri} {xs ts:List Rat},wU dom xs ts->∀ {i:Nat} {b:Ri},dom[i]?=some b->∃x t,xs[i]?=some x/\ts[i]?=some t/\x=qv b.lo+(qv b.hi-qv b.lo)*t
 |b::_,x::_,t::_,h,0,b',hb=>by
  have:b=b':=γ
  subst this;exact⟨x,t,rfl,rfl,h.1⟩
 |_::_,_::_,_::_,h,i+1,b,hb=>wU.get h.2.2.2 (i:=i) γ
 |[],_,_,_,_,_,hb=>by grind
 |_::_,[],_,h,_,_,_=>h.elim
 |_::_,_::_,[],h,_,_,_=>h.elim
theorem wU.t01:∀ {dom:List Ri} {xs ts:List Rat},wU dom xs ts->∀t∈ts,0<=t/\t<=1
 |_::_,_::_,_::_,h,t,ht=>by
  rcases List.mem_cons.1 ht with rfl|ht
  ·exact⟨h.2.1,h.2.2.1⟩
  ·exact wU.t01 h.2.2.2 t ht
 |[],[],[],_,t,ht=>by grind
 |[],_::_,_,h,_,_=>h.elim
 |[],[],_::_,h,_,_=>h.elim
 |_::_,[],_,h,_,_=>h.elim
 |_::_,_::_,[],h,_,_=>h.elim
theorem afF{dn:List Nat}{i n:Nat}(h:dn[i]?=some n):dn.take i++n::dn.drop (i+1)=dn/\dn.drop i=n::dn.drop (i+1)/\dn.take (i+1)=dn.take i++[n]:=by
 grind[List.take_append_drop,List.take_add_one]
theorem aij{dom:List Ri}{dn:List Nat}{p:Int}{v:Nat}(h8:v<=8)(hd:dn.length=v)(hdl:dom.length=v)(hb:∀d∈dn,d<=32)(hN4:bG dn 1<=400)(od:∀b∈dom,VI b){c6:List AV}(hc6:az [6,2368] (.bx c6)=true):
  ∀ (k i:Nat),i+k=v->∀ (cs:List Ri) (g:G),jH (bG dn 1) cs g->∀ (s:ak) (h:ac) (X:Option (Ex×St)),ah 0 [6,9] (av (ai R (ax false) l9) [1,6,9,56,57] [6,2368] s h)=X->s 1=.sl 7 (bc dom)->s 6=.ref 6 none 0 0 0->s 9=.ref 2368 none 0 0 0->s 56=I v->s 57=I i->h 6=.bx c6->h 2368=bI (dI dn) cs p->
  ∃hh cs' g',X=some (.normal,⟨upd (upd (fun _=>.any) 9 (.ref 2368 none 0 0 0)) 6 (.ref 6 none 0 0 0),hh⟩)/\hh 6=.bx c6/\hh 2368=bI (dI dn) cs' p/\(∀a,a≠6->a≠2368->hh a=.dead)/\jH (bG dn 1) cs' g'/\
   ∀xs ts:List Rat,wU dom xs ts->iJ (qX (dn.take i) (ts.take i)++pA (dn.drop i) (xs.drop i)) 1 0 g=iJ (qX dn ts) 1 0 g':=by
 intro k;induction k with
 |zero=>
  intro i hi cs g he s h X hX g1 g6 g9 g56 g57 k6 k2368;subst hX;have e1:((i:Int)< (v:Int))=False:=ff;have hg:=(cB (dI dn) cs p).cl [6,2368];rw[ag];refine⟨?hh0,cs,g,?_,?_,?_,?_,he,fun xs ts hp=>?_⟩;rotate_left
  ·simp only[l9,go_sem,g1,g6,g9,g56,g57,k6,k2368,hc6,hg,e1];rfl
  ·rfl
  ·rfl
  ·simp_all[cU,if_false]
  ·obtain⟨l1,l2⟩:=hp.len;rw[avL ω,avL ω,avH ω];show iJ (qX dn ts++[]) 1 0 g=_;grind
 |succ k ih=>
  intro i hi cs g he s h X hX g1 g6 g9 g56 g57 k6 k2368;subst hX;have hlt:i<v:=ω
  have e1:((i:Int)< (v:Int))=True:=tt;obtain⟨b,hb0⟩:∃b,dom[i]?=some b:=⟨_,List.getElem?_eq_getElem ω⟩;obtain⟨n,hn⟩:∃n,dn[i]?=some n:=⟨_,List.getElem?_eq_getElem ω⟩;have e2:bp (bc dom) (i:Int)=some (.ipt (aq b)):=s9 rfl hb0;have e5:IntKind.i64.wrap ((i:Int)+1)=((i+1:Nat):Int):=wi;have vb:=od b (List.mem_of_getElem? hb0);have hg:=(cB (dI dn) cs p).cl [6,2368];obtain⟨cs1,hR1,he1⟩:=aid (p:=p) vb.1 vb.2 hn ω hb hN4 he;obtain⟨cs2,hR2,he2⟩:=aic (p:=p) hn ω hb hN4 he1;have hu:=fun(h:ac) (d:Nat) (hh:h 2368=bI (dI dn) cs p) (hd:h (2000+8*d)=.dead)=>dA (gY.1.2.1 false) (by rfl) (Hr (gY.1.2.1 false) (gY.1.2.2.2 false) (zas:=[I i,am b]) (as':=[I i,am b]) (by rw[gY.1.1];simp only[am,aq,go_sem]) rfl rfl hh (cB _ _ _) (cB _ _ _) (fun _=>rfl) hR1 ae1 (d:=d) δ rfl);have hbn:=fun(h:ac) (d:Nat) (hh:h 2368=bI (dI dn) cs1 p) (hd:h (2000+8*d)=.dead)=>dA (eC.1.2.1 false) (by rfl) (Hr (eC.1.2.1 false) (eC.1.2.2.2 false) (zas:=[I i]) (as':=[I i]) (by rw[eC.1.1];rfl) rfl rfl hh (cB _ _ _) (cB _ _ _) (fun _=>rfl) hR2 ae1 (d:=d) δ rfl);have ih':=ih (i+1) ω _ _ he2;rw[ag];generalize av _ _ _=L at ih'⊢;simp only[am,aq]at e2 hu;simp only[l9,go_sem,g1,g6,g9,g56,g57,k6,k2368,hc6,hg,e1,e2];rw[hu _ _ rfl rfl];simp only[go_sem];rw[hbn _ _ rfl rfl];simp only[go_sem,e5];generalize hX:ah 0 _ _=X;obtain⟨hh,cs',g',q1,q2,q3,q4,q5,q6⟩:=ih' _ _ _ hX rfl rfl rfl rfl rfl rfl rfl;refine⟨hh,cs',g',q1,q2,q3,q4,q5,fun xs ts hp=>?_⟩;obtain⟨l1,l2⟩:=hp.len;obtain⟨x,t,hx,ht,hxt⟩:=hp.get hb0;rw[←q6 xs ts hp];obtain⟨d1,d2,d3⟩:=afF hn;have hxd:xs.drop i=x::xs.drop (i+1):=by
   grind[avI]
  have htd:ts.take (i+1)=ts.take i++[t]:=by
   grind[List.take_add_one]
  rw[d2,d3,hxd,htd,VK _ _ γ,awe];exact afB γ γ (by rw[d1]) hxt g
theorem aik{ds:List Int}{p:Int}{N:Nat}(hN:N<=400){cs:List Ri}{g:G}(he:jH N cs g){c6:List AV}(hc6:az [6,12,2368] (.bx c6)=true):∀ (k i:Nat),i+k=N->∀out:Ri,OkI out->(∀j,j<i->In (g j) out)->(∃q,In q out)->∀ (s:ak) (h:ac) (X:Option (Ex×St)),ah 2 [6,12] (av (ai R (ax false) l8) [6,12,80,81,82] [6,12,2368] s h)=X->
  s 6=.ref 6 none 0 0 0->s 12=.ref 12 none 0 0 0->s 80=.rsl 2368 (some 1) 7 0 N->s 81=I N->s 82=I i->h 6=.bx c6->h 12=fP out->h 2368=bI ds cs p->
  ∃hh out',X=some (.normal,⟨upd (upd (fun _=>.any) 12 (.ref 12 none 0 0 0)) 6 (.ref 6 none 0 0 0),hh⟩)/\hh 6=.bx c6/\hh 12=fP out'/\OkI out'/\(∀j,j<N->In (g j) out'):=by
 intro k;induction k with
 |zero=>
  intro i hi out oo ho hq s h X hX g6 g12 g80 g81 g82 k6 k12 k2368;subst hX;have e1:((i:Int)< (N:Int))=False:=ff;have hg:=(cB ds cs p).cl [6,12,2368];have hoc:=(ge out).cl [6,12,2368];rw[ag];refine⟨?hh0,out,?_,?_,?_,oo,fun j hj=>ho j ω⟩;rotate_left
  ·simp only[l8,go_sem,g6,g12,g80,g81,g82,k6,k12,k2368,hc6,hg,hoc,e1];rfl
  ·rfl
  ·rfl
 |succ k ih=>
  intro i hi out oo ho hq s h X hX g6 g12 g80 g81 g82 k6 k12 k2368;subst hX;have e1:((i:Int)< (N:Int))=True:=tt;have e5:IntKind.i64.wrap ((i:Int)+1)=((i+1:Nat):Int):=wi;obtain⟨x,x1,x2⟩:=he.get (k:=i) ω;have q1:(bc cs)[i]?=some (aq x):=by grind[bc]
  have i1:(0<=(i:Int))=True:=tt;have hg:=(cB ds cs p).cl [6,12,2368];have hoc:=(ge out).cl [6,12,2368];have ch:=afn oo x2.ok;have ih':=ih (i+1) ω (Kl out x) (by
   obtain⟨q,hq⟩:=hq;exact(Hu hq x2).1.ok) (fun j hj=>by
   obtain⟨q,hq⟩:=hq;by_cases hji:j=i
   ·subst hji;exact(Hu hq x2).2
   ·exact(Hu (ho j ω) x2).1) ⟨_,(Hu hq.choose_spec x2).1⟩
  rw[ag];simp only[am,aq]at ch;simp only[aq]at q1;simp only[bI]at k2368 hg;simp only[fP]at k12 hoc;simp only[l8,go_sem,g6,g12,g80,g81,g82,k6,k12,k2368,hc6,hg,hoc,e1,i1,yq,Df,avy,avs,q1,ch,e5];exact ih' _ _ _ rfl rfl rfl rfl rfl rfl rfl rfl rfl
def BrG(a:Rp)(dom:List Ri)(p:Int)(b:Ri):Prop:=(∀xs ts:List Rat,wU dom xs ts->In (fv xs a.terms) b)/\((nP a dom&&bQ p)=false->b=dy)
theorem wU.inL:∀ {dom:List Ri} {xs ts:List Rat},(∀b∈dom,kI b=true/\VI b)->wU dom xs ts->InL xs dom
 |b::_,x::_,t::_,hk,h=>by
  obtain⟨h1,h2,h3,h4⟩:=h;obtain⟨k1,k2⟩:=hk b σ;refine⟨Or.inr ⟨?_,k2,?_⟩,wU.inL (fun b hb=>hk b γ) h4⟩
  ·unfold kI at k1;grind
  ·have hle:qv b.lo<=qv b.hi:=by
    rw[BB];unfold kI vi at k1;grind
   have a:=Rat.mul_nonneg (show 0<=qv b.hi-qv b.lo by grind) h2;have b:=Rat.mul_nonneg (show 0<=qv b.hi-qv b.lo by grind) (show 0<=1-t by grind);grind
 |[],[],[],_,_=>trivial
 |[],_::_,_,_,h=>h.elim
 |[],[],_::_,_,h=>h.elim
 |_::_,[],_,_,h=>h.elim
 |_::_,_::_,[],_,h=>h.elim
theorem VN{a:Rp}{dom:List Ri}(od:∀x∈dom,OkI x)(hd:nP a dom=true):vp a=true/\(dom.length:Int)=a.vars/\∀b∈dom,kI b=true/\VI b:=by
 unfold nP at hd;simp only[avv,decide_eq_true_eq,awu,List.any_eq_false]at hd;refine⟨hd.1,hd.2.1,fun b hb=>?_⟩;have h1:kI b=true:=by
  grind
 have h2:=h1;unfold kI vi at h2;cases ha:b.all with
 |true=>grind
 |false=>
  rw[ha]at h2;simp at h2;have:=od b hb;exact⟨h1,⟨h2.1,this.lo⟩,⟨h2.2.1,this.hi⟩⟩
theorem VO{a:Rp}{dom:List Ri}(oa:OkP a)(od:∀x∈dom,OkI x)(h2:dom.length<=100000){p:Int}:∃b,R F.bound_Bernstein [aZ a,.sl 7 (bc dom),I p] []=some (am b,[])/\BrG a dom p b:=by
 have hf:=J7 oa od h2 (p:=p);have hw:=Hm;cases hq:(nP a dom&&bQ p)with
 |false=>
  rw[hq]at hf;refine⟨dy,?_,fun _ _ _=>Or.inl rfl,fun _=>rfl⟩;refine aB jM rfl ?_;simp only[aZ,am,aq,dy,aI]at hf hw;simp only[go,jJ,aZ,am,aq,dy,aI,go_sem,hf,hw]
 |true=>
  rw[hq]at hf;have hdp:=hq;rw[avv]at hdp;obtain⟨hd,hp⟩:=hdp;obtain⟨hv,hl,hk⟩:=VN od hd;obtain⟨cl,v0,v8,h5⟩:=lv oa hv;have nf:(nP a dom&&bQ p)=false->∀b:Ri,b=dy:=fun h=>by grind
  by_cases hlin:E2 a=true/\a.vars=1
  ·obtain⟨x,rfl⟩:∃x,dom=[x]:=List.length_eq_one_iff.1 ω;obtain⟨c,m,e1,_⟩:=adi oa hlin.1 hlin.2 0;have hx:=hk x σ;obtain⟨k1,_⟩:=XM oa hv;rw[e1]at k1;refine⟨Hp c m x p,aeU oa od ω hlin.1 hlin.2 e1 rfl,fun xs ts hpt=>?_,fun h=>nf h _⟩;obtain⟨l1,l2⟩:=hpt.len;obtain⟨y,rfl⟩:∃y,xs=[y]:=List.length_eq_one_iff.1 l1;have hin:=wU.inL (fun b hb=>hk b hb) hpt;obtain⟨c',m',e3,e2⟩:=adi oa hlin.1 hlin.2 y;rw[e1]at e3;injection e3 with g1 g2
   injection g2 with g2
   subst g1;subst g2;rw[e2];exact afE (k1 c σ) (k1 m σ) hp hin.1 hx.1
  ·obtain⟨v,hvv⟩:=Int.eq_ofNat_of_zero_le v0;have hL:=QX oa;obtain⟨r,hg,hgp⟩:=adf (v:=v) (p:=p) ω (A:=a.terms) (E:=JG a.terms) (by simp[JG]) h5 (fun i t es h1 h2=>agw (hvv▸cl) i t es h1 h2);have hcc:∃L b,U9 a=.tup [BW L,B b]/\(b=true->¬a.vars=1):=by
    grind[U9,absurd]
   obtain⟨L,bl,e1,e2⟩:=hcc;rw[e1]at hL;have hVI:∀b∈dom,VI b:=fun b hb=>(hk b hb).2;rcases hgp with rfl| ⟨dn,cs,rfl,d1,d2,d3,d4,he⟩
   ·refine⟨dy,?_,fun _ _ _=>Or.inl rfl,fun _=>rfl⟩;refine aB jM rfl ?_;rw[←hvv]at hg;simp only[aZ,am,aq,dy,aI,BW]at hf hw hL;cases bl with
    |true=>
     have e3:(a.vars=1)=False:=eq_false (e2 rfl);simp only[go,jJ,aZ,am,aq,dy,aI,go_sem,hf,hw,hL,e3,hg]
    |false=>
     simp only[go,jJ,aZ,am,aq,dy,aI,go_sem,hf,hw,hL,hg]
   ·have hdl:dom.length=v:=ω
    have hbg:=aij (p:=p) (c6:=[B false,.emp,I 0,B false,.emp,I 0,B false]) ω d1 hdl d2 d4 hVI rfl v 0 (avs _) cs _ he;rw[←hvv]at hg;have hval:∀xs:List Rat,xs.length=dn.length->iJ (pA dn xs) 1 0 (gT dn a.terms (JG a.terms) fun _=>0)=fv xs a.terms:=fun xs hx=>by
     rw[adh hx a.terms (JG a.terms) (fun _=>0) (by simp[JG]) d3 (afD cl) (fun _ _=>rfl) fun i t es h1 h2=>(agw (hvv▸cl) i t es h1 h2).1.1,afC (Kn dn xs),Rat.zero_add]
    have hfin:∀ (b:Ri) (g':G),(∀xs ts:List Rat,wU dom xs ts->iJ (qX (dn.take 0) (ts.take 0)++pA (dn.drop 0) (xs.drop 0)) 1 0 (gT dn a.terms (JG a.terms) fun _=>0)=iJ (qX dn ts) 1 0 g')->(∀j,j<bG dn 1->In (g' j) b)->BrG a dom p b:=fun b g' h1 h2=>by
     refine⟨fun xs ts hpt=>?_,fun h=>nf h _⟩;obtain⟨l1,l2⟩:=hpt.len;have h3:=h1 xs ts hpt;have h4:iJ (pA dn xs) 1 0 (gT dn a.terms (JG a.terms) fun _=>0)=iJ (qX dn ts) 1 0 g':=h3;rw[hval xs ω]at h4;rw[h4];rcases(h2 0 (nC dn 1 δ)).k with⟨hW,_⟩| ⟨hkb,_⟩
     ·exact Or.inl hW
     ·have h5:∀j,j<bG dn 1->qv b.lo<=g' j/\g' j<=qv b.hi:=fun j hj=>by
       rcases(h2 j hj).k with⟨rfl,hn⟩| ⟨_,h6⟩
       all_goals grind
      have h6:=akQ ω hpt.t01 h5;refine Or.inr ⟨?_,(h2 0 (nC dn 1 δ)).vi,h6.1,h6.2⟩;grind[kI]
    have hh0:ao []=fun _=>.dead:=by funext i;simp[ao]
    refine Kq (r:=fun b=>(am b,[])) jM.2.1 jM.2.2 (jM.1.2.2.2 false) rfl (avW rfl) ?_;simp only[aZ,am,aq,BW]at hf hL;have e3:bl=true->(a.vars=1)=False:=fun h=>eq_false (e2 h);have e4:(0:Int)< (bG dn 1:Nat):=by grind[nC]
    cases bl
    all_goals
     simp only[go,jJ,aZ,am,aq,hh0,go_sem,hf,hL,e3,hg,aaC];generalize hX:ah 0 _ _=X;obtain⟨hh,cs',g',rfl,q6,q2368,qd,he',hv'⟩:=hbg _ _ _ hX rfl rfl rfl (by rw[Gq,d1];rfl) rfl rfl rfl;obtain⟨x,x1,x2⟩:=he'.get (k:=0) (nC dn 1 δ);have hhl:=aik (ds:=dI dn) (p:=p) d4 he' (c6:=[B false,.emp,I 0,B false,.emp,I 0,B false]) rfl (bG dn 1) 0 (avs _) x x2.ok (fun j hj=>absurd hj (Nat.not_lt_zero j)) ⟨_,x2⟩;have q1:(bc cs')[0]?=some (aq x):=by unfold bc;rw[List.getElem?_map,x1];rfl
     have i2:(0< (cs'.length:Int))=True:=eq_true (by rw[he'.1];exact e4);have d12:=qd 12 δ δ;have hgo:=(cB (dI dn) cs' p).cl [6,12,2368];simp only[bI]at q2368 hgo;simp only[aq]at q1;simp only[go_sem,q6,q2368,d12,i2,Int.le_refl,Int.toNat_zero,yq,Df,q1];generalize hX:ah 2 _ _=X;obtain⟨hh2,out,rfl,r6,r12,oo,hin⟩:=hhl _ _ _ hX rfl rfl (by rw[he'.1];rfl) (by rw[he'.1];rfl) rfl q6 rfl q2368;refine⟨out,?_,hfin out g' hv' hin⟩;simp only[fP]at r12;simp only[go_sem,r6,r12]
def Oj(s:Rd):Rd×Int:=cX (eK (zI s) (-16384- (1:Nat)))
theorem P3{s:Rd}(ok:Ok0 s)(v:vd s=true):bF s.neg (ab s.m) (s.e+-1)=eK (zI s) (-16384- (1:Nat)):=by
 obtain⟨_,h1,h2,_⟩:=eY v ok.lb;have:zI s=cp s.neg (mg s):=rfl;rw[this,←A6];unfold mg;rw[kK];grind
def aaE(x:Ri)(d:Rd):Bool:=vi x&&vd d&& (x.all||decide (zI x.lo<=zI d)&&decide (zI d<=zI x.hi))
theorem akR{x:Ri}{d:Rd}(ox:OkI x)(od:Ok0 d):R F.interval_Has [am x,af d] []=some (B (aaE x d),[]):=by
 refine aB O2 rfl ?_;have v1:=pi ox;have v2:=eE od;have c1:=qH ox.lo od;have c2:=qH od ox.hi;unfold aaE;cases h1:vi x with
 |false=>
  rw[h1]at v1;simp only[am,aq,af,aj]at v1 v2;simp only[jy,mE,am,aq,af,aj,go_sem,v1,v2]
 |true=>
  rw[h1]at v1;cases h2:vd d with
  |false=>
   rw[h2]at v2;simp only[am,aq,af,aj]at v1 v2;simp only[jy,mE,am,aq,af,aj,go_sem,v1,v2]
  |true=>
   rw[h2]at v2;cases h3:x.all with
   |true=>
    simp only[am,aq,af,aj,h3]at v1 v2;simp only[jy,mE,am,aq,af,aj,go_sem,v1,v2,h3]
   |false=>
    have hl:vd x.lo=true/\vd x.hi=true:=by
     grind[vi]
    rw[if_pos ⟨hl.1,h2⟩]at c1;rw[if_pos ⟨h2,hl.2⟩]at c2;have e1:=@Ge (zI x.lo) (zI d);have e2:=@Ge (zI d) (zI x.hi);simp only[am,aq,af,aj,h3]at v1 v2 c1 c2;by_cases h4:zI x.lo<=zI d
    ·simp only[jy,mE,am,aq,af,aj,go_sem,v1,v2,h3,c1,c2,e1,e2,h4]
    ·simp only[jy,mE,am,aq,af,aj,go_sem,v1,v2,h3,c1,e1,h4]
def Ks(a:Rp)(dom:List Ri)(p:Int)(b:Ri):Ri:=if(nP a dom&&bQ p)=true then(if(tV (pj a dom p) b).2=true then(tV (pj a dom p) b).1 else dy)else dy
theorem Mt{a:Rp}{dom:List Ri}(oa:OkP a)(od:∀x∈dom,OkI x)(h2:dom.length<=100000){p:Int}{b:Ri}(ob:OkI b)(hb:(nP a dom&&bQ p)=true->R F.bound_Bernstein [aZ a,.sl 7 (bc dom),I p] []=some (am b,[])):
  R F.bound_Best [aZ a,.sl 7 (bc dom),I p] []=some (am (Ks a dom p b),[]):=by
 refine aB Ug rfl ?_;have hf:=J7 oa od h2 (p:=p);have hw:=Hm;have hn:=aeP oa od h2 (p:=p);have on:=acq (a:=a) (dom:=dom) (p:=p);have hm:=afo (x:=pj a dom p) (y:=b) ⟨on.1.2,on.2.2⟩ ob;unfold Ks;generalize pj a dom p=n at hn hm⊢;generalize tV n b=q at hm⊢;obtain⟨m1,m2⟩:=q;cases hq:(nP a dom&&bQ p)with
 |false=>
  rw[hq]at hf;simp only[aZ,am,aq,dy,aI]at hf hw;simp only[sv,yU,aZ,am,aq,dy,aI,go_sem,hf,hw]
 |true=>
  rw[hq]at hf
  replace hb:=hb hq
  simp only[aZ,am,aq,dy,aI]at hf hw hn hb hm;cases m2 with
  |true=>
   simp only[sv,yU,aZ,am,aq,go_sem,hf,hw,hn,hb,hm]
  |false=>
   simp only[sv,yU,aZ,am,aq,dy,aI,go_sem,hf,hw,hn,hb,hm]
def wF(x y:Ri):Bool:=if vi x=true/\vi y=true/\x.all=false then(y.all||decide (zI y.lo<=zI x.lo)&&decide (zI x.hi<=zI y.hi))else(vi x&& (vi y&&y.all))
theorem Rk{x y:Ri}(ox:OkI x)(oy:OkI y):R F.interval_Inside [am x,am y] []=some (B (wF x y),[]):=by
 refine aB KF rfl ?_;have v1:=pi ox;have v2:=pi oy;unfold wF;simp only[am,aq]at v1 v2;cases h1:vi x with
 |false=>
  rw[h1]at v1;simp only[ef,fI,am,aq,go_sem,v1,avC]
 |true=>
  rw[h1]at v1;cases h2:vi y with
  |false=>
   rw[h2]at v2;simp only[ef,fI,am,aq,go_sem,v1,v2,avC,avz]
  |true=>
   rw[h2]at v2;cases h3:x.all with
   |true=>
    rw[h3]at v1;rw[if_neg σ];cases h4:y.all with
    |true=>
     rw[h4]at v2;simp only[ef,fI,am,aq,go_sem,v1,v2,h3,h4,avz]
    |false=>
     rw[h4]at v2;simp only[ef,fI,am,aq,go_sem,v1,v2,h3,h4,avz]
   |false=>
    rw[h3]at v1;have hx:vd x.lo=true/\vd x.hi=true:=by
     grind[vi]
    cases h4:y.all with
    |true=>
     rw[h4]at v2;simp only[ef,fI,am,aq,go_sem,v1,v2,h3,h4,Bool.true_or]
    |false=>
     rw[h4]at v2;have hy:vd y.lo=true/\vd y.hi=true:=by
      grind[vi]
     have c1:=qH oy.lo ox.lo;have c2:=qH ox.hi oy.hi;rw[if_pos ⟨hy.1,hx.1⟩]at c1;rw[if_pos ⟨hx.2,hy.2⟩]at c2;have e1:=@Ge (zI y.lo) (zI x.lo);have e2:=@Ge (zI x.hi) (zI y.hi);generalize eJ (zI y.lo) (zI x.lo)=q1 at c1 e1;generalize eJ (zI x.hi) (zI y.hi)=q2 at c2 e2;simp only[af,aj]at c1 c2;by_cases h5:zI y.lo<=zI x.lo
     ·simp only[ef,fI,am,aq,go_sem,v1,v2,h3,h4,c1,c2,e1,e2,h5,Bool.false_or]
     ·simp only[ef,fI,am,aq,go_sem,v1,v2,h3,h4,c1,e1,h5,Bool.false_or]
structure Rs where
 dom:List Ri
 ord:Int
 p:Int
structure Rm where
 P:Rp
 R:Ri
abbrev uW(s:Rs):List AV:=[.sl 7 (bc s.dom),I s.ord,I s.p]
abbrev lz(s:Rs):AV:=.agg (uW s)
abbrev H5(m:Rm):List AV:=[I m.P.vars,.sl 4 (aH m.P.terms),B m.R.lo.neg,lm m.R.lo.m,I m.R.lo.e,B m.R.hi.neg,lm m.R.hi.m,I m.R.hi.e,B m.R.all]
abbrev iY(m:Rm):AV:=.agg (H5 m)
def Cw:Rd:=⟨true,[1],0⟩
def rT:Ri:=⟨Cw,one,false⟩
def cr:Ri:=⟨aI,aI,false⟩
theorem ail:R F.dyadic_Int [I (-1)] []=some (af Cw,[]):=by
 grind[NS,I64,bF,Cw,nj,zG,au,sU,gX]
theorem P4:vd Cw=true/\Ok0 Cw:=⟨by decide,⟨fun x hx=>by rw[List.mem_singleton.1 hx];decide,by decide⟩⟩
theorem P5:OkI rT/\VI rT:=⟨⟨P4.2,eG.2⟩,⟨P4,eG⟩⟩
theorem Rl:R F.model_whole [I 0] []=some (am cr,[]):=by
 refine aB R4 rfl ?_;have h1:R F.dyadic_Int [I 0] []=some (af aI,[]):=by grind[NS,I64,mA]
 have h2:=kB bh.2 bh.1;simp only[am,aq,af,aj,aI]at h1 h2;simp only[An,HG,am,aq,cr,aI,go_sem,h1,h2]
theorem akS{x y:Ri}(ox:OkI x)(oy:OkI y):R F.model_ValidSpace_1 [am x,.ref 1000 none 0 0 0] [.bx (aq y)]=some (B (!wF x y),[.bx (aq y)]):=by
 refine B0 G7 G6 (vW false) rfl ?_;have h:=Rk ox oy;generalize wF x y=b at h⊢;simp only[am,aq]at h;simp only[agc,yQ,aq,am,go_sem,h];exact nJ rfl rfl rfl rfl rfl
theorem akT:Src F.slices_ContainsFunc_api_Interval_api_Interval_ F.slices_IndexFunc_api_Interval_api_Interval_ 7 true [.o 0 [],.o 2 [],.o 0 [],.o 0 [],.o 2 [],.o 0 [],.o 0 []]:=
 ⟨aK.2.1,aK.2.2,aK.1.2.2.2 false,aK.1.2.1 false,aK.1.2.2.2 false,aK.1.1 false,
  aQ.2.1,aQ.2.2,aQ.1.2.2.2 false⟩
theorem akU{l:List Ri}{y:Ri}(ol:∀x∈l,OkI x)(oy:OkI y)(hl:l.length<4611686018427387904):R F.slices_ContainsFunc_api_Interval_api_Interval_ [.sl 7 (bc l),.fn F.model_ValidSpace_1 [] [.ref 1000 none 0 0 0]] [.bx (aq y)]=some (B (l.any fun x=>!wF x y),[.bx (aq y)]):=
 PM akT (afc y) (zJ false) (vW false) hl (Db l) fun x hx=>⟨am x,am x,rfl,rfl,rfl,by simp only[am,aq,go_sem],akS (ol x hx) oy⟩
def kV(s:Rs):Bool:=decide (1<=s.dom.length)&& (decide (s.dom.length<=8)&& (decide (1<=s.ord)&& (decide (s.ord<=16)&& (bQ s.p&&!(s.dom.any fun x=>!wF x rT)))))
theorem iM{s:Rs}(od:∀x∈s.dom,OkI x)(hl:s.dom.length<4611686018427387904):R F.model_ValidSpace [lz s] []=some (B (kV s),[]):=by
 refine aB I0 rfl ?_;have h1:=ail;have h2:=Jg;simp only[af,aj,Cw,one]at h1 h2;have hp:bQ s.p=(decide (8<=s.p)&&decide (s.p<=512)):=rfl;unfold kV;rw[hp];by_cases g1:(s.dom.length:Int)<1
 ·have f1:((s.dom.length:Int)<1)=True:=eq_true g1;rw[decide_eq_false (p:=1<=s.dom.length) ω,avC];simp only[dL,fj,go_sem,h1,h2,f1]
 have f1:((s.dom.length:Int)<1)=False:=eq_false g1;rw[decide_eq_true (p:=1<=s.dom.length) ω,avz];by_cases g2:8< (s.dom.length:Int)
 ·have f2:(8< (s.dom.length:Int))=True:=eq_true g2;rw[decide_eq_false (p:=s.dom.length<=8) ω,avC];simp only[dL,fj,go_sem,h1,h2,f1,f2]
 have f2:(8< (s.dom.length:Int))=False:=eq_false g2;rw[decide_eq_true (p:=s.dom.length<=8) ω,avz];by_cases g3:s.ord<1
 ·have f3:(s.ord<1)=True:=eq_true g3;rw[decide_eq_false (p:=1<=s.ord) ω,avC];simp only[dL,fj,go_sem,h1,h2,f1,f2,f3]
 have f3:(s.ord<1)=False:=eq_false g3;rw[decide_eq_true (p:=1<=s.ord) ω,avz];by_cases g4:16<s.ord
 ·have f4:(16<s.ord)=True:=eq_true g4;rw[decide_eq_false (p:=s.ord<=16) ω,avC];simp only[dL,fj,go_sem,h1,h2,f1,f2,f3,f4]
 have f4:(16<s.ord)=False:=eq_false g4;rw[decide_eq_true (p:=s.ord<=16) ω,avz];by_cases g5:s.p<8
 ·have f5:(s.p<8)=True:=eq_true g5;rw[decide_eq_false (p:=8<=s.p) ω,avC,avC];simp only[dL,fj,go_sem,h1,h2,f1,f2,f3,f4,f5]
 have f5:(s.p<8)=False:=eq_false g5;rw[decide_eq_true (p:=8<=s.p) ω,avz];by_cases g6:512<s.p
 ·have f6:(512<s.p)=True:=eq_true g6;rw[decide_eq_false (p:=s.p<=512) ω,avC];simp only[dL,fj,go_sem,h1,h2,f1,f2,f3,f4,f5,f6]
 have f6:(512<s.p)=False:=eq_false g6;rw[decide_eq_true (p:=s.p<=512) ω,avz];have hc:=akU od P5.1 hl;generalize(s.dom.any fun x=>!wF x rT)=b at hc⊢;have hcc:=fun(h:ac) (d:Nat) (hh:h 3=.bx (aq rT)) (hf:h (2000+8*d)=.dead)=>Bb (f:=F.slices_ContainsFunc_api_Interval_api_Interval_) (g:=F.model_ValidSpace_1) (h:=h) (d:=d) (id:=3) (zas:=[.sl 7 (bc s.dom)]) (as':=[.sl 7 (bc s.dom)]) (aQ.1.2.1 false) (aQ.1.2.2.2 false)
  (by rw[aQ.1.1];simp only[go_sem,avS,avB]) rfl rfl hh (afc _) (afc _) (fun h=>h) hc (aaq _) (avW rfl) (by grind[bY,cu,bL])
 simp only[aq,rT,Cw,one,avS,avB,go_sem]at hcc;simp only[dL,fj,go_sem,h1,h2,f1,f2,f3,f4,f5,f6];rw[hcc _ _ rfl rfl];simp only[go_sem]
def Gr(d:Rd)(p:Int):Bool:=bQ p&& (vd d&&decide ((ae (ab d.m):Int)<=p))
theorem anc{d:Rd}{p:Int}(od:Ok0 d):R F.round_Is [af d,I p] []=some (B (Gr d p),[]):=by
 refine aB ZU rfl ?_;have h1:=AR (p:=p) (l:=[d]) (fun x hx=>by rw[List.mem_singleton.1 hx];exact od) σ;have h2:=Mb od;have hp:bQ p=(decide (8<=p)&&decide (p<=512)):=rfl;have hf:(aY p [d]=0)=(Gr d p=true\/(bQ p=true/\vd d=true)):=by
  unfold aY Gr;rw[hp];simp only[avQ,List.all_nil,Bool.and_true,avv,decide_eq_true_eq,eq_iff_iff];split<;> (try split)<;>grind
 unfold Gr at hf⊢;simp only[BW,D8,avY,av4,af,aj]at h1 h2;cases hv:vd d with
 |false=>
  rw[hv]at hf h2;have f1:(aY p [d]=0)=False:=by rw[hf];simp
  generalize aY p [d]=q at h1 f1;simp only[wK,CT,af,aj,go_sem,h1,f1,avC,Bool.and_false]
 |true=>
  rw[hv]at hf h2;rw[if_pos rfl]at h2;cases hq:bQ p with
  |false=>
   rw[hq]at hf;have f1:(aY p [d]=0)=False:=by rw[hf];simp
   generalize aY p [d]=q at h1 f1;simp only[wK,CT,af,aj,go_sem,h1,f1,avC]
  |true=>
   rw[hq]at hf;have f1:(aY p [d]=0)=True:=by rw[hf];simp
   generalize aY p [d]=q at h1 f1;generalize(ae (ab d.m):Int)=n at h2⊢;simp only[wK,CT,af,aj,go_sem,h1,h2,f1,avz]
theorem pS(s:Rs):OC (.bx (uW s)):=⟨fun _=>rfl,rfl,fun _=>rfl,rfl⟩
theorem ane{t:Rt}{s:Rs}(ot:Ok0 t.c):R F.model_Valid_1 [.agg (cx t),.ref 1000 none 0 0 0] [.bx (uW s)]=some (B (!Gr t.c s.p),[.bx (uW s)]):=by
 refine B0 Ny Nx (BS false) rfl ?_;have h:=anc (p:=s.p) ot;generalize Gr t.c s.p=b at h⊢;simp only[af,aj]at h;simp only[xz,EJ,cx,go_sem,h];exact nJ rfl rfl rfl rfl rfl
theorem agx:Src F.slices_ContainsFunc_api_Term_api_Term_ F.slices_IndexFunc_api_Term_api_Term_ 4 true [.o 2 [],.o 0 [],.o 2 [],.o 0 []]:=
 ⟨cA.2.1,cA.2.2,cA.1.2.2.2 false,cA.1.2.1 false,cA.1.2.2.2 false,cA.1.1 false,
  ce.2.1,ce.2.2,ce.1.2.2.2 false⟩
theorem rU(l:List Rt):(aH l).map (dU [.o 2 [],.o 0 [],.o 2 [],.o 0 []])=aH l:=by
 refine qV fun x hx=>?_;simp only[aH,awc]at hx;obtain⟨t,ht,rfl⟩:=hx;simp only[cx,go_sem]
structure OkS (s:Rs):Prop where
 d:∀x∈s.dom,OkI x
 n:s.dom.length<4611686018427387904
structure OkM (m:Rm):Prop where
 c:∀t∈m.P.terms,Ok0 t.c
 r:OkI m.R
 n:m.P.terms.length<4611686018427387904
def Gs(s:Rs)(m:Rm):Bool:=kV s&& (vp m.P&& (decide (m.P.vars=s.dom.length)&& (decide (iI m.P<=s.ord)&& (vi m.R&&!(m.P.terms.any fun t=>!Gr t.c s.p)))))
theorem adj{a:Rp}(oc:∀t∈a.terms,Ok0 t.c)(h:vp a=true):OkP a:=⟨fun t ht=>⟨oc t ht,by
 unfold vp at h;simp only[avv,decide_eq_true_eq]at h;have:=(Ee (J9 _ _ h.2.2.2 t ht)).1;omega⟩⟩
theorem adk{s:Rs}{m:Rm}(os:OkS s)(om:OkM m):R F.model_Valid [lz s,iY m] []=some (B (Gs s m),[]):=by
 refine aB R6 rfl ?_;have h1:=iM os.d os.n;have h2:=NW om.c;have h4:=pi om.r;unfold Gs;simp only[aZ,am,aq]at h2 h4;cases g1:kV s with
 |false=>
  rw[g1]at h1;simp only[iT,lG,go_sem,h1,avC]
 |true=>
 rw[g1]at h1;cases g2:vp m.P with
 |false=>
  rw[g2]at h2;simp only[iT,lG,go_sem,h1,h2,avC,Bool.and_false]
 |true=>
 rw[g2]at h2;by_cases g3:m.P.vars=(s.dom.length:Int)
 case neg=>
  have f3:(m.P.vars=(s.dom.length:Int))=False:=eq_false g3;simp only[iT,lG,go_sem,h1,h2,f3,avC,Bool.and_false]
 have f3:(m.P.vars=(s.dom.length:Int))=True:=eq_true g3;have h3:=EZ (adj om.c g2);simp only[aZ]at h3;by_cases g4:s.ord<iI m.P
 case pos=>
  have f4:(s.ord<iI m.P)=True:=eq_true g4;have f4':(iI m.P<=s.ord)=False:=ff;simp only[iT,lG,go_sem,h1,h2,h3,f3,f4,f4',avC,Bool.and_false]
 have f4:(s.ord<iI m.P)=False:=eq_false g4;have f4':(iI m.P<=s.ord)=True:=tt;cases g5:vi m.R with
 |false=>
  rw[g5]at h4;simp only[iT,lG,go_sem,h1,h2,h3,h4,f3,f4,f4',avC,Bool.and_false]
 |true=>
 rw[g5]at h4;have hc:=PM agx (Frow:=cx) (l:=m.P.terms) (q:=fun t=>!Gr t.c s.p) (pS s) (EU false) (BS false) om.n (rU _) fun t ht=>⟨.agg (cx t),.agg (cx t),rfl,rfl,rfl,by rw[LP];simp only[cx,go_sem],ane (om.c t ht)⟩;generalize(m.P.terms.any fun t=>!Gr t.c s.p)=b at hc⊢;have hcc:=fun(h:ac) (d:Nat) (hh:h 2=.bx (uW s)) (hf:h (2000+8*d)=.dead)=>Bb (f:=F.slices_ContainsFunc_api_Term_api_Term_) (g:=F.model_Valid_1) (h:=h) (d:=d) (id:=2) (zas:=[.sl 4 (aH m.P.terms)]) (as':=[.sl 4 (aH m.P.terms)]) (ce.1.2.1 false) (ce.1.2.2.2 false)
  (by rw[ce.1.1];simp only[go_sem,rU,avS,avB]) rfl rfl hh (pS _) (pS _) (fun h=>h) hc (aaq _) (avW rfl) (by simp[bY,cu,hf,bL])
 simp only[avS,avB,go_sem]at hcc;simp only[iT,lG,go_sem,h1,h2,h3,h4,f3,f4,f4'];rw[hcc _ _ rfl rfl];simp only[go_sem]
theorem VI.ok'{x:Ri}(h:VI x):OkI x:=⟨h.1.2,h.2.2⟩
theorem Kt:∀dom:List Ri,wU dom (dom.map fun b=>qv b.lo) (avr dom.length 0)
 |[]=>trivial
 |b::dom=>⟨by grind,by decide,by decide,Kt dom⟩
def mq(a b:Rd):Rd×Int:=if(vd a&&vd b)=true then cX (eK (zI a-zI b) (-16384))else(aI,1)
theorem Bh(a b:Rd):vd (mq a b).1=true/\Ok0 (mq a b).1:=by
 unfold mq;split
 ·exact A8
 ·exact⟨rfl,⟨fun x hx=>(nomatch hx),by decide⟩⟩
theorem afG{a b:Rd}(vb:vd b=true):mq a b=ns a (hF b):=by
 grind[AZ,mq,ns,Int.sub_eq_add_neg]
theorem adl{neg:Bool}{M k:Nat}:zI (bF neg M (-16384+(k:Int)))=cp neg (M*2^k):=by
 by_cases h0:M=0
 ·subst h0;rw[mA,du rfl,Nat.zero_mul];cases neg<;>rfl
 ·rw[nj h0];obtain⟨t1,t2⟩:=AG h0;unfold zI mg cp;rw[br];have hk:(-16384+(k:Int)+((tz M:Nat):Int)+16384).toNat=tz M+k:=ω
  have hm:M/2^tz M*2^ (-16384+(k:Int)+((tz M:Nat):Int)+16384).toNat=M*2^k:=by
   grind
  grind
theorem VP{neg:Bool}{p:Int}{q:Nat}{e:Int}(h:(AS neg true p q e).2=0):AS neg true p q e=(bF neg q e,0)/\¬ (q≠0/\16384< ((ae q:Nat):Int)+e):=by
 unfold AS at h⊢;grind
theorem Ys{neg:Bool}{p:Int}{q q':Nat}{e:Int}(hq:q<=q')(h:¬ (q'≠0/\16384< ((ae q':Nat):Int)+e)):AS neg false p q e=(bF neg q e,0):=by
 unfold AS;rw[if_neg];have h1:=yb hq (avt _);omega
structure NearF (d lo hi:Rd) (q q' r k:Nat):Prop where
 hz:mg d=q*2^k+r
 hr:r<2^k
 hq:q'=if r=0 then q else q+1
 hlo:lo=bF d.neg (if d.neg=true then q' else q) (-16384+(k:Int))
 hhi:hi=bF d.neg (if d.neg=true then q else q') (-16384+(k:Int))
 hw:r≠0->∃t v:Nat,mg d=v*2^t/\t<=k/\k-t<=ae v-8/\8<=ae v/\ae v<=4096/\ae v+t<=32768
theorem agy(d:Rd):zI d=cp d.neg (mg d):=rfl
theorem adm{d:Rd}(ok:Ok0 d)(v:vd d=true){p:Int}(hp:8<=p/\p<=512)(h0:(cz d p false).2=0)(h1:(cz d p true).2=0):∃q q' r k,NearF d (cz d p false).1 (cz d p true).1 q q' r k:=by
 have hf:aY p [d]=0:=by
  simp_all[aY,avQ,List.all_nil,Bool.and_true,if_true,if_pos]
 have hR:∀up,cz d p up=Ea d.neg (mg d) (-16384) false p up:=fun up=>by
  simp_all[cz,if_pos,agy,NT]
 rw[hR]at h0 h1;rw[hR,hR];unfold Ea Pt at h0 h1⊢;obtain⟨k,hk⟩:∃k,Je (mg d) (-16384) p=k:=⟨_,rfl⟩;rw[hk]at h0 h1⊢;obtain⟨q',hq'⟩:∃q',q'=if mg d%2^k=0 then mg d/2^k else mg d/2^k+1:=⟨_,rfl⟩
 have hle:mg d/2^k<=q':=by
  grind
 have e1:(if((false||decide (mg d%2^k≠0))&&true)=true then mg d/2^k+1 else mg d/2^k)=q':=by
  grind
 have e2:(if((false||decide (mg d%2^k≠0))&&false)=true then mg d/2^k+1 else mg d/2^k)=mg d/2^k:=by
  grind
 have hw:mg d%2^k≠0->∃t v:Nat,mg d=v*2^t/\t<=k/\k-t<=ae v-8/\8<=ae v/\ae v<=4096/\ae v+t<=32768:=by
  intro hr;have hm:d.m.length≠0:=fun h=>hr (by
   have:mg d=0:=by
    unfold mg;rw[List.length_eq_zero_iff.1 h];exact Nat.zero_mul _
   simp_all)
  obtain⟨g1,g2,g3,g4⟩:=BU v hm;obtain⟨b1,b2,b3,b4⟩:=AN g4 (Nat.pos_iff_ne_zero.1 (gZ (dJ v hm)));have hb:=dW (d.e+16384).toNat (dJ v hm);have hmg:mg d=ab d.m*2^ (d.e+16384).toNat:=rfl;rw[←hmg]at hb;unfold Je at hk;have ht:(d.e+16384).toNat<=k:=Nat.le_of_not_lt fun hlt=>hr (by
   rw[hmg,show(d.e+16384).toNat=k+((d.e+16384).toNat-k)by omega,avG,←avT,Nat.mul_right_comm]
   simp_all)
  have hk1:k≠0:=fun h=>hr (by rw[h,Nat.pow_zero,Nat.mod_one]);refine⟨(d.e+16384).toNat,ab d.m,rfl,ht,?_,?_,b1,?_⟩<;>omega
 refine⟨mg d/2^k,q',mg d%2^k,k,?_,av3 _ (avJ _),hq',?_,?_,hw⟩
 ·grind[awi]
 all_goals
  cases hn:d.neg with
  |false=>
   rw[hn]at h0 h1;simp only[bne_self_eq_false,Bool.false_bne,e1,e2]at h0 h1⊢;obtain⟨k1,k2⟩:=VP h1
   first
   | (rw[Ys hle k2];rfl)
   | (rw[k1];rfl)
  |true=>
   rw[hn]at h0 h1;simp only[bne_self_eq_false,Bool.bne_false,e1,e2]at h0 h1⊢;obtain⟨k1,k2⟩:=VP h0
   first
   | (rw[Ys hle k2];rfl)
   | (rw[k1];rfl)
theorem VQ{v t k x:Nat}{n:Bool}(h1:k-t<=ae v-8)(h2:8<=ae v)(h3:ae v<=4096)(h4:ae v+t<=32768)(hx:x<=2^ (k-t)):(cX (eK (cp n (x*2^t)) (-16384))).2=0:=by
 have hb:ae x<=k-t+1:=bV.2 (awl hx (Nat.pow_lt_pow_right δ ω));rw[←A6,kK,Hj ω ω ω]
def aaF(lo hi:Rd):Rd:=if hi.m.length=0\/(lo.m.length≠0/\lo.e<hi.e)then hi else lo
def Ol(z:Int)(lo hi:Rd):Rd:=if z-zI lo<zI hi-z then lo else if zI hi-z<z-zI lo then hi else aaF lo hi
def pT(d:Rd)(p:Int):Rd×Int:=if(cz d p false).2=0 then(if(cz d p true).2=0 then(Ol (zI d) (cz d p false).1 (cz d p true).1,0)else(aI,(cz d p true).2))else(aI,(cz d p false).2)
structure NearOk (d lo hi:Rd):Prop where
 below:(mq d lo).2=0
 above:(mq hi d).2=0
 tie:zI lo≠zI hi->zI d-zI lo=zI hi-zI d->lo.m.length≠0->hi.m.length≠0->lo.e≠hi.e
 le:zI lo<=zI d/\zI d<=zI hi
theorem Rn{neg:Bool}{M:Nat}{e:Int}(h:(bF neg M e).m.length≠0):M≠0/\(bF neg M e).e=e+tz M:=by
 by_cases h0:M=0
 ·subst h0;exact absurd rfl h
 grind[nj]
theorem Yt{q:Nat}(h:q≠0):tz q≠tz (q+1):=by
 have hs:∀ {n:Nat},n≠0->tz n=0->n%2=1:=fun{n} h0 h1=>by
  have:=(AG h0).2;grind
 grind[zG]
theorem aim{d:Rd}(ok:Ok0 d)(v:vd d=true){p:Int}(hp:8<=p/\p<=512)(h0:(cz d p false).2=0)(h1:(cz d p true).2=0):NearOk d (cz d p false).1 (cz d p true).1:=by
 obtain⟨q,q',r,k,Fm⟩:=adm ok v hp h0 h1;have vlo:vd (cz d p false).1=true:=by
  unfold cz;split
  ·exact sN.1
  ·rfl
 have vhi:vd (cz d p true).1=true:=by
  unfold cz;split
  ·exact sN.1
  ·rfl
 generalize(cz d p false).1=lo at*
 generalize(cz d p true).1=hi at*
 have zlo:zI lo=cp d.neg ((if d.neg=true then q' else q)*2^k):=by rw[Fm.hlo,adl]
 have zhi:zI hi=cp d.neg ((if d.neg=true then q else q')*2^k):=by rw[Fm.hhi,adl]
 have zd:=agy d;have hz:=Fm.hz;have hr:=Fm.hr;have hq:=Fm.hq;have hs1:mq d lo=cX (eK (zI d-zI lo) (-16384)):=by
  simp_all[mq,awa,if_pos]
 have hs2:mq hi d=cX (eK (zI hi-zI d) (-16384)):=by
  simp_all[mq,awa,if_pos]
 by_cases r0:r=0
 ·rw[if_pos r0]at hq;rw[hq,ite_self,←hq]at zlo zhi;have e0:zI d=zI lo:=γ
  have e1:zI d=zI hi:=ω
  have h00:(cX (eK 0 (-16384))).2=0:=by rw[show eK 0 (-16384)=aI from mA];rfl
  refine⟨?_,?_,fun h=>absurd (e0.symm.trans e1) h,by omega⟩
  all_goals grind
 ·rw[if_neg r0]at hq;obtain⟨t,w,w1,w2,w3,w4,w5,w6⟩:=Fm.hw r0;have hp2:(2:Nat)^k=2^ (k-t)*2^t:=by rw[←avG,show k-t+t=k by omega]
  have hrr:r=(w-q*2^ (k-t))*2^t:=by
   grind[Nat.sub_mul,avT]
  obtain⟨x,hx⟩:∃x,w-q*2^ (k-t)=x:=⟨_,rfl⟩;rw[hx]at hrr;have hxl:x<2^ (k-t):=by
   rw[hrr,hp2]at hr;exact Nat.lt_of_mul_lt_mul_right hr
  have f1:∀n,(cX (eK (cp n r) (-16384))).2=0:=fun n=>by
   grind[VQ,Nat.le_of_lt]
  have f2:∀n,(cX (eK (cp n (2^k-r)) (-16384))).2=0:=fun n=>by
   rw[hrr,hp2,←Nat.sub_mul];grind[VQ,Nat.sub_le]
  have hq2:q'*2^k=q*2^k+2^k:=γ
  have htie:lo.m.length≠0->hi.m.length≠0->lo.e≠hi.e:=by
   intro m1 m2;rw[Fm.hlo]at m1⊢;rw[Fm.hhi]at m2⊢;obtain⟨a1,a2⟩:=Rn m1;obtain⟨b1,b2⟩:=Rn m2;rw[a2,b2];cases hn:d.neg with
   |false=>
    grind[Yt]
   |true=>
    grind[Yt]
  generalize 2^k=K at*
  refine⟨?_,?_,fun _ _=>htie,?_⟩
  ·rw[hs1];cases hn:d.neg with
   |false=>
    rw[hn]at zd zlo;have:zI d-zI lo=cp false r:=by grind[rP]
    grind
   |true=>
    rw[hn]at zd zlo;simp only[if_true,tQ]at zd zlo;have:zI d-zI lo=cp false (K-r):=by grind[rP]
    grind
  ·rw[hs2];cases hn:d.neg with
   |false=>
    rw[hn]at zd zhi;have:zI hi-zI d=cp false (K-r):=by grind[rP]
    grind
   |true=>
    rw[hn]at zd zhi;simp only[if_true,tQ]at zd zhi;have:zI hi-zI d=cp false r:=by grind[rP]
    grind
  ·cases hn:d.neg with
   |false=>
    rw[hn]at zd zlo zhi;simp only[awo,if_false,rP]at zd zlo zhi;omega
   |true=>
    rw[hn]at zd zlo zhi;simp only[if_true,tQ]at zd zlo zhi;omega
theorem P6{a b:Rd}(oa:Ok0 a)(ob:Ok0 b):R F.dyadic_Sub [af a,af b] []=some (rV (mq a b),[]):=by
 refine aB Uu rfl ?_;have v1:=eE oa;have v2:=eE ob;simp only[af,aj]at v1 v2;unfold mq;cases va:vd a with
 |false=>
  rw[va]at v1;simp only[sF,zp,rV,aI,af,aj,go_sem,v1]
 |true=>
  rw[va]at v1;cases vb:vd b with
  |false=>
   rw[vb]at v2;simp only[sF,zp,rV,aI,af,aj,go_sem,v1,v2]
  |true=>
   rw[vb]at v2;obtain⟨z1,z2⟩:=AZ vb;have hn:R F.dyadic_Neg [af b] []=some (af (hF b),[]):=D5 ob;have hs:=XP oa (yg ob) va z2;rw[z1,←Int.sub_eq_add_neg]at hs;simp only[rV,af,aj]at hn hs;simp only[sF,zp,rV,af,aj,go_sem,v1,v2,hn,hs]
theorem ain{d:Rd}{p:Int}{up:Bool}(h:(cz d p up).2=0):vd d=true/\(8<=p/\p<=512):=by
 unfold cz at h;by_cases hf:aY p [d]=0
 ·unfold aY at hf;grind
 grind
theorem Yu{a b:Rd}(vb:vd b=true)(h:(mq a b).2=0):zI (mq a b).1=zI a-zI b:=by
 grind[afG,ahs,AZ,Int.sub_eq_add_neg]
theorem aio{d:Rd}(ok:Ok0 d){p:Int}:R F.round_Near [af d,I p] []=some (rV (pT d p),[]):=by
 refine aB Ut rfl ?_;have hd:=QV ok (p:=p);have hu:=XE ok (p:=p);unfold pT;by_cases h0:(cz d p false).2=0
 ·rw[if_pos h0];obtain⟨v,hp⟩:=ain h0;have vl:=PA (d:=d) (p:=p) (up:=false);have ol:=Da (d:=d) (p:=p) (up:=false);by_cases h1:(cz d p true).2=0
  ·rw[if_pos h1];have vh:=PA (d:=d) (p:=p) (up:=true);have oh:=Da (d:=d) (p:=p) (up:=true);have hk:=aim ok v hp h0 h1;generalize cz d p false=lo at*
   generalize cz d p true=hi at*
   obtain⟨lo,el⟩:=lo;obtain⟨hi,eh⟩:=hi;have h0':el=0:=h0;have h1':eh=0:=h1;subst h0';subst h1';have s1:=P6 ok ol;have s2:=P6 oh ok;have c:=qH (Bh d lo).2 (Bh hi d).2;rw[if_pos ⟨(Bh d lo).1,(Bh hi d).1⟩,Yu vl hk.below,Yu v hk.above]at c;show _=some (rV (Ol (zI d) lo hi,0),[]);unfold Ol;generalize mq d lo=x at s1 c;generalize mq hi d=y at s2 c;simp only[rV,af,aj]at hd hu s1 s2 c;rcases nI (zI d-zI lo) (zI hi-zI d)with⟨g,e⟩| ⟨g,e⟩| ⟨g,e⟩
   ·rw[e]at c;rw[if_pos g];simp only[gy,jC,rV,af,aj,go_sem,avX,hd,hu,s1,s2,c]
   ·rw[e]at c;rw[if_neg ω,if_neg ω];unfold aaF;by_cases m1:hi.m.length=0
    ·have e1:((hi.m.length:Int)=0)=True:=tt;rw[if_pos (.inl m1)];simp only[gy,jC,rV,af,aj,go_sem,avX,hd,hu,s1,s2,c,e1]
    ·have e1:((hi.m.length:Int)=0)=False:=ff;by_cases m2:lo.m.length=0
     ·have e2:(0< (lo.m.length:Int))=False:=ff;rw[if_neg ω];simp only[gy,jC,rV,af,aj,go_sem,avX,hd,hu,s1,s2,c,e1,e2]
     ·have e2:(0< (lo.m.length:Int))=True:=tt;by_cases m3:lo.e<hi.e
      ·have e3:(lo.e<hi.e)=True:=eq_true m3;rw[if_pos (.inr ⟨m2,m3⟩)];simp only[gy,jC,rV,af,aj,go_sem,avX,hd,hu,s1,s2,c,e1,e2,e3]
      ·have e3:(lo.e<hi.e)=False:=eq_false m3;rw[if_neg ω];simp only[gy,jC,rV,af,aj,go_sem,avX,hd,hu,s1,s2,c,e1,e2,e3]
   ·rw[e]at c;rw[if_neg ω,if_pos ω];simp only[gy,jC,rV,af,aj,go_sem,avX,hd,hu,s1,s2,c]
  ·rw[if_neg h1];generalize cz d p false=lo at*
   generalize cz d p true=hi at*
   have e1:(hi.2=0)=False:=eq_false h1;have e0:(lo.2=0)=True:=eq_true h0;simp only[rV,af,aj]at hd hu;simp only[gy,jC,rV,aI,af,aj,go_sem,hd,hu,e0,e1]
 ·rw[if_neg h0];generalize cz d p false=lo at*
  have e0:(lo.2=0)=False:=eq_false h0;simp only[rV,af,aj]at hd;simp only[gy,jC,rV,aI,af,aj,go_sem,hd,e0]
theorem Mu(d:Rd)(p:Int):vd (pT d p).1=true/\Ok0 (pT d p).1:=by
 unfold pT;split
 ·split
  ·unfold Ol aaF;grind[PA,Da]
  ·exact bh
 ·exact bh
def eF(x:List Int)(c:Rd)(l:List Rt):List Rt:=if c.m.length=0 then l else⟨x,c⟩::l
def Cx(p:Int):List Rt->Option (List Rt×List Rt)
 |[]=>some ([],[])
 |t::ts=>if(pT t.c p).2=0 then(if(mq t.c (pT t.c p).1).2=0 then(Cx p ts).map fun q=>(eF t.exps (pT t.c p).1 q.1,eF t.exps (mq t.c (pT t.c p).1).1 q.2)else none)else none
def ke(a:Rp)(p:Int):(Rp×Rp)×Int:=if vp a=true then(if p<8\/512<p then((p0,p0),2)else match Cx p a.terms with
 |none=>((p0,p0),9)
 |some q=>((⟨a.vars,q.1⟩,⟨a.vars,q.2⟩),0))else((p0,p0),1)
def VR(r:(Rp×Rp)×Int):AV:=.tup [aZ r.1.1,aZ r.1.2,I r.2]
def P7(blk:Option (Ex×St))(i1 i2:Nat)(S:ak)(v':Int)(l1 l2:List Rt):Option (List Rt×List Rt)->Prop
 |some q=>El blk i1 i2 S v' l1 l2 q.1 q.2
 |none=>∃hh,blk=some (.ret,⟨upd (upd (upd (fun _=>.any) 6 (I 9)) 5 (.ref 5 none 0 0 0)) 4 (.ref 4 none 0 0 0),hh⟩)/\hh 4=.bx [I 0,.emp]/\hh 5=.bx [I 0,.emp]
theorem E6{x:List Int}{c:Rd}{l r:List Rt}:l++eF x c []++r=l++eF x c r:=by
 unfold eF;split
 ·rw[avE]
 ·rw[awe];rfl
theorem P7.step{blk:Option (Ex×St)}{i1 i2:Nat}{S:ak}{v':Int}{l1 l2:List Rt}{x:List Int}{c d:Rd}:∀ {o:Option (List Rt×List Rt)},P7 blk i1 i2 S v' (l1++eF x c []) (l2++eF x d []) o->P7 blk i1 i2 S v' l1 l2 (o.map fun q=>(eF x c q.1,eF x d q.2)):=by
 intro o h;cases o with
 |none=>exact h
 |some q=>
  obtain⟨hh,c1,c2,h1,h2,h3,h4,h5,h6,h7⟩:=h;exact⟨hh,c1,c2,h1,h2,h3,h4,h5,by rwa[E6]at h6,by rwa[E6]at h7⟩
theorem VT.put{v:Int}{t:Rt}{d:Rd}(h:VT v t)(od:Ok0 d)(vdd:vd d=true)(nd:d.m.length≠0):VT v ⟨t.exps,d⟩:=⟨od,h.len,h.v8,vdd,nd,h.b,h.d⟩
theorem afH{v v' p:Int}{A:List Rt}(hA:Cl v A)(hn:A.length<=100000){o2:Ob}(k2c:∀ids,az ids o2=true):
  ∀ (k i:Nat),i+k=A.length->∀ (c1 c2:AV) (l1 l2:List Rt),lX c1 l1->lX c2 l2->Bf v l1 (A.drop i)->Bf v l2 (A.drop i)->l1.length+k<=1000000->l2.length+k<=1000000->∀ (s:ak) (h:ac),s 1=I p->s 4=.ref 4 none 0 0 0->s 5=.ref 5 none 0 0 0->s 7=.ref 2248 none 0 0 0->s 8=.ref 2272 none 0 0 0->s 36=.sl 4 (aH A)->s 37=I A.length->s 38=I i->h 2=o2->h 4=.bx [I 0,.emp]->h 5=.bx [I 0,.emp]->h 2248=t3 v' c1 0->h 2272=t3 v' c2 0->
  P7 (ah 1 [4,5,7,8] (av (ai R (ax false) eZ) [1,4,5,7,8,36,37,38] [2,4,5,2248,2272] s h)) 2248 2272 (upd (upd (upd (upd (fun _=>.any) 8 (.ref 2272 none 0 0 0)) 7 (.ref 2248 none 0 0 0)) 5 (.ref 5 none 0 0 0)) 4 (.ref 4 none 0 0 0)) v' l1 l2 (Cx p (A.drop i)):=by
 intro k;induction k with
 |zero=>
  intro i hi c1 c2 l1 l2 hc1 hc2 _ _ _ _ s h g1 g4 g5 g7 g8 g36 g37 g38 k2 k4 k5 k2248 k2272;have e1:((i:Int)< (A.length:Int))=False:=ff;have ho1:=(kO (v:=v') (e:=0) hc1).cl [2,4,5,2248,2272];have ho2:=(kO (v:=v') (e:=0) hc2).cl [2,4,5,2248,2272];have ho3:=k2c [2,4,5,2248,2272];rw[avH ω,ag];refine⟨?hh0,c1,c2,?_,?_,?_,?_,?_,by grind,by grind⟩;rotate_left
  ·simp only[eZ,go_sem,g1,g4,g5,g7,g8,g36,g37,g38,k2,k4,k5,k2248,k2272,ho1,ho2,ho3,e1];rfl
  ·rfl
  ·rfl
  ·rfl
  ·rfl
 |succ k ih=>
  intro i hi c1 c2 l1 l2 hc1 hc2 b1 b2 hl1 hl2 s h g1 g4 g5 g7 g8 g36 g37 g38 k2 k4 k5 k2248 k2272;have hlt:i<A.length:=ω
  have e1:((i:Int)< (A.length:Int))=True:=tt;have e2:bp (aH A) (i:Int)=some (.ipt (cx A[i])):=iX rfl (List.getElem?_eq_getElem hlt);have e5:IntKind.i64.wrap ((i:Int)+1)=((i+1:Nat):Int):=wi;have ho1:=(kO (v:=v') (e:=0) hc1).cl [2,4,5,2248,2272];have ho2:=(kO (v:=v') (e:=0) hc2).cl [2,4,5,2248,2272];have ho3:=k2c [2,4,5,2248,2272];have hAd:=hA.dropN i;rw[avI hlt]at b1 b2 hAd⊢;have ih':=ih (i+1) ω;have vt:=hAd.head;have hrow:∀q ts,Cx p (q::ts)=if(pT q.c p).2=0 then(if(mq q.c (pT q.c p).1).2=0 then(Cx p ts).map fun x=>(eF q.exps (pT q.c p).1 x.1,eF q.exps (mq q.c (pT q.c p).1).1 x.2)else none)else none:=fun q ts=>rfl
  rw[hrow];generalize A[i]=t at e2 vt b1 b2 hAd⊢;have hnr:=aio vt.c (p:=p);obtain⟨vm,om⟩:=Mu t.c p;rw[ag];generalize av _ _ _=L at ih'⊢;generalize pT t.c p=m at hnr vm om⊢;obtain⟨m,em⟩:=m;have hsb:=P6 vt.c om;obtain⟨vq,oq⟩:=Bh t.c m;simp only at hsb vq oq;generalize mq t.c m=q at hsb vq oq⊢;obtain⟨q,eq⟩:=q;simp only[cx]at e2;simp only[rV,af,aj]at hnr hsb;by_cases hm:em=0
  ·subst hm;rw[if_pos rfl];by_cases hq:eq=0
   ·subst hq;rw[if_pos rfl];refine P7.step ?_;simp only at vm om vq oq;by_cases zm:m.m.length=0
    ·have f1:(0< (m.m.length:Int))=False:=ff;have x1:l1++eF t.exps m []=l1:=by simp_all[eF,if_pos,avE]
     simp only[x1];by_cases zq:q.m.length=0
     ·have f2:(0< (q.m.length:Int))=False:=ff;have x2:l2++eF t.exps q []=l2:=by simp_all[eF,if_pos,avE]
      simp only[x2];have ih2:=ih' c1 c2 l1 l2 hc1 hc2 b1.drop b2.drop ω ω;simp only[eZ,go_sem,g1,g4,g5,g7,g8,g36,g37,g38,k2,k4,k5,k2248,k2272,ho1,ho2,ho3,e1,e2,hnr,hsb,f1,f2,e5];refine ih2 _ _ ?_ ?_ ?_ ?_ ?_ ?_ ?_ ?_ ?_ ?_ ?_ ?_ ?_
      all_goals first|rfl|assumption
     ·have f2:(0< (q.m.length:Int))=True:=tt;have x2:l2++eF t.exps q []=l2++[⟨t.exps,q⟩]:=by simp_all[eF,if_neg]
      simp only[x2];obtain⟨c4,s3,s4⟩:=Ek (v':=v') b2 (vt.put oq vq zq) ω hc2;have hcall2:=fun(h:ac) (hh:h 2272=t3 v' c2 0) (d:Nat)=>dA (aS.1.2.1 false) rfl (pn (d:=d) hh hc2 s4 s3);have ih2:=ih' c1 c4 l1 _ hc1 s4 b1.drop (b2.push hAd (vt.put oq vq zq)) ω γ;simp only[af,aj]at hcall2;simp only[eZ,go_sem,g1,g4,g5,g7,g8,g36,g37,g38,k2,k4,k5,k2248,k2272,ho1,ho2,ho3,e1,e2,hnr,hsb,f1,f2];rw[hcall2 _ rfl];simp only[go_sem,e5];refine ih2 _ _ ?_ ?_ ?_ ?_ ?_ ?_ ?_ ?_ ?_ ?_ ?_ ?_ ?_
      all_goals first|rfl|assumption
    ·have f1:(0< (m.m.length:Int))=True:=tt;have x1:l1++eF t.exps m []=l1++[⟨t.exps,m⟩]:=by simp_all[eF,if_neg]
     simp only[x1];obtain⟨c3,s1,s2⟩:=Ek (v':=v') b1 (vt.put om vm zm) ω hc1;have hcall:=fun(h:ac) (hh:h 2248=t3 v' c1 0) (d:Nat)=>dA (aS.1.2.1 false) rfl (pn (d:=d) hh hc1 s2 s1);have bp1:=b1.push hAd (vt.put om vm zm);have lp1:(l1++[(⟨t.exps,m⟩:Rt)]).length+k<=1000000:=γ
     simp only[af,aj]at hcall;by_cases zq:q.m.length=0
     ·have f2:(0< (q.m.length:Int))=False:=ff;have x2:l2++eF t.exps q []=l2:=by simp_all[eF,if_pos,avE]
      simp only[x2];have ih2:=ih' c3 c2 _ l2 s2 hc2 bp1 b2.drop lp1 ω;simp only[eZ,go_sem,g1,g4,g5,g7,g8,g36,g37,g38,k2,k4,k5,k2248,k2272,ho1,ho2,ho3,e1,e2,hnr,hsb,f1];rw[hcall _ rfl];simp only[go_sem,f2,e5];refine ih2 _ _ ?_ ?_ ?_ ?_ ?_ ?_ ?_ ?_ ?_ ?_ ?_ ?_ ?_
      all_goals first|rfl|assumption
     ·have f2:(0< (q.m.length:Int))=True:=tt;have x2:l2++eF t.exps q []=l2++[⟨t.exps,q⟩]:=by unfold eF;rw[if_neg zq]
      simp only[x2];obtain⟨c4,s3,s4⟩:=Ek (v':=v') b2 (vt.put oq vq zq) ω hc2;have hcall2:=fun(h:ac) (hh:h 2272=t3 v' c2 0) (d:Nat)=>dA (aS.1.2.1 false) rfl (pn (d:=d) hh hc2 s4 s3);have ih2:=ih' c3 c4 _ _ s2 s4 bp1 (b2.push hAd (vt.put oq vq zq)) lp1 γ;simp only[af,aj]at hcall2;simp only[eZ,go_sem,g1,g4,g5,g7,g8,g36,g37,g38,k2,k4,k5,k2248,k2272,ho1,ho2,ho3,e1,e2,hnr,hsb,f1];rw[hcall _ rfl];simp only[go_sem,f2];rw[hcall2 _ rfl];simp only[go_sem,e5];refine ih2 _ _ ?_ ?_ ?_ ?_ ?_ ?_ ?_ ?_ ?_ ?_ ?_ ?_ ?_
      all_goals first|rfl|assumption
   ·rw[if_neg hq];have f1:(eq=0)=False:=ff hq;refine⟨?hh1,?_,?_,?_⟩;rotate_left
    ·simp only[eZ,go_sem,g1,g4,g5,g7,g8,g36,g37,g38,k2,k4,k5,k2248,k2272,ho1,ho2,ho3,e1,e2,hnr,hsb,f1];rfl
    ·rfl
    ·rfl
  ·rw[if_neg hm];have f1:(em=0)=False:=ff hm;refine⟨?hh2,?_,?_,?_⟩;rotate_left
   ·simp only[eZ,go_sem,g1,g4,g5,g7,g8,g36,g37,g38,k2,k4,k5,k2248,k2272,ho1,ho2,ho3,e1,e2,hnr,f1];rfl
   ·rfl
   ·rfl
theorem anf{v v' p:Int}{A:List Rt}(hA:Cl v A)(hn:A.length<=100000){o2:Ob}(k2c:∀ids,az ids o2=true)(s:ak)(h:ac)(X:Option (Ex×St))(hX:ah 1 [4,5,7,8] (av (ai R (ax false) eZ) [1,4,5,7,8,36,37,38] [2,4,5,2248,2272] s h)=X)
  (g1:s 1=I p) (g4:s 4=.ref 4 none 0 0 0) (g5:s 5=.ref 5 none 0 0 0) (g7:s 7=.ref 2248 none 0 0 0) (g8:s 8=.ref 2272 none 0 0 0) (g36:s 36=.sl 4 (aH A)) (g37:s 37=I A.length) (g38:s 38=I 0) (k2:h 2=o2) (k4:h 4=.bx [I 0,.emp]) (k5:h 5=.bx [I 0,.emp]) (k2248:h 2248=t3 v' .emp 0) (k2272:h 2272=t3 v' .emp 0):
  P7 X 2248 2272 (upd (upd (upd (upd (fun _=>.any) 8 (.ref 2272 none 0 0 0)) 7 (.ref 2248 none 0 0 0)) 5 (.ref 5 none 0 0 0)) 4 (.ref 4 none 0 0 0)) v' [] [] (Cx p A):=by
 subst hX;exact afH hA hn k2c A.length 0 (avs _) .emp .emp [] [] (.inr ⟨rfl,rfl⟩) (.inr ⟨rfl,rfl⟩) (Bf.nil _) (Bf.nil _) γ γ s h g1 g4 g5 g7 g8 g36 g37 g38 k2 k4 k5 k2248 k2272
theorem adn{a:Rp}{p:Int}(oa:OkP a):R F.poly_Round [aZ a,I p] []=some (VR (ke a p),[]):=by
 refine aB Uo rfl ?_;have v1:=uS oa;simp only[aZ]at v1;unfold ke;cases va:vp a with
 |false=>
  rw[va]at v1;simp only[nV,uA,aZ,go_sem,v1];rfl
 |true=>
  rw[va]at v1;rw[if_pos rfl];by_cases h8:p<8
  ·have e0:(p<8)=True:=eq_true h8;simp only[nV,uA,aZ,go_sem,v1,e0];rfl
  ·have e0:(p<8)=False:=eq_false h8;by_cases h9:512<p
   ·have e3:(512<p)=True:=eq_true h9;simp only[nV,uA,aZ,go_sem,v1,e0,e3];rfl
   ·have e3:(512<p)=False:=eq_false h9;rw[if_neg ω];obtain⟨ka,a0,a8,al⟩:=lv oa va;have hemp:=A9 (v:=a.vars);have hl:=anf (v:=a.vars) (v':=a.vars) (p:=p) ka ω (o2:=.bx [I a.vars,.sl 4 (aH a.terms)]) (fun _=>rfl);simp only[nV,uA,aZ,go_sem,v1,e0,e3,hemp,po];generalize hX:ah 1 _ _=X;have hM:=hl _ _ _ hX rfl rfl rfl rfl rfl rfl rfl rfl rfl rfl rfl rfl rfl;cases hr:Cx p a.terms with
    |none=>
     rw[hr]at hM;obtain⟨hh,rfl,q4,q5⟩:=hM;simp only[VR,p0,aZ,go_sem,q4,q5];rfl
    |some q=>
     rw[hr]at hM;obtain⟨hh,c1,c2,rfl,q4,q5,q1,q2,i1,i2⟩:=hM;obtain⟨r1,r2⟩:=q;simp only[t3]at q1 q2;rcases i1 with rfl| ⟨rfl,rfl⟩
     ·rcases i2 with rfl| ⟨rfl,rfl⟩
      ·simp only[VR,aZ,go_sem,avV,av0,q4,q5,q1,q2,uV,yn,avY,av4,wS,uU]
      ·simp only[VR,aZ,go_sem,avV,av0,q4,q5,q1,q2,uV,yn,avY,av4,wS,uU,Ba];rfl
     ·rcases i2 with rfl| ⟨rfl,rfl⟩
      ·simp only[VR,aZ,go_sem,avV,av0,q4,q5,q1,q2,uV,yn,avY,av4,wS,uU,Ba];rfl
      ·simp only[VR,aZ,go_sem,avV,av0,q4,q5,q1,q2,uV,yn,avY,av4,wS,Ba];rfl
def Mv(blk:Option (Ex×St))(i1 i2:Nat)(S:ak)(v':Int)(l1 l2 r1 r2:List Rt):Prop:=
 ∃hh c1 c2,blk=some (.normal,⟨S,hh⟩)/\hh 4=.bx [I 0,.emp]/\hh 5=.bx [I 0,.emp]/\hh i1=.bx [I v',c1]/\hh i2=.bx [I v',c2]/\lX c1 (l1++r1)/\lX c2 (l2++r2)
theorem Mv.p1{blk:Option (Ex×St)}{i1 i2:Nat}{S:ak}{v':Int}{l1 l2 r1 r2:List Rt}{t:Rt}(h:Mv blk i1 i2 S v' (l1++[t]) l2 r1 r2):Mv blk i1 i2 S v' l1 l2 (t::r1) r2:=by
 obtain⟨hh,c1,c2,h1,h2,h3,h4,h5,h6,h7⟩:=h;exact⟨hh,c1,c2,h1,h2,h3,h4,h5,by rwa[List.append_cons],h7⟩
theorem Mv.p2{blk:Option (Ex×St)}{i1 i2:Nat}{S:ak}{v':Int}{l1 l2 r1 r2:List Rt}{t:Rt}(h:Mv blk i1 i2 S v' l1 (l2++[t]) r1 r2):Mv blk i1 i2 S v' l1 l2 r1 (t::r2):=by
 obtain⟨hh,c1,c2,h1,h2,h3,h4,h5,h6,h7⟩:=h;exact⟨hh,c1,c2,h1,h2,h3,h4,h5,h6,by rwa[List.append_cons]⟩
def afI(blk:Option (Ex×St))(i1 i2:Nat)(S:ak)(v':Int)(l1 l2:List Rt):Option (List Rt×List Rt)->Prop
 |some q=>Mv blk i1 i2 S v' l1 l2 q.1 q.2
 |none=>∃hh,blk=some (.ret,⟨upd (upd (upd (fun _=>.any) 6 (I 9)) 5 (.ref 5 none 0 0 0)) 4 (.ref 4 none 0 0 0),hh⟩)/\hh 4=.bx [I 0,.emp]/\hh 5=.bx [I 0,.emp]
theorem afI.step{blk:Option (Ex×St)}{i1 i2:Nat}{S:ak}{v':Int}{l1 l2:List Rt}{x:List Int}{c d:Rd}:∀ {o:Option (List Rt×List Rt)},afI blk i1 i2 S v' (l1++eF x c []) (l2++eF x d []) o->afI blk i1 i2 S v' l1 l2 (o.map fun q=>(eF x c q.1,eF x d q.2)):=by
 intro o h;cases o with
 |none=>exact h
 |some q=>
  obtain⟨hh,c1,c2,h1,h2,h3,h4,h5,h6,h7⟩:=h;exact⟨hh,c1,c2,h1,h2,h3,h4,h5,by rwa[E6]at h6,by rwa[E6]at h7⟩
theorem Cl.filter{v:Int}{l:List Rt}(h:Cl v l)(p:Rt->Bool):Cl v (l.filter p):=⟨fun t ht=>h.t t (List.mem_filter.1 ht).1,h.s.filter p⟩
theorem Ro{a:Rp}{o:Int}(oa:OkP a):(Cl (gO a o).1.vars (gO a o).1.terms/\(gO a o).1.terms.length<=100000)/\(Cl (gO a o).2.vars (gO a o).2.terms/\(gO a o).2.terms.length<=100000):=by
 unfold gO;cases va:vp a with
 |false=>
  rw[if_neg avD];exact⟨⟨Cl.nil _,by decide⟩,⟨Cl.nil _,by decide⟩⟩
 |true=>
  obtain⟨ka,a0,a8,al⟩:=lv oa va;exact⟨⟨ka.filter _,by grind⟩,⟨ka.filter _,by grind⟩⟩
theorem Yv{v p:Int}:∀ {ts:List Rt} {q:List Rt×List Rt},Cl v ts->Cx p ts=some q->(Cl v q.1/\q.1.length<=ts.length/\∀y∈q.1,∃t∈ts,y.exps=t.exps)/\(Cl v q.2/\q.2.length<=ts.length/\∀y∈q.2,∃t∈ts,y.exps=t.exps)
 |[],q,_,h=>by
  cases h;grind
 |t::ts,q,c,h=>by
  obtain⟨vt,ht,c2⟩:=c.cons;unfold Cx at h;split at h
  ·split at h
   ·rw[avu]at h;obtain⟨q2,h2,rfl⟩:=h;obtain⟨⟨k1,k2,k3⟩,⟨k4,k5,k6⟩⟩:=Yv c2 h2;have key:∀ {d:Rd} {l:List Rt},vd d=true->Ok0 d->Cl v l->l.length<=ts.length->(∀y∈l,∃t∈ts,y.exps=t.exps)->Cl v (eF t.exps d l)/\(eF t.exps d l).length<=(t::ts).length/\∀y∈eF t.exps d l,∃q∈t::ts,y.exps=q.exps:=by
     intro d l vdd od cl hl hy;unfold eF;split
     ·refine⟨cl,by simp;omega,fun y h=>?_⟩;obtain⟨q,hq,he⟩:=hy y h;exact⟨q,by simp[hq],he⟩
     ·rename_i h0;refine⟨Cl.mk' (vt.put od vdd h0) (fun y h=>?_) cl,by simp;omega,fun y h=>?_⟩
      ·obtain⟨q,hq,he⟩:=hy y h;rw[he];exact ht q hq
      ·rcases List.mem_cons.1 h with rfl|h
       ·exact⟨t,by simp,rfl⟩
       ·obtain⟨q,hq,he⟩:=hy y h;exact⟨q,by simp[hq],he⟩
    exact⟨key (Mu _ _).1 (Mu _ _).2 k1 k2 k3,key (Bh _ _).1 (Bh _ _).2 k4 k5 k6⟩
   ·cases h
  ·cases h
theorem Rq{a:Rp}{p:Int}(oa:OkP a):Res ((ke a p).1.1,(ke a p).2)/\Res ((ke a p).1.2,(ke a p).2):=by
 have h0:∀e,Res (p0,e):=fun e=>⟨Cl.nil _,av6 _,.inr rfl⟩;unfold ke;cases va:vp a with
 |false=>
  grind
 |true=>
  rw[if_pos rfl];split
  ·grind
  ·obtain⟨ka,a0,a8,al⟩:=lv oa va;cases hr:Cx p a.terms with
   |none=>grind
   |some q=>
    obtain⟨⟨k1,k2,_⟩,⟨k3,k4,_⟩⟩:=Yv ka hr;exact⟨⟨k1,by grind,.inl rfl⟩,⟨k3,by grind,.inl rfl⟩⟩
abbrev iZ(l:List Rm):List (List AV):=l.map fun m=>H5 m
theorem ang{s:Rs}{m:Rm}(os:OkS s)(om:OkM m):R F.model_every_1 [iY m,.ref 1000 none 0 0 0] [.bx (uW s)]=some (B (!Gs s m),[.bx (uW s)]):=by
 refine B0 Nu Ns (BR false) rfl ?_;have h:=adk os om;generalize Gs s m=b at h⊢;simp only[xt,EG,go_sem,h];exact nJ rfl rfl rfl rfl rfl
theorem aq6(l:List (List AV)):l.map (dU [])=l:=qV fun x _=>TN x
theorem akV:Src F.slices_ContainsFunc_api_Model_api_Model_ F.slices_IndexFunc_api_Model_api_Model_ 9 true [.o 0 [],.o 5 [],.o 0 [],.o 2 [],.o 0 [],.o 0 [],.o 2 [],.o 0 [],.o 0 []]:=
 ⟨cj.2.1,cj.2.2,cj.1.2.2.2 false,cj.1.2.1 false,cj.1.2.2.2 false,cj.1.1 false,
  bS.2.1,bS.2.2,bS.1.2.2.2 false⟩
theorem aip(m:Rm):dU [.o 0 [],.o 5 [],.o 0 [],.o 2 [],.o 0 [],.o 0 [],.o 2 [],.o 0 [],.o 0 []] (H5 m)=H5 m:=by
 simp only[go_sem,aq6]
theorem jO(l:List Rm):(iZ l).map (dU [.o 0 [],.o 5 [],.o 0 [],.o 2 [],.o 0 [],.o 0 [],.o 2 [],.o 0 [],.o 0 []])=iZ l:=by
 refine qV fun x hx=>?_;obtain⟨t,ht,rfl⟩:=List.mem_map.1 hx;exact aip t
def E7(s:Rs)(l:List Rm):Bool:=kV s&&!(l.any fun m=>!Gs s m)
theorem Hx{s:Rs}{l:List Rm}(os:OkS s)(om:∀m∈l,OkM m)(hl:l.length<4611686018427387904):R F.model_every [lz s,.sl 9 (iZ l)] []=some (B (E7 s l),[]):=by
 refine aB R2 rfl ?_;have h1:=iM os.d os.n;unfold E7;cases g1:kV s with
 |false=>
  rw[g1]at h1;simp only[vf,Cd,go_sem,h1,avC]
 |true=>
 rw[g1]at h1;have hc:=PM akV (Frow:=fun m=>H5 m) (l:=l) (q:=fun m=>!Gs s m) (pS s) (ET false) (BR false) hl (jO _) fun m hm=>⟨iY m,iY m,rfl,rfl,rfl,by rw[LL];simp only[go_sem,rU],ang os (om m hm)⟩;generalize(l.any fun m=>!Gs s m)=b at hc⊢;have hcc:=fun(h:ac) (d:Nat) (hh:h 2=.bx (uW s)) (hf:h (2000+8*d)=.dead)=>Bb (f:=F.slices_ContainsFunc_api_Model_api_Model_) (g:=F.model_every_1) (h:=h) (d:=d) (id:=2) (zas:=[.sl 9 (iZ l)]) (as':=[.sl 9 (iZ l)]) (bS.1.2.1 false) (bS.1.2.2.2 false)
  (by rw[bS.1.1];simp only[go_sem,jO,avS,avB]) rfl rfl hh (pS _) (pS _) (fun h=>h) hc (aaq _) (avW rfl) (by simp[bY,cu,hf,bL])
 simp only[avS,avB,go_sem]at hcc;simp only[vf,Cd,go_sem,h1];rw[hcc _ _ rfl rfl];simp only[go_sem]
def rW(s:Rs):Rm:=⟨⟨s.dom.length,[]⟩,dy⟩
theorem Gt{s:Rs}:R F.model_none [lz s] []=some (iY (rW s),[]):=by
 refine aB Ub rfl ?_;have h:=kw;simp only[am,aq,dy,aI]at h;simp only[Ce,IL,rW,dy,aI,av4,go_sem,h];rfl
noncomputable def Mw (a:Rp) (dom:List Ri) (p:Int):Ri:=open Classical in if h:∃z,R F.bound_Best [aZ a,.sl 7 (bc dom),I p] []=some (am z,[])/\OkI z/\vi z=true then Classical.choose h else dy
theorem P8{a:Rp}{dom:List Ri}{p:Int}(oa:OkP a)(od:∀x∈dom,OkI x)(h2:dom.length<=100000):R F.bound_Best [aZ a,.sl 7 (bc dom),I p] []=some (am (Mw a dom p),[])/\OkI (Mw a dom p)/\vi (Mw a dom p)=true:=by
 have h:∃z,R F.bound_Best [aZ a,.sl 7 (bc dom),I p] []=some (am z,[])/\OkI z/\vi z=true:=by
  obtain⟨b,hB,hbr,hbn⟩:=VO oa od h2 (p:=p);cases hq:(nP a dom&&bQ p)with
  |false=>
   have hb:=hbn hq;subst hb;refine⟨_,Mt oa od h2 (p:=p) (b:=dy) Hn.ok' (fun _=>hB),?_⟩;unfold Ks;rw[hq];exact⟨Hn.ok',rfl⟩
  |true=>
   have hq2:=hq;rw[avv]at hq2;obtain⟨hv,hl,hk⟩:=VN od hq2.1;have i2:=hbr _ _ (Kt dom);obtain⟨m1,m2⟩:=Mo (Re (p:=p) oa (wU.inL hk (Kt dom))) i2;refine⟨_,Mt oa od h2 (p:=p) (b:=b) i2.ok (fun _=>hB),?_⟩;unfold Ks;rw[if_pos hq,if_pos m1];exact⟨m2.ok,m2.v⟩
 unfold Mw;rw[dif_pos h];exact Classical.choose_spec h
noncomputable def nR (a:Rp) (dom:List Ri) (p:Int):Ri:=if a.terms.length=0 then cr else Mw a dom p
theorem yr{a:Rp}{dom:List Ri}{p:Int}(oa:OkP a)(od:∀x∈dom,OkI x)(h2:dom.length<=100000):OkI (nR a dom p)/\vi (nR a dom p)=true:=by
 unfold nR;split
 ·exact⟨⟨bh.2,bh.2⟩,by have v:=bh.1;unfold cr;grind[vi]⟩
 ·exact(P8 oa od h2).2
theorem yt{a:Rp}{dom:List Ri}{p:Int}(oa:OkP a)(od:∀x∈dom,OkI x)(h2:dom.length<=100000):R F.model_ranged [aZ a,.sl 7 (bc dom),I p] []=some (am (nR a dom p),[]):=by
 refine aB OX rfl ?_;have h1:=Rl;have h3:=(P8 oa od h2 (p:=p)).1;unfold nR;generalize Mw a dom p=z at h3⊢;simp only[aZ,am,aq]at h1 h3;by_cases g:a.terms.length=0
 ·have f:((a.terms.length:Int)=0)=True:=tt;rw[if_pos g];simp only[tE,Am,aZ,am,aq,go_sem,h1,f]
 ·have f:((a.terms.length:Int)=0)=False:=ff;rw[if_neg g];simp only[tE,Am,aZ,am,aq,go_sem,h3,f]
noncomputable def Bi (s:Rs) (q:Rp):(Rp×Ri)×Bool:=
 if(ke (gO q s.ord).1 s.p).2=0 then((⟨s.dom.length,(ke (gO q s.ord).1 s.p).1.1.terms⟩,gJ (nR (gO q s.ord).2 s.dom s.p) (nR (ke (gO q s.ord).1 s.p).1.2 s.dom s.p) s.p),true)
 else(((ke (gO q s.ord).1 s.p).1.1,cr),false)
theorem aiq{s:Rs}{q:Rp}(os:OkS s)(oq:OkP q)(h2:s.dom.length<=100000):R F.model_cut [lz s,aZ q] []=some (.tup [aZ (Bi s q).1.1,am (Bi s q).1.2,B (Bi s q).2],[]):=by
 refine aB Wz rfl ?_;have h1:=ac2 (o:=s.ord) oq;obtain⟨⟨c1,_⟩,c2,_⟩:=Ro (o:=s.ord) oq;unfold Bi;generalize gO q s.ord=sp at h1 c1 c2⊢;have h3:=adn (p:=s.p) (qM c1);obtain⟨r1,r2⟩:=Rq (p:=s.p) (qM c1);generalize ke sp.1 s.p=r at h3 r1 r2⊢;have h4:=yt (p:=s.p) (qM c2) os.d h2;have h5:=yt (p:=s.p) (qM r2.cl) os.d h2;have k4:=yr (p:=s.p) (qM c2) os.d h2;have k5:=yr (p:=s.p) (qM r2.cl) os.d h2;generalize nR sp.2 s.dom s.p=x at h4 k4⊢;simp only at h5 k5;generalize nR r.1.2 s.dom s.p=y at h5 k5⊢;have h6:=ye k4.1 k5.1 (p:=s.p);generalize gJ x y s.p=z at h6⊢;simp only[Ym,VR,aZ,am,aq]at h1 h3 h4 h5 h6;by_cases g:r.2=0
 ·have f:(r.2=0)=True:=eq_true g;rw[if_pos g];simp only[yW,Fo,aZ,am,aq,go_sem,h1,h3,h4,h5,h6,f]
 ·have f:(r.2=0)=False:=eq_false g;rw[if_neg g];simp only[yW,Fo,aZ,am,aq,cr,aI,go_sem,h1,h3,f]
noncomputable def ub (s:Rs) (q:Rp) (e:Int) (r:Ri):Rm:=if e=0 then(if(Bi s q).2=true then⟨(Bi s q).1.1,gJ r (Bi s q).1.2 s.p⟩else rW s)else rW s
theorem air{s:Rs}{q:Rp}:OkI (Bi s q).1.2:=by
 unfold Bi;split
 ·exact AY
 ·exact⟨bh.2,bh.2⟩
theorem My{s:Rs}{q:Rp}{e:Int}{r:Ri}(os:OkS s)(oq:OkP q)(or:OkI r)(h2:s.dom.length<=100000):R F.model_made [lz s,aZ q,I e,am r] []=some (iY (ub s q e r),[]):=by
 refine aB Ud rfl ?_;have h1:=Gt (s:=s);have h3:=aiq os oq h2;have h4:=ye or (air (s:=s) (q:=q)) (p:=s.p);unfold ub;generalize Bi s q=c at h3 h4⊢;generalize gJ r c.1.2 s.p=z at h4⊢;simp only[aZ,am,aq]at h3 h4;by_cases g:e=0
 ·have f:(e=0)=True:=eq_true g;rw[if_pos g];cases g2:c.2 with
  |true=>
   rw[g2]at h3;rw[if_pos rfl];simp only[sn,yR,aZ,am,aq,go_sem,h3,h4,f]
  |false=>
   rw[g2]at h3;rw[if_neg avD];generalize rW s=n at h1⊢;simp only[sn,yR,aZ,am,aq,go_sem,h1,h3,f]
 ·have f:(e=0)=False:=eq_false g;rw[if_neg g];generalize rW s=n at h1⊢;simp only[sn,yR,aZ,am,aq,go_sem,h1,f]
def Bj(p:Int):Ri->List Ri->Ri
 |x,[]=>x
 |x,y::l=>Bj p (gJ x y p) l
theorem Yw{p:Int}:∀ {l:List Ri} {x:Ri},OkI x->OkI (Bj p x l)
 |[],_,h=>h
 |y::l,x,_=>(Yw (l:=l) AY:OkI (Bj p (gJ x y p) l))
theorem ado{p:Int}{l:List Ri}(ol:∀x∈l,OkI x)(hl:l.length<=100000):∀ (rest:List Ri) (n:Nat) (x:Ri),OkI x->l.drop n=rest->n<=l.length->∀ (S:ak) (h:ac),S 0=I p->S 4=.ref 4 none 0 0 0->S 6=.ref 6 none 0 0 0->S 9=.sl 7 (bc l)->S 10=I l.length->S 11=I n->h 4=.bx (aq x)->h 6=.bx [B false,.emp,I 0,B false,.emp,I 0,B false]->
  ∃hh,ah 0 [4,6] (av (ai R (ax false) mH) [0,4,6,9,10,11] [4,6] S h)=some (.normal,⟨upd (upd (fun _=>.any) 6 (.ref 6 none 0 0 0)) 4 (.ref 4 none 0 0 0),hh⟩)/\hh 4=.bx (aq (Bj p x rest))/\hh 6=.bx [B false,.emp,I 0,B false,.emp,I 0,B false]:=by
 intro rest;induction rest with
 |nil=>
  intro n x ox hd hn S h h0 h4 h6 h9 h10 h11 k4 k6;have e:n=l.length:=by
   have:=congrArg List.length hd;grind
  subst e;rw[ag];simp only[aq]at k4;refine⟨?hh0,?_,?_,?_⟩;rotate_left
  ·simp only[mH,go_sem,h0,h4,h6,h9,h10,h11,k4,k6,awf];rfl
  ·rfl
  ·rfl
 |cons y rest ih=>
  intro n x ox hd hn S h h0 h4 h6 h9 h10 h11 k4 k6;have hlt:n<l.length:=by
   grind
  have hr:l[n]?=some y:=by
   have:=congrArg (·[0]?) hd;grind
  have ih':=ih (n+1) (gJ x y p) AY (by rw[←List.drop_drop,hd];rfl) hlt;have e1:((n:Int)< (l.length:Int))=True:=tt;have e2:bp (bc l) (n:Int)=some (.ipt (aq y)):=s9 rfl hr;have e3:IntKind.i64.wrap ((n:Int)+1)=((n+1:Nat):Int):=by grind[i64_in]
  have v1:=ye ox (ol y (List.mem_of_getElem? hr)) (p:=p);rw[ag];rw[show Bj p x (y::rest)=Bj p (gJ x y p) rest from rfl];generalize av _ _ _=L at ih'⊢;generalize gJ x y p=z at v1 ih'⊢;simp only[aq]at e2 k4;simp only[am,aq]at v1;simp only[mH,go_sem,h0,h4,h6,h9,h10,h11,k4,k6,e1,e2,e3,v1];exact ih' _ _ rfl rfl rfl rfl rfl rfl rfl rfl
theorem ais{p:Int}{l:List Ri}{x:Ri}(ox:OkI x)(ol:∀x∈l,OkI x)(hl:l.length<=100000):R F.model_sum [I p,am x,.sl 7 (bc l)] []=some (am (Bj p x l),[]):=by
 refine aB WD rfl ?_;have hL:=ado (p:=p) ol hl l 0 x ox rfl (av6 _);generalize hLL:av (ai R (ax false) mH) [0,4,6,9,10,11] [4,6]=L at hL;have hXL:∀s h,ai R (ax false) (.loop [0,4,6,9,10,11] [4,6] mH) s h=L s h:=fun s h=>by rw[←hLL];rfl
 clear hLL;generalize Bj p x l=z at hL⊢;have hL2:∀ (S:ak) (h:ac) (X:Option (Ex×St)),ah 0 [4,6] (L S h)=X->S 0=I p->S 4=.ref 4 none 0 0 0->S 6=.ref 6 none 0 0 0->S 9=.sl 7 (bc l)->S 10=I l.length->S 11=I 0->h 4=.bx (aq x)->h 6=.bx [B false,.emp,I 0,B false,.emp,I 0,B false]->
   ∃hh,X=some (.normal,⟨upd (upd (fun _=>.any) 6 (.ref 6 none 0 0 0)) 4 (.ref 4 none 0 0 0),hh⟩)/\hh 4=.bx (aq z)/\hh 6=.bx [B false,.emp,I 0,B false,.emp,I 0,B false]:=fun S h X hX a b c d e f i j=>by
  rw[←hX];exact hL S h a b c d e f i j
 simp only[DH,K6,am,aq,go_sem,hXL];generalize hX2:ah 0 [4,6] (L _ _)=X;obtain⟨hh,g0,g4,g6⟩:=hL2 _ _ _ hX2 rfl rfl rfl rfl rfl rfl rfl rfl;rw[g0];simp only[aq]at g4;simp only[go_sem,g4,g6]
noncomputable def aaG (s:Rs) (a b:Rm):Rm:=if E7 s [a,b]=true then ub s (Eg a.P b.P).1 (Eg a.P b.P).2 (Jt a.R b.R s.p)else rW s
theorem Om{s:Rs}{l:List Rm}(h:E7 s l=true):kV s=true/\∀m∈l,Gs s m=true:=by
 simp_all[E7,avv,awu,List.any_eq_false]
theorem mM{s:Rs}(h:kV s=true):s.dom.length<=8/\bQ s.p=true:=by
 simp_all[kV,avv,decide_eq_true_eq]
theorem Gu{s:Rs}{m:Rm}(om:OkM m)(h:Gs s m=true):OkP m.P/\vp m.P=true/\m.P.vars=s.dom.length/\vi m.R=true:=by
 unfold Gs at h;simp only[avv,decide_eq_true_eq]at h;exact⟨adj om.c h.2.1,h.2.1,h.2.2.1,h.2.2.2.2.1⟩
theorem two{α:Type}{p:α->Prop}{a b:α}(ha:p a)(hb:p b):∀m∈[a,b],p m:=fun m hm=>by
 grind
theorem afJ{s:Rd}(ok:Ok0 s)(v:vd s=true):R F.dyadic_Scale [af s,I (-1)] []=some (rV (Oj s),[]):=by
 refine aB O1 rfl ?_;obtain⟨h0,h1,h2,h3⟩:=eY v ok.lb;have hv:=eE ok;rw[v]at hv;have hx:=BA (e:=-1);have ho:=ni (neg:=s.neg) (m:=s.m) (e:=s.e+-1) ok.lb ω (by grind[Exq]);rw[P3 ok v]at ho;have hl:Ok0 (eK (zI s) (-16384- (1:Nat))):=by
  rw[←P3 ok v];exact⟨AP _ _ _,awl (D7 (k:=128) ω) δ⟩
 have hc:=CZ hl.lb (by
  rw[←P3 ok v];exact avx (D7 (k:=128) ω) δ)
 have e:(if qU (ae (ab (eK (zI s) (-16384- (1:Nat))).m)) (eK (zI s) (-16384- (1:Nat))).e=true then AV.tup [af (eK (zI s) (-16384- (1:Nat))),I 0]else .tup [af aI,I 9])=rV (Oj s):=by
  grind[Oj,cX,rV]
 rw[e]at hc;have ew:IntKind.i64.wrap (s.e+-1)=s.e+-1:=by grind[i64_in]
 simp only[af,aj,rV]at hv ho hc;simp only[yV,FT,rV,af,aj,go_sem,hv,hx,ho,hc,ew,show decide ((-32768:Int)≤-1)=true from rfl,show decide ((-1:Int)<=32768)=true from rfl]
def zP(x:Ri)(p:Int):Rd:=if(kI x&&bQ p)=true then(if(dt x.lo x.hi p false).2=0 then(if(Oj (dt x.lo x.hi p false).1).2=0 then(if aaE x (Oj (dt x.lo x.hi p false).1).1=true then(Oj (dt x.lo x.hi p false).1).1 else x.lo)else x.lo)else x.lo)else aI
theorem SR{x:Ri}(h:kI x=true):x.all=false/\vd x.lo=true/\vd x.hi=true:=by
 grind[kI,vi]
theorem Yx{x:Ri}{p:Int}(ox:OkI x):vd (zP x p)=true/\Ok0 (zP x p):=by
 unfold zP;split
 ·rename_i h;rw[avv]at h;have hl:=(SR h.1).2.1;split
  ·split
   ·split
    ·exact A8
    ·exact⟨hl,ox.lo⟩
   ·exact⟨hl,ox.lo⟩
  ·exact⟨hl,ox.lo⟩
 ·exact bh
theorem akX{x:Ri}{p:Int}(ox:OkI x):R F.interval_Mid [am x,I p] []=some (af (zP x p),[]):=by
 refine aB OY rfl ?_;have h1:=uP ox;have h2:=uO (p:=p);unfold zP;cases g1:kI x with
 |false=>
  rw[g1]at h1;simp only[ig,kl,am,aq,af,aj,aI,go_sem,h1,avC,awo]
 |true=>
 rw[g1]at h1;cases g2:bQ p with
 |false=>
  rw[g2]at h2;simp only[ig,kl,am,aq,af,aj,aI,go_sem,h1,h2,Bool.and_false,awo]
 |true=>
 rw[g2]at h2;have h3:=Hk ox.lo ox.hi (p:=p);have h4:=afJ (J8 (a:=x.lo) (b:=x.hi) (p:=p) (up:=false)) Pz;have h5:=akR ox (d:=(Oj (dt x.lo x.hi p false).1).1) A8.2;generalize aaE x (Oj (dt x.lo x.hi p false).1).1=b at h5⊢;generalize Oj (dt x.lo x.hi p false).1=m at h4 h5⊢;generalize dt x.lo x.hi p false=s at h3 h4⊢;simp only[am,aq,af,aj,rV]at h3 h4 h5;by_cases k1:s.2=0
 case neg=>
  have f1:(s.2=0)=False:=eq_false k1;simp only[ig,kl,am,aq,af,aj,go_sem,h1,h2,h3,f1]
 have f1:(s.2=0)=True:=eq_true k1;by_cases k2:m.2=0
 case neg=>
  have f2:(m.2=0)=False:=eq_false k2;simp only[ig,kl,am,aq,af,aj,go_sem,h1,h2,h3,h4,f1,f2]
 have f2:(m.2=0)=True:=eq_true k2;cases b with
 |false=>
  simp only[ig,kl,am,aq,af,aj,go_sem,h1,h2,h3,h4,h5,f1,f2]
 |true=>
  simp only[ig,kl,am,aq,af,aj,go_sem,h1,h2,h3,h4,h5,f1,f2]
theorem pr3(x y:Bool):x=false\/x=true/\y=false\/x=true/\y=true:=by cases x<;>cases y<;>simp
noncomputable def aaH (s:Rs) (a b:Rm):Rm:=if E7 s [a,b]=true then ub s (FE a.P b.P).1 (FE a.P b.P).2 (Bj s.p (iH (nR a.P s.dom s.p) b.R s.p) [iH (nR b.P s.dom s.p) a.R s.p,iH a.R b.R s.p])else rW s
theorem ait{s:Rs}{a b:Rm}(os:OkS s)(oa:OkM a)(ob:OkM b):R F.model_Mul [lz s,iY a,iY b] []=some (iY (aaH s a b),[]):=by
 refine aB WB rfl ?_;have h1:=Hx os (l:=[a,b]) (two oa ob) σ;have h2:=Gt (s:=s);unfold aaH;simp only[avY,av4]at h1;cases g:E7 s [a,b]with
 |false=>
  rw[g]at h1;simp only[y5,Fr,go_sem,h1,h2]
 |true=>
  rw[g]at h1;obtain⟨q1,q2⟩:=Om g;obtain⟨a1,_⟩:=Gu oa (q2 a σ);obtain⟨b1,_⟩:=Gu ob (q2 b σ);have hl:s.dom.length<=100000:=by grind[mM]
  have h3:=ahN a1 b1;have r1:=yt (p:=s.p) a1 os.d hl;have r2:=yt (p:=s.p) b1 os.d hl;have k1:=(yr (p:=s.p) a1 os.d hl).1;have k2:=(yr (p:=s.p) b1 os.d hl).1;generalize nR a.P s.dom s.p=x at r1 k1⊢;generalize nR b.P s.dom s.p=y at r2 k2⊢;have m1:=C9 k1 ob.r (p:=s.p);have m2:=C9 k2 oa.r (p:=s.p);have m3:=C9 oa.r ob.r (p:=s.p);have h4:=ais (p:=s.p) (x:=iH x b.R s.p) (l:=[iH y a.R s.p,iH a.R b.R s.p]) AX (two AX AX) σ;have h5:=My (q:=(FE a.P b.P).1) (e:=(FE a.P b.P).2) (r:=Bj s.p (iH x b.R s.p) [iH y a.R s.p,iH a.R b.R s.p]) os (ae0 a1 b1) (Yw AX) hl;simp only[pV,aZ,am,aq]at h3 h5 r1 r2 m1 m2 m3;simp only[am,aq,bc,avY,av4]at h4;simp only[y5,Fr,go_sem,h1,h3,h4,h5,r1,r2,m1,m2,m3]
theorem Yy{x y:Ri}{p:Int}:OkI (Jt x y p):=AY
theorem JH{s:Rs}:OkI (rW s).R/\vi (rW s).R=true/\Cl (rW s).P.vars (rW s).P.terms/\(rW s).P.terms.length<=100000:=⟨Hn.ok',rfl,Cl.nil _,av6 _⟩
theorem agz{d:Rd}(h:z0 d=true):d=aI:=by
 obtain⟨n,m,e⟩:=d;unfold z0 at h;simp only[avv,awu,decide_eq_true_eq]at h;obtain⟨h1,h2,h3⟩:=h;subst h1 h3;rw[List.length_eq_zero_iff.1 h2];rfl
theorem aaI{x:Ri}(ox:OkI x)(v:vi x=true):∃q,In q x:=by
 cases ha:x.all with
 |true=>
  refine⟨0,Or.inl ?_⟩;unfold vi at v;rw[ha]at v;simp at v;obtain⟨l,h,a⟩:=x;simp only at v ha;rw[agz v.1,agz v.2,ha];rfl
 |false=>
  have hk:kI x=true:=by grind[kI]
  obtain⟨_,h1,h2⟩:=SR hk;exact⟨qv x.lo,Or.inr ⟨ha,⟨⟨h1,ox.lo⟩,h2,ox.hi⟩,Rat.le_refl,BB.2 (agm hk).2.2.1⟩⟩
theorem afK{s:Rs}{q:Rp}{e:Int}{r:Ri}(oq:OkP q)(os:OkS s)(hl:s.dom.length<=100000)(hv:e=0->vp q=true->q.vars=s.dom.length)(ir:∃q,In q r):OkI (ub s q e r).R/\vi (ub s q e r).R=true/\Cl (ub s q e r).P.vars (ub s q e r).P.terms/\(ub s q e r).P.terms.length<=100000:=by
 unfold ub;split
 ·rename_i he;have hv:=hv he;split
  ·rename_i hc;obtain⟨⟨c1,_⟩,c2,_⟩:=Ro (o:=s.ord) oq;obtain⟨r1,r2⟩:=Rq (p:=s.p) (qM c1);unfold Bi at hc⊢;split at hc
   ·rename_i h0;rw[if_pos h0];have k4:=yr (p:=s.p) (qM c2) os.d hl;have k5:=yr (p:=s.p) (qM r2.cl) os.d hl;obtain⟨q4,i4⟩:=aaI k4.1 k4.2;obtain⟨q5,i5⟩:=aaI k5.1 k5.2;obtain⟨q6,i6⟩:=ir;have ii:=Bc (p:=s.p) i6 (Bc (p:=s.p) i4 i5);refine⟨ii.ok,ii.v,?_,r1.len⟩;have hcl:=r1.cl;cases hq:vp q with
    |true=>
     have e1:(gO q s.ord).1.vars=q.vars:=by simp_all[gO,if_pos]
     have e2:(ke (gO q s.ord).1 s.p).1.1.vars=q.vars:=by
      unfold ke at h0⊢;grind
     rw[←hv hq,←e2];omega
    |false=>
     have e1:(gO q s.ord).1=p0:=by simp_all[gO,if_neg]
     have e2:(ke p0 s.p).1.1.terms=[]:=by
      unfold ke;split
      ·split
       ·rfl
       ·rfl
      ·rfl
     grind[Cl.nil]
   grind
  ·exact JH
 ·exact JH
theorem Lj{x:Rd}(ox:Ok0 x):R F.l27_number [af x,af x] []=some (B true,[]):=by
 refine aB Ua rfl ?_;have h:=akl (a:=x.m) (b:=x.m) ox.2;rw[PK.2 rfl]at h;have hb:(false != (x.neg==x.neg))=true:=by rw[beq_self_eq_true];rfl
 simp only[Cc,IK,af,aj,go_sem,h,hb]
theorem Mz{x:Ri}(ox:OkI x):R F.l27_one [am x,am x] []=some (B true,[]):=by
 refine aB abK rfl ?_;have h1:=Lj ox.lo;have h2:=Lj ox.hi;have hb:(false != (x.all==x.all))=true:=by rw[beq_self_eq_true];rfl
 simp only[af,aj]at h1 h2;simp only[GY,QK,am,aq,go_sem,h1,h2,hb]
theorem adp{m:Rm}(hr:OkI m.R)(hc:Cl m.P.vars m.P.terms)(hn:m.P.terms.length<=100000):R F.l27_same [iY m,iY m] []=some (B true,[]):=by
 refine aB ZQ rfl ?_;have h1:=Mz hr;have h2:=ahJ hc hc hn;rw[aas hc]at h2;simp only[aZ,am,aq]at h1 h2;simp only[Fn,Na,go_sem,h1,h2]
def E8(x:Ri):Bool:=decide (4<x.lo.m.length)||decide (4<x.hi.m.length)
theorem Ru{x:Ri}:R F.l27_wide [am x] []=some (B (E8 x),[]):=by
 refine aB G5 rfl ?_;unfold E8;by_cases g:4<x.lo.m.length
 ·have f:(4< (x.lo.m.length:Int))=True:=tt;rw[decide_eq_true g,Bool.true_or];simp only[Bu,GX,am,aq,go_sem,f]
 ·have f:(4< (x.lo.m.length:Int))=False:=ff;have f2:(4< (x.hi.m.length:Int))=(4<x.hi.m.length):=γ
  rw[decide_eq_false g,Bool.false_or];simp only[Bu,GX,am,aq,go_sem,f,f2]
theorem Hy{l:List Ri}(hl:l.length<4611686018427387904):R F.slices_ContainsFunc_api_Interval_api_Interval_ [.sl 7 (bc l),.fn F.l27_wide [] []] []=some (B (l.any E8),[]):=
 PN akT (Frow:=aq) (f:=F.l27_wide) (G5.1.2.1 false) hl (Db _) fun x hx=>⟨am x,rfl,rfl,by rw[G5.1.1];simp only[am,aq,go_sem];exact Ru⟩
def aaJ(t:Rt):Bool:=decide (4<t.c.m.length)||decide (8<t.exps.length)
theorem afL{t:Rt}:R F.l27_great_1_1 [.agg (cx t)] []=some (B (aaJ t),[]):=by
 refine aB ES rfl ?_;unfold aaJ;have l2:(aO t.exps).length=t.exps.length:=AU _;by_cases g:4<t.c.m.length
 ·have f:(4< (t.c.m.length:Int))=True:=tt;rw[decide_eq_true g,Bool.true_or];simp only[ru,yO,cx,go_sem,f]
 ·have f:(4< (t.c.m.length:Int))=False:=ff;have f2:(8< (t.exps.length:Int))=(8<t.exps.length):=γ
  rw[decide_eq_false g,Bool.false_or];simp only[ru,yO,cx,go_sem,f,f2,l2]
def grM(m:Rm):Bool:=E8 m.R|| (decide (20<m.P.terms.length)||m.P.terms.any aaJ)
theorem aiu{m:Rm}(hn:m.P.terms.length<4611686018427387904):R F.l27_great_1 [iY m] []=some (B (grM m),[]):=by
 refine aB Ct rfl ?_;unfold grM;have h1:=Ru (x:=m.R);have h2:R F.slices_ContainsFunc_api_Term_api_Term_ [.sl 4 (aH m.P.terms),.fn F.l27_great_1_1 [] []] []=some (B (m.P.terms.any aaJ),[]):=PN agx (Frow:=cx) (f:=F.l27_great_1_1) (ES.1.2.1 false) hn (rU _) fun t ht=>⟨.agg (cx t),rfl,rfl,by simp only[cx,go_sem];exact afL⟩;simp only[am,aq]at h1;have l2:(aH m.P.terms).length=m.P.terms.length:=n9 _;cases g2:E8 m.R with
 |true=>
  rw[g2]at h1;simp only[qf,wW,go_sem,h1,Bool.true_or]
 |false=>
 rw[g2]at h1;rw[Bool.false_or];by_cases g:20<m.P.terms.length
 ·have f:(20< (m.P.terms.length:Int))=True:=tt;rw[decide_eq_true g,Bool.true_or];simp only[qf,wW,go_sem,h1,l2,f]
 have f:(20< (m.P.terms.length:Int))=False:=ff;rw[decide_eq_false g,Bool.false_or];simp only[qf,wW,go_sem,h1,h2,l2,f]
theorem aaK{s:Rs}{l:List Rm}(os:OkS s)(om:∀m∈l,OkM m)(hl:l.length<4611686018427387904):∃b,R F.l27_great [lz s,.agg [I 0,.sl 6 [],.sl 1 []],.sl 9 (iZ l)] []=some (B b,[])/\(b=false->l.length<=8):=by
 have h1:=Hy os.n;have h2:R F.slices_ContainsFunc_api_Model_api_Model_ [.sl 9 (iZ l),.fn F.l27_great_1 [] []] []=some (B (l.any grM),[]):=PN akV (Frow:=fun m=>H5 m) (f:=F.l27_great_1) (q:=grM) (Ct.1.2.1 false) hl (jO _) fun m hm=>⟨iY m,rfl,rfl,by rw[Ct.1.1];simp only[go_sem,rU];exact aiu (om m hm).n⟩;have l2:(iZ l).length=l.length:=by simp[iZ]
 have l3:(bc s.dom).length=s.dom.length:=s7 _;have l0:([]:List (List AV)).length=0:=rfl;have f0:((12:Int)< ((0:Nat):Int))=False:=eq_false δ;generalize s.dom.any E8=b1 at h1;generalize d1:decide (3< (s.dom.length:Int))=x1;generalize d3:decide (4<s.ord)=x3;generalize d4:decide (s.ord<=16)=x4;generalize d5:decide (80<s.p)=x5;generalize d6:decide (s.p<=512)=x6;generalize d7:decide (8< (l.length:Int))=x7;rcases x1 with _|_<;>rcases pr3 x3 x4 with rfl| ⟨rfl,rfl⟩| ⟨rfl,rfl⟩<;>rcases pr3 x5 x6 with rfl| ⟨rfl,rfl⟩| ⟨rfl,rfl⟩<;>rcases b1 with _|_<;>rcases x7 with _|_<;>first
  | (refine⟨true,aB La rfl ?_,nofun⟩;simp only[yK,Fl,go_sem,d1,d3,d4,d5,d6,d7,h1,l2,l3,l0,f0];done)
  | (refine⟨l.any grM,aB La rfl ?_,fun _=>by have:=of_decide_eq_false d7;omega⟩;simp only[yK,Fl,go_sem,d1,d3,d4,d5,d6,d7,h1,h2,l2,l3,l0,f0,jO])
theorem aiv{s:Rs}{a b:Rm}(os:OkS s)(oa:OkM a)(ob:OkM b):R F.model_Sub [lz s,iY a,iY b] []=some (iY (aaG s a b),[]):=by
 refine aB WA rfl ?_;have h1:=Hx os (l:=[a,b]) (two oa ob) σ;have h2:=Gt (s:=s);unfold aaG;simp only[avY,av4]at h1;cases g:E7 s [a,b]with
 |false=>
  rw[g]at h1;simp only[yY,Fq,go_sem,h1,h2]
 |true=>
  rw[g]at h1;obtain⟨q1,q2⟩:=Om g;obtain⟨a1,_⟩:=Gu oa (q2 a σ);obtain⟨b1,_⟩:=Gu ob (q2 b σ);have h3:=ahH a1 b1;have h4:=PU oa.r ob.r (p:=s.p);have h5:=My (e:=(Eg a.P b.P).2) (r:=Jt a.R b.R s.p) os (aeZ a1 b1) Yy (by grind[mM]);simp only[pV,aZ,am,aq]at h3 h4 h5;simp only[yY,Fq,go_sem,h1,h3,h4,h5]
theorem akY{α:Type}{p:α->Prop}{a:α}(ha:p a):∀m∈[a],p m:=fun m hm=>by grind
noncomputable def xQ (s:Rs) (a:Rm):Ri:=if E7 s [a]=true then gJ (nR a.P s.dom s.p) a.R s.p else dy
theorem Rw{s:Rs}{a:Rm}(os:OkS s)(oa:OkM a):R F.model_Bound [lz s,iY a] []=some (am (xQ s a),[]):=by
 refine aB RZ rfl ?_;have h1:=Hx os (l:=[a]) (akY oa) σ;have h2:=kw;unfold xQ;simp only[avY,av4]at h1;cases g:E7 s [a]with
 |false=>
  rw[g]at h1;simp only[ve,Cb,am,aq,dy,aI,go_sem,h1,h2]
 |true=>
  rw[g]at h1;obtain⟨q1,q2⟩:=Om g;obtain⟨a1,_⟩:=Gu oa (q2 a σ);have hl:s.dom.length<=100000:=by grind[mM]
  have h3:=yt (p:=s.p) a1 os.d hl;have k1:=(yr (p:=s.p) a1 os.d hl).1;have h4:=ye k1 oa.r (p:=s.p);simp only[aZ,am,aq]at h3 h4;simp only[ve,Cb,am,aq,go_sem,h1,h3,h4]
def MA:List Ri->List Ri->Bool
 |x::l,y::m=>wF x y&&MA l m
 |_,_=>true
theorem aiw{x d:List Ri}(ox:∀a∈x,OkI a)(od:∀a∈d,OkI a)(hx:x.length<4611686018427387904)(he:x.length=d.length):∀ (rx rd:List Ri) (n:Nat),x.drop n=rx->d.drop n=rd->n<=x.length->∀ (S:ak) (h:ac),S 1=.sl 7 (bc d)->S 2=.fn F.interval_Inside [] []->S 15=.sl 7 (bc x)->S 16=I x.length->S 17=I n->
  ∃hh,ah 0 [] (av (ai R (ax false) aE) [1,2,15,16,17] [] S h)=if MA rx rd=true then some (.normal,⟨fun _=>.any,hh⟩)else some (.ret,⟨upd (fun _=>.any) 6 (B false),hh⟩):=by
 intro rx;induction rx with
 |nil=>
  intro rd n hd1 hd2 hn S h h1 h2 h15 h16 h17;have e:n=x.length:=by
   have:=congrArg List.length hd1;grind
  subst e;rw[ag];refine⟨?hh0,?_⟩;rotate_left
  ·simp only[aE,go_sem,h1,h2,h15,h16,h17,awf];rfl
 |cons a rx ih=>
  intro rd n hd1 hd2 hn S h h1 h2 h15 h16 h17;have hlt:n<x.length:=by
   grind
  have ra:x[n]?=some a:=by
   have:=congrArg (·[0]?) hd1;grind
  have hb:∃b,d[n]?=some b:=⟨d[n]'(by omega),List.getElem?_eq_getElem ω⟩;obtain⟨b,rb⟩:=hb;have hrd:rd=b::d.drop (n+1):=by
   grind[avI,Option.some.injEq]
  subst hrd;have ih':=ih (d.drop (n+1)) (n+1) (by rw[←List.drop_drop,hd1];rfl) rfl hlt;have e1:((n:Int)< (x.length:Int))=True:=tt;have e2:bp (bc x) (n:Int)=some (.ipt (aq a)):=s9 rfl ra;have e3:bp (bc d) (n:Int)=some (.ipt (aq b)):=s9 rfl rb;have e4:IntKind.i64.wrap ((n:Int)+1)=((n+1:Nat):Int):=by grind[i64_in]
  have v1:=Rk (ox a (List.mem_of_getElem? ra)) (od b (List.mem_of_getElem? rb));rw[ag,show MA (a::rx) (b::d.drop (n+1))=(wF a b&&MA rx (d.drop (n+1)))from rfl];simp only[am,aq]at e2 e3 v1;cases g:wF a b with
  |false=>
   rw[g]at v1;refine⟨?hh1,?_⟩;rotate_left
   ·simp only[aE,go_sem,h1,h2,h15,h16,h17,e1,e2,e3,v1];rfl
  |true=>
   rw[g]at v1;simp only[aE,go_sem,h1,h2,h15,h16,h17,e1,e2,e3,e4,v1];exact ih' _ _ rfl rfl rfl rfl rfl
def aaL(x d:List Ri):Bool:=decide (x.length=d.length)&&MA x d
theorem akZ{x d:List Ri}(ox:∀a∈x,OkI a)(od:∀a∈d,OkI a)(hx:x.length<4611686018427387904):R F.slices_EqualFunc_api_Interval_Sapi_Interval_api_Interval_api_Interval_ [.sl 7 (bc x),.sl 7 (bc d),.fn F.interval_Inside [] []] []=some (B (aaL x d),[]):=by
 refine aB gr rfl ?_;unfold aaL;by_cases he:x.length=d.length
 ·have f:((x.length:Int)=(d.length:Int))=True:=tt;rw[decide_eq_true he,avz];have hL:=aiw ox od hx he x d 0 rfl rfl (av6 _);generalize hLL:av (ai R (ax false) aE) [1,2,15,16,17] []=L at hL;have hXL:∀s h,ai R (ax false) (.loop [1,2,15,16,17] [] aE) s h=L s h:=fun s h=>by rw[←hLL];rfl
  have hL2:∀ (S:ak) (h:ac) (X:Option (Ex×St)),ah 0 [] (L S h)=X->S 1=.sl 7 (bc d)->S 2=.fn F.interval_Inside [] []->S 15=.sl 7 (bc x)->S 16=I x.length->S 17=I 0->
    ∃hh,X=if MA x d=true then some (.normal,⟨fun _=>.any,hh⟩)else some (.ret,⟨upd (fun _=>.any) 6 (B false),hh⟩):=fun S h X hX a b c d e=>by
   rw[←hX];exact hL S h a b c d e
  simp only[bw,bT,go_sem,f,hXL];generalize hX2:ah 0 [] (L _ _)=X;obtain⟨hh,g0⟩:=hL2 _ _ _ hX2 rfl rfl rfl rfl rfl;rw[g0];cases MA x d with
  |true=>
   simp only[go_sem]
  |false=>
   simp only[go_sem]
 ·have f:((x.length:Int)=(d.length:Int))=False:=ff;rw[decide_eq_false he,avC];simp only[bw,bT,go_sem,f]
noncomputable def xR (s:Rs) (a:Rm) (x:List Ri):Ri:=if(E7 s [a]&&aaL x s.dom)=true then gJ (nR a.P x s.p) a.R s.p else dy
theorem VU{s:Rs}{a:Rm}{x:List Ri}(os:OkS s)(oa:OkM a)(ox:∀b∈x,OkI b)(hx:x.length<=100000):R F.model_Eval [lz s,iY a,.sl 7 (bc x)] []=some (am (xR s a x),[]):=by
 refine aB T8 rfl ?_;have h1:=Hx os (l:=[a]) (akY oa) σ;have h2:=kw;unfold xR;simp only[avY,av4]at h1;cases g:E7 s [a]with
 |false=>
  rw[g]at h1;simp only[sj,yN,am,aq,dy,aI,go_sem,h1,h2]
 |true=>
  rw[g]at h1;have h5:=akZ ox os.d ω;cases g2:aaL x s.dom with
  |false=>
   rw[g2]at h5;simp only[sj,yN,am,aq,dy,aI,go_sem,h1,h2,h5]
  |true=>
   rw[g2]at h5;obtain⟨q1,q2⟩:=Om g;obtain⟨a1,_⟩:=Gu oa (q2 a σ);have h3:=yt (p:=s.p) a1 ox hx;have k1:=(yr (p:=s.p) a1 ox hx).1;have h4:=ye k1 oa.r (p:=s.p);simp only[aZ,am,aq]at h3 h4;simp only[sj,yN,am,aq,go_sem,h1,h3,h4,h5]
def rq(w:Bool)(M d:Nat):Nat:=if w=true/\M%2^d≠0 then M/2^d+1 else M/2^d
def dR(M n j:Nat):Nat:=if ae M<=n+j then j else ae M-n
theorem aix{w:Bool}{M M' d:Nat}(h:M<=M'):rq w M d<=rq w M' d:=by
 have h1:=awi M (2^d);have h3:=awi M' (2^d);have h5:M/2^d<=M'/2^d:=Nat.div_le_div_right h;grind[rq,Nat.eq_or_lt_of_le]
theorem anh{w:Bool}{M d e:Nat}(h:M<2^ (d+e)):rq w M d<=2^e:=by
 have h1:M/2^d<2^e:=by
  rw[Nat.div_lt_iff_lt_mul (avJ d),←avG,Nat.add_comm];omega
 grind[rq]
theorem agA(M n j:Nat):j<=dR M n j/\ae M<=n+dR M n j:=by
 grind[dR]
theorem afM{M j n:Nat}{w:Bool}(hn:8<=n):cR M (-16384- (j:Int)) false (n:Int) w=tq n w (rq w M (dR M n j)) ((dR M n j:Int)-j-16384):=by
 have hu:fA M (-16384- (j:Int)) (n:Int)=(dR M n j:Int)-j-16384:=by
  grind[fA,dR]
 unfold cR;have hq:qI M (-16384- (j:Int)) false ((dR M n j:Int)-j-16384)=(M/2^dR M n j,decide (M%2^dR M n j≠0)):=by
  unfold qI;generalize dR M n j=d;by_cases h:d=0
  ·subst h;grind
  grind
 grind[my,rq]
theorem WQ{q d T:Nat}(hq:q≠0):T<ae q+d↔2^T<=q*2^d:=by
 by_cases h:d<=T
 ·rw[show T<ae q+d↔T-d<ae q by omega,jN]
  conv=>rhs;rw[show T=(T-d)+d by omega,avG]
  simp_all[Nat.mul_le_mul_right_iff,avJ]
 ·refine⟨fun _=>?_,fun _=>by omega⟩;refine avx (av8 δ (by omega:T<=d)) ?_;exact Nat.le_mul_of_pos_left _ ω
theorem ak0{q n k:Nat}(h:q<=2^n)(hk:n<k):ae q<=k:=bV.2 (awl h (Nat.pow_lt_pow_right δ hk))
theorem ani{w:Bool}{M n j:Nat}(hn:n<=512):ae (rq w M (dR M n j))<=4096/\(w=false->rq w M (dR M n j)<2^n):=by
 have k:=agA M n j;have k5:M<2^ae M:=bV.1 (avt _);have k6:M<2^ (dR M n j+n):=awn k5 (av8 δ ω);have h1:=anh (w:=w) k6;refine⟨ak0 h1 ω,?_⟩
 simp_all[rq,if_neg,Nat.div_lt_iff_lt_mul,avJ,avG,Nat.add_comm]
theorem aiy{M j n:Nat}{w:Bool}(h0:M≠0)(hn:8<=n/\n<=512):
  (rq w M (dR M n j)*2^dR M n j<2^ (32768+j)->(cR M (-16384- (j:Int)) false (n:Int) w).2=0/\zI (cR M (-16384- (j:Int)) false (n:Int) w).1*2^j=((rq w M (dR M n j)*2^dR M n j:Nat):Int))/\
  (2^ (32768+j)<=rq w M (dR M n j)*2^dR M n j->(w=true->(cR M (-16384- (j:Int)) false (n:Int) w).2≠0)/\
   (w=false->(cR M (-16384- (j:Int)) false (n:Int) w).2=0/\zI (cR M (-16384- (j:Int)) false (n:Int) w).1=(((2^n-1)*2^ (32768-n):Nat):Int))):=by
 have k:=agA M n j;obtain⟨b1,_⟩:=ani (w:=w) (M:=M) (j:=j) hn.2;rw[afM hn.1];have hq0:rq w M (dR M n j)=0->¬32768+j<ae (rq w M (dR M n j))+dR M n j:=fun h=>by
  rw[h,show ae 0=0 from rfl];have hM:M<2^dR M n j:=by
   unfold rq at h;split at h
   all_goals simp_all
  have h3:ae M<=dR M n j:=bV.2 hM;unfold dR at h3⊢;grind
 generalize hd:dR M n j=d at*
 generalize rq w M d=q at*
 have ov:16384< (ae q:Int)+((d:Int)-j-16384)↔2^ (32768+j)<=q*2^d:=by
  by_cases hq:q=0
  ·subst hq;have h5:=avJ (32768+j);constructor<;>intro h6<;>omega
  ·rw[←WQ hq];omega
 unfold tq;constructor
 ·intro h;have h1:¬16384< (ae q:Int)+((d:Int)-j-16384):=fun hc=>by
   omega
  rw[if_neg h1];have hc:=Hj (neg:=false) (M:=q) (e:=(d:Int)-j-16384) b1 ω ω;have h2:(cX (bF false q ((d:Int)-j-16384))).2=0:=by rw[hc]
  refine⟨h2,?_⟩;rw[Jr ω h2,show((d:Int)-j-16384+16384).toNat=d-j by omega,show(2:Int)^j=((2^j:Nat):Int)by simp,←Int.natCast_mul,avT,←avG,show d-j+j=d by omega]
 ·intro h;have h1:=ov.2 h;rw[if_pos h1];constructor
  ·rintro rfl
   simp
  ·rintro rfl
   rw[if_neg σ];have hp1:2^n-1<2^n:=by have:=avJ n;omega
   have hb:ae (2^n-1)<=n:=bV.2 hp1;have hc:=Hj (neg:=false) (M:=2^n-1) (e:=16384- (n:Int)) ω ω ω;have h2:(cX (bF false (2^ ((n:Int)).toNat-1) (16384- (n:Int)))).2=0:=by rw[avy,hc]
   refine⟨h2,?_⟩;rw[Jr ω h2,avy,show(16384- (n:Int)+16384).toNat=32768-n by omega]
theorem ak1{M j n:Nat}{w:Bool}(h0:M≠0)(hn:8<=n/\n<=512)(h:(cR M (-16384- (j:Int)) false (n:Int) w).2=0):0<=zI (cR M (-16384- (j:Int)) false (n:Int) w).1:=by
 obtain⟨k,h1,_⟩:=Ht (s:=0) (t:=j) h0 (p:=n) ω ω (fun h=>absurd h avD) h;omega
theorem aiz{z f p:Int}{up:Bool}(h:z<0):jG z f p up=hH true (cR z.natAbs f false p (!up)):=by
 unfold jG;rw[if_neg ω,decide_eq_true h]
 simp_all
theorem aiA{z f p:Int}{up:Bool}(h:0<z):jG z f p up=cR z.natAbs f false p up:=by
 unfold jG;rw[if_neg ω,decide_eq_false ω]
 simp_all[hH,if_neg]
theorem ak2{M:Nat}{f p:Int}{w:Bool}:(hH true (cR M f false p w)).2=(cR M f false p w).2/\((cR M f false p w).2=0->zI (hH true (cR M f false p w)).1=-zI (cR M f false p w).1):=by
 unfold hH;by_cases h:(cR M f false p w).2=0
 all_goals simp_all[if_pos,AZ,PP,if_neg,absurd]
theorem agB{f p:Int}{up:Bool}:jG 0 f p up=(aI,0):=by simp_all[jG,if_pos]
theorem VV{a b:Rd}{p:Int}(va:vd a=true)(vb:vd b=true)(hp:bQ p=true):aY p [a,b]=0/\∃n:Nat,p=n/\8<=n/\n<=512:=by
 have hp2:8<=p/\p<=512:=by
  simp_all[bQ,avv,decide_eq_true_eq]
 refine⟨by grind[aY],p.toNat,by omega,by omega,by omega⟩
def Sb(x y:Ri):Prop:=(∃q,In q x)/\(y=dy\/x.all=false/\y.all=false/\(∃q,In q y)/\zI y.lo<=zI x.lo/\zI x.hi<=zI y.hi)
theorem Sb.ins{x y:Ri}(h:Sb x y):wF x y=true:=by
 obtain⟨⟨q,hx⟩,rfl| ⟨h1,h2,⟨r,hy⟩,h3,h4⟩⟩:=h
 ·unfold wF;have:=hx.v;split
  ·rfl
  ·rw[this];rfl
 ·unfold wF;rw[if_pos ⟨hx.v,hy.v,h1⟩];grind
theorem anj{x:Ri}(h:∃q,In q x)(ha:x.all=false):kI x=true:=by
 obtain⟨q,h⟩:=h;unfold kI;rw[ha,h.v];rfl
theorem adr{a b:List Nat}(h:lm a=lm b):a=b:=by
 unfold lm aG at h;grind[List.map_inj_right]
theorem aiB{x y:Ri}(h:am x=am y):x=y:=by
 unfold am aq at h;simp only[AV.agg.injEq,List.cons.injEq,AV.v.injEq,Value.bool.injEq,Value.int.injEq,true_and,and_true]at h;obtain⟨h1,g2,h3,h4,g5,h6,h7⟩:=h;have h2:=adr g2;have h5:=adr g5;obtain⟨⟨a1,a2,a3⟩,⟨a4,a5,a6⟩,a7⟩:=x
 simp_all
theorem afN{a:Rp}{dom:List Ri}{p:Int}(oa:OkP a)(od:∀x∈dom,OkI x)(h2:dom.length<=100000)(hd:nP a dom=true):∃b,Mw a dom p=Ks a dom p b/\∀xs ts:List Rat,wU dom xs ts->In (fv xs a.terms) b:=by
 obtain⟨b,hB,hbr,_⟩:=VO oa od h2 (p:=p);have i2:=hbr _ _ (Kt dom);have h3:=Mt oa od h2 (p:=p) (b:=b) i2.ok (fun _=>hB);grind[P8,aiB]
theorem aiC{a b:Rd}(va:vd a=true)(vb:vd b=true):zI a<=zI (kN a b):=by
 unfold kN;rw[PB va vb];rcases nI (zI a) (zI b)with⟨g,e⟩| ⟨g,e⟩| ⟨g,e⟩<;>rw[e]<;>simp<;>omega
theorem aiD{a b:Rd}(va:vd a=true)(vb:vd b=true):zI (kL a b)<=zI a:=by
 grind[kL,PB,nI,zI]
theorem aiE{x y:Ri}(hx:x.all=false){q:Rat}(ix:In q x)(iy:In q y):Sb (tV x y).1 x:=by
 obtain⟨m1,m2⟩:=Mo ix iy;refine⟨⟨q,m2⟩,Or.inr ?_⟩;have key:(tV x y).1.all=false/\zI x.lo<=zI (tV x y).1.lo/\zI (tV x y).1.hi<=zI x.hi:=by
  have vx:=ix.vi;have vy:=iy.vi;unfold tV at m1⊢;rw[ix.v,iy.v,awa,if_pos rfl,hx,if_neg avD]at m1⊢;split
  ·grind
  ·split
   ·exact⟨rfl,aiC vx.1.1 vy.1.1,aiD vx.2.1 vy.2.1⟩
   grind
 grind
theorem ak3{a:Rp}{dom:List Ri}{p:Int}(oa:OkP a)(od:∀x∈dom,OkI x)(h2:dom.length<=100000)(hd:nP a dom=true)(hp:bQ p=true)(h0:a.terms.length≠0)(hn:(pj a dom p).all=false):Sb (nR a dom p) (pj a dom p):=by
 unfold nR;obtain⟨b,hb,hbr⟩:=afN (p:=p) oa od h2 hd;obtain⟨hv,hl,hk⟩:=VN od hd;have i1:=Re (p:=p) oa (wU.inL hk (Kt dom));have i2:=hbr _ _ (Kt dom);rw[hb];unfold Ks;rw[hd,hp,awa,if_pos rfl,if_pos (Mo i1 i2).1];grind[aiE]
theorem On{a b:Rd}(va:vd a=true)(vb:vd b=true):(fh a b<0↔zI a<zI b)/\(0<fh a b↔zI b<zI a):=by
 rw[PB va vb];unfold eJ;split
 ·omega
 ·split<;>omega
section
variable {dn up:Rd→Rd→Rd × Int} {pr:Nat→Rd × Rd}
abbrev E9(dn:Rd->Rd->Rd×Int)(pr:Nat->Rd×Rd)(j:Nat):Rd×Int:=dn (pr j).1 (pr j).2
theorem Oo(okd:∀a b,vd (dn a b).1=true)(oku:∀a b,vd (up a b).1=true):∀ (k i:Nat) (o:Rd×Rd),vd o.1=true->vd o.2=true->(∀j,i<=j->j<i+k->(E9 dn pr j).2=0/\(E9 up pr j).2=0)->
  ∃q,vR dn up pr k i o=some q/\zI q.1<=zI o.1/\zI o.2<=zI q.2/\(∀j,i<=j->j<i+k->zI q.1<=zI (E9 dn pr j).1/\zI (E9 up pr j).1<=zI q.2)/\
   (q.1=o.1\/∃j,i<=j/\j<i+k/\q.1=(E9 dn pr j).1)/\(q.2=o.2\/∃j,i<=j/\j<i+k/\q.2=(E9 up pr j).1)
 |0,i,o,_,_,_=>⟨o,rfl,Int.le_refl _,Int.le_refl _,fun j h1 h2=>by omega,Or.inl rfl,Or.inl rfl⟩
 |k+1,i,o,v1,v2,h=>by
  have h0:=h i (avt _) ω;unfold vR;rw[if_pos h0];have c1:=(On (okd (pr i).1 (pr i).2) v1).1;have c2:=(On (oku (pr i).1 (pr i).2) v2).2;have w1:=okd (pr i).1 (pr i).2;have w2:=oku (pr i).1 (pr i).2;obtain⟨q,q0,q1,q2,q3,q4,q5⟩:=Oo okd oku k (i+1) (if fh (dn (pr i).1 (pr i).2).1 o.1<0 then(dn (pr i).1 (pr i).2).1 else o.1,if 0<fh (up (pr i).1 (pr i).2).1 o.2 then(up (pr i).1 (pr i).2).1 else o.2)
   (by simp only;split<;>assumption) (by simp only;split<;>assumption) fun j h1 h2=>h j ω ω
  have a1:zI q.1<=zI o.1/\zI q.1<=zI (E9 dn pr i).1:=by
   simp only at q1;split at q1
   ·rename_i hc;have:=c1.1 hc;exact⟨by omega,q1⟩
   ·rename_i hc;have:=mt c1.2 hc;exact⟨q1,by show zI q.1<=zI (dn (pr i).1 (pr i).2).1;omega⟩
  have a2:zI o.2<=zI q.2/\zI (E9 up pr i).1<=zI q.2:=by
   simp only at q2;split at q2
   ·rename_i hc;have:=c2.1 hc;exact⟨by omega,q2⟩
   ·rename_i hc;have:=mt c2.2 hc;exact⟨q2,by show zI (up (pr i).1 (pr i).2).1<=zI q.2;omega⟩
  refine⟨q,q0,a1.1,a2.1,fun j h1 h2=>?_,?_,?_⟩
  ·rcases Nat.eq_or_lt_of_le h1 with rfl|h3
   ·exact⟨a1.2,a2.2⟩
   ·exact q3 j h3 ω
  ·rcases q4 with q4| ⟨j,h1,h2,h3⟩
   ·simp only at q4;split at q4
    ·exact Or.inr ⟨i,avt _,by omega,q4⟩
    ·exact Or.inl q4
   ·exact Or.inr ⟨j,by omega,by omega,h3⟩
  ·rcases q5 with q5| ⟨j,h1,h2,h3⟩
   ·simp only at q5;split at q5
    ·exact Or.inr ⟨i,avt _,by omega,q5⟩
    ·exact Or.inl q5
   ·exact Or.inr ⟨j,by omega,by omega,h3⟩
theorem aaM(okd:∀a b,vd (dn a b).1=true)(oku:∀a b,vd (up a b).1=true)(h:∀j,j<4->(E9 dn pr j).2=0/\(E9 up pr j).2=0):
  ∃q,pR dn up pr=some q/\(∀j,j<4->zI q.1<=zI (E9 dn pr j).1/\zI (E9 up pr j).1<=zI q.2)/\(∃j,j<4/\q.1=(E9 dn pr j).1)/\∃j,j<4/\q.2=(E9 up pr j).1:=by
 obtain⟨q,q0,q1,q2,q3,q4,q5⟩:=Oo okd oku 3 1 ((dn (pr 0).1 (pr 0).2).1,(up (pr 0).1 (pr 0).2).1) (okd _ _) (oku _ _) fun j h1 h2=>h j ω;refine⟨q,?_,fun j hj=>?_,?_,?_⟩
 ·unfold pR;rw[if_pos (h 0 δ)];exact q0
 ·rcases Nat.eq_zero_or_pos j with rfl|h1
  ·exact⟨q1,q2⟩
  ·exact q3 j h1 ω
 ·rcases q4 with q4| ⟨j,h1,h2,h3⟩
  ·exact⟨0,by decide,q4⟩
  ·exact⟨j,by omega,h3⟩
 ·rcases q5 with q5| ⟨j,h1,h2,h3⟩
  ·exact⟨0,by decide,q5⟩
  ·exact⟨j,by omega,h3⟩
end
theorem agC{x:Ri}(h:∃q,In q x)(ha:x.all=false):zI x.lo<=zI x.hi:=by
 obtain⟨q,rfl| ⟨_,_,h1,h2⟩⟩:=h
 ·cases ha
 ·exact BB.1 (Rat.le_trans h1 h2)
theorem ank{x y:Ri}(hx:VI x)(hy:VI y)(i:Nat):vd (gw x y i).1=true/\vd (gw x y i).2=true:=by
 unfold gw;split
 ·exact⟨hx.1.1,hy.1.1⟩
 ·exact⟨hx.1.1,hy.2.1⟩
 ·exact⟨hx.2.1,hy.1.1⟩
 ·exact⟨hx.2.1,hy.2.1⟩
theorem aq7{d:Rd}{p:Int}{n:Nat}{up:Bool}:vd (pw d n p up).1=true:=by
 unfold pw;exact(SP _ _ Jy).1
theorem Oq{d:Rd}(v:vd d=true):vd (rQ d)=true/\zI (rQ d)=((zI d).natAbs:Int):=by
 unfold rQ;by_cases h:d.m.length=0
 ·rw[if_pos (Or.inr h),du h];exact⟨rfl,du rfl⟩
 ·refine⟨?_,?_⟩
  ·simp_all[vd,if_neg]
  grind[zI,mg]
theorem agD{d:Rd}(v:vd d=true):(0<gb d↔0<zI d)/\(gb d<0↔zI d<0):=by
 have h0:d.m.length=0->zI d=0:=du;have hp:d.m.length≠0->0<mg d:=fun h=>by
  exact Nat.mul_pos (by grind[Gg]) (avJ _)
 unfold gb;by_cases h:d.m.length=0
 ·omega
 ·grind[zI]
theorem anl{x:Ri}(h:VI x)(hle:zI x.lo<=zI x.hi):vd (AT x)=true/\zI (AT x)=(if 0<zI x.lo then zI x.lo else if zI x.hi<0 then-zI x.hi else 0):=by
 obtain⟨a1,a2⟩:=Oq h.1.1;obtain⟨b1,b2⟩:=Oq h.2.1;obtain⟨s1,s2⟩:=agD h.1.1;obtain⟨t1,t2⟩:=agD h.2.1;have c:=On a1 b1;unfold AT Jf kL;by_cases k1:0<zI x.lo
 ·grind
 ·rw[if_neg (mt s1.1 k1),if_neg k1];by_cases k2:zI x.hi<0
  ·grind
  ·rw[if_neg (mt t2.1 k2),if_pos rfl,if_neg k2];exact⟨rfl,du rfl⟩
theorem anm{x:Ri}(h:VI x):vd (Hl x)=true/\zI (Hl x)=(if(zI x.lo).natAbs<=(zI x.hi).natAbs then((zI x.hi).natAbs:Int)else(zI x.lo).natAbs):=by
 obtain⟨a1,a2⟩:=Oq h.1.1;obtain⟨b1,b2⟩:=Oq h.2.1;have c:=On a1 b1;grind[Hl,kN]
end Go.Ab
