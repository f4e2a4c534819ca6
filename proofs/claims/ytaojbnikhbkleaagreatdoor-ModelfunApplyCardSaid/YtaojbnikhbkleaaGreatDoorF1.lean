/-
  ModelfunApply holds at every input of its card. Part F1.
-/
import Derived.Test.YtaojbnikhbkleaaGreatDoorE1
open Nat renaming add_assoc → aFZ, add_mul → aFf, add_zero → aFA, div_add_mod → aFM, div_le_self → aF1, le_of_ble_eq_true → aFp, le_refl → aET, le_trans → aEX, lt_of_le_of_lt → aFl, lt_of_lt_of_le → aFQ, min_eq_left → aFW, mod_eq_of_lt → aFG, mod_lt → aFx, mul_assoc → aFj, mul_comm → aFd, mul_le_mul_left → aFV, mul_le_mul_right → aE4, pow_add → aE2, pow_le_pow_right → aFu, pow_succ → aFJ, reduceMod → aFD, reduceSub → aFt, two_pow_pos → aE7, zero_add → aES, zero_le → aE9
open Int renaming eq_ofNat_of_zero_le → aFy, natCast_mul → aF2, reduceEq → aEP, toNat_natCast → aEY
open Bool renaming and_eq_true → aEV, and_false → aFT, and_self → aFI, and_true → aFE, false_and → aE0, false_eq_true → aFv, false_ne_true → aE3, not_eq_true' → aFS, or_eq_true → aF0, true_and → aEW
open List renaming length → O, all_cons → aFa, all_nil → aFF, append_assoc → aFO, append_nil → aE8, cons_append → aFb, drop_eq_getElem_cons → aFe, drop_eq_nil_of_le → aFq, getD_eq_getElem?_getD → aF3, getElem?_eq_getElem → aE1, getElem?_map → aFw, getElem?_of_mem → aFL, getElem_mem → aFg, length_cons → aFk, length_map → aFh, length_nil → aFs, length_replicate → aFU, length_set → aFR, map_congr_left → aFn, map_cons → aFr, map_id' → aFH, map_nil → aFB, mem_map → aFN, mem_of_getElem? → aE6, nil_append → aE5, replicate → aER, take_of_length_le → aFi
open Option renaming bind_eq_some_iff → aEQ, bind_some → aEZ, map_eq_some_iff → aEU, map_some → aFK
open Rat renaming mul_le_mul_of_nonneg_right → aFP
set_option linter.all false
namespace Go.Ab
open Go Go.IntWalk
set_option maxRecDepth 4000
set_option maxHeartbeats 8000000
variable{M N f id j m n st:Nat}{cs:List Ri}{ds:List Int}{h:aj}{l y:Rat}{lo w x:Ri}{op:AOp}{p:Int}{s:aM}
abbrev G:=Nat->Rat
def pl(x:Rat)(v:G):Nat->Nat->Rat
 |_,0=>0
 |i,c+1=>v i+x*pl x v (i+1) c
def nw(t:Rat)(v:G):Nat->Nat->Rat
 |0,i=>v i
 |n+1,i=>nw t v n i+t*nw t v n (i+1)
def dc(t:Rat)(v:G):Nat->Nat->Rat
 |0,i=>v i
 |n+1,i=>(1-t)*dc t v n i+t*dc t v n (i+1)
def gs(g:G)(a:Nat)(x:Rat):G:=fun i=>if i=a then x else g i
def P5(lo:Rat)(ad:Nat->Nat)(i:Nat):Nat->G->G
 |0,g=>g
 |k+1,g=>P5 lo ad i k (gs g (ad (i+k)) (g (ad (i+k))+lo*g (ad (i+k+1))))
def P6(lo:Rat)(ad:Nat->Nat):Nat->Nat->G->G
 |0,_,g=>g
 |k+1,i,g=>P6 lo ad k (i+1) (P5 lo ad i (k+1) g)
def WX(w:Rat)(ad:Nat->Nat):Nat->Nat->Rat->G->G
 |0,_,_,g=>g
 |k+1,j,b,g=>WX w ad k (j+1) (b*w) (gs g (ad j) (g (ad j)*(b*w)))
def P7(n:Nat)(ad:Nat->Nat):Nat->Nat->Rat->G->G
 |0,_,_,g=>g
 |k+1,j,b,g=>P7 n ad k (j+1) (b*(n-j+1)/j) (gs g (ad j) (g (ad j)/ (b*(n-j+1)/j)))
def TB(ad:Nat->Nat)(j:Nat):Nat->G->G
 |0,g=>g
 |k+1,g=>TB ad j k (gs g (ad (j+k+1)) (g (ad (j+k+1))+g (ad (j+k))))
def WY(ad:Nat->Nat):Nat->Nat->G->G
 |0,_,g=>g
 |k+1,j,g=>WY ad k (j+1) (TB ad j (k+1) g)
def kG:Nat->Nat->Nat
 |_,0=>1
 |0,_+1=>0
 |n+1,k+1=>kG n k+kG n (k+1)
def atd{lo}{ad}(hi:∀a b,ad a=ad b↔a=b){i}:∀k g,(∀a,(∀m,i<=m->m<i+k->a≠ad m)->P5 lo ad i k g a=g a)/\(∀m,i<=m->m<i+k->P5 lo ad i k g (ad m)=g (ad m)+lo*P5 lo ad i k g (ad (m+1))):=by
 intro k;induction k with
 |zero=>exact fun g=>⟨fun _ _=>rfl,fun m h1 h2=>by omega⟩
 |succ k ih=>
  intro g;have e:P5 lo ad i (k+1) g=P5 lo ad i k (gs g (ad (i+k)) (g (ad (i+k))+lo*g (ad (i+k+1)))):=rfl;rw[e];obtain⟨h1,h2⟩:=ih (gs g (ad (i+k)) (g (ad (i+k))+lo*g (ad (i+k+1))));constructor
  ·intro a ha;rw[h1 a fun m hm hk=>ha m hm ω,gs,av (ha _ ω ω)]
  ·intro m hm hk;by_cases hq:m=i+k
   ·grind[gs]
   ·rw[h2 m hm ω,gs,av γ]
theorem ate{x u lo}(hx:x=lo+u){v w}:∀k i,(∀m,i<=m->m<i+k->w m=v m+lo*w (m+1))->w (i+k)=v (i+k)->pl x v i (k+1)=w i+u*pl x w (i+1) k:=by
 intro k;induction k with
 |zero=>grind[pl]
 |succ k ih=>
  intro i h1 h2;have h3:=ih (i+1) (fun m a b=>h1 m ω ω) γ;grind[pl]
def atf{x u lo}(hx:x=lo+u){ad}(hi:∀a b,ad a=ad b↔a=b):∀k i g,(∀a,(∀m,i<=m->m<i+k->a≠ad m)->P6 lo ad k i g a=g a)/\pl x (fun m=>g (ad m)) i (k+1)=pl u (fun m=>P6 lo ad k i g (ad m)) i (k+1):=by
 intro k;induction k with
 |zero=>simp_all[pl,P6]
 |succ k ih=>
  intro i g;obtain⟨h1,h2⟩:=atd (lo:=lo) hi (i:=i) (k+1) g;have e:P6 lo ad (k+1) i g=P6 lo ad k (i+1) (P5 lo ad i (k+1) g):=rfl;rw[e];generalize P5 lo ad i (k+1) g=g1 at*
  obtain⟨h3,h4⟩:=ih (i+1) g1;constructor
  ·grind
  ·rw[ate hx (v:=fun m=>g (ad m)) (w:=fun m=>g1 (ad m)) (k+1) i h2 (h1 _ fun m _ hk=>by grind),h4];show _=P6 lo ad k (i+1) g1 (ad i)+u*_;grind
def atg{w}{ad}(hi:∀a b,ad a=ad b↔a=b):∀k j b g,(∀a,(∀m,j<=m->m<j+k->a≠ad m)->WX w ad k j b g a=g a)/\(∀m,m<k->WX w ad k j b g (ad (j+m))=g (ad (j+m))*(b*w^ (m+1))):=by
 intro k;induction k with
 |zero=>exact fun j b g=>⟨fun _ _=>rfl,fun m h=>by omega⟩
 |succ k ih=>
  intro j b g;have e:WX w ad (k+1) j b g=WX w ad k (j+1) (b*w) (gs g (ad j) (g (ad j)*(b*w))):=rfl;rw[e];obtain⟨h1,h2⟩:=ih (j+1) (b*w) (gs g (ad j) (g (ad j)*(b*w)));constructor
  ·intro a ha;rw[h1 a fun m hm hk=>ha m ω ω,gs,av (ha _ ω ω)]
  ·intro m hm;cases m with
   |zero=>
    rw[h1 _ fun m hm hk=>by grind];simp[gs]
   |succ m=>
    have:=h2 m ω;rw[show j+1+m=j+(m+1)by omega]at this;rw[this,gs,av γ,Rat.pow_succ w (m+1),Rat.pow_succ w m];grind
theorem ath{w t}{v z}:∀c i,(∀m,i<=m->m<i+c->z m=v m*w^m)->pl t z i c=w^i*pl (w*t) v i c:=by
 intro c;induction c with
 |zero=>grind[pl]
 |succ c ih=>
  grind[pl,Rat.pow_succ]
theorem H1(n):kG n 0=1:=by cases n<;>rfl
theorem Ki:∀n k,n<k->kG n k=0
 |_,0,h=>by omega
 |0,_+1,_=>rfl
 |n+1,k+1,h=>by
  show kG n k+kG n (k+1)=0;rw[Ki n k ω,Ki n (k+1) ω]
def OX:∀n k,k<=n->(kG n (k+1))*(k+1)=kG n k*((n:Int)-k)
 |0,k,h=>by
  have:k=0:=ω
  subst this;rfl
 |n+1,0,_=>by
  have:=OX n 0 ω;show(kG n 0+kG n 1:Nat)*_=(kG (n+1) 0:Int)*_;simp only[H1]at this⊢;simp at this⊢;omega
 |n+1,k+1,h=>by
  have h1:=OX n k ω;show(kG n (k+1)+kG n (k+1+1):Nat)*_=((kG n k+kG n (k+1)):Int)*_;by_cases hk:k+1<=n
  ·have h2:=OX n (k+1) hk;grind
  ·have:n=k:=ω
   subst this;rw[Ki n (n+1) ω,Ki n (n+1+1) ω];simp
def aeA:∀n k,k<=n->0<kG n k
 |n,0,_=>by grind[H1]
 |n+1,k+1,h=>Nat.add_pos_left (aeA n k ω) _
def ati{n}{ad}(hi:∀a b,ad a=ad b↔a=b):∀k j (b:Rat) g,j+1+k=n+1->b=kG n j->(∀a,(∀m,j+1<=m->m<j+1+k->a≠ad m)->P7 n ad k (j+1) b g a=g a)/\(∀m,m<k->P7 n ad k (j+1) b g (ad (j+1+m))*kG n (j+1+m)=g (ad (j+1+m))):=by
 intro k;induction k with
 |zero=>exact fun j b g _ _=>⟨fun _ _=>rfl,fun m h=>by omega⟩
 |succ k ih=>
  intro j b g hk hb;have e:P7 n ad (k+1) (j+1) b g=P7 n ad k (j+1+1) (b*(n- (j+1:Nat)+1)/ (j+1:Nat)) (gs g (ad (j+1)) (g (ad (j+1))/ (b*(n- (j+1:Nat)+1)/ (j+1:Nat)))):=rfl;have hb2:b*(n- (j+1:Nat)+1)/ (j+1:Nat)=kG n (j+1):=by
   have h1:=OX n j ω;have h2:=by
    have:=congrArg (fun z:Int=>(z:Rat)) h1;simp only[Rat.intCast_mul,Rat.intCast_sub,Rat.intCast_add,Rat.intCast_natCast]at this;omega
   grind
  rw[e,hb2];have hp:(kG n (j+1):Rat)≠0:=by
   have:=aeA n (j+1) ω;intro h0
   simp_all
  obtain⟨h1,h2⟩:=ih (j+1) (kG n (j+1)) (gs g (ad (j+1)) (g (ad (j+1))/kG n (j+1))) ω rfl;constructor
  ·intro a ha;rw[h1 a fun m hm hk=>ha m ω ω,gs,av (ha _ ω ω)]
  ·intro m hm;cases m with
   |zero=>
    rw[h1 _ fun m hm hk=>by grind];simp only[gs,aFA,if_true];grind
   |succ m=>
    have:=h2 m ω;rw[show j+1+1+m=j+1+(m+1)by omega]at this
    simp_all[gs,av]
def atj{t}{u v w}:∀c i,(∀m,i<=m->m<i+c->w m=u m+v m)->pl t w i c=pl t u i c+pl t v i c:=by
 intro c;induction c with
 |zero=>grind[pl]
 |succ c ih=>
  grind[pl]
def Rw{t}{v w}{d}:∀c i,(∀m,i<=m->m<i+c->w m=v (m+d))->pl t w i c=pl t v (i+d) c:=by
 intro c;induction c with
 |zero=>intro i _;rfl
 |succ c ih=>
  grind[pl]
def aqt{t}{v}:∀c i,v (i+c)=0->pl t v i (c+1)=pl t v i c:=by
 intro c;induction c with
 |zero=>grind[pl]
 |succ c ih=>
  grind[pl]
theorem av1{t}{v}:∀n i,nw t v n i=pl t (fun m=>kG n m*v (i+m)) 0 (n+1):=by
 intro n;induction n with
 |zero=>simp only[nw,pl,kG,aFA];grind
 |succ n ih=>
  intro i;have e1:=aqt (t:=t) (v:=fun m=>(kG n m)*v (i+m)) (n+1) 0 (by simp_all[Ki]);have e2:pl t (fun m=>(kG n m)*v (i+m)) 0 (n+1+1)=(kG n 0)*v (i+0)+t*pl t (fun m=>(kG n m)*v (i+m)) (0+1) (n+1):=rfl;have e3:pl t (fun m=>(kG (n+1) m)*v (i+m)) 0 (n+1+1)=(kG (n+1) 0)*v (i+0)+t*pl t (fun m=>(kG (n+1) m)*v (i+m)) (0+1) (n+1):=rfl;have e4:=Rw (t:=t) (d:=1) (w:=fun m=>(kG n (m+1))*v (i+(m+1))) (v:=fun m=>(kG n m)*v (i+m)) (n+1) 0 (fun m _ _=>rfl);have e5:=Rw (t:=t) (d:=1) (w:=fun m=>(kG (n+1) (m+1))*v (i+(m+1))) (v:=fun m=>(kG (n+1) m)*v (i+m)) (n+1) 0 (fun m _ _=>rfl);have e6:=atj (t:=t) (w:=fun m=>(kG (n+1) (m+1))*v (i+(m+1))) (u:=fun m=>(kG n m)*v (i+1+m)) (v:=fun m=>(kG n (m+1))*v (i+(m+1))) (n+1) 0 (fun m _ _=>by
   have:kG (n+1) (m+1)=kG n m+kG n (m+1):=rfl;simp only[this,show i+1+m=i+(m+1)by omega,Rat.natCast_add];grind)
  grind[nw,H1]
def atk{ad}(hi:∀a b,ad a=ad b↔a=b){j}:∀k g,(∀a,(∀m,j<=m->m<j+k->a≠ad (m+1))->TB ad j k g a=g a)/\(∀m,j<=m->m<j+k->TB ad j k g (ad (m+1))=g (ad (m+1))+g (ad m)):=by
 intro k;induction k with
 |zero=>exact fun g=>⟨fun _ _=>rfl,fun m h1 h2=>by omega⟩
 |succ k ih=>
  intro g;have e:TB ad j (k+1) g=TB ad j k (gs g (ad (j+k+1)) (g (ad (j+k+1))+g (ad (j+k)))):=rfl;rw[e];obtain⟨h1,h2⟩:=ih (gs g (ad (j+k+1)) (g (ad (j+k+1))+g (ad (j+k))));constructor
  ·intro a ha;rw[h1 a fun m hm hk=>ha m hm ω,gs,av (ha _ ω ω)]
  ·intro m hm hk;by_cases hq:m=j+k
   ·subst hq;rw[h1 _ fun m hm hk=>by grind];simp[gs]
   ·rw[h2 m hm ω,gs,gs,av γ,av γ]
def atl{t}{v w}{j k}(h:∀m,j<=m->m<=j+k->w (m+1)=v (m+1)+v m):∀d m,j<=m->m+d<=j+k->nw t w d (m+1)=nw t v d (m+1)+nw t v d m:=by
 intro d;induction d with
 |zero=>exact fun m h1 h2=>h m h1 h2
 |succ d ih=>
  grind[nw]
def atn{t}{ad}(hi:∀a b,ad a=ad b↔a=b):∀k j g,(∀a,(∀m,j<=m->m<j+k->a≠ad (m+1))->WY ad k j g a=g a)/\∀d,d<=k->dc t (fun m=>WY ad k j g (ad m)) d j=nw t (fun m=>g (ad m)) d j:=by
 intro k;induction k with
 |zero=>
  intro j g;refine⟨fun _ _=>rfl,fun d hd=>?_⟩;have:d=0:=ω
  subst this;rfl
 |succ k ih=>
  intro j g;obtain⟨h1,h2⟩:=atk hi (j:=j) (k+1) g;have e:WY ad (k+1) j g=WY ad k (j+1) (TB ad j (k+1) g):=rfl;rw[e];generalize TB ad j (k+1) g=g1 at*
  obtain⟨h3,h4⟩:=ih (j+1) g1;refine⟨fun a ha=>by rw[h3 a fun m hm hk=>ha m ω ω,h1 a fun m hm hk=>ha m hm hk],fun d=>?_⟩;induction d with
  |zero=>
   intro _;show WY ad k (j+1) g1 (ad j)=g (ad j);grind
  |succ d ihd=>
   intro hd;have q3:=atl (t:=t) (v:=fun m=>g (ad m)) (w:=fun m=>g1 (ad m)) (j:=j) (k:=k) (fun m a b=>h2 m a ω) d j (aET _) ω;grind[dc,nw]
def TC(lo w:Rat)(n:Nat)(ad:Nat->Nat)(g:G):G:=WX w ad n 1 1 (P6 lo ad n 0 g)
def TD(n:Nat)(ad:Nat->Nat)(g:G):G:=WY ad n 0 (P7 n ad n 1 1 g)
theorem ato{x t lo w}(hx:x=lo+w*t){ad}(hi:∀a b,ad a=ad b↔a=b)(n)(g):(∀a,(∀m,m<=n->a≠ad m)->TC lo w n ad g a=g a)/\pl x (fun m=>g (ad m)) 0 (n+1)=pl t (fun m=>TC lo w n ad g (ad m)) 0 (n+1):=by
 obtain⟨a1,a2⟩:=atf hx hi n 0 g;unfold TC;generalize P6 lo ad n 0 g=g1 at*
 obtain⟨b1,b2⟩:=atg (w:=w) hi n 1 1 g1;generalize WX w ad n 1 1 g1=g2 at*
 rw[a2,ath (w:=w) (t:=t) (v:=fun m=>g1 (ad m)) (z:=fun m=>g2 (ad m)) (n+1) 0 (fun m _ hm=>by
  cases m with
  |zero=>
   grind
  |succ m=>
   grind),Rat.pow_zero]
 grind
def atp{t}{ad}(hi:∀a b,ad a=ad b↔a=b)(n)(g):(∀a,(∀m,m<=n->a≠ad m)->TD n ad g a=g a)/\pl t (fun m=>g (ad m)) 0 (n+1)=dc t (fun m=>TD n ad g (ad m)) n 0:=by
 obtain⟨c1,c2⟩:=ati (n:=n) hi n 0 1 g ω (by rw[H1];rfl);unfold TD;generalize P7 n ad n 1 1 g=g3 at*
 obtain⟨d1,d2⟩:=atn (t:=t) hi n 0 g3;rw[d2 n (aET _),av1];have e:=Rw (t:=t) (d:=0) (v:=fun m=>g (ad m)) (w:=fun m=>(kG n m)*g3 (ad (0+m))) (n+1) 0 (fun m _ hm=>by
  cases m with
  |zero=>
   have q1:=c1 (ad 0) fun m h _=>by grind
   simp_all[aFA,H1]
  |succ m=>
   grind)
 grind
def pQ(n:Nat):Rat:=(2^n:Int)
def eQ(n:Nat):Rat:=1/pQ n
theorem aj5(n):0<pQ n:=by
 have:(0:Int)<2^n:=Int.pow_pos δ;unfold pQ;exact_mod_cast this
theorem NI(n):eQ n*pQ n=1:=by
 grind[aj5,eQ]
def abu(n):0<eQ n:=by
 have h:=NI n;refine Rat.not_le.1 fun hn=>?_;have:=aFP hn (Rat.le_of_lt (aj5 n));grind
def EQ:Rat:=eQ 16384
theorem Kj:0<EQ:=abu _
def qv(d:Rd):Rat:=(zI d)*EQ
theorem Kk{a b:Int}(h:a<=b):(a:Rat)<=b:=by exact_mod_cast h
theorem Fc{a b}:qv a<=qv b↔zI a<=zI b:=by
 unfold qv;constructor
 ·intro h;refine Int.not_lt.1 fun hc=>?_;have h1:(zI b:Rat)<zI a:=by exact_mod_cast hc
  have:=Rat.mul_lt_mul_of_pos_right h1 Kj;grind
 grind[aFP,Kk,Rat.le_of_lt,Kj]
theorem NJ:qv aC=0:=by
 unfold qv;rw[cS rfl];grind
theorem Kl{d}(h:vd d=true):qv (gW d)=-qv d/\vd (gW d)=true:=by
 obtain⟨a,b⟩:=Cx h;unfold qv;rw[a,Rat.intCast_neg];grind
def In(q:Rat)(x:Ri):Prop:=x=bt\/x.all=false/\VI x/\qv x.lo<=q/\q<=qv x.hi
theorem In.vi{q}{x}(h:In q x):VI x:=by
 rcases h with rfl|h
 ·exact gX
 grind
theorem In.ok{q}{x}(h:In q x):OkI x:=⟨h.vi.1.2,h.vi.2.2⟩
theorem In.k{q}{x}(h:In q x):x=bt/\kI x=false\/kI x=true/\qv x.lo<=q/\q<=qv x.hi:=by
 rcases h with rfl| ⟨h1,h2,h3,h4⟩
 ·exact Or.inl ⟨rfl,rfl⟩
 ·exact Or.inr ⟨avR h2.1.1 h2.2.1 (Fc.1 (Rat.le_trans h3 h4)) h1,h3,h4⟩
theorem In.v{q}{x}(h:In q x):Ab.vi x=true:=by
 rcases h.k with⟨rfl,_⟩| ⟨h,_⟩
 ·rfl
 ·unfold kI at h;grind
def YD{q}{r s}(vr:vd r.1=true/\Ok0 r.1)(vs:vd s.1=true/\Ok0 s.1)(h1:r.2=0->qv r.1<=q)(h2:s.2=0->q<=qv s.1):In q (kD r s):=by
 unfold kD;split
 ·next h=>exact Or.inr ⟨rfl,⟨vr,vs⟩,h1 h.1,h2 h.2⟩
 ·exact Or.inl rfl
theorem wK{d}(h:vd d=true)(ok:Ok0 d):In (qv d) ⟨d,d,false⟩:=Or.inr ⟨rfl,⟨⟨h,ok⟩,⟨h,ok⟩⟩,Rat.le_refl,Rat.le_refl⟩
theorem pZ{p}(hp:bv p=true):8<=p/\p<=512:=by
 simp_all[bv,aEV,decide_eq_true_eq]
theorem TE{a b}{p}(ha:vd a=true)(hb:vd b=true)(hp:bv p=true):bo p [a,b]=0:=by
 grind[pZ,bo]
theorem abv{a b}{p}{up}(ha:vd a=true)(hb:vd b=true)(hp:bv p=true)(h:(dh a b p up).2=0):(up=true->qv a+qv b<=qv (dh a b p up).1)/\(up=false->qv (dh a b p up).1<=qv a+qv b):=by
 unfold dh at h⊢;rw[ap (TE ha hb hp)]at h⊢;have hh:=OV (j:=0) (pZ hp) h;obtain⟨h1,h2⟩:=hh;simp only[Int.pow_zero,Int.mul_one]at h1 h2;have e:qv a+qv b=(zI a+zI b:Int)*EQ:=by unfold qv;grind
 rw[e];exact⟨fun hu=>aFP (Kk (h1 hu)) (Rat.le_of_lt Kj),fun hu=>aFP (Kk (h2 hu)) (Rat.le_of_lt Kj)⟩
def TF{z r:Int}(n):(z<=r*2^n->z*eQ n*eQ n<=r*eQ n)/\(r*2^n<=z->r*eQ n<=z*eQ n*eQ n):=by
 have e:r*eQ n=(r*2^n:Int)*eQ n*eQ n:=by
  rw[Rat.intCast_mul,show((2:Int)^n:Int)=pQ n from rfl];grind[NI]
 rw[e];have h0:=Rat.le_of_lt (abu n);exact⟨fun h=>aFP (aFP (Kk h) h0) h0,fun h=>aFP (aFP (Kk h) h0) h0⟩
theorem TG{a b}{p}{up}(ha:vd a=true)(hb:vd b=true)(hp:bv p=true)(h:(eJ a b p up).2=0):(up=true->qv a*qv b<=qv (eJ a b p up).1)/\(up=false->qv (eJ a b p up).1<=qv a*qv b):=by
 unfold eJ at h⊢;rw[ap (TE ha hb hp)]at h⊢;obtain⟨h1,h2⟩:=OV (j:=16384) (pZ hp) h;have e:qv a*qv b=(zI a*zI b:Int)*EQ*EQ:=by unfold qv;grind
 rw[e];exact⟨fun hu=>(TF _).1 (h1 hu),fun hu=>(TF _).2 (h2 hu)⟩
def sB{x y}{a b}{p}(hx:In a x)(hy:In b y):In (a+b) (de x y p):=by
 unfold de;split
 ·next h=>
  simp only[aEV]at h;obtain⟨⟨kx,ky⟩,hp⟩:=h;rcases hx.k with⟨rfl,h⟩| ⟨_,x1,x2⟩
  ·grind
  rcases hy.k with⟨rfl,h⟩| ⟨_,y1,y2⟩
  ·grind
  have ok:∀ {a b} {up},vd (dh a b p up).1=true/\Ok0 (dh a b p up).1:=fun{a b up}=>by
   grind[dh,xw,aO]
  refine YD ok ok (fun h=>?_) (fun h=>?_)
  ·have:=(abv hx.vi.1.1 hy.vi.1.1 hp h).2 rfl;grind
  ·have:=(abv hx.vi.2.1 hy.vi.2.1 hp h).1 rfl;grind
 ·exact Or.inl rfl
def aeB{x}{a}(hx:In a x):In (-a) (rW x):=by
 unfold rW;split
 ·next h=>
  rcases hx.k with⟨rfl,h1⟩| ⟨_,x1,x2⟩
  ·grind
  have n1:=Kl hx.vi.1.1;have n2:=Kl hx.vi.2.1;exact Or.inr ⟨rfl,⟨⟨n2.2,Cv hx.ok.hi⟩,⟨n1.2,Cv hx.ok.lo⟩⟩,by grind,by grind⟩
 ·exact Or.inl rfl
theorem OY{x y}{a b}{p}(hx:In a x)(hy:In b y):In (a-b) (EI x y p):=by
 have:=sB (p:=p) hx (aeB hy);rw[show a+-b=a-b by grind]at this;exact this
theorem NK{a b}(ha:vd a=true)(hb:vd b=true):(jz a b<0->qv a<=qv b)/\(¬jz a b<0->qv b<=qv a)/\(0<jz a b->qv b<=qv a)/\(¬0<jz a b->qv a<=qv b)/\(jz a b<=0↔qv a<=qv b)/\(0<=jz a b↔qv b<=qv a):=by
 unfold jz;grind[Fc,gH]
def VD{a b}(ha:vd a=true/\Ok0 a)(hb:vd b=true/\Ok0 b):qv (lw a b)<=qv a/\qv (lw a b)<=qv b/\vd (lw a b)=true/\Ok0 (lw a b)/\(∀q,q<=qv a->q<=qv b->q<=qv (lw a b)):=by
 obtain⟨c1,c2,c3,c4,c5,c6⟩:=NK ha.1 hb.1;grind[lw,Rat.le_refl]
def VE{a b}(ha:vd a=true/\Ok0 a)(hb:vd b=true/\Ok0 b):qv a<=qv (nS a b)/\qv b<=qv (nS a b)/\vd (nS a b)=true/\Ok0 (nS a b)/\(∀q,qv a<=q->qv b<=q->qv (nS a b)<=q):=by
 obtain⟨c1,c2,c3,c4,c5,c6⟩:=NK ha.1 hb.1;grind[nS,Rat.le_refl]
def LC{x y}{a b}(hx:In a x)(hy:In b y):(In a (GL x y)/\In b (GL x y)):=by
 unfold GL;split
 ·next h=>
  rcases hx.k with⟨rfl,h1⟩| ⟨_,x1,x2⟩
  ·grind
  rcases hy.k with⟨rfl,h1⟩| ⟨_,y1,y2⟩
  ·grind
  obtain⟨l1,l2,l3,l4,l5⟩:=VD hx.vi.1 hy.vi.1;obtain⟨m1,m2,m3,m4,m5⟩:=VE hx.vi.2 hy.vi.2;exact⟨Or.inr ⟨rfl,⟨⟨l3,l4⟩,⟨m3,m4⟩⟩,by grind,by grind⟩,Or.inr ⟨rfl,⟨⟨l3,l4⟩,⟨m3,m4⟩⟩,by grind,by grind⟩⟩
 ·exact⟨Or.inl rfl,Or.inl rfl⟩
theorem Rx{x y}{q}(hx:In q x)(hy:In q y):(tF x y).2=true/\In q (tF x y).1:=by
 unfold tF;rw[ap (by rw[hx.v,hy.v];rfl)];rcases hx with rfl| ⟨ha,hv,h1,h2⟩
 ·rw[ap (show bt.all=true from rfl)];grind
 ·rw[av γ];rcases hy with rfl| ⟨hb,hw,h3,h4⟩
  ·exact⟨rfl,Or.inr ⟨ha,hv,h1,h2⟩⟩
  ·rw[av γ];obtain⟨l1,l2,l3,l4,l5⟩:=VD hv.2 hw.2;obtain⟨m1,m2,m3,m4,m5⟩:=VE hv.1 hw.1;have a:=l5 q h2 h4;have b:=m5 q h1 h3;rw[ap ((NK m3 l3).2.2.2.2.1.2 (Rat.le_trans b a))];exact⟨rfl,Or.inr ⟨rfl,⟨⟨m3,m4⟩,⟨l3,l4⟩⟩,b,a⟩⟩
def aeC{dn up}{pr}(okd:∀a b,vd (dn a b).1=true/\Ok0 (dn a b).1)(oku:∀a b,vd (up a b).1=true/\Ok0 (up a b).1){v:Nat->Rat}
  (hd:∀i,i<4->(dn (pr i).1 (pr i).2).2=0->qv (dn (pr i).1 (pr i).2).1<=v i) (hu:∀i,i<4->(up (pr i).1 (pr i).2).2=0->v i<=qv (up (pr i).1 (pr i).2).1) {q} (hq:∀lo hi,(∀i,i<4->lo<=v i/\v i<=hi)->lo<=q/\q<=hi):In q (Mg (uD dn up pr)):=by
 have key:∀k i o,i+k=4->(vd o.1=true/\Ok0 o.1)->(vd o.2=true/\Ok0 o.2)->(∀j,j<i->qv o.1<=v j/\v j<=qv o.2)->In q (Mg (As dn up pr k i o)):=by
  intro k;induction k with
  |zero=>
   intro i o hi v1 v2 h;have:=hq _ _ fun j hj=>h j ω;exact Or.inr ⟨rfl,⟨v1,v2⟩,this.1,this.2⟩
  |succ k ih=>
   intro i o hi v1 v2 h;unfold As;split
   ·next he=>
    have od:=okd (pr i).1 (pr i).2;have ou:=oku (pr i).1 (pr i).2;obtain⟨c1,c2,_,_⟩:=NK od.1 v1.1;obtain⟨_,_,c3,c4,_⟩:=NK ou.1 v2.1;grind
   ·exact Or.inl rfl
 unfold uD;split
 ·grind
 ·exact Or.inl rfl
theorem aqu{xl xh x lo hi:Rat}(h1:xl<=x)(h2:x<=xh)(a:lo<=xl*y/\xl*y<=hi)(b:lo<=xh*y/\xh*y<=hi):lo<=x*y/\x*y<=hi:=by
 by_cases h:0<=y
 ·have:=aFP h1 h;have:=aFP h2 h;grind
 ·have h:0≤-y:=γ
  have:=aFP h1 h;have:=aFP h2 h;grind
def aeD{xl xh x yl yh lo hi:Rat}(h1:xl<=x)(h2:x<=xh)(h3:yl<=y)(h4:y<=yh)(a:lo<=xl*yl/\xl*yl<=hi)(b:lo<=xl*yh/\xl*yh<=hi)(c:lo<=xh*yl/\xh*yl<=hi)(d:lo<=xh*yh/\xh*yh<=hi):lo<=x*y/\x*y<=hi:=by
 grind[Rat.mul_comm,aqu]
def sC{x y}{a b}{p}(hx:In a x)(hy:In b y):In (a*b) (bX x y p):=by
 unfold bX;split
 ·next h=>
  simp only[aEV]at h;obtain⟨⟨kx,ky⟩,hp⟩:=h;rcases hx.k with⟨rfl,h⟩| ⟨_,x1,x2⟩
  ·grind
  rcases hy.k with⟨rfl,h⟩| ⟨_,y1,y2⟩
  ·grind
  have ok:∀up a b,vd (eJ a b p up).1=true/\Ok0 (eJ a b p up).1:=fun up a b=>by
   grind[eJ,xw,aO]
  have hv:∀i,vd (ed x y i).1=true/\vd (ed x y i).2=true:=fun i=>by
   unfold ed;split
   ·exact⟨hx.vi.1.1,hy.vi.1.1⟩
   ·exact⟨hx.vi.1.1,hy.vi.2.1⟩
   ·exact⟨hx.vi.2.1,hy.vi.1.1⟩
   ·exact⟨hx.vi.2.1,hy.vi.2.1⟩
  refine aeC (v:=fun i=>qv (ed x y i).1*qv (ed x y i).2) (ok false) (ok true) (fun i _ h=>(TG (hv i).1 (hv i).2 hp h).2 rfl) (fun i _ h=>(TG (hv i).1 (hv i).2 hp h).1 rfl) fun lo hi h=>?_;exact aeD x1 x2 y1 y2 (h 0 δ) (h 1 δ) (h 2 δ) (h 3 δ)
 ·exact Or.inl rfl
abbrev LF:=G->Rat
def CC(W v:G):Nat->Rat
 |0=>0
 |d+1=>CC W v d+W d*v d
def ui(d:Nat)(L:LF):Prop:=∃W,∀v,L v=CC W v d
theorem aj6{W v w}:∀d,(∀j,j<d->v j=w j)->CC W v d=CC W w d
 |0,_=>rfl
 |d+1,h=>by simp only[CC];rw[aj6 d fun j hj=>h j ω,h d ω]
theorem aeE{W v w}{a b}:∀d,CC W (fun j=>a*v j+b*w j) d=a*CC W v d+b*CC W w d
 |0=>by grind[CC]
 |d+1=>by simp only[CC];rw[aeE d];grind
theorem aoQ{U W v}{a b}:∀d,CC (fun j=>a*U j+b*W j) v d=a*CC U v d+b*CC W v d
 |0=>by grind[CC]
 |d+1=>by simp only[CC];rw[aoQ d];grind
def ui.cg{d}{L}(h:ui d L){v w}(e:∀j,j<d->v j=w j):L v=L w:=by
 obtain⟨W,h⟩:=h;rw[h,h,aj6 d e]
theorem ui.lin{d}{L}(h:ui d L){v w}{a b}:L (fun j=>a*v j+b*w j)=a*L v+b*L w:=by
 obtain⟨W,h⟩:=h;rw[h,h,h,aeE d]
theorem ui.zero{d}{L}(h:ui d L):L (fun _=>0)=0:=by
 have:=h.lin (v:=fun _=>0) (w:=fun _=>0) (a:=0) (b:=0);grind
theorem ui.swap{d c}{L P}(h:ui d L)(hP:ui c P)(f:Nat->Nat->Rat):P (fun j=>L (fun r=>f r j))=L (fun r=>P (fun j=>f r j)):=by
 obtain⟨W,hP⟩:=hP;simp only[hP];clear hP;induction c with
 |zero=>exact h.zero.symm
 |succ c ih=>
  simp only[CC];have:=h.lin (v:=fun r=>CC W (fun j=>f r j) c) (w:=fun r=>f r c) (a:=1) (b:=W c);grind
def aj7{d i}(h:i<d):ui d fun v=>v i:=by
 refine⟨fun j=>if j=i then 1 else 0,fun v=>?_⟩;have:∀c,CC (fun j=>if j=i then 1 else 0) v c=if i<c then v i else 0:=by
  intro c;induction c with
  |zero=>rfl
  |succ c ih=>
   simp only[CC,ih];grind
 grind
def ui.comb{d}{L M}(h:ui d L)(h':ui d M)(a b):ui d fun v=>a*L v+b*M v:=by
 obtain⟨W,h⟩:=h;obtain⟨U,h'⟩:=h';exact⟨fun j=>a*W j+b*U j,fun v=>by
  show a*L v+b*M v=_;rw[aoQ,h,h']⟩
def ann{d}:ui d fun _=>0:=⟨fun _=>0,fun v=>by
 induction d with
 |zero=>rfl
 |succ d ih=>grind[CC]⟩
theorem NL{x}{d}:∀c i,i+c<=d->ui d fun v=>pl x v i c
 |0,_,_=>ann
 |c+1,i,h=>by
  have:=(aj7 (d:=d) (i:=i) ω).comb (NL (x:=x) c (i+1) ω) 1 x;simp only[Rat.one_mul]at this;exact this
theorem TH{t}{d}:∀n i,i+n<d->ui d fun v=>dc t v n i
 |0,i,h=>aj7 h
 |n+1,i,h=>(TH (t:=t) n i ω).comb (TH n (i+1) ω) (1-t) t
theorem abw{t lo hi}(h0:0<=t)(h1:t<=1){v}:∀n i,(∀j,i<=j->j<=i+n->lo<=v j/\v j<=hi)->lo<=dc t v n i/\dc t v n i<=hi
 |0,i,h=>h i (aET _) (aET _)
 |n+1,i,h=>by
  have a:=abw h0 h1 n i fun j a b=>h j a ω;have b:=abw h0 h1 n (i+1) fun j a b=>h j ω ω;have h2:0<=1-t:=γ
  simp only[dc];have q1:=Rat.mul_le_mul_of_nonneg_left a.1 h2;have q2:=Rat.mul_le_mul_of_nonneg_left a.2 h2;have q3:=Rat.mul_le_mul_of_nonneg_left b.1 h0;have q4:=Rat.mul_le_mul_of_nonneg_left b.2 h0;grind
def ko:List (Nat×LF)->Nat->Nat->G->Rat
 |[],_,i,g=>g i
 |p::ls,s,i,g=>p.2 fun j=>ko ls (s*(p.1+1)) (i+j*s) g
def D0:List (Nat×LF)->Nat->Nat
 |[],s=>s
 |p::ls,s=>D0 ls (s*(p.1+1))
def TI(ls:List (Nat×LF)):Prop:=∀p∈ls,ui (p.1+1) p.2
def aj8{g1 g2}:∀ls,TI ls->∀s i,(∀q,q*s+s<=D0 ls s->g1 (i+q*s)=g2 (i+q*s))->ko ls s i g1=ko ls s i g2
 |[],_,s,i,h=>by
  have:=h 0 (by grind[D0]);grind[ko]
 |p::ls,ok,s,i,h=>by
  refine(ok p σ).cg fun j hj=>aj8 ls (fun q hq=>ok q γ) _ _ fun q hq=>?_;have e:i+j*s+q*(s*(p.1+1))=i+(j+q*(p.1+1))*s:=γ
  rw[e];refine h _ (aEX ?_ hq);have:(j+1)*s<=(p.1+1)*s:=aE4 _ hj;grind
theorem Ry{c}{P}(hP:ui c P){g}(a:Nat->Nat):∀ls,TI ls->∀s i,P (fun j=>ko ls s (i+a j) g)=ko ls s i fun i'=>P fun j=>g (i'+a j)
 |[],_,_,_=>rfl
 |p::ls,ok,s,i=>by
  show P (fun j=>p.2 fun r=>ko ls (s*(p.1+1)) (i+a j+r*s) g)=p.2 fun r=>ko ls (s*(p.1+1)) (i+r*s) _;rw[(ok p σ).swap hP];refine congrArg p.2 (funext fun r=>?_);rw[←Ry hP a ls (fun q hq=>ok q γ)];grind
def abx{d}{P B}(hP:ui (d+1) P)(hB:ui (d+1) B){post}(op:TI post){g g'}:∀pre,TI pre->∀s i,i<s->
  (∀i0 q,i0<D0 pre s->q*(D0 pre s*(d+1))+D0 pre s*(d+1)<=D0 post (D0 pre s*(d+1))->P (fun j=>g (i0+q*(D0 pre s*(d+1))+j*D0 pre s))=B (fun j=>g' (i0+q*(D0 pre s*(d+1))+j*D0 pre s)))->
  ko (pre++(d,P)::post) s i g=ko (pre++(d,B)::post) s i g'
 |[],_,s,i,hi,h=>by
  show P (fun j=>ko post (s*(d+1)) (i+j*s) g)=B (fun j=>ko post (s*(d+1)) (i+j*s) g');rw[Ry hP _ post op,Ry hB _ post op];exact aj8 post op _ _ fun q hq=>h i q hi hq
 |p::pre,ok,s,i,hi,h=>by
  refine(ok p σ).cg fun j hj=>abx hP hB op pre (fun q hq=>ok q (by simp[hq])) _ _ ?_ h;have:j*s<=p.1*s:=aE4 _ ω;grind
def aeF{lo hi}{g}:∀ls,(∀p∈ls,∀v,(∀j,j<=p.1->lo<=v j/\v j<=hi)->lo<=p.2 v/\p.2 v<=hi)->∀s i,(∀q,q*s+s<=D0 ls s->lo<=g (i+q*s)/\g (i+q*s)<=hi)->lo<=ko ls s i g/\ko ls s i g<=hi
 |[],_,s,i,h=>by
  have:=h 0 (by grind[D0]);grind[ko]
 |p::ls,ok,s,i,h=>by
  refine ok p σ _ fun j hj=>aeF ls (fun q hq=>ok q γ) _ _ fun q hq=>?_;have e:i+j*s+q*(s*(p.1+1))=i+(j+q*(p.1+1))*s:=γ
  rw[e];refine h _ (aEX ?_ hq);have:j*s<=p.1*s:=aE4 _ hj;grind
def ps(op:Nat->G->G)(s n:Nat):Nat->Nat->G->G
 |0,_,g=>g
 |k+1,i,g=>ps op s n k (i+1) (if i/s% (n+1)=0 then op i g else g)
theorem aqv{s n f f' m m'}(hs:0<s)(h1:f/s% (n+1)=0)(h2:f'/s% (n+1)=0)(hm:m<=n)(hm':m'<=n)(e:f+m*s=f'+m'*s):f=f':=by
 have h3:(f+m*s)/s% (n+1)=m:=by
  rw[Nat.add_mul_div_right _ _ hs,Nat.add_mod,h1,aES,Nat.mod_mod,aFG ω]
 have h4:(f'+m'*s)/s% (n+1)=m':=by
  rw[Nat.add_mul_div_right _ _ hs,Nat.add_mod,h2,aES,Nat.mod_mod,aFG ω]
 grind
def av2{L L'}{s n}(hs:0<s)(cL:ui (n+1) L)(cL':ui (n+1) L'){op}(hop:∀f g,(∀a,(∀m,m<=n->a≠f+m*s)->op f g a=g a)/\L (fun m=>g (f+m*s))=L' (fun m=>op f g (f+m*s))):
  ∀k i g,(∀f m,f<i->f/s% (n+1)=0->m<=n->ps op s n k i g (f+m*s)=g (f+m*s))/\∀f,i<=f->f<i+k->f/s% (n+1)=0->L (fun m=>g (f+m*s))=L' (fun m=>ps op s n k i g (f+m*s)):=by
 intro k;induction k with
 |zero=>exact fun i g=>⟨fun _ _ _ _ _=>rfl,fun f h1 h2=>by omega⟩
 |succ k ih=>
  intro i g;have e:ps op s n (k+1) i g=ps op s n k (i+1) (if i/s% (n+1)=0 then op i g else g):=rfl;rw[e];have hg:∀f m,f≠i->f/s% (n+1)=0->m<=n->(if i/s% (n+1)=0 then op i g else g) (f+m*s)=g (f+m*s):=fun f m hf h0 hm=>by
   grind[aqv]
  have hi:i/s% (n+1)=0->L (fun m=>g (i+m*s))=L' (fun m=>(if i/s% (n+1)=0 then op i g else g) (i+m*s)):=fun h=>by
   simp_all
  generalize(if i/s% (n+1)=0 then op i g else g)=g1 at*
  obtain⟨a,b⟩:=ih (i+1) g1;refine⟨fun f m hf h0 hm=>by rw[a f m ω h0 hm,hg f m ω h0 hm],fun f h1 h2 h0=>?_⟩;by_cases hq:f=i
  ·subst hq;rw[hi h0];exact cL'.cg fun m hm=>(a f m ω h0 ω).symm
  ·rw[←b f ω ω h0];exact cL.cg fun m hm=>(hg f m hq h0 ω).symm
def dl(a:Nat):G:=fun b=>if b=a then 1 else 0
theorem VF{a c}{g h}:∀ls,TI ls->∀s i,ko ls s i (fun b=>a*g b+c*h b)=a*ko ls s i g+c*ko ls s i h
 |[],_,_,_=>rfl
 |p::ls,ok,s,i=>by
  show p.2 (fun j=>ko ls _ (i+j*s) _)=a*p.2 _+c*p.2 _;rw[← (ok p σ).lin];refine congrArg p.2 (funext fun j=>?_);exact VF ls (fun q hq=>ok q γ) _ _
theorem atq{ls}(ok:TI ls){s i a}{g}{y}:ko ls s i (gs g a y)=ko ls s i g+(y-g a)*ko ls s i (dl a):=by
 have:gs g a y=fun b=>1*g b+(y-g a)*dl a b:=by
  grind[gs,dl]
 rw[this,VF ls ok];grind
def tZ:List Nat->List Rat->List (Nat×LF)
 |d::ds,x::xs=>(d,fun v=>pl x v 0 (d+1))::tZ ds xs
 |_,_=>[]
theorem OZ:∀ds xs,TI (tZ ds xs)
 |d::ds,x::xs=>fun p hp=>by
  rcases List.mem_cons.1 hp with rfl|hp
  ·simp_all[NL]
  ·exact OZ ds xs p hp
 |[],_=>fun _ h=>by grind[tZ]
 |_::_,[]=>fun _ h=>by grind[tZ]
def P8:List Rat->List Nat->Rat
 |x::xs,e::es=>x^e*P8 xs es
 |_,_=>1
def pos:List Nat->List Nat->Nat->Nat
 |d::ds,e::es,s=>e*s+pos ds es (s*(d+1))
 |_,_,_=>0
def TJ:List Nat->List Nat->Prop
 |d::ds,e::es=>e<=d/\TJ ds es
 |[],[]=>True
 |_,_=>False
theorem aoR{x y}{e}:∀c i,(e<i->pl x (fun j=>if j=e then y else 0) i c=0)/\(i<=e->e<i+c->pl x (fun j=>if j=e then y else 0) i c=x^ (e-i)*y)
 |0,i=>⟨fun _=>rfl,fun h1 h2=>by omega⟩
 |c+1,i=>by
  obtain⟨a,b⟩:=aoR (x:=x) (y:=y) (e:=e) c (i+1);simp only[pl];constructor
  ·grind
  ·intro h1 h2;by_cases h:i=e
   ·subst h;grind
   ·rw[av h,b ω ω,show e-i=e- (i+1)+1 by omega,Rat.pow_succ];grind
theorem aoS{s i i0 e:Nat}(h1:i<s)(h2:i0<s):i+j*s=i0+e*s↔i=i0/\j=e:=by
 constructor
 ·intro h;have a:(i+j*s) %s=i:=by rw[Nat.add_mul_mod_self_right,aFG h1]
  have b:(i0+e*s) %s=i0:=by rw[Nat.add_mul_mod_self_right,aFG h2]
  have c:i=i0:=γ
  subst c;exact⟨rfl,Nat.eq_of_mul_eq_mul_right ω (Nat.add_left_cancel h)⟩
 grind
theorem H2{s i j d}(h:i<s)(hj:j<=d):i+j*s<s*(d+1):=by
 have:j*s<=d*s:=aE4 _ hj;grind
theorem aeG:∀ds es xs,TJ ds es->O xs=O ds->∀s i i0,i<s->i0<s->ko (tZ ds xs) s i (dl (i0+pos ds es s))=if i=i0 then P8 xs es else 0
 |[],[],xs,_,hx,s,i,i0,_,_=>by
  have:=List.length_eq_zero_iff.1 hx;subst this;rfl
 |d::ds,e::es,x::xs,h,hx,s,i,i0,h1,h2=>by
  show pl x (fun j=>ko (tZ ds xs) (s*(d+1)) (i+j*s) (dl (i0+(e*s+pos ds es (s*(d+1)))))) 0 (d+1)=_;have hc:=(NL (x:=x) (d:=d+1) (d+1) 0 σ).cg (v:=fun j=>ko (tZ ds xs) (s*(d+1)) (i+j*s) (dl (i0+(e*s+pos ds es (s*(d+1)))))) (w:=fun j=>if j=e then(if i=i0 then P8 xs es else 0)else 0) (fun j hj=>by
   rw[←aFZ,aeG ds es xs h.2 γ (s*(d+1)) _ _ (H2 h1 ω) (H2 h2 h.1)];grind[aoS])
  rw[hc,(aoR (d+1) 0).2 ω (by have:=h.1;omega)];by_cases ha:i=i0
  ·rw[ap ha,ap ha];rfl
  grind
 |[],_::_,_,h,_,_,_,_,_,_=>h.elim
 |_::_,[],_,h,_,_,_,_,_,_=>h.elim
 |_::_,_::_,[],_,hx,_,_,_,_,_=>by grind
def aj9:∀ds es xs,TJ ds es->O xs=O ds->∀s i0,i0<s->i0+pos ds es s<D0 (tZ ds xs) s
 |[],[],xs,_,hx,s,i0,h2=>by
  exact h2
 |d::ds,e::es,x::xs,h,hx,s,i0,h2=>by
  show i0+(e*s+pos ds es (s*(d+1)))<D0 (tZ ds xs) (s*(d+1));rw[←aFZ];exact aj9 ds es xs h.2 γ _ _ (H2 h2 h.1)
 |[],_::_,_,h,_,_,_,_=>h.elim
 |_::_,[],_,h,_,_,_,_=>h.elim
 |_::_,_::_,[],_,hx,_,_,_=>by grind
theorem aeH:∀ds es es',TJ ds es->TJ ds es'->∀s i i0,i<s->i0<s->i+pos ds es s=i0+pos ds es' s->i=i0/\es=es'
 |[],[],[],_,_,_,_,_,_,_,h=>⟨h,rfl⟩
 |d::ds,e::es,e'::es',h,h',s,i,i0,h1,h2,hq=>by
  have:i+(e*s+pos ds es (s*(d+1)))=i0+(e'*s+pos ds es' (s*(d+1))):=hq;rw[←aFZ,←aFZ]at this;obtain⟨a,b⟩:=aeH ds es es' h.2 h'.2 _ _ _ (H2 h1 h.1) (H2 h2 h'.1) this;obtain⟨c,d⟩:=(aoS h1 h2).1 a;exact⟨c,by rw[d,b]⟩
 |[],_::_,_,h,_,_,_,_,_,_,_=>h.elim
 |_::_,[],_,h,_,_,_,_,_,_,_=>h.elim
 |[],[],_::_,_,h,_,_,_,_,_,_=>h.elim
 |_::_,_::_,[],_,h,_,_,_,_,_,_=>h.elim
def VG(h:0<y):0<y⁻¹:=by
 refine Rat.not_le.1 fun hn=>?_;have:=aFP hn (Rat.le_of_lt h);grind
theorem aeI{z:Rat}(h1:0<y)(h2:y<=z):z⁻¹<=y⁻¹:=by
 have a:=VG h1;have b:=VG (show 0<z by grind);have c:=aFP (aFP h2 (Rat.le_of_lt a)) (Rat.le_of_lt b);rw[show y*y⁻¹*z⁻¹=z⁻¹ by grind,show z*y⁻¹*z⁻¹=y⁻¹ by grind]at c;omega
def aka{z:Rat}(h:0<y/\y<=z\/y<=z/\z<0):z⁻¹<=y⁻¹:=by
 rcases h with⟨h1,h2⟩| ⟨h2,h1⟩
 ·grind[aeI]
 ·have:=aeI (y:=-z) (z:=-y) γ γ;grind
def yD{d}:(d.neg=true->zI d=-(mg d))/\(d.neg=false->zI d=mg d):=by
 simp_all[zI,ap]
def atr{a b}{p}{w}{N}(hN:N=16384)(oa:Ok0 a)(ob:Ok0 b)(va:vd a=true)(vb:vd b=true)(hp:8<=p/\p<=512)(a0:O a.m≠0)(b0:O b.m≠0)
  (h:(cx (ab a.m*2^yb a b p/ab b.m) (a.e-yb a b p-b.e) (decide (ab a.m*2^yb a b p%ab b.m≠0)) p w).2=0):
  ∃n:Nat,zI (cx (ab a.m*2^yb a b p/ab b.m) (a.e-yb a b p-b.e) (decide (ab a.m*2^yb a b p%ab b.m≠0)) p w).1=n/\(w=true->mg a*2^N<=n*mg b)/\(w=false->n*mg b<=mg a*2^N):=by
 obtain⟨a1,a2,a3,a4⟩:=dT va oa.lb;obtain⟨b1,b2,b3,b4⟩:=dT vb ob.lb;have hA:=dN va a0;have hB:=dN vb b0;have hk:yb a b p=(p+3+ag (ab b.m)-ag (ab a.m)).toNat:=rfl;generalize yb a b p=k at*
 have hm2:=eB k hA;have hbM:p< (ag (ab a.m*2^k/ab b.m)):=by
  have h1:2^ (ag (ab a.m*2^k)-1)<=ab a.m*2^k:=Kh ω;have h2:ab b.m<2^ag (ab b.m):=bH.1 (aET _);have h3:2^p.toNat*ab b.m<=ab a.m*2^k:=by
   refine aEX (aFV _ (Nat.le_of_lt h2)) (aEX ?_ h1);rw[←aE2];exact aFu δ ω
  have h4:=(Nat.le_div_iff_mul_le (Nat.pos_of_ne_zero hB)).2 h3;have h5:=mE.2 h4;omega
 have hdm:=aFM (ab a.m*2^k) (ab b.m);have hml:=aFx (ab a.m*2^k) (Nat.pos_of_ne_zero hB);generalize ab a.m*2^k/ab b.m=M at*
 generalize hR:ab a.m*2^k%ab b.m=R at*
 obtain⟨n,n1,n2,n3⟩:=LB (s:=(a.e+16384).toNat+N) (t:=k+(b.e+16384).toNat) (fun h0=>by grind[Cr]) hp ω (fun _=>hbM) h;refine⟨n,n1,fun hw=>?_,fun hw=>?_⟩
 ·have g:=n2 hw;have h1:ab a.m*2^k<=(M+(decide (R≠0)).toNat)*ab b.m:=by
   rw[←hdm,aFf,aFd M];by_cases h0:R=0
   all_goals grind
  refine Nat.le_of_mul_le_mul_right ?_ (aE7 k);have h2:=aE4 (2^ ((a.e+16384).toNat+N)) h1;have h3:=aE4 (ab b.m) g;unfold mg;grind
 ·have g:=n3 hw;have h1:M*ab b.m<=ab a.m*2^k:=by
   grind
  refine Nat.le_of_mul_le_mul_right ?_ (aE7 k);have h2:=aE4 (2^ ((a.e+16384).toNat+N)) h1;have h3:=aE4 (ab b.m) g;unfold mg;grind
theorem WZ{A B:Nat}(k)(hB:0<B):(A*2^k<=n*B->A*(B:Rat)⁻¹<=n*eQ k)/\(n*B<=A*2^k->n*eQ k<=A*(B:Rat)⁻¹):=by
 have hb:(0:Rat)<B:=by exact_mod_cast hB
 have hi:=VG hb;have hk:=abu k;have hm:=NI k;have e1:(A*2^k:Nat)=A*pQ k:=by
  simp_all[pQ,Rat.natCast_mul,Rat.natCast_pow,Rat.intCast_pow]
 have e2:((n*B:Nat):Rat)=n*B:=Rat.natCast_mul _ _;have r1:A*(B:Rat)⁻¹=A*pQ k*(eQ k*(B:Rat)⁻¹):=γ
 have r2:n*eQ k=n*B*(eQ k*(B:Rat)⁻¹):=γ
 have hc:=Rat.mul_nonneg (Rat.le_of_lt hk) (Rat.le_of_lt hi);rw[r1,r2,←e1,←e2];exact⟨fun h=>aFP (by exact_mod_cast h) hc,fun h=>aFP (by exact_mod_cast h) hc⟩
def akb{a b}{p}{up}(va:vd a=true/\Ok0 a)(vb:vd b=true/\Ok0 b)(hb:qv b≠0)(hp:bv p=true)(h:(lC a b p up).2=0):(up=true->qv a*(qv b)⁻¹<=qv (lC a b p up).1)/\(up=false->qv (lC a b p up).1<=qv a*(qv b)⁻¹):=by
 unfold lC at h⊢;rw[ap (TE va.1 vb.1 hp)]at h⊢;have b0:O b.m≠0:=fun h0=>hb γ;rw[av b0]at h⊢;by_cases a0:O a.m=0
 ·rw[ap a0,NJ]
  simp_all[qv,cS]
 rw[av a0]at h⊢;obtain⟨N,hN⟩:∃N,N=16384:=⟨_,rfl⟩;have hcut:=fun w hw=>atr (w:=w) hN va.2 vb.2 va.1 vb.1 (pZ hp) a0 b0 hw;have hmb:=J8 vb.1 b0;have hE:=Kj;generalize hc:cx (ab a.m*2^yb a b p/ab b.m) (a.e-yb a b p-b.e) (decide (ab a.m*2^yb a b p%ab b.m≠0)) p=c at*
 have hvc:∀w,vd (c w).1=true:=fun w=>by rw[←hc];exact OU
 have hq:qv a*(qv b)⁻¹=if(a.neg !=b.neg)=true then-((mg a:Rat)*(mg b:Rat)⁻¹)else(mg a)*(mg b:Rat)⁻¹:=by
  unfold qv;have i1:(-(mg a:Int):Int)=-(mg a):=by rfl
  have i2:(-(mg b:Int):Int)=-(mg b):=by rfl
  have i3:(mg a:Int)=(mg a:Rat):=rfl;have i4:(mg b:Int)=(mg b:Rat):=rfl;cases ha:a.neg<;>cases hb:b.neg
  ·rw[yD.2 ha,yD.2 hb,i3,i4,av δ];grind
  ·rw[yD.2 ha,yD.1 hb,i3,i2,ap δ];grind
  ·rw[yD.1 ha,yD.2 hb,i1,i4,ap δ];grind
  ·rw[yD.1 ha,yD.1 hb,i1,i2,av δ];grind
 rw[hq];generalize(a.neg !=b.neg)=sg at*
 unfold iq at h⊢;cases sg with
 |true=>
  have h2:(c (up !=true)).2=0:=by
   grind
  rw[ap (show(c (up !=true)).2=0/\true=true from⟨h2,rfl⟩),ap (show true=true from rfl)];obtain⟨n,n1,n2,n3⟩:=hcut _ h2;rw[(Kl (hvc _)).1];have e:qv (c (up !=true)).1=n*eQ N:=by unfold qv;rw[n1,hN];rfl
  grind[WZ,mg]
 |false=>
  have hn:¬((c (up !=false)).2=0/\false=true):=fun h1=>aE3 h1.2;rw[av hn]at h;obtain⟨n,n1,n2,n3⟩:=hcut _ h;have e:qv (c (up !=false)).1=n*eQ N:=by unfold qv;rw[n1,hN];rfl
  grind[WZ,mg]
theorem LD{d}(h:vd d=true):(0<kl d↔0<qv d)/\(kl d<0↔qv d<0):=by
 have hE:=Kj;unfold kl;by_cases h0:O d.m=0
 ·simp_all[qv,cS,ap]
 ·have hm:=J8 h h0;have hq:0< (mg d)*EQ:=Rat.mul_pos (by exact_mod_cast hm) hE;cases hn:d.neg with
  |true=>
   have:qv d=-((mg d)*EQ):=by unfold qv;rw[yD.1 hn,Rat.intCast_neg,Rat.intCast_natCast];grind
   grind
  |false=>
   have:qv d=(mg d)*EQ:=by unfold qv;rw[yD.2 hn];rfl
   grind
def VH{x y}{a b}{p}(hx:In a x)(hy:In b y):In (a/b) (dC x y p):=by
 unfold dC;split
 ·next h=>
  simp only[aEV]at h;obtain⟨⟨kx,ky⟩,hp⟩:=h;rcases hx.k with⟨rfl,h⟩| ⟨_,x1,x2⟩
  ·grind
  rcases hy.k with⟨rfl,h⟩| ⟨_,y1,y2⟩
  ·grind
  split
  ·exact Or.inl rfl
  ·next hs=>
   have hpr:∀i,((ed x y i).1=x.lo\/(ed x y i).1=x.hi)/\((ed x y i).2=y.lo\/(ed x y i).2=y.hi):=fun i=>by
    unfold ed;grind
   have hsg:0<qv y.lo\/qv y.hi<0:=by
    unfold HT at hs;by_cases g1:0<kl y.lo
    ·exact Or.inl ((LD hy.vi.1.1).1.1 g1)
    ·by_cases g2:kl y.hi<0
     ·exact Or.inr ((LD hy.vi.2.1).2.1 g2)
     omega
   have hv:∀i,(vd (ed x y i).1=true/\Ok0 (ed x y i).1)/\(vd (ed x y i).2=true/\Ok0 (ed x y i).2)/\qv (ed x y i).2≠0:=fun i=>by
    obtain⟨h1,h2⟩:=hpr i;refine⟨?_,?_,?_⟩
    ·rcases h1 with h1|h1<;>rw[h1]
     ·exact hx.vi.1
     ·exact hx.vi.2
    ·rcases h2 with h1|h1<;>rw[h1]
     ·exact hy.vi.1
     ·exact hy.vi.2
    grind
   refine aeC (dn:=fun a b=>lC a b p false) (up:=fun a b=>lC a b p true) (v:=fun i=>qv (ed x y i).1*(qv (ed x y i).2)⁻¹) (fun _ _=>xQ) (fun _ _=>xQ) (fun i _ h=>(akb (hv i).1 (hv i).2.1 (hv i).2.2 hp h).2 rfl) (fun i _ h=>(akb (hv i).1 (hv i).2.1 (hv i).2.2 hp h).1 rfl) fun lo hi h=>?_;have i1:(qv y.hi)⁻¹<=b⁻¹:=aka γ;have i2:b⁻¹<=(qv y.lo)⁻¹:=aka γ;exact aeD x1 x2 i1 i2 (h 1 δ) (h 0 δ) (h 3 δ) (h 2 δ)
 ·exact Or.inl rfl
def akc{z p}{up}(hp:8<=p/\p<=512)(hz:0<=z)(h:(kS z (-16384-j) p up).2=0):0<=zI (kS z (-16384-j) p up).1:=by
 unfold kS at h⊢;by_cases h0:z=0
 ·rw[ap h0,cS rfl];omega
 ·rw[av h0,decide_eq_false ω]at h⊢;unfold iq at h⊢;rw[av (fun h1=>aE3 h1.2)]at h⊢;obtain⟨n,g1,_⟩:=LB (s:=0) (t:=j) ω hp ω (fun h=>absurd h aE3) h;omega
theorem ahs{d}:0<=qv d↔0<=zI d:=by
 rw[←NJ,Fc,cS rfl]
theorem ats{d}{p}{up}(v:vd d=true)(hp:bv p=true)(h:(bY d p up).2=0):(0<=qv d->0<=qv (bY d p up).1)/\(up=true->qv d<=qv (bY d p up).1)/\(up=false->qv (bY d p up).1<=qv d):=by
 refine⟨fun hd=>?_,?_,?_⟩
 ·rw[ahs]at hd⊢;have hp2:=pZ hp;have hf:bo p [d]=0:=by grind[bo]
  unfold bY at h⊢;rw[ap hf]at h⊢;exact akc (j:=0) hp2 hd h
 ·rintro rfl
  exact Fc.2 (aqp v hp h)
 ·rintro rfl
  exact Fc.2 (aqo v hp h)
def aqw{a b}{p}{up}(ha:vd a=true)(hb:vd b=true)(hp:bv p=true)(h1:0<=qv a)(h2:0<=qv b)(h:(eJ a b p up).2=0):0<=qv (eJ a b p up).1:=by
 rw[ahs]at*
 unfold eJ at h⊢;rw[ap (TE ha hb hp)]at h⊢;exact akc (j:=16384) (pZ hp) (Int.mul_nonneg h1 h2) h
theorem H3{d}{p}{up}:vd (bY d p up).1=true/\Ok0 (bY d p up).1:=by
 grind[bY,xw,aO]
def H4{a b}{p}{up}:vd (eJ a b p up).1=true/\Ok0 (eJ a b p up).1:=by
 grind[eJ,xw,aO]
theorem YE{d}{p}{up}:∀k r,(vd r.1=true/\Ok0 r.1)->vd (qJ d p up k r).1=true/\Ok0 (qJ d p up k r).1
 |0,_,h=>h
 |k+1,r,h=>by
  unfold qJ;split
  ·exact YE k _ H4
  ·exact h
def aoT{d}{p}{up}(v:vd d=true)(hp:bv p=true)(h0:0<=qv d):∀k m r,vd r.1=true->(r.2=0->0<=qv r.1/\(up=true->qv d^m<=qv r.1)/\(up=false->qv r.1<=qv d^m))->(qJ d p up k r).2=0->
  (up=true->qv d^ (m+k)<=qv (qJ d p up k r).1)/\(up=false->qv (qJ d p up k r).1<=qv d^ (m+k))
 |0,m,r,_,h,he=>(h he).2
 |k+1,m,r,vr,h,he=>by
  unfold qJ at he⊢;by_cases hr:r.2=0
  ·rw[ap hr]at he⊢;obtain⟨a,b,c⟩:=h hr;rw[show m+(k+1)=m+1+k by omega];refine aoT v hp h0 k (m+1) _ H4.1 (fun hm=>⟨aqw vr v hp a h0 hm,fun hu=>?_,fun hu=>?_⟩) he
   ·have h1:=(TG vr v hp hm).1 hu;have h2:=aFP (b hu) h0;grind[Rat.pow_succ,Rat.le_trans]
   grind[TG,aFP,Rat.pow_succ,Rat.le_trans]
  grind
def att{d}{p}{up}{n}(v:vd d=true)(hp:bv p=true)(h0:0<=qv d)(hn:1<=n)(he:(pw d n p up).2=0):(up=true->qv d^n<=qv (pw d n p up).1)/\(up=false->qv (pw d n p up).1<=qv d^n):=by
 have:=aoT v hp h0 (n-1) 1 (bY d p up) H3.1 (fun h=>by
  grind[ats,qv]) he
 rw[show 1+(n-1)=n by omega]at this;exact this
theorem Fd{x:Rat}:∀n:Nat,(-x)^ (2*n+1)=-(x^ (2*n+1))
 |0=>by grind
 |n+1=>by
  have:=Fd (x:=x) n;grind
theorem NM{x:Rat}:∀n,(-x)^ (2*n)=x^ (2*n)
 |0=>by grind
 |n+1=>by
  have:=NM (x:=x) n;grind
theorem TK{x:Rat}(h:0<=x):∀n:Nat,0<=x^n
 |0=>by grind
 |n+1=>by rw[Rat.pow_succ];exact Rat.mul_nonneg (TK h n) h
theorem NN{x y:Rat}(h:0<=x)(h1:x<=y):∀n:Nat,x^n<=y^n
 |0=>by grind
 |n+1=>by
  rw[Rat.pow_succ,Rat.pow_succ];have a:=aFP (NN h h1 n) h;have b:=Rat.mul_le_mul_of_nonneg_left h1 (TK (Rat.le_trans h h1) n);exact Rat.le_trans a b
theorem aht{x:Rat}(h1:x<=y)(n):x^ (2*n+1)<=y^ (2*n+1):=by
 by_cases hx:0<=x
 ·grind[NN]
 ·by_cases hy:0<=y
  ·have a:=TK (show 0≤-x by grind) (2*n+1);grind[TK,Fd]
  ·have:=NN (x:=-y) (y:=-x) γ γ (2*n+1);grind[Fd]
def atu{d}(v:vd d=true):sS d<0↔qv d<0:=by
 rw[← (LD v).2];grind[sS,kl]
def TL{d}{p}{up}{n}(v:vd d=true)(hp:bv p=true)(hn:1<=n)(ho:n%2=1\/0<=qv d)(he:(vD d n p up).2=0):(up=true->qv d^n<=qv (vD d n p up).1)/\(up=false->qv (vD d n p up).1<=qv d^n):=by
 unfold vD at he⊢;by_cases hs:sS d<0
 ·rw[ap hs]at he⊢;have hq:=(atu v).1 hs;obtain⟨n1,n2⟩:=Kl v;have hodd:n=2*(n/2)+1:=by
   grind
  have hw:=att n2 hp γ hn he;grind[vd,pw,gW,YE,H3,qv,Kl,Fd]
 ·rw[av hs]at he⊢;exact att v hp (Rat.not_lt.1 fun h=>hs ((atu v).2 h)) hn he
def akd{d}(v:vd d=true)(ok:Ok0 d):(vd (py d)=true/\Ok0 (py d))/\0<=qv (py d)/\(qv (py d)=qv d\/qv (py d)=-qv d):=by
 unfold py;by_cases h0:O d.m=0
 ·rw[ap (Or.inr h0),NJ]
  simp_all[qv,cS,aO,Rat.le_refl]
 ·rw[av γ];have hm:mg ⟨false,d.m,d.e⟩=mg d:=rfl;have h1:zI ⟨false,d.m,d.e⟩=mg d:=by rw[yD.2 rfl,hm]
  refine⟨⟨?_,ok.1,ok.2⟩,?_,?_⟩
  ·simp_all[vd,av]
  ·grind[ahs]
  ·unfold qv;rw[h1];cases hn:d.neg with
   |true=>
    rw[yD.1 hn,Rat.intCast_neg];grind
   |false=>
    left;rw[yD.2 hn]
def aqx{x}{a b}(hx:In a x)(hb:0<=b)(hab:b=a\/b=-a):In b (nG x)/\(kI x=true->0<=qv (nG x).lo/\(nG x).all=false):=by
 unfold nG;by_cases h:kI x=true
 ·rw[ap h];rcases hx.k with⟨rfl,h1⟩| ⟨_,x1,x2⟩
  ·grind
  obtain⟨l1,l2,l3⟩:=akd hx.vi.1.1 hx.vi.1.2;obtain⟨h1,h2,h3⟩:=akd hx.vi.2.1 hx.vi.2.2;obtain⟨m1,m2,m3,m4,m5⟩:=VE l1 h1;obtain⟨n1,n2,n3,n4,n5⟩:=VD l1 h1;have hmag:b<=qv (qB x):=by
   grind[qB]
  have hmig:(vd (BW x)=true/\Ok0 (BW x))/\0<=qv (BW x)/\qv (BW x)<=b:=by
   unfold BW;split
   ·grind[NJ,aO,Rat.le_refl]
   ·next hs=>
    have hsg:0<qv x.lo\/qv x.hi<0:=by
     unfold HT at hs;by_cases g1:0<kl x.lo
     ·exact Or.inl ((LD hx.vi.1.1).1.1 g1)
     ·by_cases g2:kl x.hi<0
      ·exact Or.inr ((LD hx.vi.2.1).2.1 g2)
      omega
    grind
  exact⟨Or.inr ⟨rfl,⟨hmig.1,⟨m3,m4⟩⟩,hmig.2.2,hmag⟩,fun _=>⟨hmig.2.1,rfl⟩⟩
 ·rw[av h];exact⟨Or.inl rfl,fun hk=>absurd hk h⟩
theorem aby:qv one=1:=by
 obtain⟨N,hN⟩:∃N,N=16384:=⟨_,rfl⟩;have hm:mg one=2^N:=by
  unfold mg;rw[show(one.e+16384).toNat=N by rw[hN];rfl];exact Nat.one_mul _
 unfold qv EQ;rw[yD.2 rfl,hm,←hN,show((2^N:Nat):Int)=pQ N by grind[pQ,Int.natCast_pow]];grind[NI]
def TM{d}{p}{up}{n}:vd (vD d n p up).1=true/\Ok0 (vD d n p up).1:=by
 grind[vD,vd,pw,YE,H3,Kl,Cv]
def EJ{x}{a}{n}{p}(hx:In a x):In (a^n) (BX x n p):=by
 unfold BX;split
 ·next h=>
  simp only[aEV]at h;obtain⟨⟨kx,hp⟩,_⟩:=h;split
  ·next h0=>
   subst h0;rw[Rat.pow_zero,←aby];exact wK gg.1 gg.2
  ·next h0=>
   by_cases he:n%2=0
   ·rw[ap he];obtain⟨b,hb,hab⟩:∃b,0<=b/\(b=a\/b=-a):=by
     grind
    obtain⟨h1,h2⟩:=aqx hx hb hab;obtain⟨g1,g2⟩:=h2 kx;have hpw:a^n=b^n:=by
     rcases hab with rfl|rfl
     ·rfl
     ·rw[show n=2*(n/2)by omega,NM]
    rw[hpw];rcases h1 with hW| ⟨_,hv,y1,y2⟩
    ·rw[hW]at g2;exact absurd g2 δ
    refine YD TM TM (fun h=>?_) (fun h=>?_)
    ·exact Rat.le_trans ((TL hv.1.1 hp ω (Or.inr g1) h).2 rfl) (NN g1 y1 n)
    ·exact Rat.le_trans (NN (Rat.le_trans g1 y1) y2 n) ((TL hv.2.1 hp ω (Or.inr (Rat.le_trans g1 (Rat.le_trans y1 y2))) h).1 rfl)
   ·rw[av he];rcases hx.k with⟨rfl,h1⟩| ⟨_,x1,x2⟩
    ·grind
    have ho:n=2*(n/2)+1:=ω
    have le:∀ {x y:Rat},x<=y->x^n<=y^n:=fun h=>by
     grind[aht]
    refine YD TM TM (fun h=>?_) (fun h=>?_)
    ·exact Rat.le_trans ((TL hx.vi.1.1 hp ω (Or.inl ω) h).2 rfl) (le x1)
    ·exact Rat.le_trans (le x2) ((TL hx.vi.2.1 hp ω (Or.inl ω) h).1 rfl)
 ·exact Or.inl rfl
theorem aeJ{x:Rat}{m}:∀n:Nat,x^m*x^n=x^ (m+n)
 |0=>by grind
 |n+1=>by rw[Rat.pow_succ,←Rat.mul_assoc,aeJ n,←aFZ,Rat.pow_succ]
def aqy{x}{a}{n}{p}(hx:In a x):In (a^n) (HV x n p):=by
 unfold HV;split
 ·exact EJ hx
 ·have:=sC (p:=p) (EJ (n:=16) (p:=p) hx) (EJ (n:=n-16) (p:=p) hx);grind[aeJ]
def InL:List Rat->List Ri->Prop
 |x::xs,d::ds=>In x d/\InL xs ds
 |[],[]=>True
 |_,_=>False
def Km(es:List Int):List Nat:=es.map Int.toNat
def fv(xs:List Rat):List Rt->Rat
 |[]=>0
 |t::l=>qv t.c*P8 xs (Km t.exps)+fv xs l
def akf{p}:∀xs ds es x q,InL xs ds->O ds=O es->In q x->In (q*P8 xs (Km es)) (Nx p ds es x)
 |[],[],[],x,q,_,_,h=>by
  show In (q*1) x;grind
 |y::xs,d::ds,e::es,x,q,hl,hd,h=>by
  show In (q*(y^e.toNat*P8 xs (Km es))) (Nx p ds es (if 0<e then bX x (HV d e.toNat p) p else x));rw[←Rat.mul_assoc];refine akf xs ds es _ _ hl.2 γ ?_;split
  ·exact sC h (aqy hl.1)
  ·rw[show e.toNat=0 by omega,Rat.pow_zero,Rat.mul_one];omega
 |[],_::_,_,_,_,hl,_,_=>hl.elim
 |_::_,[],_,_,_,hl,_,_=>hl.elim
 |_::_,_::_,[],_,_,_,hd,_=>by grind
 |[],[],_::_,_,_,_,hd,_=>by grind
def akg{p}{xs}{dom}(hl:InL xs dom):∀l s q,(∀t∈l,vd t.c=true/\Ok0 t.c/\O dom=O t.exps)->In q s->In (q+fv xs l) (Tu p dom l s)
 |[],s,q,_,h=>by
  show In (q+0) s;grind
 |t::l,s,q,ht,h=>by
  obtain⟨a,b,c⟩:=ht t σ;show In (q+(qv t.c*P8 xs (Km t.exps)+fv xs l)) _;rw[←Rat.add_assoc];exact akg hl l _ _ (fun u hu=>ht u (by simp[hu])) (sB h (akf xs dom _ _ _ hl c (wK a b)))
def W0{a}{dom}{xs}{p}(oa:OkP a)(hl:InL xs dom):In (fv xs a.terms) (tD a dom p):=by
 unfold tD;split
 ·next h=>
  unfold rT at h;simp only[aEV,decide_eq_true_eq]at h;obtain⟨⟨hv,hd,_⟩,_⟩:=h;unfold vp at hv;simp only[aEV,decide_eq_true_eq]at hv;have:=akg (p:=p) hl a.terms ⟨aC,aC,false⟩ 0 (fun t ht=>by
   have h1:=HX (OH _ _ hv.2.2.2 t ht);exact⟨h1.2.1,(oa.t t ht).c,by omega⟩) (by rw[←NJ];exact wK aO.1 aO.2)
  grind
 ·exact Or.inl rfl
def VT0{d}(od:Ok0 d)(vdd:vd d=true)(nd:O d.m≠0):VT 0 ⟨[],d⟩:=⟨od,rfl,by decide,vdd,nd,(fun _ h=>nomatch h),by show 0<=32;decide⟩
def ano{a d}(oa:Ok0 a)(va:vd a=true)(na:O a.m≠0)(od:Ok0 d)(vdd:vd d=true)(nd:O d.m≠0)(h0:(dX a d).2=0):Ok0 (dX a d).1/\vd (dX a d).1=true/\(dX a d).1.m.length≠0:=by
 have h:=Rn (v:=0) (s:=⟨[],a⟩) (t:=⟨[],d⟩) (x:=⟨[],(dX a d).1⟩) (VT0 oa va na) (VT0 od vdd nd) (by show 0+0<=32;decide) (by unfold I3;rw[ap h0];rfl);exact⟨h.c,h.vc,h.nz⟩
def A8(d:Rd):List Rt->Option (List Rt)
 |[]=>some []
 |t::ts=>if(dX t.c d).2=0 then(A8 d ts).map (⟨t.exps,(dX t.c d).1⟩::·)else none
def aeK{v}{t}{d}(vt:VT v t)(od:Ok0 d)(vdd:vd d=true)(nd:O d.m≠0)(h0:(dX t.c d).2=0):VT v ⟨t.exps,(dX t.c d).1⟩:=by
 obtain⟨h1,h2,h3⟩:=ano vt.c vt.vc vt.nz od vdd nd h0;exact⟨h1,vt.len,vt.v8,h2,h3,vt.b,vt.d⟩
def aeL{v}{d}(od:Ok0 d)(vdd:vd d=true)(nd:O d.m≠0):∀ {ts r},Cl v ts->A8 d ts=some r->Cl v r/\O r=O ts/\∀y∈r,∃t∈ts,y.exps=t.exps
 |[],r,c,h=>by cases h;grind
 |t::ts,r,c,h=>by
  obtain⟨vt,ht,c2⟩:=c.cons;unfold A8 at h;split at h
  ·rename_i h0;rw[aEU]at h;obtain⟨r2,h2,rfl⟩:=h;obtain⟨k1,k2,k3⟩:=aeL od vdd nd c2 h2;refine⟨Cl.mk' (aeK vt od vdd nd h0) (fun y hy=>?_) k1,by simp[k2],fun y hy=>?_⟩
   ·obtain⟨q,hq,he⟩:=k3 y hy;rw[he];exact ht q hq
   ·rcases List.mem_cons.1 hy with rfl|hy
    ·exact⟨t,by simp,rfl⟩
    ·obtain⟨q,hq,he⟩:=k3 y hy;exact⟨q,by simp[hq],he⟩
  ·cases h
def Bm(a:Rp)(d:Rd):Rp×Int:=if vp a=true/\vd d=true then(if O d.m=0 then(⟨a.vars,[]⟩,0)else match A8 d a.terms with|none=>(p0,9)|some r=>(⟨a.vars,r⟩,0))else(p0,1)
def akh{a}{d}(oa:OkP a)(od:Ok0 d)(va:vp a=true)(vdd:vd d=true)(nd:O d.m≠0):(match A8 d a.terms with|none=>(p0,9)|some r=>(⟨a.vars,r⟩,0))=oC a.vars ((A8 d a.terms).bind (lB [])):=by
 obtain⟨ca,a0,a8,al⟩:=gw oa va;cases h:A8 d a.terms with
 |none=>rfl
 |some r=>
  obtain⟨k1,k2,k3⟩:=aeL od vdd nd ca h;have hc:lB [] r=some r:=aa7 (l:=[]) k1;simp only[aEZ,hc,oC];rw[av ω]
def intD(e:Int):Rd:=aZ false e.natAbs 0
def aqz{e}(h1:1<=e)(h2:e<=32):Ok0 (intD e)/\vd (intD e)=true/\(intD e).m.length≠0:=by
 have hn:e.natAbs≠0:=ω
 have hb:ag e.natAbs<=6:=bH.2 (by
  omega)
 have hc:=HR (neg:=false) (M:=e.natAbs) (e:=0) ω δ ω;have ho:=xO (z:=e) (f:=0);have hcan:fF e 0=aZ false e.natAbs 0:=by
  grind[fF,decide_eq_false]
 rw[hcan,hc]at ho;refine⟨ho.2,ho.1,fun h=>?_⟩;obtain⟨q1,_,q3,_⟩:=tV (neg:=false) (e:=0) hn;have h0:(aZ false e.natAbs 0).m=[]:=List.length_eq_zero_iff.1 h;grind[ab]
def dec(l:List Int)(i:Nat):List Int:=l.set i (l.getD i 0-1)
theorem aeM:∀ {l} {i},i<O l->cp (dec l i)=cp l-1
 |x::l,0,_=>by
  show(x-1)+cp l=(x+cp l)-1;omega
 |x::l,i+1,h=>by
  have ih:=aeM (l:=l) (i:=i) (by simpa using h);show x+cp (dec l i)=(x+cp l)-1;omega
def aqA{x}(h1:0<=x)(h2:x<=32):R 64 [I x] []=some (af (intD x),[]):=by
 have h:=m8 (n:=x) ⟨by omega,by omega⟩;rw[decide_eq_false ω]at h;exact h
def ahu(blk:Option (Ex×St))(id:Nat)(S:aM)(v v':Int)(l:List Rt)(e:Int):Option (List Rt)->Prop
 |some r=>∃hh c' l' e',blk=some (.normal,⟨S,hh⟩)/\hh 4=.bx [I 0,.emp]/\hh id=t3 v' c' e'/\(∀a,100<=a->a≠id->hh a=.dead)/\ColE v l r e c' l' e'
 |none=>∃hh,blk=some (.ret,⟨upd (upd ce 5 (I 9)) 4 (ac 4),hh⟩)/\hh 4=.bx [I 0,.emp]
theorem ColE.nil{v}{l}{c}{e}(hc:oB c l)(he:e=0\/e=9):ColE v l [] e c l e:=by
 refine⟨hc,?_⟩;rcases he with rfl|rfl
 ·exact .inl ⟨rfl,rfl,rfl⟩
 ·exact .inr ⟨rfl,fun h=>by omega⟩
def anp{v v'}{d}(od:Ok0 d)(vdd:vd d=true)(nd:O d.m≠0){A}(hA:∀t∈A,VT v t)(hn:O A<=100000){o2}(c2:∀ids,aE ids o2=true):
  ∀ (k i:Nat),i+k=O A->∀c l e,oB c l->(e=0\/e=9)->(e=0->Cl v l/\O l+k<=1000000)->∀s h,s 3=ac 3->s 4=ac 4->s 6=ac 2176->s 24=.sl 4 (aU A)->s 25=I (O A)->s 26=I i->h 2=o2->h 3=.bx [B d.neg,lm d.m,I d.e]->h 4=.bx [I 0,.emp]->h 2176=t3 v' c e->
  ahu (ao 0 [4,6] (aB (am R (aA false) jS) [3,4,6,24,25,26] [2,3,4,2176] s h)) 2176 (upd (upd ce 6 (ac 2176)) 4 (ac 4)) v v' l e (A8 d (A.drop i)):=by
 intro k;induction k with
 |zero=>
  intro i hi c l e hc he hC s h g3 g4 g6 g24 g25 g26 k2 k3 k4 k2176;have e1:=aP (i< (O A:Int));have ho:=(me (v:=v') (e:=e) hc).cl [2,3,4,2176];have ho2:=c2 [2,3,4,2176];rw[aFq ω,ai];refine⟨?hh0,c,l,e,?_,?_,?_,?_,.nil hc he⟩;rotate_left
  ·simp only[jS,go_sem,g3,g4,g6,g24,g25,g26,k2,k3,k4,k2176,ho,ho2,e1];rfl
  ·rfl
  ·rfl
  ·intro a a1 a2;simp only[cz,a2,if_false];rw[av ω,av ω,av ω]
 |succ k ih=>
  intro i hi c l e hc he hC s h g3 g4 g6 g24 g25 g26 k2 k3 k4 k2176;have hlt:i<O A:=ω
  have e1:=aa (i< (O A:Int));have e2:=kV rfl (aE1 hlt);have e5:aG (i+1)=(i+1:Nat):=wi;have e6:=aP ((O d.m:Int)=0);have ho1:=(me (v:=v') (e:=e) hc).cl [2,3,4,2176];have ho2:=c2 [2,3,4,2176];have vt:=hA _ (aFg hlt);have hmul:=OL vt.c od;have hfit:=fun h0=>aeK vt od vdd nd h0;rw[aFe hlt];have ih':=ih (i+1) ω;have hrow:∀q ts,A8 d (q::ts)=if(dX q.c d).2=0 then(A8 d ts).map (⟨q.exps,(dX q.c d).1⟩::·)else none:=fun q ts=>rfl
  rw[hrow];generalize A[i]=t at e2 vt hmul hfit⊢;rw[ai];generalize aB _ _ _=L at ih'⊢;simp only[dE]at e2;generalize dX t.c d=m at hmul hfit⊢;obtain⟨m,em⟩:=m;simp only[rV,af,ak]at hmul;by_cases hm:em=0
  ·subst hm;have vx:=hfit rfl;rw[ap rfl];obtain⟨c1,l1,e1',s1,s2,s3,s4,s5⟩:=ColE.stepN (t:=⟨t.exps,m⟩) hc he k (fun h=>by have:=hC h;exact⟨this.1,by omega⟩) vx (v':=v');have ih2:=ih' c1 l1 e1' s2 s3 s4;have hcall:=fun(h:aj) (hh:h 2176=t3 v' c e) d=>dQ (aV.1.2.1 false) rfl (qK (d:=d) hh hc s2 s1);simp only[af,ak]at hcall;have hpush:∀X S,ahu X 2176 S v v' l1 e1' (A8 d (A.drop (i+1)))->ahu X 2176 S v v' l e ((A8 d (A.drop (i+1))).map (⟨t.exps,m⟩::·)):=fun X S h=>by
    cases hr:A8 d (A.drop (i+1))with
    |none=>rw[hr]at h;exact h
    |some r=>
     rw[hr]at h;obtain⟨hh,c',l',e',q1,q2,q3,q4,q5⟩:=h;exact⟨hh,c',l',e',q1,q2,q3,q4,s5 _ _ _ _ q5⟩
   simp only[jS,go_sem,g3,g4,g6,g24,g25,g26,k2,k3,k4,k2176,ho1,ho2,e1,e2,e6,hmul];rw[hcall _ rfl];simp only[go_sem,e5];refine hpush _ _ (ih2 _ _ ?_ ?_ ?_ ?_ ?_ ?_ ?_ ?_ ?_ ?_)
   all_goals first|rfl|assumption
  ·have f1:=ff hm;rw[av hm];refine⟨?hh1,?_,?_⟩;rotate_left
   ·simp only[jS,go_sem,g3,g4,g6,g24,g25,g26,k2,k3,k4,k2176,ho1,ho2,e1,e2,e6,hmul,f1];rfl
   ·rfl
def abz(d:Rd)(ts:List Rt):Option (List Rt):=if O d.m=0 then some []else A8 d ts
def av3{v v'}{d}(od:Ok0 d)(vdd:vd d=true){A}(hA:∀t∈A,VT v t)(hn:O A<=100000){o2}(c2:∀ids,aE ids o2=true)(s)(h)(X)(hX:ao 0 [4,6] (aB (am R (aA false) jS) [3,4,6,24,25,26] [2,3,4,2176] s h)=X)
  (g3:s 3=ac 3) (g4:s 4=ac 4) (g6:s 6=ac 2176) (g24:s 24=.sl 4 (aU A)) (g25:s 25=I (O A)) (g26:s 26=I 0) (k2:h 2=o2) (k3:h 3=.bx [B d.neg,lm d.m,I d.e]) (k4:h 4=.bx [I 0,.emp]) (k2176:h 2176=.bx [I v',.emp,I 0]):
  ahu X 2176 (upd (upd ce 6 (ac 2176)) 4 (ac 4)) v v' [] 0 (abz d A):=by
 subst hX;unfold abz;have hc:oB .emp []:=.inr ⟨rfl,rfl⟩;by_cases nd:O d.m=0
 ·rw[ap nd];have ho2:=c2 [2,3,4,2176];have e6:=aa ((O d.m:Int)=0);rw[ai];by_cases hA0:O A=0
  ·have e1:=aP (0< (O A:Int));refine⟨?hh0,.emp,[],0,?_,?_,?_,?_,.nil hc (.inl rfl)⟩;rotate_left
   ·simp only[jS,go_sem,g3,g4,g6,g24,g25,g26,k2,k3,k4,k2176,ho2,e1];rfl
   ·rfl
   ·rfl
   ·intro a a1 a2;simp only[cz,a2,if_false];rw[av ω,av ω,av ω]
  ·have e1:=aa (0< (O A:Int));have e2:dF (aU A) 0=some (.ipt (dE A[0])):=kV (n:=0) rfl (aE1 ω);generalize A[0]=t at e2;simp only[dE]at e2;refine⟨?hh1,.emp,[],0,?_,?_,?_,?_,.nil hc (.inl rfl)⟩;rotate_left
   ·simp only[jS,go_sem,g3,g4,g6,g24,g25,g26,k2,k3,k4,k2176,ho2,e1,e2,e6];rfl
   ·rfl
   ·rfl
   ·intro a a1 a2;simp only[cz,a2,if_false]
    repeat rw[av ω]
 ·rw[av nd];exact anp od vdd nd hA hn c2 (O A) 0 (aES _) .emp [] 0 hc (.inl rfl) (fun _=>⟨Cl.nil _,by show 0+_<=_;omega⟩) s h g3 g4 g6 g24 g25 g26 k2 k3 k4 k2176
theorem ahv{a}{d}(oa:OkP a)(od:Ok0 d)(va:vp a=true)(vdd:vd d=true):Bm a d=oC a.vars ((abz d a.terms).bind (lB [])):=by
 unfold Bm abz;rw[ap ⟨va,vdd⟩];by_cases nd:O d.m=0
 ·rw[ap nd,ap nd];rfl
 ·rw[av nd,av nd];exact akh oa od va vdd nd
def aki{a}{d}(oa:OkP a)(od:Ok0 d):R 63 [bj a,af d] []=some (pV (Bm a d),[]):=by
 refine au Z5 ?_;have v1:=vP oa;have v2:=eC od;simp only[bj,af,ak]at v1 v2;have hne:¬ (vp a=true/\vd d=true)->Bm a d=(p0,1):=fun h=>by
  unfold Bm;rw[av h]
 cases va:vp a with
 |false=>
  rw[va]at v1;rw[hne (by rw[va];simp)];simp only[wX,Db,bj,af,ak,go_sem,v1];rfl
 |true=>
  rw[va]at v1;cases vdd:vd d with
  |false=>
   rw[vdd]at v2;rw[hne (by rw[vdd];simp)];simp only[wX,Db,bj,af,ak,go_sem,v1,v2];rfl
  |true=>
   rw[vdd]at v2;obtain⟨ka,a0,a8,al⟩:=gw oa va;rw[ahv oa od va vdd];have hemp:=B1 (v:=a.vars);have hl:=av3 (v:=a.vars) (v':=a.vars) od vdd ka.t ω (o2:=.bx [I a.vars,.sl 4 (aU a.terms)]) (fun _=>rfl);simp only[wX,Db,bj,af,ak,go_sem,v1,v2,hemp,qL];generalize hX:ao 0 _ _=X;have hM:=hl _ _ _ hX Z Z Z Z Z Z Z Z Z Z;cases hr:abz d a.terms with
   |none=>
    rw[hr]at hM;obtain⟨hh,rfl,q4⟩:=hM;simp only[Option.bind_none,oC,pV,p0,bj,go_sem,q4];rfl
   |some r=>
    rw[hr]at hM;obtain⟨hh,c',l',e',rfl,q4,qc,qd,qe⟩:=hM;obtain⟨o,hdn⟩:=Cz (d:=51) qc qe.c (by simp[bV,qd,bS]);have hd':=dQ (bE.1.2.1 false) rfl hdn;rw[qe.fin]at hd';rw[aEZ];generalize oC a.vars (lB [] r)=z at hd'⊢;obtain⟨z1,z2⟩:=z;simp only[pV,bj]at hd';simp only[pV,bj,go_sem,q4,hd']
structure Bf (v:Int) (l A:List Rt):Prop where
 cl:Cl v l
 lt:∀q∈l,∀t∈A,dO q.exps t.exps<0
theorem Bf.nil{v}(A):Bf v [] A:=⟨Cl.nil _,fun q h=>by grind⟩
theorem Bf.drop{v}{l A}{t}(h:Bf v l (t::A)):Bf v l A:=⟨h.cl,fun q hq x hx=>h.lt q hq x γ⟩
def Cl.tail{v}{l}{t}(h:Cl v (t::l)):Cl v l:=⟨fun q hq=>h.t q γ,(List.pairwise_cons.1 h.s).2⟩
def Cl.head{v}{l}{t}(h:Cl v (t::l)):VT v t:=h.t t σ
def Bf.push{v}{l A}{t}{d}(h:Bf v l (t::A))(hA:Cl v (t::A))(vt:VT v ⟨t.exps,d⟩):Bf v (l++[⟨t.exps,d⟩]) A:=by
 refine⟨⟨fun q hq=>?_,?_⟩,fun q hq x hx=>?_⟩
 ·rcases List.mem_append.1 hq with h1|h1
  ·exact h.cl.t q h1
  grind
 ·rw[List.pairwise_append];refine⟨h.cl.s,List.pairwise_singleton _ _,fun q hq x hx=>?_⟩;rw[List.mem_singleton.1 hx];exact h.lt q hq t σ
 ·rcases List.mem_append.1 hq with h1|h1
  ·exact h.lt q h1 x γ
  ·rw[List.mem_singleton.1 h1];exact(List.pairwise_cons.1 hA.s).1 x hx
def Cl.dropN{v}:∀ {l} i,Cl v l->Cl v (l.drop i)
 |l,0,h=>h
 |[],_+1,h=>h
 |_::l,i+1,h=>Cl.dropN i h.tail
def H5{v v'}{l A}{t}{d}{c}(h:Bf v l (t::A))(vt:VT v ⟨t.exps,d⟩)(hl:O l<=1000000)(hc:oB c l):
  ∃c1,R 124 [ac 1000,.sl 1 (aY t.exps),af d] [t3 v' c 0]=some (.tup [],[t3 v' c1 0])/\oB c1 (l++[⟨t.exps,d⟩]):=by
 obtain⟨c1,l1,e1,g1,g2,g3⟩:=Vv (v':=v') h.cl vt hl hc;have he:wJ l ⟨t.exps,d⟩=some (l++[⟨t.exps,d⟩]):=Rk fun q hq=>h.lt q hq t σ;grind
def W7(o:Int)(t:Rt):Bool:=decide (cp t.exps<=o)
def TN(o:Int)(t:Rt):Bool:=!decide (cp t.exps<=o)
def gI(a:Rp)(o:Int):Rp×Rp:=if vp a=true then(⟨a.vars,a.terms.filter (W7 o)⟩,⟨a.vars,a.terms.filter (TN o)⟩)else(p0,p0)
def H6(blk:Option (Ex×St))(i1 i2:Nat)(S:aM)(v':Int)(l1 l2 r1 r2:List Rt):Prop:=
 ∃hh c1 c2,blk=some (.normal,⟨S,hh⟩)/\hh 4=.bx [I 0,.emp]/\hh 5=.bx [I 0,.emp]/\hh i1=t3 v' c1 0/\hh i2=t3 v' c2 0/\oB c1 (l1++r1)/\oB c2 (l2++r2)
theorem H6.p1{blk}{i1 i2}{S}{v'}{l1 l2 r1 r2}{t}(h:H6 blk i1 i2 S v' (l1++[t]) l2 r1 r2):H6 blk i1 i2 S v' l1 l2 (t::r1) r2:=by
 obtain⟨hh,c1,c2,h1,h2,h3,h4,h5,h6,h7⟩:=h;exact⟨hh,c1,c2,h1,h2,h3,h4,h5,by rwa[List.append_cons],h7⟩
theorem H6.p2{blk}{i1 i2}{S}{v'}{l1 l2 r1 r2}{t}(h:H6 blk i1 i2 S v' l1 (l2++[t]) r1 r2):H6 blk i1 i2 S v' l1 l2 r1 (t::r2):=by
 obtain⟨hh,c1,c2,h1,h2,h3,h4,h5,h6,h7⟩:=h;exact⟨hh,c1,c2,h1,h2,h3,h4,h5,h6,by rwa[List.append_cons]⟩
def anq{v v' o}{A}(hA:Cl v A)(hn:O A<=100000){o2}(k2c:∀ids,aE ids o2=true):
  ∀k i,i+k=O A->∀c1 c2 l1 l2,oB c1 l1->oB c2 l2->Bf v l1 (A.drop i)->Bf v l2 (A.drop i)->O l1+k<=1000000->O l2+k<=1000000->∀s h,s 1=I o->s 4=ac 4->s 5=ac 5->s 6=ac 2136->s 7=ac 2160->s 22=.sl 4 (aU A)->s 23=I (O A)->s 24=I i->h 2=o2->h 4=.bx [I 0,.emp]->h 5=.bx [I 0,.emp]->h 2136=t3 v' c1 0->h 2160=t3 v' c2 0->
  H6 (ao 0 [4,5,6,7] (aB (am R (aA false) oR) [1,4,5,6,7,22,23,24] [2,4,5,2136,2160] s h)) 2136 2160 (upd (upd (upd (upd ce 7 (ac 2160)) 6 (ac 2136)) 5 (ac 5)) 4 (ac 4)) v' l1 l2 ((A.drop i).filter (W7 o)) ((A.drop i).filter (TN o)):=by
 intro k;induction k with
 |zero=>
  intro i hi c1 c2 l1 l2 hc1 hc2 _ _ _ _ s h g1 g4 g5 g6 g7 g22 g23 g24 k2 k4 k5 k2136 k2160;have e1:=aP (i< (O A:Int));have ho1:=(me (v:=v') (e:=0) hc1).cl [2,4,5,2136,2160];have ho2:=(me (v:=v') (e:=0) hc2).cl [2,4,5,2136,2160];have ho3:=k2c [2,4,5,2136,2160];rw[aFq ω,ai];refine⟨?hh0,c1,c2,?_,?_,?_,?_,?_,by grind,by grind⟩;rotate_left
  ·simp only[oR,go_sem,g1,g4,g5,g6,g7,g22,g23,g24,k2,k4,k5,k2136,k2160,ho1,ho2,ho3,e1];rfl
  ·rfl
  ·rfl
  ·rfl
  ·rfl
 |succ k ih=>
  intro i hi c1 c2 l1 l2 hc1 hc2 b1 b2 hl1 hl2 s h g1 g4 g5 g6 g7 g22 g23 g24 k2 k4 k5 k2136 k2160;have hlt:i<O A:=ω
  have e1:=aa (i< (O A:Int));have e2:=kV rfl (aE1 hlt);have e5:aG (i+1)=(i+1:Nat):=wi;have ho1:=(me (v:=v') (e:=0) hc1).cl [2,4,5,2136,2160];have ho2:=(me (v:=v') (e:=0) hc2).cl [2,4,5,2136,2160];have ho3:=k2c [2,4,5,2136,2160];have hAd:=hA.dropN i;rw[aFe hlt]at b1 b2 hAd⊢;have ih':=ih (i+1) ω;have vt:=hAd.head;generalize A[i]=t at e2 vt b1 b2 hAd⊢;have hdeg:=Cw vt.sm;rw[ai];generalize aB _ _ _=L at ih'⊢;simp only[dE]at e2;by_cases hd:cp t.exps<=o
  ·have e3:=eq_true hd;have f1:(W7 o t)=true:=decide_eq_true hd;have f2:¬ (TN o t)=true:=by simp_all[TN,decide_eq_true,aE3]
   rw[List.filter_cons_of_pos f1,List.filter_cons_of_neg f2];obtain⟨c3,s1,s2⟩:=H5 (v':=v') b1 vt ω hc1;have hcall:=fun(h:aj) (hh:h 2136=t3 v' c1 0) d=>dQ (aV.1.2.1 false) rfl (qK (d:=d) hh hc1 s2 s1);have ih2:=ih' c3 c2 _ l2 s2 hc2 (b1.push hAd vt) b2.drop γ ω;refine H6.p1 ?_;simp only[af,ak]at hcall;simp only[oR,go_sem,g1,g4,g5,g6,g7,g22,g23,g24,k2,k4,k5,k2136,k2160,ho1,ho2,ho3,e1,e2,hdeg,e3];rw[hcall _ rfl];simp only[go_sem,e5];refine ih2 _ _ ?_ ?_ ?_ ?_ ?_ ?_ ?_ ?_ ?_ ?_ ?_ ?_ ?_
   all_goals first|rfl|assumption
  ·have e3:=eq_false hd;have f1:¬ (W7 o t)=true:=by simp_all[W7,decide_eq_false,aE3]
   have f2:(TN o t)=true:=by grind[TN,decide_eq_false]
   rw[List.filter_cons_of_neg f1,List.filter_cons_of_pos f2];obtain⟨c3,s1,s2⟩:=H5 (v':=v') b2 vt ω hc2;have hcall:=fun(h:aj) (hh:h 2160=t3 v' c2 0) d=>dQ (aV.1.2.1 false) rfl (qK (d:=d) hh hc2 s2 s1);have ih2:=ih' c1 c3 l1 _ hc1 s2 b1.drop (b2.push hAd vt) ω γ;refine H6.p2 ?_;simp only[af,ak]at hcall;simp only[oR,go_sem,g1,g4,g5,g6,g7,g22,g23,g24,k2,k4,k5,k2136,k2160,ho1,ho2,ho3,e1,e2,hdeg,e3];rw[hcall _ rfl];simp only[go_sem,e5];refine ih2 _ _ ?_ ?_ ?_ ?_ ?_ ?_ ?_ ?_ ?_ ?_ ?_ ?_ ?_
   all_goals first|rfl|assumption
def av4{v v' o}{A}(hA:Cl v A)(hn:O A<=100000){o2}(k2c:∀ids,aE ids o2=true)(s)(h)(X)(hX:ao 0 [4,5,6,7] (aB (am R (aA false) oR) [1,4,5,6,7,22,23,24] [2,4,5,2136,2160] s h)=X)
  (g1:s 1=I o) (g4:s 4=ac 4) (g5:s 5=ac 5) (g6:s 6=ac 2136) (g7:s 7=ac 2160) (g22:s 22=.sl 4 (aU A)) (g23:s 23=I (O A)) (g24:s 24=I 0) (k2:h 2=o2) (k4:h 4=.bx [I 0,.emp]) (k5:h 5=.bx [I 0,.emp]) (k2136:h 2136=t3 v' .emp 0) (k2160:h 2160=t3 v' .emp 0):
  H6 X 2136 2160 (upd (upd (upd (upd ce 7 (ac 2160)) 6 (ac 2136)) 5 (ac 5)) 4 (ac 4)) v' [] [] (A.filter (W7 o)) (A.filter (TN o)):=by
 subst hX;exact anq hA hn k2c (O A) 0 (aES _) .emp .emp [] [] (.inr ⟨rfl,rfl⟩) (.inr ⟨rfl,rfl⟩) (Bf.nil _) (Bf.nil _) γ γ s h g1 g4 g5 g6 g7 g22 g23 g24 k2 k4 k5 k2136 k2160
def anr(id:Nat)(s:aM)(h:aj):Ob->Option (aM×aj×K)
 | .bx cs=>some (ng [(id,true)] s,upd h id (.bx (cs.map pe)),[(id,true)])
 |_=>none
theorem zH(i id x y z)(s)(h):Uo i s h (.ref id none x y z)=anr id s h (h id):=by
 grind[Uo,anr]
theorem CD(id)(s)(h)(cs):anr id s h (.bx cs)=some (ng [(id,true)] s,upd h id (.bx (cs.map pe)),[(id,true)]):=rfl
def ppV(r:Rp×Rp):AV:=.tup [bj r.1,bj r.2]
def akj{a}{o}(oa:OkP a):R 186 [bj a,I o] []=some (ppV (gI a o),[]):=by
 refine au aaj ?_;have v1:=vP oa;simp only[bj]at v1;unfold gI;cases va:vp a with
 |false=>
  rw[va]at v1;simp only[Bv,Ht,bj,go_sem,v1];rfl
 |true=>
  rw[va]at v1;obtain⟨ka,a0,a8,al⟩:=gw oa va;have hemp:=B1 (v:=a.vars);have hl:=av4 (v:=a.vars) (v':=a.vars) (o:=o) ka ω (o2:=.bx [I a.vars,.sl 4 (aU a.terms)]) (fun _=>rfl);simp only[Bv,Ht,bj,go_sem,v1,hemp,qL];generalize hX:ao 0 _ _=X;have hM:=hl _ _ _ hX Z Z Z Z Z Z Z Z Z Z Z Z Z;obtain⟨hh,c1,c2,rfl,q4,q5,q1,q2,i1,i2⟩:=hM;generalize a.terms.filter (W7 o)=r1 at i1⊢;generalize a.terms.filter (TN o)=r2 at i2⊢;rcases i1 with rfl| ⟨rfl,rfl⟩
  ·rcases i2 with rfl| ⟨rfl,rfl⟩
   ·simp only[t3]at q1 q2;simp only[ppV,bj,go_sem,aFt,aFD,q4,q5,q1,q2,zH,CD,aFr,aFB,Bk,zG]
   ·simp only[t3]at q1 q2;simp only[ppV,bj,go_sem,aFt,aFD,q4,q5,q1,q2,zH,CD,aFr,aFB,Bk,zG,EG];rfl
  ·rcases i2 with rfl| ⟨rfl,rfl⟩
   ·simp only[t3]at q1 q2;simp only[ppV,bj,go_sem,aFt,aFD,q4,q5,q1,q2,zH,CD,aFr,aFB,Bk,zG,EG];rfl
   ·simp only[t3]at q1 q2;simp only[ppV,bj,go_sem,aFt,aFD,q4,q5,q1,q2,zH,CD,aFr,aFB,Bk,EG];rfl
def bU(ds:List Int)(cs:List Ri)(p:Int):Ob:=.bx [.osl 1 (aY ds),.osl 7 (cT cs),I p]
def Rz:List Int->Int->Int
 |[],n=>n
 |d::l,n=>Rz l (n*(d+1))
theorem vR(a b)(k)(r):ni 0 (.bx [.osl k r,a,b])=some (k,r):=rfl
theorem CE(h)(n)(g)(i j)(r):sE h n g 1 i j (some (1,r))=(r[i]?).bind fun row=>(nO n g row j).map fun a=>(a,h,[]):=rfl
def ans{ds}{cs}{p}{m}(hm:m<=O ds)(h8:m<=1000)(hb:∀d∈ds,0<=d/\d<=32):
  ∀ (k i:Nat),i+k=m->∀n,0<=n->n*33^k<=10000000000000->∀s h,s 5=I n->s 13=.rsl 1000 (some 0) 1 0 m->s 14=I m->s 15=I i->h 1000=bU ds cs p->
  ∃hh,ao 0 [5] (aB (am R (aA true) lW) [5,13,14,15] [1000] s h)=some (.normal,⟨upd ce 5 (I (Rz ((ds.take m).drop i) n)),hh⟩)/\hh 1000=bU ds cs p:=by
 intro k;induction k with
 |zero=>
  intro i hi n h0 hn s h g5 g13 g14 g15 k1000;have e1:=aP (i< (m:Int));rw[aFq γ,ai];refine⟨?hh0,?_,?_⟩;rotate_left
  ·simp only[lW,bU,go_sem,g5,g13,g14,g15,k1000,e1];rfl
  ·rfl
 |succ k ih=>
  intro i hi n h0 hn s h g5 g13 g14 g15 k1000;have hlt2:i< O (ds.take m):=γ
  have e1:=aa (i< (m:Int));have e2:(aY ds)[i]?=some [I (ds.take m)[i]]:=by
   unfold aY;rw[aFw,List.getElem_take,aE1 ω];rfl
  have e5:aG (i+1)=(i+1:Nat):=wi;rw[aFe hlt2];have hd:=hb (ds.take m)[i] (List.mem_of_mem_take (aFg hlt2));generalize(ds.take m)[i]=d at e2 hd⊢;have e6:=aa (0<=(i:Int));have e3:aG (d+1)=d+1:=i64_in _ ⟨by omega,by omega⟩;have hn2:n*(d+1)*33^k<=n*33^ (k+1):=by
   rw[Int.pow_succ,Int.mul_comm _ 33,←Int.mul_assoc];exact Int.mul_le_mul_of_nonneg_right (Int.mul_le_mul_of_nonneg_left ω h0) (Int.pow_nonneg δ)
  have hp1:=by
   have:=Int.pow_pos (n:=33) (m:=k) δ;omega
  have hn0:0<=n*(d+1):=Int.mul_nonneg h0 ω;have hn3:=by
   have:=Int.mul_le_mul_of_nonneg_left hp1 hn0;omega
  have e4:aG (n*(d+1))=n*(d+1):=i64_in _ ⟨by omega,by omega⟩;have ih':=ih (i+1) ω (n*(d+1)) hn0 ω;rw[ai];simp only[bU]at k1000;simp only[lW,go_sem,g5,g13,g14,g15,k1000,e1,e2,e3,e4,e5,e6,aEY,aES,vR,CE];apply ih'<;>rfl
def av5{ds}{cs}{p}{m}(hm:m<=O ds)(h8:m<=8)(hb:∀d∈ds,0<=d/\d<=32)(s)(h)(X)(hX:ao 0 [5] (aB (am R (aA true) lW) [5,13,14,15] [1000] s h)=X)(g5:s 5=I 1)(g13:s 13=.rsl 1000 (some 0) 1 0 m)(g14:s 14=I m)(g15:s 15=I 0)(k1000:h 1000=bU ds cs p):
  ∃hh,X=some (.normal,⟨upd ce 5 (I (Rz (ds.take m) 1)),hh⟩)/\hh 1000=bU ds cs p:=by
 subst hX;exact ans hm ω hb m 0 (aES _) 1 δ (by
  have:(33:Int)^m<=33^8:=by
   have h1:33^m<=33^8:=aFu δ h8;grind
  omega) s h g5 g13 g14 g15 k1000
theorem EK(ds):O (aY ds)=O ds:=by simp[aY]
def aqB{ds}{cs}{p}(hm:m<=O ds)(h8:m<=8)(hb:∀d∈ds,0<=d/\d<=32):R 301 [ac 1000,I m] [bU ds cs p]=some (I (Rz (ds.take m) 1),[bU ds cs p]):=by
 refine xz PC PB (Dy false) rfl ?_;have hl:=av5 (ds:=ds) (cs:=cs) (p:=p) hm h8 hb;have e1:gA 1 (.rsl 1000 (some 0) 1 0 (O ds)) none (some (I m)) none=some (.rsl 1000 (some 0) 1 0 m):=by
  grind[gA,nc,mS]
 simp only[zg,Gp,go_sem,bU,EK,e1];generalize hX:ao 0 [5] _=X;obtain⟨hh,rfl,q⟩:=hl _ _ _ hX Z Z Z Z Z;exact jY rfl q rfl (by rfl) (by rfl)
def Mj(c1 c2:j8):Prop:=∀f a hs r,c1 f a hs=some r->c2 f a hs=some r
section
variable {c1 c2:j8} {md:Mode}
def adh(hc:Mj c1 c2){d:Nat}{zas:List AV}{f:AV}{r:R3}(hz:eU c1 md h d zas f=some r):eU c2 md h d zas f=some r:=by
 cases f<;>simp only[eU]at hz⊢ <;>try (cases hz;done)
 simp only[aEQ]at hz⊢;obtain⟨p,e1,e2⟩:=hz;unfold lg at e2⊢;split at e2
 ·rename_i hcc;simp only[aEQ]at e2;obtain⟨q,e3,e4⟩:=e2;refine⟨p,e1,?_⟩;rw[ap hcc];simp only[aEQ];exact⟨q,hc _ _ _ _ e3,e4⟩
 ·cases e2
def TO(hc:Mj c1 c2){d:Nat}{zas:List AV}{f:AV}{r:R3}(hz:bF c1 md h d zas f=some r):bF c2 md h d zas f=some r:=by
 unfold bF at hz⊢;split at hz
 ·rename_i hb;rw[ap hb];cases f<;>simp only[R5]at hz⊢ <;>try (cases hz;done)
  simp only[aEQ]at hz⊢;obtain⟨p,e1,q,e3,e4⟩:=hz;exact⟨p,e1,q,hc _ _ _ _ e3,e4⟩
 ·rename_i hb;rw[av hb];exact adh hc hz
theorem W8(hc:Mj c1 c2){d:Nat}{r:R3}(hz:step c1 md d op s h=some r):step c2 md d op s h=some r:=by
 cases op with
 |call f zas=>exact TO hc hz
 |callC f zas=>
  simp only[step,aEQ]at hz⊢;obtain⟨q,e1,e2⟩:=hz;exact⟨q,TO hc e1,e2⟩
 |_=>exact hz
def W9(hc:Mj c1 c2){d:Option Nat}{t:St}(hz:eH md.nm s d (step c1 md (d.getD 0) op s h)=some t):eH md.nm s d (step c2 md (d.getD 0) op s h)=some t:=by
 cases hs:step c1 md (d.getD 0) op s h with
 |none=>rw[hs]at hz;cases hz
 |some r=>
  rw[hs]at hz;rw[W8 hc hs];exact hz
theorem ahw(hc:Mj c1 c2){o:COp}{t:St}(hz:qi c1 md o s h=some t):qi c2 md o s h=some t:=by
 unfold qi at hz⊢;cases hg:o.g with
 |none=>rw[hg]at hz;exact W9 hc hz
 |some g=>
  rw[hg]at hz;simp only at hz⊢;unfold oI at hz⊢;split at hz
  ·split at hz
   ·rename_i hb;simp only[ap hb];exact W9 hc hz
   ·rename_i hb;simp only[av hb];exact hz
  ·exact hz
  ·cases hz
theorem H7(hc:Mj c1 c2):∀ {l:List COp} {s:aM} {h:aj} {t:St},aK c1 md l s h=some t->aK c2 md l s h=some t
 |[],s,h,t,hz=>hz
 |o::l,s,h,t,hz=>by
  simp only[aK,bG]at hz;split at hz
  ·cases hz
  ·rename_i t1 ht1;simp only[aK,bG,ahw hc ht1,H7 hc hz]
def TP(hc:Mj c1 c2){d:Option Nat}{f:aj->Fp}{t:St×Fp}(hz:rJ s d f (step c1 md (d.getD 0) op s h)=some t):rJ s d f (step c2 md (d.getD 0) op s h)=some t:=by
 cases hs:step c1 md (d.getD 0) op s h with
 |none=>rw[hs]at hz;cases hz
 |some r=>
  rw[hs]at hz;rw[W8 hc hs];exact hz
theorem ahx(hc:Mj c1 c2){o:COp}{t:St×Fp}(hz:gp c1 md o s h=some t):gp c2 md o s h=some t:=by
 unfold gp at hz⊢;cases hg:o.g with
 |none=>rw[hg]at hz;exact TP hc hz
 |some g=>
  rw[hg]at hz;simp only at hz⊢;unfold v9 at hz⊢;split at hz
  ·split at hz
   ·rename_i hb;simp only[ap hb];exact TP hc hz
   ·rename_i hb;simp only[av hb];exact hz
  ·exact hz
  ·cases hz
theorem NO(hc:Mj c1 c2):∀ {l:List COp} {s:aM} {h:aj} {t:St×List Fp},kf c1 md l s h=some t->kf c2 md l s h=some t
 |[],s,h,t,hz=>hz
 |o::l,s,h,t,hz=>by
  simp only[kf,aEQ]at hz;obtain⟨r,e1,q,e2,e3⟩:=hz;simp only[kf,ahx hc e1,NO hc e2,aEZ,e3]
theorem ahy(hc:Mj c1 c2){l:List COp}{ps:List (Nat×Nat)}{t:St}(hz:we c1 md l ps s h=some t):we c2 md l ps s h=some t:=by
 unfold we at hz⊢;cases hb:EZ ps with
 |none=>
  rw[hb]at hz;simp only[Fg,aEQ]at hz;obtain⟨q,e1,e2⟩:=hz;simp only[Fg,NO hc e1,aEZ,e2]
 |some b=>
  rw[hb]at hz;simp only[KA,aEQ]at hz;obtain⟨q,e1,e2⟩:=hz;split at e2
  ·rename_i hps;simp only[bG]at e2;split at e2
   ·cases e2
   ·rename_i t1 ht1;simp only[KA,NO hc e1,aEZ,ap hps,ht1,bG,H7 hc e2]
  ·cases e2
def NP{b1 b2:aM->aj->Option (Ex×St)}{ks hs:List Nat}(ih:∀ {s:aM} {h:aj} {r:Ex×St},b1 s h=some r->b2 s h=some r):
  ∀ (m:Nat) {j:Nat},m<=j->∀ {s:aM} {h:aj} {r:Ex×St},xS b1 ks hs m s h=some r->xS b2 ks hs j s h=some r
 |0,j,hj,s,h,r,hz=>by simp[xS]at hz
 |m+1,j,hj,s,h,r,hz=>by
  obtain⟨j,rfl⟩:∃j',j=j'+1:=⟨j-1,by omega⟩;simp only[xS]at hz⊢;split at hz
  ·rename_i hc;rw[ap hc];cases hb:b1 (mk .any (fun i=>jn hs (s i)) ks) (mk .dead h hs)with
   |none=>rw[hb]at hz;cases hz
   |some q=>
    rw[hb]at hz;rw[ih hb];obtain⟨ex,t⟩:=q;cases ex with
    |normal=>exact NP ih m ω hz
    |exit id=>exact hz
    |ret=>exact hz
  ·cases hz
theorem mN(hc:Mj c1 c2){lf lf':Nat}(hl:lf<=lf'):∀ (c:Cmd) {s:aM} {h:aj} {r:Ex×St},df c1 md lf c s h=some r->df c2 md lf' c s h=some r
 | .skip,s,h,r,hz=>hz
 | .ops ks l,s,h,r,hz=>by
  simp only[df,bG]at hz;split at hz
  ·cases hz
  ·rename_i t1 ht1;simp only[df,H7 hc ht1,bG];exact hz
 | .dops ks l ps,s,h,r,hz=>by
  simp only[df,bG]at hz;split at hz
  ·cases hz
  ·rename_i t1 ht1;simp only[df,ahy hc ht1,bG];exact hz
 | .seq a b,s,h,r,hz=>by
  simp only[df,dx]at hz;split at hz
  ·cases hz
  ·rename_i t1 ht1;simp only[df,dx,mN hc hl a ht1,mN hc hl b hz]
  ·rename_i i t1 ht1;simp only[df,dx,mN hc hl a ht1];exact hz
  ·rename_i t1 ht1;simp only[df,dx,mN hc hl a ht1];exact hz
 | .cond c a b,s,h,r,hz=>by
  simp only[df,wh]at hz;split at hz
  ·rename_i t ht;cases t with
   |true=>simp only[df,wh,ht,if_true];exact mN hc hl a hz
   |false=>simp only[df,wh,ht,aFv,if_false];exact mN hc hl b hz
  ·cases hz
 | .block id ks a,s,h,r,hz=>by
  simp only[df,ao]at hz;split at hz
  ·cases hz
  ·rename_i t1 ht1;simp only[df,ao,mN hc hl a ht1];exact hz
  ·rename_i i t1 ht1;simp only[df,ao,mN hc hl a ht1];exact hz
  ·rename_i t1 ht1;simp only[df,ao,mN hc hl a ht1];exact hz
 | .loop ks hs a,s,h,r,hz=>by
  simp only[df]at hz⊢;exact NP (fun hh=>mN hc hl a hh) lf hl hz
 | .exit id,s,h,r,hz=>hz
 | .ret,s,h,r,hz=>hz
 | .frz is a,s,h,r,hz=>by
  simp only[df,bG]at hz;split at hz
  ·cases hz
  ·rename_i t1 ht1;simp only[df,bG,ht1];exact mN hc hl a hz
end
theorem aHP(e:Env):∀ (n:Nat),Mj (pf e n) (pf e (n+1))
 |0,f,a,hs,r,hz=>by cases hz
 |n+1,f,a,hs,r,hz=>by
  cases hE:e.E f with
  |some g=>
   simp only[pf,hE]at hz⊢;exact hz
  |none=>
   cases hC:e.C f with
   |none=>
    simp only[pf,hE,hC,Option.bind_none]at hz;cases hz
   |some fd=>
    have h1:MD (pf e n) {e.md with nm:=e.md.keep f} n fd a hs=some r:=by
     simpa only[pf,hE,hC,aEZ]using hz
    have h2:MD (pf e (n+1)) {e.md with nm:=e.md.keep f} (n+1) fd a hs=some r:=by
     unfold MD at h1⊢;split at h1
     ·rename_i hcc;rw[ap hcc];cases hx:df (pf e n) {e.md with nm:=e.md.keep f} n fd.body (iW a) (az hs)with
      |none=>rw[hx]at h1;cases h1
      |some q=>
       rw[hx]at h1;rw[mN (aHP e n) (Nat.le_succ n) fd.body hx];exact h1
     ·cases h1
    show pf e (n+1+1) f a hs=some r;show(match e.E f with
     |some g=>g a hs
     |none=>(e.C f).bind fun fd=>MD (pf e (n+1)) {e.md with nm:=e.md.keep f} (n+1) fd a hs)=some r
    rw[hE];show(e.C f).bind (fun fd=>MD (pf e (n+1)) {e.md with nm:=e.md.keep f} (n+1) fd a hs)=some r;rw[hC];exact h2
def aKN(e:Env){k:Nat}(h:n<=k):Mj (pf e n) (pf e k):=by
 induction h with
 |refl=>exact fun f a hs r hz=>hz
 |step _ ih=>exact fun f a hs r hz=>aHP e _ f a hs r (ih f a hs r hz)
def aIK{e:Env}{f:FuncId}{a:List AV}{hs:List Ob}{r:AV×List Ob}(h:pf e n f a hs=some r):iL e f a hs=some r:=by
 unfold iL;rw[tL];exact⟨n,fun k hk=>aKN e hk f a hs r h⟩
theorem atv:Option.any bI (some AV.emp)=false:=rfl
def oW(v:Nat):List Int:=aER v 0
theorem atw{h}{id id2 k n}{rows}{a}{z}(h1:h id2=.ar k rows)(hn:n=O rows)(h2:h id=.bx [.any,.any,.any])(hne:id≠id2):
  Qf id 0 [.rsl id2 none k 0 n,.emp,I z] (a,h,[])=some (a,upd (upd (upd (upd h id2 .dead) id (.bx [.osl k rows,.any,.any])) id (.bx [.osl k rows,.emp,.any])) id (.bx [.osl k rows,.emp,I z]),[(id2,false)]):=by
 have h3:upd h id2 .dead id=.bx [.any,.any,.any]:=by
  simp_all[upd,av]
 have e1:∀ (g:aj) o,upd g id o id=o:=fun g o=>by simp_all[upd,ap]
 have k1:∀K,yc K .emp=.emp:=fun K=>rfl;have k2:∀K,yc K (I z)=I z:=fun K=>rfl
 simp_all[bI,aI,I,Qf,wN,LS,V9,Qe,Gz]
def GM:List Int->Int->Option Int
 |[],n=>some n
 |d::l,n=>if 400<n*(d+1)then none else GM l (n*(d+1))
def Gr2(blk:Option (Ex×St))(o2 g:Ob):Option Int->Prop
 |some n=>∃hh,blk=some (.normal,⟨upd (upd (upd ce 11 (I n)) 6 (ac 24)) 2 (ac 2),hh⟩)/\hh 2=o2/\hh 24=g/\(∀a,a≠2->a≠24->hh a=.dead)
 |none=>∃hh,blk=some (.ret,⟨upd (upd ce 5 (B false)) 4 (.v (.pointer none)),hh⟩)
def ant{ds}{p}{m}(hm:m=O ds)(h8:m<=1000)(hb:∀d∈ds,0<=d/\d<=32){o2}(c2:∀l,aE l o2=true):
  ∀ (k i:Nat),i+k=m->∀n,0<=n->n<=400->∀s h,s 2=ac 2->s 6=ac 24->s 11=I n->s 60=.rsl 24 (some 0) 1 0 m->s 61=I m->s 62=I i->h 2=o2->h 21=.dead->h 24=.bx [.osl 1 (aY ds),.emp,I p]->h 2624=.dead->
  Gr2 (ao 4 [2,6,11] (aB (am R (aA false) jP) [2,6,11,60,61,62] [2,21,24,2624] s h)) o2 (.bx [.osl 1 (aY ds),.emp,I p]) (GM (ds.drop i) n):=by
 intro k;induction k with
 |zero=>
  intro i hi n h0 hn s h g2 g6 g11 g60 g61 g62 k2 k21 k24 k2624;have e1:=aP (i< (m:Int));have hc:=c2 [2,21,24,2624];rw[aFq ω,ai];refine⟨?hh0,?_,?_,?_,?_⟩;rotate_left
  ·simp only[jP,go_sem,g2,g6,g11,g60,g61,g62,k2,k21,k24,k2624,hc,e1];rfl
  all_goals simp_all[cz,if_false,ite_self]
 |succ k ih=>
  intro i hi n h0 hn s h g2 g6 g11 g60 g61 g62 k2 k21 k24 k2624;have hlt:i<O ds:=ω
  have e1:=aa (i< (m:Int));have e2:(aY ds)[i]?=some [I ds[i]]:=by
   grind[aY]
  have e5:aG (i+1)=(i+1:Nat):=wi;have hc:=c2 [2,21,24,2624];rw[aFe hlt];have hd:=hb ds[i] (aFg hlt);generalize ds[i]=d at e2 hd⊢;have e6:=aa (0<=(i:Int));have e3:aG (d+1)=d+1:=i64_in _ ⟨by omega,by omega⟩;have hn0:0<=n*(d+1):=Int.mul_nonneg h0 ω;have hn3:n*(d+1)<=400*33:=Int.mul_le_mul hn ω ω δ;have e4:aG (n*(d+1))=n*(d+1):=i64_in _ ⟨by omega,by omega⟩;have ih':=ih (i+1) ω (n*(d+1)) hn0;have hrow:GM (d::ds.drop (i+1)) n=if 400<n*(d+1)then none else GM (ds.drop (i+1)) (n*(d+1)):=rfl
  rw[hrow,ai];by_cases hq:400<n*(d+1)
  ·have e7:=eq_true hq;rw[ap hq];refine⟨?hh1,?_⟩;rotate_left
   ·simp only[jP,go_sem,g2,g6,g11,g60,g61,g62,k2,k21,k24,k2624,hc,e1,e2,e3,e4,e6,e7,aEY,aES,vR,CE];rfl
  ·have e7:=eq_false hq;simp only[jP,go_sem,g2,g6,g11,g60,g61,g62,k2,k21,k24,k2624,hc,e1,e2,e3,e4,e5,e6,e7,aEY,aES,vR,CE];refine ih' ω _ _ ?_ ?_ ?_ ?_ ?_ ?_ ?_ ?_ ?_ ?_
   all_goals first|rfl|assumption
def av6{ds}{p}{m}(hm:m=O ds)(h8:m<=1000)(hb:∀d∈ds,0<=d/\d<=32){o2}(c2:∀l,aE l o2=true)(s)(h)(X)(hX:ao 4 [2,6,11] (aB (am R (aA false) jP) [2,6,11,60,61,62] [2,21,24,2624] s h)=X)(g2:s 2=ac 2)(g6:s 6=ac 24)(g11:s 11=I 1)(g60:s 60=.rsl 24 (some 0) 1 0 m)(g61:s 61=I m)(g62:s 62=I 0)(k2:h 2=o2)(k21:h 21=.dead)(k24:h 24=.bx [.osl 1 (aY ds),.emp,I p])(k2624:h 2624=.dead):
  Gr2 X o2 (.bx [.osl 1 (aY ds),.emp,I p]) (GM ds 1):=by
 subst hX;exact ant hm h8 hb c2 m 0 (aES _) 1 δ δ s h g2 g6 g11 g60 g61 g62 k2 k21 k24 k2624
theorem abA(v):aER v [I 0]=aY (oW v):=by
 grind[aY,oW,List.map_replicate]
def aoV{v}:∀d∈oW v,0<=d/\d<=32:=fun d hd=>by
 rw[List.eq_of_mem_replicate hd];decide
theorem aqC(h)(i)(xs)(a b)(r):Iu h 1 24 0 1 i 0 xs [] (.bx [.osl 1 r,a,b])=(vX 1 1 i 0 xs 1 r).map fun q=>(.und,upd h 24 (.bx [.osl 1 q,a,b]),[]):=rfl
def NQ{f}{h}{d id}{zas as'}{o o'}{res}(hm:(aA false).m f=[])(hk:(aA false).keep f=true)(hn:bC ((aA false).sh f) (ac id::zas)=ac id::as')(hd:zas.all dat=true)(hd':as'.all dat=true)
  (hh:h id=o) (ho:OC o) (ho':OC o') (hb:bf o=true->bf o'=true) (hR:R f (ac 1000::as') [o]=some (res,[o'])) (hr:RT res) (h8:cV res<=8) (hfr:bV h (2000+8*d) (cV res)=true):
  bF R (aA false) h d (ac id::zas) (.fn f [] [])=some (res,upd h id o',[]):=by
 have h1:cr h [] (ac id::zas)=some (ac id::zas,h,[]):=by
  simp only[cr,eM,aEZ,List.tail_nil,OS h hd,aE8]
 have hp:bD [] ((ac id::zas).flatMap cF)=[id]:=by
  rw[List.flatMap_cons,B0 fun x hx=>G0 (List.all_eq_true.1 hd x hx)];rfl
 have hre:bO h 40 [id] 0=[id]:=by
  simp[bO,hh,ho.ids,bD]
 have h3:bh [id] id=1000:=by simp[bh]
 have hall:(ac id::as').all (be [id])=true:=by
  grind[be,bA,Kg]
 have hmap:(ac id::as').map (eG (bh [id]))=ac 1000::as':=by
  rw[aFr,(aFn (g:=fun c=>c) fun x hx=>G1 (List.all_eq_true.1 hd' x hx) _).trans (aFH as')];grind[eG,lG]
 have hob:([id].map fun a=>eP (bh [id]) (h a))=[o]:=by simp[hh,ho.ren]
 have hids:([id].all fun a=>aE [id] (h a)&&!bS (h a))=true:=by simp[hh,ho.cl,ho.nd]
 unfold bF;rw[av (by grind[lH])];simp only[eU,aE5,aE8,aEZ, *];unfold lg;rw[hall,hids,hmap,hob,hR,aFI,ap rfl,aEZ,hk,hm,vG];unfold fG;have hbf:dk h [] [id] [o']=true:=by
  have:=ho'.nd;grind[bf,dk]
 have hend:nP h [id] [] (res,[o'])=true:=by
  simp[nP,CP,hr.ok,ho'.cl]
 rw[ap ⟨rfl,by simp,h8,hfr,hbf,hend⟩];simp[fw,ie,hr.mat,hr.ren,ho'.ren]
theorem cU(ds)(cs)(p):OC (bU ds cs p):=⟨fun _=>rfl,rfl,fun _=>rfl,rfl⟩
def NR{ds}{cs}{p}(hm:m<=O ds)(h8:m<=8)(hb:∀d∈ds,0<=d/\d<=32){h}{d id}(hh:h id=bU ds cs p)(hd:h (2000+8*d)=.dead):
  bF R (aA false) h d [ac id,I m] (.fn 301 [] [])=some (I (Rz (ds.take m) 1),upd h id (bU ds cs p),[]):=
 NQ (pU false) (Dy false) (as':=[I m]) (by simp only[go_sem]) Z Z hh (cU _ _ _) (cU _ _ _) (fun _=>rfl) (aqB hm h8 hb) (asX _) (aFp rfl) (by grind[bV,cV,bS])
theorem CF(a b)(k)(r):ni 1 (.bx [a,.osl k r,b])=some (k,r):=rfl
def av7{f}{fd}{args}{os}{r}(hE:cB.E f=none)(hC:cB.C f=some fd)(hk:cB.md.keep f=false)(h1:O args=fd.np)(h2:O os<=1000)
  (hz:fk false fd.rs fd.res (O os) (am R (aA false) fd.body (iW args) (az os))=some r):R f args os=some r:=
 Na false hE hC hk h1 h2 hz
theorem abB(a b c d e):az [a,b,c,d,e]=upd (upd (upd (upd (upd (fun _=>.dead) 1004 e) 1003 d) 1002 c) 1001 b) 1000 a:=by
 funext i;unfold az upd;by_cases h0:i=1000
 ·simp_all
 by_cases h1:i=1001
 ·simp_all
 by_cases h2:i=1002
 ·simp_all
 by_cases h3:i=1003
 ·simp_all
 by_cases h4:i=1004
 ·simp_all
 simp only[if_false, *];by_cases h5:1000<=i
 ·rw[ap h5,List.getElem?_eq_none (by simp;omega)];rfl
 grind
theorem abC(a b c):az [a,b,c]=upd (upd (upd (fun _=>.dead) 1002 c) 1001 b) 1000 a:=by
 funext i;unfold az upd;by_cases h0:i=1000
 ·simp_all
 by_cases h1:i=1001
 ·simp_all
 by_cases h2:i=1002
 ·simp_all
 simp only[if_false, *];by_cases h5:1000<=i
 ·rw[ap h5,List.getElem?_eq_none γ];rfl
 grind
def jG(x:Ri):Ob:=.bx [B x.lo.neg,lm x.lo.m,I x.lo.e,B x.hi.neg,lm x.hi.m,I x.hi.e,B x.all]
theorem iV(x):OC (jG x):=⟨fun _=>rfl,rfl,fun _=>rfl,rfl⟩
def ahz{l st n}{lo w}{ds}{cs cs'}{p}(hR:R 303 [I l,I st,ac 1000,ac 1001,ac 1002,ac 1003] [.bx [I n],.bx [ac 1004],jG lo,jG w,bU ds cs p]=some (.tup [],[.bx [I n],.bx [ac 1004],jG lo,jG w,bU ds cs' p])){h}{d}(h0:h 1000=bU ds cs p)(h1:h 1001=.bx [I n])(h2:h 1002=.bx [ac 1000])(h3:h 1003=jG lo)(h4:h 1004=jG w)(hf:h (2000+8*d)=.dead):
  bF R (aA false) h d [I l,I st] (.fn 303 [] [ac 1001,ac 1002,ac 1003,ac 1004])=some (.tup [],upd (upd (upd (upd (upd h 1001 (.bx [I n])) 1002 (.bx [ac 1000])) 1003 (jG lo)) 1004 (jG w)) 1000 (bU ds cs' p),[(1001,true),(1002,true),(1003,true),(1004,true),(1000,true)]):=by
 have hre:bO h 40 [1001,1002,1003,1004] 0=[1001,1002,1003,1004,1000]:=by
  have i0:=(cU ds cs p).ids;have i1:mP (.bx [I n])=[]:=rfl;have i2:mP (.bx [ac 1000])=[1000]:=rfl;have i3:=(iV lo).ids;have i4:=(iV w).ids
  simp_all[bO,bD]
 unfold bF;rw[av (by simp[lH,go.1.2.1])];have hin:cr h [] [I l,I st,ac 1001,ac 1002,ac 1003,ac 1004]=some ([I l,I st,ac 1001,ac 1002,ac 1003,ac 1004],h,[]):=rfl;have hids:bD [] ([I l,I st,ac 1001,ac 1002,ac 1003,ac 1004].flatMap cF)=[1001,1002,1003,1004]:=rfl;simp only[eU,go.1.2.1,aE5,aFb,aEZ,go.1.1, *];have hn:bC [] [I l,I st,ac 1001,ac 1002,ac 1003,ac 1004]=[I l,I st,ac 1001,ac 1002,ac 1003,ac 1004]:=rfl;rw[hn];unfold lg;have hob:([1001,1002,1003,1004,1000].map fun a=>eP (bh [1001,1002,1003,1004,1000]) (h a))=[.bx [I n],.bx [ac 1004],jG lo,jG w,bU ds cs p]:=by
  simp only[List.map, *];rfl
 have hcl:([1001,1002,1003,1004,1000].all fun a=>aE [1001,1002,1003,1004,1000] (h a)&&!bS (h a))=true:=by
  simp only[aFa,aFF, *];rfl
 rw[hob,hcl,ap (by rfl)];rw[show [I l,I st,ac 1001,ac 1002,ac 1003,ac 1004].map (eG (bh [1001,1002,1003,1004,1000]))=[I l,I st,ac 1000,ac 1001,ac 1002,ac 1003]from rfl,hR,aEZ,go.1.2.2.2,go.1.2.1,vG];unfold fG;rw[ap ⟨rfl,aFp rfl,aFp rfl,by simp[bV,cV],by grind[dk,jG,bU,bf,bS],rfl⟩];rfl
def ahA{l st n}{ds}{cs cs'}{p}(hR:R 306 [I l,I st,ac 1000,ac 1001] [.bx [I n],.bx [ac 1002],bU ds cs p]=some (.tup [],[.bx [I n],.bx [ac 1002],bU ds cs' p])){h}{d}(h0:h 1000=bU ds cs p)(h1:h 1001=.bx [I n])(h2:h 1002=.bx [ac 1000])(hf:h (2000+8*d)=.dead):
  bF R (aA false) h d [I l,I st] (.fn 306 [] [ac 1001,ac 1002])=some (.tup [],upd (upd (upd h 1001 (.bx [I n])) 1002 (.bx [ac 1000])) 1000 (bU ds cs' p),[(1001,true),(1002,true),(1000,true)]):=by
 have hre:bO h 40 [1001,1002] 0=[1001,1002,1000]:=by
  have i0:=(cU ds cs p).ids;have i1:mP (.bx [I n])=[]:=rfl;have i2:mP (.bx [ac 1000])=[1000]:=rfl
  simp_all[bO,bD]
 unfold bF;rw[av (by simp[lH,dL.1.2.1])];have hin:cr h [] [I l,I st,ac 1001,ac 1002]=some ([I l,I st,ac 1001,ac 1002],h,[]):=rfl;have hids:bD [] ([I l,I st,ac 1001,ac 1002].flatMap cF)=[1001,1002]:=rfl;simp only[eU,dL.1.2.1,aE5,aFb,aEZ,dL.1.1, *];have hn:bC [] [I l,I st,ac 1001,ac 1002]=[I l,I st,ac 1001,ac 1002]:=rfl;rw[hn];unfold lg;have hob:([1001,1002,1000].map fun a=>eP (bh [1001,1002,1000]) (h a))=[.bx [I n],.bx [ac 1002],bU ds cs p]:=by
  simp only[List.map, *];rfl
 have hcl:([1001,1002,1000].all fun a=>aE [1001,1002,1000] (h a)&&!bS (h a))=true:=by
  simp only[aFa,aFF, *];rfl
 rw[hob,hcl,ap (by rfl)];rw[show [I l,I st,ac 1001,ac 1002].map (eG (bh [1001,1002,1000]))=[I l,I st,ac 1000,ac 1001]from rfl,hR,aEZ,dL.1.2.2.2,dL.1.2.1,vG];unfold fG;rw[ap ⟨rfl,aFp rfl,aFp rfl,by simp[bV,cV],by grind[dk,bU,bf,bS],rfl⟩];rfl
def abD{f}{h}{d}{zas as'}{r}(hm:(aA false).m f=[])(hd:cr h [] zas=some (as',h,[]))(hc:bF R (aA false) h d zas (.fn f [] [])=r):KT R (aA false) d f (as',h,[])=r:=by
 grind[KU]
def TQ{i:Nat}{m}{lo w}{ds}{cs cs'}{p}(hR:R 302 [ac 1000,I i,.fn 303 [] [ac 1001,ac 1002,ac 1003,ac 1004]] [bU ds cs p,.bx [I m],.bx [ac 1000],jG lo,jG w]=some (.tup [],[bU ds cs' p,.bx [I m],.bx [ac 1000],jG lo,jG w])){h}{d}(h0:h 1000=bU ds cs p)(h1:h 8=.bx [I m])(h2:h 3=.bx [ac 1000])(h3:h 6=jG lo)(h4:h 7=jG w)(hf:h (2000+8*d)=.dead):
  bF R (aA false) h d [ac 1000,I i,.fn 303 [] [ac 8,ac 3,ac 6,ac 7]] (.fn 302 [] [])=some (.tup [],upd (upd (upd (upd (upd h 1000 (bU ds cs' p)) 8 (.bx [I m])) 3 (.bx [ac 1000])) 6 (jG lo)) 7 (jG w),[(1000,true),(8,true),(3,true),(6,true),(7,true)]):=by
 have hre:bO h 40 [1000,8,3,6,7] 0=[1000,8,3,6,7]:=by
  have i0:mP (bU ds cs p)=[]:=(cU _ _ p).ids;have i1:mP (.bx [I m])=[]:=rfl;have i2:mP (.bx [ac 1000])=[1000]:=rfl;have i3:=(iV lo).ids;have i4:=(iV w).ids
  simp_all[bO,bD]
 unfold bF;rw[av (by simp[lH,bL.1.2.1])];have hin:cr h [] [ac 1000,I i,.fn 303 [] [ac 8,ac 3,ac 6,ac 7]]=some ([ac 1000,I i,.fn 303 [] [ac 8,ac 3,ac 6,ac 7]],h,[]):=rfl;have hids:bD [] ([ac 1000,I i,.fn 303 [] [ac 8,ac 3,ac 6,ac 7]].flatMap cF)=[1000,8,3,6,7]:=rfl;simp only[eU,bL.1.2.1,aE5,aE8,aEZ,bL.1.1, *];have hn:bC [] [ac 1000,I i,.fn 303 [] [ac 8,ac 3,ac 6,ac 7]]=[ac 1000,I i,.fn 303 [] [ac 8,ac 3,ac 6,ac 7]]:=rfl;rw[hn];unfold lg;have hob:([1000,8,3,6,7].map fun a=>eP (bh [1000,8,3,6,7]) (h a))=[bU ds cs p,.bx [I m],.bx [ac 1000],jG lo,jG w]:=by
  simp only[List.map, *];rfl
 have hcl:([1000,8,3,6,7].all fun a=>aE [1000,8,3,6,7] (h a)&&!bS (h a))=true:=by
  simp only[aFa,aFF, *];rfl
 rw[hob,hcl,ap (by rfl)];rw[show [ac 1000,I i,.fn 303 [] [ac 8,ac 3,ac 6,ac 7]].map (eG (bh [1000,8,3,6,7]))=[ac 1000,I i,.fn 303 [] [ac 1001,ac 1002,ac 1003,ac 1004]]from rfl,hR,aEZ,bL.1.2.2.2,bL.1.2.1,vG];unfold fG;rw[ap ⟨rfl,aFp rfl,aFp rfl,by simp[bV,cV],by grind[dk,jG,bU,bf,bS],rfl⟩];rfl
def TR{i:Nat}{m}{ds}{cs cs'}{p}(hR:R 302 [ac 1000,I i,.fn 306 [] [ac 1001,ac 1002]] [bU ds cs p,.bx [I m],.bx [ac 1000]]=some (.tup [],[bU ds cs' p,.bx [I m],.bx [ac 1000]])){h}{d}(h0:h 1000=bU ds cs p)(h1:h 4=.bx [I m])(h2:h 2=.bx [ac 1000])(hf:h (2000+8*d)=.dead):
  bF R (aA false) h d [ac 1000,I i,.fn 306 [] [ac 4,ac 2]] (.fn 302 [] [])=some (.tup [],upd (upd (upd h 1000 (bU ds cs' p)) 4 (.bx [I m])) 2 (.bx [ac 1000]),[(1000,true),(4,true),(2,true)]):=by
 have hre:bO h 40 [1000,4,2] 0=[1000,4,2]:=by
  have i0:mP (bU ds cs p)=[]:=(cU _ _ p).ids;have i1:mP (.bx [I m])=[]:=rfl;have i2:mP (.bx [ac 1000])=[1000]:=rfl
  simp_all[bO,bD]
 unfold bF;rw[av (by simp[lH,bL.1.2.1])];have hin:cr h [] [ac 1000,I i,.fn 306 [] [ac 4,ac 2]]=some ([ac 1000,I i,.fn 306 [] [ac 4,ac 2]],h,[]):=rfl;have hids:bD [] ([ac 1000,I i,.fn 306 [] [ac 4,ac 2]].flatMap cF)=[1000,4,2]:=rfl;simp only[eU,bL.1.2.1,aE5,aE8,aEZ,bL.1.1, *];have hn:bC [] [ac 1000,I i,.fn 306 [] [ac 4,ac 2]]=[ac 1000,I i,.fn 306 [] [ac 4,ac 2]]:=rfl;rw[hn];unfold lg;have hob:([1000,4,2].map fun a=>eP (bh [1000,4,2]) (h a))=[bU ds cs p,.bx [I m],.bx [ac 1000]]:=by
  simp only[List.map, *];rfl
 have hcl:([1000,4,2].all fun a=>aE [1000,4,2] (h a)&&!bS (h a))=true:=by
  simp only[aFa,aFF, *];rfl
 rw[hob,hcl,ap (by rfl)];rw[show [ac 1000,I i,.fn 306 [] [ac 4,ac 2]].map (eG (bh [1000,4,2]))=[ac 1000,I i,.fn 306 [] [ac 1001,ac 1002]]from rfl,hR,aEZ,bL.1.2.2.2,bL.1.2.1,vG];unfold fG;rw[ap ⟨rfl,aFp rfl,aFp rfl,by simp[bV,cV],by grind[dk,bU,bf,bS],rfl⟩];rfl
theorem akk{h}{id id2}{cs}{a}(h1:h id2=.bx cs)(h2:h id=.bx [.any]):Qf id 0 [ac id2] (a,h,[])=some (a,upd h id (.bx [ac id2]),[]):=by
 simp_all[bI,Qf,wN,LS,inP,Qe,Gz]
def abE(v:Nat)(c:Rd):List Rt:=if O c.m=0 then []else [⟨oW v,c⟩]
def abF(v:Nat)(c:Rd):Rp:=⟨v,abE v c⟩
theorem VJ:∀v,cp (oW v)=0
 |0=>rfl
 |v+1=>by
  have:=VJ v;show cp (0::oW v)=0;simp[cp]at this⊢;exact this
theorem akl{v:Nat}{c}(h8:v<=8)(oc:Ok0 c)(vc:vd c=true)(h0:O c.m≠0):VT v ⟨oW v,c⟩:=
 ⟨oc,by simp[oW],by omega,vc,h0,aoV,by grind[VJ]⟩
theorem Xa{call}{md}{s}{h}(ps acc d k z b l c rest):dK call md ps acc (⟨some d,none,.mkSl k z b l c⟩::rest) s h=lh call md ps acc rest s (some d) (fun _=>some ([],[du d])) ((oH (ev s l) (ev s c)).bind fun p=>if p.2*b<=140737488355328 then dH h d k (aER p.1 z) p.1 []else none):=gk _ _ _ _ rfl
def anu{v:Nat}{c}(h8:v<=8)(oc:Ok0 c)(vc:vd c=true):R 79 [I v,af c] []=some (pV (abF v c,0),[]):=by
 refine au Z7 ?_;have hv:=eC oc;rw[vc]at hv;have he:=B1 (v:=v);have z1:oH (.v (.int .i64 v)) (.v (.int .i64 v))=some (v,v):=by
  simp only[oH];grind
 have z2:=aa (v*8<=140737488355328);have e1:=aP ((v:Int)<0);have e2:=aP (8< (v:Int));simp only[af,ak]at hv;by_cases h0:O c.m=0
 ·have e3:=aP (0< (O c.m:Int));simp only[abF,abE,ap h0];simp only[Br,af,ak,go_sem,e1,e2,e3,hv,he,qL];obtain⟨o,hdn⟩:=Cz (v:=v) (e:=0) (c:=.emp) (l:=[]) (d:=32) (id:=2168) (h:=upd (upd (upd (fun _=>.dead) 3 (.bx [B c.neg,lm c.m,I c.e])) 4 (.bx [I 0,.emp])) 2168 (.bx [I v,.emp,I 0])) rfl (.inr ⟨rfl,rfl⟩) rfl;have hd':=dQ (bE.1.2.1 false) rfl hdn;rw[hd'];have e4:oC v (some [])=(⟨v,[]⟩,0):=rfl;rw[e4];simp only[pV,bj,go_sem]
 ·have e3:=aa (0< (O c.m:Int));simp only[abF,abE,av h0];simp only[Br,af,ak,go_sem,e1,e2,e3,hv,he,qL,Xa,z1,z2,abA];have k1:(0+v<=O (oW v))=True:=eq_true (by simp[oW]);have k2:(aY (oW v)).take v=aY (oW v):=aFi (by grind[EK,oW]);simp only[↓reduceIte, *];have hadd:=dQ (aV.1.2.1 false) rfl (qK (d:=30) (id:=2168) (v:=v) (e:=0) (e':=0) (c:=.emp) (l:=[]) (x:=oW v) (q:=c) (h:=upd (upd (upd (upd (upd (fun _=>.dead) 3 (.bx [B c.neg,lm c.m,I c.e])) 4 (.bx [I 0,.emp])) 2168 (.bx [I v,.emp,I 0])) 28 (.ar 1 (aY (oW v)))) 28 (.fz 1 (aY (oW v)))) rfl (.inr ⟨rfl,rfl⟩) (.inl rfl) (Rl (akl h8 oc vc h0)));simp only[af,ak,t3]at hadd;simp only[hadd,go_sem];rw[ap (by rfl)];obtain⟨o,hdn⟩:=Cz (v:=v) (e:=0) (c:=.osl 4 (aU [⟨oW v,c⟩])) (l:=[⟨oW v,c⟩]) (d:=32) (id:=2168) (h:=upd (upd (upd (upd (upd (upd (fun _=>.dead) 3 (.bx [B c.neg,lm c.m,I c.e])) 4 (.bx [I 0,.emp])) 2168 (.bx [I v,.emp,I 0])) 28 (.ar 1 (aY (oW v)))) 28 (.fz 1 (aY (oW v)))) 2168 (.bx [I v,.osl 4 (aU [⟨oW v,c⟩]),I 0])) rfl (.inl rfl) rfl;have hd':=dQ (bE.1.2.1 false) rfl hdn;rw[hd'];have e4:oC v (some [⟨oW v,c⟩])=(⟨v,[⟨oW v,c⟩]⟩,0):=rfl;have e5:=Ka [⟨oW v,c⟩];rw[e4];simp only[pV,bj,e5,go_sem]
theorem abG:vd aC=true:=δ
theorem anv{c}{p}:bo p [aC,c]=bo p [c]:=by
 simp_all[bo,aFa,abG,aEW]
theorem akm:zI aC=0:=cS rfl
theorem akn{c}{p}{up}:dh aC c p up=bY c p up:=by
 simp[dh,bY,anv,akm,Int.zero_add]
theorem abH{p}(hp:bv p=true){up}:bY aC p up=(aC,0):=by
 simp_all[bv,aEV,decide_eq_true_eq,bY,bo,aFa,aFF,abG,ap,akm,kS]
theorem ahB(h)(d)(r q)(p)(b):mR h d (some (.tup [.obx [.osl 1 r,.osl 7 q,I p],B b],[]))=if bS (h (2000+8*d))&&bS (h (2000+8*d+1))then some (.tup [.ref (2000+8*d) none 0 0 0,B b],upd h (2000+8*d) (.bx [.osl 1 r,.osl 7 q,I p]),[])else none:=by
 simp[mR,cV,kZ,gR,qh,aI,bI,be,bA,bV,mat,dB,eS]
theorem G4(h)(n)(g)(i j)(r):sE h n g 7 i j (some (7,r))=(r[i]?).bind fun row=>(nO n g row j).map fun a=>(a,h,[]):=rfl
def aqD{y:Ri}(ox:OkI x)(oy:OkI y):R 304 [ac 1000,ae x,ae y] [bU ds cs p]=some (ae (de x y p),[bU ds cs p]):=by
 refine xz QV QU (DX false) rfl ?_;have h:=xN ox oy (p:=p);generalize de x y p=z at*
 simp only[ae,ah]at h;simp only[AQ,ae,ah,bU,go_sem,h];exact jY Z Z Z (by rfl) (by simp only[go_sem])
def aqE{y:Ri}(ox:OkI x)(oy:OkI y):R 305 [ac 1000,ae x,ae y] [bU ds cs p]=some (ae (bX x y p),[bU ds cs p]):=by
 refine xz QX QW (DY false) rfl ?_;have h:=sy ox oy (p:=p);generalize bX x y p=z at*
 simp only[ae,ah]at h;simp only[AR,ae,ah,bU,go_sem,h];exact jY Z Z Z (by rfl) (by simp only[go_sem])
def YF(x:Ri):RT (ae x):=⟨fun _=>rfl,fun _ _=>rfl,fun _=>rfl⟩
def Xb{y:Ri}(ox:OkI x)(oy:OkI y){d:Nat}(hh:h id=bU ds cs p)(hd:h (2000+8*d)=.dead):
  KT R (aA false) d 304 ([ac id,ae x,ae y],h,[])=some (ae (de x y p),upd h id (bU ds cs p),[]):=
 dQ (BS false) rfl (NQ (BS false) (DX false) (as':=[ae x,ae y]) (by rw[PD];simp only[ae,ah,go_sem]) Z Z hh (cU _ _ _) (cU _ _ _) (fun _=>rfl) (aqD ox oy) (YF _) (aFp rfl) (by simp[bV,ae,cV,hd,bS]))
def I5{y:Ri}(ox:OkI x)(oy:OkI y){d:Nat}(hh:h id=bU ds cs p)(hd:h (2000+8*d)=.dead):
  KT R (aA false) d 305 ([ac id,ae x,ae y],h,[])=some (ae (bX x y p),upd h id (bU ds cs p),[]):=
 dQ (BT false) rfl (NQ (BT false) (DY false) (as':=[ae x,ae y]) (by rw[PE];simp only[ae,ah,go_sem]) Z Z hh (cU _ _ _) (cU _ _ _) (fun _=>rfl) (aqE ox oy) (YF _) (aFp rfl) (by simp[bV,ae,cV,hd,bS]))
theorem O0{α:Type}{f:α->List AV}(h:∀x,DQ (f x) (f x)=true):∀l:List α,LT (l.map f) (l.map f)=true
 |[]=>rfl
 |a::l=>by simp only[List.map,LT,h,O0 h l,aEW]
def av8(z:Int):DQ [I z] [I z]=true:=by simp[DQ,YZ,YY]
def atx(x:Ri):DQ (ah x) (ah x)=true:=by
 have h:∀m:List Nat,LT (aS m) (aS m)=true:=O0 fun x=>by simp[DQ,YZ,YY]
 simp[ah,DQ,YZ,YY,lm,h]
theorem aty(ds:List Int)(cs:List Ri)(p:Int):Oh (bU ds cs p) (bU ds cs p)=true:=by
 have h1:LT (aY ds) (aY ds)=true:=O0 av8 ds;have h2:LT (cT cs) (cT cs)=true:=O0 atx cs;simp[bU,Oh,DQ,YZ,YY,h1,h2]
def ahC{h':aj}{d:Nat}{y:Ri}(hi:id<2000)(hh:h id=bU ds cs p)(hh':h' id=bU ds cs p):hF h d [ac id,ae x,ae y] h'=some ([id],[2000+8*d]):=by
 have hre:bO h 40 [id] 0=[id]:=by simp[bO,hh,(cU ds cs p).ids,bD]
 have hc:Ff h h' [id]=[]:=by simp[Ff,hh,hh',aty]
 show(if _ then _ else if _ then some ((bO h 40 [id] 0).map du,(Ff h h' (bO h 40 [id] 0)).map du++[2000+8*d])else none)=_;rw[hre,hc,av (by simp[dat,aI]),ap (by rfl)];simp[du,hi]
def mf(N:Nat)(cs:List Ri)(g:G):Prop:=O cs=N/\∀k x,cs[k]?=some x->In (g k) x
def mf.get{g:G}(h:mf N cs g){k:Nat}(hk:k<N):∃x,cs[k]?=some x/\In (g k) x:=by
 have:k<O cs:=by rw[h.1];exact hk
 exact⟨cs[k],aE1 this,h.2 k _ (aE1 this)⟩
def mf.set{N:Nat}{cs:List Ri}{g:G}(h:mf N cs g){k:Nat}{x:Ri}{y:Rat}(hx:In y x):mf N (cs.set k x) (gs g k y):=by
 refine⟨by rw[aFR];exact h.1,fun j z hz=>?_⟩;rw[List.getElem?_set]at hz;unfold gs;by_cases hj:k=j
 ·subst hj;rw[ap rfl]at hz;rw[ap rfl];split at hz
  ·cases hz;exact hx
  ·exact nomatch hz
 ·rw[av hj]at hz;rw[av fun h=>hj h.symm];exact h.2 j z hz
def unO(n:Nat)(lo w:Ri)(ds:List Int)(cs:List Ri)(p:Int)(h:aj):Prop:=h 1000=.bx [I n]/\h 1001=.bx [ac 1004]/\h 1002=jG lo/\h 1003=jG w/\h 1004=bU ds cs p
theorem Kn(id:Nat)(h:aj)(i:Nat)(xs:List AV)(a b:AV)(r:List (List AV)):Iu h 7 id 1 7 i 0 xs [] (.bx [a,.osl 7 r,b])=(vX 7 7 i 0 xs 7 r).map fun q=>(.und,upd h id (.bx [a,.osl 7 q,b]),[]):=rfl
def Ko{k:Nat}{u:Ri}(hk:k<O cs):vX 7 7 k 0 (ah u) 7 (cT cs)=some (cT (cs.set k u)):=by
 have h1:(cT cs)[k]?=some (ah cs[k]):=by unfold cT;rw[aFw,aE1 hk];rfl
 unfold vX;rw[ap rfl,h1];simp[setRow,ah,cT,List.map_set]
attribute [-go_sem] vK in
def aqF{ds:List Int}{p:Int}{i:Nat}{w:Ri}(hl:In l lo)(hN:f+n*st<N)(hN4:N<=400)(hn:n<=400):∀ (k:Nat),i+k<=n->∀ (cs:List Ri) (g:G),mf N cs g->∀ (s:aM) (h:aj) (X:Option (Ex×St)),ao 2 [0,1,2,3,4,5,13,14] (aB (am R (aA false) kj) [0,1,2,3,4,5,8,9,13,14] [1000,1001,1002,1003,1004] s h)=X->
  s 0=I f->s 1=I st->s 2=ac 1000->s 3=ac 1001->s 4=ac 1002->s 5=ac 1003->s 8=I i->s 9=I ((i:Int)+k-1)->s 13=I n->s 14=I i->unO n lo w ds cs p h->
  ∃hh cs',X=some (.normal,⟨upd (upd (upd (upd (upd (upd (upd (upd ce 14 (I i)) 13 (I n)) 5 (ac 1003)) 4 (ac 1002)) 3 (ac 1001)) 2 (ac 1000)) 1 (I st)) 0 (I f),hh⟩)/\unO n lo w ds cs' p hh/\mf N cs' (P5 l (fun j=>f+j*st) i k g):=by
 intro k;induction k with
 |zero=>
  intro hk cs g he s h X hX g0 g1 g2 g3 g4 g5 g8 g9 g13 g14 ho;subst hX;obtain⟨k0,k1,k2,k3,k4⟩:=ho;have e1:=aP ((i:Int)<=(i:Int)+((0:Nat):Int)-1);have hg:=(cU ds cs p).cl [1000,1001,1002,1003,1004];have hlo:=(iV lo).cl [1000,1001,1002,1003,1004];have hw:=(iV w).cl [1000,1001,1002,1003,1004];rw[ai];refine⟨?hh0,cs,?_,?_,he⟩;rotate_left
  ·simp only[kj,go_sem,g0,g1,g2,g3,g4,g5,g8,g9,g13,g14,k0,k1,k2,k3,k4,hg,hlo,hw,e1];rfl
  ·exact⟨rfl,rfl,rfl,rfl,rfl⟩
 |succ k ih=>
  intro hk cs g he s h X hX g0 g1 g2 g3 g4 g5 g8 g9 g13 g14 ho;subst hX;obtain⟨k0,k1,k2,k3,k4⟩:=ho;have hm1:(i+k)*st<=n*st:=aE4 _ ω;have hm2:(i+k+1)*st<=n*st:=aE4 _ ω;have hs2:(i+k+1)*st=(i+k)*st+st:=by rw[aFf,Nat.one_mul]
  have e1:=aa ((i:Int)<=(i:Int)+((k+1:Nat):Int)-1);have w1:IntKind.i64.wrap (((i:Int)+((k+1:Nat):Int)-1)*st)=(((i+k)*st:Nat):Int):=by
   rw[show((i:Int)+((k+1:Nat):Int)-1)=((i+k:Nat):Int)by omega,←aF2];exact i64_in _ ⟨by omega,by omega⟩
  have w2:aG ((f:Int)+(((i+k)*st:Nat):Int))=((f+(i+k)*st:Nat):Int):=wi;have w3:aG (((f+(i+k)*st:Nat):Int)+(st:Int))=((f+(i+k+1)*st:Nat):Int):=wi;have w4:IntKind.i64.wrap ((i:Int)+((k+1:Nat):Int)-1-1)=(i:Int)+(k:Int)-1:=by rw[i64_in _ ⟨by omega,by omega⟩];omega
  obtain⟨x,x1,x2⟩:=he.get (k:=f+(i+k)*st) ω;obtain⟨y,y1,y2⟩:=he.get (k:=f+(i+k+1)*st) ω;have hg:=(cU ds cs p).cl [1000,1001,1002,1003,1004];have hlo:=(iV lo).cl [1000,1001,1002,1003,1004];have hw:=(iV w).cl [1000,1001,1002,1003,1004];have cm:=fun(h:aj) (d:Nat) hh hd=>I5 (ds:=ds) (cs:=cs) (p:=p) (h:=h) (d:=d) (id:=1004) hl.ok y2.ok hh hd;have pm:=sC (p:=p) hl y2;have ca:=fun(h:aj) (d:Nat) hh hd=>Xb (ds:=ds) (cs:=cs) (p:=p) (h:=h) (d:=d) (id:=1004) x2.ok pm.ok hh hd;have pa:=sB (p:=p) x2 pm;have q1:(cT cs)[f+(i+k)*st]?=some (ah x):=by unfold cT;rw[aFw,x1];rfl
  have q2:(cT cs)[f+(i+k+1)*st]?=some (ah y):=by unfold cT;rw[aFw,y1];rfl
  have i1:=aa (0<=((f+(i+k)*st:Nat):Int));have i2:=aa (0<=((f+(i+k+1)*st:Nat):Int));have i3:(((f+(i+k)*st:Nat):Int)< (O cs:Int))=True:=eq_true (by rw[he.1];omega);have i4:(((f+(i+k+1)*st:Nat):Int)< (O cs:Int))=True:=eq_true (by rw[he.1];omega);have sr1:∀u:Ri,vX 7 7 (f+(i+k)*st) 0 (ah u) 7 (cT cs)=some (cT (cs.set (f+(i+k)*st) u)):=fun u=>Ko (by rw[he.1];omega);have ih':=ih ω _ _ (he.set (k:=f+(i+k)*st) pa);rw[ai];generalize aB _ _ _=L at ih'⊢;generalize bX lo y p=z at*
  generalize de x z p=u at*
  simp only[bU,ae,ah]at cm ca;simp only[ah]at q1 q2 sr1;simp only[bU]at k4 hg;simp only[jG]at k2 k3 hlo hw;simp only[kj,go_sem,g0,g1,g2,g3,g4,g5,g8,g9,g13,g14,k0,k1,k2,k3,k4,hg,hlo,hw,e1,w1,w2,w3,w4,i1,i2,i3,i4,CF,G4,aEY,aES,q1,q2];rw[cm _ _ Z Z];have fp:=fun(h h':aj) (d:Nat) (x y:Ri)=>ahC (h:=h) (h':=h') (d:=d) (id:=1004) (ds:=ds) (cs:=cs) (p:=p) (x:=x) (y:=y) δ;simp only[bU,ae,ah]at fp;simp only[go_sem,fp];rw[ca _ _ Z Z];simp only[go_sem,fp,i1,i3,aEY,aES,Kn,sr1,w4];exact ih' _ _ _ Z Z Z Z Z Z Z Z Z Z Z ⟨rfl,rfl,rfl,rfl,rfl⟩
def aqG{ds:List Int}{p:Int}{w:Ri}(hl:In l lo)(hN:f+n*st<N)(hN4:N<=400)(hn:n<=400):∀ (k i:Nat),i+k=n->∀ (cs:List Ri) (g:G),mf N cs g->∀ (s:aM) (h:aj) (X:Option (Ex×St)),ao 0 [0,1,2,3,5] (aB (am R (aA false) nQ) [0,1,2,3,4,5,13,14] [1000,1001,1002,1003,1004] s h)=X->
  s 0=I f->s 1=I st->s 2=ac 1000->s 3=ac 1001->s 4=ac 1002->s 5=ac 1003->s 13=I n->s 14=I i->unO n lo w ds cs p h->
  ∃hh cs',X=some (.normal,⟨upd (upd (upd (upd (upd ce 5 (ac 1003)) 3 (ac 1001)) 2 (ac 1000)) 1 (I st)) 0 (I f),hh⟩)/\unO n lo w ds cs' p hh/\(∀a,a≠1000->a≠1001->a≠1002->a≠1003->a≠1004->hh a=.dead)/\mf N cs' (P6 l (fun j=>f+j*st) k i g):=by
 intro k;induction k with
 |zero=>
  intro i hk cs g he s h X hX g0 g1 g2 g3 g4 g5 g13 g14 ho;subst hX;obtain⟨k0,k1,k2,k3,k4⟩:=ho;have e1:=aP ((i:Int)<n);have hg:=(cU ds cs p).cl [1000,1001,1002,1003,1004];have hlo:=(iV lo).cl [1000,1001,1002,1003,1004];have hw:=(iV w).cl [1000,1001,1002,1003,1004];rw[ai];refine⟨?hh0,cs,?_,?_,?_,he⟩;rotate_left
  ·simp only[nQ,go_sem,g0,g1,g2,g3,g4,g5,g13,g14,k0,k1,k2,k3,k4,hg,hlo,hw,e1];rfl
  ·exact⟨rfl,rfl,rfl,rfl,rfl⟩
  ·intro a a1 a2 a3 a4 a5;simp only[cz,a1,a2,a3,a4,a5,if_false]
 |succ k ih=>
  intro i hk cs g he s h X hX g0 g1 g2 g3 g4 g5 g13 g14 ho;subst hX;have ho':=ho;obtain⟨k0,k1,k2,k3,k4⟩:=ho;have e1:=aa ((i:Int)<n);have w1:IntKind.i64.wrap ((n:Int)-1)=(i:Int)+((k+1:Nat):Int)-1:=by rw[i64_in _ ⟨by omega,by omega⟩];omega
  have w2:aG ((i:Int)+1)=((i+1:Nat):Int):=wi;have hg:=(cU ds cs p).cl [1000,1001,1002,1003,1004];have hlo:=(iV lo).cl [1000,1001,1002,1003,1004];have hw:=(iV w).cl [1000,1001,1002,1003,1004];have hu:=aqF (ds:=ds) (p:=p) (w:=w) hl hN hN4 hn (i:=i) (k+1) ω cs g he;have ih':=ih (i+1) ω;rw[ai];generalize aB _ _ _=L at ih'⊢;simp only[nQ,go_sem,g0,g1,g2,g3,g4,g5,g13,g14,k0,k1,k2,k3,k4,hg,hlo,hw,e1,w1];generalize hX:ao 2 _ _=X;obtain⟨hh,cs',rfl,ho2,he2⟩:=hu _ _ _ hX Z Z Z Z Z Z Z Z Z Z ⟨rfl,rfl,rfl,rfl,rfl⟩;simp only[go_sem,w2];exact ih' cs' _ he2 _ _ _ Z Z Z Z Z Z Z Z Z ho2
attribute [-go_sem] vK in
def aqH{ds:List Int}{p:Int}{lo:Ri}{u:Rat}(hw:In u w)(hN:f+n*st<N)(hN4:N<=400)(hn:n<=400):∀ (k j:Nat),j+k=n+1->∀ (cs:List Ri) (g:G),mf N cs g->∀ (sc:Ri) (b:Rat),In b sc->∀ (s:aM) (h:aj) (X:Option (Ex×St)),ao 4 [] (aB (am R (aA false) kh) [0,1,2,3,5,11,12] [11,1000,1001,1002,1003,1004] s h)=X->
  s 0=I f->s 1=I st->s 2=ac 1000->s 3=ac 1001->s 5=ac 1003->s 11=ac 11->s 12=I j->h 11=jG sc->unO n lo w ds cs p h->
  ∃hh cs',X=some (.normal,⟨fun _=>.any,hh⟩)/\unO n lo w ds cs' p hh/\mf N cs' (WX u (fun j=>f+j*st) k j b g):=by
 intro k;induction k with
 |zero=>
  intro j hk cs g he sc b hb s h X hX g0 g1 g2 g3 g5 g11 g12 k11 ho;subst hX;obtain⟨k0,k1,k2,k3,k4⟩:=ho;have e1:=aP ((j:Int)<=n);have hg:=(cU ds cs p).cl [11,1000,1001,1002,1003,1004];have hlo:=(iV lo).cl [11,1000,1001,1002,1003,1004];have hw:=(iV w).cl [11,1000,1001,1002,1003,1004];have hs:=(iV sc).cl [11,1000,1001,1002,1003,1004];rw[ai];refine⟨?hh0,cs,?_,?_,he⟩;rotate_left
  ·simp only[kh,go_sem,g0,g1,g2,g3,g5,g11,g12,k0,k1,k2,k3,k4,k11,hg,hlo,hw,hs,e1];rfl
  ·exact⟨rfl,rfl,rfl,rfl,rfl⟩
 |succ k ih=>
  intro j hk cs g he sc b hb s h X hX g0 g1 g2 g3 g5 g11 g12 k11 ho;subst hX;obtain⟨k0,k1,k2,k3,k4⟩:=ho;have hm1:j*st<=n*st:=aE4 _ ω;have e1:=aa ((j:Int)<=n);have w1:aG ((j:Int)*st)=((j*st:Nat):Int):=wi (aF2 ..).symm ω;have w2:aG ((f:Int)+((j*st:Nat):Int))=((f+j*st:Nat):Int):=wi;have w4:aG ((j:Int)+1)=((j+1:Nat):Int):=wi;obtain⟨x,x1,x2⟩:=he.get (k:=f+j*st) ω;have hg:=(cU ds cs p).cl [11,1000,1001,1002,1003,1004];have hlo:=(iV lo).cl [11,1000,1001,1002,1003,1004];have hwo:=(iV w).cl [11,1000,1001,1002,1003,1004];have hs:=(iV sc).cl [11,1000,1001,1002,1003,1004];have cm:=fun(h:aj) (d:Nat) hh hd=>I5 (ds:=ds) (cs:=cs) (p:=p) (h:=h) (d:=d) (id:=1004) hb.ok hw.ok hh hd;have pm:=sC (p:=p) hb hw;have ca:=fun(h:aj) (d:Nat) hh hd=>I5 (ds:=ds) (cs:=cs) (p:=p) (h:=h) (d:=d) (id:=1004) x2.ok pm.ok hh hd;have pa:=sC (p:=p) x2 pm;have q1:(cT cs)[f+j*st]?=some (ah x):=by unfold cT;rw[aFw,x1];rfl
  have i1:=aa (0<=((f+j*st:Nat):Int));have i3:(((f+j*st:Nat):Int)< (O cs:Int))=True:=eq_true (by rw[he.1];omega);have sr1:∀u:Ri,vX 7 7 (f+j*st) 0 (ah u) 7 (cT cs)=some (cT (cs.set (f+j*st) u)):=fun u=>Ko (by rw[he.1];omega);have ih':=ih (j+1) ω _ _ (he.set (k:=f+j*st) pa) _ _ pm;rw[ai];generalize aB _ _ _=L at ih'⊢;generalize bX sc w p=z at*
  generalize bX x z p=v at*
  simp only[bU,ae,ah]at cm ca;simp only[ah]at q1 sr1;simp only[bU]at k4 hg;simp only[jG]at k2 k3 k11 hlo hwo hs;simp only[kh,go_sem,g0,g1,g2,g3,g5,g11,g12,k0,k1,k2,k3,k4,k11,hg,hlo,hwo,hs,e1];rw[cm _ _ Z Z];have fp:=fun(h h':aj) (d:Nat) (x y:Ri)=>ahC (h:=h) (h':=h') (d:=d) (id:=1004) (ds:=ds) (cs:=cs) (p:=p) (x:=x) (y:=y) δ;simp only[bU,ae,ah]at fp;simp only[go_sem,w1,w2,i1,i3,CF,G4,aEY,aES,q1];rw[ca _ _ Z Z];simp only[go_sem,fp,i1,i3,aEY,aES,Kn,sr1,w4];exact ih' _ _ _ Z Z Z Z Z Z Z Z Z ⟨rfl,rfl,rfl,rfl,rfl⟩
def TS{os:List Ob}(hm:(dJ n).map h=os)(hc:(os.all fun o=>aE (dJ n) o)=true):xT [] n h []=some (.tup [],os):=by
 have h1:((dJ n).all fun i=>aE (dJ n) (h i))=true:=by
  rw[←hm,List.all_map]at hc;exact hc
 unfold xT;rw[h1,hm];rfl
def O1{f:FuncId}{fd:FD}{args:List AV}{os:List Ob}{α:Type}{r:α->AV×List Ob}{P:α->Prop}(hE:cB.E f=none)(hC:cB.C f=some fd)(hk:cB.md.keep f=false)(h1:O args=fd.np)(h2:O os<=1000)
  (hz:∃a,fk false fd.rs fd.res (O os) (am R (aA false) fd.body (iW args) (az os))=some (r a)/\P a):∃a,R f args os=some (r a)/\P a:=by
 obtain⟨a,h3,h4⟩:=hz;exact⟨a,av7 hE hC hk h1 h2 h3,h4⟩
def anw{ds:List Int}{p:Int}{u:Rat}{g:G}(hl:In l lo)(hw:In u w)(he:mf N cs g)(hN:f+n*st<N)(hN4:N<=400)(hn:n<=400):
  ∃cs',R 303 [I f,I st,ac 1000,ac 1001,ac 1002,ac 1003] [.bx [I n],.bx [ac 1004],jG lo,jG w,bU ds cs p]=some (.tup [],[.bx [I n],.bx [ac 1004],jG lo,jG w,bU ds cs' p])/\mf N cs' (TC l u n (fun j=>f+j*st) g):=by
 have h2:=aqG (ds:=ds) (p:=p) (w:=w) hl hN hN4 hn n 0 (aES _) cs g he;have h3:=fun(cs:List Ri) (g:G) he=>aqH (ds:=ds) (p:=p) (lo:=lo) (n:=n) (st:=st) (f:=f) hw hN hN4 hn n 1 (Nat.add_comm _ _) cs g he ⟨one,one,false⟩ 1 (by rw[←aby];exact wK gg.1 gg.2);have hi:=Nw;have hp:=fY gg.2 gg.1;refine O1 go.2.1 go.2.2 (go.1.2.2.2 false) rfl (aFp rfl) ?_;have hgo:=(cU ds cs p).cl [1000,1001,1002,1003,1004];have hlo:=(iV lo).cl [1000,1001,1002,1003,1004];have hwo:=(iV w).cl [1000,1001,1002,1003,1004];simp only[af,ak,ae,ah]at hi hp;simp only[wA,DS,abB,go_sem];generalize hX:ao 0 _ _=X;obtain⟨hh,cs1,rfl,ho,hd,he1⟩:=h2 _ _ _ hX Z Z Z Z Z Z Z Z ⟨rfl,rfl,rfl,rfl,rfl⟩;obtain⟨k0,k1,k2,k3,k4⟩:=ho;have d1:=hd 2456 δ δ δ δ δ;have d2:=hd 2464 δ δ δ δ δ;have d3:=hd 11 δ δ δ δ δ;simp only[go_sem,hi,hp,d1,d2,d3];generalize hX:ao 4 _ _=X;obtain⟨hh2,cs2,rfl,ho,he2⟩:=h3 cs1 _ he1 _ _ _ hX Z Z Z Z Z Z Z Z ⟨k0,k1,k2,k3,k4⟩;obtain⟨k0,k1,k2,k3,k4⟩:=ho;refine⟨cs2,?_,he2⟩;simp only[go_sem];have hp5:dJ 5=[1000,1001,1002,1003,1004]:=rfl;refine TS (by rw[hp5];simp only[List.map,k0,k1,k2,k3,k4]) ?_;simp only[hp5,aFa,aFF,(cU ds cs2 p).cl,hlo,hwo];rfl
def EL(n:Nat):Rd:=aZ false n 0
def aeP{n}(hn:n<=1000):(vd (EL n)=true/\Ok0 (EL n))/\qv (EL n)=n:=by
 have hr:rP (ag (ab (EL n).m)) (EL n).e=true:=by
  unfold EL;by_cases h0:n=0
  ·subst h0;rfl
  ·obtain⟨g1,g2,g3,g4⟩:=tV (neg:=false) (e:=0) h0;have hb:ag n<=10:=bH.2 ω;rw[g1,g2];unfold rP;simp only[aF0,aEV,decide_eq_true_eq];omega
 have hv:=J9 hr;have hb:=sx false n 0;refine⟨⟨hv,hb,aFl (vB hv hb) δ⟩,?_⟩;have hc:cA (EL n)=(EL n,0):=by
  simp_all[cA,ap]
 have hz:zI (cA (EL n)).1=_:=NG (q:=n) (u:=0) δ (by grind[cA,EL]);rw[hc]at hz;obtain⟨N,hN⟩:∃N,N=16384:=⟨_,rfl⟩;rw[show((0:Int)+16384).toNat=N by omega]at hz;unfold qv EQ;rw[hz,←hN,show((n*2^N:Nat):Int)=n*pQ N by rw[aF2,Int.natCast_pow,Rat.intCast_mul];rfl];grind[NI]
def ako(hn:n<=1000):R 64 [I n] []=some (af (EL n),[]):=by
 have:=m8 (n:=n) (by grind[kR]);exact this
def beO(n:Nat)(ds:List Int)(cs:List Ri)(p:Int)(h:aj):Prop:=h 1000=.bx [I n]/\h 1001=.bx [ac 1002]/\h 1002=bU ds cs p/\h 1003=.dead
theorem ic{h h'}{d}{l}(hl:l.all dat=true):hF h d l h'=some ([],[2000+8*d]):=by
 rw[vK,ap hl]
attribute [-go_sem] vK in
def aqI{ds:List Int}{p:Int}(hN:f+n*st<N)(hN4:N<=400)(hn:n<=400):∀ (k j:Nat),j+k=n->∀ (cs:List Ri) (g:G),mf N cs g->∀ (sc:Ri) (b:Rat),In b sc->∀ (s:aM) (h:aj) (X:Option (Ex×St)),ao 0 [0,1,2,3] (aB (am R (aA false) jX) [0,1,2,3,6,7] [6,1000,1001,1002,1003] s h)=X->
  s 0=I f->s 1=I st->s 2=ac 1000->s 3=ac 1001->s 6=ac 6->s 7=I (j+1:Nat)->h 6=jG sc->beO n ds cs p h->
  ∃hh cs',X=some (.normal,⟨upd (upd (upd (upd ce 3 (ac 1001)) 2 (ac 1000)) 1 (I st)) 0 (I f),hh⟩)/\beO n ds cs' p hh/\mf N cs' (P7 n (fun j=>f+j*st) k (j+1) b g):=by
 intro k;induction k with
 |zero=>
  intro j hk cs g he sc b hb s h X hX g0 g1 g2 g3 g6 g7 k6 ho;subst hX;obtain⟨k0,k1,k2,k3⟩:=ho;have e1:=aP (((j+1:Nat):Int)<=n);have hg:=(cU ds cs p).cl [6,1000,1001,1002,1003];have hs:=(iV sc).cl [6,1000,1001,1002,1003];rw[ai];refine⟨?hh0,cs,?_,?_,he⟩;rotate_left
  ·simp only[jX,go_sem,g0,g1,g2,g3,g6,g7,k0,k1,k2,k3,k6,hg,hs,e1];rfl
  ·exact⟨rfl,rfl,rfl,rfl⟩
 |succ k ih=>
  intro j hk cs g he sc b hb s h X hX g0 g1 g2 g3 g6 g7 k6 ho;subst hX;obtain⟨k0,k1,k2,k3⟩:=ho;have hm1:(j+1)*st<=n*st:=aE4 _ ω;have e1:=aa (((j+1:Nat):Int)<=n);have w0:aG ((n:Int)- ((j+1:Nat):Int))=(k:Int):=wi;have w5:aG ((k:Int)+1)=((k+1:Nat):Int):=wi;have w1:aG (((j+1:Nat):Int)*st)=(((j+1)*st:Nat):Int):=wi (aF2 ..).symm ω;have w2:aG ((f:Int)+(((j+1)*st:Nat):Int))=((f+(j+1)*st:Nat):Int):=wi;have w4:aG (((j+1:Nat):Int)+1)=((j+1+1:Nat):Int):=wi;obtain⟨x,x1,x2⟩:=he.get (k:=f+(j+1)*st) ω;have hg:=(cU ds cs p).cl [6,1000,1001,1002,1003];have hs:=(iV sc).cl [6,1000,1001,1002,1003];obtain⟨t1,t2⟩:=aeP (n:=k+1) ω;obtain⟨u1,u2⟩:=aeP (n:=j+1) ω;have ci1:=ako (n:=k+1) ω;have ci2:=ako (n:=j+1) ω;have cp1:=fY t1.2 t1.1;have cp2:=fY u1.2 u1.1;have ip1:=wK t1.1 t1.2;have ip2:=wK u1.1 u1.2;rw[t2]at ip1;rw[u2]at ip2;have cm:=fun(h:aj) (d:Nat) hh hd=>I5 (ds:=ds) (cs:=cs) (p:=p) (h:=h) (d:=d) (id:=1002) hb.ok ip1.ok hh hd;have pm:=sC (p:=p) hb ip1;have cd:=sA pm.ok ip2.ok (p:=p);have pd:=VH (p:=p) pm ip2;have cd2:=sA x2.ok pd.ok (p:=p);have pd2:=VH (p:=p) x2 pd;have hbe:b*((n:Rat)- (j+1:Nat)+1)/ (j+1:Nat)=b*((k+1:Nat):Rat)/ ((j+1:Nat):Rat):=by
   have:(n:Rat)=(j+(k+1):Nat):=by rw[hk]
   grind
  have q1:(cT cs)[f+(j+1)*st]?=some (ah x):=by grind[cT]
  have i1:=aa (0<=((f+(j+1)*st:Nat):Int));have i3:(((f+(j+1)*st:Nat):Int)< (O cs:Int))=True:=eq_true γ;have sr1:∀u:Ri,vX 7 7 (f+(j+1)*st) 0 (ah u) 7 (cT cs)=some (cT (cs.set (f+(j+1)*st) u)):=fun u=>Ko γ;have ih':=ih (j+1) ω _ _ (he.set (k:=f+(j+1)*st) pd2) _ _ pd;have hdv:P7 n (fun j=>f+j*st) (k+1) (j+1) b g=P7 n (fun j=>f+j*st) k (j+1+1) (b*((k+1:Nat):Rat)/ ((j+1:Nat):Rat)) (gs g (f+(j+1)*st) (g (f+(j+1)*st)/ (b*((k+1:Nat):Rat)/ ((j+1:Nat):Rat)))):=by
   rw[←hbe];rfl
  rw[hdv,ai];generalize aB _ _ _=L at ih'⊢;generalize EL (k+1)=c1 at*
  generalize EL (j+1)=c2 at*
  generalize bX sc ⟨c1,c1,false⟩ p=z at*
  generalize dC z ⟨c2,c2,false⟩ p=v at*
  generalize dC x v p=y at*
  simp only[bU,ae,ah]at cm;simp only[af,ak,ae,ah]at ci1 ci2 cp1 cp2 cd cd2;simp only[ah]at q1 sr1;simp only[bU]at k2 hg;simp only[jG]at k6 hs;simp only[jX,go_sem,g0,g1,g2,g3,g6,g7,k0,k1,k2,k3,k6,hg,hs,e1,w0,w5,ci1,cp1];have fp:=fun(h h':aj) (d:Nat) (x y:Ri)=>ahC (h:=h) (h':=h') (d:=d) (id:=1002) (ds:=ds) (cs:=cs) (p:=p) (x:=x) (y:=y) δ;simp only[bU,ae,ah]at fp;have fp1:=fun(h h':aj) (d:Nat)=>fp h h' d sc ⟨c1,c1,false⟩;rw[cm _ _ Z Z];simp only[go_sem,fp1,ic,ci2,cp2,cd,w1,w2,i1,i3,CF,G4,aEY,aES,q1,cd2,Kn,sr1,w4];exact ih' _ _ _ Z Z Z Z Z Z Z Z ⟨rfl,rfl,rfl,rfl⟩
attribute [-go_sem] vK in
def aqJ{ds:List Int}{p:Int}{j:Nat}(hN:f+n*st<N)(hN4:N<=400)(hn:n<=400):∀ (k:Nat),j+k<=n->∀ (cs:List Ri) (g:G),mf N cs g->∀ (s:aM) (h:aj) (X:Option (Ex×St)),ao 4 [0,1,2,3,8] (aB (am R (aA false) gU) [0,1,2,3,8,9] [1000,1001,1002,1003] s h)=X->
  s 0=I f->s 1=I st->s 2=ac 1000->s 3=ac 1001->s 8=I (j+1:Nat)->s 9=I (j+k:Nat)->beO n ds cs p h->
  ∃hh cs',X=some (.normal,⟨upd (upd (upd (upd (upd ce 8 (I (j+1:Nat))) 3 (ac 1001)) 2 (ac 1000)) 1 (I st)) 0 (I f),hh⟩)/\beO n ds cs' p hh/\mf N cs' (TB (fun j=>f+j*st) j k g):=by
 intro k;induction k with
 |zero=>
  intro hk cs g he s h X hX g0 g1 g2 g3 g8 g9 ho;subst hX;obtain⟨k0,k1,k2,k3⟩:=ho;have e1:=aP (((j+1:Nat):Int)<=((j+0:Nat):Int));have hg:=(cU ds cs p).cl [1000,1001,1002,1003];rw[ai];refine⟨?hh0,cs,?_,?_,he⟩;rotate_left
  ·simp only[gU,go_sem,g0,g1,g2,g3,g8,g9,k0,k1,k2,k3,hg,e1];rfl
  ·exact⟨rfl,rfl,rfl,rfl⟩
 |succ k ih=>
  intro hk cs g he s h X hX g0 g1 g2 g3 g8 g9 ho;subst hX;obtain⟨k0,k1,k2,k3⟩:=ho;have hm1:(j+k+1)*st<=n*st:=aE4 _ ω;have hs2:(j+k+1)*st=(j+k)*st+st:=γ
  have e1:=aa (((j+1:Nat):Int)<=((j+(k+1):Nat):Int));have w0:aG (((j+(k+1):Nat):Int)-1)=((j+k:Nat):Int):=wi;have w1:aG (((j+(k+1):Nat):Int)*st)=(((j+k+1)*st:Nat):Int):=wi (aF2 ..).symm ω;have w2:aG ((f:Int)+(((j+k+1)*st:Nat):Int))=((f+(j+k+1)*st:Nat):Int):=wi;have w3:aG (((j+k:Nat):Int)*st)=(((j+k)*st:Nat):Int):=wi (aF2 ..).symm ω;have w4:aG ((f:Int)+(((j+k)*st:Nat):Int))=((f+(j+k)*st:Nat):Int):=wi;obtain⟨x,x1,x2⟩:=he.get (k:=f+(j+k+1)*st) ω;obtain⟨y,y1,y2⟩:=he.get (k:=f+(j+k)*st) ω;have hg:=(cU ds cs p).cl [1000,1001,1002,1003];have ca:=fun(h:aj) (d:Nat) hh hd=>Xb (ds:=ds) (cs:=cs) (p:=p) (h:=h) (d:=d) (id:=1002) x2.ok y2.ok hh hd;have pa:=sB (p:=p) x2 y2;have q1:(cT cs)[f+(j+k+1)*st]?=some (ah x):=by grind[cT]
  have q2:(cT cs)[f+(j+k)*st]?=some (ah y):=by grind[cT]
  have i1:=aa (0<=((f+(j+k+1)*st:Nat):Int));have i2:=aa (0<=((f+(j+k)*st:Nat):Int));have i3:(((f+(j+k+1)*st:Nat):Int)< (O cs:Int))=True:=eq_true γ;have i4:(((f+(j+k)*st:Nat):Int)< (O cs:Int))=True:=eq_true γ;have sr1:∀u:Ri,vX 7 7 (f+(j+k+1)*st) 0 (ah u) 7 (cT cs)=some (cT (cs.set (f+(j+k+1)*st) u)):=fun u=>Ko γ;have ih':=ih ω _ _ (he.set (k:=f+(j+k+1)*st) pa);have fp:=fun(h h':aj) (d:Nat) (x y:Ri)=>ahC (h:=h) (h':=h') (d:=d) (id:=1002) (ds:=ds) (cs:=cs) (p:=p) (x:=x) (y:=y) δ;simp only[bU,ae,ah]at fp;rw[ai];generalize aB _ _ _=L at ih'⊢;generalize de x y p=z at*
  simp only[bU,ae,ah]at ca;simp only[ah]at q1 q2 sr1;simp only[bU]at k2 hg;simp only[gU,go_sem,g0,g1,g2,g3,g8,g9,k0,k1,k2,k3,hg,e1,w0,w1,w2,w3,w4,i1,i2,i3,i4,CF,G4,aEY,aES,q1,q2];rw[ca _ _ Z Z];simp only[go_sem,fp,w0,i1,i3,aEY,aES,Kn,sr1];exact ih' _ _ _ Z Z Z Z Z Z Z ⟨rfl,rfl,rfl,rfl⟩
def aqK{ds}{p}(hN:f+n*st<N)(hN4:N<=400)(hn:n<=400):∀k j,j+k=n->∀cs g,mf N cs g->∀s h X,ao 2 [] (aB (am R (aA false) jW) [0,1,2,3,8] [1000,1001,1002,1003] s h)=X->
  s 0=I f->s 1=I st->s 2=ac 1000->s 3=ac 1001->s 8=I (j+1:Nat)->beO n ds cs p h->
  ∃hh cs',X=some (.normal,⟨fun _=>.any,hh⟩)/\beO n ds cs' p hh/\mf N cs' (WY (fun j=>f+j*st) k j g):=by
 intro k;induction k with
 |zero=>
  intro j hk cs g he s h X hX g0 g1 g2 g3 g8 ho;subst hX;obtain⟨k0,k1,k2,k3⟩:=ho;have e1:=aP (((j+1:Nat):Int)<=n);have hg:=(cU ds cs p).cl [1000,1001,1002,1003];rw[ai];refine⟨?hh0,cs,?_,?_,he⟩;rotate_left
  ·simp only[jW,go_sem,g0,g1,g2,g3,g8,k0,k1,k2,k3,hg,e1];rfl
  ·exact⟨rfl,rfl,rfl,rfl⟩
 |succ k ih=>
  intro j hk cs g he s h X hX g0 g1 g2 g3 g8 ho;subst hX;obtain⟨k0,k1,k2,k3⟩:=ho;have e1:=aa (((j+1:Nat):Int)<=n);have w2:aG ((j+1:Nat)+1)=(j+1+1:Nat):=wi;have hg:=(cU ds cs p).cl [1000,1001,1002,1003];have hu:=aqJ (ds:=ds) (p:=p) hN hN4 hn (j:=j) (k+1) ω cs g he;have ih':=ih (j+1) ω;rw[ai];simp only[jW,go_sem,g0,g1,g2,g3,g8,k0,k1,k2,k3,hg,e1];generalize hX:ao 4 _ _=X;obtain⟨hh,cs',rfl,ho2,he2⟩:=hu _ _ _ hX Z Z Z Z Z (by rw[hk];rfl) ⟨rfl,rfl,rfl,rfl⟩;simp only[go_sem,w2];exact ih' cs' _ he2 _ _ _ Z Z Z Z Z Z ho2
def anx{ds}{cs}{p}{N f st n}{g}(he:mf N cs g)(hN:f+n*st<N)(hN4:N<=400)(hn:n<=400):
  ∃cs',R 306 [I f,I st,ac 1000,ac 1001] [.bx [I n],.bx [ac 1002],bU ds cs p]=some (.tup [],[.bx [I n],.bx [ac 1002],bU ds cs' p])/\mf N cs' (TD n (fun j=>f+j*st) g):=by
 have h2:=aqI (ds:=ds) (p:=p) hN hN4 hn n 0 (aES _) cs g he ⟨one,one,false⟩ 1 (by rw[←aby];exact wK gg.1 gg.2);have h3:=fun cs g he=>aqK (ds:=ds) (p:=p) (n:=n) (st:=st) (f:=f) hN hN4 hn n 0 (aES _) cs g he;have hi:=Nw;have hp:=fY gg.2 gg.1;refine O1 dL.2.1 dL.2.2 (dL.1.2.2.2 false) rfl (aFp rfl) ?_;simp only[af,ak,ae,ah]at hi hp;simp only[qA,zj,abC,go_sem,hi,hp];generalize hX:ao 0 _ _=X;obtain⟨hh,cs1,rfl,ho,he1⟩:=h2 _ _ _ hX Z Z Z Z Z Z Z ⟨rfl,rfl,rfl,rfl⟩;obtain⟨k0,k1,k2,k3⟩:=ho;simp only[go_sem];generalize hX:ao 2 _ _=X;obtain⟨hh2,cs2,rfl,ho,he2⟩:=h3 cs1 _ he1 _ _ _ hX Z Z Z Z Z ⟨k0,k1,k2,k3⟩;obtain⟨k0,k1,k2,k3⟩:=ho;refine⟨cs2,?_,he2⟩;have hp3:dJ 3=[1000,1001,1002]:=rfl;refine TS γ ?_;rfl
noncomputable def FK:Cmd:=.ops [0,1,2,6,15,16] [cm 32 2,cm 33 7,cm 34 6,⟨(some 35),none,.call (.t 32) [.t 33,.t 34]⟩]
theorem H8:vg=.seq (.ops [0,1,2,6,15,16,17] [b2 17 .lss 16 15]) (.seq (.cond (.t 17) (.skip) (.exit 0)) (.seq (.block 1 [0,1,2,6,15,16] (.seq (.ops [0,1,2,6,7,15,16] [cm 18 16,cm 7 18]) (.seq (.dops [0,1,2,6,7,15,16,31] [cm 19 7,cm 20 6,b2 21 .quo 19 20,cm 22 0,nk 23 22,fa 24 0 23,ld 25 1 24,cm 26 1,co 27 (.iadrS 1 (.t 25) (.t 26)),ld 28 1 27,co 29 (.bin .add (.t 28) (.c (I 1))),b2 30 .rem 21 29,co 31 (.bin .eql (.t 30) (.c (I 0)))] []) (.cond (.t 31) FK (.skip))))) (.ops [0,1,2,6,15,16] [co 36 (.bin .add (.t 16) (.c (I 1))),cm 16 36]))):=rfl
structure LnO (cl:AV) (ds:List Int) (p:Int) (N k st n:Nat) (op:Nat->G->G) (o1 o2 o3 o4:Ob):Prop where
 c1:aE [1000,1001,1002,1003,1004] o1=true
 c2:aE [1000,1001,1002,1003,1004] o2=true
 c3:aE [1000,1001,1002,1003,1004] o3=true
 c4:aE [1000,1001,1002,1003,1004] o4=true
 c5:jn [1000,1001,1002,1003,1004] cl=cl
 run:∀ (f:Nat) (cs:List Ri) (g:G),mf N cs g->f<N->f/st% (n+1)=0->∀ (s:aM) (h:aj) (X:Option (Ex×St)),am R (aA false) FK s h=X->s 0=ac 1000->s 1=I k->s 2=cl->s 6=I st->s 7=I f->s 15=I N->s 16=I f->h 1000=bU ds cs p->h 1001=o1->h 1002=o2->h 1003=o3->h 1004=o4->h 2280=.dead->
  ∃cs' hh,X=some (.normal,⟨upd (upd (upd (upd (upd (upd ce 16 (I f)) 15 (I N)) 6 (I st)) 2 cl) 1 (I k)) 0 (ac 1000),hh⟩)/\hh 1000=bU ds cs' p/\hh 1001=o1/\hh 1002=o2/\hh 1003=o3/\hh 1004=o4/\mf N cs' (op f g)
def TT{cl}{ds}{p}{N k st n}{op}{o1 o2 o3 o4}(L:LnO cl ds p N k st n op o1 o2 o3 o4)(hN4:N<=400)(hs:0<st)(hst:st<=400)(hn:n<=400)(hk:ds[k]?=some (n:Int)):
  ∀m i,i+m=N->∀cs g,mf N cs g->∀s h X,ao 0 [] (aB (am R (aA false) vg) [0,1,2,6,15,16] [1000,1001,1002,1003,1004] s h)=X->
  s 0=ac 1000->s 1=I k->s 2=cl->s 6=I st->s 15=I N->s 16=I i->h 1000=bU ds cs p->h 1001=o1->h 1002=o2->h 1003=o3->h 1004=o4->
  ∃cs' hh,X=some (.normal,⟨fun _=>.any,hh⟩)/\hh 1000=bU ds cs' p/\hh 1001=o1/\hh 1002=o2/\hh 1003=o3/\hh 1004=o4/\mf N cs' (ps op st n m i g):=by
 obtain⟨c1,c2,c3,c4,c5,lr⟩:=L;intro m;induction m with
 |zero=>
  intro i hm cs g he s h X hX g0 g1 g2 g6 g15 g16 k0 k1 k2 k3 k4;subst hX;have e1:=aP ((i:Int)<N);have hg:=(cU ds cs p).cl [1000,1001,1002,1003,1004];rw[ai];refine⟨cs,?hh0,?_,?_,?_,?_,?_,?_,he⟩;rotate_left
  ·simp only[H8,go_sem,g0,g1,g2,g6,g15,g16,k0,k1,k2,k3,k4,hg,c1,c2,c3,c4,c5,e1];rfl
  all_goals rfl
 |succ m ih=>
  intro i hm cs g he s h X hX g0 g1 g2 g6 g15 g16 k0 k1 k2 k3 k4;subst hX;have e1:=aa ((i:Int)<N);have hg:=(cU ds cs p).cl [1000,1001,1002,1003,1004];have w1:IntKind.i64.wrap (Int.tdiv i st)=(i/st:Nat):=by
   have:=aF1 i st;grind[wi]
  have w2:aG (n+1)=(n+1:Nat):=wi;have w4:aG (i+1)=(i+1:Nat):=wi;have d1:=aP ((st:Int)=0);have d2:=aP (((n+1:Nat):Int)=0);have hr:=lr i cs g he ω;have ih':=ih (i+1) ω;have hps:ps op st n (m+1) i g=ps op st n m (i+1) (if i/st% (n+1)=0 then op i g else g):=rfl;rw[hps,ai];generalize aB _ _ _=L at ih'⊢;have hkl:=(List.getElem?_eq_some_iff.1 hk).1;have i1:=aa (0<=(k:Int));have i2:=aa ((k:Int)< (O ds:Int));have q1:(aY ds)[k]?=some [I n]:=by grind[aY]
  by_cases h0:i/st% (n+1)=0
  ·have e2:(Int.tmod ((i/st:Nat):Int) ((n+1:Nat):Int)=0)=True:=eq_true γ;rw[ap h0];have hr:=hr h0;simp only[bU]at k0 hg;simp only[H8,go_sem,g0,g1,g2,g6,g15,g16,k0,k1,k2,k3,k4,hg,c1,c2,c3,c4,c5,e1,e2,w1,w2,d1,d2,vR,CE,q1,i1,i2,aEY,aES];generalize hX:am R (aA false) FK _ _=X;obtain⟨cs',hh,rfl,r0,r1,r2,r3,r4,he2⟩:=hr _ _ _ hX Z Z Z Z Z Z Z Z Z Z Z Z Z;simp only[go_sem,w4,c5];exact ih' cs' _ he2 _ _ _ Z Z Z Z Z Z Z r0 r1 r2 r3 r4
  ·have e2:(Int.tmod ((i/st:Nat):Int) ((n+1:Nat):Int)=0)=False:=eq_false γ;rw[av h0];simp only[bU]at k0 hg;simp only[H8,go_sem,g0,g1,g2,g6,g15,g16,k0,k1,k2,k3,k4,hg,c1,c2,c3,c4,c5,e1,e2,w1,w2,w4,d1,d2,vR,CE,q1,i1,i2,aEY,aES];exact ih' cs g he _ _ _ Z Z Z Z Z Z Z Z Z Z Z Z
def dI(l:List Nat):List Int:=l.map Int.ofNat
def bN:List Nat->Nat->Nat
 |[],n=>n
 |d::l,n=>bN l (n*(d+1))
theorem O3:∀ds (n:Nat),Rz (dI ds) n=(bN ds n)
 |[],_=>rfl
 |d::ds,n=>by
  show Rz (dI ds) (n*(Int.ofNat d+1))=(bN ds (n*(d+1)));rw[←O3 ds (n*(d+1)),aF2];rfl
theorem rH:∀ds n,0<n->n<=bN ds n
 |[],_,_=>aET _
 |d::ds,n,h=>aEX (Nat.le_mul_of_pos_right n (Nat.succ_pos d)) (rH ds _ (Nat.mul_pos h (Nat.succ_pos d)))
theorem RA:∀ds n,bN ds n=n*bN ds 1
 |[],n=>(Nat.mul_one n).symm
 |d::ds,n=>by
  show bN ds (n*(d+1))=n*bN ds (1*(d+1));rw[RA ds (n*(d+1)),RA ds (1*(d+1)),Nat.one_mul,aFj]
def LE:∀ds k n d,ds[k]?=some d->bN ds n=bN (ds.take k) n*(d+1)*bN (ds.drop (k+1)) 1
 |d'::ds,0,n,d,h=>by
  have:d'=d:=γ
  subst this;exact RA ds _
 |d'::ds,k+1,n,d,h=>LE ds k (n*(d'+1)) d γ
 |[],_,_,_,h=>by grind
def aeR{N st n H f}(hN:N=st*(n+1)*H)(hs:0<st)(hf:f<N)(h0:f/st% (n+1)=0):f+n*st<N:=by
 have h1:=aFM f st;have h2:=aFx f hs;have h3:=aFM (f/st) (n+1);rw[h0,aFA]at h3;generalize f/st/ (n+1)=q at*
 have h4:q<H:=by
  refine Nat.lt_of_mul_lt_mul_left (a:=st*(n+1)) ?_;rw[←hN,aFj,h3];omega
 have h5:st*(n+1)*(q+1)<=N:=by
  rw[hN];exact aFV _ h4
 rw[←h3]at h1;grind
def akp{dn}{cs}{p}{k:Nat}{lo w}{l u}{g}(hl:In l lo)(hw:In u w)(hk:dn[k]?=some n)(h8:O dn<=8)(hb:∀d∈dn,d<=32)(hN4:bN dn 1<=400)(he:mf (bN dn 1) cs g):
  ∃cs',R 302 [ac 1000,I k,.fn 303 [] [ac 1001,ac 1002,ac 1003,ac 1004]] [bU (dI dn) cs p,.bx [I n],.bx [ac 1000],jG lo,jG w]=some (.tup [],[bU (dI dn) cs' p,.bx [I n],.bx [ac 1000],jG lo,jG w])/\
   mf (bN dn 1) cs' (ps (fun f=>TC l u n (fun j=>f+j*bN (dn.take k) 1)) (bN (dn.take k) 1) n (bN dn 1) 0 g):=by
 have hkl:=(List.getElem?_eq_some_iff.1 hk).1;have hn:=hb n (aE6 hk);have hbI:∀d∈dI dn,0<=d/\d<=32:=fun d hd=>by
  obtain⟨x,hx,rfl⟩:=List.mem_map.1 hd;grind
 have hsp:=LE dn k 1 n hk;have hs0:=rH (dn.take k) 1 δ;have hst:bN (dn.take k) 1<=400:=by
  refine aEX ?_ hN4;rw[hsp,aFj];exact Nat.le_mul_of_pos_right _ (Nat.mul_pos (Nat.succ_pos n) (rH _ 1 δ))
 have hstep:=fun(h:aj) d (hh:h 1000=bU (dI dn) cs p) hd=>dQ (pU false) rfl (NR (m:=k) (by grind[dI]) ω hbI (d:=d) hh hd);rw[show(dI dn).take k=dI (dn.take k)from(List.map_take ..).symm,show 1=((1:Nat):Int)from rfl,O3]at hstep;generalize bN (dn.take k) 1=st at*
 generalize bN dn 1=N at*
 have L:LnO (.fn 303 [] [ac 1001,ac 1002,ac 1003,ac 1004]) (dI dn) p N k st n (fun f=>TC l u n (fun j=>f+j*st)) (.bx [I n]) (.bx [ac 1000]) (jG lo) (jG w):=by
  refine⟨rfl,rfl,(iV lo).cl _,(iV w).cl _,rfl,?_⟩;intro f cs g he hf h0 s h X hX g0 g1 g2 g6 g7 g15 g16 k0 k1 k2 k3 k4 kd;subst hX;obtain⟨cs',hR,he'⟩:=anw (ds:=dI dn) (p:=p) hl hw he (aeR hsp ω hf h0) hN4 ω;have hc:=ahz hR (d:=35) k0 k1 k2 k3 k4 kd;refine⟨cs',?hh0,?_,?_,?_,?_,?_,?_,he'⟩;rotate_left
  ·simp only[FK,go_sem,g0,g1,g2,g6,g7,g15,g16,hc];rfl
  all_goals rfl
 refine O1 bL.2.1 bL.2.2 (bL.1.2.2.2 false) rfl (aFp rfl) ?_;have hll:=TT L hN4 ω hst ω (by grind[dI]) N 0 (aES _) cs g he;simp only[rM,zi,abB,go_sem];rw[hstep _ _ Z Z];have hlen:O cs=N:=by rw[he.1]
 have hgo:=(cU (dI dn) cs p).cl [1000,1001,1002,1003,1004];simp only[bU]at hgo⊢;simp only[go_sem,hlen,hgo,(iV lo).cl,(iV w).cl];generalize hX:ao 0 _ _=X;obtain⟨cs',hh,rfl,k0,k1,k2,k3,k4,he2⟩:=hll _ _ _ hX Z Z Z Z Z Z Z Z Z Z Z;refine⟨cs',?_,he2⟩;have hp5:dJ 5=[1000,1001,1002,1003,1004]:=rfl;refine TS (by grind[List.map,bU]) ?_;rfl
def akq{dn}{cs}{p}{k:Nat}{g}(hk:dn[k]?=some n)(h8:O dn<=8)(hb:∀d∈dn,d<=32)(hN4:bN dn 1<=400)(he:mf (bN dn 1) cs g):
  ∃cs',R 302 [ac 1000,I k,.fn 306 [] [ac 1001,ac 1002]] [bU (dI dn) cs p,.bx [I n],.bx [ac 1000]]=some (.tup [],[bU (dI dn) cs' p,.bx [I n],.bx [ac 1000]])/\
   mf (bN dn 1) cs' (ps (fun f=>TD n (fun j=>f+j*bN (dn.take k) 1)) (bN (dn.take k) 1) n (bN dn 1) 0 g):=by
 have hkl:=(List.getElem?_eq_some_iff.1 hk).1;have hn:=hb n (aE6 hk);have hbI:∀d∈dI dn,0<=d/\d<=32:=fun d hd=>by
  obtain⟨x,hx,rfl⟩:=List.mem_map.1 hd;grind
 have hsp:=LE dn k 1 n hk;have hs0:=rH (dn.take k) 1 δ;have hst:bN (dn.take k) 1<=400:=by
  refine aEX ?_ hN4;rw[hsp,aFj];exact Nat.le_mul_of_pos_right _ (Nat.mul_pos (Nat.succ_pos n) (rH _ 1 δ))
 have hstep:=fun(h:aj) d (hh:h 1000=bU (dI dn) cs p) hd=>dQ (pU false) rfl (NR (m:=k) (by grind[dI]) ω hbI (d:=d) hh hd);rw[show(dI dn).take k=dI (dn.take k)from(List.map_take ..).symm,show 1=((1:Nat):Int)from rfl,O3]at hstep;generalize bN (dn.take k) 1=st at*
 generalize bN dn 1=N at*
 have L:LnO (.fn 306 [] [ac 1001,ac 1002]) (dI dn) p N k st n (fun f=>TD n (fun j=>f+j*st)) (.bx [I n]) (.bx [ac 1000]) .dead .dead:=by
  refine⟨rfl,rfl,rfl,rfl,rfl,?_⟩;intro f cs g he hf h0 s h X hX g0 g1 g2 g6 g7 g15 g16 k0 k1 k2 k3 k4 kd;subst hX;obtain⟨cs',hR,he'⟩:=anx (ds:=dI dn) (p:=p) he (aeR hsp ω hf h0) hN4 ω;have hc:=ahA hR (d:=35) k0 k1 k2 kd;refine⟨cs',?hh0,?_,?_,?_,?_,?_,?_,he'⟩;rotate_left
  ·simp only[FK,go_sem,g0,g1,g2,g6,g7,g15,g16,hc];rfl
  all_goals first|rfl|assumption
 refine O1 bL.2.1 bL.2.2 (bL.1.2.2.2 false) rfl (aFp rfl) ?_;have hll:=TT L hN4 ω hst ω (by grind[dI]) N 0 (aES _) cs g he;simp only[rM,zi,abC,go_sem];rw[hstep _ _ Z Z];have hlen:O cs=N:=by rw[he.1]
 have hgo:=(cU (dI dn) cs p).cl [1000,1001,1002,1003,1004];simp only[bU]at hgo⊢;simp only[go_sem,hlen,hgo];generalize hX:ao 0 _ _=X;obtain⟨cs',hh,rfl,k0,k1,k2,k3,k4,he2⟩:=hll _ _ _ hX Z Z Z Z Z Z Z Z Z Z Z;refine⟨cs',?_,he2⟩;have hp5:dJ 3=[1000,1001,1002]:=rfl;refine TS (by grind[List.map,bU]) ?_;rfl
def aqL{dn}{cs}{p}{k:Nat}{g}(hk:dn[k]?=some n)(h8:O dn<=8)(hb:∀d∈dn,d<=32)(hN4:bN dn 1<=400)(he:mf (bN dn 1) cs g):
  ∃cs',R 261 [ac 1000,I k] [bU (dI dn) cs p]=some (.tup [],[bU (dI dn) cs' p])/\mf (bN dn 1) cs' (ps (fun f=>TD n (fun j=>f+j*bN (dn.take k) 1)) (bN (dn.take k) 1) n (bN dn 1) 0 g):=by
 obtain⟨cs',hR,he'⟩:=akq (p:=p) hk h8 hb hN4 he;refine⟨cs',tE fX.2.1 fX.2.2 (fX.1.2.2.2 false) rfl ?_,he'⟩;have e3:(aY (dI dn))[k]?=some [I n]:=by grind[aY,dI]
 have e7:=aa (0<=(k:Int));have e8:(k< (O (dI dn):Int))=True:=eq_true (by grind[dI]);have hl:=fun h d h0 h1 h2 hf=>abD (bL.1.2.1 false) rfl (TR hR (h:=h) (d:=d) h0 h1 h2 hf);simp only[bU]at hl⊢;simp only[rS,go_sem,aES];rw[akk (cs:=[.osl 1 (aY (dI dn)),.osl 7 (cT cs),I p]) Z Z];simp only[go_sem,e3,e7,e8,EK,aEY,aES,vR,CE];rw[hl _ _ Z Z Z Z];rfl
def aqM{dn}{cs}{p}{k:Nat}{b}{g}(vl:vd b.lo=true/\Ok0 b.lo)(vh:vd b.hi=true/\Ok0 b.hi)(hk:dn[k]?=some n)(h8:O dn<=8)(hb:∀d∈dn,d<=32)(hN4:bN dn 1<=400)(he:mf (bN dn 1) cs g):
  ∃cs',R 260 [ac 1000,I k,ae b] [bU (dI dn) cs p]=some (.tup [],[bU (dI dn) cs' p])/\mf (bN dn 1) cs' (ps (fun f=>TC (qv b.lo) (qv b.hi-qv b.lo) n (fun j=>f+j*bN (dn.take k) 1)) (bN (dn.take k) 1) n (bN dn 1) 0 g):=by
 have i1:=wK vl.1 vl.2;have i2:=wK vh.1 vh.2;have i3:=OY (p:=p) i2 i1;obtain⟨cs',hR,he'⟩:=akp (p:=p) i1 i3 hk h8 hb hN4 he;refine⟨cs',tE jQ.2.1 jQ.2.2 (jQ.1.2.2.2 false) rfl ?_,he'⟩;have e3:(aY (dI dn))[k]?=some [I n]:=by grind[aY,dI]
 have e7:=aa (0<=(k:Int));have e8:(k< (O (dI dn):Int))=True:=eq_true (by grind[dI]);have hl:=fun h d h0 h1 h2 h3 h4 hf=>abD (bL.1.2.1 false) rfl (TQ hR (h:=h) (d:=d) h0 h1 h2 h3 h4 hf);have p1:=fY vl.2 vl.1;have p2:=fY vh.2 vh.1;have p3:=OW i2.ok i1.ok (p:=p);simp only[bU,jG]at hl⊢;simp only[af,ak,ae,ah]at p1 p2 p3;simp only[y9,ae,ah,go_sem,aES];rw[akk (cs:=[.osl 1 (aY (dI dn)),.osl 7 (cT cs),I p]) Z Z];simp only[go_sem,e3,e7,e8,EK,aEY,aES,vR,CE,p1,p2,p3];rw[hl _ _ Z Z Z Z Z Z];rfl
def anz(hn:n<=400):R 337 [W 1,W n] []=some (.tup [W 0,W n],[]):=by
 refine au aaz ?_;have a1:fK .and (W 1) (W 4294967295)=some (W 1):=rfl;have a2:fK .and (W n) (W 4294967295)=some (W n):=by
  rw[ajF rfl ω,aFG ω]
 have s1:fK .shr (W 1) (W 32)=some (W 0):=rfl;have s2:fK .shr (W n) (W 32)=some (W 0):=(Fb (i:=n) (j:=32) (k:=32) Z Z δ).trans γ;have s3:fK .shr (W 0) (W 32)=some (W 0):=rfl;have a3:fK .and (W 0) (W 4294967295)=some (W 0):=rfl;have w1:IntKind.u64.wrap (1*n)=n:=iH ω ω;have w2:IntKind.u64.wrap (0*n)=0:=by rw[Int.zero_mul];rfl
 have w3:IntKind.u64.wrap (0+0)=0:=rfl;have w4:IntKind.u64.wrap (1*0)=0:=rfl;have w5:IntKind.u64.wrap (0*0)=0:=rfl;simp only[Ga,go_sem,a1,a2,a3,s1,s2,s3,w1,w2,w3,w4,w5]
def aqN(hn:n<=400):R 327 [W 1,W n] []=some (.tup [W 0,W n],[]):=by
 refine au ag5 ?_;have h:=anz hn;simp only[Jq,go_sem,h]
def anA{X Z}{N}(hN:N<=400)(c:List Bool):∀k m,N-m<=k->1<=m->m<=N->∀s h Y,ao 0 [7] (aB (am R (aA false) dA) [7,8] [30] s h)=Y->
  s 7=.rsl 30 none 7 0 N->s 8=I m->h 30=.ar 7 (aER m X++aER (N-m) Z)->
  ∃hh,Y=some (.normal,⟨upd ce 7 (.rsl 30 none 7 0 N),hh⟩)/\hh 30=.ar 7 (aER N X):=by
 intro k;induction k with
 |zero=>
  intro m hk h1 hm s h Y hY g7 g8 k30;subst hY;have e:m=N:=ω
  subst e;have e1:=aP ((m:Int)<m);rw[Nat.sub_self,List.replicate_zero,aE8]at k30;rw[ai];refine⟨?hh0,?_,?_⟩;rotate_left
  ·simp only[dA,go_sem,g7,g8,k30,e1];rfl
  ·rfl
 |succ k ih=>
  intro m hk h1 hm s h Y hY g7 g8 k30;by_cases hq:m=N
  ·exact ih m ω h1 hm s h Y hY g7 g8 k30
  subst hY;have e1:=aa ((m:Int)<N);have e2:gA 7 (.rsl 30 none 7 0 N) (some (I m)) none none=some (.rsl 30 none 7 m (N-m)):=by grind[gA,nc,mS]
  have e3:gA 7 (.rsl 30 none 7 0 N) none (some (I m)) none=some (.rsl 30 none 7 0 m):=by grind[gA,nc,mS]
  obtain⟨q,hq2⟩:∃q,min (N-m) m=q:=⟨_,rfl⟩;have hq3:min m (N-m)=q:=ω
  have ih':=ih (m+q) ω ω ω;have hl:O (aER m X++aER (N-m) Z)=N:=γ
  have t1:List.take q (aER m X++aER (N-m) Z)=aER q X:=by
   grind
  have t2:List.take m (aER m X++aER (N-m) Z)=aER m X:=by
   grind
  have t3:List.drop (m+q) (aER m X++aER (N-m) Z)=aER (N- (m+q)) Z:=by
   rw[List.drop_append,aFq σ,aFU,aE5,List.drop_replicate];grind
  have t4:aER m X++aER q X=aER (m+q) X:=List.replicate_append_replicate;have e4:=aa (0+q<=N);have e5:=eq_true hm;have w1:aG (m+q)=(m+q:Nat):=wi;rw[ai];simp only[dA,go_sem,g7,g8,k30,e1,e2,e3,hq2,hq3,hl,t1,t2,t3,t4,e4,e5,aFU,w1];apply ih'<;>rfl
def akr{x}(h1:1<=n)(hn:n<=400):R 300 [.sl 7 [ah x],I n] []=some (.osl 7 (cT (aER n x)),[]):=by
 refine au vo ?_;have hm:=aqN hn;have w1:IntKind.u64.wrap 1=1:=δ
 have w2:(0+1:Nat)=1:=rfl;have w3:IntKind.u64.wrap n=n:=iH rfl ω;have w4:aG n=n:=wi rfl ω;have e1:((0:Int)<0)=False:=ff δ;have e2:=aP ((n:Int)<0);have e3:=aP (9223372036854775807< (n:Int));have z1:oH (.v (.int .i64 n)) (.v (.int .i64 n))=some (n,n):=by
  simp only[oH];grind
 have z2:=aa (n*88<=140737488355328);have tk:∀A:List AV,List.take n [A]=[A]:=fun A=>aFi ω;have hmin:=aFW h1;have dr:List.drop 1 (aER n [B false,.emp,I 0,B false,.emp,I 0,B false])=aER (n-1) [B false,.emp,I 0,B false,.emp,I 0,B false]:=List.drop_replicate;have hl:=anA (X:=ah x) (Z:=[B false,.emp,I 0,B false,.emp,I 0,B false]) hn [] n 1 ω (aET _) h1;simp only[gj,kQ,ah,go_sem,aFk,aFs,w1,w2,w3,w4,hm,e1,e2,e3,z1,z2,tk,hmin,dr,aE9,aFU,true_and,Int.natCast_one];generalize hX:ao 0 _ _=X;obtain⟨hh,rfl,q⟩:=hl _ _ _ hX rfl rfl rfl;simp only[go_sem,q,aFU,aES,aET,if_true,aEZ,aFK];grind[cT,List.map_replicate]
theorem abI{l}{i}(h:i<O l):(dI l)[i]?=some ((l.getD i 0):Int):=by
 grind[dI]
def atz{l}{i}(h:i<O l):(aY (dI l))[i]?=some [I (l.getD i 0)]:=by
 grind[aY,abI]
theorem Kp(l):O (dI l)=O l:=by simp[dI]
def Mx(dn dn' es:List Nat)(i:Nat):Prop:=O dn'=O dn/\(∀d∈dn',d<=32)/\(∀j,dn.getD j 0<=dn'.getD j 0)/\∀j,i<=j->es.getD j 0<=dn'.getD j 0
def aqO{v}{p}(h8:v<=8){es}(hes:O es=v)(he32:∀e∈es,e<=32){o2 o8}(c2:∀l,aE l o2=true)(c8:∀l,aE l o8=true){A}{nA iA}:
  ∀ (k i:Nat),i+k=v->∀dn,O dn=v->(∀d∈dn,d<=32)->∀s h X,ao 2 [2,6,26,27,28] (aB (am R (aA false) pP) [2,6,26,27,28,33,34,35] [2,8,21,24,2624] s h)=X->s 2=ac 2->s 6=ac 24->s 26=.sl 4 (aU A)->s 27=I nA->s 28=I iA->s 33=.sl 1 (aY (dI es))->s 34=I v->s 35=I i->h 2=o2->h 8=o8->h 21=.dead->h 24=.bx [.osl 1 (aY (dI dn)),.emp,I p]->h 2624=.dead->
  ∃hh dn',X=some (.normal,⟨upd (upd (upd (upd (upd ce 28 (I iA)) 27 (I nA)) 26 (.sl 4 (aU A))) 6 (ac 24)) 2 (ac 2),hh⟩)/\hh 2=o2/\hh 24=.bx [.osl 1 (aY (dI dn')),.emp,I p]/\hh 21=.dead/\hh 2624=.dead/\Mx dn dn' es i:=by
 intro k;induction k with
 |zero=>
  intro i hi dn hd hb s h X hX g2 g6 g26 g27 g28 g33 g34 g35 k2 k8 k21 k24 k2624;subst hX;have e1:=aP (i< (v:Int));have hc:=c2 [2,8,21,24,2624];have hc8:=c8 [2,8,21,24,2624];rw[ai];refine⟨?hh0,dn,?_,?_,?_,?_,?_,rfl,hb,fun _=>aET _,fun j hj=>?_⟩;rotate_left
  ·simp only[pP,go_sem,g2,g6,g26,g27,g28,g33,g34,g35,k2,k8,k21,k24,k2624,hc,hc8,e1];rfl
  ·rfl
  ·rfl
  ·rfl
  ·rfl
  grind
 |succ k ih=>
  intro i hi dn hd hb s h X hX g2 g6 g26 g27 g28 g33 g34 g35 k2 k8 k21 k24 k2624;subst hX;have hlt:=ω
  have e1:=aa (i< (v:Int));have e2:=atz (l:=dn) (i:=i) ω;have e3:dF (aY (dI es)) i=some (.ipt [I (es.getD i 0)]):=vE rfl (abI ω);have e5:aG (i+1)=(i+1:Nat):=wi;have e6:=aa (0<=(i:Int));have e7:(i< (O (dI dn):Int))=True:=eq_true (by grind[Kp]);have hc:=c2 [2,8,21,24,2624];have hc8:=c8 [2,8,21,24,2624];obtain⟨m,hm⟩:∃m,max (dn.getD i 0) (es.getD i 0)=m:=⟨_,rfl⟩;have em:(if(dn.getD i 0:Nat)< ((es.getD i 0):Int)then((es.getD i 0):Int)else(dn.getD i 0:Nat))=m:=by
   omega
  have e4:vX 1 1 i 0 [I m] 1 (aY (dI dn))=some (aY (dI (dn.set i m))):=by
   simp_all[vX,ap,setRow,aY,dI,List.map_set]
  have hms:∀d∈dn.set i m,d<=32:=fun d hd2=>by
   rcases List.mem_or_eq_of_mem_set hd2 with h|h
   ·exact hb d h
   ·subst h;have h1:dn.getD i 0<=32:=by
     rw[aF3,aE1 ω];exact hb _ (aFg _)
    have h2:es.getD i 0<=32:=by
     rw[aF3,aE1 ω];exact he32 _ (aFg _)
    omega
  have ih':=ih (i+1) ω (dn.set i m) (by rw[aFR];exact hd) hms;rw[ai];generalize aB _ _ _=L at ih'⊢;simp only[pP,go_sem,g2,g6,g26,g27,g28,g33,g34,g35,k2,k8,k21,k24,k2624,hc,hc8,e1,e2,e3,e5,e6,e7,aEY,aES,vR,CE,aqC,em,e4];generalize hX:ao 2 _ _=X;obtain⟨hh,dn',q1,q2,q3,q4,q5,m1,m2,m3,m4⟩:=ih' _ _ _ hX Z Z Z Z Z Z Z Z Z Z Z Z Z;refine⟨hh,dn',q1,q2,q3,q4,q5,by rw[m1,aFR],m2,fun j=>?_,fun j hj=>?_⟩
  all_goals grind
def Nt(v:Nat)(t:Rt)(es:List Nat):Prop:=t.exps=dI es/\O es=v/\∀e∈es,e<=32
def aqP{v}{p}(h8:v<=8){A}{E:List (List Nat)}(hA:O A=O E)(h5:O A<=500)(hn:∀ (i:Nat) t es,A[i]?=some t->E[i]?=some es->Nt v t es){o2}(c2:∀l,aE l o2=true):
  ∀ (k i:Nat),i+k=O A->∀dn,O dn=v->(∀d∈dn,d<=32)->∀s h X,ao 0 [2,6] (aB (am R (aA false) uw) [2,6,26,27,28] [2,21,24,2624] s h)=X->s 2=ac 2->s 6=ac 24->s 26=.sl 4 (aU A)->s 27=I (O A)->s 28=I i->h 2=o2->h 21=.dead->h 24=.bx [.osl 1 (aY (dI dn)),.emp,I p]->h 2624=.dead->
  ∃hh dn',X=some (.normal,⟨upd (upd ce 6 (ac 24)) 2 (ac 2),hh⟩)/\hh 2=o2/\hh 24=.bx [.osl 1 (aY (dI dn')),.emp,I p]/\hh 21=.dead/\hh 2624=.dead/\O dn'=v/\(∀d∈dn',d<=32)/\(∀j,dn.getD j 0<=dn'.getD j 0)/\∀a es,i<=a->E[a]?=some es->∀j,es.getD j 0<=dn'.getD j 0:=by
 intro k;induction k with
 |zero=>
  intro i hi dn hd hb s h X hX g2 g6 g26 g27 g28 k2 k21 k24 k2624;subst hX;have e1:=aP (i< (O A:Int));have hc:=c2 [2,21,24,2624];rw[ai];refine⟨?hh0,dn,?_,?_,?_,?_,?_,hd,hb,fun _=>aET _,fun a es ha he=>?_⟩;rotate_left
  ·simp only[uw,go_sem,g2,g6,g26,g27,g28,k2,k21,k24,k2624,hc,e1];rfl
  ·rfl
  ·rfl
  ·rfl
  ·rfl
  grind
 |succ k ih=>
  intro i hi dn hd hb s h X hX g2 g6 g26 g27 g28 k2 k21 k24 k2624;subst hX;have e1:=aa (i< (O A:Int));obtain⟨t,ht⟩:∃t,A[i]?=some t:=⟨_,aE1 ω⟩;obtain⟨es,hes⟩:∃es,E[i]?=some es:=⟨_,aE1 ω⟩;obtain⟨n1,n2,n3⟩:=hn i t es ht hes;have e2:=kV rfl ht;have e5:aG (i+1)=(i+1:Nat):=wi;have hc:=c2 [2,21,24,2624];have hg:=aqO (p:=p) h8 n2 n3 c2 (o8:=.bx [.sl 1 (aY (dI es)),B t.c.neg,lm t.c.m,I t.c.e]) (fun _=>rfl) (A:=A) (nA:=O A) (iA:=i) v 0 (aES _) dn hd hb;have e3:O (aY (dI es))=v:=by rw[EK,Kp,n2]
  rw[dE,n1]at e2;have ih':=ih (i+1) ω;rw[ai];simp only[uw,go_sem,g2,g6,g26,g27,g28,k2,k21,k24,k2624,hc,e1,e2,e3];generalize hX:ao 2 _ _=X;obtain⟨hh,dn',rfl,q2,q24,q21,q2624,m1,m2,m3,m4⟩:=hg _ _ _ hX Z Z Z Z Z Z Z Z Z Z Z Z Z;simp only[go_sem,e5];generalize hX:ao 0 _ _=X;obtain⟨hh2,dn2,r1,r2,r3,r4,r5,u1,u2,u3,u4⟩:=ih' dn' ω m2 _ _ _ hX Z Z Z Z Z q2 q21 q24 q2624;grind
theorem Xc:∀l d n,bN (l++[d]) n=bN l n*(d+1)
 |[],_,_=>rfl
 |a::l,d,n=>Xc l d (n*(a+1))
theorem aks{dn:List Nat}{i}(h:i<O dn):bN (dn.take (i+1)) 1=bN (dn.take i) 1*(dn.getD i 0+1):=by
 grind[List.take_add_one,Xc]
theorem anB{dn es:List Nat}{i s}(h:i<O dn)(h2:i<O es):pos (dn.drop i) (es.drop i) s=es.getD i 0*s+pos (dn.drop (i+1)) (es.drop (i+1)) (s*(dn.getD i 0+1)):=by
 rw[aFe h,aFe h2,aF3,aF3,aE1 h,aE1 h2];rfl
def aqQ{dn es}{cs}{p}{v}(h8:v<=8)(hd:O dn=v)(hb:∀d∈dn,d<=32)(hN4:bN dn 1<=400)(hes:O es=v)(he32:∀e∈es,e<=32){o2 o15}(c2:∀l,aE l o2=true)(c15:∀l,aE l o15=true){A}{nA iA}:
  ∀ (k i:Nat),i+k=v->∀at_,at_+pos (dn.drop i) (es.drop i) (bN (dn.take i) 1)<=400->∀s h X,ao 8 [6,15,16,82,83,84] (aB (am R (aA false) my) [6,15,16,82,83,84,89,90,91] [2,15,21,24,2624] s h)=X->s 6=ac 24->s 15=ac 15->s 16=I at_->s 82=.sl 4 (aU A)->s 83=I nA->s 84=I iA->s 89=.sl 1 (aY (dI es))->s 90=I v->s 91=I i->h 2=o2->h 15=o15->h 21=.dead->h 24=bU (dI dn) cs p->h 2624=.dead->
  ∃hh,X=some (.normal,⟨upd (upd (upd (upd (upd (upd ce 84 (I iA)) 83 (I nA)) 82 (.sl 4 (aU A))) 16 (I (at_+pos (dn.drop i) (es.drop i) (bN (dn.take i) 1):Nat))) 15 (ac 15)) 6 (ac 24),hh⟩)/\hh 2=o2/\hh 15=o15/\hh 24=bU (dI dn) cs p/\(∀a,a≠2->a≠15->a≠24->hh a=.dead):=by
 intro k;induction k with
 |zero=>
  intro i hi at_ hat s h X hX g6 g15 g16 g82 g83 g84 g89 g90 g91 k2 k15 k21 k24 k2624;subst hX;have e1:=aP (i< (v:Int));have hc:=c2 [2,15,21,24,2624];have hc15:=c15 [2,15,21,24,2624];have hg:=(cU (dI dn) cs p).cl [2,15,21,24,2624];rw[aFq (show O dn<=i by omega)];have hp0:∀s,pos [] (es.drop i) s=0:=fun s=>by grind[pos]
  rw[hp0,aFA,ai];refine⟨?hh0,?_,?_,?_,?_,?_⟩;rotate_left
  ·simp only[my,go_sem,g6,g15,g16,g82,g83,g84,g89,g90,g91,k2,k15,k21,k24,k2624,hc,hc15,hg,e1];rfl
  all_goals simp_all[cz,if_false,ite_self]
 |succ k ih=>
  intro i hi at_ hat s h X hX g6 g15 g16 g82 g83 g84 g89 g90 g91 k2 k15 k21 k24 k2624;subst hX;have e1:=aa (i< (v:Int));have e3:dF (aY (dI es)) i=some (.ipt [I (es.getD i 0)]):=vE rfl (abI ω);have e5:aG (i+1)=(i+1:Nat):=wi;have hbI:∀d∈dI dn,0<=d/\d<=32:=fun d hd=>by
   obtain⟨x,hx,rfl⟩:=List.mem_map.1 hd;grind
  have hst:=fun(h:aj) d (hh:h 24=bU (dI dn) cs p) hd=>dQ (pU false) rfl (NR (m:=i) (by grind[Kp]) ω hbI (d:=d) hh hd);rw[show(dI dn).take i=dI (dn.take i)from(List.map_take ..).symm,show 1=((1:Nat):Int)from rfl,O3]at hst;rw[anB ω ω,←aks ω,←aFZ]at hat⊢;have ih':=ih (i+1) ω (at_+es.getD i 0*bN (dn.take i) 1) hat;generalize bN (dn.take i) 1=st at*
  generalize es.getD i 0=e at*
  have w1:aG (e*st)=(e*st:Nat):=wi (aF2 ..).symm ω;have w2:aG (at_+(e*st:Nat))=(at_+e*st:Nat):=wi;have hc:=c2 [2,15,21,24,2624];have hc15:=c15 [2,15,21,24,2624];have hg:=(cU (dI dn) cs p).cl [2,15,21,24,2624];rw[ai];simp only[my,go_sem,g6,g15,g16,g82,g83,g84,g89,g90,g91,k2,k15,k21,k24,k2624,hc,hc15,hg,e1,e3];rw[hst _ _ Z Z];simp only[go_sem,w1,w2,e5];apply ih'<;>rfl
def gT(dn:List Nat):List Rt->List (List Nat)->G->G
 |t::l,es::r,g=>gT dn l r (gs g (pos dn es 1) (qv t.c))
 |_,_,g=>g
def aqR{dn}{p}{v}(h8:v<=8)(hd:O dn=v)(hb:∀d∈dn,d<=32)(hN4:bN dn 1<=400){A}{E:List (List Nat)}(hA:O A=O E)(h5:O A<=500)(hn:∀ (i:Nat) t es,A[i]?=some t->E[i]?=some es->Nt v t es/\pos dn es 1<bN dn 1/\vd t.c=true/\Ok0 t.c){o2}(c2:∀l,aE l o2=true):
  ∀ (k i:Nat),i+k=O A->∀cs g,mf (bN dn 1) cs g->∀s h X,ao 6 [6] (aB (am R (aA false) pO) [6,82,83,84] [2,21,24,2624] s h)=X->s 6=ac 24->s 82=.sl 4 (aU A)->s 83=I (O A)->s 84=I i->h 2=o2->h 21=.dead->h 24=bU (dI dn) cs p->h 2624=.dead->
  ∃hh cs',X=some (.normal,⟨upd ce 6 (ac 24),hh⟩)/\hh 24=bU (dI dn) cs' p/\mf (bN dn 1) cs' (gT dn (A.drop i) (E.drop i) g):=by
 intro k;induction k with
 |zero=>
  intro i hi cs g he s h X hX g6 g82 g83 g84 k2 k21 k24 k2624;subst hX;have e1:=aP (i< (O A:Int));have hc:=c2 [2,21,24,2624];have hg:=(cU (dI dn) cs p).cl [2,21,24,2624];rw[aFq (show O A<=i by omega),ai];refine⟨?hh0,cs,?_,?_,he⟩;rotate_left
  ·simp only[pO,go_sem,g6,g82,g83,g84,k2,k21,k24,k2624,hc,hg,e1];rfl
  ·rfl
 |succ k ih=>
  intro i hi cs g he s h X hX g6 g82 g83 g84 k2 k21 k24 k2624;subst hX;have hlt:i<O A:=ω
  have e1:=aa (i< (O A:Int));obtain⟨t,ht⟩:∃t,A[i]?=some t:=⟨_,aE1 hlt⟩;obtain⟨es,hes⟩:∃es,E[i]?=some es:=⟨_,aE1 ω⟩;obtain⟨⟨n1,n2,n3⟩,n4,n5,n6⟩:=hn i t es ht hes;have hgT:gT dn (A.drop i) (E.drop i) g=gT dn (A.drop (i+1)) (E.drop (i+1)) (gs g (pos dn es 1) (qv t.c)):=by
   have h1:A[i]=t:=Option.some.inj (by rw[←ht,aE1 hlt]);have h2:E[i]'(by omega)=es:=Option.some.inj (by rw[←hes,aE1 ω]);rw[aFe hlt,aFe (by omega:i<O E),h1,h2];rfl
  have e2:=kV rfl ht;have e5:aG (i+1)=(i+1:Nat):=wi;have e3:O (aY (dI es))=v:=by rw[EK,Kp,n2]
  rw[dE,n1]at e2;have h0:=aqQ (cs:=cs) (p:=p) h8 hd hb hN4 n2 n3 c2 (o15:=.bx [.sl 1 (aY (dI es)),B t.c.neg,lm t.c.m,I t.c.e]) (fun _=>rfl) (A:=A) (nA:=O A) (iA:=i) v 0 (aES _) 0 (by
   show 0+pos dn es 1<=400;omega)
  have hp0:0+pos (dn.drop 0) (es.drop 0) (bN (dn.take 0) 1)=pos dn es 1:=aES _;rw[hp0]at h0;have hpt:=fY n6 n5;have ih':=ih (i+1) ω _ _ (he.set (k:=pos dn es 1) (wK n5 n6));rw[hgT];generalize pos dn es 1=P at*
  have i1:=aa (0<=(P:Int));have i2:(P< (O cs:Int))=True:=eq_true (by rw[he.1];omega);have sr1:vX 7 7 P 0 (ah ⟨t.c,t.c,false⟩) 7 (cT cs)=some (cT (cs.set P ⟨t.c,t.c,false⟩)):=Ko γ;have hc:=c2 [2,21,24,2624];have hg:=(cU (dI dn) cs p).cl [2,21,24,2624];simp only[af,ak,ae,ah]at hpt;simp only[ah]at sr1;rw[ai];simp only[pO,go_sem,g6,g82,g83,g84,k2,k21,k24,k2624,hc,hg,e1,e2,e3];generalize hX:ao 8 _ _=X;obtain⟨hh,rfl,q2,q15,q24,qd⟩:=h0 _ _ _ hX Z Z Z Z Z Z Z Z Z Z Z Z Z Z;have b1:=qd 2888 δ δ δ;have b2:=qd 2624 δ δ δ;have b3:=qd 21 δ δ δ;simp only[bU]at q24;simp only[go_sem,q15,q24,b1,hpt,i1,i2,aEY,aES,Kn,sr1,e5];exact ih' _ _ _ Z Z Z Z Z q2 b3 rfl b2
def akt:∀dn es,O dn=O es->(∀j,es.getD j 0<=dn.getD j 0)->TJ dn es
 |[],[],_,_=>trivial
 |d::dn,e::es,h,hj=>⟨hj 0,akt dn es γ fun j=>hj (j+1)⟩
 |[],_::_,h,_=>by grind
 |_::_,[],h,_=>by grind
theorem RB:∀dn xs,O xs=O dn->∀n,D0 (tZ dn xs) n=bN dn n
 |[],[],_,_=>rfl
 |d::dn,x::xs,h,n=>RB dn xs γ (n*(d+1))
 |[],_::_,h,_=>by grind
 |_::_,[],h,_=>by grind
def aeS:∀dn (n:Nat),n<=400->GM (dI dn) n=none\/GM (dI dn) n=some ((bN dn n):Int)/\bN dn n<=400
 |[],n,h=>Or.inr ⟨rfl,h⟩
 |d::dn,n,h=>by
  have e:GM (dI (d::dn)) n=if 400<n*(Int.ofNat d+1)then none else GM (dI dn) (n*(Int.ofNat d+1)):=rfl
  have e2:n*(Int.ofNat d+1)=(n*(d+1):Nat):=by rfl
  rw[e,e2];split
  ·exact Or.inl rfl
  ·exact aeS dn (n*(d+1)) ω
def GP(v:Nat)(A:List Rt)(E:List (List Nat))(p:Int)(r:AV×List Ob):Prop:=r=(.tup [.v (.pointer none),B false],[])\/∃dn cs,r=(.tup [.obx [.osl 1 (aY (dI dn)),.osl 7 (cT cs),I p],B true],[])/\O dn=v/\(∀d∈dn,d<=32)/\(∀es∈E,TJ dn es)/\bN dn 1<=400/\mf (bN dn 1) cs (gT dn A E fun _=>0)
def aku{v}{p}(h8:v<=8){A}{E}(hA:O A=O E)(h5:O A<=500)(hn:∀ (i:Nat) t es,A[i]?=some t->E[i]?=some es->Nt v t es/\vd t.c=true/\Ok0 t.c):
  ∃r,R 259 [.agg [I v,.sl 4 (aU A)],I p] []=some r/\GP v A E p r:=by
 have z1:oH (.v (.int .i64 v)) (.v (.int .i64 v))=some (v,v):=by
  simp only[oH];grind
 have z2:=aa (v*8<=140737488355328);have zr:aER v [I 0]=aY (dI (aER v 0)):=by grind[aY,dI,List.map_replicate]
 have hl:O (aY (dI (aER v 0)))=v:=γ
 have h4:=aqP (p:=p) h8 hA h5 (fun i t es h1 h2=>(hn i t es h1 h2).1) (o2:=.bx [I v,.sl 4 (aU A)]) (fun _=>rfl) (O A) 0 (aES _) (aER v 0) σ (fun d hd=>by grind);have hrl:=sz A;refine O1 (r:=fun a=>a) Ep.2.1 Ep.2.2 (Ep.1.2.2.2 false) rfl (aFp rfl) ?_;have hh0:az []=fun _=>.dead:=by funext i;simp[az]
 simp only[Dm,JP,hh0,go_sem,aFs,z1,z2,zr];rw[atw (k:=1) (rows:=aY (dI (aER v 0))) rfl hl.symm rfl δ];simp only[go_sem];generalize hX:ao 0 _ _=X;obtain⟨hh,dn,rfl,q2,q24,q21,q2624,d1,d2,d3,d4⟩:=h4 _ _ _ hX Z Z Z Z Z Z Z Z Z;have hdl:O (dI dn)=v:=by rw[Kp,d1]
 have hbI:∀d∈dI dn,0<=d/\d<=32:=fun d hd=>by
  obtain⟨x,hx,rfl⟩:=List.mem_map.1 hd;grind
 simp only[go_sem,q2,q24,q21,q2624,hdl,EK];generalize hX:ao 4 _ _=X;have hM:=av6 (ds:=dI dn) (p:=p) hdl.symm ω hbI (o2:=.bx [I v,.sl 4 (aU A)]) (fun _=>rfl) _ _ _ hX Z Z Z Z Z Z q2 q21 q24 q2624;rcases aeS dn 1 δ with hm| ⟨hm,h4⟩
 ·rw[show 1=((1:Nat):Int)from rfl,hm]at hM;obtain⟨hh2,rfl⟩:=hM;refine⟨_,?_,Or.inl rfl⟩;simp only[go_sem]
 rw[show 1=((1:Nat):Int)from rfl,hm]at hM;obtain⟨hh,rfl,q2,q24,qd⟩:=hM;have hle:∀es∈E,TJ dn es:=fun es he=>by
  obtain⟨i,hi⟩:=aFL he;have hiE:=(List.getElem?_eq_some_iff.1 hi).1;have:=(hn i _ es (aE1 ω) hi).1.2.1;exact akt dn es ω (d4 i es (aE9 _) hi)
 have hpt:=fY aO.2 aO.1;have hrp:=akr (x:=Mi) (rH dn 1 δ) h4;have h1:=aqR (p:=p) h8 d1 d2 h4 hA h5 (fun i t es h1 h2=>by
  obtain⟨a,b,c⟩:=hn i t es h1 h2;refine⟨a,?_,b,c⟩;have hL:=hle es (aE6 h2);have:=aj9 dn es (aER (O dn) 0) hL σ 1 0 δ
  simp_all[RB,aES]) (o2:=.bx [I v,.sl 4 (aU A)]) (fun _=>rfl) (O A) 0 (aES _) (aER (bN dn 1) Mi) (fun _=>0) ⟨by simp,fun k x hx=>by
   rw[List.getElem?_replicate]at hx;split at hx
   ·cases hx;rw[←NJ];exact wK aO.1 aO.2
   grind⟩
 generalize aER (bN dn 1) Mi=cs0 at hrp h1;have b1:=qd 2600 δ δ;have b2:=qd 76 δ δ;have b3:=qd 2624 δ δ;have b4:=qd 21 δ δ;simp only[af,ak,ae,ah,aC,Mi]at hpt hrp;simp only[ah,go_sem,q24,b1,b2,b3,hpt,hrp];rw[Au (h:=upd (upd (upd hh 76 _) 76 _) 2624 (.ar 7 (cT cs0))) (id:=24) (p:=1) (id2:=2624) (k:=7) (n:=O cs0) rfl (Vl _).symm q24 δ γ];simp only[go_sem,atv,aFv,q2,hrl];generalize hX:ao 6 _ _=X;obtain⟨hh2,cs2,rfl,r24,he2⟩:=h1 _ _ _ hX Z Z Z Z q2 b4 Z Z;refine⟨_,?_,Or.inr ⟨dn,cs2,rfl,d1,d2,hle,h4,he2⟩⟩;simp only[bU]at r24;simp only[go_sem,r24];rw[ap (by rfl)];have e:wj hh2 (ac 24)=some (.obx [.osl 1 (aY (dI dn)),.osl 7 (cT cs2),I p]):=by
  have hp:bu 24=false:=rfl;simp[wj,qk,afQ, *];exact⟨rfl,rfl,rfl⟩
 rw[e];rfl
def vT:List Nat->List Rat->List (Nat×LF)
 |d::ds,t::ts=>(d,fun v=>dc t v d 0)::vT ds ts
 |_,_=>[]
def akv:∀ds ts,TI (vT ds ts)
 |d::ds,t::ts=>fun p hp=>by
  rcases List.mem_cons.1 hp with rfl|hp
  ·simp_all[TH]
  ·exact akv ds ts p hp
 |[],_=>fun _ h=>by grind[vT]
 |_::_,[]=>fun _ h=>by grind[vT]
theorem VK:∀dn ts,O ts=O dn->∀n,D0 (vT dn ts) n=bN dn n
 |[],[],_,_=>rfl
 |d::dn,x::xs,h,n=>VK dn xs γ (n*(d+1))
 |[],_::_,h,_=>by grind
 |_::_,[],h,_=>by grind
theorem abJ:∀dn ts,O ts=O dn->∀d t,vT (dn++[d]) (ts++[t])=vT dn ts++[(d,fun v=>dc t v d 0)]
 |[],[],_,_,_=>rfl
 |d::dn,x::xs,h,d',t'=>by
  show _::vT (dn++[d']) (xs++[t'])=_::(vT dn xs++_);rw[abJ dn xs (by simpa using h)]
 |[],_::_,h,_,_=>by grind
 |_::_,[],h,_,_=>by grind
theorem abK:∀a b n,bN (a++b) n=bN b (bN a n)
 |[],_,_=>rfl
 |d::a,b,n=>abK a b (n*(d+1))
def anC{dn1 dn2}{n N}{xs2 ts1}(h1:O ts1=O dn1)(h2:O xs2=O dn2)(hN:N=bN (dn1++n::dn2) 1){x t lo w}(hx:x=lo+w*t)(g):
  ko (vT dn1 ts1++(n,fun v=>pl x v 0 (n+1))::tZ dn2 xs2) 1 0 g=
   ko (vT dn1 ts1++(n,fun v=>dc t v n 0)::tZ dn2 xs2) 1 0 (ps (fun f=>TD n (fun j=>f+j*bN dn1 1)) (bN dn1 1) n N 0 (ps (fun f=>TC lo w n (fun j=>f+j*bN dn1 1)) (bN dn1 1) n N 0 g)):=by
 have hs:=rH dn1 1 δ;have ht1:=VK dn1 ts1 h1 1;have ht2:=RB dn2 xs2 h2;rw[abK]at hN;have hN:N=bN dn2 (bN dn1 1*(n+1)):=hN;generalize bN dn1 1=s at*
 have hi:∀f a b,f+a*s=f+b*s↔a=b:=fun f a b=>⟨fun h=>Nat.eq_of_mul_eq_mul_right ω (Nat.add_left_cancel h),fun h=>by rw[h]⟩;have c1:ui (n+1) fun v=>pl x v 0 (n+1):=NL _ _ σ;have c2:ui (n+1) fun v=>pl t v 0 (n+1):=NL _ _ σ;have c3:ui (n+1) fun v=>dc t v n 0:=TH _ _ σ;have key:∀L L' op g,ui (n+1) L->ui (n+1) L'->(∀f g,(∀a,(∀m,m<=n->a≠f+m*s)->op f g a=g a)/\L (fun m=>g (f+m*s))=L' (fun m=>op f g (f+m*s)))->
   ko (vT dn1 ts1++(n,L)::tZ dn2 xs2) 1 0 g=ko (vT dn1 ts1++(n,L')::tZ dn2 xs2) 1 0 (ps op s n N 0 g):=fun L L' op g hL hL' hop=>by
  refine abx hL hL' (OZ dn2 xs2) (vT dn1 ts1) (akv dn1 ts1) 1 0 δ fun i0 q hi0 hq=>?_;rw[ht1]at hi0 hq⊢;refine(av2 ω hL hL' hop N 0 g).2 _ (aE9 _) ?_ ?_
  ·grind
  ·have e:i0+q*(s*(n+1))=i0+q*(n+1)*s:=γ
   rw[e,Nat.add_mul_div_right _ _ ω,Nat.div_eq_of_lt hi0,aES,Nat.mul_mod_left]
 rw[key _ _ (fun f=>TC lo w n (fun j=>f+j*s)) g c1 c2 fun f g=>ato hx (hi f) n g];exact key _ _ (fun f=>TD n (fun j=>f+j*s)) _ c2 c3 fun f g=>atp (hi f) n g
theorem akw{dn}{xs}(hx:O xs=O dn):∀A E g,O A=O E->(∀es∈E,TJ dn es)->E.Nodup->(∀es∈E,g (pos dn es 1)=0)->(∀ (i:Nat) t es,A[i]?=some t->E[i]?=some es->t.exps=dI es)->
  ko (tZ dn xs) 1 0 (gT dn A E g)=ko (tZ dn xs) 1 0 g+fv xs A
 |[],[],g,_,_,_,_,_=>by
  show _=_+0;rw[Rat.add_zero];rfl
 |t::A,es::E,g,hA,hle,hnd,h0,hE=>by
  obtain⟨hn1,hn2⟩:=List.nodup_cons.1 hnd;have hes:=hE 0 t es Z Z;have hxn:Km t.exps=es:=by
   rw[hes];unfold Km dI;rw[List.map_map];exact(aFn (g:=fun c=>c) fun x _=>by simp).trans (aFH _)
  show ko (tZ dn xs) 1 0 (gT dn A E (gs g (pos dn es 1) (qv t.c)))=_;rw[akw hx A E _ γ (fun e he=>hle e γ) hn2 (fun e he=>by
   unfold gs;rw[av fun hq=>?_]
   ·grind
   ·have:=(aeH dn e es (hle e γ) (hle es σ) 1 0 0 δ δ ω).2;grind) fun i u e h1 h2=>hE (i+1) u e h1 h2]
  rw[atq (OZ dn xs),h0 es σ];have hm:=aeG dn es xs (hle es σ) hx 1 0 0 δ δ;grind[qv,P8,Km,fv]
 |[],_::_,_,h,_,_,_,_=>by grind
 |_::_,[],_,h,_,_,_,_=>by grind
theorem anD{ls}(ok:TI ls)(s i):ko ls s i (fun _=>0)=0:=by
 have:=VF (a:=0) (c:=0) (g:=fun _=>0) (h:=fun _=>0) ls ok s i;grind
def atA{lo hi}{g}{dn}{ts}(hl:O ts=O dn)(ht:∀t∈ts,0<=t/\t<=1)(h:∀k,k<bN dn 1->lo<=g k/\g k<=hi):lo<=ko (vT dn ts) 1 0 g/\ko (vT dn ts) 1 0 g<=hi:=by
 refine aeF (vT dn ts) ?_ 1 0 fun q hq=>?_
 ·have:∀dn ts,(∀t∈ts,0<=t/\t<=1)->∀p∈vT dn ts,∀v,(∀j,j<=p.1->lo<=v j/\v j<=hi)->lo<=p.2 v/\p.2 v<=hi:=by
   intro dn;induction dn with
   |nil=>grind[vT]
   |cons d dn ih=>
    intro ts ht p hp v hv;cases ts with
    |nil=>grind[vT]
    |cons t ts=>
     rcases List.mem_cons.1 hp with rfl|hp
     all_goals grind[abw]
  exact this dn ts ht
 grind[VK]
theorem abL{l}(h:∀e∈l,0<=e):l=dI (Km l):=by
 grind[dI,Km,List.map_map,aFn,Int.toNat_of_nonneg,aFH]
def NS(l:List Rt):List (List Nat):=l.map fun t=>Km t.exps
theorem anE{v}{l}(c:Cl v l):(NS l).Nodup:=by
 have h1:=c.s.imp fun h=>(WS h).symm;unfold NS;rw[List.nodup_iff_pairwise_ne,List.pairwise_map];refine List.Pairwise.imp_of_mem (fun{a b} ha hb h he=>h ?_) h1;rw[abL fun e hx=>((c.t a ha).b e hx).1,abL fun e hx=>((c.t b hb).b e hx).1,he]
theorem aoW{v:Nat}{l}(c:Cl v l)(i:Nat)(t)(es)(h1:l[i]?=some t)(h2:(NS l)[i]?=some es):Nt v t es/\vd t.c=true/\Ok0 t.c:=by
 have hm:=c.t t (aE6 h1);unfold NS at h2;rw[aFw,h1]at h2;have h2:=Option.some.inj h2;subst h2;refine⟨⟨abL fun e hx=>(hm.b e hx).1,?_,fun e he=>?_⟩,hm.vc,hm.c⟩
 ·have:=hm.len;grind[Km,aFh]
 ·obtain⟨z,hz,rfl⟩:=List.mem_map.1 he;have:=hm.b z hz;omega
def qo(o:Option Rd):Rat:=qv (o.getD aC)
def VL{x}:∀l o0 o1,(∀t∈l,t.exps=[0]/\o0=none\/t.exps=[1]/\o1=none)->l.Pairwise (fun a b=>a.exps≠b.exps)->∃p0 p1,EE l [o0,o1]=[p0,p1]/\qo p0+qo p1*x=qo o0+qo o1*x+fv [x] l
 |[],o0,o1,_,_=>⟨o0,o1,rfl,by show _=_+0;grind⟩
 |t::l,o0,o1,h,hp=>by
  obtain⟨p1,p2⟩:=List.pairwise_cons.1 hp;have q0:qo none=0:=NJ;unfold EE;rcases h t σ with⟨he,rfl⟩| ⟨he,rfl⟩
  ·have hs:[none,o1].set (A7 1 t.exps 0+1).toNat (some t.c)=[some t.c,o1]:=by rw[he];rfl
   rw[hs];obtain⟨a,b,e1,e2⟩:=VL (x:=x) l (some t.c) o1 (fun u hu=>by
    grind) p2
   refine⟨a,b,e1,?_⟩;rw[e2];show qv t.c+_+_=_+(qv t.c*P8 [x] (Km t.exps)+fv [x] l);rw[he,q0];show _=_+(qv t.c*(x^0*1)+_);grind
  ·have hs:[o0,none].set (A7 1 t.exps 0+1).toNat (some t.c)=[o0,some t.c]:=by rw[he];rfl
   rw[hs];obtain⟨a,b,e1,e2⟩:=VL (x:=x) l o0 (some t.c) (fun u hu=>by
    grind) p2
   refine⟨a,b,e1,?_⟩;rw[e2];show _+qv t.c*x+_=_+(qv t.c*P8 [x] (Km t.exps)+fv [x] l);rw[he,q0];show _=_+(qv t.c*(x^1*1)+_);grind
def akx{a}(oa:OkP a)(hl:I1 a=true)(h1:a.vars=1)(x):∃c m,Lv a=[c,m]/\fv [x] a.terms=qv c+qv m*x:=by
 obtain⟨hv,hd⟩:=ap5 hl;obtain⟨cl,_⟩:=gw oa hv;obtain⟨p0,p1,e1,e2⟩:=VL (x:=x) a.terms none none (fun t ht=>by
  obtain⟨s1,s2,s3,s4,s5⟩:=OJ hv ht;obtain⟨e,he⟩:=ap6 (s2.trans h1);have h3:=s1.2 e γ;grind[cp]) (cl.s.imp fun h=>(WS h).symm)
 refine⟨p0.getD aC,p1.getD aC,?_,?_⟩
 ·simp_all[Lv,odV,EE]
 grind[qo,NJ,p0]
def anF{c m}{b}{x}{p}(vc:vd c=true/\Ok0 c)(vm:vd m=true/\Ok0 m)(hp:bv p=true)(hb:In x b)(hk:kI b=true):In (qv c+qv m*x) (Lw c m b p):=by
 rcases hb.k with⟨rfl,h1⟩| ⟨_,x1,x2⟩
 ·grind
 have hq:∀ {y},(dX m y).2=0->qv (dX m y).1=qv m*qv y:=fun{y} h=>by
  have h1:=ap4 h;have h2:=(TF (z:=zI m*zI y) (r:=zI (dX m y).1) 16384).1 (Int.le_of_eq h1.symm);have h3:=(TF (z:=zI m*zI y) (r:=zI (dX m y).1) 16384).2 (Int.le_of_eq h1);unfold qv EQ;grind
 unfold Lw aho;split
 ·next h=>
  have v1:=OK m (WL m b);have v2:=OK m (WM m b);have ok:∀ {a b} {up},vd (dh a b p up).1=true/\Ok0 (dh a b p up).1:=fun{a b up}=>by
   grind[dh,xw,aO]
  have hm:qv m*qv (WL m b)<=qv m*x/\qv m*x<=qv m*qv (WM m b):=by
   unfold WL WM;by_cases hs:kl m<0
   ·have h0:=(LD vm.1).2.1 hs;have a:=Rat.mul_le_mul_of_nonneg_left x1 (show 0≤-qv m by grind);have b:=Rat.mul_le_mul_of_nonneg_left x2 (show 0≤-qv m by grind);grind
   ·have h0:=Rat.not_lt.1 fun h=>hs ((LD vm.1).2.2 h);grind[Rat.mul_le_mul_of_nonneg_left]
  refine YD ok ok (fun h=>?_) (fun h=>?_)
  all_goals grind[abv]
 ·exact Or.inl rfl
def Bn:List Ri->List Rat->List Rat->Prop
 |b::dom,x::xs,t::ts=>x=qv b.lo+(qv b.hi-qv b.lo)*t/\0<=t/\t<=1/\Bn dom xs ts
 |[],[],[]=>True
 |_,_,_=>False
theorem Bn.len:∀ {dom} {xs ts},Bn dom xs ts->O xs=O dom/\O ts=O dom
 |_::_,_::_,_::_,h=>by
  obtain⟨a,b⟩:=Bn.len h.2.2.2;grind
 |[],[],[],_=>⟨rfl,rfl⟩
 |[],_::_,_,h=>h.elim
 |[],[],_::_,h=>h.elim
 |_::_,[],_,h=>h.elim
 |_::_,_::_,[],h=>h.elim
def Bn.get:∀ {dom} {xs ts},Bn dom xs ts->∀ {i:Nat} {b},dom[i]?=some b->∃x t,xs[i]?=some x/\ts[i]?=some t/\x=qv b.lo+(qv b.hi-qv b.lo)*t
 |b::_,x::_,t::_,h,0,b',hb=>by
  have:b=b':=γ
  subst this;exact⟨x,t,rfl,rfl,h.1⟩
 |_::_,_::_,_::_,h,i+1,b,hb=>Bn.get h.2.2.2 (i:=i) γ
 |[],_,_,_,_,_,hb=>by grind
 |_::_,[],_,h,_,_,_=>h.elim
 |_::_,_::_,[],h,_,_,_=>h.elim
def Bn.t01:∀ {dom} {xs ts},Bn dom xs ts->∀t∈ts,0<=t/\t<=1
 |_::_,_::_,_::_,h,t,ht=>by
  rcases List.mem_cons.1 ht with rfl|ht
  ·exact⟨h.2.1,h.2.2.1⟩
  ·exact Bn.t01 h.2.2.2 t ht
 |[],[],[],_,t,ht=>by grind
 |[],_::_,_,h,_,_=>h.elim
 |[],[],_::_,h,_,_=>h.elim
 |_::_,[],_,h,_,_=>h.elim
 |_::_,_::_,[],h,_,_=>h.elim
def anG{dn}{i:Nat}(h:dn[i]?=some n):dn.take i++n::dn.drop (i+1)=dn/\dn.drop i=n::dn.drop (i+1)/\dn.take (i+1)=dn.take i++[n]:=by
 grind[List.take_append_drop,List.take_add_one]
def aqS{dom}{dn}{p}{v}(h8:v<=8)(hd:O dn=v)(hdl:O dom=v)(hb:∀d∈dn,d<=32)(hN4:bN dn 1<=400)(od:∀b∈dom,VI b){c6}(hc6:aE [6,2368] (.bx c6)=true):
  ∀ (k i:Nat),i+k=v->∀cs g,mf (bN dn 1) cs g->∀s h X,ao 0 [6,9] (aB (am R (aA false) qx) [1,6,9,56,57] [6,2368] s h)=X->s 1=.sl 7 (cT dom)->s 6=ac 6->s 9=ac 2368->s 56=I v->s 57=I i->h 6=.bx c6->h 2368=bU (dI dn) cs p->
  ∃hh cs' g',X=some (.normal,⟨upd (upd ce 9 (ac 2368)) 6 (ac 6),hh⟩)/\hh 6=.bx c6/\hh 2368=bU (dI dn) cs' p/\(∀a,a≠6->a≠2368->hh a=.dead)/\mf (bN dn 1) cs' g'/\
   ∀xs ts,Bn dom xs ts->ko (vT (dn.take i) (ts.take i)++tZ (dn.drop i) (xs.drop i)) 1 0 g=ko (vT dn ts) 1 0 g':=by
 intro k;induction k with
 |zero=>
  intro i hi cs g he s h X hX g1 g6 g9 g56 g57 k6 k2368;subst hX;have e1:=aP (i< (v:Int));have hg:=(cU (dI dn) cs p).cl [6,2368];rw[ai];refine⟨?hh0,cs,g,?_,?_,?_,?_,he,fun xs ts hp=>?_⟩;rotate_left
  ·simp only[qx,go_sem,g1,g6,g9,g56,g57,k6,k2368,hc6,hg,e1];rfl
  ·rfl
  ·rfl
  ·simp_all[cz,if_false]
  ·obtain⟨l1,l2⟩:=hp.len;rw[aFi ω,aFi ω,aFq ω];show ko (vT dn ts++[]) 1 0 g=_;grind
 |succ k ih=>
  intro i hi cs g he s h X hX g1 g6 g9 g56 g57 k6 k2368;subst hX;have hlt:=ω
  have e1:=aa (i< (v:Int));obtain⟨b,hb0⟩:∃b,dom[i]?=some b:=⟨_,aE1 ω⟩;obtain⟨n,hn⟩:∃n,dn[i]?=some n:=⟨_,aE1 ω⟩;have e2:=OE rfl hb0;have e5:aG (i+1)=(i+1:Nat):=wi;have vb:=od b (aE6 hb0);have hg:=(cU (dI dn) cs p).cl [6,2368];obtain⟨cs1,hR1,he1⟩:=aqM (p:=p) vb.1 vb.2 hn ω hb hN4 he;obtain⟨cs2,hR2,he2⟩:=aqL (p:=p) hn ω hb hN4 he1;have hu:=fun(h:aj) d (hh:h 2368=bU (dI dn) cs p) (hd:h (2000+8*d)=.dead)=>dQ (jQ.1.2.1 false) (by rfl) (Lz (jQ.1.2.1 false) (jQ.1.2.2.2 false) (zas:=[I i,ae b]) (as':=[I i,ae b]) (by rw[jQ.1.1];simp only[ae,ah,go_sem]) Z Z hh (cU _ _ _) (cU _ _ _) (fun _=>rfl) hR1 am4 (d:=d) δ rfl);have hbn:=fun(h:aj) d (hh:h 2368=bU (dI dn) cs1 p) (hd:h (2000+8*d)=.dead)=>dQ (fX.1.2.1 false) (by rfl) (Lz (fX.1.2.1 false) (fX.1.2.2.2 false) (zas:=[I i]) (as':=[I i]) (by rw[fX.1.1];rfl) Z Z hh (cU _ _ _) (cU _ _ _) (fun _=>rfl) hR2 am4 (d:=d) δ rfl);have ih':=ih (i+1) ω _ _ he2;rw[ai];generalize aB _ _ _=L at ih'⊢;simp only[ae,ah]at e2 hu;simp only[qx,go_sem,g1,g6,g9,g56,g57,k6,k2368,hc6,hg,e1,e2];rw[hu _ _ Z Z];simp only[go_sem];rw[hbn _ _ Z Z];simp only[go_sem,e5];generalize hX:ao 0 _ _=X;obtain⟨hh,cs',g',q1,q2,q3,q4,q5,q6⟩:=ih' _ _ _ hX Z Z Z Z Z Z Z;refine⟨hh,cs',g',q1,q2,q3,q4,q5,fun xs ts hp=>?_⟩;obtain⟨l1,l2⟩:=hp.len;obtain⟨x,t,hx,ht,hxt⟩:=hp.get hb0;rw[←q6 xs ts hp];obtain⟨d1,d2,d3⟩:=anG hn;have hxd:xs.drop i=x::xs.drop (i+1):=by
   grind[aFe]
  have htd:ts.take (i+1)=ts.take i++[t]:=by
   grind[List.take_add_one]
  rw[d2,d3,hxd,htd,abJ _ _ γ,aFO];exact anC γ γ (by rw[d1]) hxt g
def aqT{ds}{p}{N}(hN:N<=400){cs}{g}(he:mf N cs g){c6}(hc6:aE [6,12,2368] (.bx c6)=true):∀k i,i+k=N->∀out,OkI out->(∀j,j<i->In (g j) out)->(∃q,In q out)->∀s h X,ao 2 [6,12] (aB (am R (aA false) qw) [6,12,80,81,82] [6,12,2368] s h)=X->
  s 6=ac 6->s 12=ac 12->s 80=.rsl 2368 (some 1) 7 0 N->s 81=I N->s 82=I i->h 6=.bx c6->h 12=jG out->h 2368=bU ds cs p->
  ∃hh out',X=some (.normal,⟨upd (upd ce 12 (ac 12)) 6 (ac 6),hh⟩)/\hh 6=.bx c6/\hh 12=jG out'/\OkI out'/\(∀j,j<N->In (g j) out'):=by
 intro k;induction k with
 |zero=>
  intro i hi out oo ho hq s h X hX g6 g12 g80 g81 g82 k6 k12 k2368;subst hX;have e1:=aP (i< (N:Int));have hg:=(cU ds cs p).cl [6,12,2368];have hoc:=(iV out).cl [6,12,2368];rw[ai];refine⟨?hh0,out,?_,?_,?_,oo,fun j hj=>ho j ω⟩;rotate_left
  ·simp only[qw,go_sem,g6,g12,g80,g81,g82,k6,k12,k2368,hc6,hg,hoc,e1];rfl
  ·rfl
  ·rfl
 |succ k ih=>
  intro i hi out oo ho hq s h X hX g6 g12 g80 g81 g82 k6 k12 k2368;subst hX;have e1:=aa (i< (N:Int));have e5:aG (i+1)=(i+1:Nat):=wi;obtain⟨x,x1,x2⟩:=he.get (k:=i) ω;have q1:(cT cs)[i]?=some (ah x):=by grind[cT]
  have i1:=aa (0<=(i:Int));have hg:=(cU ds cs p).cl [6,12,2368];have hoc:=(iV out).cl [6,12,2368];have ch:=abr oo x2.ok;have ih':=ih (i+1) ω (GL out x) (by
   obtain⟨q,hq⟩:=hq;exact(LC hq x2).1.ok) (fun j hj=>by
   obtain⟨q,hq⟩:=hq;by_cases hji:j=i
   ·subst hji;exact(LC hq x2).2
   ·exact(LC (ho j ω) x2).1) ⟨_,(LC hq.choose_spec x2).1⟩
  rw[ai];simp only[ae,ah]at ch;simp only[ah]at q1;simp only[bU]at k2368 hg;simp only[jG]at k12 hoc;simp only[qw,go_sem,g6,g12,g80,g81,g82,k6,k12,k2368,hc6,hg,hoc,e1,i1,CF,G4,aEY,aES,q1,ch,e5];apply ih'<;>rfl
def BrG(a:Rp)(dom:List Ri)(p:Int)(b:Ri):Prop:=(∀xs ts,Bn dom xs ts->In (fv xs a.terms) b)/\((rT a dom&&bv p)=false->b=bt)
def Bn.inL:∀ {dom} {xs ts},(∀b∈dom,kI b=true/\VI b)->Bn dom xs ts->InL xs dom
 |b::_,x::_,t::_,hk,h=>by
  obtain⟨h1,h2,h3,h4⟩:=h;obtain⟨k1,k2⟩:=hk b σ;refine⟨Or.inr ⟨?_,k2,?_⟩,Bn.inL (fun b hb=>hk b γ) h4⟩
  ·unfold kI at k1;grind
  ·have hle:qv b.lo<=qv b.hi:=by
    rw[Fc];unfold kI vi at k1;grind
   have a:=Rat.mul_nonneg (show 0<=qv b.hi-qv b.lo by grind) h2;have b:=Rat.mul_nonneg (show 0<=qv b.hi-qv b.lo by grind) (show 0<=1-t by grind);grind
 |[],[],[],_,_=>trivial
 |[],_::_,_,_,h=>h.elim
 |[],[],_::_,_,h=>h.elim
 |_::_,[],_,_,h=>h.elim
 |_::_,_::_,[],_,h=>h.elim
def abM{a}{dom}(od:∀x∈dom,OkI x)(hd:rT a dom=true):vp a=true/\O dom=a.vars/\∀b∈dom,kI b=true/\VI b:=by
 unfold rT at hd;simp only[aEV,decide_eq_true_eq,aFS,List.any_eq_false]at hd;refine⟨hd.1,hd.2.1,fun b hb=>?_⟩;have h1:kI b=true:=by
  grind
 have h2:=h1;unfold kI vi at h2;cases ha:b.all with
 |true=>grind
 |false=>
  rw[ha]at h2;simp at h2;have:=od b hb;exact⟨h1,⟨h2.1,this.lo⟩,⟨h2.2.1,this.hi⟩⟩
def abN{a}{dom}(oa:OkP a)(od:∀x∈dom,OkI x)(h2:O dom<=100000){p}:∃b,R 197 [bj a,.sl 7 (cT dom),I p] []=some (ae b,[])/\BrG a dom p b:=by
 have hf:=OG oa od h2 (p:=p);have hw:=Lu;cases hq:(rT a dom&&bv p)with
 |false=>
  rw[hq]at hf;refine⟨bt,?_,fun _ _ _=>Or.inl rfl,fun _=>rfl⟩;refine au mD ?_;simp only[bj,ae,ah,bt,aC]at hf hw;simp only[jd,mu,bj,ae,ah,bt,aC,go_sem,hf,hw]
 |true=>
  rw[hq]at hf;have hdp:=hq;rw[aEV]at hdp;obtain⟨hd,hp⟩:=hdp;obtain⟨hv,hl,hk⟩:=abM od hd;obtain⟨cl,v0,v8,h5⟩:=gw oa hv;have nf:(rT a dom&&bv p)=false->∀b,b=bt:=fun h=>by grind
  by_cases hlin:I1 a=true/\a.vars=1
  ·obtain⟨x,rfl⟩:∃x,dom=[x]:=List.length_eq_one_iff.1 ω;obtain⟨c,m,e1,_⟩:=akx oa hlin.1 hlin.2 0;have hx:=hk x σ;obtain⟨k1,_⟩:=aed oa hv;rw[e1]at k1;refine⟨Lw c m x p,amZ oa od ω hlin.1 hlin.2 e1 rfl,fun xs ts hpt=>?_,fun h=>nf h _⟩;obtain⟨l1,l2⟩:=hpt.len;obtain⟨y,rfl⟩:∃y,xs=[y]:=List.length_eq_one_iff.1 l1;have hin:=Bn.inL (fun b hb=>hk b hb) hpt;obtain⟨c',m',e3,e2⟩:=akx oa hlin.1 hlin.2 y;rw[e1]at e3;injection e3 with g1 g2
   injection g2 with g2
   subst g1;subst g2;rw[e2];exact anF (k1 c σ) (k1 m σ) hp hin.1 hx.1
  ·obtain⟨v,hvv⟩:=aFy v0;have hL:=WK oa;obtain⟨r,hg,hgp⟩:=aku (v:=v) (p:=p) ω (A:=a.terms) (E:=NS a.terms) (by simp[NS]) h5 (fun i t es h1 h2=>aoW (hvv▸cl) i t es h1 h2);have hcc:∃L b,aa3 a=.tup [FF L,B b]/\(b=true->¬a.vars=1):=by
    grind[aa3,absurd]
   obtain⟨L,bl,e1,e2⟩:=hcc;rw[e1]at hL;have hVI:=fun b hb=>(hk b hb).2;rcases hgp with rfl| ⟨dn,cs,rfl,d1,d2,d3,d4,he⟩
   ·refine⟨bt,?_,fun _ _ _=>Or.inl rfl,fun _=>rfl⟩;refine au mD ?_;rw[←hvv]at hg;simp only[bj,ae,ah,bt,aC,FF]at hf hw hL;cases bl with
    |true=>
     have e3:=eq_false (e2 rfl);simp only[jd,mu,bj,ae,ah,bt,aC,go_sem,hf,hw,hL,e3,hg]
    |false=>
     simp only[jd,mu,bj,ae,ah,bt,aC,go_sem,hf,hw,hL,hg]
   ·have hdl:O dom=v:=ω
    have hbg:=aqS (p:=p) (c6:=[B false,.emp,I 0,B false,.emp,I 0,B false]) ω d1 hdl d2 d4 hVI rfl v 0 (aES _) cs _ he;rw[←hvv]at hg;have hval:∀xs,O xs=O dn->ko (tZ dn xs) 1 0 (gT dn a.terms (NS a.terms) fun _=>0)=fv xs a.terms:=fun xs hx=>by
     rw[akw hx a.terms (NS a.terms) (fun _=>0) (by simp[NS]) d3 (anE cl) (fun _ _=>rfl) fun i t es h1 h2=>(aoW (hvv▸cl) i t es h1 h2).1.1,anD (OZ dn xs),Rat.zero_add]
    have hfin:∀b g',(∀xs ts,Bn dom xs ts->ko (vT (dn.take 0) (ts.take 0)++tZ (dn.drop 0) (xs.drop 0)) 1 0 (gT dn a.terms (NS a.terms) fun _=>0)=ko (vT dn ts) 1 0 g')->(∀j,j<bN dn 1->In (g' j) b)->BrG a dom p b:=fun b g' h1 h2=>by
     refine⟨fun xs ts hpt=>?_,fun h=>nf h _⟩;obtain⟨l1,l2⟩:=hpt.len;have h3:=h1 xs ts hpt;have h4:ko (tZ dn xs) 1 0 (gT dn a.terms (NS a.terms) fun _=>0)=ko (vT dn ts) 1 0 g':=h3;rw[hval xs ω]at h4;rw[h4];rcases(h2 0 (rH dn 1 δ)).k with⟨hW,_⟩| ⟨hkb,_⟩
     ·exact Or.inl hW
     ·have h5:∀j,j<bN dn 1->qv b.lo<=g' j/\g' j<=qv b.hi:=fun j hj=>by
       rcases(h2 j hj).k with⟨rfl,hn⟩| ⟨_,h6⟩
       all_goals grind
      have h6:=atA ω hpt.t01 h5;refine Or.inr ⟨?_,(h2 0 (rH dn 1 δ)).vi,h6.1,h6.2⟩;grind[kI]
    have hh0:az []=fun _=>.dead:=by funext i;simp[az]
    refine O1 (r:=fun b=>(ae b,[])) mD.2.1 mD.2.2 (mD.1.2.2.2 false) rfl (aFp rfl) ?_;simp only[bj,ae,ah,FF]at hf hL;have e3:=fun h=>eq_false (e2 h);have e4:(0:Int)< (bN dn 1):=by grind[rH]
    cases bl
    all_goals
     simp only[jd,mu,bj,ae,ah,hh0,go_sem,hf,hL,e3,hg,ahB];generalize hX:ao 0 _ _=X;obtain⟨hh,cs',g',rfl,q6,q2368,qd,he',hv'⟩:=hbg _ _ _ hX Z Z Z (by rw[Kp,d1];rfl) Z Z Z;obtain⟨x,x1,x2⟩:=he'.get (k:=0) (rH dn 1 δ);have hhl:=aqT (ds:=dI dn) (p:=p) d4 he' (c6:=[B false,.emp,I 0,B false,.emp,I 0,B false]) rfl (bN dn 1) 0 (aES _) x x2.ok (fun j hj=>absurd hj (Nat.not_lt_zero j)) ⟨_,x2⟩;have q1:(cT cs')[0]?=some (ah x):=by unfold cT;rw[aFw,x1];rfl
     have i2:(0< (O cs':Int))=True:=eq_true (by rw[he'.1];exact e4);have d12:=qd 12 δ δ;have hgo:=(cU (dI dn) cs' p).cl [6,12,2368];simp only[bU]at q2368 hgo;simp only[ah]at q1;simp only[go_sem,q6,q2368,d12,i2,Int.le_refl,Int.toNat_zero,CF,G4,q1];generalize hX:ao 2 _ _=X;obtain⟨hh2,out,rfl,r6,r12,oo,hin⟩:=hhl _ _ _ hX Z Z (by rw[he'.1];rfl) (by rw[he'.1];rfl) rfl q6 rfl q2368;refine⟨out,?_,hfin out g' hv' hin⟩;simp only[jG]at r12;simp only[go_sem,r6,r12]
def H9(s:Rd):Rd×Int:=cA (fF (zI s) (-16384- (1:Nat)))
theorem VN{s}(ok:Ok0 s)(v:vd s=true):aZ s.neg (ab s.m) (s.e+-1)=fF (zI s) (-16384- (1:Nat)):=by
 obtain⟨_,h1,h2,_⟩:=dT v ok.lb;have:zI s=cG s.neg (mg s):=rfl;rw[this,←ED];grind[mg,nR]
def ahD(x:Ri)(d:Rd):Bool:=vi x&&vd d&& (x.all||decide (zI x.lo<=zI d)&&decide (zI d<=zI x.hi))
def atB{x}{d}(ox:OkI x)(od:Ok0 d):R 27 [ae x,af d] []=some (B (ahD x d),[]):=by
 refine au UF ?_;have v1:=mL ox;have v2:=eC od;have c1:=mF ox.lo od;have c2:=mF od ox.hi;unfold ahD;cases h1:vi x with
 |false=>
  rw[h1]at v1;simp only[ae,ah,af,ak]at v1 v2;simp only[lJ,ae,ah,af,ak,go_sem,v1,v2]
 |true=>
  rw[h1]at v1;cases h2:vd d with
  |false=>
   rw[h2]at v2;simp only[ae,ah,af,ak]at v1 v2;simp only[lJ,ae,ah,af,ak,go_sem,v1,v2]
  |true=>
   rw[h2]at v2;cases h3:x.all with
   |true=>
    simp only[ae,ah,af,ak,h3]at v1 v2;simp only[lJ,ae,ah,af,ak,go_sem,v1,v2,h3]
   |false=>
    have hl:vd x.lo=true/\vd x.hi=true:=by
     grind[vi]
    rw[ap ⟨hl.1,h2⟩]at c1;rw[ap ⟨h2,hl.2⟩]at c2;have e1:=@GZ (zI x.lo) (zI d);have e2:=@GZ (zI d) (zI x.hi);simp only[ae,ah,af,ak,h3]at v1 v2 c1 c2;by_cases h4:zI x.lo<=zI d
    ·simp only[lJ,ae,ah,af,ak,go_sem,v1,v2,h3,c1,c2,e1,e2,h4]
    ·simp only[lJ,ae,ah,af,ak,go_sem,v1,v2,h3,c1,e1,h4]
theorem aKO{x}{d}(h:In (qv d) x)(hd:vd d=true):ahD x d=true:=by
 unfold ahD;rw[h.v,hd];rcases h with rfl| ⟨h1,_,h3,h4⟩
 ·rfl
 grind[Fc]
def O4(a:Rp)(dom:List Ri)(p:Int)(b:Ri):Ri:=if(rT a dom&&bv p)=true then(if(tF (tD a dom p) b).2=true then(tF (tD a dom p) b).1 else bt)else bt
def RE{a}{dom}(oa:OkP a)(od:∀x∈dom,OkI x)(h2:O dom<=100000){p}{b}(ob:OkI b)(hb:(rT a dom&&bv p)=true->R 197 [bj a,.sl 7 (cT dom),I p] []=some (ae b,[])):
  R 135 [bj a,.sl 7 (cT dom),I p] []=some (ae (O4 a dom p b),[]):=by
 refine au aad ?_;have hf:=OG oa od h2 (p:=p);have hw:=Lu;have hn:=amU oa od h2 (p:=p);have on:=ajI (a:=a) (dom:=dom) (p:=p);have hm:=abt (x:=tD a dom p) (y:=b) ⟨on.1.2,on.2.2⟩ ob;unfold O4;generalize tD a dom p=n at hn hm⊢;generalize tF n b=q at hm⊢;obtain⟨m1,m2⟩:=q;cases hq:(rT a dom&&bv p)with
 |false=>
  rw[hq]at hf;simp only[bj,ae,ah,bt,aC]at hf hw;simp only[xc,bj,ae,ah,bt,aC,go_sem,hf,hw]
 |true=>
  rw[hq]at hf
  replace hb:=hb hq
  simp only[bj,ae,ah,bt,aC]at hf hw hn hb hm;cases m2 with
  |true=>
   simp only[xc,bj,ae,ah,go_sem,hf,hw,hn,hb,hm]
  |false=>
   simp only[xc,bj,ae,ah,bt,aC,go_sem,hf,hw,hn,hb,hm]
def EM(x y:Ri):Bool:=if vi x=true/\vi y=true/\x.all=false then(y.all||decide (zI y.lo<=zI x.lo)&&decide (zI x.hi<=zI y.hi))else(vi x&& (vi y&&y.all))
def aJg{x y}(ox:OkI x)(oy:OkI y):R 106 [ae x,ae y] []=some (B (EM x y),[]):=by
 refine au aH2 ?_;have v1:=aG4 ox;have v2:=aG4 oy;unfold EM;simp only[ae,ah]at v1 v2;cases h1:vi x with
 |false=>
  rw[h1]at v1;simp only[apc,ae,ah,go_sem,v1,aE0]
 |true=>
  rw[h1]at v1;cases h2:vi y with
  |false=>
   rw[h2]at v2;simp only[apc,ae,ah,go_sem,v1,v2,aE0,aEW]
  |true=>
   rw[h2]at v2;cases h3:x.all with
   |true=>
    rw[h3]at v1;rw[av σ];simp only[apc,ae,ah,go_sem,v1,v2,h3,aEW]
   |false=>
    rw[h3]at v1;have hx:vd x.lo=true/\vd x.hi=true:=by
     grind[vi]
    cases h4:y.all with
    |true=>
     rw[h4]at v2;simp only[apc,ae,ah,go_sem,v1,v2,h3,h4,Bool.true_or]
    |false=>
     rw[h4]at v2;have hy:vd y.lo=true/\vd y.hi=true:=by
      grind[vi]
     have c1:=aHH oy.lo ox.lo hy.1 hx.1;have c2:=aHH ox.hi oy.hi hx.2 hy.2;simp only[af,ak]at c1 c2;by_cases h5:zI y.lo<=zI x.lo
     ·rw[decide_eq_true h5];have e5:(gH (zI y.lo) (zI x.lo)<=0)=True:=by simp_all[GZ,eq_true]
      simp only[apc,ae,ah,go_sem,v1,v2,h3,h4,c1,c2,e5,GZ,aEW,Bool.false_or,decide_true]
     ·rw[decide_eq_false h5];have e5:(gH (zI y.lo) (zI x.lo)<=0)=False:=by simp_all[GZ,eq_false]
      simp only[apc,ae,ah,go_sem,v1,v2,h3,h4,c1,e5,aE0,Bool.false_or,decide_false]
def aky{x y}(ox:OkI x)(oy:OkI y):R 92 [ae x,ae y] []=some (B (EM x y),[]):=by
 refine au Pt ?_;have v1:=mL ox;have v2:=mL oy;unfold EM;simp only[ae,ah]at v1 v2;cases h1:vi x with
 |false=>
  rw[h1]at v1;simp only[fQ,ae,ah,go_sem,v1,aE0]
 |true=>
  rw[h1]at v1;cases h2:vi y with
  |false=>
   rw[h2]at v2;simp only[fQ,ae,ah,go_sem,v1,v2,aE0,aEW]
  |true=>
   rw[h2]at v2;cases h3:x.all with
   |true=>
    rw[h3]at v1;rw[av σ];cases h4:y.all with
    |true=>
     rw[h4]at v2;simp only[fQ,ae,ah,go_sem,v1,v2,h3,h4,aEW]
    |false=>
     rw[h4]at v2;simp only[fQ,ae,ah,go_sem,v1,v2,h3,h4,aEW]
   |false=>
    rw[h3]at v1;have hx:vd x.lo=true/\vd x.hi=true:=by
     grind[vi]
    cases h4:y.all with
    |true=>
     rw[h4]at v2;simp only[fQ,ae,ah,go_sem,v1,v2,h3,h4,Bool.true_or]
    |false=>
     rw[h4]at v2;have hy:vd y.lo=true/\vd y.hi=true:=by
      grind[vi]
     have c1:=mF oy.lo ox.lo;have c2:=mF ox.hi oy.hi;rw[ap ⟨hy.1,hx.1⟩]at c1;rw[ap ⟨hx.2,hy.2⟩]at c2;have e1:=@GZ (zI y.lo) (zI x.lo);have e2:=@GZ (zI x.hi) (zI y.hi);simp only[af,ak]at c1 c2;by_cases h5:zI y.lo<=zI x.lo
     ·simp only[fQ,ae,ah,go_sem,v1,v2,h3,h4,c1,c2,e1,e2,h5,Bool.false_or]
     ·simp only[fQ,ae,ah,go_sem,v1,v2,h3,h4,c1,e1,h5,Bool.false_or]
structure Rs where
 dom:List Ri
 ord:Int
 p:Int
structure Rm where
 P:Rp
 R:Ri
abbrev mO(s:Rs):List AV:=[.sl 7 (cT s.dom),I s.ord,I s.p]
abbrev ej(s:Rs):AV:=.agg (mO s)
abbrev uj(m:Rm):List AV:=[I m.P.vars,.sl 4 (aU m.P.terms),B m.R.lo.neg,lm m.R.lo.m,I m.R.lo.e,B m.R.hi.neg,lm m.R.hi.m,I m.R.hi.e,B m.R.all]
abbrev bB(m:Rm):AV:=.agg (uj m)
def rX:Rd:=⟨true,[1],0⟩
def yE:Ri:=⟨rX,one,false⟩
def cM:Ri:=⟨aC,aC,false⟩
def aeT:R 64 [I (-1)] []=some (af rX,[]):=by
 grind[m8,kR,aZ,rX,l7,Du,ax,vj,cO]
def G5:vd rX=true/\Ok0 rX:=⟨by decide,⟨fun x hx=>by rw[List.mem_singleton.1 hx];decide,by decide⟩⟩
def VO:OkI yE/\VI yE:=⟨⟨G5.2,gg.2⟩,⟨G5,gg⟩⟩
def Xd:R 82 [I 0] []=some (ae cM,[]):=by
 refine au Me ?_;have h1:R 64 [I 0] []=some (af aC,[]):=by grind[m8,kR,kT]
 have h2:=fY aO.2 aO.1;simp only[ae,ah,af,ak,aC]at h1 h2;simp only[zY,ae,ah,cM,aC,go_sem,h1,h2]
def atC{x y}(ox:OkI x)(oy:OkI y):R 147 [ae x,ac 1000] [.bx (ah y)]=some (B (!EM x y),[.bx (ah y)]):=by
 refine xz K8 K7 (Ay false) rfl ?_;have h:=aky ox oy;generalize EM x y=b at h⊢;simp only[ae,ah]at h;simp only[uP,ah,ae,go_sem,h];exact jY Z Z Z Z Z
def atD:Src 36 109 7 true [a9,aR,a9,a9,aR,a9,a9]:=
 ⟨aT.2.1,aT.2.2,aT.1.2.2.2 false,aT.1.2.1 false,aT.1.2.2.2 false,aT.1.1 false,
  bg.2.1,bg.2.2,bg.1.2.2.2 false⟩
def atE{l}{y}(ol:∀x∈l,OkI x)(oy:OkI y)(hl:O l<4611686018427387904):R 36 [.sl 7 (cT l),.fn 147 [] [ac 1000]] [.bx (ah y)]=some (B (l.any fun x=>!EM x y),[.bx (ah y)]):=
 OT atD (anc y) (Dx false) (Ay false) hl (ad9 l) fun x hx=>⟨ae x,ae x,rfl,rfl,rfl,by simp only[ae,ah,go_sem],atC (ol x hx) oy⟩
def fg(s:Rs):Bool:=decide (1<=O s.dom)&& (decide (O s.dom<=8)&& (decide (1<=s.ord)&& (decide (s.ord<=16)&& (bv s.p&&!(s.dom.any fun x=>!EM x yE)))))
def pB{s}(od:∀x∈s.dom,OkI x)(hl:O s.dom<4611686018427387904):R 75 [ej s] []=some (B (fg s),[]):=by
 refine au Nb ?_;have h1:=aeT;have h2:=Nw;simp only[af,ak,rX,one]at h1 h2;have hp:bv s.p=(decide (8<=s.p)&&decide (s.p<=512)):=rfl;unfold fg;rw[hp];by_cases g1:(O s.dom:Int)<1
 ·have f1:=eq_true g1;rw[decide_eq_false (p:=1<=O s.dom) ω,aE0];simp only[eX,go_sem,h1,h2,f1]
 have f1:=eq_false g1;rw[decide_eq_true (p:=1<=O s.dom) ω,aEW];by_cases g2:8< (O s.dom:Int)
 ·have f2:=eq_true g2;rw[decide_eq_false (p:=O s.dom<=8) ω,aE0];simp only[eX,go_sem,h1,h2,f1,f2]
 have f2:=eq_false g2;rw[decide_eq_true (p:=O s.dom<=8) ω,aEW];by_cases g3:s.ord<1
 ·have f3:=eq_true g3;rw[decide_eq_false (p:=1<=s.ord) ω,aE0];simp only[eX,go_sem,h1,h2,f1,f2,f3]
 have f3:=eq_false g3;rw[decide_eq_true (p:=1<=s.ord) ω,aEW];by_cases g4:16<s.ord
 ·have f4:=eq_true g4;rw[decide_eq_false (p:=s.ord<=16) ω,aE0];simp only[eX,go_sem,h1,h2,f1,f2,f3,f4]
 have f4:=eq_false g4;rw[decide_eq_true (p:=s.ord<=16) ω,aEW];by_cases g5:s.p<8
 ·have f5:=eq_true g5;rw[decide_eq_false (p:=8<=s.p) ω,aE0,aE0];simp only[eX,go_sem,h1,h2,f1,f2,f3,f4,f5]
 have f5:=eq_false g5;rw[decide_eq_true (p:=8<=s.p) ω,aEW];by_cases g6:512<s.p
 ·have f6:=eq_true g6;rw[decide_eq_false (p:=s.p<=512) ω,aE0];simp only[eX,go_sem,h1,h2,f1,f2,f3,f4,f5,f6]
 have f6:=eq_false g6;rw[decide_eq_true (p:=s.p<=512) ω,aEW];have hc:=atE od VO.1 hl;generalize(s.dom.any fun x=>!EM x yE)=b at hc⊢;have hcc:=fun h d hh (hf:h (2000+8*d)=.dead)=>B3 (f:=36) (g:=147) (h:=h) (d:=d) (id:=3) (zas:=[.sl 7 (cT s.dom)]) (as':=[.sl 7 (cT s.dom)]) (bg.1.2.1 false) (bg.1.2.2.2 false)
  (by simp only[go_sem,aFb,aE5]) Z Z hh (anc _) (anc _) (fun h=>h) hc (abj _) (aFp rfl) (by grind[bV,cV,bS])
 simp only[ah,yE,rX,one,aFb,aE5,go_sem]at hcc;simp only[eX,go_sem,h1,h2,f1,f2,f3,f4,f5,f6];rw[hcc _ _ Z Z];simp only[go_sem]
def Ia(d:Rd)(p:Int):Bool:=bv p&& (vd d&&decide ((ag (ab d.m))<=p))
def av9{d}{p}(od:Ok0 d):R 103 [af d,I p] []=some (B (Ia d p),[]):=by
 refine au agY ?_;have h1:=BU (p:=p) (l:=[d]) (fun x hx=>by grind) σ;have h2:=Ln od;have hp:bv p=(decide (8<=p)&&decide (p<=512)):=rfl;have hf:(bo p [d]=0)=(Ia d p=true\/(bv p=true/\vd d=true)):=by
  unfold bo Ia;grind
 unfold Ia at hf⊢;simp only[FF,IT,aFr,aFB,af,ak]at h1 h2;cases hv:vd d with
 |false=>
  have f1:(bo p [d]=0)=False:=γ
  simp only[Bc,af,ak,go_sem,h1,f1,aE0,aFT]
 |true=>
  rw[hv]at hf h2;cases hq:bv p with
  |false=>
   have f1:(bo p [d]=0)=False:=γ
   simp only[Bc,af,ak,go_sem,h1,f1,aE0]
  |true=>
   have f1:(bo p [d]=0)=True:=γ
   simp only[Bc,af,ak,go_sem,h1,h2,f1,aEW]
def rN(s):OC (.bx (mO s)):=⟨fun _=>rfl,rfl,fun _=>rfl,rfl⟩
def awa{t}{s}(ot:Ok0 t.c):R 102 [.agg (dE t),ac 1000] [.bx (mO s)]=some (B (!Ia t.c s.p),[.bx (mO s)]):=by
 refine xz ST SR (Fz false) rfl ?_;have h:=av9 (p:=s.p) ot;simp only[af,ak]at h;simp only[BE,dE,go_sem,h];exact jY Z Z Z Z Z
def aoX:Src 40 111 4 true [aR,a9,aR,a9]:=
 ⟨cR.2.1,cR.2.2,cR.1.2.2.2 false,cR.1.2.1 false,cR.1.2.2.2 false,cR.1.1 false,
  dj.2.1,dj.2.2,dj.1.2.2.2 false⟩
theorem ge(l):(aU l).map (fj [aR,a9,aR,a9])=aU l:=by
 refine vO fun x hx=>?_;simp only[aU,aFN]at hx;obtain⟨t,ht,rfl⟩:=hx;simp only[dE,go_sem]
structure OkS (s:Rs):Prop where
 d:∀x∈s.dom,OkI x
 n:O s.dom<4611686018427387904
structure OkM (m:Rm):Prop where
 c:∀t∈m.P.terms,Ok0 t.c
 r:OkI m.R
 n:O m.P.terms<4611686018427387904
def AC(s:Rs)(m:Rm):Bool:=fg s&& (vp m.P&& (decide (m.P.vars=O s.dom)&& (decide (nH m.P<=s.ord)&& (vi m.R&&!(m.P.terms.any fun t=>!Ia t.c s.p)))))
def abO{a}(oc:∀t∈a.terms,Ok0 t.c)(h:vp a=true):OkP a:=⟨fun t ht=>⟨oc t ht,by
 unfold vp at h;simp only[aEV,decide_eq_true_eq]at h;have:=(HX (OH _ _ h.2.2.2 t ht)).1;omega⟩⟩
def Xe{s}{m}(os:OkS s)(om:OkM m):R 31 [ej s,bB m] []=some (B (AC s m),[]):=by
 refine au XR ?_;have h1:=pB os.d os.n;have h2:=Tt om.c;have h4:=mL om.r;unfold AC;simp only[bj,ae,ah]at h2 h4;cases g1:fg s with
 |false=>
  rw[g1]at h1;simp only[kO,go_sem,h1,aE0]
 |true=>
 rw[g1]at h1;cases g2:vp m.P with
 |false=>
  rw[g2]at h2;simp only[kO,go_sem,h1,h2,aE0,aFT]
 |true=>
 rw[g2]at h2;by_cases g3:m.P.vars=O s.dom
 case neg=>
  have f3:=eq_false g3;simp only[kO,go_sem,h1,h2,f3,aE0,aFT]
 have f3:=eq_true g3;have h3:=IZ (abO om.c g2);simp only[bj]at h3;by_cases g4:s.ord<nH m.P
 case pos=>
  have f4:=eq_true g4;have f4':=aP (nH m.P<=s.ord);simp only[kO,go_sem,h1,h2,h3,f3,f4,f4',aE0,aFT]
 have f4:=eq_false g4;have f4':=aa (nH m.P<=s.ord);cases g5:vi m.R with
 |false=>
  rw[g5]at h4;simp only[kO,go_sem,h1,h2,h3,h4,f3,f4,f4',aE0,aFT]
 |true=>
 rw[g5]at h4;have hc:=OT aoX (Frow:=dE) (l:=m.P.terms) (q:=fun t=>!Ia t.c s.p) (rN s) (IQ false) (Fz false) om.n (ge _) fun t ht=>⟨.agg (dE t),.agg (dE t),rfl,rfl,rfl,by simp only[dE,go_sem],awa (om.c t ht)⟩;have hcc:=fun h d hh (hf:h (2000+8*d)=.dead)=>B3 (f:=40) (g:=102) (h:=h) (d:=d) (id:=2) (zas:=[.sl 4 (aU m.P.terms)]) (as':=[.sl 4 (aU m.P.terms)]) (dj.1.2.1 false) (dj.1.2.2.2 false)
  (by simp only[go_sem,ge,aFb,aE5]) Z Z hh (rN _) (rN _) (fun h=>h) hc (abj _) (aFp rfl) (by grind[bV,cV,bS])
 simp only[aFb,aE5,go_sem]at hcc;simp only[kO,go_sem,h1,h2,h3,h4,f3,f4,f4'];rw[hcc _ _ Z Z];simp only[go_sem]
def VI.ok'{x}(h:VI x):OkI x:=⟨h.1.2,h.2.2⟩
def O5:∀dom,Bn dom (dom.map fun b=>qv b.lo) (aER (O dom) 0)
 |[]=>trivial
 |b::dom=>⟨by grind,by decide,by decide,O5 dom⟩
def IsD(c:List AV)(q:Rd):Prop:=c=[B q.neg,lm q.m,I q.e]\/(c=zb/\q=aC)
theorem IsD.cl{c}{q}(h:IsD c q)(l):c.all (mh l)=true:=by
 rcases h with rfl| ⟨rfl,_⟩<;>rfl
def qE(a b:Rd):Rd×Int:=if(vd a&&vd b)=true then cA (fF (zI a-zI b) (-16384))else(aC,1)
theorem EN(a b):vd (qE a b).1=true/\Ok0 (qE a b).1:=by
 unfold qE;split
 ·exact xO
 ·exact⟨rfl,⟨fun x hx=>(nomatch hx),by decide⟩⟩
theorem anH{a b}(vb:vd b=true):qE a b=qC a (gW b):=by
 grind[Cx,qE,qC,Int.sub_eq_add_neg]
theorem akz{neg}{k:Nat}:zI (aZ neg M (-16384+k))=cG neg (M*2^k):=by
 by_cases h0:M=0
 ·subst h0;rw[kT,cS rfl,Nat.zero_mul];cases neg<;>rfl
 ·rw[l7 h0];obtain⟨t1,t2⟩:=Cj h0;unfold zI mg cG;rw[aJ];have hk:(-16384+k+((tz M):Int)+16384).toNat=tz M+k:=ω
  have hm:M/2^tz M*2^ (-16384+k+((tz M):Int)+16384).toNat=M*2^k:=by
   grind
  grind
def abP{neg}{p}{q}{e}(h:(Ez neg true p q e).2=0):Ez neg true p q e=(aZ neg q e,0)/\¬ (q≠0/\16384< (ag q:Nat)+e):=by
 unfold Ez at h⊢;grind
theorem aeU{neg}{p}{q q'}{e}(hq:q<=q')(h:¬ (q'≠0/\16384< ((ag q'):Int)+e)):Ez neg false p q e=(aZ neg q e,0):=by
 unfold Ez;rw[av];have h1:=Cq hq (aET _);omega
structure NearF (d lo hi:Rd) (q q' r k:Nat):Prop where
 hz:mg d=q*2^k+r
 hr:r<2^k
 hq:q'=if r=0 then q else q+1
 hlo:lo=aZ d.neg (if d.neg=true then q' else q) (-16384+(k:Int))
 hhi:hi=aZ d.neg (if d.neg=true then q else q') (-16384+(k:Int))
 hw:r≠0->∃t v:Nat,mg d=v*2^t/\t<=k/\k-t<=ag v-8/\8<=ag v/\ag v<=4096/\ag v+t<=32768
theorem aoY(d):zI d=cG d.neg (mg d):=rfl
def akA{d}(ok:Ok0 d)(v:vd d=true){p}(hp:8<=p/\p<=512)(h0:(bY d p false).2=0)(h1:(bY d p true).2=0):∃q q' r k,NearF d (bY d p false).1 (bY d p true).1 q q' r k:=by
 have hf:bo p [d]=0:=by
  simp_all[bo,aFa,aFF,aFE,if_true,ap]
 have hR:∀up,bY d p up=HS d.neg (mg d) (-16384) false p up:=fun up=>by
  simp_all[bY,ap,aoY,Tp]
 rw[hR]at h0 h1;rw[hR,hR];unfold HS Vk at h0 h1⊢;obtain⟨k,hk⟩:∃k,Nu (mg d) (-16384) p=k:=⟨_,rfl⟩;rw[hk]at h0 h1⊢;obtain⟨q',hq'⟩:∃q',q'=if mg d%2^k=0 then mg d/2^k else mg d/2^k+1:=⟨_,rfl⟩
 have hle:mg d/2^k<=q':=by
  grind
 have e1:(if((false||decide (mg d%2^k≠0))&&true)=true then mg d/2^k+1 else mg d/2^k)=q':=by
  grind
 have e2:(if((false||decide (mg d%2^k≠0))&&false)=true then mg d/2^k+1 else mg d/2^k)=mg d/2^k:=by
  grind
 have hw:mg d%2^k≠0->∃t v,mg d=v*2^t/\t<=k/\k-t<=ag v-8/\8<=ag v/\ag v<=4096/\ag v+t<=32768:=by
  intro hr;have hm:O d.m≠0:=fun h=>hr (by
   have:mg d=0:=by
    unfold mg;rw[List.length_eq_zero_iff.1 h];exact Nat.zero_mul _
   simp_all)
  obtain⟨g1,g2,g3,g4⟩:=FE v hm;obtain⟨b1,b2,b3,b4⟩:=Ew g4 (Nat.pos_iff_ne_zero.1 (fE (dN v hm)));have hb:=eB (d.e+16384).toNat (dN v hm);have hmg:mg d=ab d.m*2^ (d.e+16384).toNat:=rfl;rw[←hmg]at hb;unfold Nu at hk;have ht:(d.e+16384).toNat<=k:=Nat.le_of_not_lt fun hlt=>hr (by
   rw[hmg,show(d.e+16384).toNat=k+((d.e+16384).toNat-k)by omega,aE2,←aFj,Nat.mul_right_comm]
   simp_all)
  have hk1:k≠0:=fun h=>hr (by rw[h,Nat.pow_zero,Nat.mod_one]);refine⟨(d.e+16384).toNat,ab d.m,rfl,ht,?_,?_,b1,?_⟩<;>omega
 refine⟨mg d/2^k,q',mg d%2^k,k,?_,aFx _ (aE7 _),hq',?_,?_,hw⟩
 ·grind[aFM]
 all_goals
  cases hn:d.neg with
  |false=>
   rw[hn]at h0 h1;simp only[bne_self_eq_false,Bool.false_bne,e1,e2]at h0 h1⊢;obtain⟨k1,k2⟩:=abP h1
   first
   | (rw[aeU hle k2];rfl)
   | (rw[k1];rfl)
  |true=>
   rw[hn]at h0 h1;simp only[bne_self_eq_false,Bool.bne_false,e1,e2]at h0 h1⊢;obtain⟨k1,k2⟩:=abP h0
   first
   | (rw[aeU hle k2];rfl)
   | (rw[k1];rfl)
theorem abQ{v t k x}{n}(h1:k-t<=ag v-8)(h2:8<=ag v)(h3:ag v<=4096)(h4:ag v+t<=32768)(hx:x<=2^ (k-t)):(cA (fF (cG n (x*2^t)) (-16384))).2=0:=by
 have hb:ag x<=k-t+1:=bH.2 (aFl hx (Nat.pow_lt_pow_right δ ω));rw[←ED,nR,HR ω ω ω]
def abR(lo hi:Rd):Rd:=if O hi.m=0\/(O lo.m≠0/\lo.e<hi.e)then hi else lo
def O6(z:Int)(lo hi:Rd):Rd:=if z-zI lo<zI hi-z then lo else if zI hi-z<z-zI lo then hi else abR lo hi
def qF(d:Rd)(p:Int):Rd×Int:=if(bY d p false).2=0 then(if(bY d p true).2=0 then(O6 (zI d) (bY d p false).1 (bY d p true).1,0)else(aC,(bY d p true).2))else(aC,(bY d p false).2)
structure NearOk (d lo hi:Rd):Prop where
 below:(qE d lo).2=0
 above:(qE hi d).2=0
 tie:zI lo≠zI hi->zI d-zI lo=zI hi-zI d->O lo.m≠0->O hi.m≠0->lo.e≠hi.e
 le:zI lo<=zI d/\zI d<=zI hi
def Xf{neg}{M}{e}(h:(aZ neg M e).m.length≠0):M≠0/\(aZ neg M e).e=e+tz M:=by
 by_cases h0:M=0
 ·subst h0;exact absurd rfl h
 grind[l7]
theorem aeV{q}(h:q≠0):tz q≠tz (q+1):=by
 have hs:∀ {n},n≠0->tz n=0->n%2=1:=fun{n} h0 h1=>by
  have:=(Cj h0).2;grind
 grind[Du]
def aqU{d}(ok:Ok0 d)(v:vd d=true){p}(hp:8<=p/\p<=512)(h0:(bY d p false).2=0)(h1:(bY d p true).2=0):NearOk d (bY d p false).1 (bY d p true).1:=by
 obtain⟨q,q',r,k,Fm⟩:=akA ok v hp h0 h1;have vlo:vd (bY d p false).1=true:=by
  unfold bY;split
  ·exact xw.1
  ·rfl
 have vhi:vd (bY d p true).1=true:=by
  unfold bY;split
  ·exact xw.1
  ·rfl
 generalize(bY d p false).1=lo at*
 generalize(bY d p true).1=hi at*
 have zlo:zI lo=cG d.neg ((if d.neg=true then q' else q)*2^k):=by rw[Fm.hlo,akz]
 have zhi:zI hi=cG d.neg ((if d.neg=true then q else q')*2^k):=by rw[Fm.hhi,akz]
 have zd:=aoY d;have hz:=Fm.hz;have hr:=Fm.hr;have hq:=Fm.hq;have hs1:qE d lo=cA (fF (zI d-zI lo) (-16384)):=by
  simp_all[qE,aFI,ap]
 have hs2:qE hi d=cA (fF (zI hi-zI d) (-16384)):=by
  simp_all[qE,aFI,ap]
 by_cases r0:r=0
 ·rw[ap r0]at hq;rw[hq,ite_self,←hq]at zlo zhi;have e0:zI d=zI lo:=γ
  have e1:zI d=zI hi:=ω
  have h00:(cA (fF 0 (-16384))).2=0:=by rw[show fF 0 (-16384)=aC from kT];rfl
  refine⟨?_,?_,fun h=>absurd (e0.symm.trans e1) h,by omega⟩
  all_goals grind
 ·rw[av r0]at hq;obtain⟨t,w,w1,w2,w3,w4,w5,w6⟩:=Fm.hw r0;have hp2:2^k=2^ (k-t)*2^t:=by rw[←aE2,show k-t+t=k by omega]
  have hrr:r=(w-q*2^ (k-t))*2^t:=by
   grind[Nat.sub_mul,aFj]
  obtain⟨x,hx⟩:∃x,w-q*2^ (k-t)=x:=⟨_,rfl⟩;rw[hx]at hrr;have hxl:=by
   rw[hrr,hp2]at hr;exact Nat.lt_of_mul_lt_mul_right hr
  have f1:∀n,(cA (fF (cG n r) (-16384))).2=0:=fun n=>by
   grind[abQ,Nat.le_of_lt]
  have f2:∀n,(cA (fF (cG n (2^k-r)) (-16384))).2=0:=fun n=>by
   rw[hrr,hp2,←Nat.sub_mul];grind[abQ,Nat.sub_le]
  have hq2:q'*2^k=q*2^k+2^k:=γ
  have htie:O lo.m≠0->O hi.m≠0->lo.e≠hi.e:=by
   intro m1 m2;rw[Fm.hlo]at m1⊢;rw[Fm.hhi]at m2⊢;obtain⟨a1,a2⟩:=Xf m1;obtain⟨b1,b2⟩:=Xf m2;rw[a2,b2];cases hn:d.neg with
   |false=>
    grind[aeV]
   |true=>
    grind[aeV]
  generalize 2^k=K at*
  refine⟨?_,?_,fun _ _=>htie,?_⟩
  ·rw[hs1];cases hn:d.neg with
   |false=>
    rw[hn]at zd zlo;have:zI d-zI lo=cG false r:=by grind[wI]
    grind
   |true=>
    rw[hn]at zd zlo;simp only[if_true,yC]at zd zlo;have:zI d-zI lo=cG false (K-r):=by grind[wI]
    grind
  ·rw[hs2];cases hn:d.neg with
   |false=>
    rw[hn]at zd zhi;have:zI hi-zI d=cG false (K-r):=by grind[wI]
    grind
   |true=>
    rw[hn]at zd zhi;simp only[if_true,yC]at zd zhi;have:zI hi-zI d=cG false r:=by grind[wI]
    grind
  ·cases hn:d.neg with
   |false=>
    rw[hn]at zd zlo zhi;simp only[aFv,if_false,wI]at zd zlo zhi;omega
   |true=>
    rw[hn]at zd zlo zhi;simp only[if_true,yC]at zd zlo zhi;omega
def VP{a b}(oa:Ok0 a)(ob:Ok0 b):R 244 [af a,af b] []=some (rV (qE a b),[]):=by
 refine au aat ?_;have v1:=eC oa;have v2:=eC ob;simp only[af,ak]at v1 v2;unfold qE;cases va:vd a with
 |false=>
  rw[va]at v1;simp only[xk,rV,aC,af,ak,go_sem,v1]
 |true=>
  rw[va]at v1;cases vb:vd b with
  |false=>
   rw[vb]at v2;simp only[xk,rV,aC,af,ak,go_sem,v1,v2]
  |true=>
   rw[vb]at v2;obtain⟨z1,z2⟩:=Cx vb;have hn:R 132 [af b] []=some (af (gW b),[]):=Dz ob;have hs:=aeh oa (Cv ob) va z2;rw[z1,←Int.sub_eq_add_neg]at hs;simp only[rV,af,ak]at hn hs;simp only[xk,rV,af,ak,go_sem,v1,v2,hn,hs]
def aqV{d}{p}{up}(h:(bY d p up).2=0):vd d=true/\(8<=p/\p<=512):=by
 unfold bY at h;by_cases hf:bo p [d]=0
 ·unfold bo at hf;grind
 grind
theorem aeW{a b}(vb:vd b=true)(h:(qE a b).2=0):zI (qE a b).1=zI a-zI b:=by
 grind[anH,aee,Cx,Int.sub_eq_add_neg]
def aqW{d}(ok:Ok0 d){p}:R 243 [af d,I p] []=some (rV (qF d p),[]):=by
 refine au aas ?_;have hd:=IX ok (p:=p);have hu:=OD ok (p:=p);unfold qF;by_cases h0:(bY d p false).2=0
 ·rw[ap h0];obtain⟨v,hp⟩:=aqV h0;have vl:=Vp (d:=d) (p:=p) (up:=false);have ol:=At (d:=d) (p:=p) (up:=false);by_cases h1:(bY d p true).2=0
  ·rw[ap h1];have vh:=Vp (d:=d) (p:=p) (up:=true);have oh:=At (d:=d) (p:=p) (up:=true);have hk:=aqU ok v hp h0 h1;generalize bY d p false=lo at*
   generalize bY d p true=hi at*
   obtain⟨lo,el⟩:=lo;obtain⟨hi,eh⟩:=hi;have h0':=h0;have h1':=h1;subst h0';subst h1';have s1:=VP ok ol;have s2:=VP oh ok;have c:=mF (EN d lo).2 (EN hi d).2;rw[ap ⟨(EN d lo).1,(EN hi d).1⟩,aeW vl hk.below,aeW v hk.above]at c;show _=some (rV (O6 (zI d) lo hi,0),[]);unfold O6;generalize qE d lo=x at s1 c;generalize qE hi d=y at s2 c;simp only[rV,af,ak]at hd hu s1 s2 c;rcases uE (zI d-zI lo) (zI hi-zI d)with⟨g,e⟩| ⟨g,e⟩| ⟨g,e⟩
   ·rw[e]at c;rw[ap g];simp only[ji,rV,af,ak,go_sem,aEP,hd,hu,s1,s2,c]
   ·rw[e]at c;rw[av ω,av ω];unfold abR;by_cases m1:O hi.m=0
    ·have e1:=aa ((O hi.m:Int)=0);rw[ap (.inl m1)];simp only[ji,rV,af,ak,go_sem,aEP,hd,hu,s1,s2,c,e1]
    ·have e1:=aP ((O hi.m:Int)=0);by_cases m2:O lo.m=0
     ·have e2:=aP (0< (O lo.m:Int));rw[av ω];simp only[ji,rV,af,ak,go_sem,aEP,hd,hu,s1,s2,c,e1,e2]
     ·have e2:=aa (0< (O lo.m:Int));by_cases m3:lo.e<hi.e
      ·have e3:=eq_true m3;rw[ap (.inr ⟨m2,m3⟩)];simp only[ji,rV,af,ak,go_sem,aEP,hd,hu,s1,s2,c,e1,e2,e3]
      ·have e3:(lo.e<hi.e)=False:=eq_false m3;rw[av ω];simp only[ji,rV,af,ak,go_sem,aEP,hd,hu,s1,s2,c,e1,e2,e3]
   ·rw[e]at c;rw[av ω,ap ω];simp only[ji,rV,af,ak,go_sem,aEP,hd,hu,s1,s2,c]
  ·rw[av h1];generalize bY d p false=lo at*
   generalize bY d p true=hi at*
   have e1:(hi.2=0)=False:=eq_false h1;have e0:(lo.2=0)=True:=eq_true h0;simp only[rV,af,ak]at hd hu;simp only[ji,rV,aC,af,ak,go_sem,hd,hu,e0,e1]
 ·rw[av h0];generalize bY d p false=lo at*
  have e0:(lo.2=0)=False:=eq_false h0;simp only[rV,af,ak]at hd;simp only[ji,rV,aC,af,ak,go_sem,hd,e0]
theorem LG(d)(p):vd (qF d p).1=true/\Ok0 (qF d p).1:=by
 unfold qF;split
 ·split
  ·unfold O6 abR;grind[Vp,At]
  ·exact aO
 ·exact aO
def fW(x:List Int)(c:Rd)(l:List Rt):List Rt:=if O c.m=0 then l else⟨x,c⟩::l
def DD(p:Int):List Rt->Option (List Rt×List Rt)
 |[]=>some ([],[])
 |t::ts=>if(qF t.c p).2=0 then(if(qE t.c (qF t.c p).1).2=0 then(DD p ts).map fun q=>(fW t.exps (qF t.c p).1 q.1,fW t.exps (qE t.c (qF t.c p).1).1 q.2)else none)else none
def iI(a:Rp)(p:Int):(Rp×Rp)×Int:=if vp a=true then(if p<8\/512<p then((p0,p0),2)else match DD p a.terms with
 |none=>((p0,p0),9)
 |some q=>((⟨a.vars,q.1⟩,⟨a.vars,q.2⟩),0))else((p0,p0),1)
def tn(r:(Rp×Rp)×Int):AV:=.tup [bj r.1.1,bj r.1.2,I r.2]
def VQ(blk:Option (Ex×St))(i1 i2:Nat)(S:aM)(v':Int)(l1 l2:List Rt):Option (List Rt×List Rt)->Prop
 |some q=>H6 blk i1 i2 S v' l1 l2 q.1 q.2
 |none=>∃hh,blk=some (.ret,⟨upd (upd (upd ce 6 (I 9)) 5 (ac 5)) 4 (ac 4),hh⟩)/\hh 4=.bx [I 0,.emp]/\hh 5=.bx [I 0,.emp]
def I6{x}{c}{l r}:l++fW x c []++r=l++fW x c r:=by
 unfold fW;split
 ·rw[aE8]
 ·rw[aFO];rfl
theorem VQ.step{blk}{i1 i2}{S}{v'}{l1 l2}{x}{c d}:∀ {o},VQ blk i1 i2 S v' (l1++fW x c []) (l2++fW x d []) o->VQ blk i1 i2 S v' l1 l2 (o.map fun q=>(fW x c q.1,fW x d q.2)):=by
 intro o h;cases o with
 |none=>exact h
 |some q=>
  obtain⟨hh,c1,c2,h1,h2,h3,h4,h5,h6,h7⟩:=h;exact⟨hh,c1,c2,h1,h2,h3,h4,h5,by rwa[I6]at h6,by rwa[I6]at h7⟩
theorem VT.put{v}{t}{d}(h:VT v t)(od:Ok0 d)(vdd:vd d=true)(nd:O d.m≠0):VT v ⟨t.exps,d⟩:=⟨od,h.len,h.v8,vdd,nd,h.b,h.d⟩
def anI{v v' p}{A}(hA:Cl v A)(hn:O A<=100000){o2}(k2c:∀ids,aE ids o2=true):
  ∀k i,i+k=O A->∀c1 c2 l1 l2,oB c1 l1->oB c2 l2->Bf v l1 (A.drop i)->Bf v l2 (A.drop i)->O l1+k<=1000000->O l2+k<=1000000->∀s h,s 1=I p->s 4=ac 4->s 5=ac 5->s 7=ac 2248->s 8=ac 2272->s 36=.sl 4 (aU A)->s 37=I (O A)->s 38=I i->h 2=o2->h 4=.bx [I 0,.emp]->h 5=.bx [I 0,.emp]->h 2248=t3 v' c1 0->h 2272=t3 v' c2 0->
  VQ (ao 1 [4,5,7,8] (aB (am R (aA false) gO) [1,4,5,7,8,36,37,38] [2,4,5,2248,2272] s h)) 2248 2272 (upd (upd (upd (upd ce 8 (ac 2272)) 7 (ac 2248)) 5 (ac 5)) 4 (ac 4)) v' l1 l2 (DD p (A.drop i)):=by
 intro k;induction k with
 |zero=>
  intro i hi c1 c2 l1 l2 hc1 hc2 _ _ _ _ s h g1 g4 g5 g7 g8 g36 g37 g38 k2 k4 k5 k2248 k2272;have e1:=aP ((i:Int)< (O A:Int));have ho1:=(me (v:=v') (e:=0) hc1).cl [2,4,5,2248,2272];have ho2:=(me (v:=v') (e:=0) hc2).cl [2,4,5,2248,2272];have ho3:=k2c [2,4,5,2248,2272];rw[aFq ω,ai];refine⟨?hh0,c1,c2,?_,?_,?_,?_,?_,by grind,by grind⟩;rotate_left
  ·simp only[gO,go_sem,g1,g4,g5,g7,g8,g36,g37,g38,k2,k4,k5,k2248,k2272,ho1,ho2,ho3,e1];rfl
  ·rfl
  ·rfl
  ·rfl
  ·rfl
 |succ k ih=>
  intro i hi c1 c2 l1 l2 hc1 hc2 b1 b2 hl1 hl2 s h g1 g4 g5 g7 g8 g36 g37 g38 k2 k4 k5 k2248 k2272;have hlt:i<O A:=ω
  have e1:=aa ((i:Int)< (O A:Int));have e2:=kV rfl (aE1 hlt);have e5:aG ((i:Int)+1)=((i+1:Nat):Int):=wi;have ho1:=(me (v:=v') (e:=0) hc1).cl [2,4,5,2248,2272];have ho2:=(me (v:=v') (e:=0) hc2).cl [2,4,5,2248,2272];have ho3:=k2c [2,4,5,2248,2272];have hAd:=hA.dropN i;rw[aFe hlt]at b1 b2 hAd⊢;have ih':=ih (i+1) ω;have vt:=hAd.head;have hrow:∀q ts,DD p (q::ts)=if(qF q.c p).2=0 then(if(qE q.c (qF q.c p).1).2=0 then(DD p ts).map fun x=>(fW q.exps (qF q.c p).1 x.1,fW q.exps (qE q.c (qF q.c p).1).1 x.2)else none)else none:=fun q ts=>rfl
  rw[hrow];generalize A[i]=t at e2 vt b1 b2 hAd⊢;have hnr:=aqW vt.c (p:=p);obtain⟨vm,om⟩:=LG t.c p;rw[ai];generalize aB _ _ _=L at ih'⊢;generalize qF t.c p=m at hnr vm om⊢;obtain⟨m,em⟩:=m;have hsb:=VP vt.c om;obtain⟨vq,oq⟩:=EN t.c m;simp only at hsb vq oq;generalize qE t.c m=q at hsb vq oq⊢;obtain⟨q,eq⟩:=q;simp only[dE]at e2;simp only[rV,af,ak]at hnr hsb;by_cases hm:em=0
  ·subst hm;rw[ap rfl];by_cases hq:eq=0
   ·subst hq;rw[ap rfl];refine VQ.step ?_;simp only at vm om vq oq;by_cases zm:O m.m=0
    ·have f1:=aP (0< (O m.m:Int));have x1:l1++fW t.exps m []=l1:=by simp_all[fW,ap,aE8]
     simp only[x1];by_cases zq:O q.m=0
     ·have f2:=aP (0< (O q.m:Int));have x2:l2++fW t.exps q []=l2:=by simp_all[fW,ap,aE8]
      simp only[x2];have ih2:=ih' c1 c2 l1 l2 hc1 hc2 b1.drop b2.drop ω ω;simp only[gO,go_sem,g1,g4,g5,g7,g8,g36,g37,g38,k2,k4,k5,k2248,k2272,ho1,ho2,ho3,e1,e2,hnr,hsb,f1,f2,e5];refine ih2 _ _ ?_ ?_ ?_ ?_ ?_ ?_ ?_ ?_ ?_ ?_ ?_ ?_ ?_
      all_goals first|rfl|assumption
     ·have f2:=aa (0< (O q.m:Int));have x2:l2++fW t.exps q []=l2++[⟨t.exps,q⟩]:=by simp_all[fW,av]
      simp only[x2];obtain⟨c4,s3,s4⟩:=H5 (v':=v') b2 (vt.put oq vq zq) ω hc2;have hcall2:=fun(h:aj) (hh:h 2272=t3 v' c2 0) (d:Nat)=>dQ (aV.1.2.1 false) rfl (qK (d:=d) hh hc2 s4 s3);have ih2:=ih' c1 c4 l1 _ hc1 s4 b1.drop (b2.push hAd (vt.put oq vq zq)) ω γ;simp only[af,ak]at hcall2;simp only[gO,go_sem,g1,g4,g5,g7,g8,g36,g37,g38,k2,k4,k5,k2248,k2272,ho1,ho2,ho3,e1,e2,hnr,hsb,f1,f2];rw[hcall2 _ rfl];simp only[go_sem,e5];refine ih2 _ _ ?_ ?_ ?_ ?_ ?_ ?_ ?_ ?_ ?_ ?_ ?_ ?_ ?_
      all_goals first|rfl|assumption
    ·have f1:=aa (0< (O m.m:Int));have x1:l1++fW t.exps m []=l1++[⟨t.exps,m⟩]:=by simp_all[fW,av]
     simp only[x1];obtain⟨c3,s1,s2⟩:=H5 (v':=v') b1 (vt.put om vm zm) ω hc1;have hcall:=fun(h:aj) (hh:h 2248=t3 v' c1 0) (d:Nat)=>dQ (aV.1.2.1 false) rfl (qK (d:=d) hh hc1 s2 s1);have bp1:=b1.push hAd (vt.put om vm zm);have lp1:O (l1++[(⟨t.exps,m⟩:Rt)])+k<=1000000:=γ
     simp only[af,ak]at hcall;by_cases zq:O q.m=0
     ·have f2:=aP (0< (O q.m:Int));have x2:l2++fW t.exps q []=l2:=by simp_all[fW,ap,aE8]
      simp only[x2];have ih2:=ih' c3 c2 _ l2 s2 hc2 bp1 b2.drop lp1 ω;simp only[gO,go_sem,g1,g4,g5,g7,g8,g36,g37,g38,k2,k4,k5,k2248,k2272,ho1,ho2,ho3,e1,e2,hnr,hsb,f1];rw[hcall _ rfl];simp only[go_sem,f2,e5];refine ih2 _ _ ?_ ?_ ?_ ?_ ?_ ?_ ?_ ?_ ?_ ?_ ?_ ?_ ?_
      all_goals first|rfl|assumption
     ·have f2:=aa (0< (O q.m:Int));have x2:l2++fW t.exps q []=l2++[⟨t.exps,q⟩]:=by unfold fW;rw[av zq]
      simp only[x2];obtain⟨c4,s3,s4⟩:=H5 (v':=v') b2 (vt.put oq vq zq) ω hc2;have hcall2:=fun(h:aj) (hh:h 2272=t3 v' c2 0) (d:Nat)=>dQ (aV.1.2.1 false) rfl (qK (d:=d) hh hc2 s4 s3);have ih2:=ih' c3 c4 _ _ s2 s4 bp1 (b2.push hAd (vt.put oq vq zq)) lp1 γ;simp only[af,ak]at hcall2;simp only[gO,go_sem,g1,g4,g5,g7,g8,g36,g37,g38,k2,k4,k5,k2248,k2272,ho1,ho2,ho3,e1,e2,hnr,hsb,f1];rw[hcall _ rfl];simp only[go_sem,f2];rw[hcall2 _ rfl];simp only[go_sem,e5];refine ih2 _ _ ?_ ?_ ?_ ?_ ?_ ?_ ?_ ?_ ?_ ?_ ?_ ?_ ?_
      all_goals first|rfl|assumption
   ·rw[av hq];have f1:(eq=0)=False:=ff hq;refine⟨?hh1,?_,?_,?_⟩;rotate_left
    ·simp only[gO,go_sem,g1,g4,g5,g7,g8,g36,g37,g38,k2,k4,k5,k2248,k2272,ho1,ho2,ho3,e1,e2,hnr,hsb,f1];rfl
    ·rfl
    ·rfl
  ·rw[av hm];have f1:(em=0)=False:=ff hm;refine⟨?hh2,?_,?_,?_⟩;rotate_left
   ·simp only[gO,go_sem,g1,g4,g5,g7,g8,g36,g37,g38,k2,k4,k5,k2248,k2272,ho1,ho2,ho3,e1,e2,hnr,f1];rfl
   ·rfl
   ·rfl
def awb{v v' p}{A}(hA:Cl v A)(hn:O A<=100000){o2}(k2c:∀ids,aE ids o2=true)(s)(h)(X)(hX:ao 1 [4,5,7,8] (aB (am R (aA false) gO) [1,4,5,7,8,36,37,38] [2,4,5,2248,2272] s h)=X)
  (g1:s 1=I p) (g4:s 4=ac 4) (g5:s 5=ac 5) (g7:s 7=ac 2248) (g8:s 8=ac 2272) (g36:s 36=.sl 4 (aU A)) (g37:s 37=I (O A)) (g38:s 38=I 0) (k2:h 2=o2) (k4:h 4=.bx [I 0,.emp]) (k5:h 5=.bx [I 0,.emp]) (k2248:h 2248=t3 v' .emp 0) (k2272:h 2272=t3 v' .emp 0):
  VQ X 2248 2272 (upd (upd (upd (upd ce 8 (ac 2272)) 7 (ac 2248)) 5 (ac 5)) 4 (ac 4)) v' [] [] (DD p A):=by
 subst hX;exact anI hA hn k2c (O A) 0 (aES _) .emp .emp [] [] (.inr ⟨rfl,rfl⟩) (.inr ⟨rfl,rfl⟩) (Bf.nil _) (Bf.nil _) γ γ s h g1 g4 g5 g7 g8 g36 g37 g38 k2 k4 k5 k2248 k2272
def akB{a}{p}(oa:OkP a):R 187 [bj a,I p] []=some (tn (iI a p),[]):=by
 refine au aak ?_;have v1:=vP oa;simp only[bj]at v1;unfold iI;cases va:vp a with
 |false=>
  rw[va]at v1;simp only[sf,yY,bj,go_sem,v1];rfl
 |true=>
  rw[va]at v1;rw[ap rfl];by_cases h8:p<8
  ·have e0:=eq_true h8;simp only[sf,yY,bj,go_sem,v1,e0];rfl
  ·have e0:=eq_false h8;by_cases h9:512<p
   ·have e3:=eq_true h9;simp only[sf,yY,bj,go_sem,v1,e0,e3];rfl
   ·have e3:=eq_false h9;rw[av ω];obtain⟨ka,a0,a8,al⟩:=gw oa va;have hemp:=B1 (v:=a.vars);have hl:=awb (v:=a.vars) (v':=a.vars) (p:=p) ka ω (o2:=.bx [I a.vars,.sl 4 (aU a.terms)]) (fun _=>rfl);simp only[sf,yY,bj,go_sem,v1,e0,e3,hemp,qL];generalize hX:ao 1 _ _=X;have hM:=hl _ _ _ hX Z Z Z Z Z Z Z Z Z Z Z Z Z;cases hr:DD p a.terms with
    |none=>
     rw[hr]at hM;obtain⟨hh,rfl,q4,q5⟩:=hM;simp only[tn,p0,bj,go_sem,q4,q5];rfl
    |some q=>
     rw[hr]at hM;obtain⟨hh,c1,c2,rfl,q4,q5,q1,q2,i1,i2⟩:=hM;obtain⟨r1,r2⟩:=q;simp only[t3]at q1 q2;rcases i1 with rfl| ⟨rfl,rfl⟩
     ·rcases i2 with rfl| ⟨rfl,rfl⟩
      ·simp only[tn,bj,go_sem,aFt,aFD,q4,q5,q1,q2,zH,CD,aFr,aFB,Bk,zG]
      ·simp only[tn,bj,go_sem,aFt,aFD,q4,q5,q1,q2,zH,CD,aFr,aFB,Bk,zG,EG];rfl
     ·rcases i2 with rfl| ⟨rfl,rfl⟩
      ·simp only[tn,bj,go_sem,aFt,aFD,q4,q5,q1,q2,zH,CD,aFr,aFB,Bk,zG,EG];rfl
      ·simp only[tn,bj,go_sem,aFt,aFD,q4,q5,q1,q2,zH,CD,aFr,aFB,Bk,EG];rfl
def RF(blk:Option (Ex×St))(i1 i2:Nat)(S:aM)(v':Int)(l1 l2 r1 r2:List Rt):Prop:=
 ∃hh c1 c2,blk=some (.normal,⟨S,hh⟩)/\hh 4=.bx [I 0,.emp]/\hh 5=.bx [I 0,.emp]/\hh i1=.bx [I v',c1]/\hh i2=.bx [I v',c2]/\oB c1 (l1++r1)/\oB c2 (l2++r2)
theorem RF.p1{blk}{i1 i2}{S}{v'}{l1 l2 r1 r2}{t}(h:RF blk i1 i2 S v' (l1++[t]) l2 r1 r2):RF blk i1 i2 S v' l1 l2 (t::r1) r2:=by
 obtain⟨hh,c1,c2,h1,h2,h3,h4,h5,h6,h7⟩:=h;exact⟨hh,c1,c2,h1,h2,h3,h4,h5,by rwa[List.append_cons],h7⟩
theorem RF.p2{blk}{i1 i2}{S}{v'}{l1 l2 r1 r2}{t}(h:RF blk i1 i2 S v' l1 (l2++[t]) r1 r2):RF blk i1 i2 S v' l1 l2 r1 (t::r2):=by
 obtain⟨hh,c1,c2,h1,h2,h3,h4,h5,h6,h7⟩:=h;exact⟨hh,c1,c2,h1,h2,h3,h4,h5,h6,by rwa[List.append_cons]⟩
def anJ(blk:Option (Ex×St))(i1 i2:Nat)(S:aM)(v':Int)(l1 l2:List Rt):Option (List Rt×List Rt)->Prop
 |some q=>RF blk i1 i2 S v' l1 l2 q.1 q.2
 |none=>∃hh,blk=some (.ret,⟨upd (upd (upd ce 6 (I 9)) 5 (ac 5)) 4 (ac 4),hh⟩)/\hh 4=.bx [I 0,.emp]/\hh 5=.bx [I 0,.emp]
theorem anJ.step{blk}{i1 i2}{S}{v'}{l1 l2}{x}{c d}:∀ {o},anJ blk i1 i2 S v' (l1++fW x c []) (l2++fW x d []) o->anJ blk i1 i2 S v' l1 l2 (o.map fun q=>(fW x c q.1,fW x d q.2)):=by
 intro o h;cases o with
 |none=>exact h
 |some q=>
  obtain⟨hh,c1,c2,h1,h2,h3,h4,h5,h6,h7⟩:=h;exact⟨hh,c1,c2,h1,h2,h3,h4,h5,by rwa[I6]at h6,by rwa[I6]at h7⟩
theorem Cl.filter{v}{l}(h:Cl v l)(p):Cl v (l.filter p):=⟨fun t ht=>h.t t (List.mem_filter.1 ht).1,h.s.filter p⟩
def I7{a}{o}(oa:OkP a):(Cl (gI a o).1.vars (gI a o).1.terms/\(gI a o).1.terms.length<=100000)/\(Cl (gI a o).2.vars (gI a o).2.terms/\(gI a o).2.terms.length<=100000):=by
 unfold gI;cases va:vp a with
 |false=>
  rw[av aE3];exact⟨⟨Cl.nil _,by decide⟩,⟨Cl.nil _,by decide⟩⟩
 |true=>
  obtain⟨ka,a0,a8,al⟩:=gw oa va;exact⟨⟨ka.filter _,by grind⟩,⟨ka.filter _,by grind⟩⟩
def O7{v p}:∀ {ts} {q},Cl v ts->DD p ts=some q->(Cl v q.1/\O q.1<=O ts/\∀y∈q.1,∃t∈ts,y.exps=t.exps)/\(Cl v q.2/\O q.2<=O ts/\∀y∈q.2,∃t∈ts,y.exps=t.exps)
 |[],q,_,h=>by
  cases h;grind
 |t::ts,q,c,h=>by
  obtain⟨vt,ht,c2⟩:=c.cons;unfold DD at h;split at h
  ·split at h
   ·rw[aEU]at h;obtain⟨q2,h2,rfl⟩:=h;obtain⟨⟨k1,k2,k3⟩,⟨k4,k5,k6⟩⟩:=O7 c2 h2;have key:∀ {d} {l},vd d=true->Ok0 d->Cl v l->O l<=O ts->(∀y∈l,∃t∈ts,y.exps=t.exps)->Cl v (fW t.exps d l)/\O (fW t.exps d l)<=O (t::ts)/\∀y∈fW t.exps d l,∃q∈t::ts,y.exps=q.exps:=by
     intro d l vdd od cl hl hy;unfold fW;split
     ·refine⟨cl,by simp;omega,fun y h=>?_⟩;obtain⟨q,hq,he⟩:=hy y h;exact⟨q,by simp[hq],he⟩
     ·rename_i h0;refine⟨Cl.mk' (vt.put od vdd h0) (fun y h=>?_) cl,by simp;omega,fun y h=>?_⟩
      ·obtain⟨q,hq,he⟩:=hy y h;rw[he];exact ht q hq
      ·rcases List.mem_cons.1 h with rfl|h
       ·exact⟨t,by simp,rfl⟩
       ·obtain⟨q,hq,he⟩:=hy y h;exact⟨q,by simp[hq],he⟩
    exact⟨key (LG _ _).1 (LG _ _).2 k1 k2 k3,key (EN _ _).1 (EN _ _).2 k4 k5 k6⟩
   ·cases h
  ·cases h
def Xg{a}{p}(oa:OkP a):Res ((iI a p).1.1,(iI a p).2)/\Res ((iI a p).1.2,(iI a p).2):=by
 have h0:∀e,Res (p0,e):=fun e=>⟨Cl.nil _,aE9 _,.inr rfl⟩;unfold iI;cases va:vp a with
 |false=>
  grind
 |true=>
  rw[ap rfl];split
  ·grind
  ·obtain⟨ka,a0,a8,al⟩:=gw oa va;cases hr:DD p a.terms with
   |none=>grind
   |some q=>
    obtain⟨⟨k1,k2,_⟩,⟨k3,k4,_⟩⟩:=O7 ka hr;exact⟨⟨k1,by grind,.inl rfl⟩,⟨k3,by grind,.inl rfl⟩⟩
abbrev gh(l:List Rm):List (List AV):=l.map fun m=>uj m
def awc{s}{m}(os:OkS s)(om:OkM m):R 120 [bB m,ac 1000] [.bx (mO s)]=some (B (!AC s m),[.bx (mO s)]):=by
 refine xz SW SV (FA false) rfl ?_;have h:=Xe os om;simp only[BF,go_sem,h];exact jY Z Z Z Z Z
theorem aAh(l:List (List AV)):l.map (fj [])=l:=vO fun x _=>ZI x
def atF:Src 38 110 9 true [a9,.o 5 [],a9,aR,a9,a9,aR,a9,a9]:=
 ⟨cH.2.1,cH.2.2,cH.1.2.2.2 false,cH.1.2.1 false,cH.1.2.2.2 false,cH.1.1 false,
  cX.2.1,cX.2.2,cX.1.2.2.2 false⟩
theorem aqX(m):fj [a9,.o 5 [],a9,aR,a9,a9,aR,a9,a9] (uj m)=uj m:=by
 simp only[go_sem,aAh]
theorem nI(l):(gh l).map (fj [a9,.o 5 [],a9,aR,a9,a9,aR,a9,a9])=gh l:=by
 grind[vO,aqX]
def xI(s:Rs)(l:List Rm):Bool:=fg s&&!(l.any fun m=>!AC s m)
def EO{s}{l}(os:OkS s)(om:∀m∈l,OkM m)(hl:O l<4611686018427387904):R 52 [ej s,.sl 9 (gh l)] []=some (B (xI s l),[]):=by
 refine au XS ?_;have h1:=pB os.d os.n;unfold xI;cases g1:fg s with
 |false=>
  rw[g1]at h1;simp only[zW,go_sem,h1,aE0]
 |true=>
 rw[g1]at h1;have hc:=OT atF (Frow:=fun m=>uj m) (l:=l) (q:=fun m=>!AC s m) (rN s) (IR false) (FA false) hl (nI _) fun m hm=>⟨bB m,bB m,rfl,rfl,rfl,by simp only[go_sem,ge],awc os (om m hm)⟩;have hcc:=fun h d hh (hf:h (2000+8*d)=.dead)=>B3 (f:=38) (g:=120) (h:=h) (d:=d) (id:=2) (zas:=[.sl 9 (gh l)]) (as':=[.sl 9 (gh l)]) (cX.1.2.1 false) (cX.1.2.2.2 false)
  (by simp only[go_sem,nI,aFb,aE5]) Z Z hh (rN _) (rN _) (fun h=>h) hc (abj _) (aFp rfl) (by grind[bV,cV,bS])
 simp only[aFb,aE5,go_sem]at hcc;simp only[zW,go_sem,h1];rw[hcc _ _ Z Z];simp only[go_sem]
def cu(s:Rs):Rm:=⟨⟨O s.dom,[]⟩,bt⟩
def CG{s}:R 53 [ej s] []=some (bB (cu s),[]):=by
 refine au Z3 ?_;have h:=dW;simp only[ae,ah,bt,aC]at h;simp only[F0,cu,bt,aC,aFB,go_sem,h];rfl
noncomputable def VR (a:Rp) (dom:List Ri) (p:Int):Ri:=open Classical in if h:∃z,R 135 [bj a,.sl 7 (cT dom),I p] []=some (ae z,[])/\OkI z/\vi z=true then Classical.choose h else bt
theorem VU{a}{dom}{p}(oa:OkP a)(od:∀x∈dom,OkI x)(h2:O dom<=100000):R 135 [bj a,.sl 7 (cT dom),I p] []=some (ae (VR a dom p),[])/\OkI (VR a dom p)/\vi (VR a dom p)=true:=by
 have h:∃z,R 135 [bj a,.sl 7 (cT dom),I p] []=some (ae z,[])/\OkI z/\vi z=true:=by
  obtain⟨b,hB,hbr,hbn⟩:=abN oa od h2 (p:=p);cases hq:(rT a dom&&bv p)with
  |false=>
   have hb:=hbn hq;subst hb;refine⟨_,RE oa od h2 (p:=p) (b:=bt) gX.ok' (fun _=>hB),?_⟩;unfold O4;rw[hq];exact⟨gX.ok',rfl⟩
  |true=>
   have hq2:=hq;rw[aEV]at hq2;obtain⟨hv,hl,hk⟩:=abM od hq2.1;have i2:=hbr _ _ (O5 dom);obtain⟨m1,m2⟩:=Rx (W0 (p:=p) oa (Bn.inL hk (O5 dom))) i2;refine⟨_,RE oa od h2 (p:=p) (b:=b) i2.ok (fun _=>hB),?_⟩;unfold O4;rw[ap hq,ap m1];exact⟨m2.ok,m2.v⟩
 unfold VR;grind
noncomputable def wL (a:Rp) (dom:List Ri) (p:Int):Ri:=if O a.terms=0 then cM else VR a dom p
def xR{a}{dom}{p}(oa:OkP a)(od:∀x∈dom,OkI x)(h2:O dom<=100000):OkI (wL a dom p)/\vi (wL a dom p)=true:=by
 unfold wL;split
 ·exact⟨⟨aO.2,aO.2⟩,by have v:=aO.1;grind[cM,vi]⟩
 simp_all[VU]
def FL{a}{dom}{p}(oa:OkP a)(od:∀x∈dom,OkI x)(h2:O dom<=100000):R 60 [bj a,.sl 7 (cT dom),I p] []=some (ae (wL a dom p),[]):=by
 refine au UK ?_;have h1:=Xd;have h3:=(VU oa od h2 (p:=p)).1;unfold wL;simp only[bj,ae,ah]at h1 h3;by_cases g:O a.terms=0
 ·have f:=aa ((O a.terms:Int)=0);rw[ap g];simp only[yk,bj,ae,ah,go_sem,h1,f]
 ·have f:=aP ((O a.terms:Int)=0);rw[av g];simp only[yk,bj,ae,ah,go_sem,h3,f]
noncomputable def DE (s:Rs) (q:Rp):(Rp×Ri)×Bool:=
 if(iI (gI q s.ord).1 s.p).2=0 then((⟨O s.dom,(iI (gI q s.ord).1 s.p).1.1.terms⟩,de (wL (gI q s.ord).2 s.dom s.p) (wL (iI (gI q s.ord).1 s.p).1.2 s.dom s.p) s.p),true)
 else(((iI (gI q s.ord).1 s.p).1.1,cM),false)
def aqY{s}{q}(os:OkS s)(oq:OkP q)(h2:O s.dom<=100000):R 126 [ej s,bj q] []=some (.tup [bj (DE s q).1.1,ae (DE s q).1.2,B (DE s q).2],[]):=by
 refine au acY ?_;have h1:=akj (o:=s.ord) oq;obtain⟨⟨c1,_⟩,c2,_⟩:=I7 (o:=s.ord) oq;unfold DE;generalize gI q s.ord=sp at h1 c1 c2⊢;have h3:=akB (p:=s.p) (pX c1);obtain⟨r1,r2⟩:=Xg (p:=s.p) (pX c1);generalize iI sp.1 s.p=r at h3 r1 r2⊢;have h4:=FL (p:=s.p) (pX c2) os.d h2;have h5:=FL (p:=s.p) (pX r2.cl) os.d h2;have k4:=xR (p:=s.p) (pX c2) os.d h2;have k5:=xR (p:=s.p) (pX r2.cl) os.d h2;have h6:=xN k4.1 k5.1 (p:=s.p);simp only[ppV,tn,bj,ae,ah]at h1 h3 h4 h5 h6;by_cases g:r.2=0
 ·have f:=eq_true g;simp only[Dd,bj,ae,ah,go_sem,h1,h3,h4,h5,h6,f]
 ·have f:=eq_false g;simp only[Dd,bj,ae,ah,cM,aC,go_sem,h1,h3,f]
noncomputable def lA (s:Rs) (q:Rp) (e:Int) (r:Ri):Rm:=if e=0 then(if(DE s q).2=true then⟨(DE s q).1.1,de r (DE s q).1.2 s.p⟩else cu s)else cu s
def aqZ{s}{q}:OkI (DE s q).1.2:=by
 unfold DE;split
 ·exact kW
 ·exact⟨aO.2,aO.2⟩
def LH{s}{q}{e}{r}(os:OkS s)(oq:OkP q)(or:OkI r)(h2:O s.dom<=100000):R 55 [ej s,bj q,I e,ae r] []=some (bB (lA s q e r),[]):=by
 refine au Z4 ?_;have h1:=CG (s:=s);have h3:=aqY os oq h2;have h4:=xN or (aqZ (s:=s) (q:=q)) (p:=s.p);unfold lA;generalize DE s q=c at h3 h4⊢;simp only[bj,ae,ah]at h3 h4;by_cases g:e=0
 ·have f:=eq_true g;cases g2:c.2 with
  |true=>
   rw[g2]at h3;simp only[wV,bj,ae,ah,go_sem,h3,h4,f]
  |false=>
   rw[g2]at h3;simp only[wV,bj,ae,ah,go_sem,h1,h3,f]
 ·have f:=eq_false g;simp only[wV,bj,ae,ah,go_sem,h1,f]
def rq(w:Bool)(M d:Nat):Nat:=if w=true/\M%2^d≠0 then M/2^d+1 else M/2^d
def dR(M n j:Nat):Nat:=if ag M<=n+j then j else ag M-n
def awd(w)(M d):(w=true->M<=rq w M d*2^d)/\(w=false->rq w M d*2^d<=M):=by
 have h1:=aFM M (2^d);have h2:=aFx M (aE7 d);unfold rq;constructor
 ·grind[aFf,aFd]
 grind
def aeX{w}{M M' d}(h:M<=M'):rq w M d<=rq w M' d:=by
 have h1:=aFM M (2^d);have h3:=aFM M' (2^d);have h5:M/2^d<=M'/2^d:=Nat.div_le_div_right h;grind[rq,Nat.eq_or_lt_of_le]
def aoZ{w}{M d e}(h:M<2^ (d+e)):rq w M d<=2^e:=by
 have h1:M/2^d<2^e:=by
  rw[Nat.div_lt_iff_lt_mul (aE7 d),←aE2,Nat.add_comm];omega
 grind[rq]
def awe{w}{M d e}(h:2^ (d+e)<=M):2^e<=rq w M d:=by
 have h1:2^e<=M/2^d:=by
  rw[Nat.le_div_iff_mul_le (aE7 d),←aE2,Nat.add_comm];omega
 grind[rq]
def ao0(M n j):j<=dR M n j/\ag M<=n+dR M n j:=by
 grind[dR]
theorem anK{w}(hn:8<=n):cx M (-16384-j) false n w=tU n w (rq w M (dR M n j)) ((dR M n j)-j-16384):=by
 have hu:fV M (-16384-j) n=(dR M n j)-j-16384:=by
  grind[fV,dR]
 unfold cx;have hq:rF M (-16384-j) false ((dR M n j)-j-16384)=(M/2^dR M n j,decide (M%2^dR M n j≠0)):=by
  unfold rF;generalize dR M n j=d;by_cases h:d=0
  ·subst h;grind
  grind
 grind[qI,rq]
theorem adi{q d T}(hq:q≠0):T<ag q+d↔2^T<=q*2^d:=by
 by_cases h:d<=T
 ·rw[show T<ag q+d↔T-d<ag q by omega,mE]
  conv=>rhs;rw[show T=(T-d)+d by omega,aE2]
  simp_all[Nat.mul_le_mul_right_iff,aE7]
 ·refine⟨fun _=>?_,fun _=>by omega⟩;refine aEX (aFu δ (by omega:T<=d)) ?_;exact Nat.le_mul_of_pos_left _ ω
def atG{q n k}(h:q<=2^n)(hk:n<k):ag q<=k:=bH.2 (aFl h (Nat.pow_lt_pow_right δ hk))
def awf{w}{M n j}(hn:n<=512):ag (rq w M (dR M n j))<=4096/\(w=false->rq w M (dR M n j)<2^n):=by
 have k:=ao0 M n j;have k5:M<2^ag M:=bH.1 (aET _);have k6:M<2^ (dR M n j+n):=aFQ k5 (aFu δ ω);have h1:=aoZ (w:=w) k6;refine⟨atG h1 ω,?_⟩
 simp_all[rq,av,Nat.div_lt_iff_lt_mul,aE7,aE2,Nat.add_comm]
def VV{M j n}{w}(h0:M≠0)(hn:8<=n/\n<=512):
  (rq w M (dR M n j)*2^dR M n j<2^ (32768+j)->(cx M (-16384-j) false n w).2=0/\zI (cx M (-16384-j) false n w).1*2^j=(rq w M (dR M n j)*2^dR M n j:Nat))/\
  (2^ (32768+j)<=rq w M (dR M n j)*2^dR M n j->(w=true->(cx M (-16384-j) false n w).2≠0)/\
   (w=false->(cx M (-16384-j) false n w).2=0/\zI (cx M (-16384-j) false n w).1=((2^n-1)*2^ (32768-n):Nat))):=by
 have k:=ao0 M n j;obtain⟨b1,_⟩:=awf (w:=w) (M:=M) (j:=j) hn.2;rw[anK hn.1];have hq0:rq w M (dR M n j)=0->¬32768+j<ag (rq w M (dR M n j))+dR M n j:=fun h=>by
  rw[h,show ag 0=0 from rfl];have hM:M<2^dR M n j:=by
   unfold rq at h;split at h
   all_goals simp_all
  have h3:=bH.2 hM;unfold dR at h3⊢;grind
 generalize hd:dR M n j=d at*
 generalize rq w M d=q at*
 have ov:16384< (ag q)+((d:Int)-j-16384)↔2^ (32768+j)<=q*2^d:=by
  by_cases hq:q=0
  ·subst hq;have h5:=aE7 (32768+j);constructor<;>intro h6<;>omega
  ·rw[←adi hq];omega
 unfold tU;constructor
 ·intro h;have h1:¬16384< (ag q)+((d:Int)-j-16384):=fun hc=>by
   omega
  rw[av h1];have hc:=HR (neg:=false) (M:=q) (e:=d-j-16384) b1 ω ω;have h2:(cA (aZ false q (d-j-16384))).2=0:=by rw[hc]
  refine⟨h2,?_⟩;rw[NG ω h2,show((d:Int)-j-16384+16384).toNat=d-j by omega,show 2^j=((2^j:Nat):Int)by simp,←aF2,aFj,←aE2,show d-j+j=d by omega]
 ·intro h;have h1:=ov.2 h;rw[ap h1];constructor
  ·rintro rfl
   simp
  ·rintro rfl
   rw[av σ];have hp1:2^n-1<2^n:=by have:=aE7 n;omega
   have hb:=bH.2 hp1;have hc:=HR (neg:=false) (M:=2^n-1) (e:=16384-n) ω ω ω;have h2:(cA (aZ false (2^ ((n:Int)).toNat-1) (16384-n))).2=0:=by rw[aEY,hc]
   refine⟨h2,?_⟩;rw[NG ω h2,aEY,show(16384- (n:Int)+16384).toNat=32768-n by omega]
def akC{w}(h0:M≠0)(hn:8<=n/\n<=512)(h:(cx M (-16384-j) false n w).2=0):0<=zI (cx M (-16384-j) false n w).1:=by
 obtain⟨k,h1,_⟩:=LB (s:=0) (t:=j) h0 (p:=n) ω ω (fun h=>absurd h aE3) h;omega
theorem aeY{z f p}{up}(h:z<0):kS z f p up=iq true (cx z.natAbs f false p (!up)):=by
 unfold kS;rw[av ω,decide_eq_true h]
 simp_all
theorem O8{z f p}{up}(h:0<z):kS z f p up=cx z.natAbs f false p up:=by
 unfold kS;rw[av ω,decide_eq_false ω]
 simp_all[iq,av]
def akD{M}{f p}{w}:(iq true (cx M f false p w)).2=(cx M f false p w).2/\((cx M f false p w).2=0->zI (iq true (cx M f false p w)).1=-zI (cx M f false p w).1):=by
 unfold iq;by_cases h:(cx M f false p w).2=0
 all_goals simp_all[ap,Cx,OU,av,absurd]
theorem ahE{f p}{up}:kS 0 f p up=(aC,0):=by simp_all[kS,ap]
def Ib{a b}{p}(va:vd a=true)(vb:vd b=true)(hp:bv p=true):bo p [a,b]=0/\∃n:Nat,p=n/\8<=n/\n<=512:=by
 have hp2:8<=p/\p<=512:=by
  simp_all[bv,aEV,decide_eq_true_eq]
 refine⟨by grind[bo],p.toNat,by omega,by omega,by omega⟩
def Sb(x y:Ri):Prop:=(∃q,In q x)/\(y=bt\/x.all=false/\y.all=false/\(∃q,In q y)/\zI y.lo<=zI x.lo/\zI x.hi<=zI y.hi)
def Sb.ins{x y}(h:Sb x y):EM x y=true:=by
 obtain⟨⟨q,hx⟩,rfl| ⟨h1,h2,⟨r,hy⟩,h3,h4⟩⟩:=h
 ·unfold EM;have:=hx.v;split
  ·rfl
  ·rw[this];rfl
 ·unfold EM;rw[ap ⟨hx.v,hy.v,h1⟩];grind
def ahF{x}(h:∃q,In q x)(ha:x.all=false):kI x=true:=by
 obtain⟨q,h⟩:=h;unfold kI;rw[ha,h.v];rfl
def akE{a b}(h:lm a=lm b):a=b:=by
 unfold lm aS at h;grind[List.map_inj_right]
theorem aq0{x y}(h:ae x=ae y):x=y:=by
 unfold ae ah at h;simp only[AV.agg.injEq,List.cons.injEq,AV.v.injEq,Value.bool.injEq,Value.int.injEq,true_and,and_true]at h;obtain⟨h1,g2,h3,h4,g5,h6,h7⟩:=h;have h2:=akE g2;have h5:=akE g5;obtain⟨⟨a1,a2,a3⟩,⟨a4,a5,a6⟩,a7⟩:=x
 simp_all
def anL{a}{dom}{p}(oa:OkP a)(od:∀x∈dom,OkI x)(h2:O dom<=100000)(hd:rT a dom=true):∃b,VR a dom p=O4 a dom p b/\∀xs ts,Bn dom xs ts->In (fv xs a.terms) b:=by
 obtain⟨b,hB,hbr,_⟩:=abN oa od h2 (p:=p);have i2:=hbr _ _ (O5 dom);have h3:=RE oa od h2 (p:=p) (b:=b) i2.ok (fun _=>hB);grind[VU,aq0]
def aGp{a}{dom}{p}(oa:OkP a)(od:∀x∈dom,OkI x)(h2:O dom<=100000)(hd:rT a dom=true){xs ts}(hpt:Bn dom xs ts):In (fv xs a.terms) (wL a dom p):=by
 unfold wL;split
 ·rename_i h0;have e:=List.length_eq_zero_iff.1 h0;rw[e];have:=wK aO.1 aO.2;rwa[show qv aC=0 by unfold qv;rw[cS rfl];simp]at this
 ·obtain⟨b,hb,hbr⟩:=anL (p:=p) oa od h2 hd;obtain⟨hv,hl,hk⟩:=abM od hd;rw[hb];unfold O4;split
  ·obtain⟨m1,m2⟩:=Rx (W0 (p:=p) oa (Bn.inL hk hpt)) (hbr _ _ hpt);grind
  ·exact Or.inl rfl
def aq1{a b}(va:vd a=true)(vb:vd b=true):zI a<=zI (nS a b):=by
 unfold nS;rw[Vq va vb];rcases uE (zI a) (zI b)with⟨g,e⟩| ⟨g,e⟩| ⟨g,e⟩<;>rw[e]<;>simp<;>omega
def aq2{a b}(va:vd a=true)(vb:vd b=true):zI (lw a b)<=zI a:=by
 grind[lw,Vq,uE,zI]
theorem aq3{x y}(hx:x.all=false){q}(ix:In q x)(iy:In q y):Sb (tF x y).1 x:=by
 obtain⟨m1,m2⟩:=Rx ix iy;refine⟨⟨q,m2⟩,Or.inr ?_⟩;have key:(tF x y).1.all=false/\zI x.lo<=zI (tF x y).1.lo/\zI (tF x y).1.hi<=zI x.hi:=by
  have vx:=ix.vi;have vy:=iy.vi;unfold tF at m1⊢;rw[ix.v,iy.v,aFI,ap rfl,hx,av aE3]at m1⊢;split
  ·grind
  ·split
   ·exact⟨rfl,aq1 vx.1.1 vy.1.1,aq2 vx.2.1 vy.2.1⟩
   grind
 grind
def atH{a}{dom}{p}(oa:OkP a)(od:∀x∈dom,OkI x)(h2:O dom<=100000)(hd:rT a dom=true)(hp:bv p=true)(h0:O a.terms≠0)(hn:(tD a dom p).all=false):Sb (wL a dom p) (tD a dom p):=by
 unfold wL;obtain⟨b,hb,hbr⟩:=anL (p:=p) oa od h2 hd;obtain⟨hv,hl,hk⟩:=abM od hd;have i1:=W0 (p:=p) oa (Bn.inL hk (O5 dom));have i2:=hbr _ _ (O5 dom);rw[hb];unfold O4;rw[hd,hp,aFI,ap rfl,ap (Rx i1 i2).1];grind[aq3]
def TU{a b}(va:vd a=true)(vb:vd b=true):(jz a b<0↔zI a<zI b)/\(0<jz a b↔zI b<zI a):=by
 grind[Vq,gH]
section
variable {dn up:Rd→Rd→Rd × Int} {pr:Nat→Rd × Rd}
abbrev I8(dn:Rd->Rd->Rd×Int)(pr:Nat->Rd×Rd)(j:Nat):Rd×Int:=dn (pr j).1 (pr j).2
def TV(okd:∀a b,vd (dn a b).1=true)(oku:∀a b,vd (up a b).1=true):∀k i o,vd o.1=true->vd o.2=true->(∀j,i<=j->j<i+k->(I8 dn pr j).2=0/\(I8 up pr j).2=0)->
  ∃q,As dn up pr k i o=some q/\zI q.1<=zI o.1/\zI o.2<=zI q.2/\(∀j,i<=j->j<i+k->zI q.1<=zI (I8 dn pr j).1/\zI (I8 up pr j).1<=zI q.2)/\
   (q.1=o.1\/∃j,i<=j/\j<i+k/\q.1=(I8 dn pr j).1)/\(q.2=o.2\/∃j,i<=j/\j<i+k/\q.2=(I8 up pr j).1)
 |0,i,o,_,_,_=>⟨o,rfl,Int.le_refl _,Int.le_refl _,fun j h1 h2=>by omega,Or.inl rfl,Or.inl rfl⟩
 |k+1,i,o,v1,v2,h=>by
  have h0:=h i (aET _) ω;unfold As;rw[ap h0];have c1:=(TU (okd (pr i).1 (pr i).2) v1).1;have c2:=(TU (oku (pr i).1 (pr i).2) v2).2;have w1:=okd (pr i).1 (pr i).2;have w2:=oku (pr i).1 (pr i).2;obtain⟨q,q0,q1,q2,q3,q4,q5⟩:=TV okd oku k (i+1) (if jz (dn (pr i).1 (pr i).2).1 o.1<0 then(dn (pr i).1 (pr i).2).1 else o.1,if 0<jz (up (pr i).1 (pr i).2).1 o.2 then(up (pr i).1 (pr i).2).1 else o.2)
   γ γ fun j h1 h2=>h j ω ω
  have a1:zI q.1<=zI o.1/\zI q.1<=zI (I8 dn pr i).1:=by
   grind
  have a2:zI o.2<=zI q.2/\zI (I8 up pr i).1<=zI q.2:=by
   grind
  all_goals grind
def LI(okd:∀a b,vd (dn a b).1=true)(oku:∀a b,vd (up a b).1=true)(h:∀j,j<4->(I8 dn pr j).2=0/\(I8 up pr j).2=0):
  ∃q,uD dn up pr=some q/\(∀j,j<4->zI q.1<=zI (I8 dn pr j).1/\zI (I8 up pr j).1<=zI q.2)/\(∃j,j<4/\q.1=(I8 dn pr j).1)/\∃j,j<4/\q.2=(I8 up pr j).1:=by
 obtain⟨q,q0,q1,q2,q3,q4,q5⟩:=TV okd oku 3 1 ((dn (pr 0).1 (pr 0).2).1,(up (pr 0).1 (pr 0).2).1) (okd _ _) (oku _ _) fun j h1 h2=>h j ω;refine⟨q,?_,fun j hj=>?_,?_,?_⟩
 ·simp_all[uD,ap]
 all_goals grind
end
def ao1{x}(h:∃q,In q x)(ha:x.all=false):zI x.lo<=zI x.hi:=by
 obtain⟨q,rfl| ⟨_,_,h1,h2⟩⟩:=h
 ·cases ha
 ·exact Fc.1 (Rat.le_trans h1 h2)
def ahG{x y}(hx:VI x)(hy:VI y)(i):vd (ed x y i).1=true/\vd (ed x y i).2=true:=by
 unfold ed;split
 ·exact⟨hx.1.1,hy.1.1⟩
 ·exact⟨hx.1.1,hy.2.1⟩
 ·exact⟨hx.2.1,hy.1.1⟩
 ·exact⟨hx.2.1,hy.2.1⟩
theorem aAi{d:Rd}{up:Bool}:vd (pw d n p up).1=true:=by
 grind[pw,YE,H3]
theorem NT{d}(v:vd d=true):vd (py d)=true/\zI (py d)=(zI d).natAbs:=by
 unfold py;by_cases h:O d.m=0
 ·rw[ap (Or.inr h),cS h];exact⟨rfl,cS rfl⟩
 ·refine⟨?_,?_⟩
  ·simp_all[vd,av]
  grind[zI,mg]
def ahH{d}(v:vd d=true):(0<kl d↔0<zI d)/\(kl d<0↔zI d<0):=by
 have h0:O d.m=0->zI d=0:=cS;have hp:O d.m≠0->0<mg d:=fun h=>by
  exact Nat.mul_pos (by grind[Kd]) (aE7 _)
 unfold kl;by_cases h:O d.m=0
 ·omega
 ·grind[zI]
def ao2{x}(h:VI x)(hle:zI x.lo<=zI x.hi):vd (BW x)=true/\zI (BW x)=(if 0<zI x.lo then zI x.lo else if zI x.hi<0 then-zI x.hi else 0):=by
 obtain⟨a1,a2⟩:=NT h.1.1;obtain⟨b1,b2⟩:=NT h.2.1;obtain⟨s1,s2⟩:=ahH h.1.1;obtain⟨t1,t2⟩:=ahH h.2.1;have c:=TU a1 b1;unfold BW HT lw;by_cases k1:0<zI x.lo
 ·grind
 ·rw[av (mt s1.1 k1),av k1];by_cases k2:zI x.hi<0
  ·grind
  ·rw[av (mt t2.1 k2),ap rfl,av k2];exact⟨rfl,cS rfl⟩
def YG{x}(h:VI x):vd (qB x)=true/\zI (qB x)=(if(zI x.lo).natAbs<=(zI x.hi).natAbs then((zI x.hi).natAbs:Int)else(zI x.lo).natAbs):=by
 obtain⟨a1,a2⟩:=NT h.1.1;obtain⟨b1,b2⟩:=NT h.2.1;have c:=TU a1 b1;grind[qB,nS]
theorem atI{w}{T d}(h:d<=T):rq w (2^T) d=2^ (T-d):=by
 have e:2^T=2^ (T-d)*2^d:=by rw[←aE2];grind
 simp_all[rq,av,Nat.mul_mod_left,Nat.mul_div_cancel,aE7]
def akF{w}(h0:M≠0)(hn:8<=n/\n<=512)(hm:m<16384)(h:M<=2^ (16384+m+j)):
  (cx M (-16384-j) false n w).2=0/\0<=zI (cx M (-16384-j) false n w).1/\zI (cx M (-16384-j) false n w).1<=(2^ (16384+m):Nat):=by
 have hd:dR M n j<=16384+m+j:=by
  have:=bH.2 (aFl h (Nat.pow_lt_pow_right δ (Nat.lt_succ_self _)));unfold dR;split<;>omega
 have h1:rq w M (dR M n j)*2^dR M n j<=2^ (16384+m+j):=by
  refine aEX (aE4 _ (aeX h)) ?_;rw[atI hd,←aE2];exact aFu δ ω
 obtain⟨c1,c2⟩:=(VV (w:=w) (j:=j) h0 hn).1 (aFl h1 (Nat.pow_lt_pow_right δ ω));have c3:=akC (w:=w) (j:=j) h0 hn c1;refine⟨c1,c3,?_⟩;have h2:zI (cx M (-16384-j) false n w).1*(2^j:Nat)<=(2^ (16384+m):Nat)*(2^j:Nat):=by
  rw[←aF2,←aE2];refine Int.le_trans (Int.le_of_eq ?_) (Int.ofNat_le.2 h1);rw[←c2];simp
 exact Int.le_of_mul_le_mul_right h2 (Int.ofNat_lt.2 (aE7 j))
def abT{z}{up}(hn:8<=n/\n<=512)(hm:m<16384)(h:z.natAbs<=2^ (16384+m+j)):
  (kS z (-16384-j) n up).2=0/\(zI (kS z (-16384-j) n up).1).natAbs<=2^ (16384+m):=by
 rcases Int.lt_trichotomy z 0 with a|rfl|a
 ·rw[aeY a];obtain⟨s1,s2⟩:=akD (M:=z.natAbs) (f:=-16384-j) (p:=n) (w:=!up);obtain⟨b1,b2,b3⟩:=akF (w:=!up) (show z.natAbs≠0 by omega) hn hm h;omega
 ·simp_all[ahE,cS,aC,aE9]
 ·rw[O8 a];obtain⟨b1,b2,b3⟩:=akF (w:=up) (show z.natAbs≠0 by omega) hn hm h;omega
def Ld(m:Nat)(d:Rd):Prop:=(zI d).natAbs<=2^ (16384+m)
theorem Ld.up{m k}{d}(h:Ld m d)(hk:m<=k):Ld k d:=aEX h (aFu δ ω)
def aeZ{a b}{p}{m}{up}(va:vd a=true)(vb:vd b=true)(hp:bv p=true)(hm:m+1<16384)(ha:Ld m a)(hb:Ld m b):(dh a b p up).2=0/\Ld (m+1) (dh a b p up).1:=by
 obtain⟨f1,n,rfl,hn⟩:=Ib va vb hp;unfold dh;rw[ap f1];refine abT (j:=0) hn hm ?_;unfold Ld at ha hb;have e:2^ (16384+(m+1)+0)=2^ (16384+m)+2^ (16384+m):=by rw[aFA,←aFZ,aFJ];omega
 omega
theorem ae0{a b}{p}{m k}{up}(va:vd a=true)(vb:vd b=true)(hp:bv p=true)(hm:m+k<16384)(ha:Ld m a)(hb:Ld k b):(eJ a b p up).2=0/\Ld (m+k) (eJ a b p up).1:=by
 obtain⟨f1,n,rfl,hn⟩:=Ib va vb hp;unfold eJ;rw[ap f1];refine abT (j:=16384) hn hm ?_;rw[Int.natAbs_mul,show 16384+(m+k)+16384=(16384+m)+(16384+k)by omega,aE2];exact Nat.mul_le_mul ha hb
def aq4{a}{p}{m}{up}(va:vd a=true)(hp:bv p=true)(hm:m<16384)(ha:Ld m a):(bY a p up).2=0/\Ld m (bY a p up).1:=by
 have hp2:=pZ hp;unfold bY;rw[ap (by grind[bo])];obtain⟨n,rfl⟩:∃n:Nat,p=n:=⟨p.toNat,by omega⟩;exact abT (j:=0) ω hm ha
def akG{a}{p}{up}(va:vd a=true)(hp:bv p=true)(ha:Ld 0 a):∀k r,vd r.1=true->r.2=0->Ld 0 r.1->(qJ a p up k r).2=0/\Ld 0 (qJ a p up k r).1
 |0,r,_,h1,h2=>⟨h1,h2⟩
 |k+1,r,vr,h1,h2=>by
  unfold qJ;rw[ap h1];obtain⟨m1,m2⟩:=ae0 (up:=up) vr va hp δ h2 ha;exact akG va hp ha k _ H4.1 m1 m2
theorem awg{a}{p}{n}{up}(va:vd a=true)(hp:bv p=true)(ha:Ld 0 a):(pw a n p up).2=0/\Ld 0 (pw a n p up).1:=by
 obtain⟨m1,m2⟩:=aq4 (up:=up) va hp δ ha;exact akG va hp ha _ _ H3.1 m1 m2
def ae1{a}{p}{n}{up}(va:vd a=true)(hp:bv p=true)(ha:Ld 0 a):(vD a n p up).2=0/\Ld 0 (vD a n p up).1:=by
 grind[vD,awg,Ld,gW,g1,Int.natAbs_neg,Cx,aAi]
structure Bd (m:Nat) (x:Ri):Prop where
 i:∃q,In q x
 a:x.all=false
 l:Ld m x.lo
 h:Ld m x.hi
theorem Bd.up{m k}{x}(h:Bd m x)(hk:m<=k):Bd k x:=⟨h.i,h.a,h.l.up hk,h.h.up hk⟩
theorem Bd.v{m}{x}(h:Bd m x):VI x:=h.i.elim fun _ h=>h.vi
theorem Bd.k{m}{x}(h:Bd m x):kI x=true:=ahF h.i h.a
def aq5{x y}{p}{m}(hp:bv p=true)(hm:m+1<16384)(hx:Bd m x)(hy:Bd m y):Bd (m+1) (de x y p):=by
 obtain⟨q,ix⟩:=hx.i;obtain⟨r,iy⟩:=hy.i;have hi:=sB (p:=p) ix iy;obtain⟨a1,a2⟩:=aeZ (up:=false) ix.vi.1.1 iy.vi.1.1 hp hm hx.l hy.l;obtain⟨a3,a4⟩:=aeZ (up:=true) ix.vi.2.1 iy.vi.2.1 hp hm hx.h hy.h;have e:de x y p=⟨(dh x.lo y.lo p false).1,(dh x.hi y.hi p true).1,false⟩:=by
  unfold de kD;rw[hx.k,hy.k,hp,aFI,aFI,ap rfl,ap ⟨a1,a3⟩]
 rw[e]at hi⊢;exact⟨⟨_,hi⟩,rfl,a2,a4⟩
def ae2{x y}{p}{m k}(hp:bv p=true)(hm:m+k<16384)(hx:Bd m x)(hy:Bd k y):Bd (m+k) (bX x y p):=by
 obtain⟨q,ix⟩:=hx.i;obtain⟨r,iy⟩:=hy.i;have hi:=sC (p:=p) ix iy;have lx:∀i,Ld m (ed x y i).1:=fun i=>by unfold ed;split;exact hx.l;exact hx.l;exact hx.h;exact hx.h
 have ly:∀i,Ld k (ed x y i).2:=fun i=>by unfold ed;split;exact hy.l;exact hy.h;exact hy.l;exact hy.h
 have key:∀i up,(eJ (ed x y i).1 (ed x y i).2 p up).2=0/\Ld (m+k) (eJ (ed x y i).1 (ed x y i).2 p up).1:=fun i up=>by
  obtain⟨v1,v2⟩:=ahG ix.vi iy.vi i;grind[ae0]
 obtain⟨t,t0,_,⟨j,_,t1⟩,j',_,t2⟩:=LI (dn:=fun a b=>eJ a b p false) (up:=fun a b=>eJ a b p true) (pr:=ed x y) (fun a b=>H4.1) (fun a b=>H4.1) fun i _=>⟨(key i false).1,(key i true).1⟩;have e:bX x y p=⟨t.1,t.2,false⟩:=by
  unfold bX;rw[hx.k,hy.k,hp,aFI,aFI,ap rfl,t0];rfl
 rw[e]at hi⊢;refine⟨⟨_,hi⟩,rfl,?_,?_⟩
 all_goals grind
theorem RG{n}{k:Nat}:zI ⟨n,[1],k⟩=cG n (2^ (16384+k)):=by
 have h1:zI ⟨n,[1],k⟩=cG n (mg ⟨n,[1],k⟩):=rfl;rw[h1];unfold mg;rw[show((k:Int)+16384).toNat=16384+k by omega]
 simp_all[ab,Nat.one_mul]
theorem aq6{n}{a}:(cG n a).natAbs=a:=by
 grind[cG]
def aAj{n}{k}:Ld k ⟨n,[1],k⟩:=by
 simp_all[Ld,RG,aq6,aET]
def abU:Ld 0 one:=aAj (k:=0)
theorem VW{x}{n}{p}(hp:bv p=true)(h16:n<=16)(hx:Bd 0 x):Bd 0 (BX x n p):=by
 obtain⟨q,ix⟩:=hx.i;have hi:=EJ (n:=n) (p:=p) ix;have e0:=hx.k;unfold BX at hi⊢;rw[ap (by rw[e0,hp];simp[h16])]at hi⊢;by_cases h0:n=0
 ·rw[ap h0]at hi⊢;exact⟨⟨_,hi⟩,rfl,abU,abU⟩
 ·rw[av h0]at hi⊢;have hX:(vd (if n%2=0 then nG x else x).lo=true/\vd (if n%2=0 then nG x else x).hi=true)/\Ld 0 (if n%2=0 then nG x else x).lo/\Ld 0 (if n%2=0 then nG x else x).hi:=by
   have b1:=hx.l;have b2:=hx.h;split
   ·unfold nG;obtain⟨m1,m2⟩:=ao2 ix.vi (ao1 hx.i hx.a);obtain⟨g1,g2⟩:=YG ix.vi;grind[Ld,b2,g1,zI,BW,qB]
   ·exact⟨⟨ix.vi.1.1,ix.vi.2.1⟩,b1,b2⟩
  obtain⟨⟨v1,v2⟩,l1,l2⟩:=hX;obtain⟨a1,a2⟩:=ae1 (n:=n) (up:=false) v1 hp l1;obtain⟨a3,a4⟩:=ae1 (n:=n) (up:=true) v2 hp l2;unfold kD at hi⊢;rw[ap ⟨a1,a3⟩]at hi⊢;exact⟨⟨_,hi⟩,rfl,a2,a4⟩
def aq7{x}{n}{p}(hp:bv p=true)(h16:n<=32)(hx:Bd 0 x):Bd 0 (HV x n p):=by
 unfold HV;split
 ·grind[VW]
 ·exact ae2 (m:=0) (k:=0) hp δ (VW hp ω hx) (VW hp ω hx)
def akH{p}{m}(hp:bv p=true)(hm:m<16384):∀ds es x,(∀d∈ds,Bd 0 d)->(∀e∈es,e<=32)->Bd m x->Bd m (Nx p ds es x)
 |[],es,x,_,_,h=>by cases es<;>exact h
 |d::ds,[],x,_,_,h=>h
 |d::ds,e::es,x,hd,he,h=>by
  refine akH hp hm ds es _ (fun i hi=>hd i γ) (fun i hi=>he i γ) ?_;split
  ·have:=he e σ;exact ae2 (m:=m) (k:=0) hp hm h (aq7 hp ω (hd d σ))
  omega
def akI{p}{ds}{m}(hp:bv p=true)(hd:∀d∈ds,Bd 0 d):∀l k s,m+k+O l<16384->(∀t∈l,vd t.c=true/\Ok0 t.c/\Ld m t.c/\∀e∈t.exps,e<=32)->Bd (m+k) s->Bd (m+k+O l) (Tu p ds l s)
 |[],_,_,_,_,h=>h
 |t::l,k,s,hl,ht,h=>by
  show Bd _ (Tu p ds l (de s (Nx p ds t.exps ⟨t.c,t.c,false⟩) p));obtain⟨c1,c2,c3,c4⟩:=ht t σ;have hl2:m+k+(O l+1)<16384:=hl;have:=akI hp hd l (k+1) _ ω (fun t ht'=>ht t γ) (aq5 (m:=m+k) hp ω h ((akH hp ω ds t.exps _ hd c4 ⟨⟨_,wK c1 c2⟩,rfl,c3,c3⟩).up (Nat.le_add_right m k)));grind
theorem B4{m}:Bd m cM:=by
 have h:Ld m aC:=by unfold Ld;rw[cS rfl];grind
 exact⟨⟨_,wK aO.1 aO.2⟩,rfl,h,h⟩
def Sb.bd{m}{x y}(h:Sb x y)(hy:Bd m y):Bd m x:=by
 obtain⟨i,rfl| ⟨h1,h2,_,h3,h4⟩⟩:=h
 ·cases hy.a
 ·have:=ao1 i h1;have l1:=hy.l;have l2:=hy.h;unfold Ld at l1 l2;refine⟨i,h1,?_,?_⟩<;> (unfold Ld;generalize 2^ (16384+m)=T at*;omega)
def pwZ:List Int->List Rd->Int
 |e::es,x::xs=>zI x^e.toNat*pwZ es xs
 |_,_=>1
def dg:List Int->List Rd->Nat
 |e::es,_::xs=>e.toNat+dg es xs
 |_,_=>0
def aHY:∀ {es} {xs},(∀e∈es,0<=e)->(dg es xs)<=cp es
 |e::es,x::xs,h=>by
  have ih:=aHY (es:=es) (xs:=xs) fun y hy=>h y γ;have he:=h e σ;grind[dg,cp]
 |[],xs,h=>by show(0:Int)<=0;decide
 |e::es,[],h=>by
  have h2:=(Kf (l:=e::es) fun y hy=>h y hy).1;show(0:Nat)<=cp (e::es);omega
noncomputable def ph (xs:List Rd) (u:List Int):Int:=pwZ u xs*KK^ (32-dg u xs)
theorem VT.dg{v}{t}(vt:VT v t)(xs):dg t.exps xs<=32:=by
 have h1:=aHY (xs:=xs) fun e he=>(vt.b e he).1;have h2:=vt.d;omega
def aIN:∀ {u v} {xs},O u=O v->(∀e∈u,0<=e)->(∀e∈v,0<=e)->pwZ (pA u v) xs=pwZ u xs*pwZ v xs/\dg (pA u v) xs=dg u xs+dg v xs
 |a::u,b::v,x::xs,hl,hu,hv=>by
  obtain⟨h1,h2⟩:=aIN (u:=u) (v:=v) (xs:=xs) γ (fun e he=>hu e γ) (fun e he=>hv e γ);have ha:=hu a σ;have hb:=hv b σ;have ht:(a+b).toNat=a.toNat+b.toNat:=ω
  constructor
  ·simp_all[zI,pwZ,pA,Int.pow_add,Int.mul_assoc,Int.mul_left_comm]
  ·show(a+b).toNat+dg (pA u v) xs=a.toNat+dg u xs+(b.toNat+dg v xs);omega
 |[],[],xs,_,_,_=>⟨rfl,rfl⟩
 |a::u,b::v,[],_,_,_=>⟨rfl,rfl⟩
theorem aLh{w}{t q}(vt:VT w t)(vq:VT w q)(hd:cp t.exps+cp q.exps<=32)(xs):ph xs (pA t.exps q.exps)*KK^32=ph xs t.exps*ph xs q.exps:=by
 have nt:=fun e he=>(vt.b e he).1;have nq:=fun e he=>(vq.b e he).1;obtain⟨h1,h2⟩:=aIN (xs:=xs) (vt.l2 vq) nt nq;have d1:=aHY (xs:=xs) nt;have d2:=aHY (xs:=xs) nq;unfold ph;have hp:KK^ (32- (dg t.exps xs+dg q.exps xs))*KK^32=KK^ (32-dg t.exps xs)*KK^ (32-dg q.exps xs):=by
  rw[←Int.pow_add,←Int.pow_add];grind
 grind
end Go.Ab
