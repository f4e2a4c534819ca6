/-
  ModelfunApply holds at every input of its card. Part G1.
-/
import Derived.Test.YtaojbnikhbkleaaGreatDoorF1
open Nat renaming add_assoc → aFZ, add_zero → aFA, div_add_mod → aFM, div_le_self → aF1, le_of_ble_eq_true → aFp, le_refl → aET, le_trans → aEX, lt_of_le_of_lt → aFl, lt_of_lt_of_le → aFQ, mod_eq_of_lt → aFG, mul_assoc → aFj, mul_comm → aFd, mul_le_mul_left → aFV, mul_le_mul_right → aE4, pow_add → aE2, pow_le_pow_right → aFu, pow_succ → aFJ, two_pow_pos → aE7, zero_add → aES, zero_le → aE9
open Int renaming eq_ofNat_of_zero_le → aFy, lt_irrefl → aFC, natCast_mul → aF2, natCast_zero → aFz, reduceEq → aEP, reduceLE → aEO, reduceLT → aEN, toNat_natCast → aEY
open Bool renaming and_eq_true → aEV, and_false → aFT, and_self → aFI, and_true → aFE, false_and → aE0, false_eq_true → aFv, false_ne_true → aE3, not_eq_true' → aFS, not_false → aFY, not_true → aMD, or_eq_true → aF0, true_and → aEW
open List renaming length → O, all_eq_true → aFc, append_nil → aE8, cons_append → aFb, drop_eq_getElem_cons → aFe, drop_zero → aFX, getElem?_eq_getElem → aE1, length_cons → aFk, length_map → aFh, length_nil → aFs, map_congr_left → aFn, map_cons → aFr, map_id' → aFH, map_nil → aFB, mem_of_getElem? → aE6, nil_append → aE5, take_of_length_le → aFi
open Option renaming bind_eq_some_iff → aEQ, bind_some → aEZ, map_eq_some_iff → aEU, map_some → aFK
set_option linter.all false
namespace Go.Ab
open Go Go.IntWalk
set_option maxRecDepth 4000
set_option maxHeartbeats 8000000
inductive Mrg:List Rt->List Rt->List Rt->Prop
 |nil:Mrg [] [] []
 |left {A r1 r2:List Rt} {t:Rt}:Mrg A r1 r2->Mrg (t::A) (t::r1) r2
 |right {A r1 r2:List Rt} {t:Rt}:Mrg A r1 r2->Mrg (t::A) r1 (t::r2)
 |both {A r1 r2:List Rt} {t:Rt} {c d:Rd}:Mrg A r1 r2->qC c d=(t.c,0)->Mrg (t::A) (⟨t.exps,c⟩::r1) (⟨t.exps,d⟩::r2)
variable{M T:Nat}{cap:List AV}{p sh:Int}{x y:Ri}{β:Type}
def Mrg.mem{A r1 r2}(h:Mrg A r1 r2):(∀y∈r1,∃t∈A,y.exps=t.exps)/\∀y∈r2,∃t∈A,y.exps=t.exps:=by
 induction h with
 |nil=>grind
 |left h ih=>
  grind
 |right h ih=>
  grind
 |both h _ ih=>
  grind
theorem aJO{t y}{l}(h:dO t.exps y.exps<0):wJ (t::l) y=(wJ l y).map (t::·):=by
 show(if dO t.exps y.exps<0 then _ else _)=_;grind
theorem aGF{t}:∀ {ts l},(∀y∈ts,dO t.exps y.exps<0)->lB (t::l) ts=(lB l ts).map (t::·)
 |[],l,_=>rfl
 |y::ts,l,h=>by
  show(wJ (t::l) y).bind (fun l'=>lB l' ts)=((wJ l y).bind fun l'=>lB l' ts).map (t::·);rw[aJO (h y σ)];cases wJ l y with
  |none=>rfl
  |some l'=>exact aGF (fun q hq=>h q (by simp[hq]))
def aJP{t}:∀ {l},(∀y∈l,dO t.exps y.exps<0/\O t.exps=O y.exps)->wJ l t=some (t::l)
 |[],_=>rfl
 |y::l,h=>by
  obtain⟨h1,h2⟩:=h y σ;have h3:=Ny h2;show(if dO y.exps t.exps<0 then _ else if dO y.exps t.exps=0 then _ else _)=_;grind
def aKP{v}{A r1 r2}(c:Cl v A)(h:Mrg A r1 r2):lB r1 r2=some A:=by
 induction h with
 |nil=>rfl
 |left h ih=>
  obtain⟨vt,ht,c2⟩:=c.cons;rw[aGF fun y hy=>?_,ih c2]
  ·rfl
  ·obtain⟨q,hq,he⟩:=h.mem.2 y hy;grind
 |right h ih=>
  rename_i A r1 r2 t;obtain⟨vt,ht,c2⟩:=c.cons;have hi:=aJP fun y hy=>by
   obtain⟨q,hq,he⟩:=h.mem.1 y hy;rw[he];exact⟨ht q hq,vt.l2 (c2.t q hq)⟩
  show(wJ r1 t).bind (fun l'=>lB l' r2)=_;rw[hi,aEZ,aGF fun y hy=>?_,ih c2]
  ·rfl
  ·obtain⟨q,hq,he⟩:=h.mem.2 y hy;grind
 |both h hadd ih=>
  rename_i A r1 r2 t c' d;obtain⟨vt,ht,c2⟩:=c.cons;have hi:wJ (⟨t.exps,c'⟩::r1) ⟨t.exps,d⟩=some (t::r1):=by
   show(if dO t.exps t.exps<0 then _ else if dO t.exps t.exps=0 then(if(qC c' d).2=0 then some (if(qC c' d).1.m.length=0 then r1 else⟨t.exps,(qC c' d).1⟩::r1)else none)else _)=_;rw[ajK,av ω,ap rfl,hadd,ap rfl,av vt.nz]
  show(wJ (⟨t.exps,c'⟩::r1) ⟨t.exps,d⟩).bind (fun l'=>lB l' r2)=_;rw[hi,aEZ,aGF fun y hy=>?_,ih c2]
  ·rfl
  ·obtain⟨q,hq,he⟩:=h.mem.2 y hy;grind
def aG8(o):∀A,Mrg A (A.filter (W7 o)) (A.filter (TN o))
 |[]=>.nil
 |t::A=>by
  by_cases hd:cp t.exps<=o
  ·have f1:(W7 o t)=true:=decide_eq_true hd;have f2:¬ (TN o t)=true:=by unfold TN;rw[decide_eq_true hd];exact aE3
   rw[List.filter_cons_of_pos f1,List.filter_cons_of_neg f2];exact .left (aG8 o A)
  ·have f1:¬ (W7 o t)=true:=by unfold W7;rw[decide_eq_false hd];exact aE3
   have f2:(TN o t)=true:=by unfold TN;rw[decide_eq_false hd];rfl
   rw[List.filter_cons_of_neg f1,List.filter_cons_of_pos f2];exact .right (aG8 o A)
def aJQ{c d t}(ot:Ok0 t)(vt:vd t=true)(vc:vd c=true)(vdd:vd d=true)(h:zI c+zI d=zI t):qC c d=(t,0):=by
 unfold qC;rw[vc,vdd,aFI,ap rfl,h,Kc ot vt];unfold cA;by_cases h0:O t.m=0
 ·rw[GY vt h0];rfl
 grind[FE]
theorem aJh{v}{t}{c d}{A l1 l2}(vt:VT v t)(om:Ok0 c)(vm:vd c=true)(oq:Ok0 d)(vq:vd d=true)(hz:zI d=zI t.c-zI c)(ih:Mrg A l1 l2):Mrg (t::A) (fW t.exps c l1) (fW t.exps d l2):=by
 unfold fW;by_cases hc:O c.m=0
 ·rw[ap hc];have hd:=aHz oq vt.c vq vt.vc (by rw[hz,cS hc,Int.sub_zero]);rw[hd,av vt.nz];exact .right ih
 ·rw[av hc];by_cases hd:O d.m=0
  ·rw[ap hd];have hcc:=aHz om vt.c vm vt.vc (by grind[cS]);rw[hcc];exact .left ih
  ·rw[av hd];exact .both ih (aJQ vt.c vt.vc vm vq ω)
def aHQ{v p}:∀ {A} {q},(∀t∈A,VT v t)->DD p A=some q->Mrg A q.1 q.2
 |[],q,_,h=>by
  cases h;exact .nil
 |t::A,q,hv,h=>by
  have vt:=hv t σ;unfold DD at h;split at h
  ·split at h
   ·rename_i h1 h2;rw[aEU]at h;obtain⟨q2,h3,rfl⟩:=h;have ih:=aHQ (fun x hx=>hv x γ) h3;grind[LG,EN,qF,aJh,aeW]
   grind
  grind
def aLi:R 29 [I 1] []=some (af one,[]):=aIK (n:=60) κ
def aKj:R 29 [I (-1)] []=some (af rX,[]):=aIK (n:=60) κ
def aKQ:R 107 [] []=some (ae yE,[]):=by
 refine au aI5 ?_;have h1:=aKj;have h2:=aLi;simp only[af,ak,rX,one]at h1 h2;simp only[aGK,ae,ah,yE,rX,one,go_sem,h1,h2]
def aLj{x y}(h:vi x=false\/x.all=true)(hy:y.all=false):EM x y=false:=by
 grind[EM]
def aKR{s}(os:OkS s)(hl:O s.dom<=100000):∀rest n,s.dom.drop n=rest->n<=O s.dom->∀S h,S 1=ac 1->S 3=I n->h 1=.bx (mO s)->
  ∃hh,ao 0 [] (aB (am R (aA false) aoU) [1,3] [1] S h)=if(rest.any fun x=>!EM x yE)=true then some (.ret,⟨upd ce 2 (B false),hh⟩)else some (.normal,⟨fun _=>.any,hh⟩):=by
 intro rest;induction rest with
 |nil=>
  intro n hd hn S h h1 h3 k1;have e:n=O s.dom:=by
   have:=congrArg List.length hd;grind
  subst e;rw[ai];refine⟨?hh0,?_⟩;rotate_left
  ·simp only[aoU,go_sem,h1,h3,k1,aFC];rfl
 |cons x rest ih=>
  intro n hd hn S h h1 h3 k1;have hlt:n<O s.dom:=by
   grind
  have hr:s.dom[n]?=some x:=by
   have:=congrArg (·[0]?) hd;grind
  have ih':=ih (n+1) (by rw[←List.drop_drop,hd];rfl) hlt;have e1:=aa (n< (O s.dom:Int));have e2:=OE rfl hr;have e3:aG (n+1)=(n+1:Nat):=by grind[i64_in]
  have ox:=os.d x (aE6 hr);have v1:=aG4 ox;have v2:=aKQ;have v3:=aJg ox VO.1;have hk:=aLj (x:=x) (y:=yE);rw[List.any_cons,ai];generalize EM x yE=bi at v3 hk⊢;simp only[ae,ah,yE,rX,one]at e2 v1 v2 v3;cases g1:vi x with
  |false=>
   rw[g1]at v1;rw[hk (Or.inl g1) rfl];refine⟨?hh1,?_⟩;rotate_left
   ·simp only[aoU,go_sem,h1,h3,k1,e1,e2,v1];rfl
  |true=>
  rw[g1]at v1;cases g2:x.all with
  |true=>
   rw[hk (Or.inr g2) rfl];rw[g2]at v1 e2;refine⟨?hh2,?_⟩;rotate_left
   ·simp only[aoU,go_sem,h1,h3,k1,e1,e2,v1];rfl
  |false=>
  rw[g2]at v1 e2 v3;cases bi with
  |false=>
   refine⟨?hh3,?_⟩;rotate_left
   ·simp only[aoU,go_sem,h1,h3,k1,e1,e2,v1,v2,v3];rfl
  |true=>
   simp only[aoU,go_sem,h1,h3,k1,e1,e2,e3,v1,v2,v3];apply ih'<;>rfl
def aKk{s:Rs}(os:OkS s):R 32 [ej s] []=some (B (fg s),[]):=by
 refine au aIt ?_;have hp:=aKh (p:=s.p);unfold fg;by_cases g1:(O s.dom:Int)<1
 ·have f1:((O s.dom:Int)<1)=True:=eq_true g1;rw[decide_eq_false (p:=1<=O s.dom) ω,aE0];simp only[ayi,ayq,go_sem,f1]
 have f1:((O s.dom:Int)<1)=False:=eq_false g1;rw[decide_eq_true (p:=1<=O s.dom) ω,aEW];by_cases g2:8< (O s.dom:Int)
 ·have f2:(8< (O s.dom:Int))=True:=eq_true g2;rw[decide_eq_false (p:=O s.dom<=8) ω,aE0];simp only[ayi,ayq,go_sem,f1,f2]
 have f2:(8< (O s.dom:Int))=False:=eq_false g2;rw[decide_eq_true (p:=O s.dom<=8) ω,aEW];by_cases g3:s.ord<1
 ·have f3:(s.ord<1)=True:=eq_true g3;rw[decide_eq_false (p:=1<=s.ord) ω,aE0];simp only[ayi,ayq,go_sem,f1,f2,f3]
 have f3:(s.ord<1)=False:=eq_false g3;rw[decide_eq_true (p:=1<=s.ord) ω,aEW];by_cases g4:16<s.ord
 ·have f4:(16<s.ord)=True:=eq_true g4;rw[decide_eq_false (p:=s.ord<=16) ω,aE0];simp only[ayi,ayq,go_sem,f1,f2,f3,f4]
 have f4:(16<s.ord)=False:=eq_false g4;rw[decide_eq_true (p:=s.ord<=16) ω,aEW];cases g5:bv s.p with
 |false=>
  rw[g5]at hp;simp only[ayi,ayq,go_sem,f1,f2,f3,f4,hp,aE0]
 |true=>
 rw[g5]at hp;have hL:=aKR os ω s.dom 0 rfl (aE9 _);generalize hLL:aB (am R (aA false) aoU) [1,3] [1]=L at hL;have hXL:∀s h,am R (aA false) (.loop [1,3] [1] aoU) s h=L s h:=fun s h=>by rw[←hLL];rfl
 generalize(s.dom.any fun x=>!EM x yE)=b at hL⊢;have hL2:∀ (S:aM) (h:aj) (X:Option (Ex×St)),ao 0 [] (L S h)=X->S 1=ac 1->S 3=I 0->h 1=.bx (mO s)->∃hh,X=if b=true then some (.ret,⟨upd ce 2 (B false),hh⟩)else some (.normal,⟨fun _=>.any,hh⟩):=fun S h X hX k1 k2 k3=>by
  rw[←hX];exact hL S h k1 k2 k3
 simp only[ayi,ayq,go_sem,f1,f2,f3,f4,hp,hXL];generalize hX2:ao 0 [] (L _ _)=X;obtain⟨hh,g0⟩:=hL2 _ _ _ hX2 Z Z Z;rw[g0];cases b with
 |true=>
  simp only[go_sem]
 |false=>
  simp only[go_sem]
def B5(p:Int):Ri->List Ri->Ri
 |x,[]=>x
 |x,y::l=>B5 p (de x y p) l
def ae3{p}:∀ {l} {x},OkI x->OkI (B5 p x l)
 |[],_,h=>h
 |y::l,x,_=>(ae3 (l:=l) kW)
def akJ{p}{l}(ol:∀x∈l,OkI x)(hl:O l<=100000):∀rest (n:Nat) x,OkI x->l.drop n=rest->n<=O l->∀S h,S 0=I p->S 4=ac 4->S 6=ac 6->S 9=.sl 7 (cT l)->S 10=I (O l)->S 11=I n->h 4=.bx (ah x)->h 6=.bx [B false,.emp,I 0,B false,.emp,I 0,B false]->
  ∃hh,ao 0 [4,6] (aB (am R (aA false) qN) [0,4,6,9,10,11] [4,6] S h)=some (.normal,⟨upd (upd ce 6 (ac 6)) 4 (ac 4),hh⟩)/\hh 4=.bx (ah (B5 p x rest))/\hh 6=.bx [B false,.emp,I 0,B false,.emp,I 0,B false]:=by
 intro rest;induction rest with
 |nil=>
  intro n x ox hd hn S h h0 h4 h6 h9 h10 h11 k4 k6;have e:n=O l:=by
   have:=congrArg List.length hd;grind
  subst e;rw[ai];simp only[ah]at k4;refine⟨?hh0,?_,?_,?_⟩;rotate_left
  ·simp only[qN,go_sem,h0,h4,h6,h9,h10,h11,k4,k6,aFC];rfl
  ·rfl
  ·rfl
 |cons y rest ih=>
  intro n x ox hd hn S h h0 h4 h6 h9 h10 h11 k4 k6;have hlt:n<O l:=by
   grind
  have hr:l[n]?=some y:=by
   have:=congrArg (·[0]?) hd;grind
  have ih':=ih (n+1) (de x y p) kW (by rw[←List.drop_drop,hd];rfl) hlt;have e1:=aa (n< (O l:Int));have e2:=OE rfl hr;have e3:aG (n+1)=(n+1:Nat):=by grind[i64_in]
  have v1:=xN ox (ol y (aE6 hr)) (p:=p);rw[ai];rw[show B5 p x (y::rest)=B5 p (de x y p) rest from rfl];generalize aB _ _ _=L at ih'⊢;generalize de x y p=z at v1 ih'⊢;simp only[ah]at e2 k4;simp only[ae,ah]at v1;simp only[qN,go_sem,h0,h4,h6,h9,h10,h11,k4,k6,e1,e2,e3,v1];apply ih'<;>rfl
def aq8{p}{l}{x}(ox:OkI x)(ol:∀x∈l,OkI x)(hl:O l<=100000):R 61 [I p,ae x,.sl 7 (cT l)] []=some (ae (B5 p x l),[]):=by
 refine au acW ?_;have hL:=akJ (p:=p) ol hl l 0 x ox rfl (aE9 _);generalize hLL:aB (am R (aA false) qN) [0,4,6,9,10,11] [4,6]=L at hL;have hXL:∀s h,am R (aA false) (.loop [0,4,6,9,10,11] [4,6] qN) s h=L s h:=fun s h=>by rw[←hLL];rfl
 clear hLL;generalize B5 p x l=z at hL⊢;have hL2:∀S h X,ao 0 [4,6] (L S h)=X->S 0=I p->S 4=ac 4->S 6=ac 6->S 9=.sl 7 (cT l)->S 10=I (O l)->S 11=I 0->h 4=.bx (ah x)->h 6=.bx [B false,.emp,I 0,B false,.emp,I 0,B false]->
   ∃hh,X=some (.normal,⟨upd (upd ce 6 (ac 6)) 4 (ac 4),hh⟩)/\hh 4=.bx (ah z)/\hh 6=.bx [B false,.emp,I 0,B false,.emp,I 0,B false]:=fun S h X hX a b c d e f i j=>by
  rw[←hX];exact hL S h a b c d e f i j
 simp only[Hq,PZ,ae,ah,go_sem,hXL];generalize hX2:ao 0 [4,6] (L _ _)=X;obtain⟨hh,g0,g4,g6⟩:=hL2 _ _ _ hX2 Z Z Z Z Z Z Z Z;rw[g0];simp only[ah]at g4;simp only[go_sem,g4,g6]
noncomputable def NU (s:Rs) (a b:Rm):Rm:=if xI s [a,b]=true then lA s (EF a.P b.P).1 (EF a.P b.P).2 (de a.R b.R s.p)else cu s
noncomputable def Ic (s:Rs) (a b:Rm):Rm:=if xI s [a,b]=true then lA s (BY a.P b.P).1 (BY a.P b.P).2 (EI a.R b.R s.p)else cu s
def DF{s}{l}(h:xI s l=true):fg s=true/\∀m∈l,AC s m=true:=by
 simp_all[xI,aEV,aFS,List.any_eq_false]
theorem jA{s}(h:fg s=true):O s.dom<=8/\bv s.p=true:=by
 simp_all[fg,aEV,decide_eq_true_eq]
def oG{s}{m}(om:OkM m)(h:AC s m=true):OkP m.P/\vp m.P=true/\m.P.vars=O s.dom/\vi m.R=true:=by
 unfold AC at h;simp only[aEV,decide_eq_true_eq]at h;exact⟨abO om.c h.2.1,h.2.1,h.2.2.1,h.2.2.2.2.1⟩
def P9{α:Type}{p:α->Prop}{a b}(ha:p a)(hb:p b):∀m∈[a,b],p m:=fun m hm=>by
 grind
def VX{s}{a b}(os:OkS s)(oa:OkM a)(ob:OkM b):R 10 [ej s,bB a,bB b] []=some (bB (NU s a b),[]):=by
 refine au acR ?_;have h1:=EO os (l:=[a,b]) (P9 oa ob) σ;have h2:=CG (s:=s);unfold NU;simp only[aFr,aFB]at h1;cases g:xI s [a,b]with
 |false=>
  rw[g]at h1;simp only[C3,go_sem,h1,h2]
 |true=>
  rw[g]at h1;obtain⟨q1,q2⟩:=DF g;obtain⟨a1,_⟩:=oG oa (q2 a σ);obtain⟨b1,_⟩:=oG ob (q2 b σ);have h3:=aet a1 b1;have h4:=xN oa.r ob.r (p:=s.p);have h5:=LH (e:=(EF a.P b.P).2) (r:=de a.R b.R s.p) os (abe a1 b1) kW (by grind[jA]);simp only[pV,bj,ae,ah]at h3 h4 h5;simp only[C3,go_sem,h1,h3,h4,h5]
def RH{s}(ok:Ok0 s)(v:vd s=true):R 150 [af s,I (-1)] []=some (rV (H9 s),[]):=by
 refine au En ?_;obtain⟨h0,h1,h2,h3⟩:=dT v ok.lb;have hv:=eC ok;rw[v]at hv;have hx:=xM (e:=-1);have ho:=l6 (neg:=s.neg) (m:=s.m) (e:=s.e+-1) ok.lb ω (by grind[Exq]);rw[VN ok v]at ho;have hl:Ok0 (fF (zI s) (-16384- (1:Nat))):=by
  rw[←VN ok v];exact⟨sx _ _ _,aFl (pq (k:=128) ω) δ⟩
 have hc:=Ar hl.lb (by
  rw[←VN ok v];exact aEX (pq (k:=128) ω) δ)
 have e:(if rP (ag (ab (fF (zI s) (-16384- (1:Nat))).m)) (fF (zI s) (-16384- (1:Nat))).e=true then AV.tup [af (fF (zI s) (-16384- (1:Nat))),I 0]else .tup [af aC,I 9])=rV (H9 s):=by
  grind[H9,cA,rV]
 rw[e]at hc;have ew:aG (s.e+-1)=s.e+-1:=by grind[i64_in]
 simp only[af,ak,rV]at hv ho hc;simp only[lP,rV,af,ak,go_sem,hv,hx,ho,hc,ew,show decide ((-32768)≤-1)=true from rfl,show decide ((-1)<=32768)=true from rfl]
def DG(x:Ri)(p:Int):Rd:=if(kI x&&bv p)=true then(if(dh x.lo x.hi p false).2=0 then(if(H9 (dh x.lo x.hi p false).1).2=0 then(if ahD x (H9 (dh x.lo x.hi p false).1).1=true then(H9 (dh x.lo x.hi p false).1).1 else x.lo)else x.lo)else x.lo)else aC
def DH{x}(h:kI x=true):x.all=false/\vd x.lo=true/\vd x.hi=true:=by
 grind[kI,vi]
def EP{x}{p}(ox:OkI x):vd (DG x p)=true/\Ok0 (DG x p):=by
 unfold DG;split
 ·rename_i h;rw[aEV]at h;have hl:=(DH h.1).2.1;split
  ·split
   ·split
    ·exact xO
    ·exact⟨hl,ox.lo⟩
   ·exact⟨hl,ox.lo⟩
  ·exact⟨hl,ox.lo⟩
 ·exact aO
def akK{x}{p}(ox:OkI x):R 78 [ae x,I p] []=some (af (DG x p),[]):=by
 refine au UO ?_;have h1:=kU ox;have h2:=l8 (p:=p);unfold DG;cases g1:kI x with
 |false=>
  rw[g1]at h1;simp only[jT,ae,ah,af,ak,aC,go_sem,h1,aE0,aFv]
 |true=>
 rw[g1]at h1;cases g2:bv p with
 |false=>
  rw[g2]at h2;simp only[jT,ae,ah,af,ak,aC,go_sem,h1,h2,aFT,aFv]
 |true=>
 rw[g2]at h2;have h3:=Ls ox.lo ox.hi (p:=p);have h4:=RH (Kb (a:=x.lo) (b:=x.hi) (p:=p) (up:=false)) OI;have h5:=atB ox (d:=(H9 (dh x.lo x.hi p false).1).1) xO.2;generalize ahD x (H9 (dh x.lo x.hi p false).1).1=b at h5⊢;generalize H9 (dh x.lo x.hi p false).1=m at h4 h5⊢;generalize dh x.lo x.hi p false=s at h3 h4⊢;simp only[ae,ah,af,ak,rV]at h3 h4 h5;by_cases k1:s.2=0
 case neg=>
  have f1:=eq_false k1;simp only[jT,ae,ah,af,ak,go_sem,h1,h2,h3,f1]
 have f1:=eq_true k1;by_cases k2:m.2=0
 case neg=>
  have f2:=eq_false k2;simp only[jT,ae,ah,af,ak,go_sem,h1,h2,h3,h4,f1,f2]
 have f2:=eq_true k2;cases b with
 |false=>
  simp only[jT,ae,ah,af,ak,go_sem,h1,h2,h3,h4,h5,f1,f2]
 |true=>
  simp only[jT,ae,ah,af,ak,go_sem,h1,h2,h3,h4,h5,f1,f2]
noncomputable def zJ (s:Rs) (a b:Rm):Rm:=if xI s [a,b]=true then lA s (DC a.P b.P).1 (DC a.P b.P).2 (B5 s.p (bX (wL a.P s.dom s.p) b.R s.p) [bX (wL b.P s.dom s.p) a.R s.p,bX a.R b.R s.p])else cu s
def G6{s}{a b}(os:OkS s)(oa:OkM a)(ob:OkM b):R 12 [ej s,bB a,bB b] []=some (bB (zJ s a b),[]):=by
 refine au acT ?_;have h1:=EO os (l:=[a,b]) (P9 oa ob) σ;have h2:=CG (s:=s);unfold zJ;simp only[aFr,aFB]at h1;cases g:xI s [a,b]with
 |false=>
  rw[g]at h1;simp only[C5,go_sem,h1,h2]
 |true=>
  rw[g]at h1;obtain⟨q1,q2⟩:=DF g;obtain⟨a1,_⟩:=oG oa (q2 a σ);obtain⟨b1,_⟩:=oG ob (q2 b σ);have hl:O s.dom<=100000:=by grind[jA]
  have h3:=aqn a1 b1;have r1:=FL (p:=s.p) a1 os.d hl;have r2:=FL (p:=s.p) b1 os.d hl;have k1:=(xR (p:=s.p) a1 os.d hl).1;have k2:=(xR (p:=s.p) b1 os.d hl).1;generalize wL a.P s.dom s.p=x at r1 k1⊢;generalize wL b.P s.dom s.p=y at r2 k2⊢;have m1:=sy k1 ob.r (p:=s.p);have m2:=sy k2 oa.r (p:=s.p);have m3:=sy oa.r ob.r (p:=s.p);have h4:=aq8 (p:=s.p) (x:=bX x b.R s.p) (l:=[bX y a.R s.p,bX a.R b.R s.p]) iU (P9 iU iU) σ;have h5:=LH (q:=(DC a.P b.P).1) (e:=(DC a.P b.P).2) (r:=B5 s.p (bX x b.R s.p) [bX y a.R s.p,bX a.R b.R s.p]) os (abg a1 b1) (ae3 iU) hl;simp only[pV,bj,ae,ah]at h3 h5 r1 r2 m1 m2 m3;simp only[ae,ah,cT,aFr,aFB]at h4;simp only[C5,go_sem,h1,h3,h4,h5,r1,r2,m1,m2,m3]
theorem O9{x y}{p}:OkI (EI x y p):=kW
def Xh{s}:OkI (cu s).R/\vi (cu s).R=true/\Cl (cu s).P.vars (cu s).P.terms/\(cu s).P.terms.length<=100000:=⟨gX.ok',rfl,Cl.nil _,aE9 _⟩
theorem ao3{d}(h:z0 d=true):d=aC:=by
 obtain⟨n,m,e⟩:=d;unfold z0 at h;simp only[aEV,aFS,decide_eq_true_eq]at h;obtain⟨h1,h2,h3⟩:=h;subst h1 h3;rw[List.length_eq_zero_iff.1 h2];rfl
def GN{x}(ox:OkI x)(v:vi x=true):∃q,In q x:=by
 cases ha:x.all with
 |true=>
  refine⟨0,Or.inl ?_⟩;unfold vi at v;rw[ha]at v;simp at v;obtain⟨l,h,a⟩:=x;simp only at v ha;rw[ao3 v.1,ao3 v.2,ha];rfl
 |false=>
  have hk:kI x=true:=by grind[kI]
  obtain⟨_,h1,h2⟩:=DH hk;exact⟨qv x.lo,Or.inr ⟨ha,⟨⟨h1,ox.lo⟩,h2,ox.hi⟩,Rat.le_refl,Fc.2 (OF hk).2.2.1⟩⟩
def abV{s}{q}{e}{r}(oq:OkP q)(os:OkS s)(hl:O s.dom<=100000)(hv:e=0->vp q=true->q.vars=O s.dom)(ir:∃q,In q r):OkI (lA s q e r).R/\vi (lA s q e r).R=true/\Cl (lA s q e r).P.vars (lA s q e r).P.terms/\(lA s q e r).P.terms.length<=100000:=by
 unfold lA;split
 ·rename_i he;have hv:=hv he;split
  ·rename_i hc;obtain⟨⟨c1,_⟩,c2,_⟩:=I7 (o:=s.ord) oq;obtain⟨r1,r2⟩:=Xg (p:=s.p) (pX c1);unfold DE at hc⊢;split at hc
   ·rename_i h0;rw[ap h0];have k4:=xR (p:=s.p) (pX c2) os.d hl;have k5:=xR (p:=s.p) (pX r2.cl) os.d hl;obtain⟨q4,i4⟩:=GN k4.1 k4.2;obtain⟨q5,i5⟩:=GN k5.1 k5.2;obtain⟨q6,i6⟩:=ir;have ii:=sB (p:=s.p) i6 (sB (p:=s.p) i4 i5);refine⟨ii.ok,ii.v,?_,r1.len⟩;have hcl:=r1.cl;cases hq:vp q with
    |true=>
     have e1:(gI q s.ord).1.vars=q.vars:=by simp_all[gI,ap]
     have e2:(iI (gI q s.ord).1 s.p).1.1.vars=q.vars:=by
      unfold iI at h0⊢;grind
     rw[←hv hq,←e2];omega
    |false=>
     have e1:(gI q s.ord).1=p0:=by simp_all[gI,av]
     have e2:(iI p0 s.p).1.1.terms=[]:=by
      unfold iI;split
      ·split
       ·rfl
       ·rfl
      ·rfl
     grind[Cl.nil]
   grind
  ·exact Xh
 ·exact Xh
def Pa{s}{a b}(os:OkS s)(oa:OkM a)(ob:OkM b):R 11 [ej s,bB a,bB b] []=some (bB (Ic s a b),[]):=by
 refine au acS ?_;have h1:=EO os (l:=[a,b]) (P9 oa ob) σ;have h2:=CG (s:=s);unfold Ic;simp only[aFr,aFB]at h1;cases g:xI s [a,b]with
 |false=>
  rw[g]at h1;simp only[C4,go_sem,h1,h2]
 |true=>
  rw[g]at h1;obtain⟨q1,q2⟩:=DF g;obtain⟨a1,_⟩:=oG oa (q2 a σ);obtain⟨b1,_⟩:=oG ob (q2 b σ);have h3:=aqj a1 b1;have h4:=OW oa.r ob.r (p:=s.p);have h5:=LH (e:=(BY a.P b.P).2) (r:=EI a.R b.R s.p) os (abf a1 b1) O9 (by grind[jA]);simp only[pV,bj,ae,ah]at h3 h4 h5;simp only[C4,go_sem,h1,h3,h4,h5]
noncomputable def RI (s:Rs) (a:Rm):Rm:=if xI s [a]=true then(if(Bm a.P rX).2=0 then⟨(Bm a.P rX).1,rW a.R⟩else cu s)else cu s
def anM{α:Type}{p:α->Prop}{a}(ha:p a):∀m∈[a],p m:=fun m hm=>by grind
def ae4{s}{a}(os:OkS s)(oa:OkM a):R 13 [ej s,bB a] []=some (bB (RI s a),[]):=by
 refine au acU ?_;have h1:=EO os (l:=[a]) (anM oa) σ;have h2:=CG (s:=s);unfold RI;simp only[aFr,aFB]at h1;cases g:xI s [a]with
 |false=>
  rw[g]at h1;simp only[yO,go_sem,h1,h2]
 |true=>
  rw[g]at h1;obtain⟨q1,q2⟩:=DF g;obtain⟨a1,_⟩:=oG oa (q2 a σ);have h0:=aeT;have h3:=aki a1 G5.2;have h4:=G3 oa.r;generalize hm:rX=mo at h0 h3⊢;generalize Bm a.P mo=t at h3⊢;simp only[pV,bj,ae,ah,af,ak]at h0 h3 h4;by_cases g2:t.2=0
  ·have f:=eq_true g2;simp only[yO,go_sem,h0,h1,h3,h4,f]
  ·have f:=eq_false g2;simp only[yO,go_sem,h0,h1,h2,h3,f]
noncomputable def VY (s:Rs) (a:Rm) (r:Ri):Rm:=if xI s [a]=true then⟨a.P,de a.R r s.p⟩else cu s
def akL{s}{a}{r}(os:OkS s)(oa:OkM a)(or:OkI r):R 152 [ej s,bB a,ae r] []=some (bB (VY s a r),[]):=by
 refine au XX ?_;have h1:=EO os (l:=[a]) (anM oa) σ;have h2:=CG (s:=s);unfold VY;simp only[aFr,aFB]at h1;cases g:xI s [a]with
 |false=>
  rw[g]at h1;simp only[Aa,ae,ah,go_sem,h1,h2]
 |true=>
  rw[g]at h1;have h4:=xN oa.r or (p:=s.p);simp only[ae,ah]at h4;simp only[Aa,ae,ah,go_sem,h1,h4]
noncomputable def cQ (s:Rs) (a:Rm):Ri:=if xI s [a]=true then de (wL a.P s.dom s.p) a.R s.p else bt
def CH{s}{a}(os:OkS s)(oa:OkM a):R 95 [ej s,bB a] []=some (ae (cQ s a),[]):=by
 refine au XT ?_;have h1:=EO os (l:=[a]) (anM oa) σ;have h2:=dW;unfold cQ;simp only[aFr,aFB]at h1;cases g:xI s [a]with
 |false=>
  rw[g]at h1;simp only[zZ,ae,ah,bt,aC,go_sem,h1,h2]
 |true=>
  rw[g]at h1;obtain⟨q1,q2⟩:=DF g;obtain⟨a1,_⟩:=oG oa (q2 a σ);have hl:O s.dom<=100000:=by grind[jA]
  have h3:=FL (p:=s.p) a1 os.d hl;have k1:=(xR (p:=s.p) a1 os.d hl).1;have h4:=xN k1 oa.r (p:=s.p);simp only[bj,ae,ah]at h3 h4;simp only[zZ,ae,ah,go_sem,h1,h3,h4]
def aHo:List Ri->List Ri->Bool
 |x::l,y::m=>EM x y&&aHo l m
 |_,_=>true
def aKS{x d}(ox:∀a∈x,OkI a)(od:∀a∈d,OkI a)(hx:O x<4611686018427387904)(he:O x=O d):∀rx rd (n:Nat),x.drop n=rx->d.drop n=rd->n<=O x->∀S h,S 1=.sl 7 (cT d)->S 2=.fn 92 [] []->S 15=.sl 7 (cT x)->S 16=I (O x)->S 17=I n->
  ∃hh,ao 0 [] (aB (am R (aA false) afi) [1,2,15,16,17] [] S h)=if aHo rx rd=true then some (.normal,⟨fun _=>.any,hh⟩)else some (.ret,⟨upd ce 6 (B false),hh⟩):=by
 intro rx;induction rx with
 |nil=>
  intro rd n hd1 hd2 hn S h h1 h2 h15 h16 h17;have e:n=O x:=by
   have:=congrArg List.length hd1;grind
  subst e;rw[ai];refine⟨?hh0,?_⟩;rotate_left
  ·simp only[afi,go_sem,h1,h2,h15,h16,h17,aFC];rfl
 |cons a rx ih=>
  intro rd n hd1 hd2 hn S h h1 h2 h15 h16 h17;have hlt:n<O x:=by
   grind
  have ra:x[n]?=some a:=by
   have:=congrArg (·[0]?) hd1;grind
  have hb:∃b,d[n]?=some b:=⟨d[n]'(by omega),aE1 ω⟩;obtain⟨b,rb⟩:=hb;have hrd:rd=b::d.drop (n+1):=by
   grind[aFe,Option.some.injEq]
  subst hrd;have ih':=ih (d.drop (n+1)) (n+1) (by rw[←List.drop_drop,hd1];rfl) rfl hlt;have e1:=aa (n< (O x:Int));have e2:=OE rfl ra;have e3:=OE rfl rb;have e4:aG (n+1)=(n+1:Nat):=by grind[i64_in]
  have v1:=aky (ox a (aE6 ra)) (od b (aE6 rb));rw[ai,show aHo (a::rx) (b::d.drop (n+1))=(EM a b&&aHo rx (d.drop (n+1)))from rfl];simp only[ae,ah]at e2 e3 v1;cases g:EM a b with
  |false=>
   rw[g]at v1;refine⟨?hh1,?_⟩;rotate_left
   ·simp only[afi,go_sem,h1,h2,h15,h16,h17,e1,e2,e3,v1];rfl
  |true=>
   rw[g]at v1;simp only[afi,go_sem,h1,h2,h15,h16,h17,e1,e2,e3,e4,v1];apply ih'<;>rfl
def aH9(x d:List Ri):Bool:=decide (O x=O d)&&aHo x d
def aLk{x d}(ox:∀a∈x,OkI a)(od:∀a∈d,OkI a)(hx:O x<4611686018427387904):R 91 [.sl 7 (cT x),.sl 7 (cT d),.fn 92 [] []] []=some (B (aH9 x d),[]):=by
 refine au aoL ?_;unfold aH9;by_cases he:O x=O d
 ·have f:=aa (O x=(O d:Int));rw[decide_eq_true he,aEW];have hL:=aKS ox od hx he x d 0 Z Z (aE9 _);generalize hLL:aB (am R (aA false) afi) [1,2,15,16,17] []=L at hL;have hXL:∀s h,am R (aA false) (.loop [1,2,15,16,17] [] afi) s h=L s h:=fun s h=>by rw[←hLL];rfl
  have hL2:∀S h X,ao 0 [] (L S h)=X->S 1=.sl 7 (cT d)->S 2=.fn 92 [] []->S 15=.sl 7 (cT x)->S 16=I (O x)->S 17=I 0->
    ∃hh,X=if aHo x d=true then some (.normal,⟨fun _=>.any,hh⟩)else some (.ret,⟨upd ce 6 (B false),hh⟩):=fun S h X hX a b c d e=>by
   rw[←hX];exact hL S h a b c d e
  simp only[afk,afu,go_sem,f,hXL];generalize hX2:ao 0 [] (L _ _)=X;obtain⟨hh,g0⟩:=hL2 _ _ _ hX2 Z Z Z Z Z;rw[g0];cases aHo x d with
  |true=>
   simp only[go_sem]
  |false=>
   simp only[go_sem]
 ·have f:=aP (O x=(O d:Int));rw[decide_eq_false he,aE0];simp only[afk,afu,go_sem,f]
noncomputable def aHp (s:Rs) (a:Rm) (x:List Ri):Ri:=if(xI s [a]&&aH9 x s.dom)=true then de (wL a.P x s.p) a.R s.p else bt
def aKl{s}{a}{x}(os:OkS s)(oa:OkM a)(ox:∀b∈x,OkI b)(hx:O x<=100000):R 28 [ej s,bB a,.sl 7 (cT x)] []=some (ae (aHp s a x),[]):=by
 refine au aH1 ?_;have h1:=EO os (l:=[a]) (anM oa) σ;have h2:=dW;unfold aHp;simp only[aFr,aFB]at h1;cases g:xI s [a]with
 |false=>
  rw[g]at h1;simp only[aD9,ae,ah,bt,aC,go_sem,h1,h2]
 |true=>
  rw[g]at h1;have h5:=aLk ox os.d ω;cases g2:aH9 x s.dom with
  |false=>
   rw[g2]at h5;simp only[aD9,ae,ah,bt,aC,go_sem,h1,h2,h5]
  |true=>
   rw[g2]at h5;obtain⟨q1,q2⟩:=DF g;obtain⟨a1,_⟩:=oG oa (q2 a σ);have h3:=FL (p:=s.p) a1 ox hx;have k1:=(xR (p:=s.p) a1 ox hx).1;have h4:=xN k1 oa.r (p:=s.p);simp only[bj,ae,ah]at h3 h4;simp only[aD9,ae,ah,go_sem,h1,h3,h4,h5]
def inc(l:List Int)(i:Nat):List Int:=l.set i (l.getD i 0+1)
theorem ae5(l)(i):O (inc l i)=O l:=by simp[inc]
theorem atJ{l}{i}(h:i<O l):(inc l i).getD i 0=l.getD i 0+1:=by
 grind[inc]
theorem aq9{l}{i}(h:i<O l):dec (inc l i) i=l:=by
 simp_all[dec,atJ,inc,List.set_set,Int.add_sub_cancel,List.set_getElem_self]
theorem ae6{l}{i}(h:i<O l):cp (inc l i)=cp l+1:=by
 grind[aeM,inc,ae5,aq9]
def anN(x:List Int):Rt:=⟨x,one⟩
def aAk(v:Int)(t:Rt)(i:Nat):Rp:=⟨v,[anN (inc t.exps i)]⟩
structure VS (v:Int) (i:Nat) (t:Rt):Prop where
 vt:VT v t
 hd:cp t.exps<=16
 hi:i<O t.exps
def VZ{l}{i}(h:∀e∈l,0<=e/\e<=32)(hi:i<O l):0<=l.getD i 0/\l.getD i 0<=cp l:=by
 simp_all[Kf]
theorem VS.inc{v}{i}{t}(h:VS v i t){d}(od:Ok0 d)(vdd:vd d=true)(nd:O d.m≠0):VT v ⟨inc t.exps i,d⟩:=by
 obtain⟨x1,x2⟩:=VZ h.vt.b h.hi;have:=h.hd;refine⟨od,by rw[ae5];exact h.vt.len,h.vt.v8,vdd,nd,fun e he=>?_,by rw[ae6 h.hi];omega⟩;rcases List.mem_or_eq_of_mem_set he with h2|rfl
 ·exact h.vt.b e h2
 omega
theorem VS.one{v}{i}{t}(h:VS v i t):VT v (anN (Go.Ab.inc t.exps i)):=h.inc gg.2 gg.1 δ
def VS.oneC{v}{i}{t}(h:VS v i t):Cl v [anN (Go.Ab.inc t.exps i)]:=Cl.mk' h.one (fun _ h=>nomatch h) (Cl.nil _)
theorem VS.vp{v}{i}{t}(h:VS v i t)(h0:0<=v):vp (aAk v t i)=true:=Lx h.oneC h0 h.vt.v8 γ
def VS.intD{v}{i}{t}(h:VS v i t):Ok0 (intD (t.exps.getD i 0+1))/\vd (intD (t.exps.getD i 0+1))=true:=by
 obtain⟨x1,x2⟩:=VZ h.vt.b h.hi;have:=h.hd;obtain⟨k1,k2,_⟩:=aqz (e:=t.exps.getD i 0+1) ω ω;grind
def ub(v i:Nat):List Int:=(oW v).set i 1
def anO(v i:Nat):Rp:=⟨v,[⟨ub v i,one⟩]⟩
theorem RJ(v i):O (ub v i)=v:=by simp[ub,oW]
theorem anP{v i}(h:i<v):cp (ub v i)=1:=by
 have:=ae6 (l:=oW v) (i:=i) (by grind[oW]);grind[VJ,inc,oW,ub]
def atK{v i:Nat}(h8:v<=8)(h:i<v):VT v ⟨ub v i,one⟩:=by
 refine⟨gg.2,by grind[ub,RJ],by omega,gg.1,(by show 1≠0;decide),fun e he=>?_,by grind[anP]⟩;rcases List.mem_or_eq_of_mem_set he with h|rfl
 ·exact aoV e h
 omega
def atL{v:Nat}{i}:R 81 [I v,I i] []=some (if v<=8/\0<=i/\i<v then pV (anO v i.toNat,0)else pV (p0,2),[]):=by
 refine au agX ?_;have e1:=aP ((v:Int)<0);by_cases g:v<=8/\0<=i/\i<v
 ·rw[ap g];obtain⟨h8,g1,g2⟩:=g;obtain⟨n,rfl⟩:=aFy g1;have hn:n<v:=ω
  have e2:=aP (8< (v:Int));have e3:=aP ((n:Int)<0);have e4:=aP (v<=(n:Int));have z1:oH (.v (.int .i64 v)) (.v (.int .i64 v))=some (v,v):=by
   grind[oH]
  have z2:=aa (v*8<=140737488355328);have he:=B1 (v:=v);have h1:=Nw;simp only[af,ak]at h1;have ei:Int.toNat n=n:=aEY _;have k0:(aY (oW v)).set n [I 1]=aY (ub v n):=aeu _ _ _;have k3:(aY (oW v))[n]?=some [I 0]:=by grind[aY,oW]
  have e7:(0<=(n:Int)/\n< (v:Int))=True:=eq_true ⟨by omega,by omega⟩;simp only[xL,go_sem,e1,e2,e3,e4,h1,he,qL,z1,z2,abA,e7,ei,k0,k3,aES];have k1:(v<=O (ub v n))=True:=eq_true (by simp_all[RJ,aET]);have k2:(aY (ub v n)).take v=aY (ub v n):=aFi (by simp_all[qW,RJ,aET]);simp only[↓reduceIte, *];have hadd:=dQ (aV.1.2.1 false) rfl (qK (d:=34) (id:=2240) (v:=v) (e:=0) (e':=0) (c:=.emp) (l:=[]) (x:=ub v n) (q:=one) (h:=upd (upd (upd (upd (upd (fun _=>.dead) 4 (.bx [I 0,.emp])) 25 (.ar 1 (aY (oW v)))) 25 (.ar 1 (aY (ub v n)))) 2240 (.bx [I v,.emp,I 0])) 25 (.fz 1 (aY (ub v n)))) rfl (.inr ⟨rfl,rfl⟩) (.inl rfl) (Rl (atK h8 hn)));simp only[af,ak,t3]at hadd;simp only[hadd,go_sem];obtain⟨o,hdn⟩:=Cz (v:=v) (e:=0) (c:=.osl 4 (aU [⟨ub v n,one⟩])) (l:=[⟨ub v n,one⟩]) (d:=36) (id:=2240) (h:=upd (upd (upd (upd (upd (upd (fun _=>.dead) 4 (.bx [I 0,.emp])) 25 (.ar 1 (aY (oW v)))) 25 (.ar 1 (aY (ub v n)))) 2240 (.bx [I v,.emp,I 0])) 25 (.fz 1 (aY (ub v n)))) 2240 (.bx [I v,.osl 4 (aU [⟨ub v n,one⟩]),I 0])) rfl (.inl rfl) rfl;have hd':=dQ (bE.1.2.1 false) rfl hdn;rw[hd'];have e4:oC v (some [⟨ub v n,one⟩])=(anO v n,0):=rfl;have e5:=Ka [⟨ub v n,one⟩];rw[e4];simp only[pV,bj,e5,go_sem]
 ·rw[av g];by_cases g1:v<=8
  ·have e2:=aP (8< (v:Int));by_cases g2:0<=i
   ·have e3:=aP (i<0);have e4:=aa (v<=i);simp only[xL,go_sem,e1,e2,e3,e4];rfl
   ·have e3:=aa (i<0);simp only[xL,go_sem,e1,e2,e3];rfl
  ·have e2:=aa (8< (v:Int));simp only[xL,go_sem,e1,e2];rfl
noncomputable def V0 (s:Rs) (i:Int):Rm:=if(fg s&&decide (0<=i/\i<O s.dom))=true then⟨anO (O s.dom) i.toNat,cM⟩else cu s
def ae7{s}{i}(os:OkS s):R 24 [ej s,I i] []=some (bB (V0 s i),[]):=by
 refine au acV ?_;have h1:=pB os.d os.n;have h2:=CG (s:=s);have h3:=atL (v:=O s.dom) (i:=i);have h4:=Xd;unfold V0;by_cases g:O s.dom<=8/\0<=i/\i<O s.dom
 ·rw[ap g]at h3;rw[decide_eq_true g.2,aFE];simp only[pV,bj,ae,ah]at h3 h4;cases g1:fg s with
  |false=>
   rw[g1]at h1;simp only[uI,go_sem,h1,h2,h3]
  |true=>
   rw[g1]at h1;simp only[uI,go_sem,h1,h3,h4]
 ·rw[av g]at h3;have gf:(fg s&&decide (0<=i/\i<O s.dom))=false:=by
   grind[g1,fg,decide_eq_false,jA]
  rw[gf,av aE3];simp only[pV,bj,p0]at h3;have f:((2:Int)=0)=False:=eq_false δ;cases g1:fg s with
  |false=>
   rw[g1]at h1;simp only[uI,go_sem,h1,h2,h3]
  |true=>
   rw[g1]at h1;simp only[uI,go_sem,h1,h2,h3,f]
noncomputable def kK (s:Rs) (x:Ri):Rm:=if(fg s&&kI x)=true then lA s (abF (O s.dom) (DG x s.p)) 0 (EI x ⟨DG x s.p,DG x s.p,false⟩ s.p)else cu s
def ae8{v:Nat}{c}(h8:v<=8)(oc:Ok0 c)(vc:vd c=true):Cl v (abE v c):=by
 grind[abE,Cl.nil,Cl.mk',akl]
def vU{s}{x}(os:OkS s)(ox:OkI x):R 23 [ej s,ae x] []=some (bB (kK s x),[]):=by
 refine au XQ ?_;have h1:=pB os.d os.n;have h2:=CG (s:=s);have hv:=mL ox;unfold kK;simp only[ae,ah]at hv;cases g:fg s with
 |false=>
  rw[g]at h1;simp only[qM,ae,ah,go_sem,h1,h2]
 |true=>
 rw[g]at h1;unfold kI;cases g2:x.all with
 |true=>
  simp only[qM,ae,ah,go_sem,h1,h2,g2]
 |false=>
 rw[g2]at hv;cases g3:vi x with
 |false=>
  rw[g3]at hv;simp only[qM,ae,ah,go_sem,h1,h2,g2,hv]
 |true=>
 rw[g3]at hv;have h8:=(jA g).1;have hl:O s.dom<=100000:=ω
 have hm:=akK ox (p:=s.p);obtain⟨mv,mo⟩:=EP (p:=s.p) ox;have hs:=anu h8 mo mv;have hp:=fY mo mv;have pok:OkI ⟨DG x s.p,DG x s.p,false⟩:=⟨mo,mo⟩;have u1:=OW ox pok (p:=s.p);have h5:=LH (q:=abF (O s.dom) (DG x s.p)) (e:=0) (r:=EI x ⟨DG x s.p,DG x s.p,false⟩ s.p) os (pX (ae8 h8 mo mv)) O9 hl;simp only[pV,bj,ae,ah,af,ak,g2]at hm hs hp u1 h5;simp only[qM,ae,ah,go_sem,h1,h5,g2,hv,hm,hs,hp,u1]
theorem atM{neg}{M n}{e}(h:M<=2^n)(hn:1<=n):ag (ab (aZ neg M e).m)<=n:=by
 by_cases h0:M=0
 ·subst h0;exact aE9 _
 ·obtain⟨k1,_,k3,_⟩:=tV (neg:=neg) (e:=e) h0;rw[k1,bH];have h2:M/2^tz M<=M:=aF1 _ _;grind
theorem aAl{M n}{e}{more up}:qI up (rF M e more (fV M e (n:Nat)))<=2^n:=by
 have key:(rF M e more (fV M e n)).1<2^n:=by
  obtain⟨u,hu⟩:∃u,fV M e n=u:=⟨_,rfl⟩;have hu2:e+(ag M)-n<=u:=by
   grind[fV]
  unfold rF;split
  ·by_cases h0:M=0
   ·grind
   ·rw[←bH,eB _ h0];omega
  ·rw[←bH,pp];omega
 grind[qI]
theorem akM{M n}{e}{more up}(hn:1<=n):ag (ab (cx M e more (n:Nat) up).1.m)<=n:=by
 have h0:ag (ab aC.m)<=n:=aE9 _;have hc:∀q u,q<=2^n->ag (ab (cA (aZ false q u)).1.m)<=n:=fun q u hq=>by
  unfold cA;split
  all_goals simp_all[atM]
 grind[cx,tU,aEY,Nat.sub_le,aAl]
def atN{z f}{n}{up}(hn:1<=n):ag (ab (kS z f (n:Nat) up).1.m)<=n:=by
 have h0:ag (ab aC.m)<=n:=aE9 _;unfold kS;split
 ·omega
 ·unfold iq;split
  ·unfold gW;grind[akM]
  grind[akM]
theorem ara{d}{n}{up}(hn:1<=n):ag (ab (bY d (n:Nat) up).1.m)<=n:=by
 unfold bY;split
 ·exact atN hn
 ·exact aE9 _
def akN{d}{p}(hp:bv p=true):Ia (qF d p).1 p=true:=by
 have hp2:=pZ hp;obtain⟨n,rfl⟩:=aFy (show 0<=p by omega);have hb:ag (ab (qF d n).1.m)<=n:=by
  unfold qF;split
  ·split
   ·grind[O6,abR,ara]
   ·exact aE9 _
  ·exact aE9 _
 simp_all[Ia,LG,aEW,decide_eq_true]
def abW{p}(hp:bv p=true):∀ {ts} {q},DD p ts=some q->∀t∈q.1,Ia t.c p=true
 |[],q,h=>by
  cases h;grind
 |t::ts,q,h=>by
  unfold DD at h;split at h
  ·split at h
   ·rw[aEU]at h;obtain⟨q2,h2,rfl⟩:=h;have ih:=abW hp h2;intro y hy;unfold fW at hy;split at hy
    ·exact ih y hy
    ·rcases List.mem_cons.1 hy with rfl|hy
     ·exact akN hp
     ·exact ih y hy
   ·cases h
  ·cases h
theorem anQ{a}{o}(ho:-1<=o)(h:∀t∈a.terms,cp t.exps<=o):nH a<=o:=by
 grind[nH]
theorem arb{s}(h:fg s=true):1<=O s.dom/\1<=s.ord:=by
 simp_all[fg,aEV,decide_eq_true_eq]
theorem YH{s}{m:Rm}(hs:fg s=true)(c:Cl (O s.dom) m.P.terms)(hv:m.P.vars=O s.dom)(hl:O m.P.terms<=500)(hd:∀t∈m.P.terms,cp t.exps<=s.ord)(hr:vi m.R=true)(hi:∀t∈m.P.terms,Ia t.c s.p=true):AC s m=true:=by
 unfold AC;have h8:=(jA hs).1;have hp:vp m.P=true:=by
  have:m.P=⟨O s.dom,m.P.terms⟩:=by rw[←hv]
  grind[Lx]
 rw[hs,hp,decide_eq_true hv,decide_eq_true (anQ (by grind[arb]) hd),hr,aEW,aEW,aEW,aEW,aEW,aFS,List.any_eq_false];grind
theorem ahI{s}(hs:fg s=true):AC s (cu s)=true:=YH hs (Cl.nil _) rfl (aE9 _) (fun _ h=>nomatch h) rfl (fun _ h=>nomatch h)
def ahJ{s}{q}{e}{r}(oq:OkP q)(os:OkS s)(hs:fg s=true)(hq:vp q=true->q.vars=O s.dom)(ir:∃q,In q r):AC s (lA s q e r)=true:=by
 have hl:O s.dom<=100000:=by grind[jA]
 have hp:=(jA hs).2;obtain⟨_,m2,m3,_⟩:=abV (e:=e) oq os hl (fun _=>hq) ir;by_cases hz:lA s q e r=cu s
 ·grind[ahI]
 have hm:(iI (gI q s.ord).1 s.p).2=0/\(lA s q e r).P=⟨O s.dom,(iI (gI q s.ord).1 s.p).1.1.terms⟩:=by
  unfold lA at hz⊢;split at hz
  ·split at hz
   ·rename_i hc;unfold DE at hc⊢;grind
   grind
  grind
 obtain⟨h0,hP⟩:=hm;have key:∀t∈ (iI (gI q s.ord).1 s.p).1.1.terms,cp t.exps<=s.ord/\Ia t.c s.p=true:=by
  unfold iI at h0⊢;split at h0
  ·rename_i k1;rw[ap k1];split at h0
   ·omega
   ·rename_i k2;rw[av k2];split at h0
    ·omega
    ·rename_i o q2 hr;obtain⟨c1,_⟩:=I7 (o:=s.ord) oq;obtain⟨⟨_,_,k3⟩,_⟩:=O7 c1.1 hr;intro t ht;refine⟨?_,abW hp hr t ht⟩;obtain⟨y,hy,he⟩:=k3 t ht;unfold gI at hy;split at hy
     all_goals simp_all[W7,of_decide_eq_true,absurd,p0]
  omega
 have hlen:(iI (gI q s.ord).1 s.p).1.1.terms.length<=500:=by
  unfold iI at h0⊢;split at h0
  ·rename_i k1;split at h0
   ·omega
   ·split at h0
    ·omega
    ·rename_i o q2 hr;obtain⟨c1,_⟩:=I7 (o:=s.ord) oq;obtain⟨⟨_,k3,_⟩,_⟩:=O7 c1.1 hr;have k4:=(Tv k1).2.2.1;grind
  omega
 grind[YH]
theorem arc{n}{a k}:cG n (a*2^k)=cG n a*2^k:=by
 grind[cG,aF2,Int.neg_mul]
theorem anR{c}{p}{up}(ok:Ok0 c)(vc:vd c=true)(hp:bv p=true)(hb:(ag (ab c.m))<=p):bY c p up=(c,0):=by
 have hp2:=pZ hp;by_cases h0:O c.m=0
 ·grind[GY,abH]
 have hi:=by
  have h:=vc;unfold vd at h;rw[av h0]at h;have o:=Kd vc h0;simp only[aEV,decide_eq_true_eq]at h;have hi:=Ew h.2.2.2 (by have:=(mE (n:=ab c.m) (k:=0)).2 ω;omega);omega
 unfold bY;rw[ap (by grind[bo]),show zI c=cG c.neg (mg c)from rfl];unfold mg;rw[arc,WG,show(-16384)+(c.e+16384).toNat=c.e by omega,←Tp hp2];have hk:Nu (ab c.m) c.e p=0:=by grind[Nu]
 simp_all[HS,Vk,ab,Nat.pow_zero,Nat.mod_one,Nat.div_one,Ez,av,I2]
def akO{c}{p}(ok:Ok0 c)(vc:vd c=true)(hp:bv p=true)(hb:(ag (ab c.m))<=p):qF c p=(c,0):=by
 simp_all[qF,anR,ap,O6,abR]
theorem akP{c}(vc:vd c=true):qE c c=(aC,0):=by
 unfold qE;rw[vc,aFI,ap rfl,Int.sub_self];exact HZ rfl
theorem abX{p}(hp:bv p=true):∀ts,(∀t∈ts,Ok0 t.c/\O t.c.m≠0/\Ia t.c p=true)->DD p ts=some (ts,[])
 |[],_=>rfl
 |t::ts,h=>by
  obtain⟨h1,h2,h3⟩:=h t σ;unfold Ia at h3;simp only[aEV,decide_eq_true_eq]at h3;have hn:=akO h1 h3.2.1 hp h3.2.2;unfold DD;rw[hn,ap rfl,akP h3.2.1,ap rfl,abX hp ts fun t ht=>h t (by simp[ht])];show some (fW t.exps t.c ts,fW t.exps aC [])=_;unfold fW;rw[av h2,ap (show O aC.m=0 from rfl)]
structure Fit (s:Rs) (q:Rp):Prop where
 v:q.vars=O s.dom
 n:O q.terms<=500
 c:Cl (O s.dom) q.terms
 d:∀t∈q.terms,cp t.exps<=s.ord
 r:∀t∈q.terms,Ia t.c s.p=true
theorem Fit.ok{s}{q}(h:Fit s q):OkP q:=⟨fun t ht=>(h.c.t t ht).ok⟩
theorem Fit.vp{s}{q}(hs:fg s=true)(h:Fit s q):vp q=true:=by
 have:=h.v;obtain⟨v,l⟩:=q;subst this;exact Lx h.c ω (by have:=(jA hs).1;omega) h.n
theorem akQ{s}{q}(hs:fg s=true)(h:Fit s q):gI q s.ord=(q,⟨q.vars,[]⟩):=by
 unfold gI;rw[ap (h.vp hs),List.filter_eq_self.2 fun t ht=>by exact decide_eq_true (h.d t ht),List.filter_eq_nil_iff.2 fun t ht=>by unfold TN;rw[decide_eq_true (h.d t ht)];grind]
theorem akR{s}{q}(hs:fg s=true)(h:Fit s q):iI q s.p=((q,⟨q.vars,[]⟩),0):=by
 have hp:=(jA hs).2;have hp2:=pZ hp;unfold iI;rw[ap (h.vp hs),av ω,abX hp _ fun t ht=>⟨(h.c.t t ht).c,(h.c.t t ht).nz,h.r t ht⟩]
theorem Kq{p}(hp:bv p=true):de cM cM p=cM:=by
 unfold de;rw[(B4 (m:=0)).k,hp,aFI,aFI,ap rfl];show kD (dh aC aC p false) (dh aC aC p true)=_;rw[akn,akn,abH hp,abH hp];rfl
theorem ard{v p}{dom}:wL ⟨v,[]⟩ dom p=cM:=by
 simp_all[wL,ap]
theorem are{s}{q}(hs:fg s=true)(h:Fit s q):DE s q=((q,cM),true):=by
 unfold DE;simp only[akQ hs h,akR hs h,ard,Kq (jA hs).2,←h.v];rfl
def arf{x}(hv:OkI x)(h:EM x yE=true):Bd 0 x:=by
 unfold EM at h;split at h
 ·rename_i g;obtain⟨g1,g2,g3⟩:=g;simp only[yE,Bool.false_or,aEV,decide_eq_true_eq]at h;have h5:=of_decide_eq_true h.1;have h6:=of_decide_eq_true h.2;have k:kI x=true:=by grind[kI,g1]
  obtain⟨_,v1,v2⟩:=DH k;have hl:zI x.lo<=zI x.hi:=by
   simp_all[vi,g1,av,aEV,decide_eq_true_eq]
  have e1:zI one=(2^ (16384+0):Nat):=RG (n:=false) (k:=0);have e2:zI rX=-(2^ (16384+0):Nat):=RG (n:=true) (k:=0);refine⟨⟨qv x.lo,Or.inr ⟨g3,⟨⟨v1,hv.1⟩,⟨v2,hv.2⟩⟩,Rat.le_refl,Fc.2 hl⟩⟩,g3,?_,?_⟩<;> (unfold Ld;generalize 2^ (16384+0)=T at e1 e2⊢;omega)
 grind[yE]
theorem akT{s}(os:OkS s)(hs:fg s=true):∀x∈s.dom,Bd 0 x:=fun x hx=>by
 unfold fg at hs;exact arf (os.d x hx) γ
def arg{s}(os:OkS s)(hs:fg s=true){q}(hv:vp q=true)(h:q.vars=O s.dom):rT q s.dom=true:=by
 unfold rT;rw[hv,decide_eq_true h.symm,aEW,aEW,aFS,List.any_eq_false];exact fun x hx=>by rw[(akT os hs x hx).k];grind
def atO{s}(os:OkS s)(hs:fg s=true){q}{m}(oq:OkP q)(hv:vp q=true)(h:q.vars=O s.dom)(hc:∀t∈q.terms,Ld m t.c)(hm:m+O q.terms<16384):Bd (m+O q.terms) (wL q s.dom s.p):=by
 have hp:=(jA hs).2;have hd:=arg os hs hv h;have hcl:=(gw oq hv).1;by_cases h0:O q.terms=0
 ·simp_all[wL,ap,B4]
 ·have hb:Bd (m+O q.terms) (tD q s.dom s.p):=by
   unfold tD;rw[hd,hp,aFI,ap rfl];exact akI (k:=0) hp (akT os hs) q.terms _ hm (fun t ht=>⟨(hcl.t t ht).vc,(hcl.t t ht).c,hc t ht,fun e he=>((hcl.t t ht).b e he).2⟩) B4
  exact(atH oq os.d (by grind[jA]) hd hp h0 hb.a).bd hb
def Mk(a b:Rat)(q:Rat->Rat->Rat):Prop:=∃C,0<=C/\∀x y,a<=x->x<=b->a<=y->y<=b→-C<=q x y/\q x y<=C
theorem Mk.add{a b}{p q}(hp:Mk a b p)(hq:Mk a b q):Mk a b fun x y=>p x y+q x y:=by
 obtain⟨C,c0,hc⟩:=hp;obtain⟨D,d0,hd⟩:=hq;refine⟨C+D,by grind,fun x y h1 h2 h3 h4=>?_⟩;grind
def Mk.mul{a b}{p q}(hp:Mk a b p)(hq:Mk a b q):Mk a b fun x y=>p x y*q x y:=by
 obtain⟨C,c0,hc⟩:=hp;obtain⟨D,d0,hd⟩:=hq;refine⟨C*D,Rat.mul_nonneg c0 d0,fun x y h1 h2 h3 h4=>?_⟩;obtain⟨u1,u2⟩:=hc x y h1 h2 h3 h4;obtain⟨v1,v2⟩:=hd x y h1 h2 h3 h4;show-(C*D)<=p x y*q x y/\p x y*q x y<=C*D;generalize p x y=u at*
 generalize q x y=v at*
 have k1:=Rat.mul_nonneg (show 0<=C-u by grind) (show 0<=D-v by grind);have k2:=Rat.mul_nonneg (show 0<=C+u by grind) (show 0<=D+v by grind);have k3:=Rat.mul_nonneg (show 0<=C-u by grind) (show 0<=D+v by grind);have k4:=Rat.mul_nonneg (show 0<=C+u by grind) (show 0<=D-v by grind);grind
theorem Mk.c{a b}(k):Mk a b fun _ _=>k:=by
 rcases Rat.le_total (a:=0) (b:=k)with h|h
 ·exact⟨k,h,fun _ _ _ _ _ _=>by grind⟩
 ·exact⟨-k,by grind,fun _ _ _ _ _ _=>by grind⟩
def Smo(a b:Rat)(f g:Rat->Rat):Prop:=∃q,Mk a b q/\∀x y,f y-f x-g x*(y-x)=(y-x)*(y-x)*q x y
theorem Smo.lin{a b c d}{f g f' g'}(h1:Smo a b f g)(h2:Smo a b f' g')(hd:d=c):Smo a b (fun x=>c*f x+f' x) fun x=>d*g x+g' x:=by
 obtain⟨q,hq,e⟩:=h1;obtain⟨q',hq',e'⟩:=h2;refine⟨fun x y=>d*q x y+q' x y,((Mk.c _).mul hq).add hq',fun x y=>?_⟩;grind
def u8R(l:List Nat):List (List AV):=l.map fun k=>[.v (.int .u8 (k:Nat))]
@[go_sem] theorem aCP(l):O (u8R l)=O l:=by simp[u8R]
theorem aHq(x:Rat)(m:Nat):∀n,x^ (m+n)=x^m*x^n
 |0=>by grind
 |n+1=>by rw[←aFZ,Rat.pow_succ,aHq x m n,Rat.pow_succ,Rat.mul_assoc]
theorem aJR:∀ {es} {xs},P8 (xs.map qv) (Km es)=(pwZ es xs)*EQ^dg es xs
 |e::es,x::xs=>by
  show qv x^e.toNat*P8 (xs.map qv) (Km es)=(zI x^e.toNat*pwZ es xs:Int)*EQ^ (e.toNat+dg es xs);rw[aJR,aHq,Rat.intCast_mul];have:qv x^e.toNat=(zI x^e.toNat:Int)*EQ^e.toNat:=by
   generalize e.toNat=n;induction n with
   |zero=>grind
   |succ n ih=>
    grind[qv]
  grind
 |[],xs=>by
  show P8 _ _=(1:Int)*EQ^0
  simp_all[Rat.pow_zero,Km,P8]
 |e::es,[]=>by
  show 1=(1:Int)*EQ^0;grind
def aG9{xs:List Rd}{W:Int}(hW:(W:Rat)*EQ=1){w:Int}:∀ {l:List Rt},(∀t∈l,VT w t)->fv (xs.map qv) l*(W:Rat)^32=EQ*(mM l (fun u=>pwZ u xs*W^ (32-dg u xs)):Rat)
 |[],_=>by show(0:Rat)*_=EQ*((0:Int):Rat);simp
 |t::l,h=>by
  have ih:=aG9 (xs:=xs) hW (l:=l) fun t ht=>h t (List.mem_cons_of_mem _ ht);have hd:=(h t σ).dg xs;show(qv t.c*P8 (xs.map qv) (Km t.exps)+fv (xs.map qv) l)*(W:Rat)^32=EQ*((zI t.c*(pwZ t.exps xs*W^ (32-dg t.exps xs))+mM l _:Int):Rat);rw[Rat.intCast_add,Rat.mul_add,←ih,aJR,Rat.intCast_mul,Rat.intCast_mul];have e2:∀n:Nat,(W:Rat)^n*EQ^n=1:=fun n=>by
   induction n with
   |zero=>grind
   |succ n ih=>
    grind
  have e3:(W:Rat)^32=(W:Rat)^ (32-dg t.exps xs)*(W:Rat)^dg t.exps xs:=by rw[←aHq];grind
  grind[dg,qv,zI,EQ]
theorem aLl{a b}{xs:List Rd}(oa:OkP a)(ob:OkP b)(h:(EF a b).2=0):fv (xs.map qv) (EF a b).1.terms=fv (xs.map qv) a.terms+fv (xs.map qv) b.terms:=by
 obtain⟨pa,pb,pc,f⟩:=aqe oa ob h;have hW:((2:Int)^16384:Int)*EQ=1:=by
  have:=NI 16384;rw[Rat.mul_comm];exact this
 have q1:=aG9 (xs:=xs) hW pa.cl.t;have q2:=aG9 (xs:=xs) hW pb.cl.t;have q3:=aG9 (xs:=xs) hW pc.cl.t;rw[f,Rat.intCast_add,Rat.mul_add,←q1,←q2,←Rat.add_mul]at q3;grind
def cE(dom:List Ri)(k j:Nat):Rd:=if k/2^j%2=1 then(dom.getD j bt).hi else(dom.getD j bt).lo
theorem TW{z}{k:Nat}{e}:fF (z*(2^k:Nat)) e=fF z (e+k):=by
 have hp:=Int.natCast_pos.2 (aE7 k);generalize hP:(2^k)=P at hp;grind[Int.mul_nonneg,Int.le_of_lt,Int.mul_neg_of_neg_of_pos,fF,Int.natAbs_mul,Int.natAbs_natCast,nR]
def arh:∃k:Nat,(k:Int)=16384/\zI rX=-(2^k:Nat):=by
 refine⟨(rX.e+16384).toNat,by simp[rX],?_⟩;grind[zI,rX,cG,mg,ab]
theorem akU{v}{t}(h:VT v t):dX t.c rX=((qD t).c,0):=by
 have g:=OR h;unfold dX;rw[h.vc,G5.1,aFI,ap rfl];obtain⟨k,hk,hz⟩:=arh;have e:zI t.c*-(2^k:Nat)=zI (qD t).c*(2^k:Nat):=by
  rw[aep,Int.mul_neg,Int.neg_mul]
 rw[hz,e,TW,show(-32768:Int)+k=-16384 by omega,Kc g.c g.vc,HZ g.vc]
theorem Xi{v}:∀ {ts},Cl v ts->A8 rX ts=some (ts.map qD)
 |[],_=>rfl
 |t::ts,c=>by
  obtain⟨vt,_,c2⟩:=c.cons;unfold A8;rw[akU vt,ap rfl,Xi c2];rfl
theorem adj{a}(oa:OkP a)(va:vp a=true):Bm a rX=(⟨a.vars,a.terms.map qD⟩,0):=by
 unfold Bm;rw[ap ⟨va,G5.1⟩,av (show¬(O rX.m)=0 by decide),Xi (gw oa va).1]
def aAm:Rd:=⟨false,[1],1⟩
theorem abZ:dX one one=(one,0):=by
 unfold dX;rw[gg.1,aFI,ap rfl];have h:zI one=(2^ (16384+0):Nat):=RG (n:=false) (k:=0);have h2:=TW (z:=zI one) (k:=16384+0) (e:=-32768);rw[←h]at h2;rw[h2,show(-32768)+((16384+0:Nat):Int)=-16384 by omega,Kc gg.2 gg.1,HZ gg.1]
def s0:Rs:=⟨[yE],2,24⟩
abbrev tX(n:Int)(c:Rd):Rt:=⟨[n],c⟩
def xP:Rp:=⟨1,[tX 1 one]⟩
def hP:Rp:=⟨1,[tX 3 aAm,tX 4 one]⟩
def aLK{n}{c}(hn:0<=n/\n<=32)(h:vd c=true/\Ok0 c)(h0:O c.m≠0):VT 1 (tX n c):=⟨h.2,rfl,by decide,h.1,h0,fun e he=>by grind,by show n+0<=32;omega⟩
def cl1{a}(h:VT 1 a):Cl 1 [a]:=Cl.mk' h (fun _ h=>nomatch h) (Cl.nil _)
def v1_{n}(hn:0<=n/\n<=32):VT 1 (tX n one):=aLK hn gg δ
def ari:In (qv rX) yE:=Or.inr ⟨rfl,VO.2,Rat.le_refl,Fc.2 (by
 rw[show zI rX=cG true (2^ (16384+0))from RG (k:=0),show zI yE.hi=cG false (2^ (16384+0))from RG (k:=0)];simp only[cG,if_true,aFv,if_false];omega)⟩
def anS{x}{q}(h:In q x)(ha:x.all=false):EM x x=true:=Sb.ins ⟨⟨_,h⟩,Or.inr ⟨ha,ha,⟨_,h⟩,Int.le_refl _,Int.le_refl _⟩⟩
def z3:B5 s0.p cM [cM,cM]=cM:=by
 simp only[B5,Kq (show bv s0.p=true from rfl)]
theorem aJi:KK*EQ=1:=by
 have h:=Vw (a:=one) (b:=one) (by rw[abZ]);rw[abZ]at h;have h1:=aby
 unfold qv at h1;have hk:=by
  refine Int.eq_of_mul_eq_mul_left (fun h0=>?_) h
  simp_all
 grind
noncomputable def K33:Rat:=KK^32*KK
theorem aJS:(KK:Rat)≠0:=fun h=>by
 grind[aJi]
def aLm:K33≠0:=by
 have hp:∀n:Nat,(KK:Rat)^n≠0:=fun n=>by
  induction n with
  |zero=>grind
  |succ n ih=>grind[aJS]
 exact fun h=>(Rat.mul_eq_zero.1 h).elim (hp 32) aJS
theorem aGr{xs}{w}{l}(h:∀t∈l,VT w t):fv (xs.map qv) l*K33=(mM l (ph xs)):=by
 have h1:=aG9 (xs:=xs) aJi h;have h2:(mM l (fun u=>pwZ u xs*KK^ (32-dg u xs)))=(mM l (ph xs)):=rfl;rw[h2]at h1;unfold K33;rw[←Rat.mul_assoc,h1,Rat.mul_comm,←Rat.mul_assoc,aJi,Rat.one_mul]
theorem aKm{x y}(h:x*K33=y*K33):x=y:=by
 have hm:=Rat.mul_inv_cancel _ aLm;grind
theorem aLn{a b}{xs:List Rd}(oa:OkP a)(ob:OkP b)(h:(BY a b).2=0):fv (xs.map qv) (BY a b).1.terms=fv (xs.map qv) a.terms-fv (xs.map qv) b.terms:=by
 obtain⟨pa,pb,pc,f⟩:=aqf oa ob h;refine aKm ?_;rw[aGr pc.cl.t,f,Rat.intCast_sub,←aGr pa.cl.t,←aGr pb.cl.t];grind
theorem aLo{a b}{xs:List Rd}(oa:OkP a)(ob:OkP b)(h3:(DC a b).2=0):fv (xs.map qv) (DC a b).1.terms=fv (xs.map qv) a.terms*fv (xs.map qv) b.terms:=by
 obtain⟨pa,pb,k,f⟩:=aqg oa ob h3;have hfit:∀s∈a.terms,∀t∈b.terms,cp s.exps+cp t.exps<=32:=by
  unfold DC at h3;split at h3
  ·split at h3
   ·omega
   ·rename_i hd;exact Rq oa ob pa.p pb.p hd
  omega
 have la:=pa.cl.t;have lb:=pb.cl.t;have e2:(mM a.terms fun u=>mM b.terms fun v=>ph xs (pA u v))*KK^32=mM a.terms (ph xs)*mM b.terms (ph xs):=by
  rw[Int.mul_comm,←aGQ,Int.mul_comm (mM a.terms (ph xs)),←aGQ];refine aG5 fun t ht=>?_;rw[←aGQ,Int.mul_comm,←aGQ];grind[aG5,aLh,la,Int.mul_comm]
 rw[←f (ph xs)]at e2;have e3:(mM (DC a b).1.terms (ph xs))*K33=(mM a.terms (ph xs))*(mM b.terms (ph xs)):=by
  rw[←Rat.intCast_mul,←e2,Rat.intCast_mul,Rat.intCast_mul,Rat.intCast_pow];grind[K33]
 rw[←aGr la,←aGr lb,←aGr k.cl.t]at e3;grind[aKm]
def aJT{v}{A r1 r2}{xs:List Rd}(c:Cl v A)(c1:Cl v r1)(c2:Cl v r2)(h:Mrg A r1 r2):fv (xs.map qv) A=fv (xs.map qv) r1+fv (xs.map qv) r2:=by
 have h1:=Ly (f:=ph xs) c1 c2.t (aKP c h);refine aKm ?_;rw[aGr c.t,h1,Rat.intCast_add,←aGr c1.t,←aGr c2.t];grind
def Des(m:Rm)(xs:List Rat)(w:Rat):Prop:=In (w-fv xs m.P.terms) m.R
theorem aGh{s}{xs}{w}:Des (cu s) xs w:=Or.inl rfl
def aGS{s}{q}{e}{r}{xs:List Rd}{ts}{w}(os:OkS s)(hs:fg s=true)(oq:OkP q)(hv:e=0->vp q=true/\q.vars=O s.dom)(hpt:Bn s.dom (xs.map qv) ts)(hw:e=0->In (w-fv (xs.map qv) q.terms) r):Des (lA s q e r) (xs.map qv) w:=by
 unfold lA;split
 case isFalse=>exact aGh
 rename_i he;obtain⟨vq,vv⟩:=hv he;have hr:=hw he;obtain⟨cq,v0,v8,vl⟩:=gw oq vq;have hl:O s.dom<=100000:=ω
 have sp:gI q s.ord=(⟨q.vars,q.terms.filter (W7 s.ord)⟩,⟨q.vars,q.terms.filter (TN s.ord)⟩):=by simp_all[gI,ap]
 have n1:=List.length_filter_le (W7 s.ord) q.terms;have n2:=List.length_filter_le (TN s.ord) q.terms;have c1:=cq.filter (W7 s.ord);have c2:=cq.filter (TN s.ord);have f1:=aJT (xs:=xs) cq c1 c2 (aG8 s.ord q.terms);unfold DE;rw[sp];generalize q.terms.filter (W7 s.ord)=lo at*
 generalize q.terms.filter (TN s.ord)=hi at*
 have vlo:=Lx c1 v0 v8 ω;have vhi:=Lx c2 v0 v8 ω;by_cases g:(iI ⟨q.vars,lo⟩ s.p).2=0
 case neg=>
  simp_all[av,aE3,aGh]
 unfold iI at g⊢;rw[ap vlo]at g⊢;split at g
 ·omega
 rename_i hp;rw[av hp];cases hR:DD s.p lo with
 |none=>grind
 |some z=>
  obtain⟨⟨k1,m1,_⟩,k2,m2,_⟩:=O7 c1 hR;have f2:=aJT (xs:=xs) c1 k1 k2 (aHQ c1.t hR);have vr:=Lx k2 v0 v8 ω;have i1:=aGp (p:=s.p) (pX c2) os.d hl (arg os hs vhi vv) hpt;have i2:=aGp (p:=s.p) (pX k2) os.d hl (arg os hs vr vv) hpt;have:=sB (p:=s.p) hr (sB (p:=s.p) i1 i2);show In (w-fv (xs.map qv) z.1) _;grind
section
variable {s:Rs} {a b:Rm} {xs:List Rd} {ts:List Rat} {u v:Rat}
def aKT(os:OkS s)(oa:OkM a)(ob:OkM b)(hpt:Bn s.dom (xs.map qv) ts)(ha:Des a (xs.map qv) u)(hb:Des b (xs.map qv) v):Des (NU s a b) (xs.map qv) (u+v):=by
 unfold NU;split
 case isFalse=>exact aGh
 rename_i h;obtain⟨q1,q2⟩:=DF h;obtain⟨a1,a2,a3,_⟩:=oG oa (q2 a σ);obtain⟨b1,_⟩:=oG ob (q2 b σ);refine aGS os q1 (abe a1 b1) (fun e=>?_) hpt fun e=>?_
 ·obtain⟨_,_,k,_⟩:=aqe a1 b1 e;exact⟨k.p,k.v.trans a3⟩
 ·have:=sB (p:=s.p) ha hb;grind[aLl,fv,qv]
def aKU(os:OkS s)(oa:OkM a)(ob:OkM b)(hpt:Bn s.dom (xs.map qv) ts)(ha:Des a (xs.map qv) u)(hb:Des b (xs.map qv) v):Des (Ic s a b) (xs.map qv) (u-v):=by
 unfold Ic;split
 case isFalse=>exact aGh
 rename_i h;obtain⟨q1,q2⟩:=DF h;obtain⟨a1,a2,a3,_⟩:=oG oa (q2 a σ);obtain⟨b1,_⟩:=oG ob (q2 b σ);refine aGS os q1 (abf a1 b1) (fun e=>?_) hpt fun e=>?_
 ·obtain⟨_,_,k,_⟩:=aqf a1 b1 e;exact⟨k.p,k.v.trans a3⟩
 ·have:=OY (p:=s.p) ha hb;grind[aLn,fv,qv]
def aKV(os:OkS s)(oa:OkM a)(ob:OkM b)(hpt:Bn s.dom (xs.map qv) ts)(ha:Des a (xs.map qv) u)(hb:Des b (xs.map qv) v):Des (zJ s a b) (xs.map qv) (u*v):=by
 unfold zJ;split
 case isFalse=>exact aGh
 rename_i h;obtain⟨q1,q2⟩:=DF h;obtain⟨a1,a2,a3,_⟩:=oG oa (q2 a σ);obtain⟨b1,b2,b3,_⟩:=oG ob (q2 b σ);have hl:O s.dom<=100000:=by grind[jA]
 refine aGS os q1 (abg a1 b1) (fun e=>?_) hpt fun e=>?_
 ·obtain⟨_,_,k,_⟩:=aqg a1 b1 e;exact⟨k.p,k.v.trans a3⟩
 ·have i1:=aGp (p:=s.p) a1 os.d hl (arg os q1 a2 a3) hpt;have i2:=aGp (p:=s.p) b1 os.d hl (arg os q1 b2 b3) hpt;rw[aLo a1 b1 e];unfold Des at ha hb;generalize fv (xs.map qv) a.P.terms=A at*
  generalize fv (xs.map qv) b.P.terms=B at*
  have:=sB (p:=s.p) (sB (p:=s.p) (sC (p:=s.p) i1 hb) (sC (p:=s.p) i2 ha)) (sC (p:=s.p) ha hb);have e2:u*v-A*B=A*(v-B)+B*(u-A)+(u-A)*(v-B):=γ
  rw[e2];exact this
def aIO:qv rX=-1:=by
 have e:zI rX=-zI one:=by
  rw[show zI rX=cG true (2^ (16384+0))from RG (k:=0),show zI one=cG false (2^ (16384+0))from RG (k:=0)];rfl
 rw[←aby];unfold qv;rw[e];grind
def aLp{x}(v:vi x=true)(ha:x.all=true):x=bt:=by
 unfold vi at v;rw[ha]at v;simp at v;obtain⟨l,h,a⟩:=x;simp only at v ha;rw[ao3 v.1,ao3 v.2,ha];rfl
def aLq{x}{d}(ox:OkI x)(h:ahD x d=true):In (qv d) x/\vd d=true:=by
 unfold ahD at h;simp only[aEV,aF0,decide_eq_true_eq]at h;obtain⟨⟨h1,h2⟩,h3⟩:=h;refine⟨?_,h2⟩;cases ha:x.all with
 |true=>exact Or.inl (aLp h1 ha)
 |false=>
  obtain⟨_,v1,v2⟩:=DH (show kI x=true by grind[kI]);rcases h3 with h3| ⟨h3,h4⟩
  ·grind
  ·exact Or.inr ⟨ha,⟨⟨v1,ox.lo⟩,v2,ox.hi⟩,Fc.2 h3,Fc.2 h4⟩
end
def m9(d:Rd):Ri:=⟨d,d,false⟩
def VS.ct{v}{i}{t}(h:VS v i t):R 82 [I (t.exps.getD i 0+1)] []=some (ae ⟨Go.Ab.intD (t.exps.getD i 0+1),Go.Ab.intD (t.exps.getD i 0+1),false⟩,[]):=by
 refine au Me ?_;obtain⟨x1,x2⟩:=VZ h.vt.b h.hi;have:=h.hd;have k1:=aqA (x:=t.exps.getD i 0+1) ω ω;have k2:=fY h.intD.1 h.intD.2;simp only[ae,ah,af,ak]at k1 k2;simp only[zY,ae,ah,go_sem,k1,k2]
section
variable {s:Rs} {a b:Rm} {xs:List Rd} {ts:List Rat} {u v:Rat}
def aLr(os:OkS s)(oa:OkM a)(hpt:Bn s.dom (xs.map qv) ts)(ha:Des a (xs.map qv) u):In u (cQ s a):=by
 unfold cQ;split
 case isFalse=>exact Or.inl rfl
 rename_i h;obtain⟨q1,q2⟩:=DF h;obtain⟨a1,a2,a3,_⟩:=oG oa (q2 a σ);have hl:O s.dom<=100000:=by grind[jA]
 have:=sB (p:=s.p) (aGp (p:=s.p) a1 os.d hl (arg os q1 a2 a3) hpt) ha;grind
def aJU{x}(oa:OkM a)(ox:∀d∈x,OkI d/\kI d=true)(hpt:Bn x (xs.map qv) ts)(ha:Des a (xs.map qv) u):In u (aHp s a x):=by
 unfold aHp;split
 case isFalse=>exact Or.inl rfl
 rename_i h;unfold aH9 at h;simp only[aEV,decide_eq_true_eq]at h;obtain⟨h,hl,_⟩:=h;obtain⟨q1,q2⟩:=DF h;obtain⟨a1,a2,a3,_⟩:=oG oa (q2 a σ);have hd:rT a.P x=true:=by
  simp_all[rT,decide_eq_true,aEW,aFS,List.any_eq_false,aE3]
 have:=sB (p:=s.p) (aGp (p:=s.p) a1 (fun d h=>(ox d h).1) (by grind[jA]) hd hpt) ha;grind
end
def anT{s}{q}{e}{r}(oq:OkP q)(os:OkS s)(hs:fg s=true)(hv:e=0->vp q=true->q.vars=O s.dom)(ir:∃q,In q r):OkM (lA s q e r):=by
 obtain⟨k1,k2,k3,k4⟩:=abV (e:=e) oq os (by grind[jA]) hv ir;exact⟨fun t ht=>(k3.t t ht).c,k1,by omega⟩
def RK{s}:OkM (cu s):=⟨(fun _ h=>nomatch h),gX.ok',by show 0<_;decide⟩
noncomputable def NV (s:Rs) (d:Rm) (c:Ri) (g:Ri->Int->Ri):Nat->Rm->Rm
 |0,out=>out
 |k+1,out=>NV s d c g k (NU s (zJ s out d) (kK s (g c k)))
def vV(x:Ri)(n:Nat)(p:Int):Ri:=if n<=16 then BX x n p else bX (BX x 16 p) (BX x (n-16) p) p
noncomputable def rI (s:Rs) (a:Rm):Rd:=DG (cQ s a) s.p
noncomputable def ab0 (s:Rs) (a:Rm):Rm:=Ic s a (kK s (m9 (rI s a)))
noncomputable def NW (s:Rs) (a:Rm) (g:Ri->Int->Ri):Ri:=bX (g (cQ s a) (s.ord+1)) (vV (EI (cQ s a) (m9 (rI s a)) s.p) (s.ord.toNat+1) s.p) s.p
noncomputable def RL (s:Rs) (a:Rm) (g:Ri->Int->Ri):Rm:=
 VY s (NV s (ab0 s a) (m9 (rI s a)) g s.ord.toNat (kK s (g (m9 (rI s a)) s.ord))) (NW s a g)
def hv(cf:Nat->Rat)(x:Rat):Nat->Rat->Rat
 |0,y=>y
 |k+1,y=>hv cf x k (y*x+cf k)
section
variable {s:Rs} {a b:Rm} {xs:List Rd} {ts:List Rat} {u v:Rat}
def atP{x}{a}{n}{p}(hx:In a x):In (a^n) (vV x n p):=by
 unfold vV;split
 ·exact EJ hx
 ·have:=sC (p:=p) (EJ (n:=16) (p:=p) hx) (EJ (n:=n-16) (p:=p) hx);have e:a^n=a^16*a^ (n-16):=by
   rw[show n=16+(n-16)by omega];grind
  grind
theorem aIP:∀w v,P8 w (Km (oW v))=1
 |[],0=>rfl
 |[],_+1=>rfl
 |_::_,0=>rfl
 |x::w,v+1=>by
  show x^0*P8 w (Km (oW v))=1;rw[aIP w v];grind
theorem aLs{n}{c}{w}:fv w (abF n c).terms=qv c:=by
 unfold abF abE;split
 ·show 0=(zI c)*EQ
  simp_all[cS]
 ·show qv c*P8 w (Km (oW n))+0=_;grind[aIP]
structure VM (s:Rs) (m:Rm):Prop where
 ok:OkM m
 v:AC s m=true
theorem ER(hs:fg s=true):VM s (cu s):=⟨RK,YH hs (Cl.nil _) rfl (aE9 _) (fun _ h=>nomatch h) rfl (fun _ h=>nomatch h)⟩
def Pb{q}{e}{r}(oq:OkP q)(os:OkS s)(hs:fg s=true)(hq:e=0->vp q=true->q.vars=O s.dom)(ir:∃q,In q r):VM s (lA s q e r):=by
 by_cases h:e=0
 ·exact⟨anT oq os hs hq ir,ahJ oq os hs (hq h) ir⟩
 simp_all[lA,av,ER]
def FM{x}(os:OkS s)(hs:fg s=true)(ox:OkI x):VM s (kK s x):=by
 unfold kK;split
 case isFalse=>exact ER hs
 obtain⟨m1,m2⟩:=EP (p:=s.p) ox;obtain⟨q,hq⟩:=GN ox (by grind[kI]);exact Pb (pX (ae8 (jA hs).1 m2 m1)) os hs (fun _ _=>rfl) ⟨_,OY (p:=s.p) hq (wK m1 m2)⟩
def LJ{m}(h:VM s m):∃q,In q m.R:=GN h.ok.r (oG h.ok h.v).2.2.2
def ahK(os:OkS s)(hs:fg s=true)(ha:VM s a)(hb:VM s b):VM s (NU s a b):=by
 unfold NU;split
 case isFalse=>exact ER hs
 obtain⟨a1,_,a3,_⟩:=oG ha.ok ha.v;obtain⟨b1,_⟩:=oG hb.ok hb.v;obtain⟨q,hq⟩:=LJ ha;obtain⟨r,hr⟩:=LJ hb;exact Pb (abe a1 b1) os hs (fun e _=>by
  obtain⟨_,_,k,_⟩:=aqe a1 b1 e;exact k.v.trans a3) ⟨_,sB (p:=s.p) hq hr⟩
def akV(os:OkS s)(hs:fg s=true)(ha:VM s a)(hb:VM s b):VM s (Ic s a b):=by
 unfold Ic;split
 case isFalse=>exact ER hs
 obtain⟨a1,_,a3,_⟩:=oG ha.ok ha.v;obtain⟨b1,_⟩:=oG hb.ok hb.v;obtain⟨q,hq⟩:=LJ ha;obtain⟨r,hr⟩:=LJ hb;exact Pb (abf a1 b1) os hs (fun e _=>by
  obtain⟨_,_,k,_⟩:=aqf a1 b1 e;exact k.v.trans a3) ⟨_,OY (p:=s.p) hq hr⟩
def NX(os:OkS s)(hs:fg s=true)(ha:VM s a)(hb:VM s b):VM s (zJ s a b):=by
 unfold zJ;split
 case isFalse=>exact ER hs
 obtain⟨a1,a2,a3,_⟩:=oG ha.ok ha.v;obtain⟨b1,b2,b3,_⟩:=oG hb.ok hb.v;obtain⟨q,hq⟩:=LJ ha;obtain⟨r,hr⟩:=LJ hb;have hl:O s.dom<=100000:=by grind[jA]
 have k1:=xR (p:=s.p) a1 os.d hl;have k2:=xR (p:=s.p) b1 os.d hl;obtain⟨y,hy⟩:=GN k1.1 k1.2;obtain⟨z,hz⟩:=GN k2.1 k2.2;refine Pb (abg a1 b1) os hs (fun e _=>?_) ⟨_,sB (p:=s.p) (sB (p:=s.p) (sC (p:=s.p) hy hr) (sC (p:=s.p) hz hq)) (sC (p:=s.p) hq hr)⟩;obtain⟨_,_,k,_⟩:=aqg a1 b1 e;exact k.v.trans a3
def atQ{x}(hs:fg s=true)(ha:VM s a)(hx:∃q,In q x):VM s (VY s a x):=by
 unfold VY;split
 case isFalse=>exact ER hs
 obtain⟨q,hq⟩:=LJ ha;obtain⟨r,hr⟩:=hx;have hi:=sB (p:=s.p) hq hr;refine⟨⟨ha.ok.c,hi.ok,ha.ok.n⟩,?_⟩;have h:=ha.v;unfold AC at h⊢;simp only[aEV]at h⊢;exact⟨h.1,h.2.1,h.2.2.1,h.2.2.2.1,hi.v,h.2.2.2.2.2⟩
def aHb{x}(os:OkS s)(ox:OkI x)(hpt:Bn s.dom (xs.map qv) ts)(hx:In v x):Des (kK s x) (xs.map qv) v:=by
 unfold kK;split
 case isFalse=>exact aGh
 rename_i h;rw[aEV]at h;have h8:=(jA h.1).1;obtain⟨m1,m2⟩:=EP (p:=s.p) ox;have hc:=ae8 (v:=O s.dom) h8 m2 m1;refine aGS os h.1 (pX hc) (fun _=>⟨Lx hc ω ω ?_,rfl⟩) hpt fun _=>?_
 all_goals grind[abE,aLs,OY,wK]
def aKW{x}{r}(hx:In r x)(ha:Des a (xs.map qv) u):Des (VY s a x) (xs.map qv) (u+r):=by
 unfold VY;split
 case isFalse=>exact aGh
 have:=sB (p:=s.p) ha hx;show In (u+r-fv (xs.map qv) a.P.terms) (de a.R x s.p);grind
def akW{d}{c}{g}(os:OkS s)(hs:fg s=true)(hd:VM s d)(hg:∀k,OkI (g c k)):∀k out,VM s out->VM s (NV s d c g k out)
 |0,_,h=>h
 |k+1,_,h=>akW os hs hd hg k _ (ahK os hs (NX os hs h hd) (FM os hs (hg k)))
def aIQ{d}{c}{g}{cf}(os:OkS s)(hs:fg s=true)(hd:VM s d)(hg:∀k,OkI (g c k))(hpt:Bn s.dom (xs.map qv) ts)(hx:Des d (xs.map qv) u):∀k out v,(∀j,j<k->In (cf j) (g c j))->VM s out->Des out (xs.map qv) v->Des (NV s d c g k out) (xs.map qv) (hv cf u k v)
 |0,_,_,_,_,h=>h
 |k+1,_,_,hc,ho,h=>aIQ os hs hd hg hpt hx k _ _ (fun j hj=>hc j ω) (ahK os hs (NX os hs ho hd) (FM os hs (hg k)))
   (aKT os (NX os hs ho hd).ok (FM os hs (hg k)).ok hpt (aKV os ho.ok hd.ok hpt h hx) (aHb os (hg k) hpt (hc k ω)))
def aKX{g}{cf}{r}(os:OkS s)(hs:fg s=true)(ha:VM s a)(hg:∀x k,OkI (g x k))(hpt:Bn s.dom (xs.map qv) ts)(hu:Des a (xs.map qv) u)
  (h1:∀j,j<=s.ord.toNat->In (cf j) (g (m9 (rI s a)) j)) (h2:In r (g (cQ s a) (s.ord+1))):Des (RL s a g) (xs.map qv) (hv cf (u-qv (rI s a)) s.ord.toNat (cf s.ord.toNat)+r*(u-qv (rI s a))^ (s.ord.toNat+1)):=by
 have hb:=aLr os ha.ok hpt hu;obtain⟨m1,m2⟩:=EP (p:=s.p) hb.ok;have hc:=wK m1 m2;have vc:=FM os hs hc.ok;have hd:=aKU os ha.ok vc.ok hpt hu (aHb os hc.ok hpt hc);have hn:(s.ord.toNat:Nat)=s.ord:=by
  unfold fg at hs;grind
 refine aKW (sC h2 (atP (OY hb hc))) ?_;have k:=h1 _ (aET _);rw[hn]at k;exact aIQ os hs (akV os hs ha vc) (hg _) hpt hd _ _ _ (fun j hj=>h1 j ω) (FM os hs (hg _ _)) (aHb os (hg _ _) hpt k)
end
theorem anV(o q):az [o,q]=upd (upd (fun _=>.dead) 1000 o) 1001 q:=by
 unfold az upd;funext i;by_cases h1:i=1001
 ·simp_all
 grind
def YI(k){f}{fd}{args}{o q}{r}(hE:cB.E f=none)(hC:cB.C f=some fd)(hk:cB.md.keep f=k)(h1:O args=fd.np)
  (hz:fk k fd.rs fd.res 2 (am R (aA k) fd.body (iW args) (upd (upd (fun _=>.dead) 1000 o) 1001 q))=some r):R f args [o,q]=some r:=by
 grind[Na,anV]
def LK{h}{o q}{rs}{vs us}{r}(h0:((vs.flatMap cF).filter fun i=>!bu i)=[])(h1:h 1000=o)(h4:h 1001=q)(ho:aE [1000,1001] o=true)(hq:aE [1000,1001] q=true)(h2:yf h vs=some us)(h3:zT (bC rs us)=r):xT rs 2 h vs=some (r,[o,q]):=by
 have hp:dJ 2=[1000,1001]:=rfl;unfold xT;rw[h0,hp,h2,ap (by grind[mT])];grind
theorem Kr{h:aj}{i}{o}(hh:h i=o):upd h i o=h:=by
 grind[upd]
section
variable {f g:FuncId} {h:aj} {d i j:Nat} {zas as':List AV} {o q:Ob} {res:AV}
def akX(hm:(aA false).m f=[])(hk:(aA false).keep f=true)(hn:bC ((aA false).sh f) (zas++[ac i,ac j])=as'++[ac i,ac j])(hd:zas.all dat=true)(hd':as'.all dat=true)(hij:i≠j)
  (hi:h i=o) (hj:h j=q) (ho:OC o) (hq:OC q) (hR:R f (as'++[ac 1000,ac 1001]) [o,q]=some (res,[o,q])) (hr:RT res) (h8:cV res<=8) (hfr:bV h (2000+8*d) (cV res)=true):
  bF R (aA false) h d zas (.fn f [] [ac i,ac j])=some (res,h,[]):=by
 have hin:∀l,l.all dat=true->cr h [] (l++[ac i,ac j])=some (l++[ac i,ac j],h,[]):=by
  intro l;induction l with
  |nil=>intro _;rfl
  |cons x l ih=>
   simp_all[aFb,cr,List.headD_nil,NE,aEZ,List.tail_nil,aE8]
 have h1:=hin zas hd;have hp:bD [] ((zas++[ac i,ac j]).flatMap cF)=[i,j]:=by
  rw[List.flatMap_append,B0 fun x hx=>G0 (List.all_eq_true.1 hd x hx)];show bD [] [i,j]=[i,j]
  simp_all[bD,Ne.symm]
 have hre:bO h 40 [i,j] 0=[i,j]:=by
  simp[bO,ho.ids,hq.ids,bD, *]
 have p1:bh [i,j] i=1000:=by simp[bh]
 have p2:bh [i,j] j=1001:=by
  have e:(i==j)=false:=by simpa using hij
  simp[bh,List.idxOf_cons,e]
 have hall:(as'++[ac i,ac j]).all (be [i,j])=true:=by
  grind[Kg,be,bA]
 have hmap:(as'++[ac i,ac j]).map (eG (bh [i,j]))=as'++[ac 1000,ac 1001]:=by
  rw[List.map_append,(aFn (g:=fun c=>c) fun x hx=>G1 (List.all_eq_true.1 hd' x hx) _).trans (aFH as')];grind[eG,lG]
 have hob:([i,j].map fun a=>eP (bh [i,j]) (h a))=[o,q]:=by simp[ho.ren,hq.ren, *]
 have hids:([i,j].all fun a=>aE [i,j] (h a)&&!bS (h a))=true:=by simp[ho.cl,ho.nd,hq.cl,hq.nd, *]
 unfold bF;rw[av (by grind[lH])];simp only[eU,aE5,aEZ, *];unfold lg;rw[hall,hids,hmap,hob,hR,aFI,ap rfl,aEZ,hk,hm,vG];unfold fG;have hbf:dk h [] [i,j] [o,q]=true:=by
  grind[bf,dk]
 have hend:nP h [i,j] [] (res,[o,q])=true:=by
  simp[nP,CP,hr.ok,ho.cl,hq.cl]
 rw[ap ⟨rfl,by simp,h8,hfr,hbf,hend⟩];simp[fw,ie,hr.mat,hr.ren,ho.ren,hq.ren,Kr hi,Kr hj]
def anW(hm:(aA false).m f=[])(hk:(aA false).keep f=false)(hn:bC ((aA false).sh f) (zas++[.fn g [] [ac i,ac j]])=as'++[.fn g [] [ac i,ac j]])(hd:zas.all dat=true)(hd':as'.all dat=true)(hij:i≠j)
  (hi:h i=o) (hj:h j=q) (ho:OC o) (hq:OC q) (hR:R f (as'++[.fn g [] [ac 1000,ac 1001]]) [o,q]=some (res,[o,q])) (hr:RT res) (h8:cV res<=8) (hfr:bV h (2000+8*d) (cV res)=true):
  bF R (aA false) h d (zas++[.fn g [] [ac i,ac j]]) (.fn f [] [])=some (res,h,[(i,true),(j,true)]):=by
 have hin:∀l,l.all dat=true->cr h [] (l++[.fn g [] [ac i,ac j]])=some (l++[.fn g [] [ac i,ac j]],h,[]):=by
  intro l;induction l with
  |nil=>intro _;rfl
  |cons x l ih=>
   simp_all[aFb,cr,List.headD_nil,NE,aEZ,List.tail_nil,aE8]
 have h1:=hin zas hd;have hp:bD [] ((zas++[AV.fn g [] [ac i,ac j]]).flatMap cF)=[i,j]:=by
  rw[List.flatMap_append,B0 fun x hx=>G0 (List.all_eq_true.1 hd x hx)];show bD [] [i,j]=[i,j]
  simp_all[bD,Ne.symm]
 have hre:bO h 40 [i,j] 0=[i,j]:=by
  simp[bO,ho.ids,hq.ids,bD, *]
 have p1:bh [i,j] i=1000:=by simp[bh]
 have p2:bh [i,j] j=1001:=by
  have e:(i==j)=false:=by simpa using hij
  simp[bh,List.idxOf_cons,e]
 have hall:(as'++[AV.fn g [] [ac i,ac j]]).all (be [i,j])=true:=by
  grind[Kg,be,bA]
 have hmap:(as'++[AV.fn g [] [ac i,ac j]]).map (eG (bh [i,j]))=as'++[.fn g [] [ac 1000,ac 1001]]:=by
  rw[List.map_append,(aFn (g:=fun c=>c) fun x hx=>G1 (List.all_eq_true.1 hd' x hx) _).trans (aFH as')];grind[eG,lG]
 have hob:([i,j].map fun a=>eP (bh [i,j]) (h a))=[o,q]:=by simp[ho.ren,hq.ren, *]
 have hids:([i,j].all fun a=>aE [i,j] (h a)&&!bS (h a))=true:=by simp[ho.cl,ho.nd,hq.cl,hq.nd, *]
 unfold bF;rw[av (by grind[lH])];simp only[eU,aE5,aE8,aEZ, *];unfold lg;rw[hall,hids,hmap,hob,hR,aFI,ap rfl,aEZ,hk,hm,vG];unfold fG;have hbf:dk h [] [i,j] [o,q]=true:=by
  grind[bf,dk]
 have hend:nP h [i,j] [] (res,[o,q])=true:=by
  simp[nP,CP,hr.ok,ho.cl,hq.cl]
 rw[ap ⟨rfl,by simp,h8,hfr,hbf,hend⟩];simp[fw,ie,hr.mat,hr.ren,ho.ren,hq.ren,Kr hi,Kr hj]
end
def ao5(m):RT (bB m):=⟨fun _=>rfl,fun _ _=>rfl,fun _=>rfl⟩
def sD{s}{a}:OkI (cQ s a):=by
 unfold cQ;split
 ·exact kW
 ·exact gX.ok'
def gZ(n:Int):Rd:=aZ (decide (n<0)) n.natAbs 0
theorem jh{n}(h:kR n):vd (gZ n)=true/\Ok0 (gZ n):=by
 have hb:ag n.natAbs<=64:=bH.2 (by
  obtain⟨h1,h2⟩:=h;omega)
 unfold gZ;by_cases g:n.natAbs=0
 ·grind[kT,aO]
 exact⟨J9 (Rf g ω δ ω),⟨sx _ _ _,aFl (pq (k:=128) ω) δ⟩⟩
abbrev cY(n:Int):Ri:=m9 (gZ n)
theorem gM{n}(h:kR n):OkI (cY n):=⟨(jh h).2,(jh h).2⟩
def B6{n}(h:kR n):R 98 [I n] []=some (ae (cY n),[]):=by
 refine au Pu ?_;have h1:=m8 h;have h2:=fY (jh h).2 (jh h).1;rw[show aZ (decide (n<0)) n.natAbs 0=gZ n from rfl]at h1;unfold cY m9;simp only[ae,ah,af,ak]at h1 h2;simp only[yR,ae,ah,go_sem,h1,h2]
theorem ae9{x}(ok:OkI x){p}{n:Nat}(hn:n<=16):R 99 [ae x,I n,I p] []=some (ae (BX x n p),[]):=by
 refine au HE ?_;have h:=FH ok (p:=p) (n:=n) ω;have e1:=aa ((n:Int)<=16);simp only[ae,ah]at h;simp only[ur,ae,ah,go_sem,e1,h]
def YJ{x}(ok:OkI x){p}{n:Nat}(hn:n<=32):R 99 [ae x,I n,I p] []=some (ae (vV x n p),[]):=by
 unfold vV;by_cases g:n<=16
 ·grind[ae9]
 rw[av g];refine au HE ?_;have h1:=FH ok (p:=p) (n:=16) ω;have h2:=ae9 ok (p:=p) (n:=n-16) ω;have h3:=sy (EB ok (n:=16) (p:=p)) (EB ok (n:=n-16) (p:=p)) (p:=p);have e1:=aP ((n:Int)<=16);have e2:aG (n-16)=(n-16:Nat):=wi;simp only[ae,ah,Int.cast_ofNat_Int]at h1 h2 h3;simp only[ur,ae,ah,go_sem,e1,e2,h1,h2,h3]
def zK{s}(os:OkS s):R 47 [ej s] []=some (bB (cu s),[]):=by
 refine au Qx ?_;have h1:=dW;have h2:=vU os (x:=bt) gX.ok';have e:kK s bt=cu s:=by
  simp_all[kK,av,kI,bt]
 rw[e]at h2;simp only[ae,ah,bt,aC]at h1 h2;simp only[AE,go_sem,h1,h2]
def TY(x:Ri)(p:Int):Bool:=kI x&& (bv p&&decide ((dh x.hi (gW x.lo) p true).2=0))
def afa{x}{p}(h:TY x p=true):x.all=false:=by
 grind[TY,kI]
def RM{x}{p}(ox:OkI x):∃w b,R 215 [ae x,I p] []=some (.tup [af w,B b],[])/\Ok0 w/\vd w=true/\b=TY x p:=by
 have h1:=kU ox;have h2:=l8 (p:=p);cases g1:kI x with
 |false=>
  rw[g1]at h1;refine⟨aC,false,au BQ ?_,aO.2,aO.1,by simp[TY,g1]⟩;simp only[pJ,ae,ah,af,ak,aC,go_sem,h1]
 |true=>
 rw[g1]at h1;cases g2:bv p with
 |false=>
  rw[g2]at h2;refine⟨aC,false,au BQ ?_,aO.2,aO.1,by grind[TY]⟩;simp only[pJ,ae,ah,af,ak,aC,go_sem,h1,h2]
 |true=>
 rw[g2]at h2;have h3:=Dz ox.lo;rw[show(if vd x.lo=false\/O x.lo.m=0 then aC else⟨!x.lo.neg,x.lo.m,x.lo.e⟩)=gW x.lo from rfl]at h3;have on:Ok0 (gW x.lo):=by
  unfold gW;split
  ·exact aO.2
  ·exact⟨ox.lo.1,ox.lo.2⟩
 have h4:=Rg ox.hi on (p:=p);refine⟨(dh x.hi (gW x.lo) p true).1,decide ((dh x.hi (gW x.lo) p true).2=0),au BQ ?_,Kb,OI,by grind[TY,g1]⟩;simp only[rV,af,ak]at h3 h4;simp only[pJ,ae,ah,af,ak,go_sem,h1,h2,h3,h4]
def atT{s}(ok:Ok0 s)(v:vd s=true):∃r,R 150 [af s,I 3] []=some (rV r,[])/\Ok0 r.1:=by
 obtain⟨h0,h1,h2,h3⟩:=dT v ok.lb;have hl:Ok0 (aZ s.neg (ab s.m) (s.e+3)):=⟨sx _ _ _,aFl (pq (k:=128) ω) δ⟩;refine⟨cA (aZ s.neg (ab s.m) (s.e+3)),au En ?_,?_⟩
 ·have hv:=eC ok;rw[v]at hv;have hx:=xM (e:=3);have ho:=l6 (neg:=s.neg) (m:=s.m) (e:=s.e+3) ok.lb ω (by grind[Exq]);have hc:=Ar hl.lb (aEX (pq (k:=128) ω) δ);have ew:aG (s.e+3)=s.e+3:=by grind[i64_in]
  generalize aZ s.neg (ab s.m) (s.e+3)=d at ho hc⊢;have e:(if rP (ag (ab d.m)) d.e=true then AV.tup [af d,I 0]else .tup [af aC,I 9])=rV (cA d):=by
   grind[cA,rV]
  rw[e]at hc;simp only[af,ak,rV]at hv ho hc;simp only[lP,rV,af,ak,go_sem,hv,hx,ho,hc,ew,show decide ((-32768)<=3)=true from rfl,show decide ((3:Int)<=32768)=true from rfl]
 ·unfold cA;split
  ·omega
  ·exact aO.2
def anY{s}{a b}(os:OkS s)(oa:OkM a)(ob:OkM b):∃w,R 153 [ej s,bB a,bB b] []=some (B w,[])/\(w=false->TY (cQ s b) s.p=true->(cQ s a).all=false):=by
 have h1:=CH os oa;have h2:=CH os ob;obtain⟨w1,b1,h3,o1,v1,e1⟩:=RM (x:=cQ s a) (p:=s.p) sD;obtain⟨w2,b2,h4,o2,v2,e2⟩:=RM (x:=cQ s b) (p:=s.p) sD;obtain⟨r,h5,o3⟩:=atT o2 v2;have h6:=mF o1 o3;generalize(if vd w1=true/\vd r.1=true then gH (zI w1) (zI r.1)else 0)=k at h6;simp only[ae,ah,af,ak,rV]at h1 h2 h3 h4 h5 h6;cases b2 with
 |false=>
  refine⟨false,au wF ?_,fun _ h=>by grind⟩;simp only[mr,go_sem,h1,h2,h3,h4]
 |true=>
 cases b1 with
 |false=>
  refine⟨true,au wF ?_,fun h=>by grind⟩;simp only[mr,go_sem,h1,h2,h3,h4,h5]
 |true=>
 by_cases g:r.2=0
 ·have f:=tt g;refine⟨decide (0<k),au wF ?_,fun _ _=>afa e1.symm⟩;simp only[mr,go_sem,h1,h2,h3,h4,h5,h6,f]
 ·have f:=ff g;refine⟨false,au wF ?_,fun _ _=>afa e1.symm⟩;simp only[mr,go_sem,h1,h2,h3,h4,h5,f]
def TZ{l:List Nat}{p}{x}(h:x∈ (l.filter p).map du):x∈l.map du:=by
 obtain⟨y,hy,rfl⟩:=List.mem_map.1 h;exact List.mem_map_of_mem (List.mem_filter.1 hy).1
theorem Pd{a b}(h:∀x∈a,x∉b):nV a b=true:=by
 unfold nV;rw[aFc];intro x hx;simp[h x hx]
theorem ao6(h h':aj)(d:Nat){a b g:Bool}{m n:List Nat}{e f:Int}{z:Value}(hi:mP (h 1000)=[]):hF h d [.agg [B a,lm m,I e,B b,lm n,I f,B g],.v z,ac 1000] h'=some ([1000],(Ff h h' [1000]).map du++[2000+8*d]):=by
 have hre:bO h 40 [1000] 0=[1000]:=by grind[bO,bD]
 show(if _ then _ else if _ then some ((bO h 40 [1000] 0).map du,(Ff h h' (bO h 40 [1000] 0)).map du++[2000+8*d])else none)=_;rw[hre];rfl
theorem atU{h h':aj}{d x:Nat}(hx:x∈ (Ff h h' [1000]).map du++[2000+8*d]):x=1000\/x=2000+8*d:=by
 rcases List.mem_append.1 hx with h1|h1
 ·have:=TZ h1;grind[du]
 grind
section
variable {a b g:Bool} {m n:List Nat} {e f:Int} {z:Value} {r w:List Nat}
theorem Ie(h h':aj)(d:Nat)(hi:mP (h 1000)=[])(hk:nV (r++w) [1000,2000+8*d]=true):mj (hF h d [.agg [B a,lm m,I e,B b,lm n,I f,B g],.v z,ac 1000] h') (some (r,w))=true:=by
 rw[ao6 h h' d hi];have hk':∀x,x∈r\/x∈w->x≠1000/\x≠2000+8*d:=fun x hx=>by
  have:=Cc hk (List.mem_append.2 hx);grind
 show(nV _ (r++w)&&nV w [1000])=true;grind[Pd,atU]
theorem If(h h':aj)(d:Nat)(hi:mP (h 1000)=[])(hk:nV (r++w) [1000,2000+8*d]=true):mj (some (r,w)) (hF h d [.agg [B a,lm m,I e,B b,lm n,I f,B g],.v z,ac 1000] h')=true:=by
 rw[ao6 h h' d hi];have hk':∀x,x∈r\/x∈w->x≠1000/\x≠2000+8*d:=fun x hx=>by
  have:=Cc hk (List.mem_append.2 hx);grind
 show(nV w ([1000]++_)&&nV _ r)=true;grind[Pd,atU]
end
theorem ao7(h h':aj)(d:Nat){a b g:Bool}{m n:List Nat}{e f:Int}{z:Value}(hi:mP (h 1000)=[])(hj:mP (h 1001)=[]):hF h d [.agg [B a,lm m,I e,B b,lm n,I f,B g],.v z,ac 1000,ac 1001] h'=some ([1000,1001],(Ff h h' [1000,1001]).map du++[2000+8*d]):=by
 have hre:bO h 40 [1000,1001] 0=[1000,1001]:=by simp_all[bO,bD]
 show(if _ then _ else if _ then some ((bO h 40 [1000,1001] 0).map du,(Ff h h' (bO h 40 [1000,1001] 0)).map du++[2000+8*d])else none)=_;rw[hre];rfl
theorem atV{h h':aj}{d x:Nat}(hx:x∈ (Ff h h' [1000,1001]).map du++[2000+8*d]):x=1000\/x=1001\/x=2000+8*d:=by
 rcases List.mem_append.1 hx with h1|h1
 ·have:=TZ h1;grind[du]
 grind
section
variable {a b g:Bool} {m n:List Nat} {e f:Int} {z:Value} {r w:List Nat}
theorem Ig(h h':aj)(d:Nat)(hi:mP (h 1000)=[])(hj:mP (h 1001)=[])(hk:nV (r++w) [1000,1001,2000+8*d]=true):mj (hF h d [.agg [B a,lm m,I e,B b,lm n,I f,B g],.v z,ac 1000,ac 1001] h') (some (r,w))=true:=by
 rw[ao7 h h' d hi hj];have hk':∀x,x∈r\/x∈w->x≠1000/\x≠1001/\x≠2000+8*d:=fun x hx=>by
  have:=Cc hk (List.mem_append.2 hx);grind
 show(nV _ (r++w)&&nV w [1000,1001])=true;grind[Pd,atV]
theorem Ih(h h':aj)(d:Nat)(hi:mP (h 1000)=[])(hj:mP (h 1001)=[])(hk:nV (r++w) [1000,1001,2000+8*d]=true):mj (some (r,w)) (hF h d [.agg [B a,lm m,I e,B b,lm n,I f,B g],.v z,ac 1000,ac 1001] h')=true:=by
 rw[ao7 h h' d hi hj];have hk':∀x,x∈r\/x∈w->x≠1000/\x≠1001/\x≠2000+8*d:=fun x hx=>by
  have:=Cc hk (List.mem_append.2 hx);grind
 show(nV w ([1000,1001]++_)&&nV _ r)=true;grind[Pd,atV]
end
abbrev zM:List AV:=[I 0,.emp,B false,.emp,I 0,B false,.emp,I 0,B false]
attribute [-go_sem] vK in
def anZ{s:Rs}{d:Rm}{b c:Ri}{f:FuncId}{g:Ri->Int->Ri}{o q:Ob}{N:Int}(hcap:cap=[ac 1000]/\q=.dead\/cap=[ac 1000,ac 1001])(os:OkS s)(hs:fg s=true)(hd:VM s d)(hg:∀k,OkI (g c k))(ho:OC o)(hoq:(∀l,aE l q=true)/\mP q=[])
  (hf:∀ (k:Nat),k<=17->∀ (h:aj) (e:Nat),h 1000=o->h 1001=q->h (2000+8*e)=.dead->bF R (aA false) h e [ae c,I k] (.fn f [] cap)=some (ae (g c k),h,[])):∀ (k:Nat) (out:Rm),VM s out->k<=17->∀ (S:aM) (h:aj) (X:Option (Ex×St)),ao 0 [2,3,6,7,8,10,11] (aB (am R (aA false) fP) [2,3,6,7,8,9,10,11,12] [3,6,7,8,9,11,1000,1001] S h)=X->
  S 2=.fn f [] cap->S 3=ac 3->S 6=ac 6->S 7=ac 7->S 8=ac 8->S 9=ac 9->S 10=I N->S 11=ac 11->S 12=I ((k:Int)-1)->
  h 3=.bx (mO s)->h 6=.bx zM->h 7=.bx (ah b)->h 8=.bx (ah c)->h 9=.bx (uj d)->h 11=.bx (uj out)->h 1000=o->h 1001=q->
  ∃hh,X=some (.normal,⟨upd (upd (upd (upd (upd (upd (upd ce 11 (ac 11)) 10 (I N)) 8 (ac 8)) 7 (ac 7)) 6 (ac 6)) 3 (ac 3)) 2 (.fn f [] cap),hh⟩)/\hh 3=.bx (mO s)/\hh 6=.bx zM/\hh 7=.bx (ah b)/\hh 8=.bx (ah c)/\hh 11=.bx (uj (NV s d c g k out))/\hh 1000=o/\hh 1001=q/\∀i,i≠3->i≠6->i≠7->i≠8->i≠9->i≠11->i≠1000->i≠1001->hh i=.dead:=by
 have hcl:=ho.cl;have hids:=ho.ids;obtain⟨hcq,hiq⟩:=hoq;clear ho;intro k;induction k with
 |zero=>
  intro out ho hk S h X hX k2 k3 k6 k7 k8 k9 k10 k11 k12 h3 h6 h7 h8 h9 h11 h0 h1;subst hX;rw[ai];have e1:=aP (0<=((0:Nat):Int)-1);rcases hcap with⟨rfl,rfl⟩|rfl
  ·refine⟨?hh0,?_,?_,?_,?_,?_,?_,?_,?_,?_⟩;rotate_left
   ·simp only[fP,go_sem,k2,k3,k6,k7,k8,k9,k10,k11,k12,h3,h6,h7,h8,h9,h11,h0,h1,hcl,hcq,e1];rfl
   all_goals first|rfl| (intro i b1 b2 b3 b4 b5 b6 b7 b8;simp only[cz,b1,b2,b3,b4,b5,b6,b7,b8,if_false];try (split<;>rfl))
  ·refine⟨?hh1,?_,?_,?_,?_,?_,?_,?_,?_,?_⟩;rotate_left
   ·simp only[fP,go_sem,k2,k3,k6,k7,k8,k9,k10,k11,k12,h3,h6,h7,h8,h9,h11,h0,h1,hcl,hcq,e1];rfl
   all_goals first|rfl| (intro i b1 b2 b3 b4 b5 b6 b7 b8;simp only[cz,b1,b2,b3,b4,b5,b6,b7,b8,if_false];try (split<;>rfl))
 |succ k ih=>
  intro out ho hk S h X hX k2 k3 k6 k7 k8 k9 k10 k11 k12 h3 h6 h7 h8 h9 h11 h0 h1;have vm:=NX os hs ho hd;have vc:=FM os hs (hg k);have ih':=ih (NU s (zJ s out d) (kK s (g c k))) (ahK os hs vm vc) ω;have e2:((k+1:Nat):Int)-1=k:=ω
  have e3:aG ((k:Int)-1)=(k:Int)-1:=by grind[i64_in]
  have m1:=G6 os ho.ok hd.ok;have m2:=vU os (hg k);have m3:=VX os vm.ok vc.ok;have hc:=hf k ω;rw[e2]at k12;have e4:=aa (0<=(k:Int));subst hX;rw[ai];rw[show NV s d c g (k+1) out=NV s d c g k (NU s (zJ s out d) (kK s (g c k)))from rfl];generalize zJ s out d=y1 at*
  generalize kK s (g c k)=y2 at*
  generalize g c k=x at*
  simp only[ae,ah]at hc m2 h8;rcases hcap with⟨rfl,rfl⟩|rfl
  ·simp only[fP,ah,go_sem,k2,k3,k6,k7,k8,k9,k10,k11,k12,h3,h6,h7,h8,h9,h11,h0,h1,hcl,e4,m1,ic];rw[hc _ _ Z Z Z];simp only[go_sem,hcl,hids,Ie,If,ic,m2,m3,e3];apply ih'<;>rfl
  ·simp only[fP,ah,go_sem,k2,k3,k6,k7,k8,k9,k10,k11,k12,h3,h6,h7,h8,h9,h11,h0,h1,hcl,hcq,e4,m1,ic];rw[hc _ _ Z Z Z];simp only[go_sem,hcl,hcq,hids,hiq,Ig,Ih,ic,m2,m3,e3];apply ih'<;>rfl
theorem atW{n:Nat}(ok:OkI x):OkI (vV x n p):=by
 grind[vV,EB,iU]
def ab3{s:Rs}{a:Rm}(os:OkS s)(oa:OkM a):∃q,In q (cQ s a):=by
 unfold cQ;split
 case isFalse=>exact⟨0,.inl rfl⟩
 rename_i h;obtain⟨q1,q2⟩:=DF h;obtain⟨a1,a2,a3,a4⟩:=oG oa (q2 a σ);obtain⟨k1,k2⟩:=xR (p:=s.p) a1 os.d (by grind[jA]);obtain⟨y,hy⟩:=GN k1 k2;obtain⟨z,hz⟩:=GN oa.r a4;exact⟨_,sB (p:=s.p) hy hz⟩
attribute [-go_sem] vK in
def ark{s:Rs}{a:Rm}{f:FuncId}{o q:Ob}{hs':List Ob}(hcap:cap=[ac 1000]/\q=.dead/\hs'=[o]\/cap=[ac 1000,ac 1001]/\hs'=[o,q])(os:OkS s)(oa:OkM a)(ho:OC o)(hoq:(∀l,aE l q=true)/\mP q=[])(g0:(cQ s a).all=true):
  R 84 [ej s,bB a,.fn f [] cap] hs'=some (bB (cu s),hs'):=by
 have hb:=CH os oa;have hcl:=ho.cl;have hids:=ho.ids;obtain⟨hcq,hiq⟩:=hoq;have hw:=zK os;generalize cQ s a=b at*
 generalize cu s=z at*
 simp only[ae,ah]at hb;rcases hcap with⟨rfl,rfl,rfl⟩| ⟨rfl,rfl⟩
 ·refine tE bw.2.1 bw.2.2 (bw.1.2.2.2 false) rfl ?_;simp only[gS,jN,go_sem,hb,hw,g0];exact jY Z Z (hcl _) rfl (by simp only[go_sem,ge])
 ·refine YI false bw.2.1 bw.2.2 (bw.1.2.2.2 false) rfl ?_;simp only[gS,jN,go_sem,hb,hw,g0];exact LK Z Z Z (hcl _) (hcq _) rfl (by simp only[go_sem,ge])
attribute [-go_sem] vK in
def afb{s:Rs}{a:Rm}{f:FuncId}{g:Ri->Int->Ri}{o q:Ob}{hs':List Ob}(hcap:cap=[ac 1000]/\q=.dead/\hs'=[o]\/cap=[ac 1000,ac 1001]/\hs'=[o,q])(os:OkS s)(oa:OkM a)(ho:OC o)(hoq:(∀l,aE l q=true)/\mP q=[])(hg:∀x k,OkI (g x k))(hgi:∀k:Nat,∃q,In q (g (cQ s a) ((k+1:Nat):Int)))(hf:∀x,x=m9 (rI s a)\/x=cQ s a->∀ (k:Nat),k<=17->∀ (h:aj) (e:Nat),h 1000=o->h 1001=q->h (2000+8*e)=.dead->bF R (aA false) h e [ae x,I k] (.fn f [] cap)=some (ae (g x k),h,[])):
  ∃m,R 84 [ej s,bB a,.fn f [] cap] hs'=some (bB m,hs')/\(fg s=true->VM s m)/\((cQ s a).all=true/\m=cu s\/(cQ s a).all=false/\fg s=true/\AC s a=true/\(m=RL s a g/\(TY (cQ s (kK s (g (cQ s a) 0))) s.p=true->(cQ s (RL s a g)).all=false)\/m=kK s (g (cQ s a) 0))):=by
 have hb:=CH os oa;have okb:=sD (s:=s) (a:=a);have hcl:=ho.cl;have hids:=ho.ids;obtain⟨hcq,hiq⟩:=hoq;cases g0:(cQ s a).all with
 |true=>
  exact⟨cu s,ark hcap os oa ho ⟨hcq,hiq⟩ g0,fun h=>ER h,.inl ⟨rfl,rfl⟩⟩
 |false=>
 have he:xI s [a]=true:=by
  cases h:xI s [a]with
  |true=>rfl
  |false=>
   unfold cQ at g0;rw[h,av aE3]at g0;cases g0
 obtain⟨hs,q2⟩:=DF he;have va:=q2 a σ;have ha:VM s a:=⟨oa,va⟩;obtain⟨m1,m2⟩:=EP (p:=s.p) okb;have hm:R 78 [ae (cQ s a),I s.p] []=some (af (rI s a),[]):=akK okb;have hp:R 80 [af (rI s a)] []=some (ae (m9 (rI s a)),[]):=fY m2 m1;have okc:OkI (m9 (rI s a)):=⟨m2,m2⟩;have vc:=FM os hs okc;have h1:=vU os okc;have h2:R 11 [ej s,bB a,bB (kK s (m9 (rI s a)))] []=some (bB (ab0 s a),[]):=Pa os oa vc.ok;have vd:VM s (ab0 s a):=akV os hs ha vc;obtain⟨n,hn⟩:∃n:Nat,s.ord=n:=aFy (by
  unfold fg at hs;grind)
 have hn17:n<=16:=by
  unfold fg at hs;grind
 have hnt:s.ord.toNat=n:=ω
 have h3:=hf _ (.inl rfl) n ω;have h4:=vU os (hg (m9 (rI s a)) n);have v4:=FM os hs (hg (m9 (rI s a)) n);have hL:=fun b N=>anZ (b:=b) (N:=N) (hcap.imp (fun h=>⟨h.1,h.2.1⟩) fun h=>h.1) os hs vd (hg (m9 (rI s a))) ho ⟨hcq,hiq⟩ (fun k hk h e=>hf _ (.inl rfl) k hk h e) n _ v4 ω;have vh:=akW os hs vd (hg (m9 (rI s a))) n _ v4;have h5:=OW okb okc (p:=s.p);have h6:=hf _ (.inr rfl) (n+1) ω;have h7:=YJ (O9 (x:=cQ s a) (y:=m9 (rI s a)) (p:=s.p)) (p:=s.p) (n:=n+1) ω;have eR:NW s a g=bX (g (cQ s a) ((n+1:Nat):Int)) (vV (EI (cQ s a) (m9 (rI s a)) s.p) (n+1) s.p) s.p:=by
  grind[NW]
 have h8:R 62 [ae (g (cQ s a) ((n+1:Nat):Int)),ae (vV (EI (cQ s a) (m9 (rI s a)) s.p) (n+1) s.p),I s.p] []=some (ae (NW s a g),[]):=by
  grind[sy,atW,O9]
 obtain⟨qb,hqb⟩:=ab3 os oa;obtain⟨qg,hqg⟩:=hgi n;have iR:∃q,In q (NW s a g):=by
  rw[eR];exact⟨_,sC hqg (atP (OY hqb (wK m1 m2)))⟩
 have eO:RL s a g=VY s (NV s (ab0 s a) (m9 (rI s a)) g n (kK s (g (m9 (rI s a)) n))) (NW s a g):=by
  grind[RL]
 have vw:=atQ hs vh iR;rw[←eO]at vw;have h9:=akL os vh.ok (r:=NW s a g) (iR.elim fun _ h=>h.ok);rw[←eO]at h9;have h10:=hf _ (.inr rfl) 0 ω;have h11:=vU os (hg (cQ s a) 0);have vk:=FM os hs (hg (cQ s a) 0);obtain⟨w,h12,hw⟩:=anY os vw.ok vk.ok;have vw':=fun _:fg s=true=>vw;have vk':=fun _:fg s=true=>vk;clear eO eR vw vh vk v4 vc vd ha hqg hqb iR m1 m2 okc okb hgi hg hf he q2;have lL:=hL (cQ s a) s.ord;clear hL;rw[hn]at lL;obtain⟨dom,ord,p⟩:=s;simp only at hn;subst hn;generalize cQ ⟨dom,(n:Int),p⟩ a=b at*
 generalize rI ⟨dom,(n:Int),p⟩ a=cc at*
 generalize ab0 ⟨dom,(n:Int),p⟩ a=D at*
 generalize NW ⟨dom,(n:Int),p⟩ a g=RR at*
 generalize RL ⟨dom,(n:Int),p⟩ a g=OO at*
 simp only[aFz]at h10;simp only at hm h5 h7 h8 lL;generalize kK ⟨dom,(n:Int),p⟩ (m9 cc)=c1 at*
 generalize g (m9 cc) n=x1 at*
 generalize kK ⟨dom,(n:Int),p⟩ x1=c2 at*
 generalize kK ⟨dom,(n:Int),p⟩ (g b 0)=c3 at*
 generalize NV _ D (m9 cc) g n c2=HH at*
 generalize EI b (m9 cc) p=e1 at*
 generalize vV e1 (n+1) p=pw at*
 generalize g b ((n+1:Nat):Int)=x2 at*
 generalize g b 0=x3 at*
 generalize hLL:aB (am R (aA false) fP)=L at lL;have hX:∀s h,am R (aA false) (.loop [2,3,6,7,8,9,10,11,12] [3,6,7,8,9,11,1000,1001] fP) s h=L [2,3,6,7,8,9,10,11,12] [3,6,7,8,9,11,1000,1001] s h:=fun s h=>by rw[←hLL];rfl
 clear hLL;have w1:aG ((n:Int)-1)=(n:Int)-1:=by grind[i64_in]
 have w2:aG ((n:Int)+1)=((n+1:Nat):Int):=wi;simp only[m9,ae,ah,af,ak]at hb hm hp h1 h2 h3 h4 h5 h6 h7 h8 h9 h10 h11 lL;rw[g0]at hm h5;simp only[g0]at h6 h10 lL;cases w with
 |false=>
  refine⟨OO,?_,vw',.inr ⟨rfl,hs,va,.inl ⟨rfl,hw rfl⟩⟩⟩;rcases hcap with⟨rfl,rfl,rfl⟩| ⟨rfl,rfl⟩
  ·refine tE bw.2.1 bw.2.2 (bw.1.2.2.2 false) rfl ?_;simp only[gS,jN,go_sem,hb,g0,hm,hp,h1,h2,hX,ic,hcl,hids];rw[h3 _ _ Z Z Z];simp only[go_sem,hcl,hids,Ie,If,ic,h4,w1,hX];generalize hBB:ao 0 [2,3,6,7,8,10,11] (L _ _ _ _)=X;obtain⟨hh,hE,k3,k6,k7,k8,k11,k0,kq,kd⟩:=lL _ _ _ hBB Z Z Z Z Z Z Z Z Z Z Z Z Z Z Z Z Z;rw[hE];simp only[go_sem,hcl,hids,ic,k3,k6,k7,k8,k11,k0,kd,ne_eq,not_false_eq_true,h5,w2];rw[h6 _ _ (by simp only[go_sem,k0]) (by simp only[go_sem,kq]) (by simp only[go_sem,kd,ne_eq,not_false_eq_true])];simp only[go_sem,hcl,hids,Ie,If,ic,k3,k6,k7,k8,k11,k0,kd,ne_eq,not_false_eq_true,w2,h7,h8,h9];rw[h10 _ _ (by simp only[go_sem,k0]) (by simp only[go_sem,kq]) (by simp only[go_sem,kd,ne_eq,not_false_eq_true])];simp only[go_sem,hcl,hids,Ie,If,ic,k3,k6,k7,k8,k11,k0,kd,ne_eq,not_false_eq_true,h11,h12];exact jY rfl (by simp only[go_sem,k0]) (hcl _) rfl (by simp only[go_sem,ge])
  ·refine YI false bw.2.1 bw.2.2 (bw.1.2.2.2 false) rfl ?_;simp only[gS,jN,go_sem,hb,g0,hm,hp,h1,h2,hX,ic,hcl,hcq,hids,hiq];rw[h3 _ _ Z Z Z];simp only[go_sem,hcl,hcq,hids,hiq,Ig,Ih,ic,h4,w1,hX];generalize hBB:ao 0 [2,3,6,7,8,10,11] (L _ _ _ _)=X;obtain⟨hh,hE,k3,k6,k7,k8,k11,k0,kq,kd⟩:=lL _ _ _ hBB Z Z Z Z Z Z Z Z Z Z Z Z Z Z Z Z Z;rw[hE];simp only[go_sem,hcl,hcq,hids,hiq,ic,k3,k6,k7,k8,k11,k0,kq,kd,ne_eq,not_false_eq_true,h5,w2];rw[h6 _ _ (by simp only[go_sem,k0]) (by simp only[go_sem,kq]) (by simp only[go_sem,kd,ne_eq,not_false_eq_true])];simp only[go_sem,hcl,hcq,hids,hiq,Ig,Ih,ic,k3,k6,k7,k8,k11,k0,kq,kd,ne_eq,not_false_eq_true,w2,h7,h8,h9];rw[h10 _ _ (by simp only[go_sem,k0]) (by simp only[go_sem,kq]) (by simp only[go_sem,kd,ne_eq,not_false_eq_true])];simp only[go_sem,hcl,hcq,hids,hiq,Ig,Ih,ic,k3,k6,k7,k8,k11,k0,kq,kd,ne_eq,not_false_eq_true,h11,h12];exact LK rfl (by simp only[go_sem,k0]) (by simp only[go_sem,kq]) (hcl _) (hcq _) rfl (by simp only[go_sem,ge])
 |true=>
  refine⟨c3,?_,vk',.inr ⟨rfl,hs,va,.inr rfl⟩⟩;rcases hcap with⟨rfl,rfl,rfl⟩| ⟨rfl,rfl⟩
  ·refine tE bw.2.1 bw.2.2 (bw.1.2.2.2 false) rfl ?_;simp only[gS,jN,go_sem,hb,g0,hm,hp,h1,h2,hX,ic,hcl,hids];rw[h3 _ _ Z Z Z];simp only[go_sem,hcl,hids,Ie,If,ic,h4,w1,hX];generalize hBB:ao 0 [2,3,6,7,8,10,11] (L _ _ _ _)=X;obtain⟨hh,hE,k3,k6,k7,k8,k11,k0,kq,kd⟩:=lL _ _ _ hBB Z Z Z Z Z Z Z Z Z Z Z Z Z Z Z Z Z;rw[hE];simp only[go_sem,hcl,hids,ic,k3,k6,k7,k8,k11,k0,kd,ne_eq,not_false_eq_true,h5,w2];rw[h6 _ _ (by simp only[go_sem,k0]) (by simp only[go_sem,kq]) (by simp only[go_sem,kd,ne_eq,not_false_eq_true])];simp only[go_sem,hcl,hids,Ie,If,ic,k3,k6,k7,k8,k11,k0,kd,ne_eq,not_false_eq_true,w2,h7,h8,h9];rw[h10 _ _ (by simp only[go_sem,k0]) (by simp only[go_sem,kq]) (by simp only[go_sem,kd,ne_eq,not_false_eq_true])];simp only[go_sem,hcl,hids,Ie,If,ic,k3,k6,k7,k8,k11,k0,kd,ne_eq,not_false_eq_true,h11,h12];exact jY rfl (by simp only[go_sem,k0]) (hcl _) rfl (by simp only[go_sem,ge])
  ·refine YI false bw.2.1 bw.2.2 (bw.1.2.2.2 false) rfl ?_;simp only[gS,jN,go_sem,hb,g0,hm,hp,h1,h2,hX,ic,hcl,hcq,hids,hiq];rw[h3 _ _ Z Z Z];simp only[go_sem,hcl,hcq,hids,hiq,Ig,Ih,ic,h4,w1,hX];generalize hBB:ao 0 [2,3,6,7,8,10,11] (L _ _ _ _)=X;obtain⟨hh,hE,k3,k6,k7,k8,k11,k0,kq,kd⟩:=lL _ _ _ hBB Z Z Z Z Z Z Z Z Z Z Z Z Z Z Z Z Z;rw[hE];simp only[go_sem,hcl,hcq,hids,hiq,ic,k3,k6,k7,k8,k11,k0,kq,kd,ne_eq,not_false_eq_true,h5,w2];rw[h6 _ _ (by simp only[go_sem,k0]) (by simp only[go_sem,kq]) (by simp only[go_sem,kd,ne_eq,not_false_eq_true])];simp only[go_sem,hcl,hcq,hids,hiq,Ig,Ih,ic,k3,k6,k7,k8,k11,k0,kq,kd,ne_eq,not_false_eq_true,w2,h7,h8,h9];rw[h10 _ _ (by simp only[go_sem,k0]) (by simp only[go_sem,kq]) (by simp only[go_sem,kd,ne_eq,not_false_eq_true])];simp only[go_sem,hcl,hcq,hids,hiq,Ig,Ih,ic,k3,k6,k7,k8,k11,k0,kq,kd,ne_eq,not_false_eq_true,h11,h12];exact LK rfl (by simp only[go_sem,k0]) (by simp only[go_sem,kq]) (hcl _) (hcq _) rfl (by simp only[go_sem,ge])
def T1{s:Rs}{a:Rm}{f:FuncId}{g:Ri->Int->Ri}{o:Ob}(os:OkS s)(oa:OkM a)(ho:OC o)(hg:∀x k,OkI (g x k))(hgi:∀k:Nat,∃q,In q (g (cQ s a) ((k+1:Nat):Int)))(hf:∀x,x=m9 (rI s a)\/x=cQ s a->∀ (k:Nat),k<=17->∀ (h:aj) (e:Nat),h 1000=o->h (2000+8*e)=.dead->bF R (aA false) h e [ae x,I k] (.fn f [] [ac 1000])=some (ae (g x k),h,[])):
  ∃m,R 84 [ej s,bB a,.fn f [] [ac 1000]] [o]=some (bB m,[o])/\(fg s=true->VM s m)/\((cQ s a).all=true/\m=cu s\/(cQ s a).all=false/\fg s=true/\AC s a=true/\(m=RL s a g/\(TY (cQ s (kK s (g (cQ s a) 0))) s.p=true->(cQ s (RL s a g)).all=false)\/m=kK s (g (cQ s a) 0))):=
 afb (.inl ⟨rfl,rfl,rfl⟩) os oa ho ⟨fun _=>rfl,rfl⟩ hg hgi fun x hx k hk h e h0 _ h2=>hf x hx k hk h e h0 h2
noncomputable def ahM (s:Rs) (a:Rm):Nat->Rm->Rm
 |0,o=>o
 |k+1,o=>ahM s a k (zJ s o a)
def afc{s}{a}(os:OkS s)(hs:fg s=true)(ha:VM s a):∀k {o},VM s o->VM s (ahM s a k o)
 |0,_,h=>h
 |k+1,_,h=>afc os hs ha k (NX os hs h ha)
def an0{s}{a}{n}(os:OkS s)(hs:fg s=true)(ha:VM s a)(hn:n<=16):∀ (k i:Nat) out,i+k=n->VM s out->∀S h X,ao 0 [6,7] (aB (am R (aA false) jZ) [3,4,6,7,30,31] [3,4,6,7] S h)=X->
  S 3=ac 3->S 4=ac 4->S 6=ac 6->S 7=ac 7->S 30=I n->S 31=I i->h 3=.bx (mO s)->h 4=.bx (uj a)->h 6=.bx zM->h 7=.bx (uj out)->
  ∃hh,X=some (.normal,⟨upd (upd ce 7 (ac 7)) 6 (ac 6),hh⟩)/\hh 6=.bx zM/\hh 7=.bx (uj (ahM s a k out)):=by
 intro k;induction k with
 |zero=>
  intro i out hi ho S h X hX k3 k4 k6 k7 k30 k31 h3 h4 h6 h7;have:i=n:=ω
  subst this;subst hX;rw[ai];refine⟨?hh0,?_,?_,?_⟩;rotate_left
  ·simp only[jZ,go_sem,k3,k4,k6,k7,k30,k31,h3,h4,h6,h7,aFC];rfl
  all_goals rfl
 |succ k ih=>
  intro i out hi ho S h X hX k3 k4 k6 k7 k30 k31 h3 h4 h6 h7;have ih':=ih (i+1) (zJ s out a) ω (NX os hs ho ha);have e1:=aa (i< (n:Int));have e3:aG (i+1)=(i+1:Nat):=wi;have m1:=G6 os ho.ok ha.ok;subst hX;rw[ai];simp only[jZ,go_sem,k3,k4,k6,k7,k30,k31,h3,h4,h6,h7,e1,e3,m1];apply ih'<;>rfl
noncomputable def pwM (s:Rs) (a:Rm) (n:Int):Rm:=if(decide (0<=n)&& (decide (n<=16)&& (AC s a&&!a.R.all)))=true then ahM s a n.toNat (kK s (cY 1))else cu s
def Xk{s}{a}{n}(os:OkS s)(oa:OkM a):R 42 [ej s,bB a,I n] []=some (bB (pwM s a n),[]):=by
 refine au Qw ?_;have hw:=zK os;have hv:=Xe os oa;unfold pwM;by_cases g1:n<0
 ·have f1:=tt g1;rw[decide_eq_false (p:=0<=n) ω,aE0,av aE3];simp only[jL,nj,go_sem,f1,hw]
 have f1:=ff g1;rw[decide_eq_true (p:=0<=n) ω,aEW];by_cases g2:16<n
 ·have f2:=tt g2;rw[decide_eq_false (p:=n<=16) ω,aE0,av aE3];simp only[jL,nj,go_sem,f1,f2,hw]
 have f2:=ff g2;rw[decide_eq_true (p:=n<=16) ω,aEW];cases g3:AC s a with
 |false=>
  rw[g3]at hv;simp only[jL,nj,go_sem,f1,f2,hw,hv]
 |true=>
 rw[g3]at hv;cases g4:a.R.all with
 |true=>
  simp only[bB,uj,g4]at hv;simp only[jL,nj,go_sem,f1,f2,hw,hv,g4]
 |false=>
 have hs:fg s=true:=by
  simp_all[AC,aEV]
 have h1:=B6 (n:=1) ⟨by decide,by decide⟩;have o1:OkI (cY 1):=gM ⟨by decide,by decide⟩;have h2:=vU os o1;obtain⟨m,rfl⟩:=aFy (show 0<=n by omega);have hL:=an0 os hs ⟨oa,g3⟩ (n:=m) ω m 0 _ (aES _) (FM os hs o1);rw[aEY];generalize kK s (cY 1)=c at*
 generalize hLL:aB (am R (aA false) jZ)=L at hL;have hX:∀s h,am R (aA false) (.loop [3,4,6,7,30,31] [3,4,6,7] jZ) s h=L [3,4,6,7,30,31] [3,4,6,7] s h:=fun s h=>by rw[←hLL];rfl
 clear hLL;simp only[ae,ah]at h1 h2;simp only[bB,uj,g4]at hv;simp only[jL,nj,go_sem,f1,f2,hv,g4,h1,h2,hX];generalize hBB:ao 0 [6,7] (L _ _ _ _)=X;obtain⟨hh,hE,k6,k7⟩:=hL _ _ _ hBB Z Z Z Z Z Z Z (by simp only[go_sem,uj,g4]) Z Z;rw[hE];simp only[go_sem,k6,k7,ge]
def RN(p:Int):Nat->Nat->Ri->Ri
 |0,_,x=>x
 |n+1,i,x=>RN p n (i+1) (bX x (cY i) p)
def ud(k:Nat)(p:Int):Ri:=RN p (k-1) 2 (cY 1)
def afe{p:Int}:∀ (n i:Nat) {x:Ri},OkI x->OkI (RN p n i x)
 |0,_,_,h=>h
 |n+1,i,x,_=>(afe n (i+1) iU:OkI (RN p n (i+1) (bX x (cY i) p)))
def ahN{n:Nat}(h:n<=100):kR (n:Int):=⟨by omega,by omega⟩
def CI{k:Nat}:OkI (ud k p):=afe _ _ (gM (ahN (n:=1) ω))
def an1{k:Nat}{p:Int}(hk:k<=50):∀ (n i:Nat) (x:Ri),OkI x->i+n=k+1->2<=i->∀ (S:aM) (h:aj) (X:Option (Ex×St)),ao 0 [4,5] (aB (am R (aA false) dY) [0,1,4,5,6] [4,5] S h)=X->
  S 0=I k->S 1=I p->S 4=ac 4->S 5=ac 5->S 6=I i->h 4=.bx [B false,.emp,I 0,B false,.emp,I 0,B false]->h 5=.bx (ah x)->
  ∃hh,X=some (.normal,⟨upd (upd ce 5 (ac 5)) 4 (ac 4),hh⟩)/\hh 4=.bx [B false,.emp,I 0,B false,.emp,I 0,B false]/\hh 5=.bx (ah (RN p n i x)):=by
 intro n;induction n with
 |zero=>
  intro i x ox hi h2 S h X hX k0 k1 k4 k5 k6 h4 h5;have e1:=aP ((i:Int)<=(k:Int));subst hX;rw[ai];refine⟨?hh0,?_,?_,?_⟩;rotate_left
  ·simp only[dY,go_sem,k0,k1,k4,k5,k6,h4,h5,e1];rfl
  all_goals rfl
 |succ n ih=>
  intro i x ox hi h2 S h X hX k0 k1 k4 k5 k6 h4 h5;have ih':=ih (i+1) (bX x (cY i) p) iU ω ω;have e1:=aa ((i:Int)<=(k:Int));have e3:aG ((i:Int)+1)=((i+1:Nat):Int):=wi;have q1:=B6 (n:=i) (ahN ω);have q2:=sy ox (gM (ahN (n:=i) ω)) (p:=p);rw[show RN p (n+1) i x=RN p n (i+1) (bX x (cY i) p)from rfl];subst hX;rw[ai];generalize aB _ _ _=L at ih'⊢;generalize bX x (cY i) p=y at*
  generalize cY (i:Int)=z at*
  simp only[ae,ah]at q1 q2 h5 ih';simp only[dY,go_sem,k0,k1,k4,k5,k6,h4,h5,e1,e3,q1,q2];apply ih'<;>rfl
def V1{k:Nat}{p:Int}(hk:k<=50):R 88 [I k,I p] []=some (ae (ud k p),[]):=by
 refine au K3 ?_;have h1:=B6 (n:=1) ⟨by decide,by decide⟩;have o1:OkI (cY 1):=gM ⟨by decide,by decide⟩;have hL:∀ (S:aM) (h:aj) (X:Option (Ex×St)),ao 0 [4,5] (aB (am R (aA false) dY) [0,1,4,5,6] [4,5] S h)=X->
   S 0=I k->S 1=I p->S 4=ac 4->S 5=ac 5->S 6=I 2->h 4=.bx [B false,.emp,I 0,B false,.emp,I 0,B false]->h 5=.bx (ah (cY 1))->
   ∃hh,X=some (.normal,⟨upd (upd ce 5 (ac 5)) 4 (ac 4),hh⟩)/\hh 4=.bx [B false,.emp,I 0,B false,.emp,I 0,B false]/\hh 5=.bx (ah (ud k p)):=by
  by_cases g:1<=k
  ·exact an1 hk (k-1) 2 _ o1 ω (aET 2)
  ·intro S h X hX k0 k1 k4 k5 k6 h4 h5;have e0:k=0:=ω
   subst e0;have e1:=aP ((2:Int)<=((0:Nat):Int));subst hX;rw[ai];refine⟨?hh0,?_,?_,?_⟩;rotate_left
   ·simp only[dY,go_sem,k0,k1,k4,k5,k6,h4,h5,e1];rfl
   all_goals rfl
 generalize hLL:aB (am R (aA false) dY)=L at hL;have hX:∀s h,am R (aA false) (.loop [0,1,4,5,6] [4,5] dY) s h=L [0,1,4,5,6] [4,5] s h:=fun s h=>by rw[←hLL];rfl
 clear hLL;generalize ud k p=y at*
 generalize cY 1=x at*
 simp only[ae,ah]at h1 hL;simp only[uL,Dc,ae,ah,go_sem,h1,hX];generalize hBB:ao 0 [4,5] (L _ _ _ _)=X;obtain⟨hh,hE,k4,k5⟩:=hL _ _ _ hBB Z Z Z Z Z Z Z;rw[hE];simp only[go_sem,k4,k5]
theorem kL:OkI (dC x y p):=by
 unfold dC;split
 ·split
  ·exact⟨aO.2,aO.2⟩
  ·exact ajD (fun _ _=>xQ.2) (fun _ _=>xQ.2)
 ·exact⟨aO.2,aO.2⟩
def arl{s:Rs}{k:Nat}(ox:OkI x)(oy:OkI y)(hk:k<=50)(he:R 87 [ae x,I s.p] []=some (ae y,[])):R 85 [ae x,I k,ac 1000] [.bx (mO s)]=some (ae (dC y (ud k s.p) s.p),[.bx (mO s)]):=by
 refine xz QB QA (DU false) rfl ?_;have h1:=V1 (p:=s.p) hk;have h2:=sA oy CI (p:=s.p) (y:=ud k s.p);generalize dC y (ud k s.p) s.p=z at h2⊢;generalize ud k s.p=w at h1 h2;simp only[ae,ah]at he h1 h2;simp only[AG,ae,ah,go_sem,he,h1,h2];exact jY Z Z Z Z (by simp only[go_sem])
def gJ(p:Int)(x:Ri)(k:Int):Ri:=if k.toNat%2=1 then rW (dC (cY 1) (vV x (k.toNat+1) p) p)else dC (cY 1) (vV x (k.toNat+1) p) p
theorem G7{x}(ok:OkI x){n}{p}:OkI (vV x n p):=by
 grind[vV,EB,iU]
def awh(p)(x)(k):OkI (gJ p x k):=by
 grind[gJ,EH,kL]
def arm{s}{x}{k:Nat}(ox:OkI x)(hk:k<=20):R 97 [ae x,I k,ac 1000] [.bx (mO s)]=some (ae (gJ s.p x k),[.bx (mO s)]):=by
 refine xz K5 K4 (Ax false) rfl ?_;have h1:=B6 (n:=1) ⟨by decide,by decide⟩;have o1:OkI (cY 1):=gM ⟨by decide,by decide⟩;have h2:=YJ ox (p:=s.p) (n:=k+1) ω;have h3:=sA o1 (G7 ox (n:=k+1) (p:=s.p)) (p:=s.p);have w1:aG (k+1)=(k+1:Nat):=wi;have w2:(k:Int).tmod 2=(k%2:Nat):=by
  grind
 unfold gJ;rw[aEY];have od:OkI (dC (cY 1) (vV x (k+1) s.p) s.p):=kL;have h4:=G3 od;simp only[ae,ah]at h1 h2 h3 h4;by_cases g:k%2=1
 ·rw[ap g];have f:=aa (((k%2:Nat):Int)=1);simp only[oO,ae,ah,go_sem,aEP,aEO,aEN,aX,w1,w2,h1,h2,h3,h4,f];exact jY Z Z Z Z (by simp only[go_sem])
 ·rw[av g];have f:=aP (((k%2:Nat):Int)=1);simp only[oO,ae,ah,go_sem,aEP,aEO,aEN,aX,w1,w2,h1,h2,h3,f];exact jY Z Z Z Z (by simp only[go_sem])
def Xl{s}{a b m}(os:OkS s)(ob:OkM b)(om:OkM m)(h:R 30 [ej s,bB a] []=some (bB m,[])):R 14 [ej s,bB b,bB a] []=some (bB (if b.R.all=true then cu s else zJ s b m),[]):=by
 refine au Pq ?_;have h1:=zK os;have h2:=G6 os ob om;cases g:b.R.all with
 |true=>
  simp only[sO,go_sem,aEP,aEO,aEN,aX,h1,g,ge]
 |false=>
  simp only[bB,uj,g]at h2;simp only[sO,go_sem,aEP,aEO,aEN,aX,h,h2,g,ge]
def sI(d:Rd):Int:=cG d.neg (ab d.m)
theorem aHA(d):zI d=sI d*2^ (d.e+16384).toNat:=by
 rw[aoY];unfold sI mg cG;split
 ·rw[Int.neg_mul,aF2,Int.natCast_pow];rfl
 ·rw[aF2,Int.natCast_pow];rfl
def aHI(a b:Rd):Bool:=decide (-16384<=a.e)&&decide (-16384<=b.e)
def aHJ(a b:Rd)(p:Int)(up:Bool):Rd×Int:=if bo p [a,b]=0 then(if aHI a b=true then kS (sI a*sI b) (a.e+b.e) p up else kS (zI a*zI b) (-32768) p up)else(aC,bo p [a,b])
theorem aHK{a b}{p}{up}:eJ a b p up=aHJ a b p up:=by
 unfold eJ aHJ;split
 ·split
  ·rename_i h;unfold aHI at h;simp only[aEV,decide_eq_true_eq]at h;rw[aHA a,aHA b];have e:sI a*2^ (a.e+16384).toNat*(sI b*2^ (b.e+16384).toNat)=sI a*sI b*2^ ((a.e+16384).toNat+(b.e+16384).toNat):=by
    rw[Int.pow_add];grind
   rw[e,WG];congr 1;omega
  ·rfl
 ·rfl
def aJj(a b:Rd)(p:Int)(up:Bool):Rd×Int:=if bo p [a,b]=0 then(if aHI a b=true then kS (sI a*2^ (a.e-min a.e b.e).toNat+sI b*2^ (b.e-min a.e b.e).toNat) (min a.e b.e) p up else kS (zI a+zI b) (-16384) p up)else(aC,bo p [a,b])
theorem aKY{a b}{p}{up}:dh a b p up=aJj a b p up:=by
 unfold dh aJj;split
 ·split
  ·rename_i h;unfold aHI at h;simp only[aEV,decide_eq_true_eq]at h;rw[aHA a,aHA b];have e1:(a.e+16384).toNat=(a.e-min a.e b.e).toNat+(min a.e b.e+16384).toNat:=ω
   have e2:(b.e+16384).toNat=(b.e-min a.e b.e).toNat+(min a.e b.e+16384).toNat:=ω
   rw[e1,e2,Int.pow_add,Int.pow_add,←Int.mul_assoc,←Int.mul_assoc,←Int.add_mul,WG];congr 1;omega
  ·rfl
 ·rfl
def aKn(x y:Ri)(p:Int):Ri:=if(kI x&&kI y&&bv p)=true then Mg (uD (fun a b=>aHJ a b p false) (fun a b=>aHJ a b p true) (ed x y))else bt
theorem aIR{x y}{p}:bX x y p=aKn x y p:=by
 unfold bX aKn;simp only[aHK]
def aJk(x y:Ri)(p:Int):Ri:=if(kI x&&kI y&&bv p)=true then kD (aJj x.lo y.lo p false) (aJj x.hi y.hi p true)else bt
theorem aHL{x y}{p}:de x y p=aJk x y p:=by
 unfold de aJk;simp only[aKY]
def aJl(d:Rd)(p:Int)(up:Bool):Rd×Int:=if bo p [d]=0 then(if aHI d d=true then kS (sI d) d.e p up else kS (zI d) (-16384) p up)else(aC,bo p [d])
theorem aKZ{d}{p}{up}:bY d p up=aJl d p up:=by
 unfold bY aJl;split
 ·split
  ·rename_i h;unfold aHI at h;simp only[aEV,decide_eq_true_eq]at h;rw[aHA d,WG];congr 1;omega
  ·rfl
 ·rfl
def aJV(x:Ri)(p:Int):Ri:=if(bv p&&kI x)=true then kD (aJl x.lo p false) (aJl x.hi p true)else bt
theorem aGG{x}{p}:oA x p=aJV x p:=by
 unfold oA aJV;simp only[aKZ]
def nT{n}(h:kR n):R 217 [I n] []=some (ae (cY n),[]):=by
 refine au QO ?_;have h1:=m8 h;have h2:=fY (jh h).2 (jh h).1;rw[show aZ (decide (n<0)) n.natAbs 0=gZ n from rfl]at h1;unfold cY m9;generalize gZ n=d at h1 h2⊢;simp only[ae,ah,af,ak]at h1 h2;simp only[AL,ae,ah,go_sem,h1,h2]
abbrev Ii(p:Int):AV:=.agg [I p]
def CJ{x y}{p}(ox:OkI x)(oy:OkI y):R 234 [Ii p,ae x,ae y] []=some (ae (de x y p),[]):=by
 refine au Lc ?_;have h:=xN ox oy (p:=p);generalize de x y p=z at h⊢;simp only[ae,ah]at h;simp only[uZ,ae,ah,go_sem,h]
def Pe{x y}{p}(ox:OkI x)(oy:OkI y):R 236 [Ii p,ae x,ae y] []=some (ae (bX x y p),[]):=by
 refine au Lf ?_;have h:=sy ox oy (p:=p);generalize bX x y p=z at h⊢;simp only[ae,ah]at h;simp only[u9,ae,ah,go_sem,h]
def Ks{x y}{p}(ox:OkI x)(oy:OkI y):R 233 [Ii p,ae x,ae y] []=some (ae (dC x y p),[]):=by
 refine au La ?_;have h:=sA ox oy (p:=p);generalize dC x y p=z at h⊢;simp only[ae,ah]at h;simp only[uY,ae,ah,go_sem,h]
def smB(x:Ri)(p:Int):Bool:=decide (kl (qB x)=0)||decide (aQ (qB x)≤-p)
def T2{x}(ok:OkI x)(hx:kI x=true):vd (qB x)=true/\Ok0 (qB x):=by
 have h:vd x.lo=true/\vd x.hi=true:=by grind[kI,vi]
 have hv:VI x:=⟨⟨h.1,ok.lo⟩,⟨h.2,ok.hi⟩⟩;exact⟨(YG hv).1,HU (vC ok.lo) (vC ok.hi)⟩
theorem akY{x}{p}(ok:OkI x)(hx:kI x=true)(hp:0<=p/\p<=1000):R 282 [Ii p,ae x] []=some (B (smB x p),[]):=by
 refine au Bh ?_;have h1:=aaZ ok hx;obtain⟨m1,m2⟩:=T2 ok hx;have h2:=tT m2 m1;have h3:=pW m2;have e1:aG (0-p)=-p:=by grind[i64_in]
 unfold smB;generalize qB x=d at*
 generalize aQ d=t at*
 generalize kl d=g at*
 simp only[ae,ah,af,ak]at h1 h2 h3;by_cases c1:g=0
 ·have f1:=tt c1;simp only[jF,ae,ah,go_sem,h1,h2,h3,f1,e1,decide_true,Bool.true_or]
 ·have f1:=ff c1;simp only[jF,ae,ah,go_sem,h1,h2,h3,f1,e1,decide_false,Bool.false_or]
def ab4(x:Ri):Ri:=⟨gW (qB x),qB x,false⟩
theorem adk{x}(ok:OkI x)(hx:kI x=true):R 283 [ae x] []=some (ae (ab4 x),[]):=by
 refine au Gt ?_;have h1:=aaZ ok hx;obtain⟨m1,m2⟩:=T2 ok hx;have h2:=Dz m2;unfold ab4 gW;generalize qB x=d at*
 generalize(if vd d=false\/O d.m=0 then aC else⟨!d.neg,d.m,d.e⟩)=n at*
 simp only[ae,ah,af,ak]at h1 h2;simp only[tq,ae,ah,go_sem,h1,h2]
def Bo(n:Nat):Nat:=if 256< O (ax n) then 0 else n
theorem FN(n:Nat):O (ax (Bo n))<=256:=by
 unfold Bo;split
 all_goals simp_all[cO,aE9]
def CK(n:Nat):∃e:Int,lq n=.tup [lm (ax (Bo n)),I e]:=by
 unfold lq Bo;split
 all_goals simp_all[cO]
def tG(v:Nat)(n:Int):Nat:=if n<0\/65536<n then 0 else Bo (v*2^n.toNat)
def Ij(v:Nat)(n:Int):Nat:=if n<0\/65536<n then 0 else v/2^n.toNat
theorem DI(v:Nat)(n:Int):O (ax (tG v n))<=256:=by
 unfold tG;split
 all_goals simp_all[cO,aE9,FN]
def DJ{a b:Nat}(h:a<=b):O (ax a)<=O (ax b):=eN (aFl h (fJ b))
def ahO(v:Nat)(n:Int):Ij v n<=v:=by
 unfold Ij;split
 all_goals simp_all[aF1]
def wM{m:List Nat}(hb:Lb m)(h1:O m<=256){n:Int}:R 314 [lm m,I n] []=some (lm (ax (tG (ab m) n)),[]):=by
 refine au Yn ?_;have h:=aaN (n:=n) hb h1;unfold tG;split
 ·rename_i c;rw[ap c]at h;simp only[Ak,go_sem,h,cO]
 ·rename_i c;rw[av c]at h;obtain⟨e,he⟩:=CK (ab m*2^n.toNat);rw[he]at h;simp only[Ak,go_sem,h]
def FO{m:List Nat}(hb:Lb m)(h1:O m<=256){n:Int}:R 315 [lm m,I n] []=some (lm (ax (Ij (ab m) n)),[]):=by
 refine au U5 ?_;have h:=aaP (n:=n) hb h1;unfold Ij;split
 ·rename_i c;rw[ap c]at h;simp only[yz,go_sem,h,cO]
 ·rename_i c;rw[av c]at h;simp only[yz,go_sem,h]
abbrev Fx:=Bool×Nat
def dw(x:Fx):List AV:=[B x.1,lm (ax x.2)]
def cw(x:Fx):AV:=.agg (dw x)
def dS(x:Fx):Prop:=O (ax x.2)<=256
def Ik{x:Fx}(k:dS x):R 321 [cw x] []=some (B (decide (x.2=0)),[]):=by
 refine au Ng ?_;have h:=Cs (aH x.2) (aEX k δ);rw[aJ]at h;have e:((ag x.2:Int)=0)=(x.2=0):=by
  grind[ag,fE,absurd]
 simp only[xV,cw,dw,go_sem,h,e]
def zL{x:Fx}:R 311 [cw x] []=some (cw (!x.1,x.2),[]):=by
 refine au Mu ?_;simp only[wC,cw,dw,go_sem]
def nJ(x y:Fx):Fx:=if x.1=y.1 then(x.1,Bo (x.2+y.2))else if x.2<y.2 then(y.1,Bo (y.2-x.2))else(x.1,Bo (x.2-y.2))
def qf(x y:Fx):dS (nJ x y):=by
 unfold nJ;split
 ·exact FN _
 ·split<;>exact FN _
theorem Kt{a b:Nat}:((dM a b:Int)<0)=(a<b):=by
 grind[dM,absurd]
theorem bq1:(false !=true)=true:=rfl
theorem bq2:(false !=false)=false:=rfl
def mG{x y:Fx}(kx:dS x)(ky:dS y):R 320 [cw x,cw y] []=some (cw (nJ x y),[]):=by
 refine au PF ?_;have hc:=tC (aH x.2) (aH y.2) (aEX kx δ) (aEX ky δ);have ha:=aaI (aH x.2) (aH y.2) kx ky;have h1:=Tj (aH x.2) (aH y.2) kx ky;have h2:=Tj (aH y.2) (aH x.2) ky kx;simp only[aJ]at hc ha h1 h2;obtain⟨e1,d1⟩:=CK (x.2+y.2);obtain⟨e2,d2⟩:=CK (x.2-y.2);obtain⟨e3,d3⟩:=CK (y.2-x.2);rw[d1]at ha;rw[d2]at h1;rw[d3]at h2;obtain⟨s,a⟩:=x;obtain⟨t,b⟩:=y;unfold nJ;by_cases c:s=t
 ·subst c;cases s<;>simp only[nZ,cw,dw,go_sem,ha,beq_self_eq_true,bq1]
 rw[av c];have hs:(s==t)=false:=beq_eq_false_iff_ne.2 c;by_cases d:a<b
 ·have f1:=tt (Kt.symm▸d:(dM a b:Int)<0);rw[ap d];rw[av ω]at h2;simp only[nZ,cw,dw,go_sem,hc,f1,h2,hs,bq2,decide_true]
 ·have f1:=ff (Kt.symm▸d:¬ (dM a b:Int)<0);rw[av d];rw[av d]at h1;simp only[nZ,cw,dw,go_sem,hc,f1,h1,hs,bq2,decide_false]
def T3(x y:Fx)(b:Int):Fx:=(x.1 !=y.1,Ij (Bo (x.2*y.2)) b)
def T4(x y:Fx)(b:Int):dS (T3 x y b):=aEX (DJ (ahO _ _)) (FN _)
def NY{x y:Fx}(kx:dS x)(ky:dS y){b:Int}:R 317 [cw x,cw y,I b] []=some (cw (T3 x y b),[]):=by
 refine au Mv ?_;have h1:=J6 (aH x.2) (aH y.2) kx ky;simp only[aJ]at h1;obtain⟨e1,d1⟩:=CK (x.2*y.2);rw[d1]at h1;have h2:=FO (aH (Bo (x.2*y.2))) (FN _) (n:=b);rw[aJ]at h2;unfold T3;simp only[wD,cw,dw,go_sem,h1,h2,show∀a b:Bool,(true != (a==b))=(a !=b)from fun a b=>by cases a<;>cases b<;>rfl]
def Gw(n:Int):Fx:=((gZ n).neg,tG (ab (gZ n).m) (gZ n).e)
def arn{n:Int}(h:kR n):(gZ n).m.length<=256:=by
 obtain⟨h1,h2⟩:=jh h;exact aEX (vB h1 h2.lb) δ
def ahP(n:Int):dS (Gw n):=DI _ _
def NZ{n:Int}(h:kR n):R 316 [I n] []=some (cw (Gw n),[]):=by
 refine au U6 ?_;have h1:=m8 h;rw[show aZ (decide (n<0)) n.natAbs 0=gZ n from rfl]at h1;have h2:=wM (jh h).2.lb (arn h) (n:=(gZ n).e);unfold Gw;simp only[af,ak]at h1;simp only[Dq,cw,dw,go_sem,h1,h2]
def mdN(a b:Nat):Nat:=if b=0 then 0 else a%b
def Xm{a:Nat}(h:O (ax a)<=256):R 189 [lm (ax a)] []=some (lm (ax a),[]):=by
 by_cases c:ax a=[]
 ·rw[c,Tw (g:=clU) κ];rfl
 grind[HO]
def ab5{a b:Nat}(h1:O (ax a)<=256)(h2:O (ax b)<=256)(hl:a<b):R 307 [lm (ax a),lm (ax b)] []=some (.tup [lm [],lm (ax a)],[]):=by
 refine au wG ?_;have t1:=cI (aH a) ω;have t2:=cI (aH b) ω;have hc:=tC (aH a) (aH b) ω ω;rw[aJ]at t1 t2;rw[aJ,aJ]at hc;have e1:=tt (Kt.symm▸hl:(dM a b:Int)<0);have h3:=Xm h1;simp only[mB,rB,go_sem,t1,t2,hc,e1,h3]
def ahQ{a b:Nat}(h1:O (ax a)<=256)(h2:O (ax b)<=256):∃e:Int,R 266 [lm (ax a),lm (ax b)] []=some (.tup [lm (ax (a/b)),lm (ax (mdN a b)),I e],[]):=by
 unfold mdN;by_cases c:b=0
 ·subst c;refine⟨10,au BR ?_⟩;have e1:=aP (256< O (ax a));have t2:=cI (aH 0) ω;rw[aJ]at t2;rw[ap rfl,Nat.div_zero];have hl:=tP (ax a) (ax 0);rw[cO]at*
  simp only[pR,go_sem,hl,e1,t2,aFs,Nat.not_lt_zero];rfl
 rw[av c];by_cases d:a<b
 ·refine⟨0,au BR ?_⟩;have e1:=aP (256< O (ax a));have e2:=aP (256< O (ax b));have t1:=cI (aH a) ω;have t2:=cI (aH b) ω;have t0:=cI (m:=[]) JV δ;rw[aJ]at t1 t2;have hd:=ab5 h1 h2 d;rw[Nat.div_eq_of_lt d,aFG d,cO];have e3:((O (ax b):Int)=0)=False:=eq_false fun h=>c (sj.1 (List.length_eq_zero_iff.1 ω));rw[show ax (ab [])=[]from cO]at t0;simp only[pR,go_sem,e1,e2,e3,tP,t0,t1,t2,hd,Ox]
 simp_all[WV,aH,aJ]
def Il(x:Fx)(n:Int):Fx:=(x.1,x.2/ (Gw n).2)
def Pf{x:Fx}(k:dS x)(n:Int):dS (Il x n):=aEX (DJ (aF1 _ _)) k
def N0{x:Fx}(k:dS x){n:Int}(h:kR n):R 333 [cw x,I n] []=some (cw (Il x n),[]):=by
 refine au QZ ?_;have h1:=NZ h;obtain⟨e,h2⟩:=ahQ (a:=x.2) (b:=(Gw n).2) k (ahP n);unfold Il;simp only[AS,cw,dw,go_sem,h1,h2]
def fOf(d:Rd)(b:Int):Fx:=(d.neg,if d.e+b<0 then Ij (ab d.m) (0- (d.e+b))else tG (ab d.m) (d.e+b))
def ahR{d:Rd}(ok:Ok0 d)(h:O d.m<=256)(b:Int):dS (fOf d b):=by
 unfold fOf dS;split
 ·refine aEX (DJ (ahO _ _)) ?_;exact aEX (eN (ft ok.lb)) h
 grind[DI]
def ab7{d:Rd}(ok:Ok0 d)(v:vd d=true){b:Int}(hb:-100000<=b/\b<=100000):R 319 [af d,I b] []=some (cw (fOf d b),[]):=by
 refine au adb ?_;obtain⟨q0,q1,q2,q3⟩:=dT v ok.lb;have e1:aG (d.e+b)=d.e+b:=by grind[i64_in]
 have e2:aG (0- (d.e+b))=0- (d.e+b):=by grind[i64_in]
 have hl:O d.m<=256:=ω
 have h1:=FO ok.lb hl (n:=0- (d.e+b));have h2:=wM ok.lb hl (n:=d.e+b);unfold fOf;by_cases c:d.e+b<0
 ·have f1:=tt c;simp only[Dr,cw,dw,af,ak,go_sem,e1,e2,f1,h1]
 ·have f1:=ff c;simp only[Dr,cw,dw,af,ak,go_sem,e1,e2,f1,h2]
theorem GO(z):kR (IntKind.i64.wrap z):=by
 rw[IntKind.wrap_i64];exact⟨by omega,by omega⟩
def RP(n):OC (.bx [I n]):=⟨fun _=>rfl,rfl,fun _=>rfl,rfl⟩
def ao9(x):RT (cw x):=⟨fun _=>rfl,fun _ _=>rfl,fun _=>rfl⟩
def an2{x}(k:dS x){n}:R 341 [cw x,ac 1000] [.bx [I n]]=some (cw (Il x (IntKind.i64.wrap (n*n))),[.bx [I n]]):=by
 refine xz Ni Nh (Co false) rfl ?_;have h:=N0 k (GO (n*n));simp only[cw,dw]at h;simp only[xX,cw,dw,go_sem,h];exact jY Z Z Z Z (by simp only[go_sem])
def Xn{x}(k:dS x){n}{h}{d}(hh:h 1000=.bx [I n])(hd:h (2000+8*d)=.dead):bF R (aA false) h d [cw x] (.fn 341 [] [ac 1000])=some (cw (Il x (IntKind.i64.wrap (n*n))),h,[]):=by
 have q:=NF (f:=341) (h:=h) (d:=d) (id:=1000) (zas:=[cw x]) (as':=[cw x]) (FB false) (Co false) (by simp only[cw,dw,go_sem,aFb,aE5]) Z Z hh (RP n) (RP n) (fun h=>h) (an2 k) (ao9 _) (aFp rfl) (by
  show bV h (2000+8*d) 1=true;grind[bV,bS])
 grind[Kr]
def atX{x}{n}(hx:x.2≠0)(hn:2<=(Gw n).2):(Il x n).2<x.2:=Nat.div_lt_self ω ω
def afg{n}{x s}{k}(z:(Il x (IntKind.i64.wrap (n*n))).2=0)(kx:dS x)(ks:dS s)(S)(h)(X)(hX:ao 0 [4] (aB (am R (aA false) dZ) [1,2,4,5,6] [2,4,5,1000] S h)=X)
  (k1:S 1=.fn 341 [] [ac 1000]) (k2:S 2=ac 2) (k4:S 4=ac 4) (k5:S 5=ac 5) (k6:S 6=I k) (h2:h 2=.bx (dw x)) (h4:h 4=.bx [B false,.emp]) (h5:h 5=.bx (dw s)) (h0:h 1000=.bx [I n]):
  ∃y,dS y/\∃ss hh,X=some (.ret,⟨ss,hh⟩)/\ss 4=ac 4/\hh 4=.bx (dw y)/\hh 1000=.bx [I n]:=by
 subst hX;rw[ai];have q1:=fun(h:aj) d (hh:h 1000=.bx [I n]) (hd:h (2000+8*d)=.dead)=>Xn kx hh hd;have kb:=Pf kx (IntKind.i64.wrap (n*n));have q2:=Ik kb;have e1:=tt z;refine⟨s,ks,?ss0,?hh0,?_,?_,?_,?_⟩;rotate_left 2
 ·simp only[cw,dw]at q1 q2 h2 h5;simp only[dZ,go_sem,aEP,aEO,aEN,aX,k1,k2,k4,k5,k6,h2,h4,h5,h0];rw[q1 _ _ Z Z];simp only[go_sem,q2,e1,decide_true];rfl
 all_goals rfl
def an3{n}(hn:2<=(Gw (IntKind.i64.wrap (n*n))).2):∀f x s k,x.2<=f->dS x->dS s->∀S h X,ao 0 [4] (aB (am R (aA false) dZ) [1,2,4,5,6] [2,4,5,1000] S h)=X->
  S 1=.fn 341 [] [ac 1000]->S 2=ac 2->S 4=ac 4->S 5=ac 5->S 6=I k->h 2=.bx (dw x)->h 4=.bx [B false,.emp]->h 5=.bx (dw s)->h 1000=.bx [I n]->
  ∃y,dS y/\∃ss hh,X=some (.ret,⟨ss,hh⟩)/\ss 4=ac 4/\hh 4=.bx (dw y)/\hh 1000=.bx [I n]:=by
 intro f;induction f with
 |zero=>
  intro x s k hf kx ks S h X hX k1 k2 k4 k5 k6 h2 h4 h5 h0;refine afg ?_ kx ks S h X hX k1 k2 k4 k5 k6 h2 h4 h5 h0;show x.2/_=0
  simp_all
 |succ f ih=>
  intro x s k hf kx ks S h X hX k1 k2 k4 k5 k6 h2 h4 h5 h0;by_cases z:(Il x (IntKind.i64.wrap (n*n))).2=0
  ·exact afg z kx ks S h X hX k1 k2 k4 k5 k6 h2 h4 h5 h0
  have hx:x.2≠0:=fun h=>z (by
   show x.2/_=0
   simp_all)
  have lt:=atX hx hn;have q1:=fun(h:aj) d (hh:h 1000=.bx [I n]) (hd:h (2000+8*d)=.dead)=>Xn kx hh hd;have kb:=Pf kx (IntKind.i64.wrap (n*n));have q2:=Ik kb;have e1:=ff z;subst hX;rw[ai];generalize Il x (IntKind.i64.wrap (n*n))=y at*
  have q3:=N0 kb (GO (IntKind.i64.wrap (2*k)+1));have k3:=Pf kb (IntKind.i64.wrap (IntKind.i64.wrap (2*k)+1));generalize Il y (IntKind.i64.wrap (IntKind.i64.wrap (2*k)+1))=t at*
  by_cases c:k.tmod 2=1
  ·have e2:=tt c;have q4:=zL (x:=t);have q5:=mG ks (y:=(!t.1,t.2)) k3;have ih':=ih y (nJ s (!t.1,t.2)) (IntKind.i64.wrap (k+1)) ω kb (qf _ _);simp only[cw,dw]at q1 q2 q3 q4 q5 h2 h5 ih';simp only[dZ,go_sem,aEP,aEO,aEN,aX,k1,k2,k4,k5,k6,h2,h4,h5,h0];rw[q1 _ _ Z Z];simp only[go_sem,aEP,aEO,aEN,aX,q2,q3,q4,q5,e1,e2];apply ih'<;>rfl
  ·have e2:=ff c;have q5:=mG ks (y:=t) k3;have ih':=ih y (nJ s t) (IntKind.i64.wrap (k+1)) ω kb (qf _ _);simp only[cw,dw]at q1 q2 q3 q5 h2 h5 ih';simp only[dZ,go_sem,aEP,aEO,aEN,aX,k1,k2,k4,k5,k6,h2,h4,h5,h0];rw[q1 _ _ Z Z];simp only[go_sem,aEP,aEO,aEN,aX,q2,q3,q5,e1,e2];apply ih'<;>rfl
def atY{n}(hn:2<=(Gw (IntKind.i64.wrap (n*n))).2){x}(kx:dS x):∃y,dS y/\R 340 [cw x,.fn 341 [] [ac 1000]] [.bx [I n]]=some (cw y,[.bx [I n]]):=by
 have hL:=an3 hn x.2 x x 1 (aET _) kx kx;generalize hLL:aB (am R (aA false) dZ)=L at hL;have hX:∀s h,am R (aA false) (.loop [1,2,4,5,6] [2,4,5,1000] dZ) s h=L [1,2,4,5,6] [2,4,5,1000] s h:=fun s h=>by rw[←hLL];rfl
 have key:∃y,dS y/\fk false [[a9,aR]] [.cell 4 2 true] 1 (am R (aA false) oT.body (iW [cw x,.fn 341 [] [ac 1000]]) (upd (fun _=>.dead) 1000 (.bx [I n])))=some (cw y,[.bx [I n]]):=by
  simp only[oT,Dt,cw,dw,go_sem,hX];generalize hBB:ao 0 [4] (L _ _ _ _)=X;obtain⟨y,ky,ss,hh,hE,s4,g4,g0⟩:=hL _ _ _ hBB Z Z Z Z Z Z Z Z Z;refine⟨y,ky,?_⟩;rw[hE];simp only[go_sem,s4,g4];exact jY rfl g0 Z Z (by simp only[go_sem])
 obtain⟨y,ky,hy⟩:=key;exact⟨y,ky,tE lX.2.1 lX.2.2 (lX.1.2.2.2 false) rfl hy⟩
def T5{n b}(hi:kR n)(hn:2<=(Gw (IntKind.i64.wrap (n*n))).2):∃y,dS y/\R 334 [I n,I b] []=some (cw y,[]):=by
 have h1:=wM (m:=[1]) HQ δ (n:=b);have k1:dS (false,tG (ab [1]) b):=DI _ _;have h2:=N0 k1 hi;obtain⟨y,ky,hy⟩:=atY (n:=n) hn (Pf k1 n);refine⟨y,ky,au Q0 ?_⟩;have hcc:=fun h d hh (hf:h (2000+8*d)=.dead)=>B3 (f:=340) (g:=341) (h:=h) (d:=d) (id:=2) (zas:=[cw (Il (false,tG (ab [1]) b) n)]) (as':=[cw (Il (false,tG (ab [1]) b) n)]) (lX.1.2.1 false) (lX.1.2.2.2 false)
  (by simp only[cw,dw,go_sem,aFb,aE5]) Z Z hh (RP _) (RP _) (fun h=>h) hy (ao9 _) (aFp rfl) (by show bV h (2000+8*d) 1=true;grind[bV,bS])
 simp only[aFb,aE5,cw,dw,go_sem]at hcc;simp only[cw,dw]at h2;simp only[AT,cw,dw,go_sem,oj,h1,h2];rw[hcc _ _ Z Z];simp only[go_sem]
theorem apa{n}(h:kR n):(Gw n).2=n.natAbs:=by
 unfold Gw gZ;by_cases g:n.natAbs=0
 ·grind[kT,tG,Bo,aC,ab,cO]
 have hl:n.natAbs<2^64:=by
  obtain⟨h1,h2⟩:=h;omega
 have ht:=agT g hl;have hd:=(Cj g).1;have hk:O (ax n.natAbs)<=2:=eN (aFQ hl δ);rw[l7 g];simp only[aJ];unfold tG;unfold Bo;grind
def akZ{n m}(e:IntKind.i64.wrap (n*n)=m)(h:2<=m/\m<=100000):2<=(Gw (IntKind.i64.wrap (n*n))).2:=by
 grind[apa,GO]
def apb{b}:∃y,dS y/\R 313 [I b] []=some (cw y,[]):=by
 obtain⟨x,kx,h1⟩:=T5 (n:=5) (b:=b) ⟨by decide,by decide⟩ (akZ (m:=25) δ δ);obtain⟨y,ky,h2⟩:=T5 (n:=239) (b:=b) ⟨by decide,by decide⟩ (akZ (m:=57121) δ δ);have h3:=wM (aH x.2) kx (n:=4);have h4:=wM (aH y.2) ky (n:=2);rw[aJ]at h3 h4;have u1:dS (false,tG x.2 4):=DI x.2 4;have u2:dS (true,tG y.2 2):=DI y.2 2;have h5:=mG u1 u2;refine⟨nJ (false,tG x.2 4) (true,tG y.2 2),qf _ _,au ada ?_⟩;simp only[cw,dw]at h1 h2 h5;simp only[Hz,cw,dw,go_sem,h1,h2,h3,h4,h5]
def IsF(c:List AV)(y:Fx):Prop:=c=dw y\/c=[B false,.emp]/\y=(false,0)
def afh{x t c s0}{sn}{b k}(hs:IsF sn s0)(z:(Il (T3 t x b) k).2=0)(hk:kR k)(kx:dS x)(kt:dS t)(kc:dS c)(ks:dS s0)(S)(h)(X)(hX:ao 0 [4,5] (aB (am R (aA false) cW) [1,2,4,5,7,8] [2,4,5,7] S h)=X)
  (k1:S 1=I b) (k2:S 2=ac 2) (k4:S 4=ac 4) (k5:S 5=ac 5) (k7:S 7=ac 7) (k8:S 8=I k) (h2:h 2=.bx (dw x)) (h4:h 4=.bx sn) (h5:h 5=.bx (dw c)) (h7:h 7=.bx (dw t)):
  ∃y z yn,dS y/\dS z/\IsF yn y/\∃ss hh,X=some (.ret,⟨ss,hh⟩)/\ss 4=ac 4/\ss 5=ac 5/\hh 4=.bx yn/\hh 5=.bx (dw z):=by
 subst hX;rw[ai];have q1:=NY kt kx (b:=b);have q2:=N0 (T4 t x b) hk;have q3:=Ik (Pf (T4 t x b) k);have e1:=tt z;rcases hs with rfl| ⟨rfl,rfl⟩
 ·refine⟨s0,c,dw s0,ks,kc,.inl rfl,?ss0,?hh0,?_,?_,?_,?_,?_⟩;rotate_left 2
  ·simp only[cw,dw]at q1 q2 q3 h2 h4 h5 h7;simp only[cW,go_sem,k1,k2,k4,k5,k7,k8,h2,h4,h5,h7,q1,q2,q3,e1,decide_true];rfl
  all_goals rfl
 ·refine⟨(false,0),c,[B false,.emp],ks,kc,.inr ⟨rfl,rfl⟩,?ss1,?hh1,?_,?_,?_,?_,?_⟩;rotate_left 2
  ·simp only[cw,dw]at q1 q2 q3 h2 h4 h5 h7;simp only[cW,go_sem,k1,k2,k4,k5,k7,k8,h2,h4,h5,h7,q1,q2,q3,e1,decide_true];rfl
  all_goals rfl
def an4{x}{b}(kx:dS x):∀ (f:Nat) t c s0 sn k,IsF sn s0->kR k->(k+f) %18446744073709551616=0->dS t->dS c->dS s0->∀S h X,ao 0 [4,5] (aB (am R (aA false) cW) [1,2,4,5,7,8] [2,4,5,7] S h)=X->
  S 1=I b->S 2=ac 2->S 4=ac 4->S 5=ac 5->S 7=ac 7->S 8=I k->h 2=.bx (dw x)->h 4=.bx sn->h 5=.bx (dw c)->h 7=.bx (dw t)->
  ∃y z yn,dS y/\dS z/\IsF yn y/\∃ss hh,X=some (.ret,⟨ss,hh⟩)/\ss 4=ac 4/\ss 5=ac 5/\hh 4=.bx yn/\hh 5=.bx (dw z):=by
 intro f;induction f with
 |zero=>
  intro t c s0 sn k hs hk hf kt kc ks S h X hX k1 k2 k4 k5 k7 k8 h2 h4 h5 h7;refine afh hs ?_ hk kx kt kc ks S h X hX k1 k2 k4 k5 k7 k8 h2 h4 h5 h7;have n0:k=0:=by
   obtain⟨a,b⟩:=hk;omega
  subst n0;show(T3 t x b).2/ (Gw 0).2=0
  simp_all[apa,Nat.div_zero]
 |succ f ih=>
  intro t c s0 sn k hs hk hf kt kc ks S h X hX k1 k2 k4 k5 k7 k8 h2 h4 h5 h7;by_cases z:(Il (T3 t x b) k).2=0
  ·exact afh hs z hk kx kt kc ks S h X hX k1 k2 k4 k5 k7 k8 h2 h4 h5 h7
  have q1:=NY kt kx (b:=b);have kw:=Pf (T4 t x b) k;have q2:=N0 (T4 t x b) hk;have q3:=Ik kw;have e1:=ff z;subst hX;rw[ai];have hf':(IntKind.i64.wrap (k+1)+f) %18446744073709551616=0:=by
   grind[IntKind.wrap_i64]
  clear z;generalize Il (T3 t x b) k=w at*
  generalize T3 t x b=v at*
  have q4:=zL (x:=w);have kw':dS (!w.1,w.2):=kw;by_cases c1:2<=k.tmod 4
  ·have f1:=tt c1;by_cases c2:k.tmod 2=1
   ·have f2:=tt c2;have q5:=mG ks kw';have ih':=ih w c (nJ s0 (!w.1,w.2)) (dw (nJ s0 (!w.1,w.2))) (IntKind.i64.wrap (k+1)) (.inl rfl) (GO _) hf' kw kc (qf _ _);generalize aB _ _ _=L at ih'⊢;rcases hs with rfl| ⟨rfl,rfl⟩
    ·generalize nJ s0 (!w.1,w.2)=u at*
     simp only[cw,dw]at q1 q2 q3 q4 q5 h2 h4 h5 h7 ih';simp only[cW,go_sem,aEP,aEO,aEN,aX,k1,k2,k4,k5,k7,k8,h2,h4,h5,h7,q1,q2,q3,q4,q5,e1,f1,f2];apply ih'<;>rfl
    ·generalize nJ (false,0) (!w.1,w.2)=u at*
     simp only[cw,dw,cO]at q1 q2 q3 q4 q5 h2 h4 h5 h7 ih';simp only[cW,go_sem,aEP,aEO,aEN,aX,k1,k2,k4,k5,k7,k8,h2,h4,h5,h7,q1,q2,q3,q4,q5,e1,f1,f2];apply ih'<;>rfl
   ·have f2:=ff c2;have q5:=mG kc kw';have ih':=ih w (nJ c (!w.1,w.2)) s0 sn (IntKind.i64.wrap (k+1)) hs (GO _) hf' kw (qf _ _) ks;generalize nJ c (!w.1,w.2)=u at*
    generalize aB _ _ _=L at ih'⊢;rcases hs with rfl| ⟨rfl,rfl⟩
    all_goals
     simp only[cw,dw]at q1 q2 q3 q4 q5 h2 h4 h5 h7 ih';simp only[cW,go_sem,aEP,aEO,aEN,aX,k1,k2,k4,k5,k7,k8,h2,h4,h5,h7,q1,q2,q3,q4,q5,e1,f1,f2];apply ih'<;>rfl
  ·have f1:=ff c1;by_cases c2:k.tmod 2=1
   ·have f2:=tt c2;have q5:=mG ks kw;have ih':=ih w c (nJ s0 w) (dw (nJ s0 w)) (IntKind.i64.wrap (k+1)) (.inl rfl) (GO _) hf' kw kc (qf _ _);generalize aB _ _ _=L at ih'⊢;rcases hs with rfl| ⟨rfl,rfl⟩
    ·generalize nJ s0 w=u at*
     simp only[cw,dw]at q1 q2 q3 q4 q5 h2 h4 h5 h7 ih';simp only[cW,go_sem,aEP,aEO,aEN,aX,k1,k2,k4,k5,k7,k8,h2,h4,h5,h7,q1,q2,q3,q4,q5,e1,f1,f2];apply ih'<;>rfl
    ·generalize nJ (false,0) w=u at*
     simp only[cw,dw,cO]at q1 q2 q3 q4 q5 h2 h4 h5 h7 ih';simp only[cW,go_sem,aEP,aEO,aEN,aX,k1,k2,k4,k5,k7,k8,h2,h4,h5,h7,q1,q2,q3,q4,q5,e1,f1,f2];apply ih'<;>rfl
   ·have f2:=ff c2;have q5:=mG kc kw;have ih':=ih w (nJ c w) s0 sn (IntKind.i64.wrap (k+1)) hs (GO _) hf' kw (qf _ _) ks;generalize nJ c w=u at*
    generalize aB _ _ _=L at ih'⊢;rcases hs with rfl| ⟨rfl,rfl⟩
    all_goals
     simp only[cw,dw]at q1 q2 q3 q4 q5 h2 h4 h5 h7 ih';simp only[cW,go_sem,aEP,aEO,aEN,aX,k1,k2,k4,k5,k7,k8,h2,h4,h5,h7,q1,q2,q3,q4,q5,e1,f1,f2];apply ih'<;>rfl
def ak0{x}{b}(kx:dS x):∃y z,dS y/\dS z/\R 310 [cw x,I b] []=some (.tup [cw y,cw z],[]):=by
 have h1:=wM (m:=[1]) HQ δ (n:=b);have k1:dS (false,tG (ab [1]) b):=DI _ _;have k0:=by
  show(ax 0).length<=256;grind[cO]
 have hL:=an4 kx (b:=b) 18446744073709551615 (false,tG (ab [1]) b) (false,tG (ab [1]) b) (false,0) [B false,.emp] 1 (.inr ⟨rfl,rfl⟩) ⟨by decide,by decide⟩ δ k1 k1 k0;have key:∃y z,dS y/\dS z/\fk false nD.rs nD.res 0 (am R (aA false) nD.body (iW [cw x,I b]) (fun _=>.dead))=some (.tup [cw y,cw z],[]):=by
  generalize hLL:aB (am R (aA false) cW)=L at hL;have hX:∀s h,am R (aA false) (.loop [1,2,4,5,7,8] [2,4,5,7] cW) s h=L [1,2,4,5,7,8] [2,4,5,7] s h:=fun s h=>by rw[←hLL];rfl
  simp only[nD,IJ,cw,dw,go_sem,oj,h1,hX];generalize hBB:ao 0 [4,5] (L _ _ _ _)=X;obtain⟨y,z,yn,ky,kz,hy,ss,hh,hE,s4,s5,g4,g5⟩:=hL _ _ _ hBB Z Z Z Z Z Z Z Z Z Z;refine⟨y,z,ky,kz,?_⟩;rw[hE];rcases hy with rfl| ⟨rfl,rfl⟩
  ·simp only[dw]at g4 g5;simp only[go_sem,s4,s5,g4,g5]
  ·simp only[dw]at g5;simp only[go_sem,s4,s5,g4,g5,cO]
 obtain⟨y,z,ky,kz,hy⟩:=key;exact⟨y,z,ky,kz,au Tc hy⟩
def ab8{neg}{n}(h:O (ax n)<=256){e}:∃r,Ok0 r.1/\R 323 [B neg,lm (ax n),I e] []=some (rV r,[]):=by
 have h1:=adU (neg:=neg) (e:=e) (aH n) ω;rw[aJ]at h1;by_cases c:256< O (ax n)\/e< -32768\/32768<e
 ·rw[ap c]at h1;exact⟨(aC,1),aO.2,h1⟩
 ·rw[av c]at h1;have hb:=HP (aH n);rw[aJ]at hb;have ok:Ok0 (aZ neg n e):=⟨sx _ _ _,aFl (pq (k:=256) ω) δ⟩;split at h1
  ·exact⟨(aZ neg n e,0),ok,h1⟩
  ·exact⟨(aC,9),aO.2,h1⟩
def LL{a}{b p}(k:dS a)(hb:-100000<=b/\b<=100000):∃y,OkI y/\R 312 [cw a,I b,I p] []=some (ae y,[]):=by
 have h1:=wM (m:=[1]) HQ δ (n:=24);have kv:dS (false,tG (ab [1]) 24):=DI (ab [1]) 24;have kw:dS (true,tG (ab [1]) 24):=kv;have h2:=zL (x:=(false,tG (ab [1]) 24));have h3:=mG k kw;have h4:=mG k kv;have k3:=qf a (true,tG (ab [1]) 24);have k4:=qf a (false,tG (ab [1]) 24);clear kv kw;generalize nJ a (true,tG (ab [1]) 24)=lo at*
 generalize nJ a (false,tG (ab [1]) 24)=hi at*
 have e1:aG (0-b)=0-b:=by grind[i64_in]
 obtain⟨r,or,h5⟩:=ab8 (neg:=lo.1) k3 (e:=0-b);obtain⟨q,oq,h6⟩:=ab8 (neg:=hi.1) k4 (e:=0-b);have hw:=dW;obtain⟨r1,r2⟩:=r;obtain⟨q1,q2⟩:=q;have h7:=IX or (p:=p);have h8:=OD oq (p:=p);have o7:Ok0 (bY r1 p false).1:=At;have o8:Ok0 (bY q1 p true).1:=At;simp only at or oq h7 h8;generalize bY r1 p false=s at*
 generalize bY q1 p true=t at*
 obtain⟨s1,s2⟩:=s;obtain⟨t1,t2⟩:=t;simp only[cw,dw,rV,af,ak,ae,ah,bt,aC]at h2 h3 h4 h5 h6 h7 h8 hw;have fin:∀y,OkI y->fk false ij.rs ij.res 0 (am R (aA false) ij.body (iW [cw a,I b,I p]) (fun _=>.dead))=some (ae y,[])->∃y,OkI y/\R 312 [cw a,I b,I p] []=some (ae y,[]):=fun y oy h=>⟨y,oy,au Ym h⟩;by_cases c1:r2=0
 ·have f1:=tt c1;by_cases c2:q2=0
  ·have f2:=tt c2;by_cases c3:s2=0
   ·have f3:=tt c3;by_cases c4:t2=0
    ·have f4:=tt c4;refine fin ⟨s1,t1,false⟩ ⟨o7,o8⟩ ?_;simp only[ij,cw,dw,ae,ah,go_sem,oj,h1,h2,h3,h4,h5,h6,h7,h8,hw,e1,f1,f2,f3,f4]
    ·have f4:=ff c4;refine fin bt gX.ok' ?_;simp only[ij,cw,dw,ae,ah,bt,aC,go_sem,oj,h1,h2,h3,h4,h5,h6,h7,h8,hw,e1,f1,f2,f3,f4]
   ·have f3:=ff c3;refine fin bt gX.ok' ?_;simp only[ij,cw,dw,ae,ah,bt,aC,go_sem,oj,h1,h2,h3,h4,h5,h6,h7,h8,hw,e1,f1,f2,f3]
  ·have f2:=ff c2;refine fin bt gX.ok' ?_;simp only[ij,cw,dw,ae,ah,bt,aC,go_sem,oj,h1,h2,h3,h4,h5,h6,hw,e1,f1,f2]
 ·have f1:=ff c1;refine fin bt gX.ok' ?_;simp only[ij,cw,dw,ae,ah,bt,aC,go_sem,oj,h1,h2,h3,h4,h5,h6,hw,e1,f1]
def YK{d}(ok:Ok0 d)(v:vd d=true):-100000<=aQ d/\aQ d<=30000:=by
 obtain⟨_,h1,h2,h3⟩:=dT v ok.lb;grind[aQ]
def an5{s}{v}{n}(h:O (ax v)<=256):dS (s,Ij v n):=aEX (DJ (ahO v n)) h
def atZ{s}{a c}(h:O (ax a)<=256):dS (s,a/c):=aEX (DJ (aF1 a c)) h
def ahS{d}{b}(ok:Ok0 d)(v:vd d=true)(hb:-10000<=b/\b<=10000):∃ (r:Fx) (k:Int),dS r/\R 309 [af d,I b] []=some (.tup [cw r,I k],[]):=by
 have h1:=pW ok;have tb:=YK ok v;obtain⟨T,hT⟩:∃T,(if aQ d<0 then 0 else aQ d)=T:=⟨_,rfl⟩;have e1:aG (b+T)=b+T:=by grind[i64_in]
 have e2:aG (b+T+40)=b+T+40:=by grind[i64_in]
 have e3:aG (T+40)=T+40:=by grind[i64_in]
 obtain⟨y,ky,h2⟩:=apb (b:=b+T+40);have h3:=FO (aH y.2) ky (n:=1);rw[aJ]at h3;have k3:dS (false,Ij y.2 1):=an5 ky;have h4:=ab7 ok v (b:=b+T+40) ω;have k4:=ahR ok (by have:=vB v ok.lb;omega) (b+T+40);generalize fOf d (b+T+40)=x at*
 generalize Ij y.2 1=hf at*
 obtain⟨e,h5⟩:=ahQ (a:=x.2) (b:=hf) k4 k3;have k5:O (ax (x.2/hf))<=256:=atZ (s:=true) k4;generalize hn:x.2/hf=n at*
 have h6:=J6 (aH n) (aH hf) k5 k3;rw[aJ,aJ]at h6;obtain⟨e6,d6⟩:=CK (n*hf);rw[d6]at h6;have k6:dS (!x.1,Bo (n*hf)):=FN (n*hf);have k7:=k4;have h7:=mG k7 k6;have kr:=qf (x.1,x.2) (!x.1,Bo (n*hf));generalize nJ (x.1,x.2) (!x.1,Bo (n*hf))=r at*
 generalize Bo (n*hf)=m at*
 have h8:=FO (aH r.2) kr (n:=T+40);rw[aJ]at h8;have k8:dS (r.1,Ij r.2 (T+40)):=an5 kr;generalize Ij r.2 (T+40)=u at*
 simp only[cw,dw,af,ak]at h1 h2 h4 h7;have l9:O (aS (ax n))=O (ax n):=wH _;have fin:∀k,fk false gr.rs gr.res 0 (am R (aA false) gr.body (iW [af d,I b]) (fun _=>.dead))=some (.tup [cw (r.1,u),I k],[])->∃ (r:Fx) (k:Int),dS r/\R 309 [af d,I b] []=some (.tup [cw r,I k],[]):=fun k h=>⟨_,k,k8,au QY h⟩;by_cases c1:0< O (ax n)
 ·have f1:=aa ((0:Int)< O (ax n));have q1:=dV (m:=ax n) (i:=0) (n:=0) rfl c1;cases c2:x.1 with
  |true=>
   refine fin ?k0 ?_;rotate_left
   ·rw[c2,aMD]at h7;simp only[gr,cw,dw,af,ak,go_sem,aEP,aEO,aEN,aX,h1,hT,e1,e2,e3,h2,h3,h4,h5,h6,h7,h8,f1,q1,c2,l9,aMD];rfl
  |false=>
   refine fin ?k1 ?_;rotate_left
   ·rw[c2,aFY]at h7;simp only[gr,cw,dw,af,ak,go_sem,aEP,aEO,aEN,aX,h1,hT,e1,e2,e3,h2,h3,h4,h5,h6,h7,h8,f1,q1,c2,l9,aFY];rfl
 ·have f1:=aP ((0:Int)< O (ax n));cases c2:x.1 with
  |true=>
   refine fin ?k2 ?_;rotate_left
   ·rw[c2,aMD]at h7;simp only[gr,cw,dw,af,ak,go_sem,aEP,aEO,aEN,aX,h1,hT,e1,e2,e3,h2,h3,h4,h5,h6,h7,h8,f1,c2,l9,aMD];rfl
  |false=>
   refine fin ?k3 ?_;rotate_left
   ·rw[c2,aFY]at h7;simp only[gr,cw,dw,af,ak,go_sem,aEP,aEO,aEN,aX,h1,hT,e1,e2,e3,h2,h3,h4,h5,h6,h7,h8,f1,c2,l9,aFY];rfl
def an6{a c}(ka:dS a)(kc:dS c):∃y,dS y/\R 318 [cw a,cw c] []=some (cw y,[]):=by
 obtain⟨e,h1⟩:=ahQ (a:=a.2) (b:=c.2) ka kc;have k1:dS (a.1,a.2/c.2):=atZ ka;have k2:=aEX (DJ (show mdN a.2 c.2<=a.2 by unfold mdN;split;omega;exact Nat.mod_le _ _)) ka;have h2:=Cs (aH (mdN a.2 c.2)) (aEX k2 δ);rw[aJ]at h2;have h3:=NZ (n:=-1) ⟨by decide,by decide⟩;have h4:=mG k1 (ahP (-1));have k4:=qf (a.1,a.2/c.2) (Gw (-1));generalize nJ (a.1,a.2/c.2) (Gw (-1))=w at*
 generalize a.2/c.2=q at*
 generalize mdN a.2 c.2=r at*
 simp only[cw,dw]at h3 h4;cases c1:a.1 with
 |false=>
  refine⟨(false,q),k1,au Es ?_⟩;simp only[tr,cw,dw,go_sem,h1,c1]
 |true=>
  rw[c1]at k1 h4;by_cases c2:0< (ag r:Int)
  ·have f2:=tt c2;refine⟨w,k4,au Es ?_⟩;simp only[tr,cw,dw,go_sem,h1,h2,h3,h4,c1,f2]
  ·have f2:=ff c2;refine⟨(true,q),k1,au Es ?_⟩;simp only[tr,cw,dw,go_sem,h1,h2,c1,f2]
def Xo{d}{cs}{p}(ok:Ok0 d)(v:vd d=true)(hp:0<=p/\p<=1000):∃y,OkI y/\R 286 [af d,B cs,I p] []=some (ae y,[]):=by
 have h0:=tT ok v;have fin:∀y,OkI y->fk false dy.rs dy.res 0 (am R (aA false) dy.body (iW [af d,B cs,I p]) (fun _=>.dead))=some (ae y,[])->∃y,OkI y/\R 286 [af d,B cs,I p] []=some (ae y,[]):=fun y oy h=>⟨y,oy,au U4 h⟩;by_cases c0:kl d=0
 ·have f0:=tt c0;cases cs with
  |true=>
   have i1:kR 1:=⟨by decide,by decide⟩;have h1:=m8 i1;rw[show aZ (decide ((1:Int)<0)) (Int.natAbs 1) 0=gZ 1 from rfl]at h1;have o1:=jh i1;generalize gZ 1=o at*
   have h2:=fY o1.2 o1.1;have o2:OkI ⟨o,o,false⟩:=⟨o1.2,o1.2⟩;refine fin _ o2 ?_;simp only[ae,ah,af,ak]at h0 h1 h2;simp only[dy,ae,ah,af,ak,go_sem,h0,h1,h2,f0]
  |false=>
   have h2:=fY ok v;have o2:OkI ⟨d,d,false⟩:=⟨ok,ok⟩;refine fin _ o2 ?_;simp only[ae,ah,af,ak]at h0 h2;simp only[dy,ae,ah,af,ak,go_sem,h0,h2,f0]
 have f0:=ff c0;have e1:aG (p+64)=p+64:=by grind[i64_in]
 obtain⟨r,k,kr,h1⟩:=ahS ok v (b:=p+64) ω;obtain⟨s,c,ks,kc,h2⟩:=ak0 kr (b:=p+64);obtain⟨y0,o0,g0⟩:=LL ks (b:=p+64) (p:=p) ω;obtain⟨y1,o1,g1⟩:=LL kc (b:=p+64) (p:=p) ω;have ks':dS (!s.1,s.2):=ks;have kc':dS (!c.1,c.2):=kc;obtain⟨y2,o2,g2⟩:=LL ks' (b:=p+64) (p:=p) ω;obtain⟨y3,o3,g3⟩:=LL kc' (b:=p+64) (p:=p) ω;have m1:=zL (x:=s);have m2:=zL (x:=c);obtain⟨n,hn⟩:∃n,(if cs=true then IntKind.i64.wrap (k+1)else k)=n:=⟨_,rfl⟩;simp only[cw,dw,ae,ah,af,ak]at h0 h1 h2 g0 g1 g2 g3 m1 m2;have main:(∃y,OkI y/\∀n',n'=n->fk false dy.rs dy.res 0 (am R (aA false) dy.body (iW [af d,B cs,I p]) (fun _=>.dead))=some (ae y,[])):=by
  by_cases c1:n.tmod 4=1
  ·have f1:=tt c1;refine⟨y1,o1,fun _ _=>?_⟩;cases cs
   all_goals
    simp only[↓reduceIte,aFv]at hn;simp only[dy,cw,dw,ae,ah,af,ak,go_sem,aEP,aEO,aEN,aX,h0,h1,h2,f0,e1,hn,f1,g1]
  have f1:=ff c1;by_cases c2:n.tmod 4=2
  ·have f2:=tt c2;refine⟨y2,o2,fun _ _=>?_⟩;cases cs
   all_goals
    simp only[↓reduceIte,aFv]at hn;simp only[dy,cw,dw,ae,ah,af,ak,go_sem,aEP,aEO,aEN,aX,h0,h1,h2,f0,e1,hn,f1,f2,g2,m1]
  have f2:=ff c2;by_cases c3:n.tmod 4=3
  ·have f3:=tt c3;refine⟨y3,o3,fun _ _=>?_⟩;cases cs
   all_goals
    simp only[↓reduceIte,aFv]at hn;simp only[dy,cw,dw,ae,ah,af,ak,go_sem,aEP,aEO,aEN,aX,h0,h1,h2,f0,e1,hn,f1,f2,f3,g3,m2]
  have f3:=ff c3;refine⟨y0,o0,fun _ _=>?_⟩;cases cs
  all_goals
   simp only[↓reduceIte,aFv]at hn;simp only[dy,cw,dw,ae,ah,af,ak,go_sem,aEP,aEO,aEN,aX,h0,h1,h2,f0,e1,hn,f1,f2,f3,g0]
 grind
def cuI:Ri:=⟨gZ (-1),gZ 1,false⟩
def at0:OkI cuI:=by
 have h1:=jh (n:=1) ⟨by omega,by omega⟩;have h2:=jh (n:=-1) ⟨by omega,by omega⟩;unfold cuI;generalize gZ 1=a at*
 generalize gZ (-1)=b at*
 exact⟨h2.2,h1.2⟩
def an7:R 285 [] []=some (ae cuI,[]):=by
 refine au Yi ?_;have h1:=m8 (n:=1) ⟨by omega,by omega⟩;rw[show aZ (decide ((1:Int)<0)) (Int.natAbs 1) 0=gZ 1 from rfl]at h1;have h2:=m8 (n:=-1) ⟨by omega,by omega⟩;rw[show aZ (decide ((-1)<0)) (Int.natAbs (-1)) 0=gZ (-1)from rfl]at h2;unfold cuI;simp only[af,ak]at h1 h2;simp only[Ej,ae,ah,go_sem,h1,h2]
def an8{p}:R 284 [I p] []=some (B (bv p),[]):=by
 refine au QT ?_;unfold bv;by_cases c:8<=p
 ·have f:=tt c;simp only[uA,go_sem,f,decide_true]
 ·have f:=ff c;simp only[uA,go_sem,f,decide_false]
def an9(ok:OkI x)(v1:vd x.lo=true)(v2:vd x.hi=true)(hs:kR sh)(hp:0<=p/\p<=1000):∃r:Bool,R 287 [ae x,I sh,I p] []=some (B r,[]):=by
 have h1:=pW ok.lo;have h2:=pW ok.hi;have b1:=YK ok.lo v1;have b2:=YK ok.hi v2;obtain⟨T0,hT0⟩:∃T,(if aQ x.lo<aQ x.hi then aQ x.hi else aQ x.lo)=T:=⟨_,rfl⟩;obtain⟨T,hT⟩:∃T,(if T0<0 then(0:Int)else T0)=T:=⟨_,rfl⟩;have e1:aG (p+T)=p+T:=by grind[i64_in]
 have e2:aG (p+T+40)=p+T+40:=by grind[i64_in]
 have e3:aG (T+24)=T+24:=by grind[i64_in]
 have e4:aG (T+24+4)=T+24+4:=by grind[i64_in]
 obtain⟨c,kc,g1⟩:=apb (b:=p+T+40);have g2:=wM (aH c.2) kc (n:=1);rw[aJ]at g2;have k2:dS (false,tG c.2 1):=DI c.2 1;generalize tG c.2 1=P9 at*
 have g3:=NZ hs;have k3:=ahP sh;generalize Gw sh=sm at*
 have g4:=NY k3 kc (b:=0);have k4:=T4 sm c 0;generalize T3 sm c 0=tm at*
 have g5:=FO (aH tm.2) k4 (n:=1);rw[aJ]at g5;have k5:dS (false,Ij tm.2 1):=an5 k4;have k5':dS (true,Ij tm.2 1):=k5;have g6:=zL (x:=(false,Ij tm.2 1));simp only[aFY]at g6;generalize Ij tm.2 1=s at*
 have g7:=wM (m:=[1]) HQ δ (n:=T+24+4);have k7:dS (false,tG (ab [1]) (T+24+4)):=DI (ab [1]) (T+24+4);generalize tG (ab [1]) (T+24+4)=e at*
 have g8:=ab7 ok.hi v2 (b:=p+T+40) ω;have k8:=ahR ok.hi (by have:=vB v2 ok.hi.lb;omega) (p+T+40);generalize fOf x.hi (p+T+40)=fh at*
 have g9:=mG k8 k5';have k9:=qf fh (true,s);generalize nJ fh (true,s)=a1 at*
 have g10:=mG k9 k7;have k10:=qf a1 (false,e);obtain⟨kk,k11,g11⟩:=an6 k10 k2;have g12:=J6 (aH kk.2) (aH P9) k11 k2;rw[aJ,aJ]at g12;obtain⟨er,d12⟩:=CK (kk.2*P9);rw[d12]at g12;have k12:dS (kk.1,Bo (kk.2*P9)):=FN (kk.2*P9);generalize Bo (kk.2*P9)=m at*
 have g13:=mG k12 k5;have k13:=qf (kk.1,m) (false,s);generalize nJ (kk.1,m) (false,s)=last at*
 have g14:=ab7 ok.lo v1 (b:=p+T+40) ω;have k14:=ahR ok.lo (by have:=vB v1 ok.lo.lb;omega) (p+T+40);generalize fOf x.lo (p+T+40)=fl at*
 have g15:=zL (x:=fl);have k15:dS (!fl.1,fl.2):=k14;have g16:=mG k13 k15;have k16:=qf last (!fl.1,fl.2);generalize nJ last (!fl.1,fl.2)=a3 at*
 have g17:=mG k16 k7;have k17:=qf a3 (false,e);generalize nJ a3 (false,e)=dd at*
 have g18:=Ik k17;simp only[cw,dw,af,ak]at h1 h2 g1 g3 g4 g6 g8 g9 g10 g11 g13 g14 g15 g16 g17 g18;generalize aQ x.lo=t1 at*
 generalize aQ x.hi=t2 at*
 by_cases c1:dd.2=0
 ·have f1:=tt c1;refine⟨true,au J2 ?_⟩;simp only[yy,cw,dw,ae,ah,go_sem,aEP,aEO,aEN,aX,oj,h1,h2,hT0,hT,e1,e2,e3,e4,g1,g2,g3,g4,g5,g6,g7,g8,g9,g10,g11,g12,g13,g14,g15,g16,g17,g18,f1]
 ·have f1:=ff c1;refine⟨!dd.1,au J2 ?_⟩;simp only[yy,cw,dw,ae,ah,go_sem,aEP,aEO,aEN,aX,oj,h1,h2,hT0,hT,e1,e2,e3,e4,g1,g2,g3,g4,g5,g6,g7,g8,g9,g10,g11,g12,g13,g14,g15,g16,g17,g18,f1]
def aro(ox:OkI x)(oy:OkI y):OkI (GL x y):=by
 unfold GL;split
 ·refine⟨?_,HU ox.hi oy.hi⟩;unfold lw;split
  ·exact ox.lo
  ·exact oy.lo
 ·exact gX.ok'
def arp(ox:OkI x)(oy:OkI y):OkI (tF x y).1:=by
 have l:Ok0 (lw x.hi y.hi):=by
  unfold lw;split
  ·exact ox.hi
  ·exact oy.hi
 have o0:OkI Mi:=⟨aO.2,aO.2⟩;unfold tF;split
 ·split
  ·omega
  ·split
   ·omega
   ·split
    ·exact⟨HU ox.lo oy.lo,l⟩
    omega
 omega
def YL{c:Bool}{a b:Rd}(oa:Ok0 a)(ob:Ok0 b):Ok0 (if c=true then a else b):=by
 grind
def afj{cs:Bool}{p:Int}(ok:OkI x):∃y,OkI y/\R 238 [ae x,B cs,I p] []=some (ae y,[]):=by
 have fin:∀y,OkI y->fk false dm.rs dm.res 0 (am R (aA false) dm.body (iW [ae x,B cs,I p]) (fun _=>.dead))=some (ae y,[])->∃y,OkI y/\R 238 [ae x,B cs,I p] []=some (ae y,[]):=fun y oy h=>⟨y,oy,au Yc h⟩;have h0:=an8 (p:=p);have hw:=dW;have h1:=mL ok;cases hp:bv p with
 |false=>
  rw[hp]at h0;refine fin bt gX.ok' ?_;simp only[ae,ah,bt,aC]at hw;simp only[dm,ae,ah,bt,aC,go_sem,h0,hw]
 |true=>
 rw[hp]at h0;cases hv:vi x with
 |false=>
  rw[hv]at h1;refine fin bt gX.ok' ?_;simp only[ae,ah,bt,aC]at hw h1;simp only[dm,ae,ah,bt,aC,go_sem,h0,h1,hw]
 |true=>
 rw[hv]at h1;cases ha:x.all with
 |true=>
  refine fin bt gX.ok' ?_;simp only[ae,ah,bt,aC,ha]at hw h1;simp only[dm,ae,ah,bt,aC,go_sem,h0,h1,hw,ha]
 |false=>
 have kx:kI x=true:=by
  grind[kI,hv]
 obtain⟨_,v1,v2⟩:=DH kx;have hu:=an7;have ou:=at0;have t1:=pW ok.lo;have t2:=pW ok.hi;obtain⟨w,b,h3,ow,vw,_⟩:=RM ok (p:=64);have i7:kR 7:=⟨by omega,by omega⟩;have h4:=m8 i7;rw[show aZ (decide ((7:Int)<0)) (Int.natAbs 7) 0=gZ 7 from rfl]at h4;have o7:=jh i7;have h5:=mF ow o7.2;rw[ap ⟨vw,o7.1⟩]at h5;generalize gH (zI w) (zI (gZ 7))=cc at*
 clear o7 i7;generalize gZ 7=seven at*
 have hp2:=pZ hp;obtain⟨y1,o1,g1⟩:=Xo ok.lo v1 (cs:=cs) (p:=p) ω;obtain⟨y2,o2,g2⟩:=Xo ok.hi v2 (cs:=cs) (p:=p) ω;have g3:=abr o1 o2;have o3:=aro o1 o2;generalize GL y1 y2=hh at*
 have g4:=abt o3 ou;have o4:=arp o3 ou;generalize tF hh cuI=mm at*
 obtain⟨y,bm⟩:=mm;simp only at g4 o4;have g5:=mF ok.lo ok.hi;rw[ap ⟨v1,v2⟩]at g5;generalize gH (zI x.lo) (zI x.hi)=dd at*
 have e1:aG (p+64)=p+64:=by grind[i64_in]
 have i1:kR 1:=⟨by omega,by omega⟩;have im:kR (-1):=⟨by omega,by omega⟩;have q1:=m8 i1;rw[show aZ (decide ((1:Int)<0)) (Int.natAbs 1) 0=gZ 1 from rfl]at q1;have q2:=m8 im;rw[show aZ (decide ((-1:Int)<0)) (Int.natAbs (-1)) 0=gZ (-1)from rfl]at q2;have oq1:=jh i1;have oq2:=jh im;generalize cuI=u at*
 generalize gZ 1=n1 at*
 generalize gZ (-1)=n2 at*
 generalize aQ x.lo=tl at*
 generalize aQ x.hi=th at*
 have mt:∀sh:Int,kR sh->∃r:Bool,R 287 [ae x,I sh,I (p+64)] []=some (B r,[]):=fun sh hs=>an9 ok v1 v2 hs ω;obtain⟨r0,m0⟩:=mt 0 ⟨by omega,by omega⟩;obtain⟨r1,m1⟩:=mt 1 ⟨by omega,by omega⟩;obtain⟨r2,m2⟩:=mt 2 ⟨by omega,by omega⟩;obtain⟨r3,m3⟩:=mt 3 ⟨by omega,by omega⟩;clear mt;simp only[ae,ah,af,ak,ha]at h1 hu t1 t2 h3 h4 h5 g1 g2 g3 g4 g5 q1 q2 m0 m1 m2 m3;by_cases c1:100<tl
 ·have f1:=tt c1;refine fin u ou ?_;simp only[dm,ae,ah,go_sem,aEP,aEO,aEN,aX,h0,h1,ha,t1,t2,f1,hu]
 have f1:=ff c1;by_cases c2:100<th
 ·have f2:=tt c2;refine fin u ou ?_;simp only[dm,ae,ah,go_sem,aEP,aEO,aEN,aX,h0,h1,ha,t1,t2,f1,f2,hu]
 have f2:=ff c2;cases b with
 |false=>
  refine fin u ou ?_;simp only[dm,ae,ah,af,ak,go_sem,aEP,aEO,aEN,aX,h0,h1,ha,t1,t2,f1,f2,h3,hu]
 |true=>
 by_cases c3:0<=cc
 ·have f3:=tt c3;refine fin u ou ?_;simp only[dm,ae,ah,af,ak,go_sem,aEP,aEO,aEN,aX,h0,h1,ha,t1,t2,f1,f2,h3,h4,h5,f3,hu]
 have f3:=ff c3;cases bm with
 |false=>
  refine fin u ou ?_;simp only[dm,ae,ah,af,ak,go_sem,aEP,aEO,aEN,aX,h0,h1,ha,t1,t2,f1,f2,h3,h4,h5,f3,g1,g2,g3,g4,hu]
 |true=>
 by_cases c4:dd=0
 ·have f4:=tt c4;refine fin y o4 ?_;simp only[dm,ae,ah,af,ak,go_sem,aEP,aEO,aEN,aX,h0,h1,ha,t1,t2,f1,f2,h3,h4,h5,f3,g1,g2,g3,g4,g5,f4,hu]
 have f4:=ff c4;cases cs with
 |true=>
  refine fin ⟨if r2 then n2 else y.lo,if r0 then n1 else y.hi,y.all⟩ ⟨YL oq2.2 o4.lo,YL oq1.2 o4.hi⟩ ?_;cases r0<;>cases r2<;>simp only[dm,ae,ah,af,ak,go_sem,aEP,aEO,aEN,aX,h0,h1,ha,t1,t2,f1,f2,h3,h4,h5,f3,g1,g2,g3,g4,g5,f4,hu,e1,q1,q2,m0,m2,aFv]
 |false=>
  refine fin ⟨if r3 then n2 else y.lo,if r1 then n1 else y.hi,y.all⟩ ⟨YL oq2.2 o4.lo,YL oq1.2 o4.hi⟩ ?_;cases r1<;>cases r3<;>simp only[dm,ae,ah,af,ak,go_sem,aEP,aEO,aEN,aX,h0,h1,ha,t1,t2,f1,f2,h3,h4,h5,f3,g1,g2,g3,g4,g5,f4,hu,e1,q1,q2,m1,m3,aFv]
def arq{p:Int}(ok:OkI x):∃y,OkI y/\R 175 [ae x,I p] []=some (ae y,[]):=by
 obtain⟨y,oy,h⟩:=afj ok (cs:=false) (p:=p);refine⟨y,oy,au aag ?_⟩;simp only[ae,ah]at h;simp only[F1,ae,ah,go_sem,h]
def arr{p:Int}(ok:OkI x):∃y,OkI y/\R 176 [ae x,I p] []=some (ae y,[]):=by
 obtain⟨y,oy,h⟩:=afj ok (cs:=true) (p:=p);refine⟨y,oy,au aah ?_⟩;simp only[ae,ah]at h;simp only[F3,ae,ah,go_sem,h]
def exL(y:Ri)(p:Int):Nat->Nat->Ri->Ri->Option (Ri×Ri)
 |0,_,_,_=>none
 |f+1,n,t,s=>if kI (dC (bX t y p) (cY n) p)=true then(if smB (dC (bX t y p) (cY n) p) p=true then some (dC (bX t y p) (cY n) p,de s (dC (bX t y p) (cY n) p) p)else exL y p f (n+1) (dC (bX t y p) (cY n) p) (de s (dC (bX t y p) (cY n) p) p))else none
def aJW{n:Nat}(h:n<=1000):kR n:=⟨by omega,by omega⟩
abbrev zC:List AV:=[B false,.emp,I 0,B false,.emp,I 0,B false]
def aKo{y}{p}{r}(oy:OkI y)(hp:0<=p/\p<=1000):∀f n t s,OkI t->OkI s->n+f<=1000->exL y p f n t s=some r->∀S h X,ao 0 [2,4,5,6] (aB (am R (aA false) fC) [2,3,4,5,6,7] [2,3,4,5,6] S h)=X->
  S 2=ac 2->S 3=ac 3->S 4=ac 4->S 5=ac 5->S 6=ac 6->S 7=I n->h 2=.bx [I p]->h 3=.bx (ah y)->h 4=.bx zC->h 5=.bx (ah t)->h 6=.bx (ah s)->
  OkI r.1/\OkI r.2/\∃hh,X=some (.normal,⟨upd (upd (upd (upd ce 6 (ac 6)) 5 (ac 5)) 4 (ac 4)) 2 (ac 2),hh⟩)/\hh 2=.bx [I p]/\hh 4=.bx zC/\hh 5=.bx (ah r.1)/\hh 6=.bx (ah r.2)/\∀i,i≠2->i≠3->i≠4->i≠5->i≠6->hh i=.dead:=by
 intro f;induction f with
 |zero=>intro n t s _ _ _ h;cases h
 |succ f ih=>
  intro n t s ot os hn hx S h X hX k2 k3 k4 k5 k6 k7 h2 h3 h4 h5 h6;have on:=gM (aJW (n:=n) ω);have q1:=Pe ot oy (p:=p);have q2:=nT (n:=n) (aJW ω);have q3:=Ks (iU (x:=t) (y:=y) (p:=p)) on (p:=p);have od:OkI (dC (bX t y p) (cY n) p):=kL;have q4:=CJ os od (p:=p);have oa:OkI (de s (dC (bX t y p) (cY n) p) p):=kW;unfold exL at hx;generalize de s (dC (bX t y p) (cY n) p) p=s1 at*
  generalize dC (bX t y p) (cY n) p=t1 at*
  generalize bX t y p=m1 at*
  generalize cY n=z at*
  cases c1:kI t1 with
  |false=>
   rw[c1,av aE3]at hx;cases hx
  |true=>
  rw[c1,ap rfl]at hx;have q5:=akY od c1 hp;have e3:aG (n+1)=(n+1:Nat):=wi;cases c2:smB t1 p with
  |true=>
   rw[c2,ap rfl]at hx;cases hx;rw[c2]at q5;subst hX;rw[ai];simp only[ae,ah]at q1 q2 q3 q4 q5 h3 h5 h6;refine⟨od,oa,?hh0,?_,?_,?_,?_,?_,?_⟩;rotate_left
   ·simp only[fC,go_sem,k2,k3,k4,k5,k6,k7,h2,h3,h4,h5,h6,q1,q2,q3,q4,q5];rfl
   all_goals first|rfl| (intro i b1 b2 b3 b4 b5;simp only[cz,b2,if_false, *];try (split<;>rfl))
  |false=>
   rw[c2,av aE3]at hx;rw[c2]at q5;have ih':=ih (n+1) t1 s1 od oa ω hx;subst hX;rw[ai];generalize aB _ _ _=L at ih'⊢;simp only[ae,ah]at q1 q2 q3 q4 q5 h3 h5 h6 ih';simp only[fC,go_sem,k2,k3,k4,k5,k6,k7,h2,h3,h4,h5,h6,q1,q2,q3,q4,q5,e3];apply ih'<;>rfl
theorem ars{x}(ok:OkI x)(hx:kI x=true):OkI (ab4 x):=by
 obtain⟨m1,m2⟩:=T2 ok hx;unfold ab4 gW;generalize qB x=d at*
 refine⟨?_,m2⟩;show Ok0 (if _ then _ else _);split
 ·exact aO.2
 ·exact⟨m2.lb,m2.len⟩
def aKC{y}{p}{r}:∀f n t s,exL y p f n t s=some r->kI r.1=true
 |0,_,_,_,h=>by cases h
 |f+1,n,t,s,h=>by
  unfold exL at h;split at h
  ·rename_i hk;split at h
   ·cases h;exact hk
   ·exact aKC f _ _ _ h
  ·cases h
def aK0{y}{p}{f}{r}(oy:OkI y)(hp:0<=p/\p<=1000)(hf:f<=900)(hx:exL y p f 1 (cY 1) (cY 1)=some r):R 272 [Ii p,ae y] []=some (ae (de r.2 (ab4 r.1) p),[]):=by
 refine au Lg ?_;have h1:=nT (n:=1) ⟨by decide,by decide⟩;have o1:OkI (cY 1):=gM ⟨by decide,by decide⟩;have hL:=aKo oy hp f 1 _ _ o1 o1 ω hx;have hk:=aKC _ _ _ _ hx;have hA:=fun h=>adk h hk;have hS:OkI r.1->OkI r.2->R 234 [Ii p,ae r.2,ae (ab4 r.1)] []=some (ae (de r.2 (ab4 r.1) p),[]):=fun h g=>CJ g (ars h hk);generalize de r.2 (ab4 r.1) p=z at*
 generalize ab4 r.1=a at*
 obtain⟨t,s⟩:=r;simp only at hA hS hL;clear hx hk;generalize cY 1=x1 at*
 generalize hLL:aB (am R (aA false) fC)=L at hL;have hX:∀s h,am R (aA false) (.loop [2,3,4,5,6,7] [2,3,4,5,6] fC) s h=L [2,3,4,5,6,7] [2,3,4,5,6] s h:=fun s h=>by rw[←hLL];rfl
 clear hLL;simp only[ae,ah]at h1 hL hA hS;simp only[iS,Do,ae,ah,go_sem,h1,hX];generalize hBB:ao 0 [2,4,5,6] (L _ _ _ _)=X;obtain⟨ot,os,hh,hE,k2,k4,k5,k6,kd⟩:=hL _ _ _ hBB Z Z Z Z Z Z Z Z Z Z Z;have hA:=hA ot;have hS:=hS ot os;rw[hE];simp only[go_sem,k2,k4,k5,k6,kd,ne_eq,not_false_eq_true,hA,hS]
def Qa(x:Ri)(p:Int):Ri:=if(!(nG x).all&&bv p)=true then kD (eJ (nG x).lo (nG x).lo p false) (eJ (nG x).hi (nG x).hi p true)else bt
def ak1{x}(ox:OkI x){p}:R 273 [ae x,I p] []=some (ae (Qa x p),[]):=by
 refine au PA ?_;have ha:=ad5 ox;have oa:=Vo ox;have hp:=l8 (p:=p);have hw:=dW;have hd:=Jv oa.lo oa.lo (p:=p);have hu:=Nv oa.hi oa.hi (p:=p);unfold Qa;generalize nG x=y at*
 generalize eJ y.lo y.lo p false=r at hd⊢;generalize eJ y.hi y.hi p true=q at hu⊢;obtain⟨r1,r2⟩:=r;obtain⟨q1,q2⟩:=q;have hm:=Cu (a:=r1) (b:=q1) (e:=r2) (f:=q2);simp only[ae,ah,rV,af,ak]at ha hw hd hu hm;cases h1:y.all with
 |true=>
  rw[aMD,aE0,av aE3];simp only[nY,ae,ah,go_sem,ha,h1,hw]
 |false=>
  rw[aFY,aEW];rw[h1]at ha;cases h2:bv p with
  |false=>
   rw[h2]at hp;rw[av aE3];simp only[nY,ae,ah,go_sem,ha,hp,hw]
  |true=>
   rw[h2]at hp;rw[ap rfl];simp only[nY,ae,ah,go_sem,ha,hp,hw,hd,hu,hm]
def ak2{s}:vd (H9 s).1=true/\Ok0 (H9 s).1:=xO
def hfI(x:Ri):Ri:=if kI x=true then kD (H9 x.lo) (H9 x.hi)else bt
def ak4{x}:OkI (hfI x):=by
 unfold hfI;split
 ·exact zF ak2.2 ak2.2
 ·exact gX.ok'
def aoa{x}(ox:OkI x):R 118 [ae x,I (-1)] []=some (ae (hfI x),[]):=by
 refine au HG ?_;have hk:=kU ox;have hw:=dW;unfold hfI;cases h1:kI x with
 |false=>
  rw[h1]at hk;simp only[mq,ae,ah,bt,aC,go_sem,hk,hw,aFv]
 |true=>
  rw[h1]at hk;obtain⟨_,v1,v2⟩:=DH h1;have hl:=RH ox.lo v1;have hh:=RH ox.hi v2;generalize H9 x.lo=r at*
  generalize H9 x.hi=q at*
  obtain⟨r1,r2⟩:=r;obtain⟨q1,q2⟩:=q;have hm:=Cu (a:=r1) (b:=q1) (e:=r2) (f:=q2);simp only[ae,ah,rV,af,ak]at hk hw hl hh hm;simp only[mq,ae,ah,go_sem,hk,hl,hh,hm]
def ak5{x}{p}:OkI (Qa x p):=by
 unfold Qa;split
 ·grind[zF,EA]
 ·exact gX.ok'
def zN{x}{p}:OkI (oA x p):=by
 unfold oA;split
 ·grind[zF,At]
 ·exact gX.ok'
def ahT(e:Int->Ri->Option Ri):Prop:=∀p y z,0<=p/\p<=1000->OkI y->e p y=some z->R 272 [Ii p,ae y] []=some (ae z,[])/\OkI z
def hvR(e:Int->Ri->Option Ri)(p:Int):Nat->Ri->Option Ri
 |0,y=>e p y
 |n+1,y=>(hvR e p n (hfI y)).map fun z=>Qa z p
def T6{e}(he:ahT e){p}(hp:0<=p/\p<=1000):∀n {y z},n<=100->OkI y->hvR e p n y=some z->R 221 [Ii p,ae y,I n] []=some (ae z,[])/\OkI z
 |0,y,z,_,oy,h=>by
  obtain⟨hx,oz⟩:=he p y z hp oy h;refine⟨au Az ?_,oz⟩;simp only[ae,ah]at hx;simp only[lQ,ae,ah,go_sem,hx,show decide (((0:Nat):Int)=0)=true from rfl]
 |n+1,y,z,hn,oy,h=>by
  unfold hvR at h;rw[aEU]at h;obtain⟨r,h1,rfl⟩:=h;obtain⟨g1,g2⟩:=T6 he hp n ω ak4 h1;have g3:=ak1 g2 (p:=p);have g4:=aoa oy;have e1:aG ((n+1:Nat)-1)=n:=wi;have e2:=aP (((n+1:Nat):Int)=0);refine⟨au Az ?_,ak5⟩;simp only[ae,ah]at g1 g3 g4;simp only[lQ,ae,ah,go_sem,g1,g3,g4,e1,e2]
def N1(d:Rd):Bool:=decide (gH (zI (py d)) (zI (gZ 1000))<=0)
def Pg{d}(ok:Ok0 d)(v:vd d=true):R 155 [af d] []=some (B (N1 d),[]):=by
 refine au Mr ?_;have h1:=Nq ok;have hn:kR 1000:=⟨by omega,by omega⟩;have h2:=m8 hn;rw[show aZ (decide ((1000:Int)<0)) (Int.natAbs 1000) 0=gZ 1000 from rfl]at h2;have h3:=mF (a:=py d) (b:=gZ 1000) (vC ok) (jh hn).2;rw[ap ⟨(apU v).2,(jh hn).1⟩]at h3;rw[show(if vd d=false\/O d.m=0 then aC else⟨false,d.m,d.e⟩)=py d from rfl]at h1;unfold N1;simp only[af,ak]at h1 h2 h3;simp only[wr,af,ak,go_sem,h1,h2,h3]
def ak6{x}{p}(ok:OkI x)(hk:kI x=true)(hp:bv p=true):R 154 [ae x,I p] []=some (B true,[]):=by
 refine au yA ?_;have h1:=mL ok;unfold kI at hk;simp only[aEV,aFS]at hk;rw[hk.2]at h1;have hp2:=pZ hp;have e1:=tt hp2.1;have e2:=tt hp2.2;simp only[ae,ah,hk.1]at h1;simp only[iY,ae,ah,go_sem,h1,hk.1,e1,e2]
def RQ{p q}(hp:0<=p/\p<=1000)(hq:0<=q/\q<=1000):R 219 [I p,I q] []=some (Ii (if 512<p+q then 512 else p+q),[]):=by
 refine au QP ?_;have e1:aG (p+q)=p+q:=by grind[i64_in]
 simp only[AM,go_sem,e1]
def I9(a b:Ri):Ri:=if(a.all||b.all)=true then bt else⟨a.lo,b.hi,false⟩
def afl{a b}:R 156 [ae a,ae b] []=some (ae (I9 a b),[]):=by
 refine au S0 ?_;have hw:=dW;unfold I9;cases h1:a.all<;>cases h2:b.all<;>simp only[BL,ae,ah,bt,aC,go_sem,h1,h2,hw,Bool.or_true,Bool.or_false,aFv]
def Ml(d:Rd):Nat:=(if aQ d+1<0 then 0 else aQ d+1).toNat
def Ku(d:Rd)(p:Int):Int:=if 512<p+(Ml d+24)then 512 else p+(Ml d+24)
def pwR(e:Int->Ri->Option Ri)(d:Rd)(p:Int):Option Ri:=if kl d=0 then some (cY 1)else(hvR e (Ku d p) (Ml d) (oA (m9 d) (Ku d p))).map fun z=>oA z p
def LM{e}(he:ahT e){d}{p}{z}(ok:Ok0 d)(v:vd d=true)(hp:bv p=true)(ht:aQ d<=50)(h:pwR e d p=some z):R 157 [af d,I p] []=some (ae z,[])/\OkI z:=by
 have h1:=tT ok v;have o1:OkI (cY 1):=gM ⟨by decide,by decide⟩;have hp2:=pZ hp;unfold pwR at h;by_cases g:kl d=0
 ·rw[ap g]at h;have hz:=(Option.some.inj h).symm;have h2:=nT (n:=1) ⟨by decide,by decide⟩;rw[←hz]at h2 o1;have f:=tt g;refine⟨au HI ?_,o1⟩;simp only[ae,ah,af,ak]at h1 h2;simp only[uu,ae,ah,af,ak,go_sem,h1,h2,f]
 ·rw[av g,aEU]at h;obtain⟨y,hy,rfl⟩:=h;have f:=ff g;have h3:=pW ok;have h4:=fY ok v;have hN:(if aQ d+1<0 then 0 else aQ d+1)=(Ml d:Nat):=by
   grind[Ml]
  have tb:-100000<=aQ d:=by
   unfold aQ;split
   ·omega
   ·have:=(dT v ok.lb).2.1;omega
  have e1:aG (aQ d+1)=aQ d+1:=by grind[i64_in]
  have e2:aG ((Ml d)+24)=(Ml d)+24:=by grind[i64_in]
  have h5:=RQ (p:=p) (q:=(Ml d)+24) ⟨by omega,by omega⟩ ⟨by omega,by omega⟩;rw[show(if 512<p+((Ml d)+24)then 512 else p+((Ml d)+24))=Ku d p from rfl]at h5;have hP:0<=Ku d p/\Ku d p<=1000:=by
   grind[Ku]
  have okp:OkI ⟨d,d,false⟩:=⟨ok,ok⟩;have h6:=FJ okp (p:=Ku d p);have okr:OkI (oA (m9 d) (Ku d p)):=zN;obtain⟨h7,oy⟩:=T6 he hP (Ml d) ω okr hy;have h8:=FJ oy (p:=p);refine⟨au HI ?_,zN⟩;simp only[m9]at h7;simp only[ae,ah,af,ak]at h1 h3 h4 h5 h6 h7 h8;simp only[uu,ae,ah,af,ak,go_sem,h1,h3,h4,h5,h6,h7,h8,f,e1,e2,hN]
def aob{e}(he:ahT e){x a b}{p}(ok:OkI x)(hk:kI x=true)(hp:bv p=true)(m1:N1 x.lo=true)(m2:N1 x.hi=true)(t1:aQ x.lo<=50)(t2:aQ x.hi<=50)(h1:pwR e x.lo p=some a)(h2:pwR e x.hi p=some b):R 87 [ae x,I p] []=some (ae (I9 a b),[]):=by
 obtain⟨_,v1,v2⟩:=DH hk;have g1:=ak6 ok hk hp;have g2:=Pg ok.lo v1;have g3:=Pg ok.hi v2;obtain⟨g4,oa⟩:=LM he ok.lo v1 hp t1 h1;obtain⟨g5,ob⟩:=LM he ok.hi v2 hp t2 h2;have g6:=afl (a:=a) (b:=b);rw[m1]at g2;rw[m2]at g3;refine au JX ?_;simp only[ae,ah,af,ak]at g1 g2 g3 g4 g5 g6;simp only[iw,ae,ah,go_sem,g1,g2,g3,g4,g5,g6]
def afn{x}(ok:OkI x)(hx:kI x=false):R 276 [ae x] []=some (.tup [af aC,B false],[]):=by
 refine au J1 ?_;have h1:=kU ok;rw[hx]at h1;simp only[yx,ae,ah,af,ak,aC,go_sem,h1]
def Xq(x:Ri)(p:Int):Bool:=if kI x=true then smB x p else true
def GQ{x}{p}(ok:OkI x)(hp:0<=p/\p<=1000):R 282 [Ii p,ae x] []=some (B (Xq x p),[]):=by
 unfold Xq;cases hk:kI x with
 |true=>
  grind[akY]
 |false=>
  refine au Bh ?_;have h1:=afn ok hk;simp only[ae,ah,af,ak,aC]at h1;simp only[jF,ae,ah,go_sem,h1]
def Xr(x:Ri):Ri:=if kI x=true then ab4 x else bt
def ak7{x}(ok:OkI x):OkI (Xr x):=by
 unfold Xr;split
 ·grind[ars]
 ·exact gX.ok'
def N2{x}(ok:OkI x):R 283 [ae x] []=some (ae (Xr x),[]):=by
 unfold Xr;cases hk:kI x with
 |true=>
  grind[adk]
 |false=>
  refine au Gt ?_;have h1:=afn ok hk;have h2:=dW;simp only[ae,ah,af,ak,aC,bt]at h1 h2;simp only[tq,ae,ah,bt,aC,go_sem,h1,h2]
theorem awi{x}{p}:dC x (cY 0) p=bt:=by
 have e:HT (cY 0)=0:=by
  rfl
 simp_all[dC,ap]
def afo{y t s}{p n}(oy:OkI y)(hp:0<=p/\p<=1000)(ot:OkI t)(os:OkI s)(hn:kR n)(hs:Xq (dC (bX t y p) (cY n) p) p=true)(S)(h)(X)(hX:ao 0 [2,4,5,6] (aB (am R (aA false) fC) [2,3,4,5,6,7] [2,3,4,5,6] S h)=X)
  (k2:S 2=ac 2) (k3:S 3=ac 3) (k4:S 4=ac 4) (k5:S 5=ac 5) (k6:S 6=ac 6) (k7:S 7=I n) (h2:h 2=.bx [I p]) (h3:h 3=.bx (ah y)) (h4:h 4=.bx zC) (h5:h 5=.bx (ah t)) (h6:h 6=.bx (ah s)):
  ∃t' s',OkI t'/\OkI s'/\∃hh,X=some (.normal,⟨upd (upd (upd (upd ce 6 (ac 6)) 5 (ac 5)) 4 (ac 4)) 2 (ac 2),hh⟩)/\hh 2=.bx [I p]/\hh 4=.bx zC/\hh 5=.bx (ah t')/\hh 6=.bx (ah s')/\∀i,i≠2->i≠3->i≠4->i≠5->i≠6->hh i=.dead:=by
 have on:=gM hn;have q1:=Pe ot oy (p:=p);have q2:=nT hn;have q3:=Ks (iU (x:=t) (y:=y) (p:=p)) on (p:=p);have od:OkI (dC (bX t y p) (cY n) p):=kL;have q4:=CJ os od (p:=p);have oa:OkI (de s (dC (bX t y p) (cY n) p) p):=kW;have q5:=GQ od hp;rw[hs]at q5;clear hs;generalize de s (dC (bX t y p) (cY n) p) p=s1 at*
 generalize dC (bX t y p) (cY n) p=t1 at*
 generalize bX t y p=m1 at*
 generalize cY n=z at*
 subst hX;rw[ai];simp only[ae,ah]at q1 q2 q3 q4 q5 h3 h5 h6;refine⟨t1,s1,od,oa,?hh0,?_,?_,?_,?_,?_,?_⟩;rotate_left
 ·simp only[fC,go_sem,k2,k3,k4,k5,k6,k7,h2,h3,h4,h5,h6,q1,q2,q3,q4,q5];rfl
 all_goals first|rfl| (intro i b1 b2 b3 b4 b5;simp only[cz,b2,if_false, *];try (split<;>rfl))
def art{y}{p}(oy:OkI y)(hp:0<=p/\p<=1000):∀ (f:Nat) n t s,OkI t->OkI s->kR n->(n+f) %18446744073709551616=0->∀S h X,ao 0 [2,4,5,6] (aB (am R (aA false) fC) [2,3,4,5,6,7] [2,3,4,5,6] S h)=X->
  S 2=ac 2->S 3=ac 3->S 4=ac 4->S 5=ac 5->S 6=ac 6->S 7=I n->h 2=.bx [I p]->h 3=.bx (ah y)->h 4=.bx zC->h 5=.bx (ah t)->h 6=.bx (ah s)->
  ∃t' s',OkI t'/\OkI s'/\∃hh,X=some (.normal,⟨upd (upd (upd (upd ce 6 (ac 6)) 5 (ac 5)) 4 (ac 4)) 2 (ac 2),hh⟩)/\hh 2=.bx [I p]/\hh 4=.bx zC/\hh 5=.bx (ah t')/\hh 6=.bx (ah s')/\∀i,i≠2->i≠3->i≠4->i≠5->i≠6->hh i=.dead:=by
 intro f;induction f with
 |zero=>
  intro n t s ot os hn hf S h X hX k2 k3 k4 k5 k6 k7 h2 h3 h4 h5 h6;have n0:n=0:=by
   obtain⟨a,b⟩:=hn;omega
  subst n0;refine afo oy hp ot os hn ?_ S h X hX k2 k3 k4 k5 k6 k7 h2 h3 h4 h5 h6;rw[awi];rfl
 |succ f ih=>
  intro n t s ot os hn hf S h X hX k2 k3 k4 k5 k6 k7 h2 h3 h4 h5 h6;cases hs:Xq (dC (bX t y p) (cY n) p) p with
  |true=>exact afo oy hp ot os hn hs S h X hX k2 k3 k4 k5 k6 k7 h2 h3 h4 h5 h6
  |false=>
  have on:=gM hn;have q1:=Pe ot oy (p:=p);have q2:=nT hn;have q3:=Ks (iU (x:=t) (y:=y) (p:=p)) on (p:=p);have od:OkI (dC (bX t y p) (cY n) p):=kL;have q4:=CJ os od (p:=p);have oa:OkI (de s (dC (bX t y p) (cY n) p) p):=kW;have q5:=GQ od hp;rw[hs]at q5;clear hs;generalize de s (dC (bX t y p) (cY n) p) p=s1 at*
  generalize dC (bX t y p) (cY n) p=t1 at*
  generalize bX t y p=m1 at*
  generalize cY n=z at*
  have ih':=ih (IntKind.i64.wrap (n+1)) t1 s1 od oa (GO _) (by
   grind[IntKind.wrap_i64])
  subst hX;rw[ai];generalize aB _ _ _=L at ih'⊢;simp only[ae,ah]at q1 q2 q3 q4 q5 h3 h5 h6 ih';simp only[fC,go_sem,k2,k3,k4,k5,k6,k7,h2,h3,h4,h5,h6,q1,q2,q3,q4,q5];apply ih'<;>rfl
theorem ab9{y}{p}(oy:OkI y)(hp:0<=p/\p<=1000):∃z,OkI z/\R 272 [Ii p,ae y] []=some (ae z,[]):=by
 have h1:=nT (n:=1) ⟨by decide,by decide⟩;have o1:OkI (cY 1):=gM ⟨by decide,by decide⟩;have hL:=art oy hp 18446744073709551615 1 _ _ o1 o1 ⟨by decide,by decide⟩ δ;have hA:∀ {x},OkI x->R 283 [ae x] []=some (ae (Xr x),[]):=fun h=>N2 h;have hS:∀ {x w},OkI x->OkI w->R 234 [Ii p,ae x,ae w] []=some (ae (de x w p),[]):=fun h g=>CJ h g;have key:∃z,OkI z/\fk false iS.rs iS.res 0 (am R (aA false) iS.body (iW [Ii p,ae y]) (fun _=>.dead))=some (ae z,[]):=by
  generalize hLL:aB (am R (aA false) fC)=L at hL;have hX:∀s h,am R (aA false) (.loop [2,3,4,5,6,7] [2,3,4,5,6] fC) s h=L [2,3,4,5,6,7] [2,3,4,5,6] s h:=fun s h=>by rw[←hLL];rfl
  simp only[ae,ah]at h1 hL hA hS;simp only[iS,Do,ae,ah,go_sem,h1,hX];generalize hBB:ao 0 [2,4,5,6] (L _ _ _ _)=X;obtain⟨t,s,ot,os,hh,hE,k2,k4,k5,k6,kd⟩:=hL _ _ _ hBB Z Z Z Z Z Z Z Z Z Z Z;have hA:=hA ot;have oa:=ak7 ot;generalize Xr t=a at*
  have hS:=hS os oa;have oz:OkI (de s a p):=kW;generalize de s a p=z at*
  refine⟨z,oz,?_⟩;rw[hE];simp only[go_sem,k2,k4,k5,k6,kd,ne_eq,not_false_eq_true,hA,hS]
 obtain⟨z,oz,hz⟩:=key;exact⟨z,oz,au Lg hz⟩
noncomputable def ahU (p:Int) (y:Ri):Option Ri:=open Classical in if h:∃z,OkI z/\R 272 [Ii p,ae y] []=some (ae z,[])then some h.choose else none
def aca:ahT ahU:=fun p y z hp oy h=>by
 unfold ahU at h;rw[dif_pos (ab9 oy hp)]at h;grind
def apd{p}(hp:0<=p/\p<=1000):∀n {y},OkI y->∃z,hvR ahU p n y=some z
 |0,_,oy=>⟨_,dif_pos (ab9 oy hp)⟩
 |n+1,_,_=>by
  obtain⟨z,hz⟩:=apd hp n ak4;exact⟨Qa z p,by unfold hvR;rw[hz];rfl⟩
def dvq{m}{b}(hm:Lb m)(h1:O m<=256)(h2:O (ax b)<=256)(b0:b≠0):∃Q Rr,R 307 [lm m,lm (ax b)] []=some (.tup [lm Q,lm Rr],[])/\Lb Q/\ab Q=ab m/b/\O Q<=100000:=by
 by_cases hl:ab m<b
 ·have t1:=cI hm ω;have t2:=cI (aH b) ω;have la:=eA m hm;have hc:=tC (aH (ab m)) (aH b) ω ω;rw[aJ]at t2;rw[aJ,aJ]at hc;have e1:=tt (Kt.symm▸hl);have h3:=Xm (a:=ab m) ω;refine⟨[],ax (ab m),au wG ?_,JV,?_,aE9 _⟩
  ·simp only[mB,rB,go_sem,t1,t2,hc,e1,h3]
  ·rw[Nat.div_eq_of_lt hl];rfl
 grind[WU,aH,aJ]
def at1{x y}:x+y<4294967296^ (max (O (ax x)) (O (ax y))+1):=by
 grind[aFQ,fJ,aFu,Nat.le_max_right,ax,aFJ]
def afp{a b}:(0<=dM a b)=¬a<b:=by
 rw[←Kt (a:=a) (b:=b)];grind
def ak8{m}(hm:Lb m)(hl:O m<=256)(h0:ab m≠0):∀f x,x<=f->x≠0->O (ax x)<=256->∀S h X,ao 0 [2,3] (aB (am R (aA false) mA) [0,5] [] S h)=X->S 0=lm m->S 5=lm (ax x)->
  ∃s,O (ax s)<=256/\∃ss hh,X=some (.ret,⟨ss,hh⟩)/\ss 2=lm (ax s)/\ss 3=I 0:=by
 intro f;induction f with
 |zero=>
  omega
 |succ f ih=>
  intro x hx x0 lx S h X hX k0 k5;obtain⟨Q,Rr,g1,q1,q2,q3⟩:=dvq hm hl lx x0;have g2:=cI q1 ω;rw[q2]at g2;have ly:O (ax (ab m/x))<=256:=by
   have:=eA m hm;exact aEX (DJ (aF1 _ _)) ω
  have g3:=aaH (aH x) (aH (ab m/x)) ω ω;rw[aJ,aJ]at g3;have hs:=at1 (x:=x) (y:=ab m/x);have vS:ab (fS (max (O (ax x)) (O (ax (ab m/x)))+1) (x+ab m/x))=x+ab m/x:=by
   rw[po,aFG hs]
  have lS:=dv (max (O (ax x)) (O (ax (ab m/x)))+1) (x+ab m/x);have g4:=aaO (qT (max (O (ax x)) (O (ax (ab m/x)))+1) (x+ab m/x)) (n:=1) ω δ;rw[vS,show 1/32=0 from rfl,Nat.sub_zero,Nat.pow_one,show((1:Nat):Int)=1 from rfl]at g4;have lT:=dv (O (ax (x+ab m/x))) ((x+ab m/x)/2);have g5:=cI (qT (O (ax (x+ab m/x))) ((x+ab m/x)/2)) (by
   have:=eN hs;omega)
  rw[po,aFG (aFl (aF1 _ _) (fJ _))]at g5;have y0:(x+ab m/x)/2≠0:=by
   grind
  generalize hy:(x+ab m/x)/2=y at*
  have lY:O (ax y)<=100000:=by
   have h1:=eN hs;have h2:O (ax y)<=O (ax (x+ab m/x)):=DJ ω;omega
  have g6:=tC (aH y) (aH x) lY ω;rw[aJ,aJ]at g6;subst hX;rw[ai];by_cases c:y<x
  ·have f1:=ff (afp.symm▸ (fun h=>h c):¬0<=dM y x);have ih':=ih y ω y0 (aEX (DJ (Nat.le_of_lt c)) lx);simp only[mA,go_sem,aEP,aEO,aEN,aX,k0,k5,g1,g2,g3,g4,g5,g6,f1];apply ih'<;>rfl
  ·have f1:=tt (afp.symm▸c);have g7:=GX (aH x) ω;rw[aJ,lq,av ω]at g7;refine⟨x,lx,?ss0,?hh0,?_,?_,?_⟩;rotate_left 2
   ·simp only[mA,go_sem,aEP,aEO,aEN,aX,k0,k5,g1,g2,g3,g4,g5,g6,g7,f1];rfl
   all_goals rfl
def aoc{m}(hm:Lb m)(hl:O m<=256):∃s,O (ax s)<=256/\R 288 [lm m] []=some (.tup [lm (ax s),I 0],[]):=by
 have g1:=tO m;have f1:=aP (256<O m);have g2:=Cs hm ω;have hb:=HP hm;by_cases c:ab m=0
 ·refine⟨0,by simp_all[cO,aE9],au J3 ?_⟩;have e:ag 0=0:=by simp[ag]
  rw[c,e]at g2;simp only[lR,Ek,go_sem,aEP,aEO,aEN,aX,g1,f1,g2,cO]
  try rfl
 have b0:=fE c;obtain⟨k,hk⟩:∃k,(ag (ab m)+1)/2=k:=⟨_,rfl⟩;have e1:aG ((ag (ab m))+1)=((ag (ab m)+1:Nat):Int):=wi;have e2:=Vc (n:=ag (ab m)+1) (m:=2) (i:=(ag (ab m)+1:Nat)) (j:=2) Z Z ω ω;rw[hk]at e2;have f2:=aP ((ag (ab m):Int)=0);have g3:=No HQ δ (n:=k) ω;rw[Ve,Nat.one_mul]at g3;have d1:O (ax 1)=1:=by
  grind[vj,cO]
 rw[d1]at g3;have hlt:2^k<4294967296^ (k/32+1+1):=by
  rw[show 4294967296=2^32 from rfl,←Nat.pow_mul];exact Nat.pow_lt_pow_right δ ω
 have lU:=dv (k/32+1+1) (2^k);have g4:=cI (qT (k/32+1+1) (2^k)) ω;rw[po,aFG hlt]at g4;have lx:O (ax (2^k))<=256:=aEX (eN hlt) ω;have hL:=ak8 hm hl c (2^k) (2^k) (aET _) (Nat.pos_iff_ne_zero.1 (aE7 k)) lx;have key:∃s,O (ax s)<=256/\fk false lR.rs lR.res 0 (am R (aA false) lR.body (iW [lm m]) (fun _=>.dead))=some (.tup [lm (ax s),I 0],[]):=by
  generalize hLL:aB (am R (aA false) mA)=L at hL;have hX:∀s h,am R (aA false) (.loop [0,5] [] mA) s h=L [0,5] [] s h:=fun s h=>by rw[←hLL];rfl
  simp only[lR,Ek,go_sem,aEP,aEO,aEN,aX,oj,g1,f1,g2,f2,e1,e2,g3,g4,hX,wH,aES,aET,aFX,Q1,List.take_length];generalize hBB:ao 0 [2,3] (L _ _ _ _)=X;obtain⟨s,ls,ss,hh,hE,s2,s3⟩:=hL _ _ _ hBB Z Z;refine⟨s,ls,?_⟩;rw[hE];simp only[go_sem,s2,s3]
 obtain⟨s,ls,hs⟩:=key;exact⟨s,ls,au J3 hs⟩
def afq{q:Nat}{u:Int}:Ok0 (cA (aZ false q u)).1:=by
 have h:=(xO (z:=(q:Int)) (f:=u)).2;grind[fF,aZ,decide_eq_false,Int.natAbs_natCast]
def aru{up:Bool}{q:Nat}{u:Int}:Ok0 (tU p up q u).1:=by
 unfold tU;split
 ·split
  ·exact aO.2
  ·exact afq
 ·exact afq
def at2{z:Int}(h:-30000<=z/\z<=30000):-40000<=z.tdiv 2/\z.tdiv 2<=40000:=by
 grind
def acb{d:Rd}(ok:Ok0 d){p:Int}{up:Bool}:∃r:Rd×Int,Ok0 r.1/\R 239 [af d,I p,B up] []=some (rV r,[]):=by
 have hf:R 169 [I p,.sl 3 [[B d.neg,lm d.m,I d.e]]] []=some (I (bo p [d]),[]):=BU (p:=p) (l:=[d]) (fun x hx=>by
  grind) (show 1<=100000 by decide)
 have fin:∀r:Rd×Int,Ok0 r.1->fk false gx.rs gx.res 0 (am R (aA false) gx.body (iW [af d,I p,B up]) (fun _=>.dead))=some (rV r,[])->∃r:Rd×Int,Ok0 r.1/\R 239 [af d,I p,B up] []=some (rV r,[]):=fun r o h=>⟨r,o,au aaq h⟩;by_cases h0:bo p [d]=0
 ·obtain⟨v1,v2,v3⟩:=vM h0;have v:vd d=true:=γ
  obtain⟨a1,a2,a3,a4⟩:=dT v ok.lb;rw[h0]at hf;cases hn:d.neg with
  |true=>
   rw[hn]at hf;refine fin (aC,2) aO.2 ?_;simp only[gx,rV,af,ak,aC,go_sem,aEP,aEO,aEN,aX,hf,hn]
  |false=>
  rw[hn]at hf;by_cases l0:O d.m=0
  ·have e1:=aa ((O d.m:Int)=0);refine fin (aC,0) aO.2 ?_;simp only[gx,rV,af,ak,aC,go_sem,aEP,aEO,aEN,aX,hf,hn,e1]
  have e1:=aP ((O d.m:Int)=0);have b1:=Ln ok;rw[ap v]at b1;have w1:aG (2*p)=2*p:=by grind[i64_in]
  have w2:aG (2*p+4)=2*p+4:=by grind[i64_in]
  have w3:aG (2*p+4- (ag (ab d.m):Nat))=2*p+4- (ag (ab d.m):Nat):=by grind[i64_in]
  obtain⟨k,hk⟩:∃k:Nat,(if(0:Int)<2*p+4- (ag (ab d.m):Nat)then 2*p+4- (ag (ab d.m):Nat)else 0)=k:=by
   split
   ·exact⟨(2*p+4- (ag (ab d.m):Nat)).toNat,by omega⟩
   grind
  have hk2:k+ag (ab d.m)<=5200:=by
   omega
  have w4:aG (d.e- (k:Int))=d.e-k:=by grind[i64_in]
  have w5:aG ((k:Int)+1)=((k+1:Nat):Int):=wi;obtain⟨K,hK,hKk⟩:∃K:Nat,(if(d.e- (k:Int)).tmod 2=0 then k else k+1)=K/\K<=k+1:=⟨_,rfl,by split<;>omega⟩;have w6:aG (d.e- (K:Int))=d.e-K:=by grind[i64_in]
  have hb:=at2 (z:=d.e- (K:Int)) ⟨by omega,by omega⟩;have w7:aG ((d.e- (K:Int)).tdiv 2)=(d.e- (K:Int)).tdiv 2:=by grind[i64_in]
  have hA:=dN v l0;have hm2:=eB K hA;have hl2:O (ax (ab d.m*2^K))<=256:=bk ω;have g1:=Ct ok.lb a1 (k:=K) ω hl2;obtain⟨s,ls,g2⟩:=aoc (aH (ab d.m*2^K)) hl2;have g3:=J6 (aH s) (aH s) ls ls;rw[aJ]at g3;obtain⟨e3,d3⟩:=CK (s*s);rw[d3]at g3;have g4:=tC (aH (Bo (s*s))) (aH (ab d.m*2^K)) (aEX (FN _) δ) ω;have hp2:∃n:Nat,p=n/\8<=n/\n<=512:=⟨p.toNat,by omega,by omega,by omega⟩;obtain⟨n,rfl,hn8⟩:=hp2;have g5:=fun more=>ajp (aH s) ls (e:=(d.e- (K:Int)).tdiv 2) (n:=n) (more:=more) (up:=up) hb hn8;simp only[adY]at g5;have g6:∀more:Bool,∃r:Rd×Int,Ok0 r.1/\R 289 [.agg [lm (ax s),I ((d.e- (K:Int)).tdiv 2),B more],I n,B up] []=some (rV r,[]):=fun more=>⟨_,aru,g5 more⟩;clear g5;obtain⟨⟨r1,r2⟩,o1,q1⟩:=g6 false;obtain⟨⟨t1,t2⟩,o2,q2⟩:=g6 true;clear g6;generalize hE2:(d.e- (K:Int)).tdiv 2=E2 at*
  generalize hcn:dM (ab (ax (Bo (s*s)))) (ab (ax (ab d.m*2^K)))=cn at*
  generalize ax (ab d.m*2^K)=M at*
  generalize ax (Bo (s*s))=SS at*
  simp only[rV,af,ak]at q1 q2 b1;rw[hn]at b1;by_cases c1:(d.e- (k:Int)).tmod 2=0
  ·have f1:=tt c1;rw[ap c1]at hK;subst hK;by_cases c2:cn=0
   ·have f2:=tt c2;refine fin (r1,r2) o1 ?_;simp only[gx,rV,af,ak,aC,go_sem,aEP,aEO,aEN,aX,hf,hn,e1,b1,w1,w2,w3,w4,w5,hE2,w7,hk,f1,g1,g2,g3,g4,f2,q1]
   ·have f2:=ff c2;refine fin (t1,t2) o2 ?_;simp only[gx,rV,af,ak,aC,go_sem,aEP,aEO,aEN,aX,hf,hn,e1,b1,w1,w2,w3,w4,w5,hE2,w7,hk,f1,g1,g2,g3,g4,f2,q2]
  ·have f1:=ff c1;rw[av c1]at hK;subst hK;by_cases c2:cn=0
   ·have f2:=tt c2;refine fin (r1,r2) o1 ?_;simp only[gx,rV,af,ak,aC,go_sem,aEP,aEO,aEN,aX,hf,hn,e1,b1,w1,w2,w3,w4,w5,w6,hE2,w7,hk,f1,g1,g2,g3,g4,f2,q1]
   ·have f2:=ff c2;refine fin (t1,t2) o2 ?_;simp only[gx,rV,af,ak,aC,go_sem,aEP,aEO,aEN,aX,hf,hn,e1,b1,w1,w2,w3,w4,w5,w6,hE2,w7,hk,f1,g1,g2,g3,g4,f2,q2]
 ·have e1:(bo p [d]=0)=False:=ff h0;refine fin (aC,bo p [d]) aO.2 ?_;simp only[gx,rV,af,ak,aC,go_sem,aEP,aEO,aEN,aX,hf,e1]
def ak9{d:Rd}(ok:Ok0 d){p:Int}:∃r:Rd×Int,Ok0 r.1/\R 177 [af d,I p] []=some (rV r,[]):=by
 obtain⟨r,o,h⟩:=acb ok (p:=p) (up:=false);refine⟨r,o,au QK ?_⟩;simp only[rV,af,ak]at h;simp only[AJ,rV,af,ak,go_sem,h]
def ala{d:Rd}(ok:Ok0 d){p:Int}:∃r:Rd×Int,Ok0 r.1/\R 178 [af d,I p] []=some (rV r,[]):=by
 obtain⟨r,o,h⟩:=acb ok (p:=p) (up:=true);refine⟨r,o,au US ?_⟩;simp only[rV,af,ak]at h;simp only[De,rV,af,ak,go_sem,h]
def aod(ok:OkI x){p:Int}:∃y,OkI y/\R 117 [ae x,I p] []=some (ae y,[]):=by
 have fin:∀y,OkI y->fk false gV.rs gV.res 0 (am R (aA false) gV.body (iW [ae x,I p]) (fun _=>.dead))=some (ae y,[])->∃y,OkI y/\R 117 [ae x,I p] []=some (ae y,[]):=fun y oy h=>⟨y,oy,au SU h⟩;have hk:=kU ok;have hp:=l8 (p:=p);have hw:=dW;cases h1:kI x with
 |false=>
  rw[h1]at hk;refine fin bt gX.ok' ?_;simp only[gV,ae,ah,bt,aC,go_sem,hk,hw]
 |true=>
 rw[h1]at hk;cases h2:bv p with
 |false=>
  rw[h2]at hp;refine fin bt gX.ok' ?_;simp only[gV,ae,ah,bt,aC,go_sem,hk,hp,hw]
 |true=>
 rw[h2]at hp;obtain⟨_,v1,v2⟩:=DH h1;have hs:=tT ok.lo v1;generalize kl x.lo=g at*
 simp only[af,ak]at hs;by_cases c:g<=0
 ·have f:=tt c;refine fin bt gX.ok' ?_;simp only[gV,ae,ah,bt,aC,go_sem,aEP,aEO,aEN,aX,hk,hp,hs,f,hw]
 have f:=ff c;obtain⟨r,o1,g1⟩:=ak9 ok.lo (p:=p);obtain⟨q,o2,g2⟩:=ala ok.hi (p:=p);obtain⟨r1,r2⟩:=r;obtain⟨q1,q2⟩:=q;have hm:=Cu (a:=r1) (b:=q1) (e:=r2) (f:=q2);refine fin (kD (r1,r2) (q1,q2)) (zF o1 o2) ?_;simp only[ae,ah,rV,af,ak]at g1 g2 hm;simp only[gV,ae,ah,go_sem,aEP,aEO,aEN,aX,hk,hp,hs,f,g1,g2,hm]
def Kv(d:Rd)(k:Int):Rd×Int:=if vd d=true∧-32768<=k/\k<=32768 then cA (aZ d.neg (ab d.m) (d.e+k))else(aC,1)
def at3{d:Rd}(h:Ok0 d):Ok0 (cA d).1:=by
 unfold cA;split
 ·omega
 ·exact aO.2
def alb{d:Rd}(ok:Ok0 d){k:Int}:Ok0 (Kv d k).1:=by
 unfold Kv;split
 ·rename_i h;obtain⟨_,h1,h2,h3⟩:=dT h.1 ok.lb;exact at3 ⟨sx _ _ _,aFl (pq (k:=128) ω) δ⟩
 ·exact aO.2
def Xs{s:Rd}(ok:Ok0 s){k:Int}:R 150 [af s,I k] []=some (rV (Kv s k),[]):=by
 refine au En ?_;have hv:=eC ok;have hx:=xM (e:=k);unfold Kv;cases v:vd s with
 |false=>
  rw[v]at hv;simp only[af,ak]at hv;simp only[lP,rV,af,ak,aC,go_sem,hv]
 |true=>
 rw[v]at hv;by_cases c:-32768<=k/\k<=32768
 ·obtain⟨_,h1,h2,h3⟩:=dT v ok.lb;have hl:Ok0 (aZ s.neg (ab s.m) (s.e+k)):=⟨sx _ _ _,aFl (pq (k:=128) ω) δ⟩;rw[ap ⟨rfl,c⟩];rw[decide_eq_true c.1,decide_eq_true c.2]at hx;have ho:=l6 (neg:=s.neg) (m:=s.m) (e:=s.e+k) ok.lb ω (by grind[Exq]);have hc:=Ar hl.lb (aEX (pq (k:=128) ω) δ);have ew:aG (s.e+k)=s.e+k:=by grind[i64_in]
  generalize aZ s.neg (ab s.m) (s.e+k)=d at ho hc⊢;have e:(if rP (ag (ab d.m)) d.e=true then AV.tup [af d,I 0]else .tup [af aC,I 9])=rV (cA d):=by
   grind[cA,rV]
  rw[e]at hc;simp only[af,ak,rV]at hv ho hc;simp only[lP,rV,af,ak,go_sem,hv,hx,ho,hc,ew,aFE]
 ·rw[av (fun h=>c h.2)];have hb:(decide (-32768<=k)&&decide (k<=32768))=false:=by
   grind
  rw[hb]at hx;simp only[af,ak]at hv;simp only[lP,rV,af,ak,aC,go_sem,hv,hx]
def Ja(x:Ri)(k:Int):Ri:=if kI x=true then kD (Kv x.lo k) (Kv x.hi k)else bt
def N3(ox:OkI x){k:Int}:OkI (Ja x k):=by
 unfold Ja;split
 ·exact zF (alb ox.lo) (alb ox.hi)
 ·exact gX.ok'
def N4(ox:OkI x){k:Int}:R 118 [ae x,I k] []=some (ae (Ja x k),[]):=by
 refine au HG ?_;have hk:=kU ox;have hw:=dW;unfold Ja;cases h1:kI x with
 |false=>
  rw[h1]at hk;simp only[mq,ae,ah,bt,aC,go_sem,hk,hw,aFv]
 |true=>
  rw[h1]at hk;have hl:=Xs ox.lo (k:=k);have hh:=Xs ox.hi (k:=k);generalize Kv x.lo k=r at*
  generalize Kv x.hi k=q at*
  obtain⟨r1,r2⟩:=r;obtain⟨q1,q2⟩:=q;have hm:=Cu (a:=r1) (b:=q1) (e:=r2) (f:=q2);simp only[ae,ah,rV,af,ak]at hk hw hl hh hm;simp only[mq,ae,ah,go_sem,hk,hl,hh,hm]
def T7{j n:Nat}{w}(h0:M≠0)(hn:8<=n/\n<=512)(hT:T<32768)(h:M<=2^ (T+j)):
  (cx M (-16384-j) false n w).2=0/\0<=zI (cx M (-16384-j) false n w).1/\zI (cx M (-16384-j) false n w).1<=(2^T:Nat):=by
 have hd:dR M n j<=T+j:=by
  have:=bH.2 (aFl h (Nat.pow_lt_pow_right δ (Nat.lt_succ_self _)));grind[dR]
 have h1:rq w M (dR M n j)*2^dR M n j<=2^ (T+j):=by
  refine aEX (aE4 _ (aeX h)) ?_;rw[atI hd,←aE2];grind
 obtain⟨c1,c2⟩:=(VV (w:=w) (j:=j) h0 hn).1 (aFl h1 (Nat.pow_lt_pow_right δ ω));have c3:=akC (w:=w) (j:=j) h0 hn c1;refine⟨c1,c3,?_⟩;have h2:zI (cx M (-16384-j) false n w).1*(2^j:Nat)<=(2^T:Nat)*(2^j:Nat):=by
  grind
 exact Int.le_of_mul_le_mul_right h2 (Int.ofNat_lt.2 (aE7 j))
def alc{z}{j n:Nat}{up}(hn:8<=n/\n<=512)(hT:T<32768)(h:z.natAbs<=2^ (T+j)):
  (kS z (-16384-j) n up).2=0/\(zI (kS z (-16384-j) n up).1).natAbs<=2^T:=by
 rcases Int.lt_trichotomy z 0 with a|rfl|a
 ·rw[aeY a];obtain⟨s1,s2⟩:=akD (M:=z.natAbs) (f:=-16384-j) (p:=n) (w:=!up);obtain⟨b1,b2,b3⟩:=T7 (w:=!up) (show z.natAbs≠0 by omega) hn hT h;omega
 ·simp_all[ahE,cS,aC,aE9]
 ·rw[O8 a];obtain⟨b1,b2,b3⟩:=T7 (w:=up) (show z.natAbs≠0 by omega) hn hT h;omega
def V3{a b}{p}{T U V}{up}(va:vd a=true)(vb:vd b=true)(hp:bv p=true)(e:T+U=V+16384)(hV:V<32768)(ha:(zI a).natAbs<=2^T)(hb:(zI b).natAbs<=2^U):(eJ a b p up).2=0/\(zI (eJ a b p up).1).natAbs<=2^V:=by
 obtain⟨f1,n,rfl,hn⟩:=Ib va vb hp;unfold eJ;rw[ap f1];refine alc (j:=16384) hn hV ?_;rw[Int.natAbs_mul,←e,aE2];exact Nat.mul_le_mul ha hb
def Mq(T:Nat)(x:Ri):Prop:=kI x=true->(zI x.lo).natAbs<=2^T/\(zI x.hi).natAbs<=2^T
def GR{x}(ok:OkI x)(h:kI x=true):VI x:=by
 obtain⟨_,v1,v2⟩:=DH h;exact⟨⟨v1,ok.lo⟩,⟨v2,ok.hi⟩⟩
def Mq.mul{x y}{p}{T U V}(ox:OkI x)(oy:OkI y)(e:T+U=V+16384)(hV:V<32768)(hx:Mq T x)(hy:Mq U y):Mq V (bX x y p):=by
 intro hk;cases hc:(kI x&&kI y&&bv p)with
 |false=>
  unfold bX at hk;rw[hc,av aE3]at hk;cases hk
 |true=>
 have hc2:=hc;simp only[aEV]at hc2;obtain⟨⟨kx,ky⟩,hp⟩:=hc2;obtain⟨x1,x2⟩:=hx kx;obtain⟨y1,y2⟩:=hy ky;have lx:∀i,(zI (ed x y i).1).natAbs<=2^T:=fun i=>by unfold ed;grind
 have ly:∀i,(zI (ed x y i).2).natAbs<=2^U:=fun i=>by unfold ed;grind
 have key:∀i up,(eJ (ed x y i).1 (ed x y i).2 p up).2=0/\(zI (eJ (ed x y i).1 (ed x y i).2 p up).1).natAbs<=2^V:=fun i up=>by
  obtain⟨v1,v2⟩:=ahG (GR ox kx) (GR oy ky) i;exact V3 v1 v2 hp e hV (lx i) (ly i)
 obtain⟨t,t0,_,⟨j,_,t1⟩,j',_,t2⟩:=LI (dn:=fun a b=>eJ a b p false) (up:=fun a b=>eJ a b p true) (pr:=ed x y) (fun a b=>H4.1) (fun a b=>H4.1) fun i _=>⟨(key i false).1,(key i true).1⟩;have e:bX x y p=⟨t.1,t.2,false⟩:=by
  unfold bX;rw[hc,ap rfl,t0];rfl
 grind
def Mq.sq{x}{p}{T V}(ox:OkI x)(e:T+T=V+16384)(hV:V<32768)(hx:Mq T x):Mq V (Qa x p):=by
 intro hk;cases hc:(!(nG x).all&&bv p)with
 |false=>
  unfold Qa at hk;rw[hc,av aE3]at hk;cases hk
 |true=>
 unfold Qa;simp only[aEV,aFS]at hc;cases kx:kI x with
 |false=>
  unfold nG at hc;rw[kx,av aE3]at hc;cases hc.1
 |true=>
 obtain⟨x1,x2⟩:=hx kx;have v:=GR ox kx;have hle:=(OF kx).2.2.1;obtain⟨m1,m2⟩:=ao2 v hle;obtain⟨m3,m4⟩:=YG v;have ea:nG x=⟨BW x,qB x,false⟩:=by
  unfold nG;grind
 have b1:(zI (BW x)).natAbs<=2^T:=by
  omega
 have b2:(zI (qB x)).natAbs<=2^T:=by
  omega
 obtain⟨r1,r2⟩:=V3 (up:=false) m1 m1 hc.2 e hV b1 b1;obtain⟨r3,r4⟩:=V3 (up:=true) m3 m3 hc.2 e hV b2 b2;unfold kD;grind
theorem Mq.small{x}(ox:OkI x)(hp:0<=p)(hT:T+1+p<=16384)(hx:Mq T x):Xq x p=true:=by
 unfold Xq;split
 ·rename_i kx;obtain⟨x1,x2⟩:=hx kx;have v:=GR ox kx;obtain⟨m3,m4⟩:=YG v;have om:=(T2 ox kx).2;have b2:(zI (qB x)).natAbs<=2^T:=by
   omega
  unfold smB;by_cases h0:(qB x).m.length=0
  ·rw[show kl (qB x)=0 by unfold kl;omega];rfl
  ·have hm:mg (qB x)<=2^T:=by
    unfold zI at b2;omega
   have hb:=J7 m3 om.lb h0;have:=bH.2 (aFl hm (Nat.pow_lt_pow_right δ (Nat.lt_succ_self T)));grind
 ·rfl
def at4{n E:Nat}{f:Int}{more w}(h0:M≠0)(hn:8<=n/\n<=512)(hT:T<32768)(hm:more=true->(n:Int)< (ag M))(hE:M+more.toNat<=2^E)(hf:f+E+16384=T):
  (cx M f more n w).2=0/\0<=zI (cx M f more n w).1/\zI (cx M f more n w).1<=(2^T:Nat):=by
 have e0:(2*M+more.toNat)/2^1=M:=by
  cases more<;>simp<;>omega
 have e:cx M f more (n:Int) w=cx (2*M+more.toNat) (f-1) false (n:Int) w:=by
  have h:=Vj (N:=2*M+more.toNat) (k:=1) (f:=f-1) (p:=(n:Int)) (more:=more) (up:=w) ω (by
   cases more
   all_goals grind) γ
  grind
 have hN:2*M+more.toNat<=2^ (E+1):=by
  omega
 rw[e];by_cases c:-16384<=f-1
 ·obtain⟨k,hk⟩:∃k:Nat,f-1=-16384+(k:Int):=⟨(f-1+16384).toNat,by omega⟩;have h:=IV (M:=2*M+more.toNat) (k:=k) (f:=-16384) (p:=(n:Int)) (up:=w) ω;have g:=T7 (M:=(2*M+more.toNat)*2^k) (j:=0) (w:=w) (by
   grind[Nat.mul_ne_zero]) hn hT (by
   refine aEX (aE4 _ hN) ?_;rw[←aE2];grind)
  grind
 ·obtain⟨j,hj⟩:∃j:Nat,f-1=-16384- (j:Int):=⟨(-16384- (f-1)).toNat,by omega⟩;rw[hj];exact T7 (w:=w) ω hn hT (aEX hN (aFu δ ω))
theorem arv{neg}{r}(h:r.2=0)(h0:0<=zI r.1):(iq neg r).2=0/\(vd r.1=true->(zI (iq neg r).1).natAbs=(zI r.1).natAbs):=by
 grind[iq,Cx,Int.natAbs_neg]
theorem ahV{d:Rd}{e:Nat}(h:d.e+16384=e):mg d=ab d.m*2^e:=by
 grind[mg]
def arw{a b}{p}{A B}{up}(oa:Ok0 a)(ob:Ok0 b)(va:vd a=true)(vb:vd b=true)(hp:bv p=true)(hA:B<32768)(ha:(zI a).natAbs<=2^A){K}(hK:A+16384=B+K)(hb:(2^K:Nat)<=zI b):(lC a b p up).2=0/\(zI (lC a b p up).1).natAbs<=2^B:=by
 obtain⟨f1,n,rfl,hn⟩:=Ib va vb hp;generalize hP:2^K=P at hb;have hb0:O b.m≠0:=fun h=>by
  rw[cS h]at hb;grind
 unfold lC;rw[ap f1,av hb0];by_cases ha0:O a.m=0
 ·rw[ap ha0];exact⟨rfl,by rw[show zI (aC,0).1=0 from cS rfl];grind⟩
 rw[av ha0];obtain⟨_,a1,a2,a3⟩:=dT va oa.lb;obtain⟨_,b1,b2,b3⟩:=dT vb ob.lb;obtain⟨ea,hea⟩:∃e:Nat,a.e+16384=e:=⟨(a.e+16384).toNat,by omega⟩;obtain⟨eb,heb⟩:∃e:Nat,b.e+16384=e:=⟨(b.e+16384).toNat,by omega⟩;have hA0:=dN va ha0;have hB0:=dN vb hb0;have hma:ab a.m*2^ea<=2^A:=by
  grind[ahV,zI]
 have hmb:P<=ab b.m*2^eb:=by
  grind[ahV,zI]
 obtain⟨k,hk⟩:∃k,yb a b n=k:=⟨_,rfl⟩;have hk2:n+3+ag (ab b.m)-ag (ab a.m)<=k:=by
  grind[yb]
 rw[hk];generalize ab a.m=x at*
 generalize ab b.m=y at*
 have lx:2^ (ag x-1)<=x:=Kh (by grind[fE]);have ly:y<2^ag y:=bH.1 (aET _);have px:=fE hA0;have c1:ag x-1+ea<=A:=by
  refine(Nat.pow_le_pow_iff_right (a:=2) δ).1 ?_;rw[aE2];exact aEX (aE4 _ lx) hma
 have c2:K<ag y+eb:=by
  refine(Nat.pow_lt_pow_iff_right (a:=2) δ).1 ?_;rw[hP,aE2];exact aFl hmb (Nat.mul_lt_mul_of_pos_right ly (aE7 eb))
 obtain⟨E,hE⟩:∃E,ea+K+E=A+k+eb:=⟨A+k+eb- (ea+K),by omega⟩;have hle:x*2^k<=2^E*y:=by
  refine Nat.le_of_mul_le_mul_right (c:=2^ea*P) ?_ (Nat.mul_pos (aE7 ea) γ);have q1:x*2^k*(2^ea*P)=(x*2^ea)*2^k*P:=γ
  have q2:2^E*y*(2^ea*P)=2^ (A+k)*(y*2^eb):=by
   rw[←hP];have q3:2^E*2^ea*2^K=2^ (A+k)*2^eb:=by
    rw[←aE2,←aE2,←aE2];grind
   grind
  simp_all[aE2,Nat.mul_le_mul,aE4]
 have hq:2^ (n+2)<=x*2^k/y:=by
  rw[Nat.le_div_iff_mul_le ω];refine aEX (aFV _ (Nat.le_of_lt ly)) ?_;refine aEX ?_ (aE4 _ lx);rw[←aE2,←aE2];exact aFu δ ω
 have hN:x*2^k/y≠0:=by
  grind
 have hbl:(n:Int)< (ag (x*2^k/y)):=by
  have:¬ag (x*2^k/y)<=n:=fun h=>by
   have h1:=bH.1 h;grind
  omega
 have hmr:x*2^k/y+(decide (x*2^k%y≠0)).toNat<=2^E:=by
  have q1:=aFM (x*2^k) y;generalize x*2^k/y=N at*
  generalize x*2^k%y=r at*
  by_cases c:r=0
  ·rw[decide_eq_false ω];refine Nat.le_of_mul_le_mul_left (show y*N<=y*2^E from ?_) ω;grind
  ·rw[decide_eq_true c];show N<2^E;refine Nat.lt_of_mul_lt_mul_left (show y*N<y*2^E from ?_);grind
 obtain⟨g1,g2,g3⟩:=at4 (f:=a.e-k-b.e) (T:=B) (E:=E) (w:=up != (a.neg !=b.neg)) (more:=decide (x*2^k%y≠0)) hN hn hA (fun _=>hbl) hmr ω;grind[arv,g1,OU]
def Mq.div{x y}{p}{A B K}(ox:OkI x)(oy:OkI y)(hB:B<32768)(hK:A+16384=B+K)(hx:Mq A x)(hy:kI y=true->(2^K:Nat)<=zI y.lo):Mq B (dC x y p):=by
 intro hk;cases hc:(kI x&&kI y&&bv p)with
 |false=>
  unfold dC at hk;rw[hc,av aE3]at hk;cases hk
 |true=>
 have hc2:=hc;simp only[aEV]at hc2;obtain⟨⟨kx,ky⟩,hp⟩:=hc2;obtain⟨x1,x2⟩:=hx kx;have y1:=hy ky;have y2:=Int.le_trans y1 (OF ky).2.2.1;have lx:∀i,(zI (ed x y i).1).natAbs<=2^A:=fun i=>by unfold ed;grind
 have ly:∀i,(2^K:Nat)<=zI (ed x y i).2:=fun i=>by unfold ed;grind
 have ok:∀i,Ok0 (ed x y i).1/\Ok0 (ed x y i).2:=fun i=>by
  unfold ed;split
  ·exact⟨ox.lo,oy.lo⟩
  ·exact⟨ox.lo,oy.hi⟩
  ·exact⟨ox.hi,oy.lo⟩
  ·exact⟨ox.hi,oy.hi⟩
 have key:∀i up,(lC (ed x y i).1 (ed x y i).2 p up).2=0/\(zI (lC (ed x y i).1 (ed x y i).2 p up).1).natAbs<=2^B:=fun i up=>by
  obtain⟨v1,v2⟩:=ahG (GR ox kx) (GR oy ky) i;exact arw (ok i).1 (ok i).2 v1 v2 hp hB (lx i) hK (ly i)
 obtain⟨t,t0,_,⟨j,_,t1⟩,j',_,t2⟩:=LI (dn:=fun a b=>lC a b p false) (up:=fun a b=>lC a b p true) (pr:=ed x y) (fun a b=>xQ.1) (fun a b=>xQ.1) fun i _=>⟨(key i false).1,(key i true).1⟩;by_cases sg:HT y=0
 ·unfold dC at hk;rw[hc,ap rfl,ap sg]at hk;cases hk
 have e:dC x y p=⟨t.1,t.2,false⟩:=by
  unfold dC;rw[hc,ap rfl,av sg,t0];rfl
 grind
def LgX(p:Int)(X:Option (Ex×St)):Prop:=∃P' s',OkI P'/\OkI s'/\∃hh,X=some (.normal,⟨upd (upd (upd (upd ce 7 (ac 7)) 6 (ac 6)) 4 (ac 4)) 2 (ac 2),hh⟩)/\hh 2=.bx [I p]/\hh 4=.bx zC/\hh 6=.bx (ah P')/\hh 7=.bx (ah s')/\∀i,i≠2->i≠4->i≠5->i≠6->i≠7->hh i=.dead
def afr{q P s}{p n}(hp:0<=p/\p<=1000)(oP:OkI P)(os:OkI s)(hs:Xq P p=true)(S)(h)(X)(hX:ao 0 [2,4,6,7] (aB (am R (aA false) fA) [2,4,5,6,7,8] [2,4,5,6,7] S h)=X)
  (k2:S 2=ac 2) (k4:S 4=ac 4) (k5:S 5=ac 5) (k6:S 6=ac 6) (k7:S 7=ac 7) (k8:S 8=I n) (h2:h 2=.bx [I p]) (h4:h 4=.bx zC) (h5:h 5=.bx (ah q)) (h6:h 6=.bx (ah P)) (h7:h 7=.bx (ah s)):LgX p X:=by
 have q5:=GQ oP hp;rw[hs]at q5;subst hX;rw[ai];simp only[ae,ah]at q5 h5 h6 h7;refine⟨P,s,oP,os,?hh0,?_,?_,?_,?_,?_,?_⟩;rotate_left
 ·simp only[fA,go_sem,k2,k4,k5,k6,k7,k8,h2,h4,h5,h6,h7,q5];rfl
 all_goals first|rfl| (intro i b1 b2 b3 b4 b5;simp only[cz,b2,if_false, *];try (split<;>rfl))
def aoe{q}{p}(oq:OkI q)(hq:Mq 16382 q)(hp:0<=p/\p<=1000):∀ (f T:Nat) P s n,OkI P->OkI s->kR n->Mq T P->T<30000->(T:Int)+1+p<=16384+2*f->∀S h X,ao 0 [2,4,6,7] (aB (am R (aA false) fA) [2,4,5,6,7,8] [2,4,5,6,7] S h)=X->
  S 2=ac 2->S 4=ac 4->S 5=ac 5->S 6=ac 6->S 7=ac 7->S 8=I n->h 2=.bx [I p]->h 4=.bx zC->h 5=.bx (ah q)->h 6=.bx (ah P)->h 7=.bx (ah s)->LgX p X:=by
 intro f;induction f with
 |zero=>
  intro T P s n oP os hn hT h3 hf S h X hX k2 k4 k5 k6 k7 k8 h2 h4 h5 h6 h7;exact afr hp oP os (hT.small oP hp.1 ω) S h X hX k2 k4 k5 k6 k7 k8 h2 h4 h5 h6 h7
 |succ f ih=>
  intro T P s n oP os hn hT h3 hf S h X hX k2 k4 k5 k6 k7 k8 h2 h4 h5 h6 h7;cases hs:Xq P p with
  |true=>exact afr hp oP os hs S h X hX k2 k4 k5 k6 k7 k8 h2 h4 h5 h6 h7
  |false=>
  have hT2:=Int.lt_of_not_ge fun h=>by
   rw[hT.small oP hp.1 h]at hs;grind
  have q1:=Pe oP oq (p:=p);have o1:OkI (bX P q p):=iU;have hM:=Mq.mul (p:=p) (V:=T-2) oP oq ω ω hT hq;have q2:=nT hn;have q3:=Ks o1 (gM hn) (p:=p);have od:OkI (dC (bX P q p) (cY n) p):=kL;have q4:=CJ os od (p:=p);have oa:OkI (de s (dC (bX P q p) (cY n) p) p):=kW;have q5:=GQ oP hp;rw[hs]at q5;generalize de s (dC (bX P q p) (cY n) p) p=s1 at*
  generalize bX P q p=m1 at*
  have ih':=ih (T-2) m1 s1 (IntKind.i64.wrap (n+2)) o1 oa (GO _) hM ω ω;subst hX;rw[ai];simp only[ae,ah]at q1 q2 q3 q4 q5 h5 h6 h7 ih';simp only[fA,go_sem,k2,k4,k5,k6,k7,k8,h2,h4,h5,h6,h7,q1,q2,q3,q4,q5];apply ih'<;>rfl
def afs{z}{p}(oz:OkI z)(hp:0<=p/\p<=1000)(hz:Mq 16383 z):∃y,OkI y/\R 235 [Ii p,ae z] []=some (ae y,[]):=by
 have h1:=ak1 oz (p:=p);have o1:OkI (Qa z p):=ak5;have hq:=Mq.sq (p:=p) (V:=16382) oz ω ω hz;have hL:=aoe o1 hq hp 1000 16383 z z 3 oz oz ⟨by omega,by omega⟩ hz ω ω;have hA:∀ {x},OkI x->R 283 [ae x] []=some (ae (Xr x),[]):=fun h=>N2 h;have hS:∀ {x w},OkI x->OkI w->R 234 [Ii p,ae x,ae w] []=some (ae (de x w p),[]):=fun h g=>CJ h g;have hC:∀ {x},OkI x->R 118 [ae x,I 1] []=some (ae (Ja x 1),[]):=fun h=>N4 h;have key:∃y,OkI y/\fk false iQ.rs iQ.res 0 (am R (aA false) iQ.body (iW [Ii p,ae z]) (fun _=>.dead))=some (ae y,[]):=by
  generalize hLL:aB (am R (aA false) fA)=L at hL;have hX:∀s h,am R (aA false) (.loop [2,4,5,6,7,8] [2,4,5,6,7] fA) s h=L [2,4,5,6,7,8] [2,4,5,6,7] s h:=fun s h=>by rw[←hLL];rfl
  simp only[ae,ah]at h1 hL hA hS hC;simp only[iQ,Di,ae,ah,go_sem,h1,hX];generalize hBB:ao 0 [2,4,6,7] (L _ _ _ _)=X;obtain⟨t,s,ot,os,hh,hE,k2,k4,k6,k7,kd⟩:=hL _ _ _ hBB Z Z Z Z Z Z Z Z Z Z Z;have hA:=hA ot;have oa:=ak7 ot;generalize Xr t=a at*
  have hS:=hS os oa;have oz:OkI (de s a p):=kW;generalize de s a p=z at*
  have hC:=hC oz;have oc:=N3 oz (k:=1);generalize Ja z 1=c at*
  refine⟨c,oc,?_⟩;rw[hE];simp only[ah]at k6 k7;simp only[go_sem,k2,k4,k6,k7,kd,ne_eq,not_false_eq_true,hA,hS,hC]
 obtain⟨y,oy,hy⟩:=key;exact⟨y,oy,au Le hy⟩
def Ph{n B:Nat}{w:Bool}(hn:8<=n/\n<=512)(hl:2^B<=M)(hu:M<2^ (B+1))(hB:B+1<=32768)(h2:(cx M (-16384- ((0:Nat):Int)) false (n:Int) w).2=0):
  ((2^B:Nat):Int)<=zI (cx M (-16384- ((0:Nat):Int)) false (n:Int) w).1/\zI (cx M (-16384- ((0:Nat):Int)) false (n:Int) w).1<=((2^ (B+1):Nat):Int):=by
 have h0:M≠0:=by
  have:=aE7 B;omega
 have hb:=bH.2 hu;have hd:dR M n 0<=B:=by
  unfold dR;split<;>omega
 have q1:2^ (B-dR M n 0)<=rq w M (dR M n 0):=awe (by rw[show dR M n 0+(B-dR M n 0)=B by omega];exact hl);have q2:rq w M (dR M n 0)<=2^ (B+1-dR M n 0):=aoZ (by rw[show dR M n 0+(B+1-dR M n 0)=B+1 by omega];exact hu);have q3:=aE4 (2^dR M n 0) q1;have q4:=aE4 (2^dR M n 0) q2;rw[←aE2,show B-dR M n 0+dR M n 0=B by omega]at q3;rw[←aE2,show B+1-dR M n 0+dR M n 0=B+1 by omega]at q4;have q5:=(awd w M (dR M n 0)).2;obtain⟨c1,c2⟩:=VV (w:=w) (j:=0) h0 hn;generalize rq w M (dR M n 0)*2^dR M n 0=V at*
 by_cases c:V<2^ (32768+0)
 ·have h:=(c1 c).2;have h:zI (cx M (-16384- ((0:Nat):Int)) false (n:Int) w).1=(V:Int):=by
   rw[←h];simp
  rw[h];exact⟨Int.ofNat_le.2 q3,Int.ofNat_le.2 q4⟩
 ·obtain⟨c3,c4⟩:=c2 (Nat.le_of_not_lt c);cases w with
  |true=>exact absurd h2 (c3 rfl)
  |false=>
   exact absurd (aFl (q5 rfl) (aFQ hu (aFu δ ω))) c
def ape{d}{k}{a b:Nat}(ok:Ok0 d)(v:vd d=true)(h:(Kv d k).2=0)(hk:k=b-a):zI (Kv d k).1*(2^a:Nat)=zI d*(2^b:Nat):=by
 obtain⟨_,d1,d2,d3⟩:=dT v ok.lb;unfold Kv at h⊢;split at h
 case isFalse=>omega
 rename_i c;rw[ap c];by_cases h0:O d.m=0
 ·grind[ab,kT,cS,zI,cA,aC]
 have hv:=dN v h0;have hs:=I2 ok v;have e:aZ d.neg (ab d.m) (d.e+k)=⟨d.neg,d.m,d.e+k⟩:=by
  rw[l7 hv]at hs⊢;grind
 rw[e]at h⊢;unfold cA at h⊢;split at h
 case isFalse=>omega
 rename_i hi;rw[ap hi];have hr:-16384<=d.e+k:=by
  unfold rP at hi;have:=fE hv;grind
 have q:mg ⟨d.neg,d.m,d.e+k⟩*2^a=mg d*2^b:=by
  unfold mg;rw[aFj,aFj,←aE2,←aE2];grind
 unfold zI;generalize mg ⟨d.neg,d.m,d.e+k⟩=x at*
 cases d.neg
 ·rw[av aE3,av aE3,←aF2,←aF2,q]
 ·rw[ap rfl,ap rfl,Int.neg_mul,Int.neg_mul,←aF2,←aF2,q]
def CL(d:Rd)(p:Int):Ri:=Ja (oA (m9 d) p) (0-aQ d)
def awj{d}{p}{K}(hK:K=16384)(ok:Ok0 d)(v:vd d=true)(hd:0<zI d)(hk:kI (CL d p)=true):(2^ (K-1):Nat)<=zI (CL d p).lo/\zI (CL d p).hi<=(2^K:Nat):=by
 have h0:O d.m≠0:=fun h=>by
  grind[cS]
 have hb:=J7 v ok.lb h0;have hz:zI d=(mg d):=by
  unfold zI at hd⊢;grind
 have tb:=(dT v ok.lb).2;have hT:aQ d<=16384:=by
  rw[kJ v h0];have h:=v;unfold vd rP at h;grind
 obtain⟨B,hB⟩:∃B,ag (mg d)=B+1:=⟨ag (mg d)-1,by
  grind[fE,mg]⟩
 have m1:2^B<=mg d:=Kh ω;have m2:mg d<2^ (B+1):=bH.1 ω;unfold CL at hk⊢;cases hr:kI (oA (m9 d) p)with
 |false=>
  unfold Ja at hk;rw[hr,av aE3]at hk;cases hk
 |true=>
 unfold Ja at hk⊢;rw[hr,ap rfl]at hk;rw[hr,ap rfl];unfold kD at hk⊢;split at hk
 case isFalse=>cases hk
 rename_i hs;rw[ap hs];unfold oA at hr hs⊢;split at hr
 case isFalse=>cases hr
 rename_i hp;rw[ap hp]at hs⊢;have hp2:=pZ (Bool.and_eq_true_iff.1 hp).1;unfold kD at hr hs⊢;split at hr
 case isFalse=>cases hr
 rename_i hm;rw[ap hm]at hs⊢;obtain⟨n,rfl⟩:∃n:Nat,p=n:=⟨p.toNat,by omega⟩;have er:∀up,bY d n up=cx (mg d) (-16384- (0:Nat)) false n up:=fun up=>by
  simp_all[bY,ap,bo,O8]
 have w1:=@H3 d n false;have w2:=@H3 d n true;obtain⟨l1,l2⟩:=hs;have z1:=ape (a:=B+1) (b:=K) w1.2 w1.1 l1 ω;have z2:=ape (a:=B+1) (b:=K) w2.2 w2.1 l2 ω;have c1:=Ph (n:=n) (w:=false) ω m1 m2 ω (by rw[←er];exact hm.1);have c2:=Ph (n:=n) (w:=true) ω m1 m2 ω (by rw[←er];exact hm.2);have p1:=Int.ofNat_lt.2 (aE7 (B+1));constructor
 ·refine Int.le_of_mul_le_mul_right (a:=(2^ (B+1):Nat)) ?_ p1;show _<=zI (Kv (bY d n false).1 (0-aQ d)).1*_;grind
 ·refine Int.le_of_mul_le_mul_right (a:=(2^ (B+1):Nat)) ?_ p1;show zI (Kv (bY d n true).1 (0-aQ d)).1*_<=_;grind
theorem aAn:gZ 1=⟨false,[1],0⟩:=by kernel_rfl
theorem aAo:gZ 3=⟨false,[3],0⟩:=by kernel_rfl
theorem aAp:gZ (-1)=⟨true,[1],0⟩:=by kernel_rfl
theorem aof{n}{v K}(hK:K=16384):zI ⟨n,[v],0⟩=cG n (v*2^K):=by
 have h1:zI ⟨n,[v],0⟩=cG n (mg ⟨n,[v],0⟩):=rfl;rw[h1,ahV (e:=K) γ];simp[ab]
def apf{K}(hK:K=16384):zI (cY 1).lo=(2^K:Nat)/\zI (cY 1).hi=(2^K:Nat):=by
 unfold cY m9;rw[aAn];have h:zI ⟨false,[1],0⟩=(2^K:Nat):=by rw[aof hK,Nat.one_mul];rfl
 grind
def awk{K}(hK:K=16384):zI (cY (-1)).lo=-(2^K:Nat)/\zI (cY (-1)).hi=-(2^K:Nat):=by
 unfold cY m9;rw[aAp];have h:zI ⟨true,[1],0⟩=-(2^K:Nat):=by rw[aof hK,Nat.one_mul];rfl
 grind
def aog{p}{A B K}(hA:A=16384)(hB:B=16383)(hK:K=16385):Mq B (dC (cY 1) (cY 3) p):=by
 have o1:OkI (cY 1):=gM ⟨by omega,by omega⟩;have o3:OkI (cY 3):=gM ⟨by omega,by omega⟩;refine Mq.div (A:=A) (K:=K) o1 o3 ω ω (fun _=>?_) fun _=>?_
 ·obtain⟨h1,h2⟩:=apf hA;rw[h1,h2,Int.natAbs_natCast];exact⟨aET _,aET _⟩
 ·unfold cY m9;rw[aAo];rw[aof hA,show K=A+1 by omega,aFJ];show _<=((3*2^A:Nat):Int);omega
def T8{x y}{p}(hk:kI (de x y p)=true):kI x=true/\kI y=true/\bv p=true/\(dh x.lo y.lo p false).2=0/\(dh x.hi y.hi p true).2=0/\de x y p=⟨(dh x.lo y.lo p false).1,(dh x.hi y.hi p true).1,false⟩:=by
 unfold de at hk⊢;split at hk
 case isFalse=>cases hk
 unfold kD at hk⊢;split at hk
 case isFalse=>cases hk
 grind
def awl{d}{p}{A K}(hA:A=16383)(hK:K=16384)(ok:Ok0 d)(v:vd d=true)(hd:0<zI d):Mq A (dC (de (CL d p) (cY (-1)) p) (de (CL d p) (cY 1) p) p):=by
 have om:∀hk,VI (CL d p)/\(2^A:Nat)<=zI (CL d p).lo/\zI (CL d p).lo<=zI (CL d p).hi/\zI (CL d p).hi<=(2^K:Nat):=fun hk=>by
  obtain⟨h1,h2⟩:=awj hK ok v hd hk;rw[show K-1=A by omega]at h1;exact⟨GR (N3 zN) hk,h1,(OF hk).2.2.1,h2⟩
 have eK:2^K=2^A+2^A:=by
  grind
 have o1:OkI (cY 1):=gM ⟨by omega,by omega⟩;have o2:OkI (cY (-1)):=gM ⟨by omega,by omega⟩;refine Mq.div (A:=A) (K:=K) kW kW ω ω (fun hk=>?_) fun hk=>?_
 ·obtain⟨k1,k2,hp,_,_,e⟩:=T8 hk;obtain⟨vm,m1,m2,m3⟩:=om k1;have vn:=GR o2 k2;obtain⟨n1,n2⟩:=awk hK;rw[e];have key:∀a b up,vd a=true->vd b=true->(zI a+zI b).natAbs<=2^A->(zI (dh a b p up).1).natAbs<=2^A:=fun a b up va vb h=>by
   obtain⟨f1,n,rfl,hn⟩:=Ib va vb hp;unfold dh;rw[ap f1];exact(alc (j:=0) hn ω h).2
  refine⟨key _ _ _ vm.1.1 vn.1.1 ?_,key _ _ _ vm.2.1 vn.2.1 ?_⟩
  all_goals omega
 ·obtain⟨k1,k2,hp,h0,_,e⟩:=T8 hk;obtain⟨vm,m1,m2,m3⟩:=om k1;have vn:=GR o1 k2;obtain⟨n1,n2⟩:=apf hK;rw[e];obtain⟨f1,n,rfl,hn⟩:=Ib vm.1.1 vn.1.1 hp;unfold dh at h0⊢;rw[ap f1]at h0⊢;rw[n1]at h0⊢;have p1:=aE7 K;have pz:0<zI (CL d n).lo+(2^K:Nat):=ω
  rw[O8 pz]at h0⊢;have hl:2^K<=(zI (CL d n).lo+(2^K:Nat)).natAbs:=ω
  by_cases c:(zI (CL d n).lo+(2^K:Nat)).natAbs<2^ (K+1)
  ·exact(Ph hn hl c ω h0).1
  ·have hu:(zI (CL d n).lo+(2^K:Nat)).natAbs<2^ (K+1+1):=by
    omega
   have h:=(Ph hn (Nat.le_of_not_lt c) hu ω h0).1;grind
def arx(hp:0<=p/\p<=1000):∃y,OkI y/\R 237 [I p] []=some (ae y,[]):=by
 have fin:∀y,OkI y->fk false je.rs je.res 0 (am R (aA false) je.body (iW [I p]) (fun _=>.dead))=some (ae y,[])->∃y,OkI y/\R 237 [I p] []=some (ae y,[]):=fun y oy h=>⟨y,oy,au S7 h⟩;have hw:=dW;by_cases c1:p<8
 ·have f1:=tt c1;refine fin bt gX.ok' ?_;simp only[je,ae,ah,bt,aC,go_sem,aEP,aEO,aEN,aX,f1,hw]
 have f1:=ff c1;by_cases c2:512<p
 ·have f2:=tt c2;refine fin bt gX.ok' ?_;simp only[je,ae,ah,bt,aC,go_sem,aEP,aEO,aEN,aX,f1,f2,hw]
 have f2:=ff c2;have g1:=RQ (q:=16) hp ⟨by omega,by omega⟩;obtain⟨P,hP⟩:∃P,(if 512<p+16 then(512:Int)else p+16)=P:=⟨_,rfl⟩;rw[hP]at g1;have hP2:0<=P/\P<=1000:=by
  omega
 have i1:kR 1:=⟨by omega,by omega⟩;have i3:kR 3:=⟨by omega,by omega⟩;have g2:=nT i1;have g3:=nT i3;have g4:=Ks (gM i1) (gM i3) (p:=P);have o4:OkI (dC (cY 1) (cY 3) P):=kL;obtain⟨y,oy,g5⟩:=afs o4 hP2 (aog Z Z Z);have g6:=FJ oy (p:=p);have o6:OkI (oA y p):=zN;generalize oA y p=z at*
 refine fin z o6 ?_;simp only[ae,ah]at g2 g3 g4 g5 g6;simp only[je,ae,ah,go_sem,aEP,aEO,aEN,aX,f1,f2,g1,g2,g3,g4,g5,g6]
def ald{d:Rd}(ok:Ok0 d)(v:vd d=true)(hd:0<zI d)(hp:0<=p/\p<=900):∃y,OkI y/\R 173 [af d,I p] []=some (ae y,[]):=by
 have fin:∀y,OkI y->fk false gD.rs gD.res 0 (am R (aA false) gD.body (iW [af d,I p]) (fun _=>.dead))=some (ae y,[])->∃y,OkI y/\R 173 [af d,I p] []=some (ae y,[]):=fun y oy h=>⟨y,oy,au K9 h⟩;have i1:kR 1:=⟨by omega,by omega⟩;have im:kR (-1):=⟨by omega,by omega⟩;have h1:=m8 i1;rw[show aZ (decide ((1:Int)<0)) (Int.natAbs 1) 0=gZ 1 from rfl]at h1;have o1:=jh i1;have h2:=mF ok o1.2;rw[ap ⟨v,o1.1⟩]at h2;generalize gH (zI d) (zI (gZ 1))=c at*
 by_cases c1:c=0
 ·have f1:=tt c1;refine fin Mi ⟨aO.2,aO.2⟩ ?_;simp only[af,ak]at h1 h2;simp only[gD,ae,ah,af,ak,Mi,aC,go_sem,aEP,aEO,aEN,aX,h1,h2,f1]
 have f1:=ff c1;have g1:=RQ (p:=p) (q:=40) ⟨by omega,by omega⟩ ⟨by omega,by omega⟩;obtain⟨P,hP⟩:∃P,(if 512<p+40 then(512:Int)else p+40)=P:=⟨_,rfl⟩;rw[hP]at g1;have hP2:0<=P/\P<=1000:=by
  omega
 have tb:=YK ok v;have g2:=pW ok;have it:kR (aQ d):=⟨by omega,by omega⟩;have e1:aG (0-aQ d)=0-aQ d:=by grind[i64_in]
 have g3:=fY ok v;have g4:=FJ (x:=⟨d,d,false⟩) ⟨ok,ok⟩ (p:=P);have o4:OkI (oA ⟨d,d,false⟩ P):=zN;have g5:=N4 o4 (k:=0-aQ d);have o5:=N3 o4 (k:=0-aQ d);rw[show Ja (oA ⟨d,d,false⟩ P) (0-aQ d)=CL d P from rfl]at g5 o5;have g6:=nT im;have g7:=nT i1;have g8:=CJ o5 (gM im) (p:=P);have g9:=CJ o5 (gM i1) (p:=P);have o8:OkI (de (CL d P) (cY (-1)) P):=kW;have o9:OkI (de (CL d P) (cY 1) P):=kW;have g10:=Ks o8 o9 (p:=P);have o10:OkI (dC (de (CL d P) (cY (-1)) P) (de (CL d P) (cY 1) P) P):=kL;obtain⟨y,oy,g11⟩:=afs o10 hP2 (awl Z Z ok v hd);obtain⟨l,ol,g12⟩:=arx hP2;have g13:=nT it;have g14:=Pe (gM it) ol (p:=P);have o14:OkI (bX (cY (aQ d)) l P):=iU;have g15:=CJ oy o14 (p:=P);have o15:OkI (de y (bX (cY (aQ d)) l P) P):=kW;have g16:=FJ o15 (p:=p);have o16:OkI (oA (de y (bX (cY (aQ d)) l P) P) p):=zN;generalize oA (de y (bX (cY (aQ d)) l P) P) p=z at*
 refine fin z o16 ?_;simp only[ae,ah,af,ak]at h1 h2 g2 g3 g4 g5 g6 g7 g8 g9 g10 g11 g12 g13 g14 g15 g16;simp only[gD,ae,ah,af,ak,go_sem,aEP,aEO,aEN,aX,h1,h2,f1,g1,g2,e1,g3,g4,g5,g6,g7,g8,g9,g10,g11,g12,g13,g14,g15,g16]
def ahW(x:Ri)(p:Int):Bool:=kI x&&bv p
def T9(ok:OkI x):R 154 [ae x,I p] []=some (B (ahW x p),[]):=by
 have h1:=mL ok;unfold ahW kI;cases ha:x.all with
 |true=>
  refine au yA ?_;simp only[iY,ae,ah,go_sem,ha,aMD,aE0]
 |false=>
 cases hv:vi x with
 |false=>
  refine au yA ?_;simp only[ae,ah,ha,hv]at h1;simp only[iY,ae,ah,go_sem,ha,h1,aFY,aEW,aE0]
 |true=>
 refine au yA ?_;simp only[ae,ah,ha,hv]at h1;unfold bv;by_cases c1:8<=p
 ·have f1:=tt c1;by_cases c2:p<=512
  ·have f2:=tt c2;simp only[iY,ae,ah,go_sem,aEP,aEO,aEN,aX,ha,h1,f1,f2,aFY,aEW]
  ·have f2:=ff c2;simp only[iY,ae,ah,go_sem,aEP,aEO,aEN,aX,ha,h1,f1,f2,aFY,aEW]
 ·have f1:=ff c1;simp only[iY,ae,ah,go_sem,aEP,aEO,aEN,aX,ha,h1,f1,aFY,aEW,aE0]
def aoh{p:Int}(ok:OkI x):∃y,OkI y/\R 114 [ae x,I p] []=some (ae y,[]):=by
 have fin:∀y,OkI y->fk false jV.rs jV.res 0 (am R (aA false) jV.body (iW [ae x,I p]) (fun _=>.dead))=some (ae y,[])->∃y,OkI y/\R 114 [ae x,I p] []=some (ae y,[]):=fun y oy h=>⟨y,oy,au UR h⟩;have hw:=dW;have h1:=T9 ok (p:=p);simp only[ae,ah,bt,aC]at hw h1;cases hf:ahW x p with
 |false=>
  rw[hf]at h1;refine fin bt gX.ok' ?_;simp only[jV,ae,ah,bt,aC,go_sem,aEP,aEO,aEN,aX,h1,hw]
 |true=>
 rw[hf]at h1;obtain⟨kx,hp⟩:=Bool.and_eq_true_iff.1 hf;have hp2:=pZ hp;obtain⟨_,v1,v2⟩:=DH kx;have hle:=(OF kx).2.2.1;have h2:=tT ok.lo v1;have hz:=(ahH v1).1;generalize kl x.lo=g at*
 by_cases c:g<=0
 ·have f:=tt c;refine fin bt gX.ok' ?_;simp only[af,ak]at h2;simp only[jV,ae,ah,bt,aC,go_sem,aEP,aEO,aEN,aX,h1,h2,f,hw]
 have f:=ff c;have z1:=hz.1 ω;obtain⟨a,oa,g1⟩:=ald ok.lo v1 z1 (p:=p) ω;obtain⟨b,ob,g2⟩:=ald ok.hi v2 ω (p:=p) ω;have g3:=afl (a:=a) (b:=b);have o3:OkI (I9 a b):=by
  unfold I9;split
  ·exact gX.ok'
  ·exact⟨oa.lo,ob.hi⟩
 generalize I9 a b=z at*
 refine fin z o3 ?_;simp only[ae,ah,af,ak]at h2 g1 g2 g3;simp only[jV,ae,ah,go_sem,aEP,aEO,aEN,aX,h1,h2,f,g1,g2,g3]
theorem aAq:gZ 1000=⟨false,[125],3⟩:=by kernel_rfl
def aft{d:Rd}(ok:Ok0 d)(v:vd d=true)(h:N1 d=true):aQ d<=50:=by
 by_cases h0:O d.m=0
 ·simp_all[aQ,ap]
 have hb:=J7 v ok.lb h0;obtain⟨K,hK⟩:∃K:Nat,K=16387:=⟨_,rfl⟩;have e:zI (gZ 1000)=((125*2^K:Nat):Int):=by
  rw[aAq];have h1:zI ⟨false,[125],3⟩=((mg ⟨false,[125],3⟩:Nat):Int):=rfl;rw[h1,ahV (e:=K) γ];rfl
 unfold N1 at h;rw[decide_eq_true_eq,GZ,(NT v).2,e]at h;have hm:mg d<=125*2^K:=by
  grind[zI]
 have hl:mg d<2^ (K+7):=by
  grind
 have:=bH.2 hl;omega
def ale{p:Int}(ok:OkI x):∃y,OkI y/\R 87 [ae x,I p] []=some (ae y,[]):=by
 have fin:∀y,OkI y->fk false iw.rs iw.res 0 (am R (aA false) iw.body (iW [ae x,I p]) (fun _=>.dead))=some (ae y,[])->∃y,OkI y/\R 87 [ae x,I p] []=some (ae y,[]):=fun y oy h=>⟨y,oy,au JX h⟩;have hw:=dW;have h1:=T9 ok (p:=p);simp only[ae,ah,bt,aC]at hw h1;cases hf:ahW x p with
 |false=>
  rw[hf]at h1;refine fin bt gX.ok' ?_;simp only[iw,ae,ah,bt,aC,go_sem,aEP,aEO,aEN,aX,h1,hw]
 |true=>
 rw[hf]at h1;obtain⟨kx,hp⟩:=Bool.and_eq_true_iff.1 hf;have hp2:=pZ hp;obtain⟨_,v1,v2⟩:=DH kx;have g2:=Pg ok.lo v1;have g3:=Pg ok.hi v2;cases m1:N1 x.lo with
 |false=>
  rw[m1]at g2;refine fin bt gX.ok' ?_;simp only[af,ak]at g2;simp only[iw,ae,ah,bt,aC,go_sem,aEP,aEO,aEN,aX,h1,g2,hw]
 |true=>
 cases m2:N1 x.hi with
 |false=>
  rw[m1]at g2;rw[m2]at g3;refine fin bt gX.ok' ?_;simp only[af,ak]at g2 g3;simp only[iw,ae,ah,bt,aC,go_sem,aEP,aEO,aEN,aX,h1,g2,g3,hw]
 |true=>
 have pw:∀d,Ok0 d->∃z,pwR ahU d p=some z:=fun d od=>by
  unfold pwR;split
  ·grind
  ·obtain⟨z,hz⟩:=apd (p:=Ku d p) (by grind[Ku]) (Ml d) (y:=oA (m9 d) (Ku d p)) zN;grind
 obtain⟨a,ha⟩:=pw _ ok.lo;obtain⟨b,hb⟩:=pw _ ok.hi;have t1:=aft ok.lo v1 m1;have t2:=aft ok.hi v2 m2;have oa:=(LM aca ok.lo v1 hp t1 ha).2;have ob:=(LM aca ok.hi v2 hp t2 hb).2;refine⟨I9 a b,?_,aob aca ok kx hp m1 m2 t1 t2 ha hb⟩;unfold I9;split
 ·exact gX.ok'
 ·exact⟨oa.lo,ob.hi⟩
noncomputable def DK (f:FuncId) (zas:List AV):Ri:=open Classical in if h:∃y,OkI y/\R f zas []=some (ae y,[])then h.choose else bt
theorem Im(f:FuncId)(zas:List AV):OkI (DK f zas):=by
 unfold DK;split
 ·rename_i h;exact h.choose_spec.1
 ·exact gX.ok'
def N5{f:FuncId}{zas:List AV}(h:∃y,OkI y/\R f zas []=some (ae y,[])):R f zas []=some (ae (DK f zas),[]):=by
 unfold DK;rw[dif_pos h];exact h.choose_spec.2
def apg(ok:OkI x)(h:kI x=true):∃q,In q x:=GN ok (by
 unfold kI at h;exact(Bool.and_eq_true_iff.1 h).2)
theorem Io{p:Int}(ox:OkI x)(oy:OkI y):∃q,In q (dC x y p):=by
 cases h:(kI x&&kI y&&bv p)with
 |false=>
  refine⟨0,.inl ?_⟩;unfold dC;rw[h,av aE3]
 |true=>
  simp only[aEV]at h;obtain⟨q,hq⟩:=apg ox h.1.1;obtain⟨r,hr⟩:=apg oy h.1.2;exact⟨_,VH hq hr⟩
def alf{x:Ri}(h:∃q,In q x):∃q,In q (rW x):=h.elim fun _ h=>⟨_,aeB h⟩
noncomputable def gE (p:Int) (x:Ri) (k:Int):Ri:=dC (DK 87 [ae x,I p]) (ud k.toNat p) p
def lgq(p:Int)(x:Ri)(k:Nat):Ri:=dC (cY 1) (bX (cY k) (vV x k p) p) p
noncomputable def gL (p:Int) (x:Ri) (k:Int):Ri:=if k=0 then DK 114 [ae x,I p]else if k.toNat%2=0 then rW (lgq p x k.toNat)else lgq p x k.toNat
noncomputable def yT (sh p:Int) (x:Ri) (k:Int):Ri:=if(k+sh).tmod 4=0 then DK 175 [ae x,I p]else if(k+sh).tmod 4=1 then DK 176 [ae x,I p]else if(k+sh).tmod 4=2 then rW (DK 175 [ae x,I p])else rW (DK 176 [ae x,I p])
noncomputable def gTu (sh p:Int) (x:Ri) (k:Int):Ri:=dC (yT sh p x k) (ud k.toNat p) p
def Qb(p:Int):Nat->Nat->Ri->Ri
 |0,_,y=>y
 |n+1,i,y=>Qb p n (i+1) (Ja (bX y (cY (1-2*(i:Int))) p) (-1))
def alg{p:Int}:∀ (n i:Nat) {y:Ri},OkI y->OkI (Qb p n i y)
 |0,_,_,h=>h
 |n+1,i,_,_=>alg n (i+1) (N3 iU)
noncomputable def gQ (p:Int) (x:Ri) (k:Int):Ri:=dC (dC (Qb p k.toNat 0 (DK 117 [ae x,I p])) (ud k.toNat p) p) (vV x k.toNat p) p
def ary{s:Rs}{k:Nat}(ox:OkI x)(hk:k<=20):R 113 [ae x,I k,ac 1000] [.bx (mO s)]=some (ae (gL s.p x k),[.bx (mO s)]):=by
 refine xz QF QD (DV false) rfl ?_;unfold gL;by_cases c:k=0
 ·subst c;have h:=N5 (aoh ox (p:=s.p));rw[show((0:Nat):Int)=0 from rfl,ap rfl];generalize DK 114 [ae x,I s.p]=y at*
  simp only[ae,ah]at h;simp only[pG,ae,ah,go_sem,aEP,aEO,aEN,aX,h,aFz];exact jY Z Z Z Z (by simp only[go_sem])
 have f0:=aP ((k:Int)=0);rw[av ω,aEY];have i1:kR 1:=⟨by omega,by omega⟩;have ik:kR (k:Int):=⟨by omega,by omega⟩;have h1:=B6 i1;have h2:=B6 ik;have h3:=YJ ox (p:=s.p) (n:=k) ω;have h4:=sy (gM ik) (G7 ox (n:=k) (p:=s.p)) (p:=s.p);have o4:OkI (bX (cY k) (vV x k s.p) s.p):=iU;have h5:=sA (gM i1) o4 (p:=s.p);rw[show dC (cY 1) (bX (cY k) (vV x k s.p) s.p) s.p=lgq s.p x k from rfl]at h5;have o5:OkI (lgq s.p x k):=kL;have h6:=G3 o5;have w2:(k:Int).tmod 2=((k%2:Nat):Int):=by
  rw[Int.tmod_eq_emod_of_nonneg ω];rfl
 generalize rW (lgq s.p x k)=y1 at*
 generalize lgq s.p x k=y2 at*
 generalize bX (cY k) (vV x k s.p) s.p=y3 at*
 generalize vV x k s.p=y4 at*
 generalize cY (k:Int)=y5 at*
 generalize cY 1=y6 at*
 simp only[ae,ah]at h1 h2 h3 h4 h5 h6;by_cases g:k%2=0
 ·rw[ap g];have f:=aa (((k%2:Nat):Int)=0);simp only[pG,ae,ah,go_sem,aEP,aEO,aEN,aX,f0,w2,h1,h2,h3,h4,h5,h6,f];exact jY Z Z Z Z (by simp only[go_sem])
 ·rw[av g];have f:=aP (((k%2:Nat):Int)=0);simp only[pG,ae,ah,go_sem,aEP,aEO,aEN,aX,f0,w2,h1,h2,h3,h4,h5,f];exact jY Z Z Z Z (by simp only[go_sem])
def ahX{s:Rs}{k:Nat}(ox:OkI x)(hk:k<=20)(hs:0<=sh/\sh<=1):R 174 [ae x,I k,ac 1000,ac 1001] [.bx [I sh],.bx (mO s)]=some (ae (gTu sh s.p x k),[.bx [I sh],.bx (mO s)]):=by
 refine YI true Mt Ms (Bg false) rfl ?_;have h1:=N5 (arq ox (p:=s.p));have h2:=N5 (arr ox (p:=s.p));have o1:=Im 175 [ae x,I s.p];have o2:=Im 176 [ae x,I s.p];obtain⟨z,hz⟩:∃z,(k:Int)+sh=z:=⟨_,rfl⟩;have e1:IntKind.i64.wrap ((k:Int)+sh)=z:=by rw[i64_in]<;>omega
 have h4:=V1 (p:=s.p) (k:=k) ω;unfold gTu yT;rw[aEY,hz];generalize DK 175 [ae x,I s.p]=y1 at*
 generalize DK 176 [ae x,I s.p]=y2 at*
 have h5:=G3 o1;have h6:=G3 o2;have d1:=sA o1 CI (p:=s.p) (y:=ud k s.p);have d2:=sA o2 CI (p:=s.p) (y:=ud k s.p);have d3:=sA (EH o1) CI (p:=s.p) (y:=ud k s.p);have d4:=sA (EH o2) CI (p:=s.p) (y:=ud k s.p);generalize ud k s.p=y3 at*
 generalize rW y1=y5 at*
 generalize rW y2=y6 at*
 by_cases c0:z.tmod 4=0
 ·have f0:=tt c0;rw[ap c0];generalize dC y1 y3 s.p=w at*
  simp only[ae,ah]at h1 h4 d1;simp only[ju,ae,ah,go_sem,aEP,aEO,aEN,aX,e1,f0,h1,h4,d1];exact LK Z Z Z Z Z Z (by simp only[go_sem])
 have f0:=ff c0;rw[av c0];by_cases c1:z.tmod 4=1
 ·have f1:=tt c1;rw[ap c1];generalize dC y2 y3 s.p=w at*
  simp only[ae,ah]at h2 h4 d2;simp only[ju,ae,ah,go_sem,aEP,aEO,aEN,aX,e1,f0,f1,h2,h4,d2];exact LK Z Z Z Z Z Z (by simp only[go_sem])
 have f1:=ff c1;rw[av c1];by_cases c2:z.tmod 4=2
 ·have f2:=tt c2;rw[ap c2];generalize dC y5 y3 s.p=w at*
  simp only[ae,ah]at h1 h4 h5 d3;simp only[ju,ae,ah,go_sem,aEP,aEO,aEN,aX,e1,f0,f1,f2,h1,h4,h5,d3];exact LK Z Z Z Z Z Z (by simp only[go_sem])
 have f2:=ff c2;rw[av c2];generalize dC y6 y3 s.p=w at*
 simp only[ae,ah]at h2 h4 h6 d4;simp only[ju,ae,ah,go_sem,aEP,aEO,aEN,aX,e1,f0,f1,f2,h2,h4,h6,d4];exact LK Z Z Z Z Z Z (by simp only[go_sem])
def arz{s:Rs}{x:Ri}{k:Nat}(hk:k<=50):∀ (n i:Nat) (y:Ri),OkI y->i+n=k->∀ (S:aM) (h:aj) (X:Option (Ex×St)),ao 0 [1,2,3,5,6] (aB (am R (aA true) jo) [1,2,3,5,6,12,13] [3,5,6,1000] S h)=X->
  S 1=I k->S 2=ac 1000->S 3=ac 3->S 5=ac 5->S 6=ac 6->S 12=I k->S 13=I i->h 3=.bx (ah x)->h 5=.bx zC->h 6=.bx (ah y)->h 1000=.bx (mO s)->
  ∃hh,X=some (.normal,⟨upd (upd (upd (upd (upd ce 6 (ac 6)) 5 (ac 5)) 3 (ac 3)) 2 (ac 1000)) 1 (I k),hh⟩)/\hh 3=.bx (ah x)/\hh 5=.bx zC/\hh 6=.bx (ah (Qb s.p n i y))/\hh 1000=.bx (mO s)/\∀b,b≠3->b≠5->b≠6->b≠1000->hh b=.dead:=by
 intro n;induction n with
 |zero=>
  intro i y oy hi S h X hX k1 k2 k3 k5 k6 k12 k13 h3 h5 h6 h0;subst hX;rw[ai];have e:i=k:=ω
  subst e;simp only[ah,mO]at h3 h6 h0;refine⟨?hh0,?_,?_,?_,?_,?_,?_⟩;rotate_left
  ·simp only[jo,mO,go_sem,k1,k2,k3,k5,k6,k12,k13,h3,h5,h6,h0,aFC];rfl
  all_goals first|rfl| (intro b b1 b2 b3 b4;simp only[cz,b1,b2,b3,b4,if_false];try (split<;>rfl))
 |succ n ih=>
  intro i y oy hi S h X hX k1 k2 k3 k5 k6 k12 k13 h3 h5 h6 h0;have e1:=aa ((i:Int)< (k:Int));have e2:IntKind.i64.wrap (2*(i:Int))=2*(i:Int):=by rw[i64_in]<;>omega
  have e3:IntKind.i64.wrap (1-2*(i:Int))=1-2*(i:Int):=by rw[i64_in]<;>omega
  have e4:aG ((i:Int)+1)=((i+1:Nat):Int):=wi;have im:kR (1-2*(i:Int)):=⟨by omega,by omega⟩;have q1:=B6 im;have q2:=sy oy (gM im) (p:=s.p);have o2:OkI (bX y (cY (1-2*(i:Int))) s.p):=iU;have q3:=N4 o2 (k:=-1);have o3:=N3 o2 (k:=-1);have ih':=ih (i+1) (Ja (bX y (cY (1-2*(i:Int))) s.p) (-1)) o3 ω;rw[show Qb s.p (n+1) i y=Qb s.p n (i+1) (Ja (bX y (cY (1-2*(i:Int))) s.p) (-1))from rfl];generalize Ja (bX y (cY (1-2*(i:Int))) s.p) (-1)=w1 at*
  generalize bX y (cY (1-2*(i:Int))) s.p=w2 at*
  generalize cY (1-2*(i:Int))=w3 at*
  subst hX;rw[ai];generalize aB _ _ _=L at ih'⊢;simp only[ae,ah,mO]at q1 q2 q3 h3 h6 h0 ih'⊢;simp only[jo,go_sem,aEP,aEO,aEN,aX,k1,k2,k3,k5,k6,k12,k13,h3,h5,h6,h0,e1,e2,e3,e4,q1,q2,q3];apply ih'<;>rfl
def aoi{s:Rs}{k:Nat}(ox:OkI x)(hk:k<=20):R 116 [ae x,I k,ac 1000] [.bx (mO s)]=some (ae (gQ s.p x k),[.bx (mO s)]):=by
 refine xz Py Px (Dw false) rfl ?_;have h1:=N5 (aod ox (p:=s.p));have o1:=Im 117 [ae x,I s.p];have hL:=arz (s:=s) (x:=x) (k:=k) ω k 0 _ o1 (aES _);have o2:=alg (p:=s.p) k 0 o1;have h2:=V1 (p:=s.p) (k:=k) ω;have h3:=sA o2 CI (p:=s.p) (y:=ud k s.p);have o3:OkI (dC (Qb s.p k 0 (DK 117 [ae x,I s.p])) (ud k s.p) s.p):=kL;have h4:=YJ ox (p:=s.p) (n:=k) ω;have h5:=sA o3 (G7 ox (n:=k) (p:=s.p)) (p:=s.p);unfold gQ;rw[aEY];generalize dC (dC (Qb s.p k 0 (DK 117 [ae x,I s.p])) (ud k s.p) s.p) (vV x k s.p) s.p=w1 at*
 generalize dC (Qb s.p k 0 (DK 117 [ae x,I s.p])) (ud k s.p) s.p=w2 at*
 generalize Qb s.p k 0 (DK 117 [ae x,I s.p])=w3 at*
 generalize DK 117 [ae x,I s.p]=w4 at*
 generalize ud k s.p=w5 at*
 generalize vV x k s.p=w6 at*
 generalize hLL:aB (am R (aA true) jo)=L at hL;have hX:∀s h,am R (aA true) (.loop [1,2,3,5,6,12,13] [3,5,6,1000] jo) s h=L [1,2,3,5,6,12,13] [3,5,6,1000] s h:=fun s h=>by rw[←hLL];rfl
 clear hLL;simp only[ae,ah,mO]at h1 h2 h3 h4 h5 hL;simp only[yU,Gk,ae,ah,mO,go_sem,aEP,aEO,aEN,aX,h1,hX];generalize hBB:ao 0 [1,2,3,5,6] (L _ _ _ _)=X;obtain⟨hh,hE,k3,k5,k6,k0,kd⟩:=hL _ _ _ hBB Z Z Z Z Z Z Z Z Z Z Z;rw[hE];simp only[go_sem,aEP,aEO,aEN,aX,k3,k5,k6,k0,kd,ne_eq,not_false_eq_true,h2,h3,h4,h5];exact jY rfl (by simp only[go_sem,k0]) Z Z (by simp only[go_sem])
def Qc{s:Rs}{a:Rm}(os:OkS s)(oa:OkM a):R 112 [ej s,bB a] []=some (B (!(cQ s a).all&&decide (HT (cQ s a)=1)),[]):=by
 refine au Mp ?_;have h1:=CH os oa;have okb:=sD (s:=s) (a:=a);have kB:=fun h=>Lt (x:=cQ s a) okb h;have hx:=ab3 os oa;cases hB:(cQ s a).all with
 |true=>
  simp only[ae,ah,hB]at h1;simp only[qu,go_sem,aEP,aEO,aEN,aX,h1,aMD,aE0]
 |false=>
  have h2:=kB (ahF hx hB);simp only[ae,ah,hB]at h1 h2;simp only[qu,go_sem,aEP,aEO,aEN,aX,h1,h2,aFY,aEW]
def ahY{s:Rs}{a:Rm}{f:FuncId}{g:Ri->Int->Ri}(hm:(aA false).m f=[])(hk:(aA false).keep f=true)(hn:∀x (k:Int),bC ((aA false).sh f) ([ae x,I k]++[ac 1000])=[ae x,I k]++[ac 1000])
  (hR:∀x,OkI x->∀k:Nat,k<=17->R f [ae x,I k,ac 1000] [.bx (mO s)]=some (ae (g x k),[.bx (mO s)])):
  ∀x,x=m9 (rI s a)\/x=cQ s a->∀ (k:Nat),k<=17->∀ (h:aj) (e:Nat),h 1000=.bx (mO s)->h (2000+8*e)=.dead->bF R (aA false) h e [ae x,I k] (.fn f [] [ac 1000])=some (ae (g x k),h,[]):=by
 intro x hx k hk' h e h0 hd;have ox:OkI x:=by
  rcases hx with rfl|rfl
  ·exact⟨(EP sD).2,(EP sD).2⟩
  ·exact sD
 have hh:=NF (f:=f) (h:=h) (d:=e) (id:=1000) (zas:=[ae x,I k]) (as':=[ae x,I k]) hm hk (hn x k) Z Z h0 (rN s) (rN s) (fun h=>h) (hR x ox k hk') (YF _) (aFp rfl) (by
  show bV h (2000+8*e) 1=true;grind[bV,bS])
 grind[Kr]
structure MM (m:Rm):Prop where
 ok:OkM m
 l:O m.P.terms<=100000
 t:∀t∈m.P.terms,O t.exps<=100000/\O t.c.m<=100000
 q:O m.R.lo.m<=100000/\O m.R.hi.m<=100000
theorem oZ{s:Rs}:MM (cu s):=⟨RK,aE9 _,(fun _ h=>nomatch h),aE9 _,aE9 _⟩
def aLt(o:OkI x)(h:vi x=true):O x.lo.m<=100000/\O x.hi.m<=100000:=by
 unfold vi at h;split at h
 ·simp only[z0,aEV,decide_eq_true_eq]at h;omega
 ·simp only[aEV]at h;exact⟨aEX (vB h.1 o.1.lb) δ,aEX (vB h.2.1 o.2.lb) δ⟩
def VM.mm{s:Rs}{m:Rm}(h:VM s m):MM m:=by
 obtain⟨a1,a2,_,a4⟩:=oG h.ok h.v;obtain⟨c,_,_,n⟩:=gw a1 a2;refine⟨h.ok,by omega,fun t ht=>?_,aLt h.ok.r a4⟩;have k:=c.t t ht;exact⟨by have:=k.len;omega,aEX (vB k.vc k.c.lb) δ⟩
def Tot(f:FuncId)(s:Rs)(a:Rm):Prop:=∃m,R f [ej s,bB a] []=some (bB m,[])/\MM m/\((cQ s a).all=true->m=cu s)
def N6{s:Rs}{a m:Rm}{P:Prop}(hv:fg s=true->VM s m)(h:(cQ s a).all=true/\m=cu s\/(cQ s a).all=false/\fg s=true/\P):MM m/\((cQ s a).all=true->m=cu s):=by
 rcases h with⟨_,rfl⟩| ⟨hb,hs,_⟩
 ·grind[oZ]
 ·refine⟨(hv hs).mm,fun h=>?_⟩;grind
def LN{s:Rs}{a m:Rm}{f:FuncId}(g1:R 84 [ej s,bB a,.fn f [] [ac 1000]] [.bx (mO s)]=some (bB m,[.bx (mO s)]))(h:aj)(d:Nat)(hh:h 2=.bx (mO s))(hf:h (2000+8*d)=.dead):
  bF R (aA false) h d ([ej s,bB a]++[.fn f [] [ac 2]]) (.fn 84 [] [])=some (bB m,upd h 2 (.bx (mO s)),[(2,true)]):=
 B3 (f:=84) (g:=f) (h:=h) (d:=d) (id:=2) (zas:=[ej s,bB a]) (as':=[ej s,bB a]) (bw.1.2.1 false) (bw.1.2.2.2 false)
  (by simp only[go_sem,ge,aFb,aE5]) Z Z hh (rN _) (rN _) (fun h=>h) g1 (ao5 _) (aFp rfl) (by show bV h (2000+8*d) 1=true;grind[bV,bS])
def afw{s:Rs}{a:Rm}(os:OkS s)(oa:OkM a):Tot 26 s a:=by
 have hc:=ahY (s:=s) (a:=a) (f:=85) (g:=gE s.p) (HD false) (DU false) (fun x k=>by simp only[ae,ah,go_sem,aFb,aE5]) fun x ox k hk=>by
  have h:=arl (s:=s) ox (Im 87 [ae x,I s.p]) (k:=k) ω (N5 (ale ox));grind[gE,aEY]
 obtain⟨m,g1,g2,g3⟩:=T1 os oa (rN s) (g:=gE s.p) (fun x k=>kL) (fun k=>Io (Im _ _) CI) hc;obtain⟨q1,q2⟩:=N6 g2 g3;refine⟨m,au UE ?_,q1,q2⟩;have hcc:=LN g1;simp only[aFb,aE5,go_sem]at hcc;simp only[C7,go_sem,aEP,aEO,aEN,aX];rw[hcc _ _ Z Z];simp only[go_sem,aEP,aEO,aEN,aX]
def afx{s:Rs}{a:Rm}(os:OkS s)(oa:OkM a):Tot 43 s a:=by
 have hp:=Qc os oa;have hw:=zK os;cases hb:(!(cQ s a).all&&decide (HT (cQ s a)=1))with
 |false=>
  rw[hb]at hp;refine⟨cu s,au JW ?_,oZ,fun _=>rfl⟩;simp only[yj,go_sem,aEP,aEO,aEN,aX,hp,hw,ge]
 |true=>
 rw[hb]at hp;have hc:=ahY (s:=s) (a:=a) (f:=113) (g:=gL s.p) (HF false) (DV false) (fun x k=>by simp only[ae,ah,go_sem,aFb,aE5]) fun x ox k hk=>ary ox ω;have hg:∀x k,OkI (gL s.p x k):=fun x k=>by
  unfold gL;split
  ·grind[Im]
  ·split
   ·exact EH kL
   ·exact kL
 have hgi:∀k:Nat,∃q,In q (gL s.p (cQ s a) ((k+1:Nat):Int)):=fun k=>by
  have i1:kR 1:=⟨by omega,by omega⟩;unfold gL;rw[av ω];split
  ·exact alf (Io (gM i1) iU)
  ·exact Io (gM i1) iU
 obtain⟨m,g1,g2,g3⟩:=T1 os oa (rN s) (g:=gL s.p) hg hgi hc;obtain⟨q1,q2⟩:=N6 g2 g3;refine⟨m,au JW ?_,q1,q2⟩;have hcc:=LN g1;simp only[aFb,aE5,go_sem]at hcc;simp only[yj,go_sem,aEP,aEO,aEN,aX,hp];rw[hcc _ _ Z Z];simp only[go_sem,aEP,aEO,aEN,aX]
def acd{s:Rs}{a:Rm}(os:OkS s)(oa:OkM a):Tot 46 s a:=by
 have hp:=Qc os oa;have hw:=zK os;cases hb:(!(cQ s a).all&&decide (HT (cQ s a)=1))with
 |false=>
  rw[hb]at hp;refine⟨cu s,au IN ?_,oZ,fun _=>rfl⟩;simp only[wm,go_sem,aEP,aEO,aEN,aX,hp,hw,ge]
 |true=>
 rw[hb]at hp;have hc:=ahY (s:=s) (a:=a) (f:=116) (g:=gQ s.p) (Gr false) (Dw false) (fun x k=>by simp only[ae,ah,go_sem,aFb,aE5]) fun x ox k hk=>aoi ox ω;obtain⟨m,g1,g2,g3⟩:=T1 os oa (rN s) (g:=gQ s.p) (fun x k=>kL) (fun k=>Io kL (G7 sD)) hc;obtain⟨q1,q2⟩:=N6 g2 g3;refine⟨m,au IN ?_,q1,q2⟩;have hcc:=LN g1;simp only[aFb,aE5,go_sem]at hcc;simp only[wm,go_sem,aEP,aEO,aEN,aX,hp];rw[hcc _ _ Z Z];simp only[go_sem,aEP,aEO,aEN,aX]
def afy{s:Rs}{a:Rm}(os:OkS s)(oa:OkM a):Tot 30 s a:=by
 have h1:=CH os oa;have okb:=sD (s:=s) (a:=a);have h3:=zK os;have kB:=fun h=>Lt (x:=cQ s a) okb h;have hx:=ab3 os oa;cases hB:(cQ s a).all with
 |true=>
  refine⟨cu s,au zu ?_,oZ,fun _=>rfl⟩;simp only[ae,ah,hB]at h1;simp only[mU,go_sem,aEP,aEO,aEN,aX,h1,h3,ge]
 |false=>
 have h2:=kB (ahF hx hB);by_cases hg:HT (cQ s a)=0
 ·refine⟨cu s,au zu ?_,oZ,fun _=>rfl⟩;rw[hg]at h2;simp only[ae,ah,hB]at h1 h2;simp only[mU,go_sem,aEP,aEO,aEN,aX,h1,h2,h3,ge]
 have i1:kR 1:=⟨by omega,by omega⟩;have hc:=ahY (s:=s) (a:=a) (f:=97) (g:=gJ s.p) (Dv false) (Ax false) (fun x k=>by simp only[ae,ah,go_sem,aFb,aE5]) fun x ox k hk=>arm ox ω;obtain⟨m,g1,g2,g3⟩:=T1 os oa (rN s) (g:=gJ s.p) (awh s.p) (fun k=>by
  unfold gJ;split
  ·exact alf (Io (gM i1) (G7 okb))
  simp_all[Io,gM,G7]) hc
 obtain⟨q1,q2⟩:=N6 g2 g3;refine⟨m,au zu ?_,q1,fun h=>by grind⟩;have hcc:=LN g1;simp only[aFb,aE5,go_sem]at hcc;have f2:=eq_false hg;simp only[ae,ah,hB]at h1 h2;simp only[mU,go_sem,aEP,aEO,aEN,aX,h1,h2,f2];rw[hcc _ _ Z Z];simp only[go_sem,aEP,aEO,aEN,aX]
def Ua{s:Rs}{a:Rm}(os:OkS s)(oa:OkM a)(hs:0<=sh/\sh<=1):∃m,R 115 [ej s,bB a,I sh] []=some (bB m,[])/\MM m/\((cQ s a).all=true->m=cu s):=by
 have hc:∀x,x=m9 (rI s a)\/x=cQ s a->∀ (k:Nat),k<=17->∀ (h:aj) (e:Nat),h 1000=.bx [I sh]->h 1001=.bx (mO s)->h (2000+8*e)=.dead->bF R (aA false) h e [ae x,I k] (.fn 174 [] [ac 1000,ac 1001])=some (ae (gTu sh s.p x k),h,[]):=by
  intro x hx k hk h e h0 h1 hd;have ox:OkI x:=by
   rcases hx with rfl|rfl
   ·exact⟨(EP sD).2,(EP sD).2⟩
   ·exact sD
  exact akX (f:=174) (h:=h) (d:=e) (i:=1000) (j:=1001) (zas:=[ae x,I k]) (as':=[ae x,I k]) (DW false) (Bg false) (by simp only[ae,ah,go_sem,aFb,aE5]) Z Z δ h0 h1 (RP sh) (rN s) (ahX ox ω hs) (YF _) (aFp rfl) (by
   show bV h (2000+8*e) 1=true;grind[bV,bS])
 obtain⟨m,g1,g2,g3⟩:=afb (.inr ⟨rfl,rfl⟩) os oa (RP sh) ⟨(rN s).cl,(rN s).ids⟩ (g:=gTu sh s.p) (fun x k=>kL) (fun k=>Io (by
  grind[yT,Im,EH]) CI) hc
 obtain⟨q1,q2⟩:=N6 g2 g3;refine⟨m,au Pw ?_,q1,q2⟩;have hcc:=fun(h:aj) (d:Nat) (hi:h 5=.bx [I sh]) (hj:h 3=.bx (mO s)) (hf:h (2000+8*d)=.dead)=>anW (f:=84) (g:=174) (h:=h) (d:=d) (i:=5) (j:=3) (zas:=[ej s,bB a]) (as':=[ej s,bB a]) (bw.1.2.1 false) (bw.1.2.2.2 false)
  (by simp only[go_sem,ge,aFb,aE5]) Z Z δ hi hj (RP sh) (rN _) g1 (ao5 _) (aFp rfl) (by show bV h (2000+8*d) 1=true;grind[bV,bS])
 simp only[aFb,aE5,go_sem]at hcc;simp only[yS,go_sem,aEP,aEO,aEN,aX];rw[hcc _ _ Z Z Z];simp only[go_sem,aEP,aEO,aEN,aX]
def afz{s:Rs}{a:Rm}(os:OkS s)(oa:OkM a):Tot 44 s a:=by
 obtain⟨m,g1,q1,q2⟩:=Ua os oa (sh:=0) ω;refine⟨m,au UG ?_,q1,q2⟩;simp only[C8,go_sem,aEP,aEO,aEN,aX,g1]
def afA{s:Rs}{a:Rm}(os:OkS s)(oa:OkM a):Tot 45 s a:=by
 obtain⟨m,g1,q1,q2⟩:=Ua os oa (sh:=1) ω;refine⟨m,au UH ?_,q1,q2⟩;simp only[C9,go_sem,aEP,aEO,aEN,aX,g1]
abbrev ace:=List (Nat×List AV×AV)
def acf:ace->FuncId->List AV->Option AV
 |[],_,_=>none
 |x::l,f,args=>if x.1=f then(if DQ x.2.1 args=true then some x.2.2 else acf l f args)else acf l f args
def afB(a:Option AV)(hs:List Ob)(b:Option (AV×List Ob)):Option (AV×List Ob):=match a,hs with
 |some r,[]=>some (r,[])
 |_,_=>b
abbrev Lk:=FuncId->List AV->Option AV
def V4(e:Env)(T:Lk):Nat->j8
 |0=>fun _ _ _=>none
 |n+1=>fun f args hs=>afB (T f args) hs (match e.E f with
  |some g=>g args hs
  |none=>(e.C f).bind fun fd=>MD (V4 e T n) {e.md with nm:=e.md.keep f} n fd args hs)
def aAr(e:Env)(T:Lk):Prop:=∀f args r,T f args=some r->iL e f args []=some (r,[])
def V5{e:Env}:∀ {T:ace} {f:FuncId} {args:List AV} {r:AV},(∀x∈T,iL e x.1 x.2.1 []=some (x.2.2,[]))->acf T f args=some r->iL e f args []=some (r,[])
 |[],f,args,r,_,h=>by cases h
 |x::l,f,args,r,ht,h=>by
  unfold acf at h;split at h
  ·rename_i h1;split at h
   ·rename_i h2;cases h;have:=ht x σ;rw[h1,CY h2]at this;exact this
   ·exact V5 (fun y hy=>ht y (by simp[hy])) h
  ·exact V5 (fun y hy=>ht y (by simp[hy])) h
theorem xJ{call:j8}{md:Mode}{lf:Nat}:∀ (c:Cmd) {s:aM} {h:aj} {r:Ex×St},df call md lf c s h=some r->am call md c s h=some r
 | .skip,s,h,r,hz=>hz
 | .ops ks l,s,h,r,hz=>hz
 | .dops ks l ps,s,h,r,hz=>hz
 | .seq a b,s,h,r,hz=>by
  simp only[df,dx]at hz;split at hz
  ·cases hz
  ·rename_i t1 ht1;simp only[am,dx,xJ a ht1,xJ b hz]
  ·rename_i i t1 ht1;simp only[am,dx,xJ a ht1];exact hz
  ·rename_i t1 ht1;simp only[am,dx,xJ a ht1];exact hz
 | .cond c a b,s,h,r,hz=>by
  simp only[df,wh]at hz;split at hz
  ·rename_i t ht;cases t with
   |true=>simp only[am,wh,ht,if_true];exact xJ a hz
   |false=>simp only[am,wh,ht,aFv,if_false];exact xJ b hz
  ·cases hz
 | .block id ks a,s,h,r,hz=>by
  simp only[df,ao]at hz;split at hz
  ·cases hz
  ·rename_i t1 ht1;simp only[am,ao,xJ a ht1];exact hz
  ·rename_i i t1 ht1;simp only[am,ao,xJ a ht1];exact hz
  ·rename_i t1 ht1;simp only[am,ao,xJ a ht1];exact hz
 | .loop ks hs a,s,h,r,hz=>by
  simp only[df]at hz;simp only[am,aB];rw[tL];exact⟨lf,fun k hk=>NP (fun hh=>xJ a hh) lf hk hz⟩
 | .exit id,s,h,r,hz=>hz
 | .ret,s,h,r,hz=>hz
 | .frz is a,s,h,r,hz=>by
  simp only[df,bG]at hz;split at hz
  ·cases hz
  ·rename_i t1 ht1;simp only[am,bG,ht1];exact xJ a hz
theorem afC{e:Env}{T:Lk}(ht:aAr e T):∀n,Mj (V4 e T n) (iL e)
 |0=>fun f a hs r hz=>by cases hz
 |n+1=>fun f a hs r hz=>by
  have old:(match e.E f with|some g=>g a hs|none=>(e.C f).bind fun fd=>MD (V4 e T n) {e.md with nm:=e.md.keep f} n fd a hs)=some r->iL e f a hs=some r:=by
   intro hz;split at hz
   ·rename_i g hE;rw[BC hE];exact hz
   ·rename_i hE;simp only[aEQ]at hz;obtain⟨fd,hC,hz⟩:=hz;refine M2 hE hC ?_;unfold MD at hz;unfold ZF;split at hz
    ·rename_i hcc;rw[ap hcc];cases hx:df (V4 e T n) {e.md with nm:=e.md.keep f} n fd.body (iW a) (az hs)with
     |none=>rw[hx]at hz;cases hz
     |some q=>
      rw[hx]at hz;rw[xJ fd.body (mN (afC ht n) (aET n) fd.body hx)];exact hz
    ·cases hz
  unfold V4 at hz;unfold afB at hz;split at hz
  ·rename_i r' hl;cases hz;exact ht _ _ _ hl
  ·exact old hz
def aoj{e:Env}:∀x∈ ([]:ace),iL e x.1 x.2.1 []=some (x.2.2,[]):=fun _ h=>by cases h
def aAs{e:Env}(T:ace)(n:Nat)(x:Nat×List AV×AV)(ht:∀x∈T,iL e x.1 x.2.1 []=some (x.2.2,[]))(h:V4 e (acf T) n x.1 x.2.1 []=some (x.2.2,[])):iL e x.1 x.2.1 []=some (x.2.2,[]):=afC (fun _ _ _ h=>V5 ht h) n _ _ _ _ h
def s2:Rs:=⟨[yE,yE],2,53⟩
theorem aAv:KK=(2^ (16384+0):Nat):=by
 have h:=Vw (a:=one) (b:=one) (by rw[abZ]);rw[abZ]at h;have h1:zI one=(2^ (16384+0):Nat):=RG (n:=false) (k:=0);grind[Int.eq_of_mul_eq_mul_left]
def N7(B:Nat)(z:Int):Prop:=∃n,z=n*KK/\n.natAbs<=B
theorem N7.up{B C}{z}(h:N7 B z)(hc:B<=C):N7 C z:=h.imp fun _ h=>⟨h.1,aEX h.2 hc⟩
def Wt:List Rt->Nat->Prop
 |[],_=>True
 |t::l,B=>∃n C,N7 n (zI t.c)/\Wt l C/\n+C<=B
theorem Wt.up:∀ {l} {B C},Wt l B->B<=C->Wt l C
 |[],_,_,_,_=>trivial
 |_::_,_,_,⟨n,D,h1,h2,h3⟩,h=>⟨n,D,h1,h2,by omega⟩
def Wt.mem:∀ {l} {B},Wt l B->∀t∈l,N7 B (zI t.c)
 |t::l,B,⟨n,D,h1,h2,h3⟩,y,hy=>by
  rcases List.mem_cons.1 hy with rfl|hy
  ·exact h1.up ω
  ·exact(h2.mem y hy).up ω
def Wt.app:∀ {l r} {B C},Wt l B->Wt r C->Wt (l++r) (B+C)
 |[],r,B,C,_,h=>h.up ω
 |t::l,r,B,C,⟨n,D,h1,h2,h3⟩,h=>⟨n,D+C,h1,h2.app h,by omega⟩
def Wt.of{B}:∀ {l},(∀t∈l,N7 B (zI t.c))->Wt l (B*O l)
 |[],_=>trivial
 |t::l,h=>⟨B,B*O l,h t σ,Wt.of fun x hx=>h x γ,by grind[aFk,Nat.mul_succ]⟩
structure Ex1 (s:Rs) (a:Rp):Prop where
 o:OkP a
 p:vp a=true
 v:a.vars=O s.dom
 d:nH a<=s.ord
 n:O a.terms<=10
 c:∀t∈a.terms,N7 16000 (zI t.c)
theorem Ex1.t{s}{a}(h:Ex1 s a):∀t∈a.terms,VT (O s.dom) t:=by
 have:=(gw h.o h.p).1.t;rw[h.v]at this;omega
def Sm(c:Int):Prop:=-128<=c/\c<=128
theorem Sm.i{c}(h:Sm c):kR c:=by
 obtain⟨h1,h2⟩:=h;exact⟨by omega,by omega⟩
def awr{c}(h:c≠0):(gZ c).m.length≠0:=by
 have hn:c.natAbs≠0:=ω
 unfold gZ;rw[l7 hn];intro h0;have h1:=sj.1 (List.length_eq_zero_iff.1 h0);have h2:=(tV (neg:=false) (e:=0) hn).2.2.1;omega
def N7.ldd{B k}{z}(h:N7 B z)(hb:B<=2^k):z.natAbs<=2^ (16384+k):=by
 obtain⟨n,rfl,h2⟩:=h;have e:∀a,2^ (a+k)=2^k*2^ (a+0):=fun a=>by rw[aFA,aE2,aFd]
 rw[Int.natAbs_mul,e,aAv];rw[Int.natAbs_natCast];exact Nat.mul_le_mul (aEX h2 hb) (aET _)
theorem N7.Ld{B m}{d}(h:N7 B (zI d))(hb:B<=2^m):Go.Ab.Ld m d:=h.ldd hb
structure Sq (s:Rs):Prop where
 os:OkS s
 sp:fg s=true
 p:s.p=64
 h8:O s.dom<=8
 o:s.ord<=16
def Sq.pr{s}(h:Sq s):bv s.p=true:=by rw[h.p];rfl
structure Xp (s:Rs) (e:List Int):Prop where
 l:O e=O s.dom
 b:∀x∈e,0<=x
 d:cp e<=s.ord
theorem Xp.vt{s}(hs:Sq s){e}(h:Xp s e){c}(hc:Sm c)(h0:c≠0):VT (O s.dom) ⟨e,gZ c⟩:=by
 have h8:=hs.h8;have ho:=hs.o;have hd:=h.d;refine⟨(jh hc.i).2,by rw[h.l],by omega,(jh hc.i).1,awr h0,fun x hx=>?_,Int.le_trans hd ω⟩;have:=(Kf (l:=e) h.b).2 x hx;exact⟨h.b x hx,by omega⟩
structure Ps (s:Rs) (L:List Rt) (N:Nat):Prop where
 c:Cl (O s.dom) L
 w:Wt L (128*N)
 n:O L<=N
 d:∀t∈L,cp t.exps<=s.ord
theorem Ps.up{s}{L}{N M}(h:Ps s L N)(hM:N<=M):Ps s L M:=⟨h.c,h.w.up (aFV 128 hM),aEX h.n hM,h.d⟩
structure To where
 k:Int
 a:Int
 b:Int
 n:Int
 cn:Int
 cd:Int
def aon{s}{a b}(oa:OkM a)(ob:OkM b)(h:xI s [a,b]=true):fg s=true/\VM s a/\VM s b:=by
 obtain⟨h1,h2⟩:=DF h;exact⟨h1,⟨oa,h2 a σ⟩,⟨ob,h2 b σ⟩⟩
def awt{s}{a b}(os:OkS s)(oa:OkM a)(ob:OkM b):MM (NU s a b):=by
 cases h:xI s [a,b]with
 |true=>
  obtain⟨hs,va,vb⟩:=aon oa ob h;exact(ahK os hs va vb).mm
 |false=>
  simp_all[NU,av,aE3,oZ]
def at9{s}{a b}(os:OkS s)(oa:OkM a)(ob:OkM b):MM (Ic s a b):=by
 cases h:xI s [a,b]with
 |true=>
  obtain⟨hs,va,vb⟩:=aon oa ob h;exact(akV os hs va vb).mm
 |false=>
  simp_all[Ic,av,aE3,oZ]
def ali{s}{a b}(os:OkS s)(oa:OkM a)(ob:OkM b):MM (zJ s a b):=by
 cases h:xI s [a,b]with
 |true=>
  obtain⟨hs,va,vb⟩:=aon oa ob h;exact(NX os hs va vb).mm
 |false=>
  simp_all[zJ,av,aE3,oZ]
def aIW{d n}(h:O d.m<=n):(gW d).m.length<=n:=by
 unfold gW;split
 ·exact aE9 _
 ·exact h
def aua{s}{a}(os:OkS s)(oa:OkM a):MM (RI s a):=by
 cases h:xI s [a]with
 |true=>
  obtain⟨hs,h2⟩:=DF h;have va:=h2 a σ;have vp':vp a.P=true:=by
   simp_all[AC,aEV]
  have oP:=abO oa.c vp';unfold RI;rw[h,ap rfl,adj oP vp',ap rfl];have vm:=(VM.mm ⟨oa,va⟩);refine⟨⟨fun t ht=>?_,EH oa.r,?_⟩,?_,fun t ht=>?_,?_⟩
  ·obtain⟨u,hu,rfl⟩:=List.mem_map.1 ht;exact⟨(oa.c u hu).lb,(oa.c u hu).len⟩
  ·rw[aFh];exact oa.n
  ·rw[aFh];exact vm.l
  ·obtain⟨u,hu,rfl⟩:=List.mem_map.1 ht;exact vm.t u hu
  ·show(rW a.R).lo.m.length<=_/\(rW a.R).hi.m.length<=_;unfold rW;split
   ·exact⟨aIW vm.q.2,aIW vm.q.1⟩
   ·exact⟨aE9 _,aE9 _⟩
 |false=>
  simp_all[RI,av,aE3,oZ]
def awu{s}{a}{n}(os:OkS s)(oa:OkM a):MM (pwM s a n):=by
 unfold pwM;split
 ·rename_i h;simp only[aEV]at h;have hs:fg s=true:=by
   grind[AC]
  exact(afc os hs ⟨oa,h.2.2.1⟩ _ (FM os hs (gM ⟨by omega,by omega⟩))).mm
 ·exact oZ
def arE{s}{a b}(os:OkS s)(oa:OkM a)(ob:OkM b):∃m,MM m/\R 14 [ej s,bB a,bB b] []=some (bB m,[]):=by
 obtain⟨i,hi,oi,_⟩:=afy os ob;refine⟨_,?_,Xl os oa oi.ok hi⟩;split
 ·exact oZ
 ·exact ali os oa oi.ok
abbrev ApD(s:Rs)(k n:Int)(a b m:Rm):Prop:=k=3/\R 10 [ej s,bB a,bB b] []=some (bB m,[])\/k=4/\R 11 [ej s,bB a,bB b] []=some (bB m,[])\/k=5/\R 12 [ej s,bB a,bB b] []=some (bB m,[])\/k=6/\R 14 [ej s,bB a,bB b] []=some (bB m,[])\/k=7/\R 13 [ej s,bB a] []=some (bB m,[])\/k=8/\R 42 [ej s,bB a,I n] []=some (bB m,[])\/k=9/\R 26 [ej s,bB a] []=some (bB m,[])\/k=10/\R 43 [ej s,bB a] []=some (bB m,[])\/k=11/\R 44 [ej s,bB a] []=some (bB m,[])\/k=12/\R 45 [ej s,bB a] []=some (bB m,[])\/k=13/\R 46 [ej s,bB a] []=some (bB m,[])
def rY{s}{k n}{a b m}(h:ApD s k n a b m):R 8 [ej s,I k,I n,bB a,bB b] []=some (bB m,[]):=by
 refine au HC ?_;rcases h with⟨rfl,h⟩| ⟨rfl,h⟩| ⟨rfl,h⟩| ⟨rfl,h⟩| ⟨rfl,h⟩| ⟨rfl,h⟩| ⟨rfl,h⟩| ⟨rfl,h⟩| ⟨rfl,h⟩| ⟨rfl,h⟩| ⟨rfl,h⟩<;>simp only[uq,go_sem,aEP,aEO,aEN,aX,h,ge]
def aud{s}{k n}{a b}(os:OkS s)(c3:¬k=3)(c4:¬k=4)(c5:¬k=5)(c6:¬k=6)(c7:¬k=7)(c8:¬k=8)(c9:¬k=9)(c10:¬k=10)(c11:¬k=11)(c12:¬k=12)(c13:¬k=13):R 8 [ej s,I k,I n,bB a,bB b] []=some (bB (cu s),[]):=by
 refine au HC ?_;have h:=zK os;simp only[uq,go_sem,ff c3,ff c4,ff c5,ff c6,ff c7,ff c8,ff c9,ff c10,ff c11,ff c12,ff c13,h]
def aLL{s}{k n}{a b}(os:OkS s)(oa:OkM a)(ob:OkM b):(∃m,MM m/\ApD s k n a b m)\/¬k=3/\¬k=4/\¬k=5/\¬k=6/\¬k=7/\¬k=8/\¬k=9/\¬k=10/\¬k=11/\¬k=12/\¬k=13:=by
 by_cases c3:k=3
 ·exact .inl ⟨_,awt os oa ob,.inl ⟨c3,VX os oa ob⟩⟩
 by_cases c4:k=4
 ·exact .inl ⟨_,at9 os oa ob,.inr (.inl ⟨c4,Pa os oa ob⟩)⟩
 by_cases c5:k=5
 ·exact .inl ⟨_,ali os oa ob,.inr (.inr (.inl ⟨c5,G6 os oa ob⟩))⟩
 by_cases c6:k=6
 ·obtain⟨m,om,h⟩:=arE os oa ob;exact .inl ⟨m,om,.inr (.inr (.inr (.inl ⟨c6,h⟩)))⟩
 by_cases c7:k=7
 ·exact .inl ⟨_,aua os oa,.inr (.inr (.inr (.inr (.inl ⟨c7,ae4 os oa⟩))))⟩
 by_cases c8:k=8
 ·exact .inl ⟨_,awu os oa,.inr (.inr (.inr (.inr (.inr (.inl ⟨c8,Xk os oa⟩)))))⟩
 by_cases c9:k=9
 ·obtain⟨m,h,om,_⟩:=afw os oa;exact .inl ⟨m,om,.inr (.inr (.inr (.inr (.inr (.inr (.inl ⟨c9,h⟩))))))⟩
 by_cases c10:k=10
 ·obtain⟨m,h,om,_⟩:=afx os oa;exact .inl ⟨m,om,.inr (.inr (.inr (.inr (.inr (.inr (.inr (.inl ⟨c10,h⟩)))))))⟩
 by_cases c11:k=11
 ·obtain⟨m,h,om,_⟩:=afz os oa;exact .inl ⟨m,om,.inr (.inr (.inr (.inr (.inr (.inr (.inr (.inr (.inl ⟨c11,h⟩))))))))⟩
 by_cases c12:k=12
 ·obtain⟨m,h,om,_⟩:=afA os oa;exact .inl ⟨m,om,.inr (.inr (.inr (.inr (.inr (.inr (.inr (.inr (.inr (.inl ⟨c12,h⟩)))))))))⟩
 by_cases c13:k=13
 ·obtain⟨m,h,om,_⟩:=acd os oa;exact .inl ⟨m,om,.inr (.inr (.inr (.inr (.inr (.inr (.inr (.inr (.inr (.inr ⟨c13,h⟩)))))))))⟩
 exact .inr ⟨c3,c4,c5,c6,c7,c8,c9,c10,c11,c12,c13⟩
def fcN(n:Nat)(k:Nat->β):β:=match n with
 |0=>k 0
 |n+1=>k (n+1)
theorem aJX{n:Nat}{k:Nat->β}:fcN n k=k n:=by cases n<;>rfl
def fcL{β:Type}:List Nat->(List Nat->β)->β
 |[],k=>k []
 |x::l,k=>fcN x fun x=>fcL l fun l=>k (x::l)
theorem aJY{β:Type}:∀ {l:List Nat} {k:List Nat->β},fcL l k=k l
 |[],_=>rfl
 |x::l,k=>by
  unfold fcL;rw[aJX,aJY]
def fcD(d:Rd)(k:Rd->β):β:=match d with
 | ⟨false,m,.ofNat e⟩=>fcN e fun e=>fcL m fun m=>k ⟨false,m,.ofNat e⟩
 | ⟨true,m,.ofNat e⟩=>fcN e fun e=>fcL m fun m=>k ⟨true,m,.ofNat e⟩
 | ⟨false,m,.negSucc e⟩=>fcN e fun e=>fcL m fun m=>k ⟨false,m,.negSucc e⟩
 | ⟨true,m,.negSucc e⟩=>fcN e fun e=>fcL m fun m=>k ⟨true,m,.negSucc e⟩
theorem aLv{d:Rd}{k:Rd->β}:fcD d k=k d:=by
 obtain⟨n,m,e⟩:=d;cases n<;>cases e<;>simp[fcD,aJX,aJY]
def fcI(x:Ri)(k:Ri->β):β:=match x with
 | ⟨a,b,false⟩=>fcD a fun a=>fcD b fun b=>k ⟨a,b,false⟩
 | ⟨a,b,true⟩=>fcD a fun a=>fcD b fun b=>k ⟨a,b,true⟩
theorem aLw{k:Ri->β}:fcI x k=k x:=by
 obtain⟨a,b,c⟩:=x;cases c<;>simp[fcI,aLv]
def exT(y:Ri)(p:Int):Nat->Nat->Ri->Ri->Option Ri
 |0,_,_,_=>none
 |f+1,n,t,s=>fcI (dC (aKn t y p) (cY n) p) fun t1=>fcI (aJk s t1 p) fun s1=>if kI t1=true then(if smB t1 p=true then some (aJk s1 (ab4 t1) p)else exT y p f (n+1) t1 s1)else none
theorem aJZ{y:Ri}{p:Int}:∀ (f n:Nat) (t s:Ri),exT y p f n t s=(exL y p f n t s).map fun r=>de r.2 (ab4 r.1) p
 |0,_,_,_=>rfl
 |f+1,n,t,s=>by
  unfold exT exL;simp only[aLw,←aIR,←aHL];split
  ·split
   ·rfl
   ·rw[aJZ f]
  ·rfl
def exW(p:Int)(y:Ri):Option Ri:=exT y p 900 1 (cY 1) (cY 1)
def aJ0:ahT exW:=fun p y z hp oy h=>by
 unfold exW at h;rw[aJZ,aEU]at h;obtain⟨r,h1,rfl⟩:=h;exact⟨aK0 oy hp (aET _) h1,kW⟩
theorem aLx:Qa x p=if(!(nG x).all&&bv p)=true then kD (aHJ (nG x).lo (nG x).lo p false) (aHJ (nG x).hi (nG x).hi p true)else bt:=by
 unfold Qa;rw[aHK,aHK]
def aLy:Ri:=m9 ⟨false,[1],-1⟩
def aLz:Ri:=m9 ⟨true,[1],-1⟩
def qP4:Ri:=m9 ⟨false,[1],-2⟩
def qM4:Ri:=m9 ⟨true,[1],-2⟩
def pA0:Ri:=⟨⟨false,[3492859111,2439759751,2],-65⟩,⟨false,[3893913211,1219879875,1],-64⟩,false⟩
def pB0:Ri:=⟨⟨false,[2420202757,494793685,3],-66⟩,⟨false,[1678792517,3344923893],-64⟩,false⟩
def pA1:Ri:=⟨⟨false,[3235084575,1277505987,3],-65⟩,⟨false,[3765025955,2786236641,1],-64⟩,false⟩
def pA2:Ri:=⟨⟨false,[2330798673,3084996962,2],-64⟩,⟨false,[1165399369,1542498481,1],-63⟩,false⟩
def pA3:Ri:=⟨⟨false,[4230622289,86],-37⟩,⟨false,[4166277283,173],-38⟩,false⟩
def pB1:Ri:=⟨⟨false,[4183859169,915091398,1],-65⟩,⟨false,[4072751067,1830182797,2],-66⟩,false⟩
def pB2:Ri:=⟨⟨false,[2649159861,4050306757,2],-67⟩,⟨false,[2649159923,4050306757,2],-67⟩,false⟩
def pB3:Ri:=⟨⟨false,[1521594727,188],-41⟩,⟨false,[2337682989,23],-38⟩,false⟩
def xA:oA (m9 one) 66=m9 one/\oA (m9 rX) 66=m9 rX:=by
 rw[aGG,aGG];exact⟨by kernel_rfl,by kernel_rfl⟩
def xB:hfI (m9 one)=aLy/\hfI (m9 rX)=aLz:=⟨by kernel_rfl,by kernel_rfl⟩
def xC:hfI aLy=qP4/\hfI aLz=qM4:=⟨by kernel_rfl,by kernel_rfl⟩
def xD:exW 66 qP4=some pA0/\exW 66 qM4=some pB0:=⟨by kernel_rfl,by kernel_rfl⟩
def xE:Qa pA0 66=pA1/\Qa pA1 66=pA2/\Qa pB0 66=pB1/\Qa pB1 66=pB2:=by
 simp only[aLx];exact⟨by kernel_rfl,by kernel_rfl,by kernel_rfl,by kernel_rfl⟩
def xF:oA pA2 40=pA3/\oA pB2 40=pB3:=by
 rw[aGG,aGG];exact⟨by kernel_rfl,by kernel_rfl⟩
def xG:pwR exW one 40=some pA3/\pwR exW rX 40=some pB3:=by
 have n1:Ml one=2/\Ml rX=2:=⟨by kernel_rfl,by kernel_rfl⟩;have p1:Ku one 40=66/\Ku rX 40=66:=⟨by kernel_rfl,by kernel_rfl⟩;have s1:¬kl one=0/\¬kl rX=0:=⟨by decide,by decide⟩;unfold pwR;rw[av s1.1,av s1.2,n1.1,n1.2,p1.1,p1.2,xA.1,xA.2];unfold hvR;rw[xB.1,xB.2];unfold hvR;rw[xC.1,xC.2];unfold hvR;rw[xD.1,xD.2];simp only[aFK,xE.1,xE.2.1,xE.2.2.1,xE.2.2.2,xF.1,xF.2,and_self]
def tpU:aQ one<=50/\aQ rX<=50:=by
 have h1:aQ one=1:=by kernel_rfl
 have h2:aQ rX=1:=by kernel_rfl
 rw[h1,h2];decide
def aK1(d:Rd):I9 (m9 d) (m9 d)=m9 d:=rfl
def pE:Ri:=⟨pB3.lo,pA3.hi,false⟩
def aJ1:R 87 [ae yE,I 40] []=some (ae pE,[]):=
 aob aJ0 VO.1 κ rfl κ κ tpU.2 tpU.1 xG.2 xG.1
def aJ2:R 87 [ae cM,I 40] []=some (ae (cY 1),[]):=by
 have h:pwR exW aC 40=some (cY 1):=ap rfl;have hm:N1 aC=true:=by kernel_rfl
 have ht:aQ aC<=50:=δ
 have hk:kI cM=true:=by kernel_rfl
 have e:I9 (cY 1) (cY 1)=cY 1:=aK1 (gZ 1);rw[←e];exact aob aJ0 ⟨aO.2,aO.2⟩ hk rfl hm hm ht ht h h
end Go.Ab
