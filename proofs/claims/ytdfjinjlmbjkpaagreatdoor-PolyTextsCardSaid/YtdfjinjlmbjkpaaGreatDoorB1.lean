/-
  A law of polynomials' texts holds at every input that the statement speaks of, under the conditions that its card names. Part B1.
-/
import Derived.Scope
import Derived.Test.YtdfjinjlmbjkpaaGreatDoorA1
open Nat renaming le_refl → QK, lt_of_lt_of_le → aea, mul_comm → aeh, pow_succ → ad7, zero_add → QN, zero_le → aei
open Bool renaming and_eq_true → QQ, false_eq_true → ad0, true_and → adY
open List renaming all_eq_true → ad1, append_nil → ad4, getElem?_eq_getElem → adW, getElem?_map → aeb, getElem?_of_mem → ad9, getElem_mem → aee, length_cons → adX, length_nil → adZ, map_congr_left → aef, mem_map → aec, mem_of_getElem? → QR, nil_append → aeg, replicate → QI
open Option renaming bind_eq_some_iff → QS, bind_some → QO, map_eq_some_iff → adV, map_some → ad5
set_option linter.all false
namespace Go.Ab
open Go
section
variable {P:Program} {w w':World} {X:Nat→Prop} {ρ ρ':bg} {h h':ac} {s:ah} {a:Act} {call:bQ} {md:Mode} {N:Nat} {ops:Array Oper} {Q:Exit→Act→World→Prop} {A A':Nat→Prop} {I:Inv}
theorem Ok.undef(ok:Ok I N w X ρ h s a){d}(hd:d.getD 0<N):Ok I N w X ρ h (kU s d .und) (a.put d undef):=
 ok.put (ks:=[]) ok.rel (.refl _ _ _) .und hd
theorem ab0{u}(hv:RV w A ρ h .und u):u=undef:=by
 cases hv with
 |und=>rfl
 |dat hd=>cases hd
theorem aaR{nm}{d}{r}{t}(hz:aN nm s d r=some t):∃z h' ks,r=some (z,h',ks)/\ju nm ks=true/\t=⟨kU (jn ks s) d z,h'⟩:=by
 unfold aN at hz;grind
theorem TB(hcall:Rq P I call md)(hN:N<=1000){i}{o}{co}{hint}(hget:ops[i]?=some o)(hc:xd P N ops hint o=some co)(ok:Ok I N w X ρ h s a){t}(hz:mN call md co s h=some t)
  {K'} (hK:∀a' w' ρ',Ok I N w' X ρ' t.h t.s a'->Far md.nm w ρ h w' ρ' t.h->K' a' w'):wpOp P ops Q i K' a w:=by
 simp only[xd,QS]at hc;obtain⟨g,e1,op,e2,hc⟩:=hc;split at hc
 ·rename_i hcond;cases hc;simp only[QQ,decide_eq_true_eq]at hcond;have hd:=hcond.2;have run:aN md.nm s o.dst (step call md (o.dst.getD 0) op s h)=some t->o.wp P a w K' Q:=by
   grind[aaR,ac5]
  have skip:some ⟨kU s o.dst .und,h⟩=some t->K' (a.put o.dst undef) w:=by
   intro hf;cases hf;exact hK _ _ ρ (ok.undef hd) (.refl _ _ _ _)
  unfold wpOp;rw[hget];cases hg:o.guard with
  |none=>
   rw[hg]at e1;simp only[xJ,Option.some.injEq]at e1;subst e1
   simp_all[mN,Region.wanted,if_true]
  |some jb=>
   rw[hg]at e1;simp only[xJ,adV]at e1;obtain⟨d,e3,rfl⟩:=e1;simp only[mN,eP]at hz;have hv:=ok.rs d;simp only[Region.wanted,yielded,QO, *];have cell:∀v,a.tmps.getD d Go.undef=v->v≠Go.undef->a.tmps[d]?=some v:=by
    intro v hv hne;rw[Array.getD_eq_getD_getElem?]at hv;grind
   split at hz
   ·rename_i b' hb';rw[hb']at hv;rw[cell _ hv.v_inv.1 (by simp[Go.undef])];grind
   ·rename_i hb';rw[hb']at hv;have hu:=ab0 hv;rw[Array.getD_eq_getD_getElem?]at hu;grind[Go.undef]
   grind
 grind
theorem VN(hcall:Rq P I call md)(hN:N<=1000):∀rest cl i {hs} {w} {ρ} {h} {s} {a} {t},(∀j o,rest[j]?=some o->ops[i+j]?=some o)->xK P N ops hs rest=some cl->Ok I N w X ρ h s a->
  ae call md cl s h=some t->(∀a' w' ρ',Ok I N w' X ρ' t.h t.s a'->Far md.nm w ρ h w' ρ' t.h->Q .normal a' w')->wpOps P ops Q (List.range' i rest.length) a w
 |[],cl,i,hs,w,ρ,h,s,a,t,_,hc,ok,hz,hQ=>by
  simp only[xK,Option.some.injEq]at hc;subst hc;cases hz;exact hQ _ _ ρ ok (.refl _ _ _ _)
 |o::rest,cl,i,hs,w,ρ,h,s,a,t,hg,hc,ok,hz,hQ=>by
  simp only[xK,QS]at hc;obtain⟨co,e1,q,e2,e3⟩:=hc;cases e3;simp only[ae,ak]at hz;split at hz
  ·grind
  ·rename_i t1 ht1;exact TB hcall hN (by simpa using hg 0 o rfl) e1 ok ht1 fun a' w' ρ' ok' far=>
    VN hcall hN rest q (i+1) (fun j o' hj=>by rw[show i+1+j=i+(j+1)from by omega];simp_all) e2 ok' hz fun a'' w'' ρ'' ok'' far'=>hQ _ _ ρ'' ok'' (far.trans far')
theorem Ul{α}(d)(f:Nat->α):∀l i,mk d f l i=if i∈l then f i else d
 |[],i=>by simp[mk]
 |j::l,i=>by
  simp only[mk,upd,Ul d f l i,List.mem_cons];by_cases e:i=j
  ·subst e;simp
  ·simp[e]
theorem RS.some(hs:RS w A ρ h s a.tmps){s'}(he:∀i,s' i=s i\/s' i=.any):RS w A ρ h s' a.tmps:=fun i=>by
 rcases he i with e|e
 ·rw[e];exact hs i
 ·rw[e];exact .anyv _
theorem Ok.some(ok:Ok I N w X ρ h s a){s'}(he:∀i,s' i=s i\/s' i=.any):Ok I N w X ρ h s' a:=⟨ok.rel,ok.rs.some he,ok.size,ok.defers,ok.inv⟩
theorem RV.knownL{l}{c}{u}(hv:RV w A ρ h c u)(hA:∀b,A b->A' b/\w'.heap[b]?=w.heap[b]?)(hk:∀id sub,eA h id sub->l.contains id=true->eA h' id sub/\ρ' id sub=ρ id sub)(hm:knownL l c=true):RV w' A' ρ' h' c u:=by
 cases hv with
 |anyv u=>exact .anyv u
 |und=>exact .und
 |dat hd=>exact .dat (hd.mono hA)
 |ref id sub k i j hp=>
  obtain⟨h1,h2⟩:=hk id sub hp hm;rw[←h2];exact .ref id sub k i j h1
 |rsl id sub k lo n cap a hp hn hb ha=>
  obtain⟨h1,h2⟩:=hk id sub hp hm;exact .rsl id sub k lo n cap a h1 hn (by grind) (by grind)
 |rsc id k lo n cap a hp hn hb ha=>grind[Ab.knownL]
 |ipt cs ad vals hA' hs hv hl hr=>
  exact .ipt cs ad vals (hA _ hA').1 hs (fun j c hc=>by rw[lD (w:=w) (w':=w') (by rw[mR];grind)];grind) hl (fun j c hc=>(hr j c hc).mono hA)
 |agg cs us hs h1 hr=>grind[Ab.knownL]
 |tup vs us hs hr=>grind[Ab.knownL]
 |fn f x y us ts hs ht hx hy=>
  simp[Ab.knownL]at hm;obtain⟨rfl,rfl⟩:=hm;exact .fn f [] [] us ts hs ht (fun i c u hc=>by grind) (fun i c u hc=>by grind)
theorem RV.knownA{l}{c}{u}(hv:RV w A ρ h c u)(hA:∀b,A b->A' b/\w'.heap[b]?=w.heap[b]?)(hk:∀id sub,eA h id sub->l.contains id=true->eA h' id sub/\ρ' id sub=ρ id sub)(hm:knownA l c=true):RV w' A' ρ' h' c u:=by
 cases c with
 |agg cs=>
  simp only[Ab.knownA,ad1]at hm;cases hv with
  |dat hd=>exact .dat (hd.mono hA)
  |agg _ us hs h1 hr=>exact .agg cs us hs h1 fun i c u hc hu=>(hr i c u hc hu).knownL hA hk (hm c (QR hc))
 |fn f x y=>
  simp only[Ab.knownA,QQ,ad1]at hm;cases hv with
  |dat hd=>exact .dat (hd.mono hA)
  |fn _ _ _ us ts hs ht hx hy=>exact .fn f x y us ts hs ht (fun i c u hc hu=>(hx i c u hc hu).knownL hA hk (hm.1 c (QR hc))) (fun i c u hc hu=>(hy i c u hc hu).knownL hA hk (hm.2 c (QR hc)))
 |_=>exact hv.knownL hA hk hm
theorem SH{l}{c}(hc:bD l c=true):knownL l c=true:=by
 cases c<;>simp[bD,knownL]at hc⊢ <;>first|exact hc.1|exact hc
theorem Wa{l}{c}(hc:cj l c=true):knownA l c=true:=by
 cases c with
 |agg cs=>
  grind[cj,knownA,ad1,SH]
 |fn f x y=>
  simp_all[cj,knownA,QQ,ad1,SH]
 |_=>
  simp only[cj,knownA]at hc⊢;exact SH hc
theorem Wv(nm)(r:Rel w X ρ h){hs}(hcl:∀id,id∈hs->bo hs (h id)=true):Rel w X ρ (mk .dead h hs)/\Far nm w ρ h w ρ (mk .dead h hs)/\
  ∀ {c} {u},RV w (l6 w X h ρ) ρ h c u->knownA hs c=true->RV w (l6 w X (mk .dead h hs) ρ) ρ (mk .dead h hs) c u:=by
 have at_:∀id,id∈hs->mk .dead h hs id=h id:=fun id hi=>by rw[Ul,if_pos hi]
 have not_:∀id,id∉hs->mk .dead h hs id=.dead:=fun id hi=>by rw[Ul,if_neg hi]
 have hl:∀id sub,live (mk .dead h hs) id sub->id∈hs/\live h id sub:=by
  intro id sub h1;by_cases hi:id∈hs
  ·grind[Q2]
  ·have:=not_ id hi;cases sub<;>simp[live,this]at h1
 have hA:∀b,l6 w X h ρ b->l6 w X (mk .dead h hs) ρ b/\w.heap[b]?=w.heap[b]?:=fun b hb=>⟨⟨hb.1,hb.2.1,fun⟨id,sub,h1,h2⟩=>hb.2.2 ⟨id,sub,(hl id sub h1).2,h2⟩⟩,rfl⟩;have hk:∀id sub,eA h id sub->hs.contains id=true->eA (mk .dead h hs) id sub/\ρ id sub=ρ id sub:=fun id sub hp hi=>⟨(Ra (at_ id (by grind))).2 hp,rfl⟩;have far:Far nm w ρ h w ρ (mk .dead h hs):=by
  refine⟨rfl,rfl,rfl,QK _,fun _ _ _=>rfl,fun b ⟨id,sub,h1,h2⟩=>.inl ⟨id,sub,(hl id sub h1).2,h2⟩,fun id _ hd=>⟨fun e=>?_,rfl⟩,fun _ id p _ hd hp=>⟨?_,rfl⟩⟩
  all_goals grind
 refine⟨⟨fun a b c d h1 h2=>r.inj a b c d (hl a b h1).2 (hl c d h2).2,fun a b h1=>r.nx a b (hl a b h1).2,fun id=>?_,r.xl⟩,far,fun hv hc=>hv.knownA hA hk hc⟩;by_cases hi:id∈hs
 ·have ho:=r.ob id;have hc:=hcl id hi;rw[at_ id hi];cases e:h id with
  |dead=>trivial
  |bx cs=>
   rw[e]at ho hc;obtain⟨us,t,h1,h2,h3,h4⟩:=ho;refine⟨us,t,h1,h2,h3,fun p c hcp=>?_⟩;obtain⟨u,h5,h6⟩:=h4 p c hcp;refine⟨u,h5,?_⟩;simp only[bo,ad1]at hc;have hcc:=hc c (QR hcp);cases hO:bT c with
   |true=>
    cases c<;>simp[bT]at hO;obtain⟨a,cap,us',t',g1,g2,g3,g4,g5,g6,g7⟩:=h6;exact⟨a,cap,us',t',g1,g2,g3,g4,g5,g6,g7.mono hA⟩
   |false=>
    rw[Cm hO]at h6⊢;have hca:cj hs c=true:=by grind[fW]
    refine⟨h6.1.knownA hA hk (Wa hca),h6.2.1,?_⟩;have h7:=h6.2.2;cases c<;>try exact h7
    simp_all[cj,bD,pW]
  |ar k rows=>
   rw[e]at ho;obtain⟨us,t,h1,h2,h3,h4⟩:=ho;exact⟨us,t,h1,h2,h3,h4.mono hA⟩
  |fz k rows=>
   rw[e]at ho;obtain⟨h0,us,t,fr,h1,h2,h3,h4⟩:=ho;exact⟨(hA _ h0).1,us,t,fr,h1,h2,h3,h4.mono hA⟩
 ·rw[not_ id hi];trivial
end
def exo:Ex->Exit
 | .normal=>.normal
 | .exit id=>.exit id
 | .ret=>.ret
def VO(P:Program)(I:Inv)(call:bQ)(md:Mode)(N:Nat):Prop:=
 ∀ {id} {ops} {hs cl} {w} {X} {ρ} {h} {s} {a} {t} {ps} {Q},xK P N ops hs ops.toList=some cl->Fn ops.toList cl ps=true->Ok I N w X ρ h s a->ic call md cl ps s h=some t->
  (∀a' w' ρ',Ok I N w' X ρ' t.h t.s a'->Far md.nm w ρ h w' ρ' t.h->Q .normal a' w')->(Code.region id ops true).wp P Q a w
section
variable {P:Program} {X:Nat→Prop} {call:bQ} {md:Mode} {N:Nat} {I:Inv} {nm:Bool}
theorem TY(s:ah)(ks)(i):mk .any s ks i=s i\/mk .any s ks i=.any:=by
 grind[Ul]
theorem YF(hs)(a):(eE hs a=a/\knownA hs a=true)\/eE hs a=.any:=by
 grind[eE]
theorem ZO{w}{ρ}{h}{s}{a}(ok:Ok I N w X ρ h s a){ks hs}(hcl:(hs.all fun a=>bo hs (h a))=true):
  Ok I N w X ρ (mk .dead h hs) (mk .any (fun i=>eE hs (s i)) ks) a/\Far nm w ρ h w ρ (mk .dead h hs):=by
 obtain⟨h1,h2,h3⟩:=Wv nm ok.rel (hs:=hs) (fun id hi=>List.all_eq_true.1 hcl id hi);refine⟨⟨h1,fun i=>?_,ok.size,ok.defers,ok.inv⟩,h2⟩;rcases TY (fun i=>eE hs (s i)) ks i with e|e
 ·rw[e];rcases YF hs (s i)with⟨e2,e3⟩|e2
  ·rw[e2];exact h3 (ok.rs i) e3
  ·rw[e2];exact .anyv _
 ·rw[e];exact .anyv _
def VP(P:Program)(I:Inv)(nm:Bool)(X:Nat->Prop)(N:Nat)(f:ah->ac->Option (Ex×St))(c:Code):Prop:=
 ∀ {s} {h} {e} {t} {w} {ρ} {a} {Q},f s h=some (e,t)->Ok I N w X ρ h s a->(∀a' w' ρ',Ok I N w' X ρ' t.h t.s a'->Far nm w ρ h w' ρ' t.h->Q (exo e) a' w')->c.wp P Q a w
theorem U4{body}{c}(hb:VP P I nm X N body c){ks hs}:∀n {s} {h} {e} {t} {w} {ρ} {a} {Q},
  jv body ks hs n s h=some (e,t)->Ok I N w X ρ h s a->(∀a' w' ρ',Ok I N w' X ρ' t.h t.s a'->Far nm w ρ h w' ρ' t.h->Q (exo e) a' w')->Code.rounds P c Q n a w
 |0,s,h,e,t,w,ρ,a,Q,hz,_,_=>by grind[jv]
 |n+1,s,h,e,t,w,ρ,a,Q,hz,ok,hQ=>by
  simp only[jv]at hz;split at hz
  ·rename_i hcl;obtain⟨ok1,far1⟩:=ZO ok (ks:=ks) hcl;split at hz
   ·rename_i t1 ht1;exact hb ht1 ok1 fun a' w' ρ' ok2 far2=>U4 hb n hz ok2 fun a'' w'' ρ'' ok3 far3=>hQ _ _ ρ'' ok3 (far1.trans (far2.trans far3))
   ·rename_i r hne;refine hb hz ok1 fun a' w' ρ' ok2 far2=>?_;have:=hQ a' w' ρ' ok2 (far1.trans far2);cases e with
    |normal=>exact absurd hz (hne t)
    |exit id=>exact this
    |ret=>exact this
  ·cases hz
theorem YG{i}{w}{ρ}{h}{s}{a}{r}(ok:Ok I N w X ρ h s a)(hz:Fd i s h (s i)=some r)(hnm:ju nm r.2.2=true):
  Ok I N w X ρ r.2.1 r.1 a/\Far nm w ρ h w ρ r.2.1:=by
 have hv:=ok.rs i;cases hi:s i<;>rw[hi]at hz hv<;>simp only[Fd]at hz<;>try (cases hz;done)
 case sl=>cases hz;exact⟨ok,.refl _ _ _ _⟩
 case rsl id sub k lo n=>
  simp only[adV]at hz;obtain⟨q,e1,rfl⟩:=hz;obtain⟨x,h',ks⟩:=q;have h1:(a.tmps.getD i undef).oneCell'=true:=by
   obtain⟨_,_,e,_⟩:=hv.rsl_inv;rw[e];rfl
  obtain⟨g1,g2,g3,g4⟩:=Sc ok.rel hv (fun b hb=>hb) h1 e1;refine⟨⟨g1,fun j=>?_,ok.size,ok.defers,g2.inv ok.rel ok.inv⟩,g2.far hnm⟩;show RV w (l6 w X h' ρ) ρ h' (upd (jn ks s) i x j) _;rw[QY];split
  ·rename_i hj;subst hj;exact .dat g3
  ·exact g2.rs ok.rs j
 case ref id sub k j l=>
  cases sub with
  |some p=>grind
  |none=>
   simp only at hz;cases ho:h id<;>rw[ho]at hz<;>simp only at hz<;>try (cases hz;done)
   cases hz;rename_i cs;obtain⟨g1,g2⟩:=TS (ds:=cs.map tv) ok.rel ho (by simp) fun p c hc=>by
    grind[bT,XL]
   exact⟨⟨g1,g2.rs ok.rs,ok.size,ok.defers,g2.inv ok.rel ok.inv⟩,g2.far hnm⟩
theorem Xv{w}{ρ}{h}{s}{a}(ok:Ok I N w X ρ h s a)(x):Ok I N w X ρ (Bm h x) s a/\Far nm w ρ h w ρ (Bm h x):=by
 have id':Ok I N w X ρ h s a/\Far nm w ρ h w ρ h:=⟨ok,.refl _ _ _ _⟩;unfold Bm;split
 ·rename_i id k' lo n;split
  ·rename_i k rows e;obtain⟨s1,s2⟩:=ZH (m:=lo+n) ok.rel e;exact⟨⟨s1,s2.rs ok.rs,ok.size,ok.defers,s2.inv ok.rel ok.inv⟩,s2.far (j6 _)⟩
  omega
 omega
theorem Uu{g}{w}{ρ}{h}{s}{a}{t}(ok:Ok I N w X ρ h s a)(hz:sB nm g s h=some t):∃ρ',Ok I N w X ρ' t.h t.s a/\Far nm w ρ h w ρ' t.h:=by
 cases g with
 |zero=>
  cases hz;exact⟨ρ,ok,.refl _ _ _ _⟩
 |succ i=>
  simp only[sB,QS]at hz;obtain⟨r,e1,e2⟩:=hz;split at e2
  ·rename_i hnm;cases e2;have hv:=ok.rs i;cases hi:s i<;>rw[hi]at e1 hv<;>simp only[D3]at e1<;>try (cases e1;done)
   ·cases e1;exact⟨ρ,ok,.refl _ _ _ _⟩
   ·rename_i id sub k lo n;cases sub with
    |none=>grind
    |some p=>
    simp only at e1;split at e1
    ·rename_i hps;cases eo:h id<;>rw[eo]at e1<;>simp only[Fc]at e1<;>try (cases e1;done)
     rename_i cs;cases ec:cs[p]? with
     |none=>grind[D0]
     |some c=>
      rw[ec]at e1;cases c<;>simp only[D0]at e1<;>try (cases e1;done)
      split at e1
      ·rename_i hc;obtain⟨rfl,rfl,rfl,hd⟩:=hc;have hd':h i=.dead:=by cases hh:h i<;>rw[hh]at hd<;>first|rfl|cases hd
       cases e1;obtain⟨m1,m2⟩:=Yv ok.rel eo ec hps hd';obtain⟨ad,cap,e4,q2,q3,q4,q5⟩:=hv.rsl_inv;refine⟨_,⟨m1,fun j=>?_,ok.size,ok.defers,m2.inv ok.rel ok.inv⟩,m2.far hnm⟩;show RV w _ _ _ (upd (jn [(id,true)] s) i _ j) _;rw[QY];split
       ·rename_i hj;subst hj;rw[e4];refine .rsl _ none _ 0 _ cap ad (by simp[eA,oL]) q3 (by grind[QW]) ?_;grind[QW]
       ·exact m2.rs ok.rs j
      grind
    grind
  grind
theorem YH{i}{w}{ρ}{h}{s}{a}{r}(ok:Ok I N w X ρ h s a)(hz:Bn i s h (s i)=some r)(hnm:ju nm r.2.2=true):
  ∃ρ',Ok I N w X ρ' r.2.1 r.1 a/\Far nm w ρ h w ρ' r.2.1:=by
 have hv:=ok.rs i;have key:∀ {id k lo n},(∃ad cap,a.tmps.getD i undef=.slice ad n cap/\n<=cap/\(lo+cap)*k=(ρ id none).2/\(cap=0\/ad=some ⟨(ρ id none).1,lo*k,none⟩))->tE i s h id k lo n (h id)=some r->
   ∃ρ',Ok I N w X ρ' r.2.1 r.1 a/\Far nm w ρ h w ρ' r.2.1:=by
  intro id k lo n ⟨ad,cap,e4,q3,q4,q5⟩ e1;cases eo:h id<;>rw[eo]at e1<;>simp only[tE]at e1<;>try (cases e1;done)
  split at e1
  ·rename_i hc;obtain⟨rfl,rfl,hps,hd⟩:=hc;have hd':h i=.dead:=by cases hh:h i<;>rw[hh]at hd<;>first|rfl|cases hd
   cases e1;obtain⟨m1,m2⟩:=acH ok.rel eo hps hd';refine⟨_,⟨m1,fun j=>?_,ok.size,ok.defers,m2.inv ok.rel ok.inv⟩,m2.far hnm⟩;show RV w _ _ _ (upd (jn [(id,false)] s) i _ j) _;rw[QY];split
   ·rename_i hj;subst hj;rw[e4];refine .rsl _ none _ 0 _ cap ad (by simp[eA,oL]) q3 (by grind[QW]) ?_;grind[QW]
   ·exact m2.rs ok.rs j
  grind
 cases hi:s i<;>rw[hi]at hz hv<;>simp only[Bn]at hz<;>try (cases hz;done)
 ·cases hz;exact⟨ρ,ok,.refl _ _ _ _⟩
 ·rename_i id sub k lo n;cases sub with
  |some p=>grind
  |none=>
  obtain⟨ad,cap,e4,q2,q3,q4,q5⟩:=hv.rsl_inv;exact key ⟨ad,cap,e4,q3,q4,q5⟩ hz
 ·rename_i id k lo n c;obtain⟨ad,e4,q2,q3,q4,q5⟩:=hv.rsc_inv;exact key ⟨ad,c,e4,q3,q4,q5⟩ hz
theorem Se:∀is {w} {ρ} {h} {s} {a} {t},Ok I N w X ρ h s a->lZ nm is s h=some t->∃ρ',Ok I N w X ρ' t.h t.s a/\Far nm w ρ h w ρ' t.h
 |[],w,ρ,h,s,a,t,ok,hz=>by cases hz;exact⟨ρ,ok,.refl _ _ _ _⟩
 |i::l,w,ρ,h,s,a,t,ok,hz=>by
  unfold lZ at hz;split at hz
  ·simp only[QS]at hz;obtain⟨r,e1,e2⟩:=hz;split at e2
   ·rename_i hn;obtain⟨ρ1,g1,g2⟩:=YH ok e1 hn;obtain⟨ρ2,f1,f2⟩:=Se l g1 e2;exact⟨ρ2,f1,g2.trans f2⟩
   grind
  ·split at hz
   ·obtain⟨g1,g2⟩:=Xv (nm:=nm) ok (s (i-100000));obtain⟨ρ2,f1,f2⟩:=Se l g1 hz;exact⟨ρ2,f1,g2.trans f2⟩
   ·simp only[QS]at hz;obtain⟨r,e1,e2⟩:=hz;split at e2
    ·rename_i hn;obtain⟨g1,g2⟩:=YG ok e1 hn;obtain⟨ρ2,f1,f2⟩:=Se l g1 e2;exact⟨ρ2,f1,g2.trans f2⟩
    grind
theorem YI(hcall:Rq P I call md)(hN:N<=1000)(hD:VO P I call md N)(lf):∀cmd c,kE P N c cmd=some cmd->VP P I md.nm X N (aA call md lf cmd) c:=by
 intro cmd;induction cmd with
 |skip=>
  intro c hc s h e t w ρ a Q hz ok hQ;cases c<;> (try simp only[kE]at hc)<;> (try (cases hc;done))
  ·obtain⟨rfl,rfl⟩:=hz;exact wp_skip (hQ _ _ ρ ok (.refl _ _ _ _))
  all_goals first
   | (obtain⟨rfl,rfl⟩:=hz;exact wp_label (hQ _ _ ρ ok (.refl _ _ _ _)))
   | (exfalso;revert hc;simp[QS])
 |ops ks l=>
  intro c hc s h e t w ρ a Q hz ok hQ;by_cases hrf:∃m,c=.refuse m
  ·have hl:l=[⟨none,none,.bad⟩]:=by
    unfold kE at hc;grind
   simp_all[aA,ae,mN,aN,step,ak]
  cases c<;> (try (exact absurd ⟨_,rfl⟩ hrf))<;> (try simp only[kE]at hc)<;> (try (cases hc;done));rename_i id ops dr;cases dr<;> (try simp only[kE]at hc)<;> (try (cases hc;done));simp only[adV]at hc;obtain⟨l',h1,h2⟩:=hc;cases h2;simp only[aA,ak]at hz;split at hz
  ·grind
  ·rename_i t1 ht1;obtain⟨rfl,rfl⟩:=hz;refine wp_region ?_;rw[List.range_eq_range',show ops.size=ops.toList.length from Array.length_toList.symm];exact VN hcall hN ops.toList l 0 (fun j o hj=>by grind) h1 ok ht1 fun a' w' ρ' ok' far=>hQ _ _ ρ' (ok'.some (TY _ _)) far
 |dops ks l ps=>
  intro c hc s h e t w ρ a Q hz ok hQ;cases c<;> (try simp only[kE]at hc)<;> (try (cases hc;done));rename_i id ops dr;cases dr<;> (try simp only[kE]at hc)<;> (try (cases hc;done));simp only[QS]at hc;obtain⟨l',h1,h2⟩:=hc;split at h2
  ·rename_i hps;cases h2;simp only[aA,ak]at hz;split at hz
   ·grind
   ·rename_i t1 ht1;obtain⟨rfl,rfl⟩:=hz;exact hD h1 hps ok ht1 fun a' w' ρ' ok' far=>hQ _ _ ρ' (ok'.some (TY _ _)) far
  grind
 |seq x y ihx ihy=>
  intro c hc s h e t w ρ a Q hz ok hQ;cases c<;> (try simp only[kE]at hc)<;> (try (cases hc;done));simp only[QS,adV]at hc;obtain⟨c1,h1,c2,h2,h3⟩:=hc;cases h3;simp only[aA,bF]at hz;refine wp_seq ?_;split at hz
  ·grind
  ·rename_i t1 ht1;exact ihx _ h1 ht1 ok fun a' w' ρ' ok1 far1=>ihy _ h2 hz ok1 fun a'' w'' ρ'' ok2 far2=>hQ _ _ ρ'' ok2 (far1.trans far2)
  ·rename_i i t1 ht1;cases hz;exact ihx _ h1 ht1 ok fun a' w' ρ' ok1 far1=>hQ a' w' ρ' ok1 far1
  ·rename_i t1 ht1;cases hz;exact ihx _ h1 ht1 ok fun a' w' ρ' ok1 far1=>hQ a' w' ρ' ok1 far1
 |cond b x y ihx ihy=>
  intro c hc s h e t w ρ a Q hz ok hQ;cases c<;> (try simp only[kE]at hc)<;> (try (cases hc;done));simp only[QS,adV]at hc;obtain⟨b',h0,c1,h1,c2,h2,h3⟩:=hc;cases h3;simp only[aA]at hz;have hv:=QV h0 ok.rs;unfold gu at hz;split at hz
  ·rename_i tt htt;rw[htt]at hv;refine wp_cond hv.v_inv.1 ?_;cases tt with
   |true=>exact ihx _ h1 hz ok hQ
   |false=>exact ihy _ h2 hz ok hQ
  grind
 |block id ks x ih=>
  intro c hc s h e t w ρ a Q hz ok hQ;cases c<;> (try simp only[kE]at hc)<;> (try (cases hc;done));simp only[adV]at hc;obtain⟨c1,h1,h3⟩:=hc;cases h3;simp only[aA]at hz;refine wp_block ?_;unfold aC at hz;split at hz
  ·grind
  ·rename_i t1 ht1;cases hz;exact ih _ h1 ht1 ok fun a' w' ρ' ok1 far1=>hQ a' w' ρ' (ok1.some (TY _ _)) far1
  ·rename_i i t1 ht1;refine ih _ h1 ht1 ok fun a' w' ρ' ok1 far1=>?_;split at hz
   ·rename_i hi;cases hz;have:=hQ a' w' ρ' (ok1.some (TY _ _)) far1;grind[exo,Exit.inBlock]
   grind[exo,Exit.inBlock]
  ·rename_i t1 ht1;cases hz;exact ih _ h1 ht1 ok fun a' w' ρ' ok1 far1=>hQ a' w' ρ' ok1 far1
 |loop ks hs x ih=>
  intro c hc s h e t w ρ a Q hz ok hQ;cases c<;> (try simp only[kE]at hc)<;> (try (cases hc;done));simp only[adV]at hc;obtain⟨c1,h1,h3⟩:=hc;cases h3;exact wp_loop_rounds lf (U4 (ih _ h1) lf hz ok hQ)
 |exit id=>
  intro c hc s h e t w ρ a Q hz ok hQ;cases c<;> (try simp only[kE]at hc)<;> (try (cases hc;done));cases hc;obtain⟨rfl,rfl⟩:=hz;exact wp_exit (hQ _ _ ρ ok (.refl _ _ _ _))
 |ret=>
  intro c hc s h e t w ρ a Q hz ok hQ;cases c<;> (try simp only[kE]at hc)<;> (try (cases hc;done));obtain⟨rfl,rfl⟩:=hz;exact wp_ret (hQ _ _ ρ ok (.refl _ _ _ _))
 |frz is x ih=>
  intro c hc s h e t w ρ a Q hz ok hQ;by_cases hsc:∃d,c=.scope d
  ·obtain⟨d,rfl⟩:=hsc;have hc':(kE P N d x).map (Cmd.frz is)=some (.frz is x):=by
    grind[kE]
   simp only[adV]at hc';obtain⟨c1,h1,h3⟩:=hc';cases h3;simp only[aA,ak]at hz;split at hz
   ·grind
   ·rename_i t1 ht1;obtain⟨ρ1,ok1,far1⟩:=Se is ok ht1;refine wp_scope_straight (ih _ h1 hz ok1 fun a' w' ρ' ok2 far2=>?_);have:=hQ a' w' ρ' ok2 (far1.trans far2);cases e<;>exact this
  have hc':(kE P N c x).map (Cmd.frz is)=some (.frz is x):=by
   cases c<;>first|exact absurd ⟨_,rfl⟩ hsc|exact hc| (rename_i b;cases b<;>exact hc)
  simp only[adV]at hc';obtain⟨c1,h1,h3⟩:=hc';cases h3;simp only[aA,ak]at hz;split at hz
  ·grind
  ·rename_i t1 ht1;obtain⟨ρ1,ok1,far1⟩:=Se is ok ht1;exact ih _ h1 hz ok1 fun a' w' ρ' ok2 far2=>hQ a' w' ρ' ok2 (far1.trans far2)
end
def GQ(P:Program)(I:Inv)(kp:Bool)(f:FuncId)(g:List AV->List Ob->Option (AV×List Ob)):Prop:=
 ∀ {args} {obs obs'} {res} {w} {X} {ρ} {vals} {n},g args obs=some (res,obs')->2000<=n->I.p w X->Rel w X ρ (aO obs)->vals.size=args.length->
  (∀ (i:Nat) c u,args[i]?=some c->vals[i]?=some u->RV w (l6 w X (aO obs) ρ) ρ (aO obs) c u)->
  Enters P f vals w fun v w'=>∃ρ',Rel w' X ρ' (mat n (aO obs') res).2/\Far kp w ρ (aO obs) w' ρ' (mat n (aO obs') res).2/\RV w' (l6 w' X (mat n (aO obs') res).2 ρ') ρ' (mat n (aO obs') res).2 (mat n (aO obs') res).1 v
def SF(tmps:Array Value):ResultVar->Sem Value
 | .tmp t=>pure (tmps.getD t Go.undef)
 | .cell c t=>do loadVar t (←asAddr (tmps.getD c Go.undef))
section
variable {P:Program} {w w':World} {X:Nat→Prop} {ρ ρ':bg} {h h':ac} {s:ah} {a:Act} {call:bQ} {md:Mode} {N:Nat}
theorem Uv:∀rs l {h h'} {s} {vs} {ks},Bs P rs=some l->Rel w X ρ h->RS w (l6 w X h ρ) ρ h s a.tmps->mQ s h l=some (vs,h',ks)->
  ∃us,(rs.mapM (SF a.tmps)).run P w=.ok us w/\us.length=vs.length/\Rel w X ρ h'/\Evo w ρ h w ρ h' ks/\
   ∀ (i:Nat) c u,vs[i]?=some c->us[i]?=some u->RV w (l6 w X h' ρ) ρ h' c u
 |[],l,h,h',s,vs,ks,hc,r,hs,hz=>by
  simp only[Bs,Option.some.injEq]at hc;subst hc;obtain⟨rfl,rfl,rfl⟩:=hz;exact⟨[],rfl,rfl,r,.refl _ _ _,fun i c u hc=>by grind⟩
 |x::rs,l,h,h',s,vs,ks,hc,r,hs,hz=>by
  have step1:∃rv l',l=rv::l'/\Bs P rs=some l'/\∀ {z} {h1} {k1},JQ s h rv=some (z,h1,k1)->∃v,(SF a.tmps x).run P w=.ok v w/\
    Rel w X ρ h1/\Evo w ρ h w ρ h1 k1/\RV w (l6 w X h1 ρ) ρ h1 z v:=by
   cases x with
   |tmp t=>
    simp only[Bs,adV]at hc;obtain⟨l',h1,rfl⟩:=hc;refine⟨_,l',rfl,h1,fun{z h1 k1} e=>?_⟩;obtain⟨rfl,rfl,rfl⟩:=e;exact⟨_,rfl,r,.refl _ _ _,hs t⟩
   |cell c t=>
    simp only[Bs,QS]at hc;obtain⟨g,g1,k,g2,hc⟩:=hc;split at hc
    ·simp only[adV]at hc;obtain⟨l',h1,rfl⟩:=hc;refine⟨_,l',rfl,h1,fun{z h1 k1} e=>?_⟩;obtain⟨ad,v,q1,q2,q3,q4,q5⟩:=Ur (P:=P) r g1 g2 (hs c) e;refine⟨v,?_,q3,q4,q5⟩;simp only[SF];rw[q1];exact q2
    grind
  obtain⟨rv,l',rfl,hc',key⟩:=step1;simp only[mQ,QS]at hz;obtain⟨⟨z,h1,k1⟩,e1,⟨vs',h2,k2⟩,e2,e3⟩:=hz;cases e3;obtain⟨v,f1,f2,f3,f4⟩:=key e1;obtain⟨us,g1,g2,g3,g4,g5⟩:=Uv rs l' hc' f2 (f3.rs hs) e2;refine⟨v::us,by simp_all,by grind,g3,f3.trans g4,fun i c u hc hu=>?_⟩;cases i with
  |zero=>
   simp only[List.getElem?_cons_zero,Option.some.injEq]at hc hu;subst hc hu;cases k2 with
   |nil=>exact g4.rv f4
   |cons p k2=>
    simp only[Bp,jC];split
    ·exact .anyv _
    ·exact g4.rvk f4 (.inr (by grind))
  |succ i=>grind
end
structure Emb (L:List Nat) (f g:Nat->Nat) (h' h2:ac):Prop where
 back:∀id,L.contains id=true->g (f id)=id/\h2 (f id)=jq f (h' id)
 obj:∀i,h2 i≠ .dead->h2 i=jq f (h' (g i))/\bo L (h' (g i))=true
 inj:∀i j,h2 i≠ .dead->h2 j≠ .dead->g i=g j->i=j
section
variable {w:World} {X:Nat→Prop} {ρ:bg} {h' h2:ac} {A A2:Nat→Prop} {L:List Nat} {f g:Nat→Nat}
theorem TZ{o}:jq f o=.dead↔o=.dead:=by cases o<;>simp[jq]
theorem XN(o):bf (jq f o)=bf o:=by cases o<;>rfl
theorem C8{c}{k}{rows}:ez f c=.osl k rows↔c=.osl k rows:=by cases c<;>simp[ez,jL]
theorem ZP(c):bT (ez f c)=bT c:=by cases c<;>rfl
theorem RV.embL(em:Emb L f g h' h2){c}{u}(hv:RV w A ρ h' c u)(hA:∀b,A b->A2 b)(hm:bD L c=true):RV w A2 (fun i s=>ρ (g i) s) h2 (jL f c) u:=by
 cases hv with
 |anyv u=>exact .anyv u
 |und=>exact .und
 |dat hd=>
  have:jL f c=c:=by cases hd<;>rfl
  rw[this];exact .dat (hd.mono fun b hb=>⟨hA b hb,rfl⟩)
 |ref id sub k i j hp=>
  simp only[bD,QQ]at hm;obtain⟨h1,h3⟩:=em.back id hm.1;cases sub with
  |some p=>grind
  |none=>
   have:=RV.ref (w:=w) (A:=A2) (ρ:=fun i s=>ρ (g i) s) (h:=h2) (f id) none k i j (by simp only[eA,h3,ne_eq,TZ];exact hp);simp only[h1]at this;exact this
 |rsl id sub k lo n cap a hp hn hb ha=>
  simp only[bD,QQ]at hm;obtain⟨h1,h3⟩:=em.back id hm.1;cases sub with
  |some p=>grind
  |none=>exact .rsl (f id) none k lo n cap a (by simp only[eA,h3,ne_eq,TZ];exact hp) hn (by grind) (by grind)
 |rsc id k lo n cap a hp hn hb ha=>simp[bD]at hm
 |ipt cs ad vals hA' hs hv hl hr=>exact .ipt cs ad vals (hA _ hA') hs hv hl (fun j c hc=>(hr j c hc).mono fun b hb=>⟨hA b hb,rfl⟩)
 |agg cs us hs h1 hr=>simp[bD]at hm
 |tup vs us hs hr=>simp[bD]at hm
 |fn ff x y us ts hs ht hx hy=>
  simp[bD]at hm;obtain⟨rfl,rfl⟩:=hm;exact .fn ff [] [] us ts hs ht (fun i c u hc=>by grind) (fun i c u hc=>by grind)
theorem RV.embA(em:Emb L f g h' h2){c}{u}(hv:RV w A ρ h' c u)(hA:∀b,A b->A2 b)(hm:cj L c=true):RV w A2 (fun i s=>ρ (g i) s) h2 (ez f c) u:=by
 cases c with
 |agg cs=>
  simp only[cj,ad1]at hm;obtain⟨us,rfl,hs,h1,hr⟩:=hv.agg_inv;refine .agg _ us (by grind) h1 fun i c u hc hu=>?_;simp only[aeb,adV]at hc;obtain⟨c',hc',rfl⟩:=hc;exact(hr i c' u hc' hu).embL em hA (hm c' (QR hc'))
 |fn ff x y=>
  simp only[cj,QQ,ad1]at hm;obtain⟨us,ts,rfl,hs,ht,hx,hy⟩:=hv.fn_inv;refine .fn ff _ _ us ts (by grind) (by grind) (fun i c u hc hu=>?_) (fun i c u hc hu=>?_)
  ·simp only[aeb,adV]at hc;obtain⟨c',hc',rfl⟩:=hc;exact(hx i c' u hc' hu).embL em hA (hm.1 c' (QR hc'))
  ·simp only[aeb,adV]at hc;obtain⟨c',hc',rfl⟩:=hc;exact(hy i c' u hc' hu).embL em hA (hm.2 c' (QR hc'))
 |_=>
  exact hv.embL em hA hm
theorem Emb.live(em:Emb L f g h' h2){i}{s}(hl:live h2 i s):live h' (g i) s/\h2 i≠ .dead:=by
 have hd:h2 i≠ .dead:=Ck hl|>fun hp=>by
  cases s with
  |none=>exact hp
  |some p=>obtain⟨_,_,_,e,_⟩:=hp;grind
 obtain⟨e,_⟩:=em.obj i hd;refine⟨?_,hd⟩;cases s with
 |none=>
  simp only[Ab.live,e]at hl;simp only[Ab.live];cases e2:h' (g i)<;>rw[e2]at hl<;>simp[jq]at hl⊢
 |some p=>
  obtain⟨cs,k,rows,e1,e2⟩:=hl;rw[e]at e1;cases e3:h' (g i)<;>rw[e3]at e1<;>simp only[jq]at e1<;>try (cases e1;done)
  rename_i cs';cases e1;simp only[aeb,adV]at e2;obtain⟨c,e4,e5⟩:=e2;exact⟨cs',k,rows,e3,by rw[e4,C8.1 e5]⟩
theorem Rel.emb(em:Emb L f g h' h2)(r:Rel w X ρ h'){X2}(hX:∀b,XZ X2 b->b<w.heap.size)(hnx:∀i s,live h2 i s->¬XZ X2 (ρ (g i) s).1)(hA:∀b,l6 w X h' ρ b->l6 w X2 h2 (fun i s=>ρ (g i) s) b):
  Rel w X2 (fun i s=>ρ (g i) s) h2:=by
 refine⟨fun i s j t h1 h3 h4=>?_,hnx,fun i=>?_,hX⟩
 ·obtain⟨f1,f2⟩:=em.live h1;obtain⟨f3,f4⟩:=em.live h3;obtain⟨e1,e2⟩:=r.inj (g i) s (g j) t f1 f3 h4;exact⟨em.inj i j f2 f4 e1,e2⟩
 ·by_cases hd:h2 i=.dead
  ·rw[hd];trivial
  ·obtain⟨e,hc⟩:=em.obj i hd;have ho:=r.ob (g i);rw[e];cases e2:h' (g i)with
   |dead=>trivial
   |bx cs=>
    rw[e2]at ho hc;obtain⟨us,t,h1,h3,h4,h5⟩:=ho;refine⟨us,t,h1,h3,by grind,fun p c hp=>?_⟩;simp only[aeb,adV]at hp;obtain⟨c',hp',rfl⟩:=hp;obtain⟨u,h6,h7⟩:=h5 p c' hp';refine⟨u,h6,?_⟩;simp only[bo,ad1]at hc;have hcc:=hc c' (QR hp');cases hO:bT c' with
    |true=>
     cases c'<;>simp[bT]at hO;obtain⟨a,cap,us',t',g1,g2,g3,g4,g5,g6,g7⟩:=h7;exact⟨a,cap,us',t',g1,g2,g3,g4,g5,g6,g7.mono fun b hb=>⟨hA b hb,rfl⟩⟩
    |false=>
     have hca:=by simpa [fW,hO]using hcc
     rw[Cm hO]at h7;rw[Cm (by rw[ZP];omega)];refine⟨h7.1.embA em hA hca,h7.2.1,?_⟩;have h8:=h7.2.2;cases c'<;>first|exact h8.elim|trivial|skip
     ·rename_i id sub _ _ _;cases sub with
      |some p=>exact h8.elim
      |none=>
       simp only[cj,bD,QQ]at hca;obtain⟨_,e3⟩:=em.back id hca.1;simp only[ez,jL,pW]at h8⊢;rw[e3,XN];omega
     ·simp only[pW,QQ,ad1]at h8;simp only[ez,pW,QQ,ad1,aec];have key:∀c,aq c=true->aq (jL f c)=true:=fun c hd=>by cases c<;>simp[aq,jL]at hd⊢ <;>exact hd
      grind
   |ar k rows=>
    rw[e2]at ho;obtain⟨us,t,h1,h3,h4,h5⟩:=ho;exact⟨us,t,h1,h3,h4,h5.mono fun b hb=>⟨hA b hb,rfl⟩⟩
   |fz k rows=>
    rw[e2]at ho;obtain⟨h0,us,t,fr,h1,h3,h4,h5⟩:=ho;exact⟨hA _ h0,us,t,fr,h1,h3,h4,h5.mono fun b hb=>⟨hA b hb,rfl⟩⟩
end
theorem Ef(c):jL (fun i=>i) c=c:=by cases c<;>rfl
theorem xM{α:Type}{f}(hf:∀a,f a=a)(l:List α):l.map f=l:=by
 rw[show f=id from funext hf,List.map_id]
theorem Eg(c):ez (fun i=>i) c=c:=by
 cases c<;>simp[ez,jL,xM Ef]
theorem Eh(o):jq (fun i=>i) o=o:=by
 cases o<;>simp[jq,xM Eg]
section
variable {L:List Nat} {g:Nat→Nat} {h' h2:ac}
theorem Emb.add(em:Emb L (fun i=>i) g h' h2){m id}(hm:h2 m=.dead)(hL:L.contains m=false)(hid:∀i,h2 i≠ .dead->g i≠id)(hcl:bo L (h' id)=true):Emb L (fun i=>i) (upd g m id) h' (upd h2 m (h' id)):=by
 refine⟨fun i hi=>?_,fun i hi=>?_,fun i j hi hj hg=>?_⟩
 ·have hne:i≠m:=by grind
  rw[fO _ _ hne,fO _ _ hne];exact em.back i hi
 ·by_cases e:i=m
  ·subst e;rw[oL,oL,Eh];grind
  ·rw[fO _ _ e]at hi⊢;rw[fO _ _ e];exact em.obj i hi
 ·by_cases e:i=m<;>by_cases e':j=m
  ·rw[e,e']
  ·subst e;rw[oL,fO _ _ e']at hg;rw[fO _ _ e']at hj;grind
  ·subst e';rw[oL,fO _ _ e]at hg;rw[fO _ _ e]at hi;grind
  ·rw[fO _ _ e]at hi;rw[fO _ _ e']at hj;rw[fO _ _ e,fO _ _ e']at hg;exact em.inj i j hi hj hg
theorem Ss{n i}:(oC n).contains i=true↔1000<=i/\i<1000+n:=by
 grind[oC,List.mem_range']
theorem RK(h':ac)(n i):aO ((oC n).map h') i=if 1000<=i/\i<1000+n then h' i else .dead:=by
 unfold aO;by_cases h1:1000<=i
 ·rw[if_pos h1];by_cases h2:i<1000+n
  ·have:(oC n)[i-1000]?=some i:=by
    unfold oC;grind
   grind
  ·rw[if_neg (by omega),aeb,List.getElem?_eq_none (by grind[oC])];rfl
 grind
theorem Emb.base{n}(hcl:((oC n).all fun i=>bo (oC n) (h' i))=true):Emb (oC n) (fun i=>i) (fun i=>i) h' (aO ((oC n).map h')):=by
 refine⟨fun i hi=>⟨rfl,?_⟩,fun i hi=>?_,fun i j _ _ hg=>hg⟩
 ·rw[RK,if_pos (Ss.1 hi),Eh]
 ·rw[RK]at hi⊢;split at hi
  ·rename_i h1;rw[if_pos h1,Eh];exact⟨rfl,List.all_eq_true.1 hcl i (by simpa using Ss.2 h1)⟩
  grind
end
section
variable {w:World} {X:Nat→Prop} {ρ:bg} {h' h2:ac} {A A2:Nat→Prop}
theorem Um{b k lo n cap}{us}{e}{fr}{rows}{a}(hb:w.heap[b]?=some (.cells us e fr))(hA2:A2 b)(hA:∀b,A b->A2 b)(hr:qR w A k rows us)
  (hle:lo+n<=rows.length) (hn:n<=cap) (ha:cap=0\/a=some ⟨b,lo*k,none⟩):RD w A2 (jo k lo n rows) (.slice a n cap):=
 Rz hb hA2 (hr.mono fun b hb=>⟨hA b hb,rfl⟩) hle hn ha
def abO(w:World)(A:Nat->Prop)(ρ:bg)(h':ac)(a b:AV)(u:Value):Prop:=
 (∃id k rows,b=.osl k rows/\a=.rsl id none k 0 rows.length/\h' id=.ar k rows/\bw id=false)\/
 (∃id cs,b=.obx cs/\a=.ref id none 0 0 0/\h' id=.bx cs/\cs.all AT=true/\bw id=false)\/
 (b=a/\∃id k i j,a=.ref id none k i j/\bw id=true)\/
 (b=a/\aq a=true)\/
 (aq b=true/\∀A2,(∀b,A b->A2 b)->(∀id sub,eM a=[id]->live h' id sub->A2 (ρ id sub).1)->RD w A2 b u)
theorem SL(r:Rel w X ρ h'){a b}{u}(hv:RV w (l6 w X h' ρ) ρ h' a u)(he:xx h' a=some b):abO w (l6 w X h' ρ) ρ h' a b u:=by
 have dl:aq a=true->xx h' a=some a->abO w (l6 w X h' ρ) ρ h' a b u:=fun hd hq=>by
  rw[hq]at he;cases he;exact .inr (.inr (.inr (.inl ⟨rfl,hd⟩)))
 cases a with
 |rsl id sub k lo n=>
  obtain⟨a,cap,rfl,hp,hn,hb,ha⟩:=hv.rsl_inv;cases sub with
  |none=>
   simp only[xx]at he;split at he
   ·grind
   ·have ho:=r.ob id;cases e:h' id with
    |dead=>rw[e]at he;cases he
    |ar k' rows=>
     rw[e]at he ho;simp only[pS]at he;split at he
     ·rename_i hc;obtain⟨rfl,hle⟩:=hc;split at he
      ·rename_i hw;obtain⟨rfl,rfl⟩:=hw;cases he;exact .inl ⟨id,k',rows,rfl,rfl,e,by grind⟩
      ·cases he;obtain⟨us,t,h1,h3,h4,h5⟩:=ho;exact .inr (.inr (.inr (.inr ⟨rfl,fun A2 hA hl=>Um h1 (hl id none rfl (by grind[live])) hA h5 hle hn ha⟩)))
     grind
    |fz k' rows=>
     rw[e]at he ho;simp only[pS]at he;split at he
     ·rename_i hc;obtain⟨rfl,hle⟩:=hc;cases he;obtain⟨h0,us,t,fr,h1,h3,h4,h5⟩:=ho;exact .inr (.inr (.inr (.inr ⟨rfl,fun A2 hA hl=>Um h1 (hA _ h0) hA h5 hle hn ha⟩)))
     grind
    |bx cs=>
     rw[e]at he;simp only[pS]at he;split at he
     ·rename_i hc;obtain⟨rfl,hle,hd⟩:=hc;cases he;obtain⟨us,t,h1,h3,h4,h5⟩:=r.cell e;refine .inr (.inr (.inr (.inr ⟨rfl,fun A2 hA hl=>Rz h1 (hl id none rfl (by grind[live])) (fun i row hi=>?_) (by grind[AU]) hn ha⟩)));simp only[AU,aeb,adV]at hi;obtain⟨c,hc,rfl⟩:=hi;refine⟨rfl,fun j d hj=>?_⟩;cases j with
      |succ j=>grind
      |zero=>
       simp at hj;subst hj;obtain⟨u,h6,h7⟩:=h5 i c hc;have hdc:=List.all_eq_true.1 hd c (QR hc);exact⟨u,by grind,UM h7 hdc hA (fun k rows ec=>by subst ec;exact hl id (some i) rfl ⟨cs,k,rows,e,hc⟩),Ty hdc⟩
     grind
  |some p=>
   simp only[xx]at he;split at he
   ·grind
   ·cases e:h' id with
    |bx cs=>
     rw[e]at he;simp only[lI]at he;cases ec:cs[p]? with
     |none=>rw[ec]at he;cases he
     |some c=>
      rw[ec]at he;cases c<;>simp only[xp,JP]at he<;>try (cases he;done)
      split at he
      ·rename_i hc;obtain⟨rfl,hle⟩:=hc;cases he;obtain⟨us,t,h1,h3,h4,h5⟩:=r.cell e;obtain⟨u,_,a',cap',us',t',_,_,_,q4,q5,q6,q7⟩:=h5 p _ ec;exact .inr (.inr (.inr (.inr ⟨rfl,fun A2 hA hl=>Um q4 (hl id (some p) rfl ⟨cs,_,_,e,ec⟩) hA q7 hle hn ha⟩)))
      grind
    |_=>rw[e]at he;cases he
 |ref id sub k i j=>
  cases sub with
  |some p=>grind[xx,aq]
  |none=>
   simp only[xx]at he;split at he
   ·rename_i hps;cases he;exact .inr (.inr (.inl ⟨rfl,id,k,i,j,rfl,hps⟩))
   ·split at he
    ·rename_i hc;obtain⟨rfl,rfl,rfl⟩:=hc;cases e:h' id<;>rw[e]at he<;>simp only[JO]at he<;>try (cases he;done)
     split at he
     ·rename_i hd;cases he;exact .inr (.inl ⟨id,_,rfl,rfl,e,hd,by grind⟩)
     grind
    grind
 |fn f x y=>
  grind[xx]
 |any=>exact dl rfl rfl
 |v x=>exact dl rfl rfl
 |emp=>exact dl rfl rfl
 |sl k rows=>exact dl rfl rfl
 |_=>simp[xx,aq]at he
theorem Ww{b c}(hdl:aq b=true)(hd:Bo b=some c):c=b:=by
 unfold Bo at hd;split at hd
 all_goals simp_all[aq,if_pos]
theorem U5(r:Rel w X ρ h'){a b c}{u}(hv:RV w (l6 w X h' ρ) ρ h' a u)(h1:u.oneCell'=true)(he:xx h' a=some b)(hd:Bo b=some c):
  aq c=true/\∀A2,(∀b,l6 w X h' ρ b->A2 b)->(∀id sub,eM a=[id]->live h' id sub->A2 (ρ id sub).1)->RD w A2 c u:=by
 rcases SL r hv he with⟨id,k,rows,rfl,rfl,e,_⟩| ⟨id,cs,rfl,_⟩| ⟨rfl,id,k,i,j,rfl,_⟩| ⟨rfl,hdl⟩| ⟨hdl,hr⟩
 ·simp only[Bo,Option.some.injEq]at hd;subst hd;refine⟨rfl,fun A2 hA hl=>?_⟩;obtain⟨a,cap,rfl,hp,hn,hb,ha⟩:=hv.rsl_inv;have ho:=r.ob id;rw[e]at ho;obtain⟨us,t,g1,g2,g3,g4⟩:=ho;have:=Um (w:=w) (A2:=A2) (lo:=0) g1 (hl id none rfl (by grind[live])) hA g4 (by omega) hn ha;grind[jo]
 ·grind[Bo,aq]
 ·grind[Bo,aq]
 ·have:=Ww hdl hd;subst this;exact⟨hdl,fun A2 hA _=>(hv.toD hdl h1).mono fun b hb=>⟨hA b hb,rfl⟩⟩
 grind[Ww]
theorem Uw(r:Rel w X ρ h'):∀cs ds,gw h' cs=some ds->ds.length=cs.length/\∀ (i:Nat) a c u,cs[i]?=some a->ds[i]?=some c->RV w (l6 w X h' ρ) ρ h' a u->u.oneCell'=true->
  aq c=true/\∀A2,(∀b,l6 w X h' ρ b->A2 b)->(∀id sub,eM a=[id]->live h' id sub->A2 (ρ id sub).1)->RD w A2 c u
 |[],ds,he=>by grind[gw]
 |a::cs,ds,he=>by
  simp only[gw,QS]at he;obtain⟨b,e1,c,e2,q,e3,e4⟩:=he;obtain⟨g1,g2⟩:=Uw r cs q e3;refine⟨by grind,fun i a' c' u hc hd hv h1=>?_⟩;cases i with
  |zero=>
   grind[U5]
  |succ i=>grind
end
def SX(f:ac->Option R3)(p:ac->ac->Fp)(h:ac)(x:AV)(h':ac)(r w:List Nat):Prop:=
 ∀g,(∀i,ft i∈r\/ft i∈w->g i=h i)->∃g',f g=some (x,g',[])/\p g g'=some (r,w)/\(∀i,ft i∈w->g' i=h' i)/\(∀i,ft i∉w->g' i=g i)
section
variable {h h' g:ac} {x:AV} {r w:List Nat}
theorem Tn{f:ac->Option R3}{p:ac->ac->Fp}(hw:w=[])(hp:∀g g',p g g'=some (r,w))(hf:∀g,(∀i,ft i∈r->g i=h i)->f g=some (x,g,[])):SX f p h x h' r w:=fun g hg=>by
 simp_all
theorem RE{f:ac->Option R3}{p:ac->ac->Fp}{d}{o}(hd:ft d∈w)(hh:h'=upd h d o)(hp:∀g g',p g g'=some (r,w))(hf:∀g,g d=h d->f g=some (x,upd g d o,[])):SX f p h x h' r w:=fun g hg=>by
 refine⟨upd g d o,hf g (hg d (.inr hd)),hp g _,fun i hi=>?_,fun i hi=>?_⟩
 ·simp_all[upd]
 grind[upd,absurd]
theorem C9{a}(hd:aq a=true)(h):eJ h a=some (a,h,[]):=by
 cases a<;>simp[aq]at hd<;>simp[eJ,aq,hd]
theorem pX:∀ {xs},xs.all aq=true->∀h,gr h xs=some (xs,h,[])
 |[],_,h=>rfl
 |a::l,hd,h=>by
  simp only[List.all_cons,QQ]at hd;simp only[gr,C9 hd.1 h,pX hd.2 h,QO,ad4]
theorem SM{a}{xs}(hd:dat a=true)(hc:cX a=some xs):xs.all aq=true:=by
 cases a<;>simp only[dat,aq,cX,Option.some.injEq]at hd hc<;>first| (cases hc;done)| (cases hd;done)|skip
 all_goals grind[aq]
theorem SY{k}:∀ {ps} {rows rows'} {h h'} {ks},(ps.all fun p=>dat p.2)=true->dq k h rows ps=some (rows',h',ks)->h'=h/\ks=[]/\∀g,dq k g rows ps=some (rows',g,[])
 |[],rows,rows',h,h',ks,_,hz=>by
  grind[dq,Option.some.injEq,Prod.mk.injEq]
 | (i,a)::ps,rows,rows',h,h',ks,hd,hz=>by
  simp only[List.all_cons,QQ]at hd;simp only[dq,QS]at hz;obtain⟨cs,e1,hz⟩:=hz;split at hz
  ·have hcs:=SM hd.1 e1;simp only[pX hcs h,QO,QS]at hz;obtain⟨⟨r1,r2,r3⟩,e2,e3⟩:=hz;obtain⟨q1,q2,q3⟩:=SY hd.2 e2
   simp_all[dq,QO,if_pos,pX,aeg]
  grind
theorem T1{k k0 i j}{agg}{o}{ks}(hz:lA h k agg k0 i j o=some (x,h',ks)):h'=h/\ks=[]/\∀g,lA g k agg k0 i j o=some (x,g,[]):=by
 cases o with
 |none=>cases hz
 |some q=>
  simp only[lA]at hz;split at hz
  ·simp only[QS,adV]at hz;obtain⟨row,e1,a,e2,e3⟩:=hz
   simp_all[lA,if_pos,QO,ad5]
  grind
theorem ZQ{k id k0 i j}{agg}{o}(hz:sx h k agg id k0 i j o=some (x,h',[])):h'=h/\∀g,sx g k agg id k0 i j o=some (x,g,[]):=by
 cases o with
 |dead=>cases hz
 |bx cs=>
  simp only[sx,wT]at hz⊢;grind
 |ar k' rows=>
  grind[sx,T1]
 |fz k' rows=>
  grind[sx,T1]
theorem YJ{k}{agg}{a}(hz:hH h k agg a=some (x,h',[]))(hp:kL a=some (r,w)):SX (fun g=>hH g k agg a) (fun _ _=>kL a) h x h' r w:=by
 cases a<;>simp only[kL]at hp<;>try (cases hp;done)
 case ipt cs=>
  cases hp;refine Tn rfl (fun _ _=>rfl) fun g _=>?_;grind[hH,adV]
 case ref id sub k0 i j=>
  cases hp;refine Tn rfl (fun _ _=>rfl) fun g hg=>?_;cases sub with
  |none=>
   grind[hH,ZQ]
  |some p=>
   grind[hH,T1]
theorem Xw{k}{a y}(hz:kK h k a y=some (x,h',[]))(hp:xc y a=some (r,w)):SX (fun g=>kK g k a y) (fun _ _=>xc y a) h x h' r w:=by
 cases a<;>simp only[xc]at hp<;>try (cases hp;done)
 rename_i id sub k0 i j;split at hp
 ·rename_i hd;cases hp;simp only[kK,QS]at hz;obtain⟨xs,e1,hz⟩:=hz;have hxs:=SM hd e1;split at hz
  ·cases sub with
   |none=>
    simp only at hz;cases eo:h id with
    |bx cs=>
     rw[eo]at hz;simp only[AX,C1]at hz;split at hz
     ·simp only[Option.some.injEq,Prod.mk.injEq]at hz;obtain⟨rfl,rfl,e3⟩:=hz;refine RE (by simp) rfl (fun _ _=>by simp_all[xc,if_pos]) fun g hg=>?_
      simp_all[kK,QO,if_pos,AX,C1,if_true]
     grind
    |ar k' rows=>
     simp only[AX,pX hxs h,QO,eo,C2,adV]at hz;obtain⟨q,e2,e3⟩:=hz;cases e3;refine RE (by simp) rfl (fun _ _=>by simp_all[xc,if_pos]) fun g hg=>?_
     simp_all[kK,QO,if_pos,AX,pX,C2,ad5]
    |_=>rw[eo]at hz;cases hz
   |some p=>
    simp only[pX hxs h,QO]at hz;cases eo:h id with
    |bx cs=>
     rw[eo]at hz;simp only[AY]at hz;cases ec:cs[p]? with
     |none=>rw[ec]at hz;cases hz
     |some c=>
      rw[ec]at hz;cases c<;>simp only[JM]at hz<;>try (cases hz;done)
      simp only[adV]at hz;obtain⟨q,e2,e3⟩:=hz;cases e3;refine RE (by simp) rfl (fun _ _=>by simp_all[xc,if_pos]) fun g hg=>?_
      simp_all[kK,QO,if_pos,AY,pX,JM,ad5]
    |_=>rw[eo]at hz;cases hz
  grind
 grind
end
theorem Fo{a b}(h:Fa a b=true):a=b:=by
 cases a<;>cases b<;>simp only[Fa]at h<;>try (cases h;done)
 case string.string x y=>
  obtain⟨⟨x⟩⟩:=x
  simp_all
 all_goals grind
mutual
theorem Fq:∀ {a b:AV},Fb a b=true->a=b
 |a,b,h=>by
  cases a<;>cases b<;>simp only[Fb]at h<;>try (first|rfl| (cases h;done))
  case v.v=>rw[Fo h]
  case sl.sl=>simp only[QQ,decide_eq_true_eq]at h;rw[h.1,xN h.2]
  case osl.osl=>simp only[QQ,decide_eq_true_eq]at h;rw[h.1,xN h.2]
  case obx.obx=>rw[kO h]
  case agg.agg=>rw[kO h]
  case ref.ref=>grind
  case rsl.rsl=>grind
  case ipt.ipt=>rw[kO h]
  case fn.fn=>simp only[QQ,decide_eq_true_eq]at h;rw[h.1,kO h.2.1,kO h.2.2]
theorem kO:∀ {a b:List AV},pO a b=true->a=b
 |[],[],_=>rfl
 |[],_::_,h=>by cases h
 |_::_,[],h=>by cases h
 |a::l,b::r,h=>by
  simp only[pO,QQ]at h;rw[Fq h.1,kO h.2]
theorem xN:∀ {a b:List (List AV)},xu a b=true->a=b
 |[],[],_=>rfl
 |[],_::_,h=>by cases h
 |_::_,[],h=>by cases h
 |a::l,b::r,h=>by
  simp only[xu,QQ]at h;rw[kO h.1,xN h.2]
end
theorem aaS{a b}(h:GD a b=true):a=b:=by
 cases a<;>cases b<;>simp only[GD]at h<;>try (first|rfl| (cases h;done))
 case bx.bx=>rw[kO h]
 case ar.ar=>grind[xN]
 case fz.fz=>grind[xN]
theorem ZR{g h g' h'}{ids}(e:∀i,i∈ids->g i=h i)(e':∀i,i∈ids->g' i=h' i):HV g g' ids=HV h h' ids:=by
 grind[HV,List.filter_congr]
theorem aaT{h h'}{ids}{i}(hi:i∈ids)(hn:ft i∉ (HV h h' ids).map ft):h' i=h i:=by
 by_cases hs:GD (h i) (h' i)=true
 ·exact(aaS hs).symm
 ·refine absurd (List.mem_map.2 ⟨i,?_,rfl⟩) hn;simp only[HV,List.mem_filter];exact⟨hi,by simpa using hs⟩
theorem TC{a}:∀ {r l},a∈l->a∈bV l r
 |[],l,h=>h
 |b::r,l,h=>by
  unfold bV;apply TC;split
  ·exact h
  ·simp[h]
theorem SZ:∀ {r l},l.Nodup->(bV l r).Nodup
 |[],l,h=>h
 |b::r,l,h=>by
  unfold bV;apply SZ;split
  ·exact h
  ·rename_i hc;rw[List.nodup_append];refine⟨h,by simp,fun a ha c hc'=>?_⟩;simp only[List.mem_singleton]at hc';subst hc'
   rintro rfl
   exact hc (by simpa using ha)
theorem VQ{h}{a}:∀ {n} {l} {i},a∈l->a∈fy h n l i
 |0,l,i,hm=>hm
 |n+1,l,i,hm=>by
  unfold fy;split
  ·exact hm
  ·exact VQ (TC hm)
theorem Ux{h}:∀ {n} {l} {i},l.Nodup->(fy h n l i).Nodup
 |0,l,i,hm=>hm
 |n+1,l,i,hm=>by
  unfold fy;split
  ·exact hm
  ·exact Ux (SZ hm)
theorem Tp{g h}:∀ {n} {l} {i},(∀a,a∈fy h n l i->g a=h a)->fy g n l i=fy h n l i
 |0,l,i,_=>rfl
 |n+1,l,i,hg=>by
  unfold fy at hg⊢;split
  ·rfl
  ·rename_i a ha;rw[ha]at hg;rw[hg a (VQ (TC (QR ha)))];exact Tp hg
theorem Co(h)(n):fy h n [] 0=[]:=by cases n<;>simp[fy]
theorem xO{a}(h:aq a=true):eM a=[]:=by cases a<;>simp[aq]at h<;>rfl
theorem Da{a}(h:dat a=true):bK a=[]:=by
 cases a<;>simp only[dat]at h<;>try exact xO h
 all_goals simp_all[bK,List.flatMap_eq_nil_iff,xO,aq,QQ,List.isEmpty_iff]
theorem VR{a}(h:dat a=true):DZ a=true:=by
 have key:∀c,aq c=true->sA c=true:=fun c hc=>by cases c<;>simp[aq]at hc<;>rfl
 cases a<;>simp only[dat]at h<;>try exact key _ h
 all_goals simp_all[aq,QQ,List.isEmpty_iff,DZ]
section
variable {h h' g:ac} {x:AV}
theorem Uy:∀ {cs} {q},cs.all sA=true->gr h cs=some q->q=(cs,h,[])/\∀g,gr g cs=some (cs,g,[])
 |[],q,_,hz=>by cases hz;exact⟨rfl,fun g=>rfl⟩
 |c::cs,q,hd,hz=>by
  simp only[List.all_cons,QQ]at hd;simp only[gr,QS]at hz;obtain⟨p,e1,q',e2,e3⟩:=hz;have hc:p=(c,h,[])/\∀g,eJ g c=some (c,g,[]):=by
   cases c<;>simp only[sA]at hd<;>simp only[eJ]at e1⊢ <;>first| (cases hd.1;done)|skip
   all_goals
    split at e1
    ·rename_i hdl;simp only[if_pos hdl];cases e1;exact⟨rfl,fun g=>by first|trivial|rfl⟩
    ·cases e1
  obtain⟨rfl,hc2⟩:=hc;obtain⟨rfl,q2⟩:=Uy hd.2 e2;cases e3;refine⟨rfl,fun g=>?_⟩;simp only[gr,hc2 g,QO,q2 g,ad4]
theorem Xx{m}{a}{q}(hd:DZ a=true)(hz:df h m a=some q):q=(a,h,[])/\∀g,df g m a=some (a,g,[]):=by
 have key:∀c,(∀cs,c≠ .agg cs)->sA c=true->xk h c=some q->q=(c,h,[])/\∀g,xk g c=some (c,g,[]):=by
  intro c hna hc hz;have e1:∀g,xk g c=if aq c then some (c,g,[])else none:=by
   intro g;cases c<;>simp only[sA]at hc<;>first| (cases hc;done)| (exact absurd rfl (hna _))|rfl
  grind
 cases a with
 |agg cs=>
  simp only[df,xk,QS]at hz⊢;obtain⟨p,e1,e2⟩:=hz;obtain⟨rfl,q2⟩:=Uy hd e1;grind
 |rsl=>grind[DZ,sA]
 |rsc=>grind[DZ,sA]
 |ref id sub k i j=>
  cases sub with
  |none=>
   simp_all[df,Option.some.injEq,trivial]
  |some p=>exact key _ (fun cs=>by simp) rfl hz
 |ipt cs=>
  simp_all[df,Option.some.injEq,trivial]
 |fn f u v=>
  simp_all[df,Option.some.injEq,trivial]
 |_=>exact key _ (fun cs=>by simp) rfl hz
theorem T2:∀ {l} {ms} {q},l.all DZ=true->bU h ms l=some q->q=(l,h,[])/\∀g,bU g ms l=some (l,g,[])
 |[],ms,q,_,hz=>by cases hz;exact⟨rfl,fun g=>rfl⟩
 |a::l,ms,q,hd,hz=>by
  simp only[List.all_cons,QQ]at hd;simp only[bU,QS]at hz;obtain⟨p,e1,q',e2,e3⟩:=hz;obtain⟨rfl,p2⟩:=Xx hd.1 e1;obtain⟨rfl,q2⟩:=T2 hd.2 e2;cases e3;refine⟨rfl,fun g=>?_⟩;simp only[bU,p2 g,QO,q2 g,ad4]
theorem Wx{ids}{i}:∀ {l} {os} {g h},g i=h i->mM g ids l os i=mM h ids l os i
 |[],os,g,h,e=>by simp_all[mM]
 |a::l,[],g,h,e=>by simp_all[mM]
 |a::l,o::os,g,h,e=>by
  simp only[mM];apply Wx;unfold upd;split
  ·rfl
  ·exact e
theorem R5{ids}{i}:∀ {l} {os} {g},i∉l->mM g ids l os i=g i
 |[],os,g,_=>rfl
 |a::l,[],g,_=>rfl
 |a::l,o::os,g,hn=>by
  simp only[List.mem_cons,not_or]at hn;simp only[mM];rw[R5 hn.2];exact fO _ _ hn.1
theorem UN(n)(g h)(c):(ge n g c).1=(ge n h c).1:=by cases c<;>rfl
theorem XO{n i}{g h}{c}(e:g i=h i):(ge n g c).2 i=(ge n h c).2 i:=by
 cases c<;>simp only[ge]<;>first|exact e| (unfold upd;split;rfl;exact e)
theorem Wy{n i}{g}{c}(hn:i≠n):(ge n g c).2 i=g i:=by
 cases c<;>simp only[ge]<;>first|rfl|exact fO _ _ hn
theorem Wz:∀l n g h,(ng n g l).1=(ng n h l).1
 |[],n,g,h=>rfl
 |c::l,n,g,h=>by simp only[ng];rw[UN n g h,Wz l (n+1) _ (ge n h c).2]
theorem XP{i}:∀ {l} {n} {g h},g i=h i->(ng n g l).2 i=(ng n h l).2 i
 |[],n,g,h,e=>e
 |c::l,n,g,h,e=>by simp only[ng];exact XP (XO e)
theorem WA{i}:∀ {l} {n} {g},¬ (n<=i/\i<n+l.length)->(ng n g l).2 i=g i
 |[],n,g,hn=>rfl
 |c::l,n,g,hn=>by
  simp only[ng];simp only[adX]at hn;rw[WA (by omega),Wy (by omega)]
theorem XQ(n)(g h)(c):(mat n g c).1=(mat n h c).1:=by
 cases c<;>simp only[mat]<;>first|exact UN _ _ _ _|rw[Wz]
theorem ZS{n i}{g h}{c}(e:g i=h i):(mat n g c).2 i=(mat n h c).2 i:=by
 cases c<;>simp only[mat]<;>first|exact XO e|exact XP e
theorem Su{n i}{g}{c}(hn:¬ (n<=i/\i<n+jt c)):(mat n g c).2 i=g i:=by
 cases c<;>simp only[mat]<;>simp only[jt]at hn<;>first|exact Wy (by omega)|exact WA hn
theorem Uz{g h}:∀ {m n},(∀i,n<=i->i<n+m->g i=h i)->dZ g n m=dZ h n m
 |0,n,_=>rfl
 |m+1,n,hg=>by
  simp only[dZ];rw[hg n (by omega) (by omega),Uz fun i h1 h2=>hg i (by omega) (by omega)]
theorem TN{g h}{gv}:∀ {l} {os},(∀a,a∈l->g a=h a)->jW g gv l os=jW h gv l os
 |[],os,_=>rfl
 |a::l,[],_=>rfl
 |a::l,o::os,hg=>by
  simp only[jW];rw[hg a (by simp),TN fun b hb=>hg b (by simp[hb])]
theorem Td{d i}(h1:2000+8*d<=i)(h2:i<2000+8*d+8):ft i=2000+8*d:=by
 unfold ft;grind
theorem Wb{kp}{d}{ids}{gv}{r}(hz:jX kp h d ids [] gv r=some (x,h',[]))(hg:∀i,ft i∈ids.map ft++[2000+8*d]->g i=h i):
  ∃g',jX kp g d ids [] gv r=some (x,g',[])/\(∀i,ft i∈ids.map ft++[2000+8*d]->g' i=h' i)/\(∀i,ft i∉ids.map ft++[2000+8*d]->g' i=g i)/\∀i,i∉ids->ft i≠2000+8*d->h' i=h i:=by
 unfold jX at hz⊢;split at hz
 ·rename_i hc;simp only[Option.some.injEq,Prod.mk.injEq,aeg,List.append_eq_nil_iff]at hz;obtain⟨rfl,rfl,hk,rfl⟩:=hz;obtain⟨c1,c0,c2,c3,c4,c5⟩:=hc;have hfr:dZ g (2000+8*d) (jt r.1)=true:=by
   grind[Uz,Td]
  have hst:jW g [] ids r.2=true:=by grind[TN]
  refine⟨(mat (2000+8*d) (mM g ids ids r.2) r.1).2,?_,fun i hi=>?_,fun i hi=>?_,fun i hi hi2=>?_⟩
  ·rw[if_pos ⟨c1,c0,c2,hfr,hst,c5⟩,hk];simp only[mL,ad4];rw[XQ _ (mM g ids ids r.2) (mM h ids ids r.2)]
  ·simp only[mL];grind[ZS,Wx]
  ·rw[Su (fun hh=>hi (by grind[Td])),R5 (fun hh=>hi (by grind))]
  ·simp only[mL];rw[Su (fun hh=>hi2 (Td hh.1 (by omega))),R5 hi]
 grind
theorem Xy{call}{md}{d}{f}{zas}{r w}(hz:eN call md h d zas f=some (x,h',[]))(hp:pP h d (lW zas f) h'=some (r,w)):
  SX (fun g=>eN call md g d zas f) (fun g=>pP g d (lW zas f)) h x h' r w:=by
 cases f<;>simp only[eN]at hz<;>try (cases hz;done)
 rename_i fid a b;simp only[lW]at hp;simp only[QS]at hz;obtain⟨p,e1,e2⟩:=hz;have hno:(a++zas++b).all DZ=true:=by
  grind[pP,ad1,VR]
 obtain⟨rfl,e3⟩:=T2 hno e1;generalize hI:fy h 40 (bV [] ((a++zas++b).flatMap bK)) 0=ids at*
 have hids:(∀i,i∈ids->ft i∈r)/\w=(HV h h' ids).map ft++[2000+8*d]/\
   (∀g g',(∀i,i∈ids->g i=h i)->(∀i,i∈ids->g' i=h' i)->pP g d (a++zas++b) g'=some (r,w)):=by
  unfold pP at hp;split at hp
  ·cases hp;have:(a++zas++b).flatMap bK=[]:=by
    grind[List.flatMap_eq_nil_iff,Da]
   rw[this]at hI;simp only[bV,Co]at hI;subst hI;refine⟨fun i hi=>by grind,rfl,fun g g' _ _=>?_⟩
   simp_all[pP,if_pos]
  ·rename_i hd;rw[hI]at hp;cases hp;refine⟨fun i hi=>List.mem_map.2 ⟨i,hi,rfl⟩,rfl,fun g g' hg hg'=>?_⟩;unfold pP;have hre:fy g 40 (bV [] ((a++zas++b).flatMap bK)) 0=ids:=by
    grind[Tp]
   rw[if_neg hd,if_pos hno,hre,ZR hg hg']
 obtain⟨hi1,hi2,hi3⟩:=hids;intro g hg;have hat:=fun i hi=>hg i (.inl (hi1 i hi));have hre:fy g 40 (bV [] ((a++zas++b).flatMap bK)) 0=ids:=by
  grind[Tp]
 unfold lB at e2;split at e2
 ·simp only[QS]at e2;obtain⟨res,e4,e5⟩:=e2;have hgl:∀i,ft i∈ids.map ft++[2000+8*d]->g i=h i:=fun i hi=>by
   grind
  obtain⟨g',g1,g2,g3,g4⟩:=Wb e5 (g:=g) hgl;have hat':=fun i hi=>g2 i (List.mem_append_left _ (List.mem_map.2 ⟨i,hi,rfl⟩));refine⟨g',?_,hi3 g g' hat hat',fun i hi=>g2 i ?_,fun i hi=>?_⟩
  ·simp only[eN,e3 g,QO,hre];unfold lB;have hmap:ids.map (fun a=>jq (dh ids) (g a))=ids.map fun a=>jq (dh ids) (h a):=aef fun i hi=>by rw[hat i hi]
   grind
  ·rw[hi2]at hi;rcases List.mem_append.1 hi with hi|hi
   ·refine List.mem_append_left _ ?_;obtain⟨a,ha,hae⟩:=List.mem_map.1 hi;exact List.mem_map.2 ⟨a,(List.mem_filter.1 ha).1,hae⟩
   grind
  grind[ft,aaT,List.mem_append_left]
 grind
theorem U6{call}{md}{d}{f}{zas}{r w}(hz:aM call md h d zas f=some (x,h',[]))(hp:pP h d (lW zas f) h'=some (r,w)):
  SX (fun g=>aM call md g d zas f) (fun g=>pP g d (lW zas f)) h x h' r w:=by
 have hb:¬jY md zas f=true:=by
  intro hb;have hno:∀l:List AV,l.all DZ=true->l.any (fun x=>!Bl x)=false:=fun l hl=>by
   rw[List.any_eq_false];intro c hc;have:=List.all_eq_true.1 hl c hc;cases c<;>simp[DZ,sA,Bl]at this⊢
  cases f<;>simp only[jY,QQ]at hb<;>try (cases hb;done)
  simp only[lW]at hp;unfold pP at hp;split at hp
  ·rename_i hd;rw[hno _ (List.all_eq_true.2 fun c hc=>VR (List.all_eq_true.1 hd c hc))]at hb;grind
  grind
 simp_all[aM,if_neg,Xy]
theorem UA{d}{x0 x}{h0 g0 h'}{k0}(hz:qO d (x0,h0,k0)=some (x,h',[]))(hg:∀i,ft i=2000+8*d->g0 i=h0 i):
  k0=[]/\∃g',qO d (x0,g0,[])=some (x,g',[])/\(∀i,ft i=2000+8*d->g' i=h' i)/\(∀i,ft i≠2000+8*d->g' i=g0 i):=by
 unfold qO at hz⊢;simp only at hz⊢;split at hz
 ·rename_i id k lo n;split at hz
  ·rename_i hid;subst hid;have hgd:ft (2000+8*d)=2000+8*d:=Td (QK _) (by omega);have he:=hg _ hgd;simp only[eJ]at hz⊢;rw[he];cases eo:h0 (2000+8*d)<;>rw[eo]at hz<;>simp only[jV]at hz⊢ <;>try (cases hz;done)
   ·simp_all
   ·split at hz
    ·rename_i hc;rw[if_pos hc];simp only[ad5,Option.some.injEq,Prod.mk.injEq,ad4]at hz;obtain⟨rfl,rfl,rfl⟩:=hz;refine⟨rfl,upd g0 (2000+8*d) (.fz k _),rfl,fun i hi=>?_,fun i hi=>?_⟩
     all_goals grind[upd,absurd]
    grind
   grind
  grind
 grind
theorem TD{call}{md}{d}{op}{s}{r w}(hz:step call md d op s h=some (x,h',[]))(hp:jZ d op s h h'=some (r,w)):
  SX (fun g=>step call md d op s g) (fun g=>jZ d op s g) h x h' r w:=by
 cases op with
 |p op=>
  obtain⟨rfl,rfl⟩:=hp;simp only[step,tD,adV]at hz;obtain⟨a,e1,e2⟩:=hz;cases e2;exact Tn rfl (fun _ _=>rfl) fun g _=>by simp only[step,tD,e1,ad5]
 |alloc z=>
  obtain⟨rfl,rfl⟩:=hp;obtain⟨h1,rfl,rfl,_⟩:=Rl hz;exact RE (by simp) rfl (fun _ _=>rfl) fun g hg=>by grind[step,gP,xr]
 |box k y=>
  simp only[jZ]at hp;split at hp
  ·rename_i hd;cases hp;simp only[step,rD,QS]at hz;obtain⟨xs,e1,hz⟩:=hz;split at hz
   ·rename_i hk;simp only[SM hd e1,if_true,gP]at hz;obtain⟨h1,rfl,rfl,_⟩:=Rl hz;refine RE (by simp) rfl (fun _ _=>by simp_all[jZ,if_pos]) fun g hg=>?_;simp only[step,rD,QO,if_pos hk,SM hd e1,if_true,gP,xr, *]
   grind
  grind
 |buildSl k z n ps=>
  simp only[jZ]at hp;split at hp
  ·rename_i hd;cases hp;simp only[step,QS]at hz;obtain⟨q,e1,hz⟩:=hz;have hd':((ps.map fun p=>(p.1,ev s p.2)).all fun p=>dat p.2)=true:=by
    grind
   obtain⟨e2,e3,e4⟩:=SY hd' e1;obtain⟨q1,q2,q3⟩:=q;simp only at e2 e3 e4 hz;subst e2 e3;obtain⟨h1,rfl,rfl,_⟩:=Rl hz;refine RE (by simp) rfl (fun _ _=>by simp only[jZ,if_pos hd]) fun g hg=>?_;simp only[step,e4 g,QO,aT,xr, *]
  grind
 |buildC k z n ps=>
  simp only[jZ]at hp;split at hp
  ·rename_i hd;cases hp;simp only[step,QS]at hz;obtain⟨x0,⟨q,e1,hz⟩,hco⟩:=hz;have hd':((ps.map fun p=>(p.1,ev s p.2)).all fun p=>dat p.2)=true:=by
    grind
   obtain⟨e2,e3,e4⟩:=SY hd' e1;obtain⟨q1,q2,q3⟩:=q;simp only at e2 e3 e4 hz;subst e2 e3;obtain⟨x1,x2,x3⟩:=x0;obtain⟨h1,rfl,rfl,rfl⟩:=Rl hz;have hu:∀g (a b:Ob),upd (upd g d a) d b=upd g d b:=fun g a b=>by funext i;simp only[QY];split<;>rfl
   have key:∀g,g d=.dead->step call md d (.buildC k z n ps) s g=if 0+n<=q1.length then some (jo k 0 n q1,upd g d (.fz k q1),[])else none:=fun g hg=>by
    simp only[step,e4 g,QO,aT,xr,sz,eJ,jV,QY,if_true,true_and, *];split<;>simp
   simp only[sz,eJ,jV,QY,if_true,true_and,hu]at hco;split at hco
   ·rename_i hle;cases hco;refine RE (by simp) rfl (fun _ _=>by simp only[jZ,if_pos hd]) fun g hg=>?_;rw[key g (by rw[hg];exact h1),if_pos hle]
   ·cases hco
  grind
 |mkSl k z b l c=>
  obtain⟨rfl,rfl⟩:=hp;simp only[step,QS]at hz;obtain⟨q,e1,hz⟩:=hz;split at hz
  ·obtain⟨h1,rfl,rfl,_⟩:=Rl hz;refine RE (by simp) rfl (fun _ _=>rfl) fun g hg=>?_
   simp_all[step,QO,if_pos,aT,xr]
  grind
 |load k g y=>exact YJ hz hp
 |store k a y=>exact Xw hz hp
 |app k b a y=>cases hp
 |cpy k x y=>cases hp
 |slcM k x lo hi=>cases hp
 |clr k z x=>cases hp
 |appz k b z x n=>cases hp
 |take x=>cases hp
 |call f zas=>exact U6 hz hp
 |callC f zas=>
  simp only[step,QS]at hz;obtain⟨⟨x0,h0,k0⟩,e1,e2⟩:=hz;simp only[jZ,xw]at hp;split at hp
  ·cases hp;obtain⟨rfl,_⟩:=UA (g0:=h0) e2 (fun _ _=>rfl);have hp1:pP h d (lW (zas.map (ev s)) (ev s f)) h0=some ([],[2000+8*d]):=by simp_all[pP,if_pos]
   intro g hg;obtain⟨g0,a1,a2,a3,a4⟩:=U6 e1 hp1 g hg;obtain⟨_,g',b1,b2,b3⟩:=UA e2 (g0:=g0) (fun i hi=>a3 i (by grind))
   simp_all[aM,ev,step,jZ,xw,if_pos]
  grind
 |bad=>cases hz
end
section
variable {call:bQ} {md:Mode} {s:ah} {h:ac}
theorem Rf{s s'}{o}(hs:∀i,i∈bL o->s' i=s i):ev s' o=ev s o:=by
 cases o with
 |t n=>exact hs n (by simp[bL])
 |c a=>rfl
theorem R6{s s'}{o}(hs:∀i,i∈jd o.toList->s' i=s i):evo s' o=evo s o:=by
 cases o with
 |none=>rfl
 |some o=>grind[evo,Rf,jd]
theorem Te{s s'}{l}(hs:∀i,i∈jd l->s' i=s i):l.map (ev s')=l.map (ev s):=
 aef fun o ho=>Rf fun i hi=>hs i (by simp only[jd,List.mem_flatMap];exact⟨o,ho,hi⟩)
theorem ZT{s s'}{op}(hs:∀i,i∈E8 op->s' i=s i):dw s' op=dw s op:=by
 cases op<;>simp only[E8,List.mem_append]at hs<;>simp only[dw]
 case build z ps=>
  have:(ps.map fun p=>(p.1,p.2.1,ev s' p.2.2))=ps.map fun p=>(p.1,p.2.1,ev s p.2.2):=
   aef fun p hp=>by rw[Rf fun i hi=>hs i (by rw[List.mem_flatMap];exact⟨p,hp,hi⟩)]
  rw[this]
 case mnx m x ys=>rw[Rf fun i hi=>hs i (.inl hi),Te fun i hi=>hs i (.inr hi)]
 case mkF f a b=>rw[Te fun i hi=>hs i (.inl hi),Te fun i hi=>hs i (.inr hi)]
 case pick c a b=>rw[Rf fun i hi=>hs i (.inl hi),Rf fun i hi=>hs i (.inr (.inl hi)),Rf fun i hi=>hs i (.inr (.inr hi))]
 case slc k x lo hi mx=>rw[Rf fun i hi=>hs i (.inl hi),R6 fun i hi=>hs i (.inr (.inl hi)),R6 fun i hi=>hs i (.inr (.inr (.inl hi))),R6 fun i hi=>hs i (.inr (.inr (.inr hi)))]
 case slcS x lo hi=>rw[Rf fun i hi=>hs i (.inl hi),R6 fun i hi=>hs i (.inr (.inl hi)),R6 fun i hi=>hs i (.inr (.inr hi))]
 all_goals first
  |rw[Rf hs]
  |rw[Rf fun i hi=>hs i (.inl hi),Rf fun i hi=>hs i (.inr hi)]
theorem Sf{s s'}{d}{op}(hs:∀i,i∈E9 op->s' i=s i):step call md d op s' h=step call md d op s h/\∀h',jZ d op s' h h'=jZ d op s h h':=by
 cases op<;>simp only[E9,List.mem_append]at hs<;>simp only[step,jZ]
 case p op=>simp_all[ZT,trivial]
 case buildSl k z n ps=>
  have:(ps.map fun p=>(p.1,ev s' p.2))=ps.map fun p=>(p.1,ev s p.2):=
   aef fun p hp=>by rw[Rf fun i hi=>hs i (by rw[List.mem_flatMap];exact⟨p,hp,hi⟩)]
  rw[this];have h2:(ps.all fun p=>dat (ev s' p.2))=ps.all fun p=>dat (ev s p.2):=by
   rw[show(ps.all fun p=>dat (ev s' p.2))=((ps.map fun p=>(p.1,ev s' p.2)).all fun p=>dat p.2)from by rw[List.all_map];rfl,this,List.all_map];rfl
  rw[h2];exact⟨rfl,fun _=>rfl⟩
 case buildC k z n ps=>
  have:(ps.map fun p=>(p.1,ev s' p.2))=ps.map fun p=>(p.1,ev s p.2):=
   aef fun p hp=>by rw[Rf fun i hi=>hs i (by rw[List.mem_flatMap];exact⟨p,hp,hi⟩)]
  rw[this];have h2:(ps.all fun p=>dat (ev s' p.2))=ps.all fun p=>dat (ev s p.2):=by
   rw[show(ps.all fun p=>dat (ev s' p.2))=((ps.map fun p=>(p.1,ev s' p.2)).all fun p=>dat p.2)from by rw[List.all_map];rfl,this,List.all_map];rfl
  rw[h2];exact⟨rfl,fun _=>rfl⟩
 case slcM k x lo hi=>simp_all[Rf,R6,trivial]
 all_goals simp_all[Rf,Te,trivial]
theorem T3{d}{f}{f'}{r}{t}(hz:mO s d f r=some (t,f')):∃x h',r=some (x,h',[])/\t=⟨kU s d x,h'⟩/\f'=f h':=by
 unfold mO at hz;grind
theorem Tf{o}{t}{f}(hz:je call md o s h=some (t,f)):
  ∃x h',t=⟨kU s o.d x,h'⟩/\((∀s',∀g,(∀i,i∈Ci o->s' i=s i)->je call md o s' g=some (⟨kU s' o.d x,g⟩,some ([],[])))/\h'=h/\f=some ([],[])\/
   (step call md (o.d.getD 0) o.op s h=some (x,h',[])/\f=jZ (o.d.getD 0) o.op s h h'/\
    ∀s',∀g,(∀i,i∈Ci o->s' i=s i)->je call md o s' g=mO s' o.d (jZ (o.d.getD 0) o.op s g) (step call md (o.d.getD 0) o.op s g))):=by
 unfold je at hz;cases hg:o.g with
 |none=>
  rw[hg]at hz;obtain⟨x,h',e1,e2,e3⟩:=T3 hz;refine⟨x,h',e2,.inr ⟨e1,e3,fun s' g hs=>?_⟩⟩;simp only[Ci,hg,aeg]at hs;unfold je;rw[hg];rw[(Sf (h:=g) hs).1,funext (Sf (call:=call) (md:=md) (h:=g) hs).2]
 |some jb=>
  obtain⟨j,b⟩:=jb;rw[hg]at hz;simp only at hz;have hj:∀s':ah,(∀i,i∈Ci o->s' i=s i)->s' j=s j:=fun s' hs=>hs j (by grind[Ci]);unfold oE at hz;split at hz
  ·rename_i bb hb;split at hz
   ·rename_i hbb;obtain⟨x,h',e1,e2,e3⟩:=T3 hz;refine⟨x,h',e2,.inr ⟨e1,e3,fun s' g hs=>?_⟩⟩;unfold je;rw[hg];simp only;rw[hj s' hs,hb];simp only[oE,if_pos hbb];simp only[Ci,hg,List.mem_append]at hs;rw[(Sf (h:=g) fun i hi=>hs i (.inr hi)).1,funext (Sf (call:=call) (md:=md) (h:=g) fun i hi=>hs i (.inr hi)).2]
   ·cases hz;refine⟨.und,h,rfl,.inl ⟨fun s' g hs=>?_,rfl,rfl⟩⟩
    simp_all[je,oE,if_neg]
  ·cases hz;refine⟨.und,h,rfl,.inl ⟨fun s' g hs=>?_,rfl,rfl⟩⟩
   simp_all[je,oE]
  grind
theorem Un{d}{x}{i}(hn:∀e,d=some e->i≠e):kU s d x i=s i:=by
 cases d with
 |none=>rfl
 |some e=>exact fO _ _ (hn e rfl)
theorem VU{a b}(x y)(hn:∀i j,a=some i->b=some j->i≠j):kU (kU s a x) b y=kU (kU s b y) a x:=by
 cases a with
 |none=>rfl
 |some i=>
  cases b with
  |none=>rfl
  |some j=>
   funext k;simp only[kU,upd];grind
theorem U7{a b}(hi:w9 a b=true):(∀i d,i∈Ci b->a.d=some d->i≠d)/\(∀i d,i∈Ci a->b.d=some d->i≠d)/\∀i j,a.d=some i->b.d=some j->i≠j:=by
 simp only[w9,QQ]at hi;grind
def pY(f g:Fp):Prop:=j5 f g=true
theorem VV{a b}(h:pR a b=true){i}(ha:i∈a):i∉b:=by
 simp only[pR,ad1,Bool.not_eq_true',List.contains_eq_mem,decide_eq_false_iff_not]at h;exact h i ha
theorem SN{α:Type}{l:List α}(h:l.isEmpty=true):l=[]:=by cases l<;>simp at h⊢
theorem ac6{a b}{t1 t2}{fa fb}(ha:je call md a s h=some (t1,fa))(hb:je call md b t1.s t1.h=some (t2,fb))(hi:w9 a b=true)(hf:pY fa fb):
  ∃t,je call md b s h=some (t,fb)/\je call md a t.s t.h=some (t2,fa):=by
 obtain⟨i1,i2,i3⟩:=U7 hi;obtain⟨xa,ha',rfl,ca⟩:=Tf ha;obtain⟨xb,hb',rfl,cb⟩:=Tf hb;have sb:∀i,i∈Ci b->s i=kU s a.d xa i:=fun i hm=>(Un fun e he=>i1 i e hm he).symm;have sa:∀i,i∈Ci a->kU s b.d xb i=s i:=fun i hm=>Un fun e he=>i2 i e hm he;have sc:=VU (s:=s) xa xb i3;rcases ca with⟨ca,rfl,rfl⟩| ⟨ea,rfl,ca⟩
 ·
  rcases cb with⟨cb,rfl,rfl⟩| ⟨eb,rfl,cb⟩
  ·grind
  ·refine⟨⟨kU s b.d xb,hb'⟩,?_,by rw[ca _ _ sa,←sc]⟩;rw[cb s _ sb,eb];rfl
 ·rcases cb with⟨cb,rfl,rfl⟩| ⟨eb,rfl,cb⟩
  ·grind[mO]
  ·
   unfold pY at hf;cases efa:jZ (a.d.getD 0) a.op s h ha' with
   |none=>
    rw[efa]at hf;cases efb:jZ (b.d.getD 0) b.op (kU s a.d xa) ha' hb' with
    |none=>rw[efb]at hf;cases hf
    |some q=>
     obtain⟨r,w⟩:=q;rw[efb]at hf;simp only[j5,QQ]at hf;have hr:=SN hf.1;have hw:=SN hf.2;subst hr hw;have fb:=TD eb efb;obtain⟨g1,p1,p2,p3,p4⟩:=fb h (fun i hi=>by grind);obtain⟨g2,q1,q2,q3,q4⟩:=fb ha' (fun i hi=>rfl);have e1:=funext fun i=>p4 i (by simp);have e2:hb'=ha':=by
      grind
     grind[mO]
   |some p=>
    obtain⟨ra,wa⟩:=p;rw[efa]at hf;have fra:=TD ea efa;cases efb:jZ (b.d.getD 0) b.op (kU s a.d xa) ha' hb' with
    |none=>
     rw[efb]at hf;simp only[j5,QQ]at hf;have hr:=SN hf.1;have hw:=SN hf.2;subst hr hw;obtain⟨g1,p1,p2,p3,p4⟩:=fra h (fun i hi=>rfl);have e1:ha'=h:=by
      grind
     obtain⟨g2,q1,q2,q3,q4⟩:=fra hb' (fun i hi=>by grind);have e2:=funext fun i=>q4 i (by simp);grind[mO]
    |some q=>
     obtain⟨rb,wb⟩:=q;rw[efb]at hf;simp only[j5,QQ]at hf;obtain⟨d1,d2⟩:=hf;have frb:=TD eb efb;have hout:∀i,ft i∉wa->ha' i=h i:=by
      obtain⟨g1,p1,p2,p3,p4⟩:=fra h (fun i hi=>rfl);grind
     have hout2:∀i,ft i∉wb->hb' i=ha' i:=by
      obtain⟨g1,p1,p2,p3,p4⟩:=frb ha' (fun i hi=>rfl);grind
     have nwa:∀i,ft i∈rb\/ft i∈wb->ft i∉wa:=fun i hi hw=>VV d1 hw (by grind);obtain⟨g1,p1,p2,p3,p4⟩:=frb h (fun i hi=>(hout i (nwa i hi)).symm);have agr:∀i,ft i∈ra\/ft i∈wa->g1 i=h i:=fun i hi=>p4 i fun hw=>by
      grind[VV]
     obtain⟨g2,q1,q2,q3,q4⟩:=fra g1 agr;have e2:g2=hb':=funext fun i=>by
      by_cases hwa:ft i∈wa
      all_goals grind
     grind[mO]
theorem WB{o}{post}:∀ {pre} {s} {h} {t} {Fs},iF call md (pre++o::post) s h=some (t,Fs)->
  ∃Fpre f Fpost,Fs=Fpre++f::Fpost/\Fpre.length=pre.length/\((∀ (j:Nat) a fa,pre[j]?=some a->Fpre[j]?=some fa->w9 a o=true/\pY fa f)->
   ∃t1,je call md o s h=some (t1,f)/\iF call md (pre++post) t1.s t1.h=some (t,Fpre++Fpost))
 |[],s,h,t,Fs,hz=>by
  simp only[aeg,iF,QS]at hz;obtain⟨⟨t1,f⟩,e1,⟨t2,F2⟩,e2,e3⟩:=hz;cases e3;exact⟨[],f,F2,rfl,rfl,fun _=>⟨t1,e1,e2⟩⟩
 |a::pre,s,h,t,Fs,hz=>by
  simp only[List.cons_append,iF,QS]at hz;obtain⟨⟨t1,fa⟩,e1,⟨t2,F2⟩,e2,e3⟩:=hz;cases e3;obtain⟨Fpre,f,Fpost,rfl,hl,hh⟩:=WB e2;refine⟨fa::Fpre,f,Fpost,rfl,by grind,fun hc=>?_⟩;obtain⟨t3,g1,g2⟩:=hh fun j a' fa' h1 h2=>hc (j+1) a' fa' (by grind) (by grind);obtain⟨c1,c2⟩:=hc 0 a fa rfl rfl;obtain⟨t4,k1,k2⟩:=ac6 e1 g1 c1 c2;refine⟨t4,k1,?_⟩;simp only[List.cons_append,iF,QO, *]
end
section
variable {P:Program} {I:Inv} {call:bQ} {md:Mode} {N:Nat} {ops:Array Oper}
theorem Xz{o}{s}{h}{t}{f}(hz:je call md o s h=some (t,f)):mN call md o s h=some t:=by
 have fin:∀F r,mO s o.d F r=some (t,f)->aN md.nm s o.d r=some t:=by
  intro F r hz;obtain⟨x,h',e1,e2,_⟩:=T3 hz;subst e1 e2;simp only[aN,j6,if_true];rfl
 unfold je at hz;unfold mN;cases hg:o.g with
 |none=>
  grind
 |some jb=>
  unfold oE at hz;unfold eP;grind
theorem Sg:∀ {l} {hs cl},xK P N ops hs l=some cl->cl.length=l.length/\∀ (j:Nat) o c,l[j]?=some o->cl[j]?=some c->∃hint,xd P N ops hint o=some c
 |[],hs,cl,hc=>by grind[xK,Option.some.injEq]
 |o::l,hs,cl,hc=>by
  simp only[xK,QS]at hc;obtain⟨c,e1,q,e2,e3⟩:=hc;cases e3;obtain⟨g1,g2⟩:=Sg e2;refine⟨by simp[g1],fun j o' c' h1 h2=>?_⟩;cases j with
  |zero=>simp at h1 h2;subst h1 h2;exact⟨_,e1⟩
  |succ j=>exact g2 j o' c' (by simpa using h1) (by simpa using h2)
theorem WC:∀ {l} {s} {h} {t} {Fs},iF call md l s h=some (t,Fs)->Fs.length=l.length/\∀ (j:Nat) a f,l[j]?=some a->Fs[j]?=some f->∃s' h' t',je call md a s' h'=some (t',f)
 |[],s,h,t,Fs,hz=>by grind[iF,Option.some.injEq,Prod.mk.injEq]
 |o::l,s,h,t,Fs,hz=>by
  simp only[iF,QS]at hz;obtain⟨⟨t1,f1⟩,e1,⟨t2,F2⟩,e2,e3⟩:=hz;cases e3;obtain⟨g1,g2⟩:=WC e2;refine⟨by simp[g1],fun j a f h1 h2=>?_⟩;cases j with
  |zero=>simp at h1 h2;subst h1 h2;exact⟨s,h,t1,e1⟩
  |succ j=>exact g2 j a f (by simpa using h1) (by simpa using h2)
theorem Vq{i}:∀ {l acc},i∈Fk acc l↔i∈acc\/i∈l
 |[],acc=>by simp[Fk]
 |a::l,acc=>by
  unfold Fk;cases h:acc.contains a with
  |true=>
   rw[Vq];have ha:=by simpa using h
   constructor
   ·rintro(h1|h1)
    ·exact .inl h1
    ·exact .inr (List.mem_cons_of_mem _ h1)
   ·rintro(h1|h1)
    ·exact .inl h1
    ·rcases List.mem_cons.1 h1 with rfl|h1
     ·exact .inl ha
     ·exact .inr h1
  |false=>
   rw[Vq];simp only[List.mem_cons];constructor
   ·rintro((h1|h1)|h1)
    ·exact .inr (.inl h1)
    ·exact .inl h1
    ·exact .inr (.inr h1)
   ·rintro(h1|h1|h1)
    ·exact .inl (.inr h1)
    ·exact .inl (.inl h1)
    ·exact .inr h1
theorem UO{o}{acc}{i}:i∈J0 o acc↔i∈D5 o\/∃d∈D5 o,i∈acc.getD d []:=by
 unfold J0;rw[Vq,List.mem_append,List.mem_flatMap];simp
theorem UP:∀l acc,∃r,Fl l acc=acc++r/\r.length=l.length
 |[],acc=>⟨[],by simp[Fl],rfl⟩
 |o::l,acc=>by
  obtain⟨r,e1,e2⟩:=UP l (acc++[J0 o acc]);grind[J0,Fl,List.append_assoc]
theorem WD:∀l acc j o,l[j]?=some o->∃pre,(Fl l acc)[acc.length+j]?=some (J0 o pre)/\
  pre.length=acc.length+j/\∃r,Fl l acc=pre++r
 |[],acc,j,o,h=>by grind
 |o::l,acc,0,o',h=>by
  obtain⟨r,e1,e2⟩:=UP l (acc++[J0 o acc]);grind[Fl,List.append_assoc]
 |o::l,acc,j+1,o',h=>by
  obtain⟨pre,e1,e2,e3⟩:=WD l (acc++[J0 o acc]) j o' (by grind);refine⟨pre,?_,by grind,e3⟩;rw[Fl,←e1];grind
theorem T4{C}{j}{b}{bf}:∀ {l} {i0},Ai C j b bf i0 l=true->∀i a,l[i]?=some a->(i0+i)∈bf\/C (i0+i) j a b=true
 |[],i0,_,i,a,h=>by grind
 |c::l,i0,hd,i,a,h=>by
  simp only[Ai,QQ,Bool.or_eq_true]at hd;cases i with
  |zero=>grind
  |succ i=>
   have:=T4 hd.2 i a (by grind);grind
theorem SI{C}:∀ {l} {bs} {j0} {done},done.length=j0->xL C j0 done l bs=true->∀j b bf,l[j]?=some b->bs[j]?=some bf->
  (∀i∈bf,i<j0+j)/\∀i a,i<j0+j->(done++l)[i]?=some a->i∈bf\/C i (j0+j) a b=true
 |[],bs,j0,done,hl,hd,j,b,bf,h1,h2=>by grind
 |c::l,[],j0,done,hl,hd,j,b,bf,h1,h2=>by grind
 |c::l,b0::bs,j0,done,hl,hd,j,b,bf,h1,h2=>by
  simp only[xL,QQ,ad1,decide_eq_true_eq]at hd;cases j with
  |zero=>
   simp at h1 h2;subst h1 h2;refine⟨hd.1,fun i a hi ha=>?_⟩;rw[List.getElem?_append_left (by omega)]at ha;simpa using T4 hd.2.1 i a ha
  |succ j=>
   obtain⟨g1,g2⟩:=SI (by grind) hd.2.2 j b bf (by grind) (by grind);grind
theorem VW(f):pY (some ([],[])) f:=by
 unfold pY;cases f<;>simp[j5,pR]
theorem pY.symm{f g}(h:pY f g):pY g f:=by
 unfold pY at*
 cases f<;>cases g<;>simp only[j5]at h⊢ <;>try exact h
 simp only[QQ,pR,ad1,Bool.not_eq_true',List.contains_eq_mem,decide_eq_false_iff_not,List.mem_append]at h⊢;grind
theorem XR{o}{s}{h}{t}{f}(hz:je call md o s h=some (t,f))(hp:HW o.op=true):f=some ([],[]):=by
 obtain⟨x,h',e,⟨_,_,rfl⟩| ⟨_,rfl,_⟩⟩:=Tf hz
 ·rfl
 ·cases ho:o.op<;>rw[ho]at hp<;>first|rfl|cases hp
theorem U8{o}{s}{h}{t}{f}(hz:je call md o s h=some (t,f))(hp:Cj o.op=true):∃r,f=some (r,[]):=by
 obtain⟨x,h',e,⟨_,_,rfl⟩| ⟨e2,rfl,_⟩⟩:=Tf hz
 ·grind
 ·cases ho:o.op<;>rw[ho]at hp<;>try (cases hp;done)
  rename_i k g y;rw[ho]at e2;simp only[step]at e2;simp only[jZ];cases hy:ev s y<;>rw[hy]at e2<;>simp only[hH]at e2<;>first| (cases e2;done)|exact⟨_,rfl⟩
abbrev GR:=List (Nat×COp×Fp)
theorem Ok.draws{w}{X}{ρ}{h}{s}{a}(ok:Ok I N w X ρ h s a):Ok I N {w with drawn:=w.drawn+1} X ρ h s a/\Far md.nm w ρ h {w with drawn:=w.drawn+1} ρ h:=by
 have e:Evo w ρ h {w with drawn:=w.drawn+1} ρ h []:=⟨rfl,rfl,rfl,QK _,fun _ _ _=>rfl,fun _ _ hp _=>⟨hp,rfl⟩,fun _ ho=>.inl ho,fun _ hb=>⟨hb,rfl⟩,fun _ _ hd=>⟨hd,rfl⟩⟩;exact⟨⟨ok.rel.step e (fun _=>False) (fun _ _=>⟨rfl,fun _=>rfl,fun _ _=>rfl⟩) ok.rel.inj ok.rel.nx (fun _ hf=>hf.elim),e.rs ok.rs,ok.size,ok.defers,e.inv ok.rel ok.inv⟩,e.far (j6 _)⟩
def Bv(g:Nat)(a b:COp):Prop:=∃e n,a=⟨some e,none,.p (.mv (.t n))⟩/\w9 a b=true/\(g=0\/(g≠e+1/\g≠n+1))
theorem YK{g}{a b}(h:GM g a b=true):Bv g a b:=by
 unfold GM at h;split at h
 ·rename_i e n;simp only[QQ,Bool.or_eq_true,beq_iff_eq,bne_iff_ne]at h;exact⟨e,n,rfl,h.1,h.2⟩
 grind
theorem Bv.zero{g}{a b}(h:Bv g a b):Bv 0 a b:=by
 obtain⟨e,n,h1,h2,_⟩:=h;exact⟨e,n,h1,h2,.inl rfl⟩
theorem WE(ks:K)(s:ah)(e n):jn ks (upd s e (s n))=upd (jn ks s) e (jn ks s n):=by
 cases ks with
 |nil=>rfl
 |cons p l=>
  grind[jn,upd]
theorem WF{d}{e}{x y}{s:ah}(hd:d≠some e):kU (upd s e y) d x=upd (kU s d x) e y:=by
 have:=VU (s:=s) (a:=some e) (b:=d) y x fun i j h1 h2=>by
  grind
 exact this
theorem VX{nm}{s:ah}{d}{e n}{r}{t}(h1:d≠some e)(h2:d≠some n)(hz:aN nm (upd s e (s n)) d r=some t):∃t2,aN nm s d r=some t2/\t=⟨upd t2.s e (t2.s n),t2.h⟩:=by
 unfold aN at hz⊢;split at hz
 ·split at hz
  ·grind[kU,jn,Un,WE,WF]
  grind
 grind
theorem YL{b}{s:ah}{h}{e n}{t}(hi:w9 ⟨some e,none,.p (.mv (.t n))⟩ b=true)(hz:mN call md b (upd s e (s n)) h=some t):∃t2,mN call md b s h=some t2/\t=⟨upd t2.s e (t2.s n),t2.h⟩:=by
 obtain⟨i1,i2,i3⟩:=U7 hi;have h1:=fun hh=>i3 e e rfl hh rfl;have h2:=fun hh=>i2 n n (by simp[Ci,E9,E8,bL]) hh rfl;have hr:∀i,i∈Ci b->upd s e (s n) i=s i:=fun i hm=>fO _ _ (i1 i e hm rfl);have hs:step call md (b.d.getD 0) b.op (upd s e (s n)) h=step call md (b.d.getD 0) b.op s h:=(Sf fun i hm=>hr i (by grind[Ci])).1;have hu:∀x,kU (upd s e (s n)) b.d x=upd (kU s b.d x) e (kU s b.d x n):=fun x=>by
  rw[WF h1];grind[Un]
 unfold mN at hz⊢;cases hg:b.g with
 |none=>
  grind[VX]
 |some jb=>
  obtain⟨j,w⟩:=jb;rw[hg]at hz;simp only at hz⊢;rw[hs,hr j (by grind[Ci])]at hz;unfold eP at hz⊢;split at hz
  ·split at hz
   all_goals simp_all[if_pos,VX,if_neg]
  all_goals grind
theorem aaU{s:ah}{i e}{x y}(hn:i≠e):upd (upd s e y) i x=upd (upd s i x) e y:=by
 grind[upd]
theorem YM{nm}{g}{s:ah}{h}{e n}{t}(hg:g=0\/(g≠e+1/\g≠n+1))(hz:sB nm g (upd s e (s n)) h=some t):∃t2,sB nm g s h=some t2/\t=⟨upd t2.s e (t2.s n),t2.h⟩:=by
 cases g with
 |zero=>cases hz;exact⟨_,rfl,rfl⟩
 |succ i=>
  have h1:i≠e:=by omega
  simp only[sB]at hz⊢;rw[fO _ _ h1]at hz;simp only[QS]at hz;obtain⟨r,e1,e2⟩:=hz;split at e2
  ·cases hi:s i<;>rw[hi]at e1<;>simp only[D3]at e1<;>try (cases e1;done)
   ·cases e1
    simp_all[D3,j6]
   ·rename_i id sub k lo m;cases sub with
    |none=>grind
    |some p=>
    simp only at e1;split at e1
    ·cases eo:h id<;>rw[eo]at e1<;>simp only[Fc]at e1<;>try (cases e1;done)
     rename_i cs;cases ec:cs[p]? with
     |none=>grind[D0]
     |some c=>
      rw[ec]at e1;cases c<;>simp only[D0]at e1<;>try (cases e1;done)
      split at e1
      ·cases e1
       simp_all[D3,if_pos,Fc,D0,QO,WE,aaU,fO,Ne.symm]
      grind
    grind
  grind
theorem WG{g}{y}:∀ {L} {s} {h} {t0 t1 t2} {Fs},(∀x∈L,Bv g x y)->iF call md L s h=some (t0,Fs)->sB md.nm g t0.s t0.h=some t1->mN call md y t1.s t1.h=some t2->
  ∃r1 r2,sB md.nm g s h=some r1/\mN call md y r1.s r1.h=some r2/\iF call md L r2.s r2.h=some (t2,Fs)
 |[],s,h,t0,t1,t2,Fs,_,h1,h2,h3=>by
  grind[iF,Option.some.injEq,Prod.mk.injEq]
 |a::L,s,h,t0,t1,t2,Fs,hl,h1,h2,h3=>by
  obtain⟨e,n,rfl,hi,hg⟩:=hl a (by simp);simp only[iF,QS]at h1;obtain⟨⟨t',f⟩,e1,⟨t'',F2⟩,e2,e3⟩:=h1;cases e3;have e1':t'=⟨upd s e (s n),h⟩/\f=some ([],[]):=by
   simp only[je,step,dw,ev,tD,ad5,mO,jZ,Option.some.injEq,Prod.mk.injEq]at e1;exact⟨e1.1.symm,e1.2.symm⟩
  obtain⟨rfl,rfl⟩:=e1';obtain⟨r1,r2,g1,g2,g3⟩:=WG (fun x hx=>hl x (by grind)) e2 h2 h3;obtain⟨q1,k1,rfl⟩:=YM hg g1;obtain⟨q2,k2,rfl⟩:=YL hi g2
  simp_all[iF,je,step,dw,ev,tD,ad5,mO,jZ,QO,kU]
abbrev GT:=List (Nat×COp)
structure RestB (ops:Array Oper) (cl:List COp) (bf:Nat->List Nat) (listed:Array Bool) (g:Nat) (L:GR) (T:GT):Prop where
 size:listed.size=ops.size
 op:∀x∈L,cl[x.1]?=some x.2.1/\listed.getD x.1 true=false
 opT:∀y∈T,cl[y.1]?=some y.2/\listed.getD y.1 true=false
 all:∀j,j<ops.size->listed.getD j true=false->(∃x∈L,x.1=j)\/∃y∈T,y.1=j
 pw:L.Pairwise fun x y=>x.1<y.1/\(x.1∈bf y.1\/(w9 x.2.1 y.2.1=true/\pY x.2.2 y.2.2))
 lt:∀x∈L,∀y∈T,x.1<y.1/\(x.1∈bf y.1\/Bv g x.2.1 y.2)
 pwT:T.Pairwise fun x y=>x.1<y.1/\x.1∈bf y.1
 cls:∀k,k<ops.size->listed.getD k true=true->∀i∈bf k,listed.getD i true=true
theorem T5(hcall:Rq P I call md)(hN:N<=1000){hs cl}(hc:xK P N ops hs ops.toList=some cl){bf}
  (hlt:∀j,j<ops.size->∀i∈bf j,i<j) (hdep:∀j o,ops[j]?=some o->(∀d∈D5 o,d∈bf j)/\∀i∈bf j,i∈D5 o\/∃d∈D5 o,i∈bf d):
  ∀fuel {g} {L} {T} {listed} {w} {X} {ρ} {h} {s} {a} {t0 tg t} {Q},L.length+T.length=fuel->RestB ops cl bf listed g L T->
   iF call md (L.map (·.2.1)) s h=some (t0,L.map (·.2.2))->sB md.nm g t0.s t0.h=some tg->ae call md (T.map (·.2)) tg.s tg.h=some t->Ok I N w X ρ h s a->(∀a' w' ρ',Ok I N w' X ρ' t.h t.s a'->Far md.nm w ρ h w' ρ' t.h->Q .normal a' w')->wpAny P .any ops Q fuel listed a w
 |0,g,L,T,listed,w,X,ρ,h,s,a,t0,tg,t,Q,hl,hr,hz,hgh,hT,ok,hQ=>by
  have:L=[]:=by simp_all
  subst this;have:T=[]:=by simp_all
  subst this;simp only[List.map_nil,iF,Option.some.injEq,Prod.mk.injEq]at hz;obtain⟨rfl,_⟩:=hz;simp only[List.map_nil,ae,Option.some.injEq]at hT;subst hT;obtain⟨ρ',ok',far'⟩:=Uu ok hgh;refine⟨?_,hQ _ _ ρ' ok' far'⟩;rw[List.eq_nil_iff_forall_not_mem];intro j hj;obtain⟨h1,o,h2,_⟩:=mem_ready.1 hj;rcases hr.all j (Array.getElem?_eq_some_iff.1 h2).1 h1 with⟨x,hx,_⟩| ⟨x,hx,_⟩<;>simp at hx
 |fuel+1,g,L,T,listed,w,X,ρ,h,s,a,t0,tg,t,Q,hl,hr,hz,hgh,hT,ok,hQ=>by
  have tf:∀d,d<ops.size->listed.getD d true=listed.getD d false:=fun d hd=>by
   have:d<listed.size:=by rw[hr.size];omega
   grind
  have lenc:=(Sg hc).1;have cllt:∀ {j:Nat} {c:COp},cl[j]?=some c->j<ops.size:=fun h1=>by
   grind
  have first:∀j,j<ops.size->listed.getD j true=false->(∀k,k<j->listed.getD k true=true)->j∈Region.ready .any ops listed:=by
   intro j hj h1 h2;have hox:ops[j]?=some ops[j]:=by grind
   refine mem_ready.2 ⟨h1,ops[j],hox,fun e he hb=>?_⟩;have hd:e.on∈D5 ops[j]:=by
    simp only[D5,aec,List.mem_filter];exact⟨e,⟨by simpa using he,hb⟩,rfl⟩
   have hlt':=hlt j hj _ ((hdep j _ hox).1 _ hd);rw[←tf e.on (by omega)];exact h2 _ hlt'
  have isT:∀k,listed.getD k true=true\/listed.getD k true=false:=fun k=>by cases listed.getD k true<;>simp
  refine⟨fun hnil=>?_,fun i hi=>?_⟩
  ·exfalso;have key:∃j,j<ops.size/\listed.getD j true=false/\∀k,k<j->listed.getD k true=true:=by
    cases L with
    |cons x L'=>
     obtain⟨h1,h2⟩:=hr.op x (by simp);refine⟨x.1,cllt h1,h2,fun k hk=>?_⟩;rcases isT k with h3|h3
     ·omega
     ·rcases hr.all k (Nat.lt_trans hk (cllt h1)) h3 with⟨y,hy,rfl⟩| ⟨y,hy,rfl⟩
      ·rcases List.mem_cons.1 hy with rfl|hy'
       ·omega
       ·have:=(List.pairwise_cons.1 hr.pw).1 y hy';omega
      ·have:=(hr.lt x (by simp) y hy).1;omega
    |nil=>
     cases T with
     |nil=>grind
     |cons x T'=>
      obtain⟨h1,h2⟩:=hr.opT x (by simp);refine⟨x.1,cllt h1,h2,fun k hk=>?_⟩;rcases isT k with h3|h3
      ·omega
      ·rcases hr.all k (Nat.lt_trans hk (cllt h1)) h3 with⟨y,hy,rfl⟩| ⟨y,hy,rfl⟩
       ·grind
       ·rcases List.mem_cons.1 hy with rfl|hy'
        ·omega
        ·have:=(List.pairwise_cons.1 hr.pwT).1 y hy';omega
   grind
  ·obtain⟨h1,o,h2,h3⟩:=mem_ready.1 hi;have hisz:=(Array.getElem?_eq_some_iff.1 h2).1;have hbl:∀k∈bf i,listed.getD k true=true:=by
    intro k hk;have dl:∀d∈D5 o,listed.getD d true=true:=by
     intro d hd;have hdl:d<ops.size:=Nat.lt_trans (hlt i hisz d ((hdep i o h2).1 d hd)) hisz;simp only[D5,aec,List.mem_filter]at hd;obtain⟨e,⟨he,hb⟩,rfl⟩:=hd;rw[tf _ hdl];exact h3 e (by simpa using he) hb
    rcases(hdep i o h2).2 k hk with hd| ⟨d,hd,hkd⟩
    ·grind
    ·exact hr.cls d (Nat.lt_trans (hlt i hisz d ((hdep i o h2).1 d hd)) hisz) (dl d hd) k hkd
   have set_ne:∀k,k≠i->(listed.setIfInBounds i true).getD k true=listed.getD k true:=fun k hk=>getD_set_ne true (Ne.symm hk);have set_same:(listed.setIfInBounds i true).getD i true=true:=by
    simp_all
   have cls':∀k,k<ops.size->(listed.setIfInBounds i true).getD k true=true->∀k'∈bf k,(listed.setIfInBounds i true).getD k' true=true:=fun k hk hkl k' hk'=>by
    have old:listed.getD k' true=true:=by
     by_cases hkx:k=i
     ·grind
     ·rw[set_ne _ hkx]at hkl;exact hr.cls k hk hkl k' hk'
    grind
   rcases hr.all i hisz h1 with⟨x,hx,rfl⟩| ⟨y,hy,rfl⟩
   ·obtain⟨L1,L2,rfl⟩:=List.append_of_mem hx;have hpw:=hr.pw;rw[List.pairwise_append]at hpw;obtain⟨pw1,pw2,pw3⟩:=hpw;rw[List.pairwise_cons]at pw2;simp only[List.map_append,List.map_cons]at hz;obtain⟨Fpre,f,Fpost,e1,e2,e3⟩:=WB hz;have e4:Fpre=L1.map (·.2.2)/\f=x.2.2/\Fpost=L2.map (·.2.2):=by
     grind[List.append_inj,List.cons.injEq]
    obtain⟨rfl,rfl,rfl⟩:=e4;obtain⟨t1,g1,g2⟩:=e3 fun j c fc hj1 hj2=>by
     simp only[aeb,adV]at hj1 hj2;obtain⟨y,hy,rfl⟩:=hj1;obtain⟨y',hy',rfl⟩:=hj2;rw[hy]at hy';cases hy';have hyL:=QR hy;rcases(pw3 y hyL x (by simp)).2 with hin|hh
     ·have:=hbl _ hin;rw[(hr.op y (by grind)).2]at this;grind
     omega
    obtain⟨c1,_⟩:=hr.op x (by simp);obtain⟨hint,hco⟩:=(Sg hc).2 x.1 o x.2.1 (by simpa using h2) c1;have nx:∀y,y∈L1++L2->y.1≠x.1:=by
     intro y hy;rcases List.mem_append.1 hy with hy|hy
     ·have:=(pw3 y hy x (by simp)).1;omega
     ·have:=(pw2.1 y hy).1;omega
    refine TB hcall hN h2 hco ok (Xz g1) fun a' w' ρ' ok' far=>?_;refine T5 hcall hN hc hlt hdep fuel (L:=L1++L2) (T:=T) (by simp at hl⊢;omega) ⟨by simpa using hr.size,fun y hy=>?_,fun y hy=>?_,fun j hj hjl=>?_,?_,fun y hy=>hr.lt y (by rcases List.mem_append.1 hy with hy|hy<;>simp[hy]),hr.pwT,cls'⟩ (by simpa [List.map_append]using g2) hgh hT ok' fun a'' w'' ρ'' ok'' far'=>hQ _ _ ρ'' ok'' (far.trans far')
    ·obtain⟨q1,q2⟩:=hr.op y (by rcases List.mem_append.1 hy with hy|hy<;>simp[hy]);exact⟨q1,by rw[set_ne _ (nx y hy)];exact q2⟩
    ·obtain⟨q1,q2⟩:=hr.opT y hy;have:=(hr.lt x (by simp) y hy).1;exact⟨q1,by rw[set_ne _ (by omega)];exact q2⟩
    ·have hne:j≠x.1:=by rintro rfl;rw[set_same]at hjl;cases hjl
     rw[set_ne _ hne]at hjl;rcases hr.all j hj hjl with⟨y,hy,rfl⟩|hyT
     ·refine .inl ⟨y,?_,rfl⟩;simp only[List.mem_append,List.mem_cons]at hy⊢;rcases hy with hy|rfl|hy
      ·exact .inl hy
      ·exact absurd rfl hne
      ·exact .inr hy
     ·exact .inr hyT
    grind
   ·
    cases T with
    |nil=>simp at hy
    |cons z T'=>
    have hzy:z=y:=by
     rcases List.mem_cons.1 hy with rfl|hy'
     ·rfl
     ·have h5:=((List.pairwise_cons.1 hr.pwT).1 y hy').2;have:=hbl _ h5;rw[(hr.opT z (by simp)).2]at this;cases this
    subst hzy;have hlate:∀x∈L,Bv g x.2.1 z.2:=fun x hx=>by
     rcases(hr.lt x hx z (by simp)).2 with h5|h5
     ·have:=hbl _ h5;rw[(hr.op x hx).2]at this;cases this
     ·exact h5
    simp only[List.map_cons,ae,ak]at hT;split at hT
    ·cases hT
    ·rename_i t2 ht2;obtain⟨r1,r2,g1,g2,g3⟩:=WG (L:=L.map (·.2.1)) (fun x hx=>by
      obtain⟨q,hq,rfl⟩:=List.mem_map.1 hx;exact hlate q hq) hz hgh ht2
     obtain⟨ρg,okg,farg⟩:=Uu ok g1;obtain⟨c1,_⟩:=hr.opT z (by simp);obtain⟨hint,hco⟩:=(Sg hc).2 z.1 o z.2 (by simpa using h2) c1;refine TB hcall hN h2 hco okg g2 fun a' w' ρ' ok' far=>?_;refine T5 hcall hN hc hlt hdep fuel (g:=0) (L:=L) (T:=T') (by simp at hl⊢;omega) ⟨by simpa using hr.size,fun x hx=>?_,fun y hy=>?_,fun j hj hjl=>?_,hr.pw,fun x hx y hy=>?_,(List.pairwise_cons.1 hr.pwT).2,cls'⟩ g3 rfl hT ok' fun a'' w'' ρ'' ok'' far'=>hQ _ _ ρ'' ok'' ((farg.trans far).trans far')
     ·obtain⟨q1,q2⟩:=hr.op x hx;have:=(hr.lt x hx z (by simp)).1;exact⟨q1,by rw[set_ne _ (by omega)];exact q2⟩
     ·obtain⟨q1,q2⟩:=hr.opT y (by simp[hy]);have:=((List.pairwise_cons.1 hr.pwT).1 y hy).1;exact⟨q1,by rw[set_ne _ (by omega)];exact q2⟩
     ·have hne:j≠z.1:=by rintro rfl;rw[set_same]at hjl;cases hjl
      rw[set_ne _ hne]at hjl;rcases hr.all j hj hjl with hx| ⟨y,hy,rfl⟩
      ·exact .inl hx
      ·rcases List.mem_cons.1 hy with rfl|hy'
       ·exact absurd rfl hne
       ·exact .inr ⟨y,hy',rfl⟩
     ·obtain⟨q1,q2⟩:=hr.lt x hx y (by simp[hy]);exact⟨q1,q2.imp_right Bv.zero⟩
theorem WH(hm:P.follows .mixedOrders=true)(hcall:Rq P I call md)(hN:N<=1000){id}{hs0 cl}{w}{X}{ρ}{h}{s}{a}{t0 tg t}{m g}{qs}{Fs}{Q}
  (hc:xK P N ops hs0 ops.toList=some cl)
  (hsp:∀j b bf,cl[j]?=some b->(Fl ops.toList [])[j]?=some bf->(∀i∈bf,i<j)/\∀i a,i<j->cl[i]?=some a->i∈bf\/GN m g qs i j a b=true)
  (ok:Ok I N w X ρ h s a) (e1:iF call md (cl.take m) s h=some (t0,Fs)) (hps:qs.all (lK Fs)=true) (hgh:sB md.nm g t0.s t0.h=some tg) (hT:ae call md (cl.drop m) tg.s tg.h=some t)
  (hQ:∀a' w' ρ',Ok I N w' X ρ' t.h t.s a'->Far md.nm w ρ h w' ρ' t.h->Q .normal a' w'):(Code.region id ops true).wp P Q a w:=by
 refine wp_region_any hm ?_;obtain⟨ok',far'⟩:=ok.draws (md:=md);obtain⟨lf,gf⟩:=WC e1;obtain⟨lc,gc⟩:=Sg hc;have lc':cl.length=ops.size:=by omega
 have ltm:(cl.take m).length=min m ops.size:=by grind
 have lb:(Fl ops.toList []).length=ops.size:=by
  obtain⟨r,q1,q2⟩:=UP ops.toList [];grind
 have bget:∀j,j<ops.size->(Fl ops.toList [])[j]?=some ((Fl ops.toList []).getD j []):=fun j hj=>by
  grind
 have hlt:∀j,j<ops.size->∀i∈ (Fl ops.toList []).getD j [],i<j:=fun j hj i hi=>by
  simp_all
 have hdep:∀ (j:Nat) (o:Oper),ops[j]?=some o->(∀d∈D5 o,d∈ (Fl ops.toList []).getD j [])/\∀i∈ (Fl ops.toList []).getD j [],i∈D5 o\/∃d∈D5 o,i∈ (Fl ops.toList []).getD d []:=fun j o hj=>by
  have hjs:j<ops.size:=(Array.getElem?_eq_some_iff.1 hj).1;obtain⟨pre,q1,q2,r,q3⟩:=WD ops.toList [] j o (by grind);simp only[adZ,QN]at q1 q2;have hrow:(Fl ops.toList []).getD j []=J0 o pre:=by
   grind
  have hpre:∀d∈D5 o,pre.getD d []=(Fl ops.toList []).getD d []:=fun d hd=>by
   have hdj:d<j:=hlt j hjs d (by rw[hrow];exact UO.2 (.inl hd));grind
  refine⟨fun d hd=>by rw[hrow];exact UO.2 (.inl hd),fun i hi=>?_⟩;rw[hrow]at hi;rcases UO.1 hi with hi| ⟨d,hd,hid⟩
  all_goals grind
 have getL:∀x∈ (List.range ops.size).zip ((cl.take m).zip Fs),x.1<m/\x.1<ops.size/\cl[x.1]?=some x.2.1/\Fs[x.1]?=some x.2.2:=fun x hx=>by
  obtain⟨n,hn⟩:=ad9 hx;grind
 have getT:∀y∈ (List.range' (min m ops.size) (ops.size-m)).zip (cl.drop m),m<=y.1/\y.1<ops.size/\cl[y.1]?=some y.2:=fun y hy=>by
  obtain⟨n,hn⟩:=ad9 hy;rw[List.getElem?_zip_eq_some]at hn;grind
 refine T5 hcall hN hc (bf:=fun j=>(Fl ops.toList []).getD j []) hlt hdep ops.size (g:=g) (L:=(List.range ops.size).zip ((cl.take m).zip Fs)) (T:=(List.range' (min m ops.size) (ops.size-m)).zip (cl.drop m)) ?_ ⟨by simp,fun x hx=>?_,fun y hy=>?_,fun j hj _=>?_,?_,fun x hx y hy=>?_,?_,fun k hk hkl=>?_⟩ (t0:=t0) (tg:=tg) (t:=t) ?_ hgh ?_ ok' fun a'' w'' ρ'' ok'' far''=>hQ _ _ ρ'' ok'' (far'.trans far'')
 ·grind
 ·obtain⟨q0,q1,q2,q3⟩:=getL x hx;exact⟨q2,by simp[q1]⟩
 ·obtain⟨q0,q1,q2⟩:=getT y hy;exact⟨q2,by simp[q1]⟩
 ·by_cases hjm:j<m
  ·have hjt:j< (cl.take m).length:=by omega
   refine .inl ⟨(j,(cl.take m)[j],Fs[j]'(by omega)),?_,rfl⟩;refine QR (i:=j) ?_;grind
  ·have hjt:j-m< (cl.drop m).length:=by rw[List.length_drop,lc'];omega
   refine .inr ⟨(j,(cl.drop m)[j-m]),?_,rfl⟩;refine QR (i:=j-m) ?_;rw[List.getElem?_zip_eq_some];refine⟨?_,by rw[adW hjt]⟩;rw[List.getElem?_range' (by omega)];simp only[Option.some.injEq];omega
 ·rw[List.pairwise_iff_getElem];intro i j hi hj hij;have hj':j< (cl.take m).length/\j<Fs.length:=by simp only[List.length_zip,List.length_range,lf]at hj;omega
  have hjs:j<ops.size:=by omega
  have hjm:j<m:=by omega
  simp only[List.getElem_zip,List.getElem_range,List.getElem_take];refine⟨hij,?_⟩;rcases(hsp j cl[j] _ (by simp) (bget j hjs)).2 i cl[i] (by omega) (by simp)with hb|hb
  ·grind
  ·refine .inr ?_;simp only[GN,if_pos hjm,D6,QQ,Bool.or_eq_true]at hb;obtain⟨hb1,hb2⟩:=hb;refine⟨hb1,?_⟩;have gi:∀q (hq:q< (cl.take m).length) (hq':q<Fs.length),∃s' h' t',je call md (cl[q]'(by omega)) s' h'=some (t',Fs[q]):=fun q hq hq'=>by
    refine gf q _ _ ?_ (by rw[adW hq']);rw[adW hq,List.getElem_take]
   obtain⟨s1,h1,t1,st1⟩:=gi i (by omega) (by omega);obtain⟨s2,h2,t2,st2⟩:=gi j hj'.1 hj'.2;rcases hb2 with((hb2|hb2)|hb2)|hb2
   ·rw[XR st1 hb2];exact VW _
   ·rw[XR st2 hb2];exact(VW _).symm
   ·obtain⟨r1,k1⟩:=U8 st1 hb2.1;obtain⟨r2,k2⟩:=U8 st2 hb2.2;rw[k1,k2];simp[pY,j5,pR]
   ·have:=List.all_eq_true.1 hps (i,j) (by simpa using hb2);simp only[lK]at this;rw[adW (show i<Fs.length from by omega),adW hj'.2]at this;exact this
 ·obtain⟨q0,q1,q2,q3⟩:=getL x hx;obtain⟨p0,p1,p2⟩:=getT y hy;refine⟨by omega,?_⟩;rcases(hsp y.1 y.2 _ p2 (bget y.1 p1)).2 x.1 x.2.1 (by omega) q2 with hb|hb
  ·exact .inl hb
  ·simp only[GN,if_neg (show¬y.1<m by omega),QQ]at hb;exact .inr (YK hb.2)
 ·rw[List.pairwise_iff_getElem];intro i j hi hj hij;have hi':=getT _ (aee hi);have hj':=getT _ (aee hj);have hlt2:((List.range' (min m ops.size) (ops.size-m)).zip (cl.drop m))[i].1< ((List.range' (min m ops.size) (ops.size-m)).zip (cl.drop m))[j].1:=by
   simp only[List.getElem_zip,List.getElem_range'];omega
  refine⟨hlt2,?_⟩;rcases(hsp _ _ _ hj'.2.2 (bget _ hj'.2.1)).2 _ _ hlt2 hi'.2.2 with hb|hb
  ·omega
  ·simp only[GN,if_neg (Nat.not_lt.2 hj'.1),QQ,decide_eq_true_eq]at hb;have:=hb.1;have:=hi'.1;omega
 ·simp[hk]at hkl
 ·have m1:((List.range ops.size).zip ((cl.take m).zip Fs)).map (·.2.1)=cl.take m:=by
   rw[show(fun x:Nat×COp×Fp=>x.2.1)=Prod.fst∘Prod.snd from rfl,←List.map_map,List.map_snd_zip (by simp[lc',lf,List.length_take];omega),List.map_fst_zip (by omega)]
  have m2:((List.range ops.size).zip ((cl.take m).zip Fs)).map (·.2.2)=Fs:=by
   rw[show(fun x:Nat×COp×Fp=>x.2.2)=Prod.snd∘Prod.snd from rfl,←List.map_map,List.map_snd_zip (by simp[lc',lf,List.length_take];omega),List.map_snd_zip (by omega)]
  rw[m1,m2];exact e1
 grind[List.range',List.map_snd_zip]
theorem YN(hm:P.follows .mixedOrders=true)(hcall:Rq P I call md)(hN:N<=1000):VO P I call md N:=by
 intro id ops hs0 cl w X ρ h s a t ps Q hc hd ok hz hQ;unfold Fn GO at hd;unfold ic at hz;cases hb:lC ps with
 |none=>
  rw[hb]at hd hz;simp only[lX,QS]at hz;obtain⟨⟨t0,Fs⟩,e1,e2⟩:=hz;split at e2
  ·rename_i hps;cases e2;have hsp:=SI (done:=[]) (j0:=0) rfl hd;refine WH hm hcall hN (m:=cl.length) (g:=0) (qs:=ps) hc (fun j b bf h1 h2=>?_) ok (by rw[List.take_length];omega) hps rfl (by rw[List.drop_length];rfl) hQ;have hj:=(List.getElem?_eq_some_iff.1 h1).1
   simp_all[GN,if_pos,QN]
  grind
 |some q=>
  rw[hb]at hd hz;simp only[qQ,QS]at hz;obtain⟨⟨t0,Fs⟩,e1,e2⟩:=hz;split at e2
  ·rename_i hps;simp only[ak]at e2;split at e2
   ·grind
   ·rename_i tg htg;have hsp:=SI (done:=[]) (j0:=0) rfl hd;refine WH hm hcall hN (m:=q.1) (g:=q.2) (qs:=ps.tail) hc (fun j b bf h1 h2=>?_) ok e1 hps htg e2 hQ;grind
  grind
end
theorem ni:∀ss l,(aU ss l).length=l.length
 |[],l=>by cases l<;>simp[aU]
 |s::ss,[]=>by simp[aU]
 |s::ss,a::l=>by simp[aU,ni ss l]
theorem oM:∀ss l (j:Nat) c,(aU ss l)[j]?=some c->∃c0,l[j]?=some c0/\(c=c0\/∃s,c=nrmL s c0)
 |[],l,j,c,h=>⟨c,by grind[aU],.inl rfl⟩
 |s::ss,[],j,c,h=>by grind[aU]
 |s::ss,a::l,0,c,h=>by grind[aU]
 |s::ss,a::l,j+1,c,h=>by
  simpa using oM ss l j c h
theorem rF{s}{c}(hd:aq c=true):aq (nrmL s c)=true:=by
 obtain⟨k,cs⟩:=s;cases k with
 |zero=>grind[nrmL]
 |succ k=>cases c<;>simp[aq]at hd<;>simp[nrmL,aq,hd]
theorem cH(s){c}(h1:∀k r,c≠ .sl k r)(h2:c≠ .emp)(h3:∀k r,c≠ .osl k r):nrmL s c=c:=by
 obtain⟨k,cs⟩:=s;cases k with
 |zero=>simp[nrmL]
 |succ k=>cases c<;>first|rfl|exact absurd rfl (h1 _ _)|exact absurd rfl h2|exact absurd rfl (h3 _ _)
section
variable {w:World} {A:Nat→Prop} {ρ:bg} {h:ac}
theorem RD.nrmL{c}{u}(hd:RD w A c u):∀s,RD w A (nrmL s c) u:=by
 induction hd with
 |any u h=>intro s;rw[cH s (by simp) (by simp) (by simp)];exact .any u h
 |v x h=>intro s;rw[cH s (by simp) (by simp) (by simp)];exact .v x h
 |emp a=>
  intro s;obtain⟨k,cs⟩:=s;cases k with
  |zero=>exact .emp a
  |succ k=>
   exact .sl k [] a 0 ⟨0,0,none⟩ (fun _ _=>undef) (QK 0) (fun h=>absurd rfl h) (fun _ h=>by grind) (fun i row j c h=>by grind) (fun _ h=>by grind) (fun i row j c h=>by grind)
 |sl k rows a cap ad vals hc ha hk hv hl hr ih=>
  intro s;obtain⟨k',cs⟩:=s;cases k' with
  |zero=>exact .sl k rows a cap ad vals hc ha hk hv hl hr
  |succ k'=>
   simp only[Ab.nrmL];have key:∀ (i:Nat) row (j:Nat) c,(rows.map (aU cs))[i]?=some row->row[j]?=some c->∃row0 c0,rows[i]?=some row0/\row0[j]?=some c0/\(c=c0\/∃s,c=Ab.nrmL s c0):=by
    intro i row j c h1 h2;simp only[aeb,adV]at h1;obtain⟨row0,h3,rfl⟩:=h1;obtain⟨c0,h4,h5⟩:=oM cs row0 j c h2;grind
   have:=RD.sl (w:=w) (A:=A) k (rows.map (aU cs)) a cap ad vals (by grind) (fun hne=>ha (by grind)) (fun row hm=>by
     simp only[aec]at hm;obtain⟨row0,hm,rfl⟩:=hm;rw[ni];grind) (fun i row j c h1 h2=>by
     grind) (fun row hm c hc=>by
     obtain⟨i,hi⟩:=ad9 hm;obtain⟨j,hj⟩:=ad9 hc;obtain⟨row0,c0,h3,h4,h5⟩:=key i row j c hi hj;have hd:=hl row0 (QR h3) c0 (QR h4);rcases h5 with rfl| ⟨s,rfl⟩
     ·omega
     ·exact rF hd) (fun i row j c h1 h2=>by
     grind)
   grind
 |agg cs us hs h1 hr ih=>intro s;rw[cH s (by simp) (by simp) (by simp)];exact .agg cs us hs h1 hr
 |fn f=>intro s;rw[cH s (by simp) (by simp) (by simp)];exact .fn f
theorem RV.nrmL{c}{u}(hv:RV w A ρ h c u)(s):RV w A ρ h (nrmL s c) u:=by
 cases hv with
 |dat hd=>exact .dat (hd.nrmL s)
 |anyv u=>rw[cH s (by simp) (by simp) (by simp)];exact .anyv u
 |und=>rw[cH s (by simp) (by simp) (by simp)];exact .und
 |ref id sub k i j hp=>rw[cH s (by simp) (by simp) (by simp)];exact .ref id sub k i j hp
 |rsl id sub k lo n cap a hp hn hb ha=>rw[cH s (by simp) (by simp) (by simp)];exact .rsl id sub k lo n cap a hp hn hb ha
 |rsc id k lo n cap a hp hn hb ha=>rw[cH s (by simp) (by simp) (by simp)];exact .rsc id k lo n cap a hp hn hb ha
 |ipt cs ad vals hA hs hv hl hr=>rw[cH s (by simp) (by simp) (by simp)];exact .ipt cs ad vals hA hs hv hl hr
 |agg cs us hs h1 hr=>rw[cH s (by simp) (by simp) (by simp)];exact .agg cs us hs h1 hr
 |tup vs us hs hr=>rw[cH s (by simp) (by simp) (by simp)];exact .tup vs us hs hr
 |fn f x y us ts hs ht hx hy=>rw[cH s (by simp) (by simp) (by simp)];exact .fn f x y us ts hs ht hx hy
theorem RV.nrmV{c}{u}(hv:RV w A ρ h c u)(ss):RV w A ρ h (nrmV ss c) u:=by
 cases c with
 |agg cs=>
  obtain⟨us,rfl,hs,h1,hr⟩:=hv.agg_inv;refine .agg _ us (by rw[ni];omega) h1 fun i c u hc hu=>?_;obtain⟨c0,h2,h3⟩:=oM ss cs i c hc;rcases h3 with rfl| ⟨s,rfl⟩
  ·grind
  ·exact(hr i c0 u h2 hu).nrmL s
 |_=>exact hv.nrmL _
theorem Si:∀ss l,(aG ss l).length=l.length
 |[],l=>by cases l<;>simp[aG]
 |s::ss,[]=>by simp[aG]
 |s::ss,a::l=>by simp[aG,Si ss l]
theorem uP:∀ss l (j:Nat) c,(aG ss l)[j]?=some c->∃c0,l[j]?=some c0/\(c=c0\/∃s,c=Ab.nrmV s c0)
 |[],l,j,c,h=>⟨c,by grind[aG],.inl rfl⟩
 |s::ss,[],j,c,h=>by grind[aG]
 |s::ss,a::l,0,c,h=>by grind[aG]
 |s::ss,a::l,j+1,c,h=>by
  simpa using uP ss l j c h
end
def RN:AV->Bool
 | .osl _ _| .obx _=>true
 |_=>false
def Fr(L:List Nat)(h':ac)(a c:AV):Prop:=
 ∃id,bK a=[id]/\bw id=false/\bo L (h' id)=true/\
  ((∃k rows,c=.osl k rows/\a=.rsl id none k 0 rows.length/\h' id=.ar k rows)\/(∃xs,c=.obx xs/\a=.ref id none 0 0 0/\h' id=.bx xs))
theorem VY{m}{h}{c}(hc:RN c=false):ge m h c=(c,h):=by
 cases c<;>simp[RN]at hc<;>rfl
theorem Fr.mat{L}{h'}{a c}(hm:Fr L h' a c)(m)(h2):∃id,bK a=[id]/\bw id=false/\bo L (h' id)=true/\h' id≠ .dead/\(ge m h2 c).2=upd h2 m (h' id):=by
 obtain⟨id,h1,h3,h4,⟨k,rows,rfl,rfl,h5⟩| ⟨xs,rfl,rfl,h5⟩⟩:=hm
 ·exact⟨id,h1,h3,h4,by grind,by rw[h5];rfl⟩
 ·exact⟨id,h1,h3,h4,by grind,by rw[h5];rfl⟩
theorem XA{x}{l}(h:kN (x::l)=true):x∉l/\kN l=true:=by
 simp_all[kN,QQ,Bool.not_eq_true',List.contains_eq_mem,decide_eq_false_iff_not]
theorem U9{l l'}:kN (l++l')=true->kN l'=true/\∀x,x∈l->x∉l':=by
 induction l with
 |nil=>grind
 |cons y l ih=>
  intro h;obtain⟨h1,h2⟩:=XA h
  simp_all
section
variable {h':ac} {L:List Nat}
theorem TE(hL:∀i,2000<=i->L.contains i=false):∀ (zas cs:List AV) m h2 g,2000<=m->zas.length=cs.length->
  (∀ (j:Nat) a c,zas[j]?=some a->cs[j]?=some c->RN c=true->Fr L h' a c)->kN ((zas.flatMap bK).filter fun i=>!bw i)=true->Emb L (fun i=>i) g h' h2->(∀i,m<=i->h2 i=.dead)->
  (∀i,h2 i≠ .dead->∀id,id∈zas.flatMap bK->bw id=false->g i≠id)->
  ∃gm,Emb L (fun i=>i) gm h' (ng m h2 cs).2/\(∀i,i<m->(ng m h2 cs).2 i=h2 i/\gm i=g i)/\
   (∀i,(ng m h2 cs).2 i≠ .dead->(h2 i≠ .dead/\gm i=g i)\/∃ (j:Nat) (a c:AV),zas[j]?=some a/\cs[j]?=some c/\RN c=true/\bK a=[gm i])/\
   (∀j a c id,zas[j]?=some a->cs[j]?=some c->RN c=true->bK a=[id]->gm (m+j)=id/\(ng m h2 cs).2 (m+j)=h' id/\h' id≠ .dead)
 |[],[],m,h2,g,hm,_,_,_,em,_,_=>⟨g,em,fun _ _=>⟨rfl,rfl⟩,fun _ hi=>.inl ⟨hi,rfl⟩,fun j a c id h1=>by grind⟩
 |[],c::cs,m,h2,g,_,hl,_,_,_,_,_=>by grind
 |a::zas,[],m,h2,g,_,hl,_,_,_,_,_=>by grind
 |a::zas,c::cs,m,h2,g,hm,hl,hmv,hnd,em,hfree,hid=>by
  simp only[List.flatMap_cons,List.filter_append]at hnd;obtain⟨nd2,nd3⟩:=U9 hnd;have hmv':∀j a c,zas[j]?=some a->cs[j]?=some c->RN c=true->Fr L h' a c:=fun j a' c' h1 h3=>hmv (j+1) a' c' (by grind) (by grind);have hl':zas.length=cs.length:=by grind
  cases hc:RN c with
  |false=>
   simp only[ng,VY hc];obtain⟨gm,e1,e2,e3,e4⟩:=TE hL zas cs (m+1) h2 g (by omega) hl' hmv' nd2 em (fun i hi=>hfree i (by omega)) (fun i hi id hm'=>hid i hi id (by grind));refine⟨gm,e1,fun i hi=>e2 i (by omega),fun i hi=>?_,fun j a' c' id h1 h3 h4 h5=>?_⟩
   ·rcases e3 i hi with hh| ⟨j,a',c',h1,h3,h4,h5⟩
    ·grind
    ·exact .inr ⟨j+1,a',c',by grind,by grind,h4,h5⟩
   ·cases j with
    |zero=>
     grind
    |succ j=>
     grind
  |true=>
   obtain⟨id,i1,i2,i3,i4,i5⟩:=(hmv 0 a c rfl rfl hc).mat m h2;simp only[ng,i5];have hida:id∈ (a::zas).flatMap bK:=by grind
   have em1:=em.add (m:=m) (id:=id) (hfree m (QK _)) (hL m hm) (fun i hi=>hid i hi id hida i2) i3;have nin:∀id',id'∈zas.flatMap bK->bw id'=false->id'≠id:=by
    grind
   obtain⟨gm,e1,e2,e3,e4⟩:=TE hL zas cs (m+1) (upd h2 m (h' id)) (upd g m id) (by omega) hl' hmv' nd2 em1 (fun i hi=>by grind[fO]) (fun i hi id' hm' hp'=>by
    by_cases e:i=m
    ·subst e;rw[oL];exact fun ee=>nin id' hm' hp' ee.symm
    ·rw[fO _ _ e]at hi⊢;exact hid i hi id' (by simp only[List.flatMap_cons,List.mem_append];exact .inr hm') hp')
   have atm:=e2 m (by omega);rw[oL,oL]at atm;refine⟨gm,e1,fun i hi=>?_,fun i hi=>?_,fun j a' c' id' h1 h3 h4 h5=>?_⟩
   ·grind[fO]
   ·rcases e3 i hi with⟨h1,h3⟩| ⟨j,a',c',h1,h3,h4,h5⟩
    ·by_cases e:i=m
     ·subst e;exact .inr ⟨0,a,c,rfl,rfl,hc,by grind⟩
     grind[fO]
    ·exact .inr ⟨j+1,a',c',by grind,by grind,h4,h5⟩
   ·cases j with
    |zero=>
     grind
    |succ j=>
     grind
theorem WI:∀l m h j z,(ng m h l).1[j]?=some z->∃c,l[j]?=some c/\z=(ge (m+j) h c).1
 |[],m,h,j,z,hz=>by grind[ng]
 |c::l,m,h,0,z,hz=>by
  grind[ng]
 |c::l,m,h,j+1,z,hz=>by
  obtain⟨c',h1,h2⟩:=WI l (m+1) _ j z hz;refine⟨c',by simpa using h1,?_⟩;rw[h2,UN _ _ h,show m+1+j=m+(j+1)from by omega]
theorem UB:∀l m h,(ng m h l).1.length=l.length
 |[],m,h=>rfl
 |c::l,m,h=>by simp[ng,UB l]
end
section
variable {w:World} {X:Nat→Prop} {ρ:bg} {h':ac} {L:List Nat}
structure Seen (w:World) (X:Nat->Prop) (ρ:bg) (h':ac) (a:AV) (A2:Nat->Prop) (ρ2:bg) (h2:ac):Prop where
 mono:∀b,l6 w X h' ρ b->A2 b
 ids:∀id,id∈bK a->bw id=false->∀sub,live h' id sub->A2 (ρ id sub).1
 pas:∀id,bw id=true->h' id≠ .dead->h2 id≠ .dead/\ρ2 id none=ρ id none
def aaV(w:World)(X:Nat->Prop)(ρ:bg)(h':ac)(L:List Nat)(a c:AV)(u:Value):Prop:=
 (RN c=true->Fr L h' a c)/\(RN c=false->∀A2 ρ2 h2,Seen w X ρ h' a A2 ρ2 h2->RV w A2 ρ2 h2 c u)
theorem UC{c}(hd:AT c=true):fW L c=true:=by
 simp only[AT,Bool.or_eq_true]at hd;simp only[fW,Bool.or_eq_true];rcases hd with hd|hd
 ·grind
 ·cases c<;>simp[aq]at hd<;>simp[cj,bD,hd]
theorem UD{a b}(he:xx h' a=some b)(hd:aq b=true\/∃k r,b=.osl k r){id}(hi:eM a=[id]):bw id=false:=by
 cases a<;>simp only[eM]at hi<;>try (cases hi;done)
 case ref i sub k x y=>
  cases sub with
  |some p=>grind[xx,aq]
  |none=>
   grind[xx,aq,JO]
 case rsl i sub k x y=>
  have hi':i=id:=by grind
  subst hi';cases hp:bw i with
  |false=>rfl
  |true=>cases sub<;>simp[xx,hp]at he
theorem ab1{b c}(hd:Bo b=some c):aq b=true\/∃k r,b=.osl k r:=by
 unfold Bo at hd;grind
theorem WJ:∀ {cs ds},gw h' cs=some ds->∀ (i:Nat) a id,cs[i]?=some a->eM a=[id]->bw id=false
 |[],ds,_,i,a,id,h1,_=>by grind
 |c::cs,ds,he,i,a,id,h1,h2=>by
  simp only[gw,QS]at he;obtain⟨b,e1,c',e2,q,e3,e4⟩:=he;cases i with
  |zero=>simp at h1;subst h1;exact UD e1 (ab1 e2) h2
  |succ i=>exact WJ e3 i a id (by simpa using h1) h2
theorem VZ{s}{b}(h:RN (nrmL s b)=true):nrmL s b=b:=by
 obtain⟨k,cs⟩:=s;cases k with
 |zero=>simp[nrmL]
 |succ k=>cases b<;>simp[nrmL,RN]at h⊢
theorem ZU(ss){b}(h:∀cs,b≠ .agg cs):nrmV ss b=nrmL (ss.headD (.o 0 [])) b:=by
 cases b<;>first|rfl|exact absurd rfl (h _)
theorem aaW(r:Rel w X ρ h'){a b}{u}(hv:RV w (l6 w X h' ρ) ρ h' a u)(he:xx h' a=some b)(s):aaV w X ρ h' L a (nrmL s b) u:=by
 have data:∀ {b},xx h' a=some b->aq b=true->(∀A2,(∀b,l6 w X h' ρ b->A2 b)->(∀id sub,eM a=[id]->live h' id sub->A2 (ρ id sub).1)->RD w A2 b u)->
   ∀A2 ρ2 h2,Seen w X ρ h' a A2 ρ2 h2->RV w A2 ρ2 h2 (nrmL s b) u:=by
  intro b he hd hr A2 ρ2 h2 hs;exact .dat ((hr A2 hs.mono fun id sub hi hl=>hs.ids id (by
   have:bK a=eM a:=by cases a<;>first|rfl|simp[eM]at hi
   grind) (UD he (.inl hd) hi) sub hl).nrmL s)
 rcases SL r hv he with⟨id,k,rows,rfl,rfl,e,hp⟩| ⟨id,cs,rfl,rfl,e,hd,hp⟩| ⟨rfl,id,k,i,j,rfl,hp⟩| ⟨rfl,hd⟩| ⟨hd,hr⟩
 ·refine⟨fun hm=>?_,fun hm A2 ρ2 h2 hs=>?_⟩
  ·rw[VZ hm];exact⟨id,rfl,hp,by rw[e];rfl,.inl ⟨k,rows,rfl,rfl,e⟩⟩
  ·have hsl:nrmL s (.osl k rows)=nrmL s (.sl k rows):=by
    obtain⟨k',cs⟩:=s;cases k' with
    |zero=>grind[nrmL,RN]
    |succ k'=>simp[nrmL]
   rw[hsl];obtain⟨a',cap,rfl,_⟩:=hv.rsl_inv;exact .dat (((U5 r hv rfl he rfl).2 A2 hs.mono fun id' sub hi hl=>hs.ids id' (by
    grind[bK,eM]) (by grind[eM]) sub hl).nrmL s)
 ·refine⟨fun hm=>?_,fun hm=>?_⟩
  ·rw[VZ hm];refine⟨id,rfl,hp,?_,.inr ⟨cs,rfl,rfl,e⟩⟩;grind[bo,ad1,UC]
  ·rw[cH s (by simp) (by simp) (by simp)]at hm;cases hm
 ·refine⟨fun hm=>?_,fun hm A2 ρ2 h2 hs=>?_⟩
  ·rw[cH s (by simp) (by simp) (by simp)]at hm;cases hm
  ·rw[cH s (by simp) (by simp) (by simp)];obtain⟨rfl,hpr⟩:=hv.ref_inv;obtain⟨h1,h3⟩:=hs.pas id hp hpr;have:=RV.ref (w:=w) (A:=A2) (ρ:=ρ2) (h:=h2) id none k i j h1;grind
 ·refine⟨fun hm=>?_,fun hm A2 ρ2 h2 hs=>?_⟩
  ·have:=rF (s:=s) hd;cases hq:nrmL s b<;>rw[hq]at hm this<;>simp[RN,aq]at hm this
  ·exact(hv.keepD hd fun b hb=>⟨hs.mono b hb,rfl⟩).nrmL s
 ·refine⟨fun hm=>?_,fun hm=>data he hd hr⟩;have:=rF (s:=s) hd;cases hq:nrmL s b<;>rw[hq]at hm this<;>simp[RN,aq]at hm this
theorem ab2(r:Rel w X ρ h'){a b}{u}(hv:RV w (l6 w X h' ρ) ρ h' a u)(he:oF h' a=some b){c}(hc:c=b\/∃ss,c=nrmV ss b):aaV w X ρ h' L a c u:=by
 have hc':∃ss,c=nrmV ss b:=by
  rcases hc with rfl|hc
  ·refine⟨[],?_⟩;cases c<;>simp[nrmV,nrmL,aU]
  omega
 obtain⟨ss,rfl⟩:=hc';by_cases hagg:∃cs,a=.agg cs
 ·obtain⟨cs,rfl⟩:=hagg;simp only[oF,adV]at he;obtain⟨ds,e1,rfl⟩:=he;refine⟨fun hm=>by grind[nrmV,RN],fun _ A2 ρ2 h2 hs=>?_⟩;obtain⟨us,rfl,q1,q2,q3⟩:=hv.agg_inv;obtain⟨l1,l2⟩:=Uw r cs ds e1;refine .agg _ us (by grind[ni]) q2 fun i c u hc hu=>?_;obtain⟨c0,h1,h3⟩:=oM ss ds i c hc;have hi:i<cs.length:=by grind
  have hci:cs[i]?=some cs[i]:=by grind
  obtain⟨d1,d2⟩:=l2 i cs[i] c0 u hci h1 (q3 i _ u hci hu) (q2 i u hu);have hrd:=d2 A2 hs.mono fun id sub hii hl=>hs.ids id (by
   simp only[bK,List.mem_flatMap];exact⟨cs[i],by simp,by rw[hii];simp⟩) (WJ e1 i _ id hci hii) sub hl
  rcases h3 with rfl| ⟨s,rfl⟩
  ·exact .dat hrd
  ·exact .dat (hrd.nrmL s)
 ·have hl:oF h' a=xx h' a:=by cases a<;>first|rfl|exact absurd ⟨_,rfl⟩ hagg
  rw[hl]at he;have hb:∀cs,b≠ .agg cs:=by
   rcases SL r hv he with⟨id,k,rows,h1,_⟩| ⟨id,cs',h1,_⟩| ⟨h1,id,k,i,j,h2,_⟩| ⟨h1,hd⟩| ⟨hd,hr⟩
   all_goals grind[aq]
  grind[ZU,aaW]
theorem V0:∀ {zas bs},mP h' zas=some bs->bs.length=zas.length/\∀ (j:Nat) a b,zas[j]?=some a->bs[j]?=some b->oF h' a=some b
 |[],bs,he=>by grind[mP,Option.some.injEq]
 |a::zas,bs,he=>by
  simp only[mP,QS]at he;obtain⟨b,e1,q,e2,e3⟩:=he;cases e3;obtain⟨g1,g2⟩:=V0 e2;refine⟨by simp[g1],fun j a' b' h1 h2=>?_⟩;cases j with
  |zero=>simp at h1 h2;subst h1 h2;exact e1
  |succ j=>exact g2 j a' b' (by simpa using h1) (by simpa using h2)
def Wm(us:Array Value):Value:=if h:us.size=1 then us[0]else .tuple us
theorem ZV{l}(hl:∀c∈l,∀vs,c≠ .tup vs)(n)(h):mat n h (oG l)=(oG (ng n h l).1,(ng n h l).2):=by
 match l with
 |[]=>rfl
 |[c]=>
  have:=hl c (by simp);cases c<;>first|rfl|exact absurd rfl (this _)
 |a::b::l=>rfl
end
section
variable {w:World} {X:Nat→Prop} {ρ:bg} {h':ac}
theorem XS{L}{g}{h2}(em:Emb L (fun i=>i) g h' h2){b}(ho:uO h2 (fun i s=>ρ (g i) s) b):uO h' ρ b:=by
 obtain⟨i,s,h1,h3⟩:=ho;exact⟨g i,s,(em.live h1).1,h3⟩
theorem aaX{ss}{b}{vs}(h:nrmV ss b=.tup vs):∃vs',b=.tup vs':=by
 cases b with
 |tup vs'=>grind
 |agg cs=>grind[nrmV]
 |_=>
  simp only[nrmV]at h;generalize ss.headD (.o 0 [])=s at h;obtain⟨k,cs⟩:=s;cases k<;>simp[nrmL]at h
theorem YO(r:Rel w X ρ h'){a}{u}{vs}(hv:RV w (l6 w X h' ρ) ρ h' a u)(he:oF h' a=some (.tup vs)):False:=by
 by_cases hagg:∃cs,a=.agg cs
 ·obtain⟨cs,rfl⟩:=hagg
  simp_all[oF]
 ·have hl:oF h' a=xx h' a:=by cases a<;>first|rfl|exact absurd ⟨_,rfl⟩ hagg
  rw[hl]at he;rcases SL r hv he with⟨id,k,rows,h1,_⟩| ⟨id,cs',h1,_⟩| ⟨h1,id,k,i,j,h2,_⟩| ⟨h1,hd⟩| ⟨hd,hr⟩
  all_goals grind[aq]
theorem ZW(r:Rel w X ρ h'){n0 n}(hn0:n0<=1000)(hn:2000<=n)(hpass:∀id,bw id=true->h' id≠ .dead->(oC n0).contains id=true){zas}{us}(hs:us.size=zas.length)
  (hv:∀ (i:Nat) c u,zas[i]?=some c->us[i]?=some u->RV w (l6 w X h' ρ) ρ h' c u) {rs} {res} {obs} (hz:pT rs n0 h' zas=some (res,obs)):
  ∃ρ2,Rel w X ρ2 (mat n (aO obs) res).2/\(∀nm,Far nm w ρ h' w ρ2 (mat n (aO obs) res).2)/\RV w (l6 w X (mat n (aO obs) res).2 ρ2) ρ2 (mat n (aO obs) res).2 (mat n (aO obs) res).1 (Wm us):=by
 unfold pT at hz;split at hz
 ·rename_i hc;simp only[QQ]at hc;obtain⟨hc1,hc2⟩:=hc;simp only[adV]at hz;obtain⟨bs,e1,e2⟩:=hz;cases e2;obtain⟨l1,l2⟩:=V0 e1;have hLm:∀i,(oC n0).contains i=true->bw i=true:=fun i hi=>by
   have:=Ss.1 hi;simp only[bw,decide_eq_true_eq];omega
  have hL:∀i,2000<=i->(oC n0).contains i=false:=fun i hi=>by
   grind[oC]
  have hcl:(aG rs bs).length=zas.length:=by rw[Si,l1]
  have out:∀ (j:Nat) (a c:AV) (u:Value),zas[j]?=some a->(aG rs bs)[j]?=some c->us[j]?=some u->aaV w X ρ h' (oC n0) a c u:=fun j a c u h1 h3 h4=>by
   grind[uP,ab2]
  have uget:∀ (j:Nat) (a:AV),zas[j]?=some a->∃u,us[j]?=some u:=fun j a h1=>by
   have:j<us.size:=by grind
   simp_all
  have em:=Emb.base (h':=h') hc2;have hlow:∀i,aO ((oC n0).map h') i≠ .dead->(oC n0).contains i=true:=fun i hi=>by
   rw[RK]at hi;split at hi
   ·rename_i h1;exact Ss.2 h1
   grind
  obtain⟨gm,m1,m2,m3,m4⟩:=TE hL zas (aG rs bs) n (aO ((oC n0).map h')) (fun i=>i) hn hcl.symm (fun j a c h1 h3 h4=>by
    obtain⟨u,hu⟩:=uget j a h1;exact(out j a c u h1 h3 hu).1 h4) hc1 em (fun i hi=>by
    rw[RK,if_neg (by omega)]) (fun i hi id _ hp e=>by
    grind)
  have notup:∀c∈aG rs bs,∀vs,c≠ .tup vs:=by
   rintro c hcm vs rfl
   obtain⟨j,hj⟩:=ad9 hcm;have hja:j<zas.length:=by grind
   obtain⟨u,hu⟩:=uget j zas[j] (by grind);obtain⟨b,h5,h6⟩:=uP rs bs j _ hj;have he:=l2 j zas[j] b (by grind) h5;grind[aaX,YO]
  rw[ZV notup];simp only;have hfar:∀b,l6 w X h' ρ b->l6 w X (ng n (aO ((oC n0).map h')) (aG rs bs)).2 (fun i s=>ρ (gm i) s) b:=fun b hb=>⟨hb.1,hb.2.1,fun ho=>hb.2.2 (XS m1 ho)⟩;have hps:∀id,bw id=true->(ng n (aO ((oC n0).map h')) (aG rs bs)).2 id=aO ((oC n0).map h') id/\gm id=id:=fun id hp=>m2 id (by
   simp only[bw,decide_eq_true_eq]at hp;omega)
  have hpd:∀id,bw id=true->h' id≠ .dead->(ng n (aO ((oC n0).map h')) (aG rs bs)).2 id=h' id:=fun id hp hd=>by
   rw[(hps id hp).1,RK,if_pos (Ss.1 (hpass id hp hd))]
  have rel2:=Rel.emb m1 r r.xl (fun i s hl=>r.nx _ _ (m1.live hl).1) hfar;refine⟨fun i s=>ρ (gm i) s,rel2,fun nm=>⟨rfl,rfl,rfl,QK _,fun _ _ _=>rfl,fun b ho=>.inl (XS m1 ho),fun id hp hd=>?_,fun _ id p hp hd hpr=>?_⟩,?_⟩
  ·grind[RK]
  ·have h1:h' id≠ .dead:=by obtain⟨_,_,_,e,_⟩:=hpr;grind
   grind[Ra]
  ·
   have seen:∀ (j:Nat) (a c:AV),zas[j]?=some a->(aG rs bs)[j]?=some c->RN c=false->
     Seen w X ρ h' a (l6 w X (ng n (aO ((oC n0).map h')) (aG rs bs)).2 (fun i s=>ρ (gm i) s)) (fun i s=>ρ (gm i) s) (ng n (aO ((oC n0).map h')) (aG rs bs)).2:=by
    intro j a c h1 h3 h4;refine⟨hfar,fun id hid hp sub hl=>⟨?_,fun hx=>r.nx _ _ hl (.inl hx),fun⟨i,s,ho1,ho2⟩=>?_⟩,fun id hp hd=>⟨by grind,by grind⟩⟩
    ·cases sub with
     |none=>
      have ho:=r.ob id;cases e:h' id with
      |bx cs=>rw[e]at ho;obtain⟨us,t,g1,_⟩:=ho;grind
      |ar k rows=>rw[e]at ho;obtain⟨us,t,g1,_⟩:=ho;grind
      |_=>simp[live,e]at hl
     |some p=>
      obtain⟨cs,k,rows,e,ec⟩:=hl;have ho:=r.ob id;rw[e]at ho;obtain⟨us,t,g1,g2,g3,g4⟩:=ho;obtain⟨u,_,a',cap,us',t',_,_,_,q4,_⟩:=g4 p _ ec;grind
    ·obtain⟨hl1,hdd⟩:=m1.live ho1;obtain⟨e1,_⟩:=r.inj _ _ _ _ hl1 hl ho2;rcases m3 i hdd with⟨q1,q2⟩| ⟨j',a',c',q1,q2,q3,q4⟩
     ·grind
     ·rw[e1]at q4;have hne:j'≠j:=by
       grind
      exact two_names zas j' j a' a id hne q1 h1 (by grind) hid hp hc1
   have vals:∀ (j:Nat) (z:AV) (u:Value),(ng n (aO ((oC n0).map h')) (aG rs bs)).1[j]?=some z->us[j]?=some u->
     RV w (l6 w X (ng n (aO ((oC n0).map h')) (aG rs bs)).2 (fun i s=>ρ (gm i) s)) (fun i s=>ρ (gm i) s) (ng n (aO ((oC n0).map h')) (aG rs bs)).2 z u:=by
    intro j z u hz hu;obtain⟨c,h1,rfl⟩:=WI _ _ _ _ _ hz;have hja:j<zas.length:=by grind
    have ha:zas[j]?=some zas[j]:=by grind
    have o:=out j zas[j] c u ha h1 hu;cases hm:RN c with
    |false=>
     rw[VY hm];exact o.2 hm _ _ _ (seen j zas[j] c ha h1 hm)
    |true=>
     obtain⟨id,i1,i2,i3,⟨k,rows,rfl,i4,i5⟩| ⟨xs,rfl,i4,i5⟩⟩:=o.1 hm
     ·obtain⟨q1,q2,q3⟩:=m4 j zas[j] _ id ha h1 hm i1;have hva:=hv j zas[j] u ha hu;rw[i4]at hva;obtain⟨a',cap,rfl,hp,hnn,hb,hab⟩:=hva.rsl_inv;simp only[ge];exact .rsl (n+j) none k 0 rows.length cap a' (by show _≠_;grind) hnn (by grind) (by simp only[q1];exact hab)
     ·obtain⟨q1,q2,q3⟩:=m4 j zas[j] _ id ha h1 hm i1;have hva:=hv j zas[j] u ha hu;rw[i4]at hva;obtain⟨rfl,hp⟩:=hva.ref_inv;simp only[ge];have:=RV.ref (w:=w) (A:=l6 w X (ng n (aO ((oC n0).map h')) (aG rs bs)).2 (fun i s=>ρ (gm i) s)) (ρ:=fun i s=>ρ (gm i) s) (h:=(ng n (aO ((oC n0).map h')) (aG rs bs)).2) (n+j) none 0 0 0 (by show _≠_;rw[q2];exact q3);simp only[q1]at this;exact this
   have hzl:(ng n (aO ((oC n0).map h')) (aG rs bs)).1.length=us.size:=by rw[UB,hcl,hs]
   unfold Wm;split
   ·rename_i h1
    match hq:(ng n (aO ((oC n0).map h')) (aG rs bs)).1 with
    |[]=>rw[hq]at hzl;simp at hzl;omega
    |[z]=>exact vals 0 z us[0] (by rw[hq];rfl) (by simp[h1])
    |a::b::l=>rw[hq]at hzl;simp at hzl;omega
   ·rename_i h1
    match hq:(ng n (aO ((oC n0).map h')) (aG rs bs)).1 with
    |[]=>exact .tup [] us (by rw[hq]at hzl;simpa using hzl.symm) fun i c u hc=>by simp at hc
    |[z]=>rw[hq]at hzl;simp at hzl;omega
    |a::b::l=>
     rw[hq]at hzl;exact .tup _ us hzl.symm fun i c u hc hu=>vals i c u (by rw[hq];exact hc) hu
 grind
where
 two_names:∀ (zas:List AV) (i j:Nat) (a b:AV) (id:Nat),i≠j->zas[i]?=some a->zas[j]?=some b->id∈bK a->id∈bK b->bw id=false->kN ((zas.flatMap bK).filter fun i=>!bw i)=true->False
 |[],i,j,a,b,id,_,h1,_,_,_,_,_=>by simp at h1
 |c::zas,i,j,a,b,id,hne,h1,h2,h3,h4,hp,hnd=>by
  simp only[List.flatMap_cons,List.filter_append]at hnd;obtain⟨nd2,nd3⟩:=U9 hnd;have mem:∀ (j:Nat) (b:AV),zas[j]?=some b->id∈bK b->id∈ (zas.flatMap bK).filter fun i=>!bw i:=fun j b hb hi=>
   List.mem_filter.2 ⟨List.mem_flatMap.2 ⟨b,QR hb,hi⟩,by grind⟩
  cases i with
  |zero=>
   simp at h1;subst h1;cases j with
   |zero=>exact hne rfl
   |succ j=>exact nd3 id (List.mem_filter.2 ⟨h3,by simp[hp]⟩) (mem j b (by simpa using h2) h4)
  |succ i=>
   cases j with
   |zero=>
    simp at h2;subst h2;exact nd3 id (List.mem_filter.2 ⟨h4,by simp[hp]⟩) (mem i a (by simpa using h1) h3)
   |succ j=>exact two_names zas i j a b id (by omega) (by grind) (by simpa using h2) h3 h4 hp nd2
end
structure Text (P:Program) (f:FuncId) (fd:FD):Prop where
 text: ∃fn code N,P.funcs[f]?=some fn/\fn.body=some code/\fn.ntmps=N/\N<=1000/\kE P N code fd.body=some fd.body/\Bs P fn.results.toList=some fd.res/\ (fn.name== "runtime.NumGoroutine")=false
theorem WK(fn:Func)(tmps):fn.results.mapM (SF tmps)=(fun l=>l.toArray)<$>fn.results.toList.mapM (SF tmps):=by
 rw[Array.mapM_eq_mapM_toList]
theorem XB{P}{fn}{tmps}{w}{us}(h:(fn.results.toList.mapM (SF tmps)).run P w=.ok us w):(results fn tmps).run P w=.ok (Wm us.toArray) w:=by
 have h1:(fn.results.mapM (SF tmps)).run P w=.ok us.toArray w:=by
  simp_all[WK,Sem.run_map]
 have h2:results fn tmps=(fn.results.mapM (SF tmps)>>=fun vs=>pure (Wm vs)):=by
  congr 1
 simp_all
section
variable {P:Program} {I:Inv} {call:bQ} {md:Mode}
theorem ab3(hm:P.follows .mixedOrders=true)(hcall:Rq P I call md){f}{fd}{lf}(ht:Text P f fd):GQ P I md.nm f (xz call md lf fd):=by
 obtain⟨fn,code,N,t1,t2,t3,t4,t5,t6,t7⟩:=ht.text;intro args obs obs' res w X ρ vals n hz hn hi r hsz hv;unfold xz at hz;split at hz
 ·rename_i hc;obtain⟨c1,c2⟩:=hc;have he:(callFunc f vals).run P w=.ok (.enter f vals) w:=by
   simp_all[callFunc,Sem.run_bind,Result.andThen]
  unfold Enters;rw[he];refine calls_of_wp t1 t2 ?_;have hget:∀i,(vals++Array.replicate (fn.ntmps-vals.size) undef).getD i undef=vals.getD i undef:=fun i=>by
   simp only[Array.getD_eq_getD_getElem?,Array.getElem?_append];grind
  have ok:Ok I N w X ρ (aO obs) (oI args) {tmps:=vals++Array.replicate (fn.ntmps-vals.size) undef,defers:=[]}:=by
   refine⟨r,fun i=>?_,by grind,rfl,hi⟩;simp only[hget,oI];by_cases h:i<args.length
   ·rw[Array.getD_eq_getD_getElem?];grind
   ·rw[List.getElem?_eq_none (by omega)];exact .anyv _
  have fin:∀ {t:St} {a} {w'} {ρ'},Ok I N w' X ρ' t.h t.s a->Far md.nm w ρ (aO obs) w' ρ' t.h->pU md.nm fd.rs fd.res obs.length t.s t.h=some (res,obs')->
    a.defers=[]/\∃v,(results fn a.tmps).run P w'=.ok v w'/\∃ρ'',Rel w' X ρ'' (mat n (aO obs') res).2/\Far md.nm w ρ (aO obs) w' ρ'' (mat n (aO obs') res).2/\
     RV w' (l6 w' X (mat n (aO obs') res).2 ρ'') ρ'' (mat n (aO obs') res).2 (mat n (aO obs') res).1 v:=by
   intro t a w' ρ' ok' far hf;refine⟨ok'.defers,?_⟩;simp only[pU,QS]at hf;obtain⟨⟨vs,h',ks⟩,e1,e2⟩:=hf;split at e2
   ·rename_i hnm;obtain⟨us,g1,g2,g3,g4,g5⟩:=Uv (a:=a) fn.results.toList fd.res t6 ok'.rel ok'.rs e1;refine⟨_,XB g1,?_⟩;have far2:=far.trans (g4.far hnm);obtain⟨ρ2,q1,q2,q3⟩:=ZW (us:=us.toArray) g3 c2 hn (fun id hp hd=>by
     have:=(far2.stay id hp hd).1;unfold aO at this;refine Ss.2 ?_;grind) (by omega) (fun i c u hc hu=>g5 i c u hc (by grind)) e2
    exact⟨ρ2,q1,far2.trans (q2 md.nm),q3⟩
   grind
  cases hx:aA call md lf fd.body (oI args) (aO obs)with
  |none=>rw[hx]at hz;cases hz
  |some q=>
   obtain⟨e,t⟩:=q;rw[hx]at hz;refine YI (N:=N) hcall t4 (YN hm hcall t4) lf fd.body code t5 hx ok fun a' w' ρ' ok' far=>?_;cases e with
   |normal=>
    obtain⟨d1,v,d2,d3⟩:=fin ok' far hz;exact⟨d1,v,d2,d3⟩
   |ret=>
    obtain⟨d1,v,d2,d3⟩:=fin ok' far hz;exact⟨d1,v,d2,d3⟩
   |exit id=>cases hz
 grind
end
section
variable {w:World} {X:Nat→Prop} {ρ:bg} {h h':ac}
theorem V1{a c}{ks}(hz:eJ h a=some (c,h',ks)):∀p∈ks,p.2=true:=by
 unfold eJ at hz;split at hz
 ·unfold jV at hz;grind
 ·unfold AW JL at hz;grind
 grind
theorem Va:∀ {l cs} {h h'} {ks},gr h l=some (cs,h',ks)->∀p∈ks,p.2=true
 |[],cs,h,h',ks,hz=>by grind[gr,Option.some.injEq,Prod.mk.injEq]
 |a::l,cs,h,h',ks,hz=>by
  simp only[gr,QS]at hz;obtain⟨⟨c,h1,k1⟩,e1,⟨q,h2,k2⟩,e2,e3⟩:=hz;cases e3;intro p hp;rcases List.mem_append.1 hp with hp|hp
  ·exact V1 e1 p hp
  ·exact Va e2 p hp
theorem aaY{a c}{ks}(hz:xk h a=some (c,h',ks)):∀p∈ks,p.2=true:=by
 unfold xk at hz;split at hz
 ·simp only[QS]at hz;obtain⟨⟨q,h1,k1⟩,e1,e2⟩:=hz;cases e2;exact Va e1
 ·exact V1 hz
theorem ZX{ks:K}(hk:∀p∈ks,p.2=true)(id):iT ks id none=false:=by
 grind[iT,List.any_eq_false]
theorem RV.clo{w'}{A A'}{ρ'}{l}{c}{u}(hv:RV w A ρ h c u)(hA:∀b,A b->A' b/\w'.heap[b]?=w.heap[b]?)(hk:∀id,eA h id none->eA h' id none/\ρ' id none=ρ id none)(hm:cj l c=true):RV w' A' ρ' h' c u:=by
 have leaf:∀ {c} {u},RV w A ρ h c u->bD l c=true->RV w' A' ρ' h' c u:=by
  intro c u hv hm;cases hv with
  |anyv u=>exact .anyv u
  |und=>exact .und
  |dat hd=>exact .dat (hd.mono hA)
  |ref id sub k i j hp=>
   cases sub with
   |some p=>simp[bD]at hm
   |none=>
    obtain⟨h1,h2⟩:=hk id hp;rw[←h2];exact .ref id none k i j h1
  |rsl id sub k lo n cap a hp hn hb ha=>
   cases sub with
   |some p=>simp[bD]at hm
   |none=>
    obtain⟨h1,h2⟩:=hk id hp;exact .rsl id none k lo n cap a h1 hn (by grind) (by grind)
  |rsc id k lo n cap a hp hn hb ha=>simp[bD]at hm
  |ipt cs ad vals hA' hs hv hl hr=>
   exact .ipt cs ad vals (hA _ hA').1 hs (fun j c hc=>by rw[lD (w:=w) (w':=w') (by rw[mR];grind)];grind) hl (fun j c hc=>(hr j c hc).mono hA)
  |agg cs us hs h1 hr=>simp[bD]at hm
  |tup vs us hs hr=>simp[bD]at hm
  |fn f x y us ts hs ht hx hy=>
   simp[bD]at hm;obtain⟨rfl,rfl⟩:=hm;exact .fn f [] [] us ts hs ht (fun i c u hc=>by grind) (fun i c u hc=>by grind)
 cases c with
 |agg cs=>
  simp only[cj,ad1]at hm;obtain⟨us,rfl,hs,h1,hr⟩:=hv.agg_inv;exact .agg cs us hs h1 fun i c u hc hu=>leaf (hr i c u hc hu) (hm c (QR hc))
 |fn f x y=>
  simp only[cj,QQ,ad1]at hm;obtain⟨us,ts,rfl,hs,ht,hx,hy⟩:=hv.fn_inv;exact .fn f x y us ts hs ht (fun i c u hc hu=>leaf (hx i c u hc hu) (hm.1 c (QR hc))) (fun i c u hc hu=>leaf (hy i c u hc hu) (hm.2 c (QR hc)))
 |_=>exact leaf hv hm
structure Way (w:World) (X:Nat->Prop) (ρ:bg) (h0 h:ac):Prop where
 evo:∃ks:K,Evo w ρ h0 w ρ h ks/\∀p∈ks,p.2=true
theorem Way.refl:Way w X ρ h h:=⟨[],.refl _ _ _,by simp⟩
theorem Way.trans{h1 h2}(a:Way w X ρ h h1)(b:Way w X ρ h1 h2):Way w X ρ h h2:=by
 obtain⟨k1,e1,f1⟩:=a.evo;obtain⟨k2,e2,f2⟩:=b.evo;exact⟨k1++k2,e1.trans e2,fun p hp=>by grind⟩
theorem Way.al{h0}(a:Way w X ρ h0 h):∀b,l6 w X h0 ρ b->l6 w X h ρ b:=by
 obtain⟨k1,e1,_⟩:=a.evo;exact fun b hb=>(e1.al hb).1
theorem XC{h0}{m}{a z}{u}{ks}(r:Rel w X ρ h)(wy:Way w X ρ h0 h)(hv:RV w (l6 w X h0 ρ) ρ h0 a u)(hz:df h m a=some (z,h',ks)):
  Rel w X ρ h'/\Evo w ρ h w ρ h' ks/\(∀p∈ks,p.2=true)/\∃h1,Way w X ρ h1 h'/\RV w (l6 w X h1 ρ) ρ h1 z u:=by
 have same:some (a,h,[])=some (z,h',ks)->Rel w X ρ h'/\Evo w ρ h w ρ h' ks/\(∀p∈ks,p.2=true)/\∃h1,Way w X ρ h1 h'/\RV w (l6 w X h1 ρ) ρ h1 z u:=by
  intro e;cases e;exact⟨r,.refl _ _ _,by simp,h0,wy,hv⟩
 have data:xk h a=some (z,h',ks)->((∀cs,a≠ .agg cs)->u.oneCell'=true)->Rel w X ρ h'/\Evo w ρ h w ρ h' ks/\(∀p∈ks,p.2=true)/\∃h1,Way w X ρ h1 h'/\RV w (l6 w X h1 ρ) ρ h1 z u:=by
  intro hz h1;obtain⟨g1,g2,g3,g4⟩:=ZD r hv wy.al hz h1;exact⟨g1,g2,aaY hz,h',.refl,.dat g3⟩
 cases a with
 |any=>
  grind[df,xk,eJ,aq]
 |rsl id sub k lo n=>
  obtain⟨ad,cap,rfl,_⟩:=hv.rsl_inv;cases sub with
  |none=>
   simp only[df]at hz;split at hz
   ·exact data hz fun _=>rfl
   grind
  |some p=>exact data hz fun _=>rfl
 |ref id sub k i j=>
  cases sub with
  |none=>exact same hz
  |some p=>grind[df,xk,eJ,aq]
 |ipt cs=>exact same hz
 |fn f x y=>exact same hz
 |agg cs=>exact data hz fun hh=>absurd rfl (hh cs)
 |v x=>exact data hz fun _=>by obtain⟨rfl,hp⟩:=hv.v_inv;exact Tw hp
 |emp=>
  refine data hz fun _=>?_;cases hv with
  |dat hd=>exact hd.one rfl
 |sl k rows=>
  refine data hz fun _=>?_;cases hv with
  |dat hd=>exact hd.one rfl
 |_=>simp[df,xk,eJ,aq]at hz
theorem T6{h0}:∀l ms (vals:List Value) {h h'} {zs} {ks},Rel w X ρ h->Way w X ρ h0 h->vals.length=l.length->
  (∀ (i:Nat) c u,l[i]?=some c->vals[i]?=some u->RV w (l6 w X h0 ρ) ρ h0 c u)->bU h ms l=some (zs,h',ks)->
  Rel w X ρ h'/\Evo w ρ h w ρ h' ks/\(∀p∈ks,p.2=true)/\zs.length=l.length/\∀ (i:Nat) z u,zs[i]?=some z->vals[i]?=some u->∃h1,Way w X ρ h1 h'/\RV w (l6 w X h1 ρ) ρ h1 z u
 |[],ms,vals,h,h',zs,ks,r,wy,hl,hv,hz=>by
  obtain⟨rfl,rfl,rfl⟩:=hz;exact⟨r,.refl _ _ _,by simp,rfl,fun i z u h1=>by grind⟩
 |a::l,ms,vals,h,h',zs,ks,r,wy,hl,hv,hz=>by
  simp only[bU,QS]at hz;obtain⟨⟨z,h1,k1⟩,e1,⟨q,h2,k2⟩,e2,e3⟩:=hz;cases e3;cases vals with
  |nil=>grind
  |cons u vals=>
   obtain⟨g1,g2,g3,h3,g4,g5⟩:=XC r wy (hv 0 a u rfl rfl) e1;obtain⟨f1,f2,f3,f4,f5⟩:=T6 l ms.tail vals g1 (wy.trans ⟨k1,g2,g3⟩) (by grind) (fun i c u' h4 h5=>hv (i+1) c u' (by grind) (by grind)) e2;refine⟨f1,g2.trans f2,fun p hp=>?_,by grind,fun i z' u' h4 h5=>?_⟩
   ·grind
   ·cases i with
    |zero=>
     simp at h4 h5;subst h4 h5;exact⟨h3,g4.trans ⟨k2,f2,f3⟩,g5⟩
    |succ i=>grind
theorem ZY{L}{h1}{z}{u}(wy:Way w X ρ h1 h)(hv:RV w (l6 w X h1 ρ) ρ h1 z u)(hc:cj L z=true):RV w (l6 w X h ρ) ρ h z u:=by
 obtain⟨ks,e,f⟩:=wy.evo;exact hv.clo (fun b hb=>e.al hb) (fun id hp=>e.keep id none hp (ZX f id)) hc
theorem T7(r:Rel w X ρ h){b}(ho:uO h ρ b):b<w.heap.size:=by
 obtain⟨id,sub,hl,rfl⟩:=ho;cases sub with
 |none=>
  have ho:=r.ob id;cases e:h id with
  |bx cs=>rw[e]at ho;obtain⟨us,t,g1,_⟩:=ho;grind
  |ar k rows=>rw[e]at ho;obtain⟨us,t,g1,_⟩:=ho;grind
  |_=>simp[live,e]at hl
 |some p=>
  obtain⟨cs,k,rows,e,ec⟩:=hl;have ho:=r.ob id;rw[e]at ho;obtain⟨us,t,g1,g2,g3,g4⟩:=ho;obtain⟨u,_,a',cap,us',t',_,_,_,q4,_⟩:=g4 p _ ec;grind
section
variable {ids:List Nat}
theorem Db{a}(ha:a∈ids):1000<=dh ids a/\dh ids a<1000+ids.length:=by
 grind[dh,List.idxOf_lt_length_of_mem]
theorem Cp(hl:ids.length<=1000){a}(ha:a∈ids):dD ids (dh ids a)=a:=by
 have:=Db ha;unfold dD;rw[if_pos (by omega)]
 simp_all[dh,List.idxOf_lt_length_of_mem]
theorem rG(hl:ids.length<=1000)(hnd:ids.Nodup){i}(h1:1000<=i)(h2:i<1000+ids.length):dD ids i∈ids/\dh ids (dD ids i)=i:=by
 have hj:i-1000<ids.length:=by omega
 have e:dD ids i=ids[i-1000]:=by
  unfold dD;grind
 grind[dh]
theorem Bw{os}{j}{o}(h:os[j]?=some o):aO os (1000+j)=o:=by
 simp_all[aO,if_pos]
theorem Bz{os}{i}(h:i<1000\/1000+os.length<=i):aO os i=.dead:=by
 grind[aO]
theorem Emb.enter(hl:ids.length<=1000)(hnd:ids.Nodup)(hcl:∀a∈ids,bo ids (h a)=true):Emb ids (dh ids) (dD ids) h (aO (ids.map fun a=>jq (dh ids) (h a))):=by
 have at_:∀a∈ids,aO (ids.map fun a=>jq (dh ids) (h a)) (dh ids a)=jq (dh ids) (h a):=fun a ha=>by
  refine Bw ?_;grind
 have low:∀i,aO (ids.map fun a=>jq (dh ids) (h a)) i≠ .dead->1000<=i/\i<1000+ids.length:=fun i hi=>by
  by_cases h1:1000<=i/\i<1000+ids.length
  ·omega
  ·exact absurd (Bz (by grind)) hi
 refine⟨fun a ha=>?_,fun i hi=>?_,fun i j hi hj e=>?_⟩
 ·have ha':a∈ids:=by grind
  exact⟨Cp hl ha',at_ a ha'⟩
 ·obtain⟨h1,h2⟩:=low i hi;obtain⟨h3,h4⟩:=rG hl hnd h1 h2;grind
 ·obtain⟨h1,h2⟩:=low i hi;obtain⟨h3,h4⟩:=low j hj;rw[← (rG hl hnd h1 h2).2,← (rG hl hnd h3 h4).2,e]
end
end
theorem V3{gv}{id}:∀ {h},(∀p∈gv,p.1≠id)->mL h gv id=h id:=by
 induction gv with
 |nil=>intro h _;rfl
 |cons p l ih=>
  simp_all[mL,fO,Ne.symm]
theorem WL{gv}{id}:∀ {h},((∃p∈gv,p.1=id)\/h id=.dead)->mL h gv id=.dead:=by
 induction gv with
 |nil=>
  intro h hi;rcases hi with⟨p,hp,_⟩|hi
  ·grind
  ·exact hi
 |cons p l ih=>
  simp only[mL];grind[oL,absurd,upd]
theorem WM{ids}:∀ {l} {os} {g} {j a:Nat} {o},l.Nodup->l[j]?=some a->os[j]?=some o->mM g ids l os a=jq (dD ids) o
 |[],os,g,j,a,o,_,h1,_=>by grind
 |b::l,[],g,j,a,o,_,_,h2=>by grind
 |b::l,o'::os,g,j,a,o,hnd,h1,h2=>by
  obtain⟨n1,n2⟩:=List.nodup_cons.1 hnd;simp only[mM];cases j with
  |zero=>
   simp at h1 h2;subst h1 h2;rw[R5 n1,oL]
  |succ j=>exact WM n2 (by simpa using h1) (by simpa using h2)
theorem Vb{h}:∀ {m n},dZ h n m=true->∀i,n<=i->i<n+m->h i=.dead
 |0,n,_,i,h1,h2=>by omega
 |m+1,n,hf,i,h1,h2=>by
  simp only[dZ,QQ]at hf;by_cases e:i=n
  ·grind[dY]
  ·exact Vb hf.2 i (by omega) (by omega)
theorem S0{h}{gv}:∀ {l} {os},jW h gv l os=true->∀ (j a:Nat) o,l[j]?=some a->os[j]?=some o->(bf (h a)=true->bf o=true)/\((∀p∈gv,p.1≠a)->o≠ .dead)
 |[],os,_,j,a,o,h1,_=>by grind
 |b::l,[],_,j,a,o,_,h2=>by grind
 |b::l,o'::os,hs,j,a,o,h1,h2=>by
  simp only[jW,QQ,Bool.or_eq_true,Bool.not_eq_true']at hs;obtain⟨⟨s1,s2⟩,s3⟩:=hs;cases j with
  |zero=>
   refine⟨fun hb=>?_,fun hn e=>?_⟩
   ·grind
   ·grind[dY]
  |succ j=>exact S0 s3 j a o (by simpa using h1) (by simpa using h2)
theorem S1{l l'}{c}(hl:∀i,l.contains i=true->l'.contains i=true)(hc:bD l c=true):bD l' c=true:=by
 cases c<;>simp only[bD]at hc⊢ <;>first|exact hc|skip
 all_goals grind
theorem T8{l l'}{c}(hl:∀i,l.contains i=true->l'.contains i=true)(hc:cj l c=true):cj l' c=true:=by
 cases c with
 |agg cs=>
  grind[cj,ad1,S1]
 |fn f x y=>
  simp only[cj,QQ,ad1]at hc⊢;grind[S1]
 |_=>
  simp only[cj]at hc⊢;exact S1 hl hc
theorem WN{l l'}{o}(hl:∀i,l.contains i=true->l'.contains i=true)(hc:bo l o=true):bo l' o=true:=by
 cases o<;>simp only[bo]at hc⊢;simp only[ad1,fW,Bool.or_eq_true]at hc⊢;grind[T8]
theorem WO{f}{c}(hd:AT c=true):ez f c=c:=by
 cases c<;>simp[AT,bT,aq]at hd<;>first|rfl|skip
 obtain⟨rfl,rfl⟩:=hd;rfl
theorem WP{l}{n}{g}{c}(hr:dL l c=true){i}(h:(ge n g c).2 i≠g i):(∃k rows,(ge n g c).2 i=.ar k rows)\/∃cs,(ge n g c).2 i=.bx cs/\cs.all AT=true:=by
 cases c<;>simp only[ge]at h⊢ <;>first|exact absurd rfl h|skip
 case osl k rows=>
  simp_all[upd,if_neg,absurd]
 case obx cs=>
  unfold upd at h⊢;split
  ·exact .inr ⟨_,rfl,hr⟩
  grind
theorem WQ{l}{i}:∀ {vs} {n} {g},vs.all (dL l)=true->(ng n g vs).2 i≠g i->(∃k rows,(ng n g vs).2 i=.ar k rows)\/∃cs,(ng n g vs).2 i=.bx cs/\cs.all AT=true
 |[],n,g,_,h=>absurd rfl h
 |c::vs,n,g,hr,h=>by
  simp only[List.all_cons,QQ]at hr;simp only[ng]at h⊢;by_cases e:(ng (n+1) (ge n g c).2 vs).2 i=(ge n g c).2 i
  ·rw[e]at h⊢;exact WP hr.1 h
  ·exact WQ hr.2 e
theorem ab4{l}{n}{g}{c}(hr:eC l c=true){i}(h:(mat n g c).2 i≠g i):(∃k rows,(mat n g c).2 i=.ar k rows)\/∃cs,(mat n g c).2 i=.bx cs/\cs.all AT=true:=by
 cases c<;>simp only[mat]at h⊢ <;>simp only[eC]at hr<;>first|exact WQ hr h|exact WP hr h
theorem UE{l l'}{n}{g}{c}(hr:dL l c=true)(hl:∀i,l.contains i=true->l'.contains i=true)(hn:l'.contains n=true):cj l' (ge n g c).1=true:=by
 cases c<;>simp only[ge]<;>simp only[dL]at hr<;>first|exact T8 hl hr| (simp only[cj,bD,hn];rfl)
theorem UF{l l'}(hl:∀i,l.contains i=true->l'.contains i=true):∀ {vs} {n} {g},vs.all (dL l)=true->(∀i,n<=i->i<n+vs.length->l'.contains i=true)->∀z∈ (ng n g vs).1,cj l' z=true
 |[],n,g,_,_,z,hz=>by grind[ng]
 |c::vs,n,g,hr,hn,z,hz=>by
  simp only[List.all_cons,QQ]at hr;simp only[ng,List.mem_cons]at hz;rcases hz with rfl|hz
  ·exact UE hr.1 hl (hn n (QK _) (by simp))
  ·exact UF hl hr.2 (fun i h1 h2=>hn i (by omega) (by simp at h2⊢;omega)) z hz
def YP(l:List Nat):AV->Prop
 | .tup vs=>∀c∈vs,cj l c=true
 |c=>cj l c=true
theorem YQ{l l'}{n}{g}{c}(hr:dL l c=true)(hl:∀i,l.contains i=true->l'.contains i=true)(hn:l'.contains n=true):YP l' (ge n g c).1:=by
 have:=UE (n:=n) (g:=g) hr hl hn;cases hq:(ge n g c).1<;>rw[hq]at this<;>first|exact this|simp[cj,bD]at this
theorem ZZ{l l'}{n}{g}{c}(hr:eC l c=true)(hl:∀i,l.contains i=true->l'.contains i=true)(hn:∀i,n<=i->i<n+jt c->l'.contains i=true):YP l' (mat n g c).1:=by
 cases c with
 |tup vs=>
  exact UF hl hr hn
 |_=>exact YQ hr hl (hn n (QK _) (by simp[jt]))
section
variable {w:World} {X:Nat→Prop} {ρ:bg} {hc:ac} {ids:List Nat}
def UG(X:Nat->Prop)(hc:ac)(ρ:bg)(ids:List Nat)(b:Nat):Prop:=
 X b\/(uO hc ρ b/\¬uO (aO (ids.map fun a=>jq (dh ids) (hc a))) (fun i s=>ρ (dD ids i) s) b)
theorem Z0(r:Rel w X ρ hc)(hl:ids.length<=1000)(hnd:ids.Nodup)(hcl:∀a∈ids,bo ids (hc a)=true):
  Rel w (UG X hc ρ ids) (fun i s=>ρ (dD ids i) s) (aO (ids.map fun a=>jq (dh ids) (hc a)))/\
  (∀b,l6 w X hc ρ b->l6 w (UG X hc ρ ids) (aO (ids.map fun a=>jq (dh ids) (hc a))) (fun i s=>ρ (dD ids i) s) b):=by
 have em:=Emb.enter (h:=hc) hl hnd hcl;have hA:∀b,l6 w X hc ρ b->l6 w (UG X hc ρ ids) (aO (ids.map fun a=>jq (dh ids) (hc a))) (fun i s=>ρ (dD ids i) s) b:=fun b hb=>
  ⟨hb.1,fun hx=>by rcases hx with hx| ⟨hx,_⟩;exact hb.2.1 hx;exact hb.2.2 hx,fun⟨i,s,h1,h2⟩=>hb.2.2 ⟨_,s,(em.live h1).1,h2⟩⟩
 exact⟨Rel.emb em r (fun b hb=>by rcases hb with(hb| ⟨hb,_⟩)|hb;exact r.xl b (.inl hb);exact T7 r hb;exact r.xl b (.inr hb)) (fun i s hl hx=>by
  rcases hx with(hx| ⟨_,hx⟩)|hx
  ·exact r.nx _ _ (em.live hl).1 (.inl hx)
  ·exact hx ⟨i,s,hl,rfl⟩
  ·exact r.nx _ _ (em.live hl).1 (.inr hx)) hA,hA⟩
theorem T9(hl:ids.length<=1000)(hnd:ids.Nodup)(hcl:∀a∈ids,bo ids (hc a)=true){b}(ho:uO (aO (ids.map fun a=>jq (dh ids) (hc a))) (fun i s=>ρ (dD ids i) s) b):
  ∃id sub,id∈ids/\live hc id sub/\(ρ id sub).1=b:=by
 obtain⟨i,s,h1,h2⟩:=ho;obtain⟨h3,h4⟩:=(Emb.enter (h:=hc) hl hnd hcl).live h1;grind[absurd,Bz,rG]
theorem YR{w'}{ρ'}{kp}{d}{gv ks0 ks}{res}{os}{z}{h'}{v}(r:Rel w X ρ hc)(hnd:ids.Nodup)(hcl:∀a∈ids,bo ids (hc a)=true)(hdead:∀a∈ids,hc a≠ .dead)(gvflag:∀p∈gv,p.2=false)
  (hz:jX kp hc d ids ks0 gv (res,os)=some (z,h',ks)) (r':Rel w' (UG X hc ρ ids) ρ' (mat (2000+8*d) (aO os) res).2)
  (far:Far kp w (fun i s=>ρ (dD ids i) s) (aO (ids.map fun a=>jq (dh ids) (hc a))) w' ρ' (mat (2000+8*d) (aO os) res).2)
  (hv:RV w' (l6 w' (UG X hc ρ ids) (mat (2000+8*d) (aO os) res).2 ρ') ρ' (mat (2000+8*d) (aO os) res).2 (mat (2000+8*d) (aO os) res).1 v):
  ∃ρ3 k1,ks=ks0++k1/\Rel w' X ρ3 h'/\Evo w ρ hc w' ρ3 h' k1/\RV w' (l6 w' X h' ρ3) ρ3 h' z v:=by
 unfold jX at hz;split at hz
 ·rename_i hcond;obtain⟨c1,hl,c2,c3,c4,c5⟩:=hcond;simp only at c1 c2 c4;simp only[Option.some.injEq,Prod.mk.injEq]at hz;obtain⟨rfl,rfl,rfl⟩:=hz;simp only[qN,QQ]at c5;obtain⟨c5,c6,c7⟩:=c5;generalize hn:2000+8*d=n at*
  have n2:=by omega
  have em:=Emb.enter (h:=hc) hl hnd hcl;have gdead:=Vb c3;have gids:=fun i h1 h2 hi=>hdead i hi (gdead i h1 h2);have oget:∀a∈ids,os[ids.idxOf a]?=some (aO os (dh ids a)):=fun a ha=>by
   simp_all[List.idxOf_lt_length_of_mem,dh,congrArg,Bw]
  have hm_ids:∀a∈ids,(mat n (aO os) res).2 (dh ids a)=aO os (dh ids a):=fun a ha=>Su (by grind[Db]);have hm_out:∀i,¬ (1000<=i/\i<1000+ids.length)->¬ (n<=i/\i<n+jt res)->(mat n (aO os) res).2 i=.dead:=fun i h1 h2=>by
   grind[Su,Bz]
  have w_ids:∀a∈ids,mM hc ids ids os a=jq (dD ids) (aO os (dh ids a)):=fun a ha=>WM hnd (by
   grind) (oget a ha)
  have h_grp:∀i,n<=i->i<n+jt res->(mat n (mL (mM hc ids ids os) gv) res).2 i=(mat n (aO os) res).2 i:=fun i h1 h2=>ZS (by
   grind[WL,R5,Bz])
  have h_ids:∀a∈ids,(∀p∈gv,p.1≠a)->(mat n (mL (mM hc ids ids os) gv) res).2 a=jq (dD ids) ((mat n (aO os) res).2 (dh ids a)):=fun a ha hg=>by
   rw[Su (fun hh=>gids a hh.1 hh.2 ha),V3 hg,w_ids a ha,hm_ids a ha]
  have h_gv:∀a,¬ (n<=a/\a<n+jt res)->(∃p∈gv,p.1=a)->(mat n (mL (mM hc ids ids os) gv) res).2 a=.dead:=fun a h1 hg=>by
   rw[Su (by omega),WL (.inl hg)]
  have h_out:∀a,a∉ids->¬ (n<=a/\a<n+jt res)->(∀p∈gv,p.1≠a)->(mat n (mL (mM hc ids ids os) gv) res).2 a=hc a:=fun a h1 h2 hg=>by
   rw[Su (by omega),V3 hg,R5 h1]
  generalize hh':(mat n (mL (mM hc ids ids os) gv) res).2=h' at*
  have hzr':(mat n (aO os) res).1=(mat n (mL (mM hc ids ids os) gv) res).1:=XQ _ _ _ _;generalize(mat n (mL (mM hc ids ids os) gv) res).1=zr at*
  have grp_obj:∀i,n<=i->i<n+jt res->(mat n (aO os) res).2 i≠ .dead->(∃k rows,(mat n (aO os) res).2 i=.ar k rows)\/∃cs,(mat n (aO os) res).2 i=.bx cs/\cs.all AT=true:=fun i h1 h2 hd=>
   ab4 c6 (by grind[Bz])
  rw[hzr']at hv;have zcl:∀ {l':List Nat},(∀i,(xt ids gv).contains i=true->l'.contains i=true)->(∀i,n<=i->i<n+jt res->l'.contains i=true)->YP l' zr:=fun{l'} hl1 hl2=>hzr'▸ZZ c6 hl1 hl2;generalize hhm:(mat n (aO os) res).2=hm at*
  have ok_spec:∀i,(xt ids gv).contains i=true->1000<=i/\i<1000+ids.length/\∀p∈gv,p.1≠dD ids i:=fun i hi=>by
   unfold xt at hi;split at hi
   all_goals simp_all[List.contains_eq_mem,List.mem_filter,decide_eq_true_eq,Bool.not_eq_true',List.any_eq_false,beq_iff_eq,oC]
  let L3:=xt ids gv++List.range' n (jt res)
  have l3a:∀i,(xt ids gv).contains i=true->L3.contains i=true:=fun i hi=>by
   grind
  have l3b:∀i,n<=i->i<n+jt res->L3.contains i=true:=fun i h1 h2=>by
   grind
  let Cal:=fun i=>(i∈ids/\∀p∈gv,p.1≠i)\/(n<=i/\i<n+jt res)
  let nm:Nat->Nat:=fun i=>if i∈ids then dh ids i else i
  let h3:ac:=fun i=>open Classical in if Cal i then h' i else .dead
  have h3c:∀i,Cal i->h3 i=h' i:=fun i hi=>by grind
  have h3n:∀i,h3 i≠ .dead->Cal i:=fun i hi=>by
   grind
  have nmi:∀i∈ids,nm i=dh ids i:=fun i hi=>by grind
  have nmg:∀i,n<=i->i<n+jt res->nm i=i:=fun i h1 h2=>by grind
  have em3:Emb L3 (dD ids) nm hm h3:=by
   refine⟨fun i hi=>?_,fun i hi=>?_,fun i j hi hj e=>?_⟩
   ·simp only[L3,List.contains_eq_mem,List.mem_append,decide_eq_true_eq,List.mem_range'_1]at hi;rcases hi with hi|hi
    ·grind[rG]
    ·have e1:dD ids i=i:=by unfold dD;rw[if_neg (by omega)]
     rw[e1];refine⟨nmg i hi.1 hi.2,?_⟩;rw[h3c _ (.inr hi),h_grp i hi.1 hi.2];by_cases hd:hm i=.dead
     ·rw[hd];rfl
     ·rcases grp_obj i hi.1 hi.2 hd with⟨k,rows,e2⟩| ⟨cs,e2,e3⟩
      ·rw[e2];rfl
      ·rw[e2];simp only[jq,Ob.bx.injEq];exact((aef (g:=fun c=>c) fun c hc=>WO (List.all_eq_true.1 e3 c hc)).trans (List.map_id' cs)).symm
   ·rcases h3n i hi with⟨q1,q2⟩| ⟨q1,q2⟩
    ·rw[h3c _ (.inl ⟨q1,q2⟩),nmi i q1];refine⟨h_ids i q1 q2,?_⟩;rw[hm_ids i q1];exact WN l3a (List.all_eq_true.1 c7 _ (QR (oget i q1)))
    ·rw[nmg i q1 q2];have hd:hm i≠ .dead:=by rw[h3c _ (.inr ⟨q1,q2⟩),h_grp i q1 q2]at hi;exact hi
     rw[h3c _ (.inr ⟨q1,q2⟩),h_grp i q1 q2];rcases grp_obj i q1 q2 hd with⟨k,rows,e2⟩| ⟨cs,e2,e3⟩
     ·rw[e2];exact⟨rfl,rfl⟩
     ·rw[e2];refine⟨?_,?_⟩
      ·simp only[jq,Ob.bx.injEq];exact((aef (g:=fun c=>c) fun c hc=>WO (List.all_eq_true.1 e3 c hc)).trans (List.map_id' cs)).symm
      ·simp only[bo,ad1];exact fun c hc=>UC (List.all_eq_true.1 e3 c hc)
   ·rcases h3n i hi with⟨q1,q2⟩| ⟨q1,q2⟩<;>rcases h3n j hj with⟨q3,q4⟩| ⟨q3,q4⟩
    ·rw[nmi i q1,nmi j q3]at e;rw[←Cp hl q1,←Cp hl q3,e]
    ·rw[nmi i q1,nmg j q3 q4]at e;have:=Db q1;omega
    ·rw[nmg i q1 q2,nmi j q3]at e;have:=Db q3;omega
    ·rwa[nmg i q1 q2,nmg j q3 q4]at e
  have own3:∀ {b},uO h3 (fun i s=>ρ' (nm i) s) b->uO hm ρ' b:=fun⟨i,s,h1,h2⟩=>⟨nm i,s,(em3.live h1).1,h2⟩;have r3:Rel w' (UG X hc ρ ids) (fun i s=>ρ' (nm i) s) h3:=Rel.emb em3 r' r'.xl (fun i s hl=>r'.nx _ _ (em3.live hl).1) fun b hb=>⟨hb.1,hb.2.1,fun ho=>hb.2.2 (own3 ho)⟩
  let ρ3:bg:=fun i s=>open Classical in if Cal i then ρ' (nm i) s else ρ i s
  have r3c:∀i,Cal i->∀s,ρ3 i s=ρ' (nm i) s:=fun i hi s=>by simp only[ρ3,if_pos hi]
  have r3n:∀i,¬Cal i->∀s,ρ3 i s=ρ i s:=fun i hi s=>by simp only[ρ3,if_neg hi]
  have rest:∀i,¬Cal i->h' i≠ .dead->i∉ids/\h' i=hc i:=fun i hi hd=>by
   have h1:¬ (n<=i/\i<n+jt res):=fun hh=>hi (.inr hh);have h2:∀p∈gv,p.1≠i:=fun p hp e=>hd (h_gv i h1 ⟨p,hp,e⟩);have h4:i∉ids:=fun hh=>hi (.inl ⟨hh,h2⟩);exact⟨h4,h_out i h4 h1 h2⟩
  have xin:∀ {i s},i∉ids->live hc i s->¬uO (aO (ids.map fun a=>jq (dh ids) (hc a))) (fun i s=>ρ (dD ids i) s) (ρ i s).1:=fun{i s} hi hl' ho=>by
   obtain⟨id,sub,q1,q2,q3⟩:=T9 hl hnd hcl ho;obtain⟨e,_⟩:=r.inj _ _ _ _ q2 hl' q3;exact hi (e▸q1)
  have lcal:∀ {i s},live h' i s->Cal i->live h3 i s:=fun{i s} hl' hC=>(Q2 (h3c i hC)).2 hl';have lrest:∀ {i s},live h' i s->¬Cal i->i∉ids/\live hc i s:=fun{i s} hl' hC=>by
   have hd:h' i≠ .dead:=by
    cases s with
    |none=>intro e;simp[live,e]at hl'
    |some p=>obtain⟨_,_,_,e,_⟩:=hl';rw[e];simp
   obtain⟨h1,h2⟩:=rest i hC hd;exact⟨h1,(Q2 h2).1 hl'⟩
  have fr3:∀ {b},uO hm ρ' b->uO (aO (ids.map fun a=>jq (dh ids) (hc a))) (fun i s=>ρ (dD ids i) s) b\/w.heap.size<=b:=fun ho=>far.fresh _ ho;have parts:∀ {i s j t},live h3 i s->j∉ids->live hc j t->(ρ' (nm i) s).1≠ (ρ j t).1:=fun{i s j t} h1 h2 h4 e=>by
   rcases fr3 ⟨nm i,s,(em3.live h1).1,e⟩with ho|ho
   ·exact xin h2 h4 ho
   ·have:=T7 r ⟨j,t,h4,rfl⟩;omega
  have ownc:∀ {b},uO h' ρ3 b->uO h3 (fun i s=>ρ' (nm i) s) b\/∃id sub,id∉ids/\live hc id sub/\(ρ id sub).1=b:=fun{b} ⟨i,s,h1,h2⟩=>by
   by_cases hC:Cal i
   ·exact .inl ⟨i,s,lcal h1 hC,by rw[←h2,r3c i hC]⟩
   ·obtain⟨h4,h5⟩:=lrest h1 hC;exact .inr ⟨i,s,h4,h5,by rw[←h2,r3n i hC]⟩
  have hA3:∀b,l6 w' (UG X hc ρ ids) h3 (fun i s=>ρ' (nm i) s) b->l6 w' X h' ρ3 b:=fun b hb=>⟨hb.1,fun hx=>hb.2.1 (.inl hx),fun ho=>by
   rcases ownc ho with ho| ⟨i,s,h1,h2,rfl⟩
   ·exact hb.2.2 ho
   ·exact hb.2.1 (.inr ⟨⟨i,s,h2,rfl⟩,xin h1 h2⟩)⟩
  have noE:∀ {b},¬uO hc ρ b->¬uO (aO (ids.map fun a=>jq (dh ids) (hc a))) (fun i s=>ρ (dD ids i) s) b:=fun{b} hb ho=>by
   obtain⟨id,sub,_,q2,q3⟩:=T9 hl hnd hcl ho;exact hb ⟨id,sub,q2,q3⟩
  have hAc:∀b,l6 w X hc ρ b->l6 w' X h' ρ3 b/\w'.heap[b]?=w.heap[b]?:=fun b hb=>by
   refine⟨⟨aea hb.1 far.size,hb.2.1,fun ho=>?_⟩,far.old b hb.1 (noE hb.2.2)⟩;rcases ownc ho with ho| ⟨i,s,h1,h2,rfl⟩
   ·rcases fr3 (own3 ho)with ho|ho
    ·exact noE hb.2.2 ho
    ·have:=hb.1;omega
   ·exact hb.2.2 ⟨i,s,h2,rfl⟩
  have pas:∀a∈ids,bw (dh ids a)=true:=fun a ha=>by
   have:=Db ha;simp only[bw,decide_eq_true_eq];omega
  have stayI:∀a∈ids,(∀p∈gv,p.1≠a)->h' a≠ .dead/\ρ3 a none=ρ a none/\hm (dh ids a)≠ .dead:=fun a ha hg=>by
   have h1:=(S0 c4 _ a _ (by have h1:=List.idxOf_lt_length_of_mem ha;rw[adW h1];simp) (oget a ha)).2 hg;have h2:hm (dh ids a)≠ .dead:=by rw[hm_ids a ha];exact h1
   refine⟨by rw[h_ids a ha hg,ne_eq,TZ];exact h2,?_,h2⟩;rw[r3c a (.inl ⟨ha,hg⟩),nmi a ha,(far.stay _ (pas a ha) h2).2,Cp hl ha]
  have bfB:∀id,bf (hc id)=true->bf (h' id)=true/\ρ3 id none=ρ id none:=fun id hb=>by
   have h1:¬ (n<=id/\id<n+jt res):=fun hh=>by rw[gdead id hh.1 hh.2]at hb;cases hb
   have h2:∀p∈gv,p.1≠id:=fun p hp e=>by
    have:=List.all_eq_true.1 c5 p hp;rw[e,hb]at this;cases this
   by_cases hi:id∈ids
   ·have h4:=(S0 c4 _ id _ (by have h1:=List.idxOf_lt_length_of_mem hi;rw[adW h1];simp) (oget id hi)).1 hb;exact⟨by rw[h_ids id hi h2,XN,hm_ids id hi];exact h4,(stayI id hi h2).2.1⟩
   ·exact⟨by rw[h_out id hi h1 h2];exact hb,r3n id (fun hC=>by rcases hC with hC|hC;exact hi hC.1;exact h1 hC) none⟩
  have rel:Rel w' X ρ3 h':=by
   refine⟨fun i s j t h1 h2 e=>?_,fun i s h1 hx=>?_,fun id=>?_,fun b hb=>aea (r.xl b hb) far.size⟩
   ·by_cases hi:Cal i<;>by_cases hj:Cal j
    ·rw[r3c i hi,r3c j hj]at e;exact r3.inj _ _ _ _ (lcal h1 hi) (lcal h2 hj) e
    ·rw[r3c i hi,r3n j hj]at e;obtain⟨q1,q2⟩:=lrest h2 hj;exact absurd e (parts (lcal h1 hi) q1 q2)
    ·rw[r3n i hi,r3c j hj]at e;obtain⟨q1,q2⟩:=lrest h1 hi;exact absurd e.symm (parts (lcal h2 hj) q1 q2)
    ·rw[r3n i hi,r3n j hj]at e;exact r.inj _ _ _ _ (lrest h1 hi).2 (lrest h2 hj).2 e
   ·by_cases hi:Cal i
    ·rw[r3c i hi]at hx;exact r3.nx _ _ (lcal h1 hi) (hx.imp .inl id)
    ·rw[r3n i hi]at hx;exact r.nx _ _ (lrest h1 hi).2 hx
   ·by_cases hi:Cal id
    ·have:=(r3.ob id).keep (w':=w') (A':=l6 w' X h' ρ3) (ρ':=ρ3) (h':=h') (fun b hb=>⟨hA3 b hb,rfl⟩) (fun i hb=>by
      have hC:=h3n i (fun e=>by rw[e]at hb;cases hb);rw[h3c i hC]at hb;exact⟨hb,r3c i hC none⟩) (fun s=>r3c id hi s) (fun _ _=>rfl)
     rwa[h3c id hi]at this
    ·by_cases hd:h' id=.dead
     ·rw[hd];trivial
     ·obtain⟨q1,q2⟩:=rest id hi hd;have:=(r.ob id).keep (w':=w') (A':=l6 w' X h' ρ3) (ρ':=ρ3) (h':=h') hAc bfB (fun s=>r3n id hi s) (fun s hl'=>far.old _ (T7 r ⟨id,s,hl',rfl⟩) (xin q1 hl'));rwa[←q2]at this
  have evo:Evo w ρ hc w' ρ3 h' ((if kp then []else ids.map (·,true))++gv):=by
   refine⟨far.os,far.tape,far.output,far.size,fun b hb ho=>far.old b hb (noE ho),fun id sub hp hk=>?_,fun b ho=>?_,bfB,fun id hp hd=>?_⟩
   ·rw[Bq,Bool.or_eq_false_iff]at hk;have h2:∀p∈gv,p.1≠id:=fun p hp' e=>by
     have hk2:=hk.2;simp only[iT,List.any_eq_false,QQ,beq_iff_eq,Bool.or_eq_true,Bool.not_eq_true',not_and]at hk2;exact hk2 p hp' e (.inl (gvflag p hp'))
    have hnd':hc id≠ .dead:=by
     cases sub with
     |none=>exact hp
     |some p=>obtain⟨_,_,_,e,_⟩:=hp;rw[e];simp
    have h1:¬ (n<=id/\id<n+jt res):=fun hh=>hnd' (gdead id hh.1 hh.2);by_cases hi:id∈ids
    ·cases sub with
     |none=>exact⟨(stayI id hi h2).1,(stayI id hi h2).2.1⟩
     |some p=>
      cases kp with
      |false=>
       have hk1:=hk.1;simp only[ad0,if_false,iT,List.any_map,List.any_eq_false,Function.comp,QQ,beq_iff_eq]at hk1;exact absurd ⟨rfl,rfl⟩ (hk1 id hi)
      |true=>
       have hpe:eA (aO (ids.map fun a=>jq (dh ids) (hc a))) (dh ids id) (some p):=by
        obtain⟨cs,k,rows,e1,e2⟩:=hp;have:=(em.back id (by simpa using hi)).2;rw[e1]at this;refine⟨cs.map (ez (dh ids)),k,rows,this,?_⟩;rw[aeb,e2];rfl
       obtain⟨q1,q2⟩:=far.keep rfl (dh ids id) p (pas id hi) (stayI id hi h2).2.2 hpe;refine⟨?_,?_⟩
       ·obtain⟨cs,k,rows,e1,e2⟩:=q1;refine⟨cs.map (ez (dD ids)),k,rows,?_,?_⟩
        ·rw[h_ids id hi h2,e1];rfl
        ·rw[aeb,e2];rfl
       ·rw[r3c id (.inl ⟨hi,h2⟩),nmi id hi,q2,Cp hl hi]
    ·have hC:¬Cal id:=fun hC=>by rcases hC with hC|hC;exact hi hC.1;exact h1 hC
     exact⟨(Ra (h_out id hi h1 h2)).2 hp,r3n id hC sub⟩
   ·rcases ownc ho with ho| ⟨i,s,h1,h2,rfl⟩
    ·rcases fr3 (own3 ho)with ho|ho
     ·obtain⟨id,sub,_,q2,q3⟩:=T9 hl hnd hcl ho;exact .inl ⟨id,sub,q2,q3⟩
     ·exact .inr ho
    ·exact .inl ⟨i,s,h2,rfl⟩
   ·simp only[bw,decide_eq_true_eq]at hp;by_cases hi:id∈ids
    ·refine⟨hdead id hi,?_⟩;by_cases hg:∀p∈gv,p.1≠id
     ·exact(stayI id hi hg).2.1
     ·exfalso;refine hd (h_gv id (by omega) ?_);have:=Classical.not_forall.1 hg;obtain⟨p,hp'⟩:=this;obtain⟨hp1,hp2⟩:=Classical.not_imp.1 hp';exact⟨p,hp1,Classical.not_not.1 hp2⟩
    ·have hC:¬Cal id:=fun hC=>by rcases hC with hC|hC;exact hi hC.1;omega
     obtain⟨_,q2⟩:=rest id hC hd;exact⟨q2▸hd,r3n id hC none⟩
  refine⟨ρ3,_,rfl,rel,evo,?_⟩;have toV:∀ {c:AV} {u:Value},RV w' (l6 w' (UG X hc ρ ids) hm ρ') ρ' hm c u->cj L3 c=true->RV w' (l6 w' X h' ρ3) ρ3 h' (ez (dD ids) c) u:=fun{c u} hv hcl'=>by
   have h1:=hv.embA (A2:=l6 w' (UG X hc ρ ids) h3 (fun i s=>ρ' (nm i) s)) em3 (fun b hb=>⟨hb.1,hb.2.1,fun ho=>hb.2.2 (own3 ho)⟩) hcl';exact h1.keep (fun b hb=>⟨hA3 b hb,rfl⟩) fun i s hp=>by
    have hC:=h3n i (by
     cases s with
     |none=>exact hp
     |some p=>obtain⟨_,_,_,e,_⟩:=hp;rw[e];simp)
    exact⟨(Ra (h3c i hC)).1 hp,r3c i hC s⟩
  have zc:=zcl l3a l3b;cases zr with
  |tup vs=>
   cases hv with
   |dat hd=>cases hd
   |tup _ us hs hr=>
    refine .tup _ us (by simpa using hs) fun i c u hc' hu=>?_;simp only[aeb,adV]at hc';obtain⟨c0,h1,rfl⟩:=hc';exact toV (hr i c0 u h1 hu) (zc c0 (QR h1))
  |_=>exact toV hv zc
 grind
end
theorem Vc:∀ {l} {ms},∀p∈mK ms l,p.2=false
 |[],ms,p,hp=>by grind[mK]
 |a::l,ms,p,hp=>by
  simp only[mK,List.mem_append]at hp;rcases hp with hp|hp
  ·split at hp
   ·simp only[aec]at hp;obtain⟨i,_,rfl⟩:=hp;rfl
   ·simp at hp
  ·exact Vc p hp
section
variable {P:Program} {I:Inv} {call:bQ} {md:Mode}
def YS(P:Program)(I:Inv)(call:bQ)(md:Mode):Prop:=
 ∀ {w} {X} {ρ} {h h'} {d} {f z} {zas} {ks} {uf} {us},d<1000->I.p w X->Rel w X ρ h->RV w (l6 w X h ρ) ρ h f uf->us.size=zas.length->
  (∀ (i:Nat) c u,zas[i]?=some c->us[i]?=some u->RV w (l6 w X h ρ) ρ h c u)->eN call md h d zas f=some (z,h',ks)->
  ∃g first cap,uf=.func (.func g) first cap/\Enters P g (first++us++cap) w fun v w'=>Got w X ρ h w' h' ks z v
theorem XD(hf:∀f,GQ P I (md.keep f) f (call f)):YS P I call md:=by
 intro w X ρ h h' d f z zas ks uf us hd hi r hvf hus hva hz;cases f<;>simp only[eN]at hz<;>try (cases hz;done)
 rename_i fid a b;obtain⟨first,cap,rfl,s1,s2,va,vb⟩:=hvf.fn_inv;refine⟨fid,first,cap,rfl,?_⟩;simp only[QS]at hz;obtain⟨⟨zs,hc,ks0⟩,e1,e2⟩:=hz;obtain⟨r1,ev1,fl1,ln1,vv⟩:=T6 (h0:=h) (a++zas++b) (md.m fid) (first++us++cap).toList r .refl (by grind) (fun i c u h1 h2=>by
  grind) e1
 have hnd:(fy hc 40 (bV [] (zs.flatMap bK)) 0).Nodup:=Ux (SZ List.nodup_nil);generalize fy hc 40 (bV [] (zs.flatMap bK)) 0=ids at*
 unfold lB at e2;split at e2
 ·rename_i hck;simp only[QQ,ad1,Bool.not_eq_true']at hck;obtain⟨k1,k2⟩:=hck;simp only[QS]at e2;obtain⟨⟨res,os⟩,e3,e4⟩:=e2;have hl:ids.length<=1000:=by
   grind[jX]
  have hcl:=fun a ha=>(k2 a ha).1;have hdead:∀a∈ids,hc a≠ .dead:=fun a ha e=>by
   have:=(k2 a ha).2;rw[e]at this;cases this
  have em:=Emb.enter (h:=hc) hl hnd hcl;obtain⟨rE,hA⟩:=Z0 r1 hl hnd hcl;have hi1:I.p w (UG X hc ρ ids):=I.more hi fun b hb=>.inl hb;refine(hf fid e3 (n:=2000+8*d) (by omega) hi1 rE (by grind[List.length_map,Si]) fun i c u hc' hu=>?_).mono fun v w' ⟨ρ',q1,q2,q3⟩=>?_
  ·simp only[aeb,adV]at hc';obtain⟨c0,h1,rfl⟩:=hc';obtain⟨c1,h2,h3⟩:=uP _ _ _ _ h1;obtain⟨h4,wy,hv⟩:=vv i c1 u h2 (by grind);have hv':RV w (l6 w X h4 ρ) ρ h4 c0 u:=by
    rcases h3 with rfl| ⟨ss,rfl⟩
    ·omega
    ·exact hv.nrmV ss
   have hcc:=k1 c0 (QR h1);exact(ZY wy hv' hcc).embA em hA hcc
  ·obtain⟨ρ3,k3,rfl,g1,g2,g3⟩:=YR r1 hnd hcl hdead Vc e4 q1 q2 q3;exact⟨ρ3,g1,ev1.trans g2,g3⟩
 grind
theorem Ua{w}{X}{ρ}{h}{b}(hb:l6 w X h ρ b):l6 w X (aO []) ρ b:=⟨hb.1,hb.2.1,fun⟨id,sub,hl,_⟩=>by
 have hd:aO [] id=.dead:=by grind[aO]
 cases sub with
 |none=>grind[live]
 |some p=>grind[live]⟩
theorem XT{w}{X}{ρ}{h}(r:Rel w X ρ h){id}{sub}(hl:live h id sub):l6 w X (aO []) ρ (ρ id sub).1:=
 ⟨T7 r ⟨id,sub,hl,rfl⟩,fun hx=>r.nx id sub hl (.inl hx),fun⟨id',sub',hl',_⟩=>by
  have hd:aO [] id'=.dead:=by grind[aO]
  cases sub' with
  |none=>grind[live]
  |some p=>grind[live]⟩
theorem YT{w}{X}{ρ}{h}(r:Rel w X ρ h){a c}{u}(hv:RV w (l6 w X h ρ) ρ h a u)(hz:E6 h a=some c):RV w (l6 w X (aO []) ρ) ρ (aO []) c u:=by
 have dd:∀ {a},RD w (l6 w X h ρ) a u->RV w (l6 w X (aO []) ρ) ρ (aO []) a u:=fun hd=>.dat (hd.mono fun b hb=>⟨Ua hb,rfl⟩);cases a<;>simp only[E6]at hz<;>try (cases hz;done)
 case v x=>cases hz;exact .dat (by obtain⟨rfl,hp⟩:=hv.v_inv;exact .v _ hp)
 case emp=>cases hz;obtain⟨a,rfl⟩:=hv.emp_inv;exact .dat (.emp a)
 case sl k rows=>cases hz;exact dd hv.sl_inv
 case rsl id sub k lo n=>
  simp only[adV]at hz;obtain⟨rs,h1,rfl⟩:=hz;obtain⟨a,cap,rfl,hp,hn,hb,ha⟩:=hv.rsl_inv;cases sub with
  |none=>
   simp only[pM]at h1;have ho:=r.ob id;cases eo:h id with
   |dead=>grind[sv,lJ]
   |bx cs=>grind[sv,lJ]
   |ar k' rows=>
    rw[eo]at h1 ho;simp only[sv,lJ]at h1;split at h1
    ·rename_i hc;obtain⟨rfl,hle⟩:=hc;cases h1;obtain⟨us,t0,g1,g2,g3,g4⟩:=ho;exact .dat (Rz g1 (XT r (by grind[live])) (g4.mono fun b hb=>⟨Ua hb,rfl⟩) hle hn ha)
    grind
   |fz k' rows=>
    rw[eo]at h1 ho;simp only[sv,lJ]at h1;split at h1
    ·rename_i hc;obtain⟨rfl,hle⟩:=hc;cases h1;obtain⟨ga,us,t0,fr,g1,g2,g3,g4⟩:=ho;exact .dat (Rz g1 (Ua ga) (g4.mono fun b hb=>⟨Ua hb,rfl⟩) hle hn ha)
    grind
  |some p=>
   simp only[pM]at h1;cases eo:h id with
   |bx cs=>
    rw[eo]at h1;simp only[lI]at h1;cases ec:cs[p]? with
    |none=>grind[xp,lJ]
    |some c=>
     rw[ec]at h1;cases c<;>simp[xp,lJ]at h1;rename_i k' rows;obtain⟨⟨rfl,hle⟩,rfl⟩:=h1;obtain⟨us,t0,g1,g2,g3,g4⟩:=r.cell eo;obtain⟨u,f1,a',cap',us1,t1,q1,q2,q3,q4,q5,q6,q7⟩:=g4 p _ ec;exact .dat (Rz q4 (XT r ⟨cs,_,rows,eo,ec⟩) (q7.mono fun b hb=>⟨Ua hb,rfl⟩) hle hn ha)
   |dead=>grind[lI,lJ]
   |ar k' rows=>grind[lI,lJ]
   |fz k' rows=>grind[lI,lJ]
 case fn f x y=>
  cases x with
  |cons a l=>grind
  |nil=>
   cases y with
   |cons a l=>grind
   |nil=>
    simp only[Option.some.injEq]at hz;subst hz;obtain⟨us,ts,rfl,s1,s2,_,_⟩:=hv.fn_inv;exact .fn f [] [] us ts s1 s2 (fun i c u hc=>by grind) (fun i c u hc=>by grind)
theorem Vd{w}{X}{ρ}{h}(r:Rel w X ρ h):∀l (vals:List Value) {cs},vals.length=l.length->(∀ (i:Nat) c u,l[i]?=some c->vals[i]?=some u->RV w (l6 w X h ρ) ρ h c u)->C4 h l=some cs->
  cs.length=l.length/\∀ (i:Nat) c u,cs[i]?=some c->vals[i]?=some u->RV w (l6 w X (aO []) ρ) ρ (aO []) c u
 |[],vals,cs,hl,hv,hz=>by
  grind[C4,Option.some.injEq]
 |a::l,[],cs,hl,hv,hz=>by grind
 |a::l,v::vals,cs,hl,hv,hz=>by
  simp only[C4,QS]at hz;obtain⟨b,e1,q,e2,e3⟩:=hz;cases e3;obtain⟨g1,g2⟩:=Vd r l vals (by grind) (fun i c u hc hu=>hv (i+1) c u (by grind) (by grind)) e2;refine⟨by grind,fun i c u hc hu=>?_⟩;cases i with
  |zero=>simp at hc hu;subst hc hu;exact YT r (hv 0 a v rfl rfl) e1
  |succ i=>grind
theorem YV{kp}{w w'}{X}{ρ ρ'}{h}(r:Rel w X ρ h)(far:Far kp w ρ (aO []) w' ρ' (aO [])):Rel w' X ρ h/\Evo w ρ h w' ρ h []:=by
 have no:∀b,¬uO (aO []) ρ b:=fun b ⟨id',sub',hl',_⟩=>by
  have hd:aO [] id'=.dead:=by grind[aO]
  cases sub' with
  |none=>grind[live]
  |some p=>grind[live]
 have e:Evo w ρ h w' ρ h []:=⟨far.os,far.tape,far.output,far.size,fun b hb _=>far.old b hb (no b),fun _ _ hp _=>⟨hp,rfl⟩,fun _ ho=>.inl ho,fun _ hb=>⟨hb,rfl⟩,fun _ _ hd=>⟨hd,rfl⟩⟩;exact⟨r.step e (fun _=>False) (fun _ _=>⟨rfl,fun _=>rfl,fun sub hl=>far.old _ (T7 r ⟨_,sub,hl,rfl⟩) (no _)⟩) r.inj r.nx (fun _ hf=>hf.elim),e⟩
theorem YW{c}(hp:Ch c=true)(n)(h):ge n h c=(c,h):=by
 cases c<;>simp[Ch]at hp;rfl
theorem Ve:∀ {vs} n h,vs.all Ch=true->ng n h vs=(vs,h)
 |[],n,h,_=>rfl
 |a::l,n,h,hp=>by
  simp only[List.all_cons,QQ]at hp;simp only[ng,YW hp.1,Ve (n+1) h hp.2]
theorem Z3{c}(hp:E7 c=true)(n)(h):mat n h c=(c,h):=by
 cases c<;>simp only[E7]at hp<;>try (simp[Ch]at hp;done)
 case v x=>rfl
 grind[mat,Ve]
theorem V4{w w'}{A A'}{ρ ρ'}{h h'}{c}{u}(hp:Ch c=true)(hv:RV w A ρ h c u):RV w' A' ρ' h' c u:=by
 cases c<;>simp[Ch]at hp;obtain⟨rfl,hp⟩:=hv.v_inv;exact .dat (.v _ hp)
theorem aaZ{w w'}{A A'}{ρ ρ'}{h h'}{c}{u}(hp:E7 c=true)(hv:RV w A ρ h c u):RV w' A' ρ' h' c u:=by
 cases c<;>simp only[E7]at hp<;>try (simp[Ch]at hp;done)
 case v x=>grind[V4]
 case tup vs=>
  cases hv with
  |dat hd=>cases hd
  |tup _ us hs hr=>exact .tup vs us hs fun i c u hc hu=>V4 (List.all_eq_true.1 hp c (QR hc)) (hr i c u hc hu)
theorem YX(hf:∀f,GQ P I (md.keep f) f (call f)):Rq P I call md:=by
 intro w X ρ h h' d f z zas ks uf us hd hi r hvf hus hva hz;unfold aM at hz;split at hz
 ·cases f<;>simp only[wZ]at hz<;>try (cases hz;done)
  rename_i fid a b _;obtain⟨first,cap,rfl,s1,s2,va,vb⟩:=hvf.fn_inv;refine⟨fid,first,cap,rfl,?_⟩;simp only[QS]at hz;obtain⟨cs,e1,⟨res,os⟩,e2,e3⟩:=hz;obtain⟨l1,l2⟩:=Vd r (a++zas++b) (first++us++cap).toList (by grind) (fun i c u h1 h2=>by
   grind) e1
  cases os with
  |cons o os=>grind[C5]
  |nil=>
   simp only[C5]at e3;split at e3
   ·rename_i hp;cases e3;have rE:Rel w X ρ (aO []):=by
     have hd:∀id,aO [] id=.dead:=fun id=>by grind[aO]
     have no:∀id sub,¬live (aO []) id sub:=fun id sub hl=>by
      cases sub with
      |none=>grind[live]
      |some p=>grind[live]
     exact⟨fun id sub _ _ h=>(no id sub h).elim,fun id sub h=>(no id sub h).elim,fun id=>by rw[hd];trivial,r.xl⟩
    refine(hf fid e2 (n:=2000) (QK _) hi rE (by grind[Si]) fun i c u hc' hu=>?_).mono fun v w' ⟨ρ',q1,q2,q3⟩=>?_
    ·obtain⟨c1,h2,h3⟩:=uP _ _ _ _ hc';have hv:=l2 i c1 u h2 (by grind);rcases h3 with rfl| ⟨ss,rfl⟩
     ·omega
     ·exact hv.nrmV ss
    ·rw[Z3 hp]at q1 q2 q3;obtain⟨g1,g2⟩:=YV r q2;exact⟨ρ,g1,g2,aaZ hp q3⟩
   grind
 ·exact XD hf hd hi r hvf hus hva hz
end
section
variable {P:Program} {I:Inv} {call:bQ} {md:Mode}
structure EnvOK (P:Program) (I:Inv) (e:Env):Prop where
 mixed:P.follows .mixedOrders=true
 ext:∀f g,e.E f=some g->GQ P I (e.md.keep f) f g
 text:∀f fd,e.E f=none->e.C f=some fd->Text P f fd
theorem YY(kp)(f):GQ P I kp f (fun _ _=>none):=by
 intro args obs obs' res w X ρ vals n hz;grind
theorem Z4{e}(he:EnvOK P I e):∀n f,GQ P I (e.md.keep f) f (gR e n f)
 |0,f=>YY _ f
 |n+1,f=>by
  cases hE:e.E f with
  |some g=>
   have:gR e (n+1) f=g:=by grind[gR]
   rw[this];exact he.ext f g hE
  |none=>
   cases hC:e.C f with
   |none=>
    have:gR e (n+1) f=fun _ _=>none:=by grind[gR]
    grind
   |some fd=>
    have:gR e (n+1) f=xz (gR e n) {e.md with nm:=e.md.keep f} n fd:=by grind[gR]
    rw[this];exact ab3 (md:={e.md with nm:=e.md.keep f}) he.mixed (YX (md:={e.md with nm:=e.md.keep f}) fun g=>Z4 he n g) (he.text f fd hE hC)
end
def Ev(p:Nat->Prop):Prop:=∃n,∀k,n<=k->p k
theorem Ev.and{p q}(a:Ev p)(b:Ev q):Ev fun k=>p k/\q k:=by
 obtain⟨n,hn⟩:=a;obtain⟨m,hm⟩:=b;exact⟨max n m,fun k hk=>⟨hn k (by omega),hm k (by omega)⟩⟩
theorem Ev.mono{p q}(a:Ev p)(h:∀k,p k->q k):Ev q:=by
 obtain⟨n,hn⟩:=a;exact⟨n,fun k hk=>h k (hn k hk)⟩
theorem Ev.all{p}(h:∀k,p k):Ev p:=⟨0,fun k _=>h k⟩
open Classical in
noncomputable def mU {α:Type} (f:Nat->Option α):Option α:=if h:∃a,Ev fun k=>f k=some a then some (Classical.choose h)else none
theorem fA{α}{f}{a:α}:mU f=some a↔Ev fun k=>f k=some a:=by
 unfold mU;constructor
 ·intro h;split at h
  all_goals grind
 ·intro h;have hh:∃a,Ev fun k=>f k=some a:=⟨a,h⟩;obtain⟨n,hn⟩:=Classical.choose_spec hh;obtain⟨m,hm⟩:=h;have h1:=hn (max n m) (by omega);grind
theorem Ei{α}{f g:Nat->Option α}(h:∀a,mU f=some a↔mU g=some a):mU f=mU g:=by
 cases hf:mU f with
 |none=>
  cases hg:mU g with
  |none=>rfl
  |some a=>grind
 |some a=>grind
theorem kP{α}(a:Option α):mU (fun _=>a)=a:=by
 cases a with
 |none=>
  cases h:mU (fun _:Nat=>none)with
  |none=>rfl
  |some a=>
   obtain⟨n,hn⟩:=fA.1 h;exact absurd (hn n (QK _)) (by simp)
 |some a=>exact fA.2 (Ev.all fun _=>rfl)
theorem xQ{α}(f:Nat->Option α):mU (fun n=>f (n+1))=mU f:=Ei fun a=>by
 rw[fA,fA];constructor
 ·rintro⟨n,hn⟩
  refine⟨n+1,fun k hk=>?_⟩;have:=hn (k-1) (by omega);grind
 ·rintro⟨n,hn⟩
  exact⟨n,fun k hk=>hn (k+1) (by omega)⟩
noncomputable def bX (body:ah->ac->Option (Ex×St)) (ks hs:List Nat) (s:ah) (h:ac):Option (Ex×St):=mU fun n=>jv body ks hs n s h
def xe(g:ah->ac->Option (Ex×St)):Option (Ex×St)->Option (Ex×St)
 |some (.normal,t)=>g t.s t.h
 |r=>r
theorem aD(body)(ks hs)(s)(h):
  bX body ks hs s h=if(hs.all fun a=>bo hs (h a))=true then xe (bX body ks hs) (body (mk .any (fun i=>eE hs (s i)) ks) (mk .dead h hs))else none:=by
 unfold bX;rw[←xQ];simp only[jv];split
 ·cases hb:body (mk .any (fun i=>eE hs (s i)) ks) (mk .dead h hs)with
  |none=>exact kP _
  |some r=>
   obtain⟨e,t⟩:=r;cases e with
   |normal=>rfl
   |exit id=>exact kP _
   |ret=>exact kP _
 ·exact kP _
noncomputable def aj (call:bQ) (md:Mode):Cmd->ah->ac->Option (Ex×St)
 | .skip,s,h=>some (.normal,⟨s,h⟩)
 | .ops ks l,s,h=>ak (ae call md l s h) fun s h=>some (.normal,⟨mk .any s ks,h⟩)
 | .dops ks l ps,s,h=>ak (ic call md l ps s h) fun s h=>some (.normal,⟨mk .any s ks,h⟩)
 | .seq a b,s,h=>bF (aj call md a s h) (aj call md b)
 | .cond c a b,s,h=>gu (aj call md a s h) (aj call md b s h) (ev s c)
 | .block id ks a,s,h=>aC id ks (aj call md a s h)
 | .loop ks hs a,s,h=>bX (aj call md a) ks hs s h
 | .exit id,s,h=>some (.exit id,⟨s,h⟩)
 | .ret,s,h=>some (.ret,⟨s,h⟩)
 | .frz is a,s,h=>ak (lZ md.nm is s h) (aj call md a)
noncomputable def bp (e:Env):bQ:=fun f args hs=>mU fun n=>gR e n f args hs
noncomputable def BA (call:bQ) (md:Mode) (fd:FD) (args:List AV) (hs:List Ob):Option (AV×List Ob):=
 if args.length=fd.np/\hs.length<=1000 then oH md.nm fd.rs fd.res hs.length (aj call md fd.body (oI args) (aO hs))else none
section
variable {e:Env} {md:Mode}
theorem Cq{h}{d}{zas}{f}{r}(hz:eN (bp e) md h d zas f=some r):Ev fun k=>eN (gR e k) md h d zas f=some r:=by
 cases f<;>simp only[eN]at hz⊢ <;>try (cases hz;done)
 simp only[QS]at hz⊢;obtain⟨p,e1,e2⟩:=hz;unfold lB at e2⊢;split at e2
 ·simp only[QS]at e2;obtain⟨q,e3,e4⟩:=e2;refine(fA.1 e3).mono fun k hk=>⟨p,e1,?_⟩;grind
 grind
theorem xR{h}{d}{zas}{f}{r}(hz:aM (bp e) md h d zas f=some r):Ev fun k=>aM (gR e k) md h d zas f=some r:=by
 unfold aM at hz⊢;by_cases hb:jY md zas f=true
 ·rw[if_pos hb]at hz;simp only[if_pos hb];cases f<;>simp only[wZ]at hz⊢ <;>try (cases hz;done)
  simp only[QS]at hz⊢;obtain⟨p,e1,q,e3,e4⟩:=hz;exact(fA.1 e3).mono fun k hk=>⟨p,e1,q,hk,e4⟩
 simp_all[if_neg,Cq]
theorem Ak{d}{op}{s}{h}{r}(hz:step (bp e) md d op s h=some r):Ev fun k=>step (gR e k) md d op s h=some r:=by
 cases op with
 |call f zas=>exact xR hz
 |callC f zas=>
  simp only[step,QS]at hz⊢;obtain⟨q,e1,e2⟩:=hz;exact(xR e1).mono fun k hk=>⟨q,hk,e2⟩
 |_=>exact Ev.all fun k=>hz
theorem Al{d}{op}{s}{h}{t}(hz:aN md.nm s d (step (bp e) md (d.getD 0) op s h)=some t):Ev fun k=>aN md.nm s d (step (gR e k) md (d.getD 0) op s h)=some t:=by
 cases hs:step (bp e) md (d.getD 0) op s h with
 |none=>rw[hs]at hz;cases hz
 |some r=>
  exact(Ak hs).mono fun k hk=>by grind
theorem Dc{o}{s}{h}{t}(hz:mN (bp e) md o s h=some t):Ev fun k=>mN (gR e k) md o s h=some t:=by
 unfold mN at hz⊢;cases hg:o.g with
 |none=>grind[Al]
 |some g=>
  rw[hg]at hz;simp only at hz⊢;unfold eP at hz⊢;split at hz
  ·split at hz
   all_goals simp_all[if_pos,Al,if_neg,Ev.all]
  all_goals grind[Ev.all]
theorem oO:∀ {l} {s} {h} {t},ae (bp e) md l s h=some t->Ev fun k=>ae (gR e k) md l s h=some t
 |[],s,h,t,hz=>Ev.all fun k=>hz
 |o::l,s,h,t,hz=>by
  simp only[ae,ak]at hz;split at hz
  ·grind
  ·rename_i t1 ht1;refine((Dc ht1).and (oO hz)).mono fun k hk=>?_;grind[ae,ak]
theorem xS{d}{op}{s}{h}{f}{t}(hz:mO s d f (step (bp e) md (d.getD 0) op s h)=some t):Ev fun k=>mO s d f (step (gR e k) md (d.getD 0) op s h)=some t:=by
 cases hs:step (bp e) md (d.getD 0) op s h with
 |none=>rw[hs]at hz;cases hz
 |some r=>
  exact(Ak hs).mono fun k hk=>by grind
theorem Dd{o}{s}{h}{t}(hz:je (bp e) md o s h=some t):Ev fun k=>je (gR e k) md o s h=some t:=by
 unfold je at hz⊢;cases hg:o.g with
 |none=>grind[xS]
 |some g=>
  rw[hg]at hz;simp only at hz⊢;unfold oE at hz⊢;split at hz
  ·split at hz
   all_goals simp_all[if_pos,xS,if_neg,Ev.all]
  all_goals grind[Ev.all]
theorem tG:∀ {l} {s} {h} {t},iF (bp e) md l s h=some t->Ev fun k=>iF (gR e k) md l s h=some t
 |[],s,h,t,hz=>Ev.all fun k=>hz
 |o::l,s,h,t,hz=>by
  simp only[iF,QS]at hz;obtain⟨r,e1,q,e2,e3⟩:=hz;refine((Dd e1).and (tG e2)).mono fun k hk=>?_;simp only[iF,hk.1,hk.2,QO,e3]
theorem De{l}{ps}{s}{h}{t}(hz:ic (bp e) md l ps s h=some t):Ev fun k=>ic (gR e k) md l ps s h=some t:=by
 unfold ic at hz⊢;cases hb:lC ps with
 |none=>
  rw[hb]at hz;simp only[lX,QS]at hz;obtain⟨q,e1,e2⟩:=hz;exact(tG e1).mono fun k hk=>by simp only[lX,QO, *]
 |some b=>
  rw[hb]at hz;simp only[qQ,QS]at hz;obtain⟨q,e1,e2⟩:=hz;split at e2
  ·simp only[ak]at e2;split at e2
   ·grind
   ·exact((tG e1).and (oO e2)).mono fun k hk=>by simp_all[qQ,QO,if_pos,ak]
  grind
theorem Am{c}{ks hs}(ih:∀ {s} {h} {r},aj (bp e) md c s h=some r->Ev fun k=>aA (gR e k) md k c s h=some r):
  ∀m {s} {h} {r},jv (aj (bp e) md c) ks hs m s h=some r->∃n,∀k,n<=k->∀j,n<=j->jv (aA (gR e k) md k c) ks hs j s h=some r
 |0,s,h,r,hz=>by grind[jv]
 |m+1,s,h,r,hz=>by
  simp only[jv]at hz;split at hz
  ·rename_i hc;cases hb:aj (bp e) md c (mk .any (fun i=>eE hs (s i)) ks) (mk .dead h hs)with
   |none=>grind
   |some q=>
    rw[hb]at hz;obtain⟨n1,h1⟩:=ih hb;obtain⟨ex,t⟩:=q;cases ex with
    |normal=>
     obtain⟨n2,h2⟩:=Am ih m hz;refine⟨max n1 n2+1,fun k hk j hj=>?_⟩;obtain⟨j,rfl⟩:∃j',j=j'+1:=⟨j-1,by omega⟩;simp only[jv,if_pos hc,h1 k (by omega)];grind
    |exit id=>
     refine⟨n1+1,fun k hk j hj=>?_⟩;obtain⟨j,rfl⟩:∃j',j=j'+1:=⟨j-1,by omega⟩;simp only[jv,if_pos hc,h1 k (by omega)];omega
    |ret=>
     refine⟨n1+1,fun k hk j hj=>?_⟩;obtain⟨j,rfl⟩:∃j',j=j'+1:=⟨j-1,by omega⟩;simp only[jv,if_pos hc,h1 k (by omega)];omega
  grind
theorem dt:∀c {s} {h} {r},aj (bp e) md c s h=some r->Ev fun k=>aA (gR e k) md k c s h=some r
 | .skip,s,h,r,hz=>Ev.all fun k=>hz
 | .ops ks l,s,h,r,hz=>by
  simp only[aj,ak]at hz;split at hz
  ·grind
  ·rename_i t1 ht1;exact(oO ht1).mono fun k hk=>by grind[aA,ak]
 | .dops ks l ps,s,h,r,hz=>by
  simp only[aj,ak]at hz;split at hz
  ·grind
  ·rename_i t1 ht1;exact(De ht1).mono fun k hk=>by grind[aA,ak]
 | .seq a b,s,h,r,hz=>by
  simp only[aj,bF]at hz;split at hz
  ·grind
  ·rename_i t1 ht1;exact((dt a ht1).and (dt b hz)).mono fun k hk=>by grind[aA,bF]
  ·rename_i i t1 ht1;exact(dt a ht1).mono fun k hk=>by grind[aA,bF]
  ·rename_i t1 ht1;exact(dt a ht1).mono fun k hk=>by grind[aA,bF]
 | .cond c a b,s,h,r,hz=>by
  simp only[aj,gu]at hz;split at hz
  ·rename_i t ht;cases t with
   |true=>simp_all[dt,aA,gu,if_true]
   |false=>simp_all[dt,aA,gu,ad0,if_false]
  grind
 | .block id ks a,s,h,r,hz=>by
  simp only[aj,aC]at hz;split at hz
  ·grind
  ·rename_i t1 ht1;exact(dt a ht1).mono fun k hk=>by grind[aA,aC]
  ·rename_i i t1 ht1;exact(dt a ht1).mono fun k hk=>by grind[aA,aC]
  ·rename_i t1 ht1;exact(dt a ht1).mono fun k hk=>by grind[aA,aC]
 | .loop ks hs a,s,h,r,hz=>by
  obtain⟨m,hm⟩:=fA.1 hz;obtain⟨n,hn⟩:=Am (fun hh=>dt a hh) m (hm m (QK _));exact⟨n,fun k hk=>by grind[aA]⟩
 | .exit id,s,h,r,hz=>Ev.all fun k=>hz
 | .ret,s,h,r,hz=>Ev.all fun k=>hz
 | .frz is a,s,h,r,hz=>by
  simp only[aj,ak]at hz;split at hz
  ·cases hz
  ·rename_i t1 ht1;exact(dt a hz).mono fun k hk=>by simp only[aA,ak, *]
theorem uQ{f}{fd}{args}{hs}{r}(hE:e.E f=none)(hC:e.C f=some fd)(hz:BA (bp e) {e.md with nm:=e.md.keep f} fd args hs=some r):bp e f args hs=some r:=by
 unfold bp;rw[fA];unfold BA at hz;split at hz
 ·cases hx:aj (bp e) {e.md with nm:=e.md.keep f} fd.body (oI args) (aO hs)with
  |none=>rw[hx]at hz;cases hz
  |some q=>
   obtain⟨n,hn⟩:=dt fd.body hx;refine⟨n+1,fun k hk=>?_⟩;obtain⟨k,rfl⟩:∃k',k=k'+1:=⟨k-1,by omega⟩
   simp_all[gR,QO,xz,if_pos]
 grind
theorem oQ{f}{g}{args}{hs}(hE:e.E f=some g):bp e f args hs=g args hs:=by
 unfold bp;rw[←xQ]
 simp_all[gR,funext,kP]
theorem Vr{P}{I}(he:EnvOK P I e)(f):GQ P I (e.md.keep f) f (bp e f):=by
 intro args obs obs' res w X ρ vals n hz;obtain⟨m,hm⟩:=fA.1 hz;exact Z4 he m f (hm m (QK _))
end
def pn(c1 c2:bQ):Prop:=∀f a hs r,c1 f a hs=some r->c2 f a hs=some r
section
variable {c1 c2:bQ} {md:Mode}
theorem zu(hc:pn c1 c2){h:ac}{d:Nat}{zas:List AV}{f:AV}{r:R3}(hz:eN c1 md h d zas f=some r):eN c2 md h d zas f=some r:=by
 cases f<;>simp only[eN]at hz⊢ <;>try (cases hz;done)
 simp only[QS]at hz⊢;obtain⟨p,e1,e2⟩:=hz;unfold lB at e2⊢;split at e2
 ·rename_i hcc;simp only[QS]at e2;obtain⟨q,e3,e4⟩:=e2;refine⟨p,e1,?_⟩;rw[if_pos hcc];simp only[QS];exact⟨q,hc _ _ _ _ e3,e4⟩
 ·cases e2
theorem sE(hc:pn c1 c2){h:ac}{d:Nat}{zas:List AV}{f:AV}{r:R3}(hz:aM c1 md h d zas f=some r):aM c2 md h d zas f=some r:=by
 unfold aM at hz⊢;split at hz
 ·rename_i hb;rw[if_pos hb];cases f<;>simp only[wZ]at hz⊢ <;>try (cases hz;done)
  simp only[QS]at hz⊢;obtain⟨p,e1,q,e3,e4⟩:=hz;exact⟨p,e1,q,hc _ _ _ _ e3,e4⟩
 ·rename_i hb;rw[if_neg hb];exact zu hc hz
theorem uR(hc:pn c1 c2){d:Nat}{op:AOp}{s:ah}{h:ac}{r:R3}(hz:step c1 md d op s h=some r):step c2 md d op s h=some r:=by
 cases op with
 |call f zas=>exact sE hc hz
 |callC f zas=>
  simp only[step,QS]at hz⊢;obtain⟨q,e1,e2⟩:=hz;exact⟨q,sE hc e1,e2⟩
 |_=>exact hz
theorem uS(hc:pn c1 c2){d:Option Nat}{op:AOp}{s:ah}{h:ac}{t:St}(hz:aN md.nm s d (step c1 md (d.getD 0) op s h)=some t):aN md.nm s d (step c2 md (d.getD 0) op s h)=some t:=by
 cases hs:step c1 md (d.getD 0) op s h with
 |none=>rw[hs]at hz;cases hz
 |some r=>
  rw[hs]at hz;rw[uR hc hs];exact hz
theorem BB(hc:pn c1 c2){o:COp}{s:ah}{h:ac}{t:St}(hz:mN c1 md o s h=some t):mN c2 md o s h=some t:=by
 unfold mN at hz⊢;cases hg:o.g with
 |none=>rw[hg]at hz;exact uS hc hz
 |some g=>
  rw[hg]at hz;simp only at hz⊢;unfold eP at hz⊢;split at hz
  ·split at hz
   ·rename_i hb;simp only[if_pos hb];exact uS hc hz
   ·rename_i hb;simp only[if_neg hb];exact hz
  ·exact hz
  ·cases hz
theorem l7(hc:pn c1 c2):∀ {l:List COp} {s:ah} {h:ac} {t:St},ae c1 md l s h=some t->ae c2 md l s h=some t
 |[],s,h,t,hz=>hz
 |o::l,s,h,t,hz=>by
  simp only[ae,ak]at hz;split at hz
  ·cases hz
  ·rename_i t1 ht1;simp only[ae,ak,BB hc ht1,l7 hc hz]
theorem sF(hc:pn c1 c2){d:Option Nat}{op:AOp}{s:ah}{h:ac}{f:ac->Fp}{t:St×Fp}(hz:mO s d f (step c1 md (d.getD 0) op s h)=some t):mO s d f (step c2 md (d.getD 0) op s h)=some t:=by
 cases hs:step c1 md (d.getD 0) op s h with
 |none=>rw[hs]at hz;cases hz
 |some r=>
  rw[hs]at hz;rw[uR hc hs];exact hz
theorem BC(hc:pn c1 c2){o:COp}{s:ah}{h:ac}{t:St×Fp}(hz:je c1 md o s h=some t):je c2 md o s h=some t:=by
 unfold je at hz⊢;cases hg:o.g with
 |none=>rw[hg]at hz;exact sF hc hz
 |some g=>
  rw[hg]at hz;simp only at hz⊢;unfold oE at hz⊢;split at hz
  ·split at hz
   ·rename_i hb;simp only[if_pos hb];exact sF hc hz
   ·rename_i hb;simp only[if_neg hb];exact hz
  ·exact hz
  ·cases hz
theorem pZ(hc:pn c1 c2):∀ {l:List COp} {s:ah} {h:ac} {t:St×List Fp},iF c1 md l s h=some t->iF c2 md l s h=some t
 |[],s,h,t,hz=>hz
 |o::l,s,h,t,hz=>by
  simp only[iF,QS]at hz;obtain⟨r,e1,q,e2,e3⟩:=hz;simp only[iF,BC hc e1,pZ hc e2,QO,e3]
theorem BD(hc:pn c1 c2){l:List COp}{ps:List (Nat×Nat)}{s:ah}{h:ac}{t:St}(hz:ic c1 md l ps s h=some t):ic c2 md l ps s h=some t:=by
 unfold ic at hz⊢;cases hb:lC ps with
 |none=>
  rw[hb]at hz;simp only[lX,QS]at hz;obtain⟨q,e1,e2⟩:=hz;simp only[lX,pZ hc e1,QO,e2]
 |some b=>
  rw[hb]at hz;simp only[qQ,QS]at hz;obtain⟨q,e1,e2⟩:=hz;split at e2
  ·rename_i hps;simp only[ak]at e2;split at e2
   ·cases e2
   ·rename_i t1 ht1;simp only[qQ,pZ hc e1,QO,if_pos hps,ht1,ak,l7 hc e2]
  ·cases e2
theorem qf{b1 b2:ah->ac->Option (Ex×St)}{ks hs:List Nat}(ih:∀ {s:ah} {h:ac} {r:Ex×St},b1 s h=some r->b2 s h=some r):
  ∀ (m:Nat) {j:Nat},m<=j->∀ {s:ah} {h:ac} {r:Ex×St},jv b1 ks hs m s h=some r->jv b2 ks hs j s h=some r
 |0,j,hj,s,h,r,hz=>by simp[jv]at hz
 |m+1,j,hj,s,h,r,hz=>by
  obtain⟨j,rfl⟩:∃j',j=j'+1:=⟨j-1,by omega⟩;simp only[jv]at hz⊢;split at hz
  ·rename_i hc;rw[if_pos hc];cases hb:b1 (mk .any (fun i=>eE hs (s i)) ks) (mk .dead h hs)with
   |none=>rw[hb]at hz;cases hz
   |some q=>
    rw[hb]at hz;rw[ih hb];obtain⟨ex,t⟩:=q;cases ex with
    |normal=>exact qf ih m (by omega) hz
    |exit id=>exact hz
    |ret=>exact hz
  ·cases hz
theorem cp(hc:pn c1 c2){lf lf':Nat}(hl:lf<=lf'):∀ (c:Cmd) {s:ah} {h:ac} {r:Ex×St},aA c1 md lf c s h=some r->aA c2 md lf' c s h=some r
 | .skip,s,h,r,hz=>hz
 | .ops ks l,s,h,r,hz=>by
  simp only[aA,ak]at hz;split at hz
  ·cases hz
  ·rename_i t1 ht1;simp only[aA,l7 hc ht1,ak];exact hz
 | .dops ks l ps,s,h,r,hz=>by
  simp only[aA,ak]at hz;split at hz
  ·cases hz
  ·rename_i t1 ht1;simp only[aA,BD hc ht1,ak];exact hz
 | .seq a b,s,h,r,hz=>by
  simp only[aA,bF]at hz;split at hz
  ·cases hz
  ·rename_i t1 ht1;simp only[aA,bF,cp hc hl a ht1,cp hc hl b hz]
  ·rename_i i t1 ht1;simp only[aA,bF,cp hc hl a ht1];exact hz
  ·rename_i t1 ht1;simp only[aA,bF,cp hc hl a ht1];exact hz
 | .cond c a b,s,h,r,hz=>by
  simp only[aA,gu]at hz;split at hz
  ·rename_i t ht;cases t with
   |true=>simp only[aA,gu,ht,if_true];exact cp hc hl a hz
   |false=>simp only[aA,gu,ht,ad0,if_false];exact cp hc hl b hz
  ·cases hz
 | .block id ks a,s,h,r,hz=>by
  simp only[aA,aC]at hz;split at hz
  ·cases hz
  ·rename_i t1 ht1;simp only[aA,aC,cp hc hl a ht1];exact hz
  ·rename_i i t1 ht1;simp only[aA,aC,cp hc hl a ht1];exact hz
  ·rename_i t1 ht1;simp only[aA,aC,cp hc hl a ht1];exact hz
 | .loop ks hs a,s,h,r,hz=>by
  simp only[aA]at hz⊢;exact qf (fun hh=>cp hc hl a hh) lf hl hz
 | .exit id,s,h,r,hz=>hz
 | .ret,s,h,r,hz=>hz
 | .frz is a,s,h,r,hz=>by
  simp only[aA,ak]at hz;split at hz
  ·cases hz
  ·rename_i t1 ht1;simp only[aA,ak,ht1];exact cp hc hl a hz
end
theorem V5(e:Env):∀ (n:Nat),pn (gR e n) (gR e (n+1))
 |0,f,a,hs,r,hz=>by cases hz
 |n+1,f,a,hs,r,hz=>by
  cases hE:e.E f with
  |some g=>
   simp only[gR,hE]at hz⊢;exact hz
  |none=>
   cases hC:e.C f with
   |none=>
    simp only[gR,hE,hC,Option.bind_none]at hz;cases hz
   |some fd=>
    have h1:xz (gR e n) {e.md with nm:=e.md.keep f} n fd a hs=some r:=by
     simpa only[gR,hE,hC,QO]using hz
    have h2:xz (gR e (n+1)) {e.md with nm:=e.md.keep f} (n+1) fd a hs=some r:=by
     unfold xz at h1⊢;split at h1
     ·rename_i hcc;rw[if_pos hcc];cases hx:aA (gR e n) {e.md with nm:=e.md.keep f} n fd.body (oI a) (aO hs)with
      |none=>rw[hx]at h1;cases h1
      |some q=>
       rw[hx]at h1;rw[cp (V5 e n) (Nat.le_succ n) fd.body hx];exact h1
     ·cases h1
    show gR e (n+1+1) f a hs=some r;show(match e.E f with
     |some g=>g a hs
     |none=>(e.C f).bind fun fd=>xz (gR e (n+1)) {e.md with nm:=e.md.keep f} (n+1) fd a hs)=some r
    rw[hE];show(e.C f).bind (fun fd=>xz (gR e (n+1)) {e.md with nm:=e.md.keep f} (n+1) fd a hs)=some r;rw[hC];exact h2
theorem ab5(e:Env){n k:Nat}(h:n<=k):pn (gR e n) (gR e k):=by
 induction h with
 |refl=>exact fun f a hs r hz=>hz
 |step _ ih=>exact fun f a hs r hz=>V5 e _ f a hs r (ih f a hs r hz)
theorem Tu{e:Env}{n:Nat}{f:FuncId}{a:List AV}{hs:List Ob}{r:AV×List Ob}(h:gR e n f a hs=some r):bp e f a hs=some r:=by
 unfold bp;rw[fA];exact⟨n,fun k hk=>ab5 e hk f a hs r h⟩
theorem WR{e1 e2:Env}(hmd:e2.md=e1.md)(hE:∀f g,e1.E f=some g->e2.E f=some g)(hC:∀f fd,e1.E f=none->e1.C f=some fd->e2.E f=none/\e2.C f=some fd):∀n,pn (gR e1 n) (gR e2 n)
 |0,f,a,hs,r,hz=>by cases hz
 |n+1,f,a,hs,r,hz=>by
  cases h1:e1.E f with
  |some g=>
   simp only[gR,h1]at hz;simp only[gR,hE f g h1];exact hz
  |none=>
   cases h2:e1.C f with
   |none=>
    simp only[gR,h1,h2,Option.bind_none]at hz;cases hz
   |some fd=>
    obtain⟨h3,h4⟩:=hC f fd h1 h2;have hz1:xz (gR e1 n) {e1.md with nm:=e1.md.keep f} n fd a hs=some r:=by
     simpa only[gR,h1,h2,QO]using hz
    have hz2:xz (gR e2 n) {e1.md with nm:=e1.md.keep f} n fd a hs=some r:=by
     unfold xz at hz1⊢;split at hz1
     ·rename_i hcc;rw[if_pos hcc];cases hx:aA (gR e1 n) {e1.md with nm:=e1.md.keep f} n fd.body (oI a) (aO hs)with
      |none=>rw[hx]at hz1;cases hz1
      |some q=>
       rw[hx]at hz1;rw[cp (WR hmd hE hC n) (QK n) fd.body hx];exact hz1
     ·cases hz1
    simpa only[gR,h3,h4,QO,hmd]using hz2
theorem aa0{e1 e2:Env}(hmd:e2.md=e1.md)(hE:∀f g,e1.E f=some g->e2.E f=some g)(hC:∀f fd,e1.E f=none->e1.C f=some fd->e2.E f=none/\e2.C f=some fd):pn (bp e1) (bp e2):=fun _ _ _ _ hz=>
 fA.2 ((fA.1 hz).mono fun k h=>WR hmd hE hC k _ _ _ _ h)
def ab:List Nat->Nat
 |[]=>0
 |x::l=>x+4294967296*ab l
def Lb(m:List Nat):Prop:=∀x∈m,x<4294967296
def bE:Nat->Nat->List Nat
 |0,_=>[]
 |k+1,n=>n%4294967296::bE k (n/4294967296)
def af(n:Nat):List Nat:=if h:n=0 then []else n%4294967296::af (n/4294967296)
termination_by n
decreasing_by omega
theorem du:af 0=[]:=by grind[af]
theorem jD{n}(h:n≠0):af n=n%4294967296::af (n/4294967296):=by rw[af,dif_neg h]
theorem lM{n}:af n=[]↔n=0:=by
 grind[jD,du]
theorem aY(n):ab (af n)=n:=by
 induction n using Nat.strongRecOn with
 |ind n ih=>
  grind[du,jD,ab]
theorem bh(n):Lb (af n):=by
 induction n using Nat.strongRecOn with
 |ind n ih=>
  by_cases h:n=0
  ·subst h;rw[du];intro x hx;grind
  ·rw[jD h];intro x hx;rcases List.mem_cons.1 hx with rfl|hx
   ·omega
   ·exact ih _ (by omega) x hx
theorem xT:Lb []:=fun x hx=>by grind
theorem lP{x}{l}:Lb (x::l)↔x<4294967296/\Lb l:=by
 constructor
 ·intro h;exact⟨h x (by simp),fun y hy=>h y (by grind)⟩
 ·rintro⟨h1,h2⟩ y hy
  rcases List.mem_cons.1 hy with rfl|hy
  ·omega
  ·exact h2 y hy
theorem qh{l r}:Lb (l++r)↔Lb l/\Lb r:=by
 constructor
 ·intro h;exact⟨fun x hx=>h x (by grind),fun x hx=>h x (by grind)⟩
 ·rintro⟨h1,h2⟩ x hx
  rcases List.mem_append.1 hx with hx|hx
  ·exact h1 x hx
  ·exact h2 x hx
theorem qS{l}(h:Lb l)(n):Lb (l.take n):=fun x hx=>h x (List.mem_of_mem_take hx)
theorem Ej{l}(h:Lb l)(n):Lb (l.drop n):=fun x hx=>h x (List.mem_of_mem_drop hx)
theorem cY{l}(h:Lb l)(i):l.getD i 0<4294967296:=by
 rw[List.getD_eq_getElem?_getD];cases hq:l[i]? with
 |none=>simp
 |some x=>exact h x (QR hq)
theorem fC(l r):ab (l++r)=ab l+4294967296^l.length*ab r:=by
 induction l with
 |nil=>simp[ab]
 |cons x l ih=>
  simp only[List.cons_append,ab,ih,adX,ad7,Nat.mul_add];grind
theorem gS{l}(h:Lb l):ab l<4294967296^l.length:=by
 induction l with
 |nil=>simp[ab]
 |cons x l ih=>
  obtain⟨h1,h2⟩:=lP.1 h;grind[ab,adX,ad7]
theorem bO(k n):(bE k n).length=k:=by
 induction k generalizing n with
 |zero=>rfl
 |succ k ih=>grind[bE]
theorem qT(k n):Lb (bE k n):=by
 induction k generalizing n with
 |zero=>exact xT
 |succ k ih=>exact lP.2 ⟨by omega,ih _⟩
theorem oR(k n):ab (bE k n)=n%4294967296^k:=by
 induction k generalizing n with
 |zero=>simp[bE,ab,Nat.mod_one]
 |succ k ih=>
  rw[bE,ab,ih,ad7,aeh (4294967296^k),Nat.mod_mul]
theorem rH{l}(h:Lb l):bE l.length (ab l)=l:=by
 induction l with
 |nil=>rfl
 |cons x l ih=>
  obtain⟨h1,h2⟩:=lP.1 h;grind[adX,bE,ab]
theorem uT(n):ab (QI n 0)=0:=by
 induction n with
 |zero=>rfl
 |succ n ih=>simp[List.replicate_succ,ab,ih]
def ed(m:List Nat):Nat->Nat
 |0=>0
 |n+1=>if m.getD n 0=0 then ed m n else n+1
theorem qi(m):∀n,ed m n<=n
 |0=>QK _
 |n+1=>by
  unfold ed;have:=qi m n;split<;>omega
theorem An(m):∀n,ed m n=0\/m.getD (ed m n-1) 0≠0
 |0=>.inl rfl
 |n+1=>by
  unfold ed;split
  ·exact An m n
  ·rename_i h;exact .inr h
theorem xU(m):∀n i,ed m n<=i->i<n->m.getD i 0=0
 |0,i,_,h=>by omega
 |n+1,i,h1,h2=>by
  unfold ed at h1;split at h1
  ·rename_i h;by_cases e:i=n
   ·rw[e];exact h
   ·exact xU m n i h1 (by omega)
  ·omega
def oS(m:List Nat):Prop:=m=[]\/m.getD (m.length-1) 0≠0
theorem tH(x)(l)(i):(x::l).getD (i+1) 0=l.getD i 0:=by grind
theorem sG{x}{l}(h:oS (x::l)):oS l:=by
 rcases h with h|h
 ·grind
 ·cases l with
  |nil=>exact .inl rfl
  |cons y l=>
   refine .inr ?_;grind
theorem Cr{l}(h:oS l)(hne:l≠[]):ab l≠0:=by
 induction l with
 |nil=>grind
 |cons x l ih=>
  cases l with
  |nil=>
   rcases h with h|h
   all_goals grind[ab]
  |cons y l=>
   grind[sG,ab]
theorem Ao{l}(h1:Lb l)(h2:oS l):af (ab l)=l:=by
 induction l with
 |nil=>exact du
 |cons x l ih=>
  obtain⟨h3,h4⟩:=lP.1 h1;grind[jD,Cr,ab,sG]
theorem Cs(n):oS (af n):=by
 induction n using Nat.strongRecOn with
 |ind n ih=>
  by_cases h:n=0
  ·subst h;rw[du];exact .inl rfl
  ·refine .inr ?_;rcases ih (n/4294967296) (by omega)with h2|h2
   all_goals grind[af,adX,Nat.add_sub_cancel,tH]
theorem xV(m):ab (m.take (ed m m.length))=ab m:=by
 have h:m=m.take (ed m m.length)++m.drop (ed m m.length):=(List.take_append_drop _ _).symm;have hz:m.drop (ed m m.length)=QI (m.length-ed m m.length) 0:=by
  rw[List.eq_replicate_iff];refine⟨by simp,fun x hx=>?_⟩;obtain⟨i,hi⟩:=ad9 hx;rw[List.getElem?_drop]at hi;have hl:=(List.getElem?_eq_some_iff.1 hi).1;have:=xU m m.length (ed m m.length+i) (by omega) hl;grind
 grind[fC,uT]
theorem tJ(m:List Nat):oS (m.take (ed m m.length)):=by
 rcases An m m.length with h|h
 ·rw[h];exact .inl rfl
 ·by_cases h0:ed m m.length=0
  ·rw[h0];exact .inl rfl
  ·refine .inr ?_;grind
theorem xW{m}(h:Lb m):m.take (ed m m.length)=af (ab m):=by
 rw[←Ao (qS h _) (tJ m),xV]
theorem jf{n k}(h:n<4294967296^k):(af n).length<=k:=by
 induction k generalizing n with
 |zero=>
  grind[du]
 |succ k ih=>
  grind[jD,adX,ad7,Nat.div_lt_of_lt_mul,aeh]
theorem jg(n):n<4294967296^ (af n).length:=by
 grind[gS,bh,aY]
theorem Ct{n}(h:n≠0):4294967296^ ((af n).length-1)<=n:=by
 induction n using Nat.strongRecOn with
 |ind n ih=>
  grind[af,Nat.succ_pred_eq_of_pos,Nat.add_sub_cancel,ad7]
def tz(n:Nat):Nat:=if h:n=0 then 0 else if n%2=1 then 0 else tz (n/2)+1
termination_by n
decreasing_by omega
theorem nG{n}(h:n%2=1):tz n=0:=by
 rw[tz,dif_neg (by omega),if_pos h]
theorem Cu{n}(h:n≠0):tz (2*n)=tz n+1:=by
 rw[tz,dif_neg (by omega),if_neg (by omega),Nat.mul_div_cancel_left n (by decide)]
theorem qk{n}(k)(h:n≠0):tz (2^k*n)=k+tz n:=by
 induction k with
 |zero=>rw[Nat.pow_zero,Nat.one_mul,QN]
 |succ k ih=>
  grind[ad7,aeh,Nat.mul_assoc,Cu,Nat.mul_ne_zero,Nat.ne_of_gt,Nat.two_pow_pos]
theorem qU{n}(h:n≠0):n=2^tz n*(n/2^tz n)/\n/2^tz n%2=1:=by
 induction n using Nat.strongRecOn with
 |ind n ih=>
  by_cases h1:n%2=1
  ·simp_all[nG,Nat.pow_zero,Nat.div_one,Nat.one_mul]
  ·have hn:n=2*(n/2):=by omega
   grind[tz,ad7,aeh,Nat.div_div_eq_div_mul,Nat.mul_assoc]
theorem Ft{x k}(y)(h:x≠0)(hx:x<2^k):tz (x+2^k*y)=tz x:=by
 obtain⟨e1,e2⟩:=qU h;generalize x/2^tz x=q at e1 e2;have hle:2^tz x<=x:=by
  conv=>rhs;rw[e1]
  exact Nat.le_mul_of_pos_right _ (by omega)
 have hk:=(Nat.pow_lt_pow_iff_right (by decide)).1 (Nat.lt_of_le_of_lt hle hx);generalize hz:2^ (k-tz x-1)*y=z;have e3:x+2^k*y=2^tz x*(q+2*z):=by
  have e4:2^k=2^tz x*(2*2^ (k-tz x-1)):=by
   rw[←Nat.pow_succ',←Nat.pow_add];grind
  grind
 have e5:(q+2*z) %2=1:=by omega
 rw[e3,qk _ (by omega),nG e5,Nat.add_zero]
theorem D7{x k}(h:x≠0)(hx:x<2^k):tz x<k:=by
 obtain⟨e1,e2⟩:=qU h;generalize x/2^tz x=q at e1 e2;have hle:2^tz x<=x:=by
  conv=>rhs;rw[e1]
  exact Nat.le_mul_of_pos_right _ (by omega)
 exact(Nat.pow_lt_pow_iff_right (by decide)).1 (Nat.lt_of_le_of_lt hle hx)
def Cv:Nat->Nat->Nat
 |0,_=>0
 |k+1,n=>if n%2=1 then 0 else Cv k (n/2)+1
theorem Fu:∀k x,x≠0->x<2^k->Cv k x=tz x:=by
 intro k;induction k with
 |zero=>omega
 |succ k ih=>
  intro x h0 h1;unfold Cv;by_cases h:x%2=1
  ·rw[if_pos h,nG h]
  ·have:=Cu (n:=x/2) (by omega);grind
section
variable {call:bQ} {md:Mode} {s:ah} {h:ac}
@[go_sem] theorem OE:aj call md .skip s h=some (.normal,⟨s,h⟩):=_root_.id rfl
@[go_sem] theorem Qb(ks l):aj call md (.ops ks l) s h=ak (ae call md l s h) fun s h=>some (.normal,⟨mk .any s ks,h⟩):=_root_.id rfl
@[go_sem] theorem Qc(is a):aj call md (.frz is a) s h=ak (lZ md.nm is s h) (aj call md a):=_root_.id rfl
@[go_sem] theorem OF(ks l ps):aj call md (.dops ks l ps) s h=ak (ic call md l ps s h) fun s h=>some (.normal,⟨mk .any s ks,h⟩):=_root_.id rfl
@[go_sem] theorem GU(a b):aj call md (.seq a b) s h=bF (aj call md a s h) (aj call md b):=_root_.id rfl
@[go_sem] theorem OG(c a b):aj call md (.cond c a b) s h=gu (aj call md a s h) (aj call md b s h) (ev s c):=_root_.id rfl
@[go_sem] theorem Ma(id ks a):aj call md (.block id ks a) s h=aC id ks (aj call md a s h):=_root_.id rfl
@[go_sem] theorem OH(ks hs a):aj call md (.loop ks hs a) s h=bX (aj call md a) ks hs s h:=_root_.id rfl
@[go_sem] theorem OI(i):aj call md (.exit i) s h=some (.exit i,⟨s,h⟩):=_root_.id rfl
@[go_sem] theorem Qd:aj call md .ret s h=some (.ret,⟨s,h⟩):=_root_.id rfl
@[go_sem] theorem Fv(s h f):bF (some (.normal,⟨s,h⟩)) f=f s h:=_root_.id rfl
@[go_sem] theorem GV(i t f):bF (some (.exit i,t)) f=some (.exit i,t):=_root_.id rfl
@[go_sem] theorem HY(t f):bF (some (.ret,t)) f=some (.ret,t):=_root_.id rfl
@[go_sem] theorem Ga(id ks i t):aC id ks (some (.exit i,t))=if i=id then some (.normal,⟨mk .any t.s ks,t.h⟩)else some (.exit i,t):=_root_.id rfl
@[go_sem] theorem ET(id ks t):aC id ks (some (.normal,t))=some (.normal,⟨mk .any t.s ks,t.h⟩):=_root_.id rfl
@[go_sem] theorem GW(id ks t):aC id ks (some (.ret,t))=some (.ret,t):=_root_.id rfl
@[go_sem] theorem GX(a b):gu a b (.v (.bool true))=a:=_root_.id rfl
@[go_sem] theorem Gb(a b):gu a b (.v (.bool false))=b:=_root_.id rfl
@[go_sem] theorem Fw(g t):xe g (some (.normal,t))=g t.s t.h:=_root_.id rfl
@[go_sem] theorem GY(g i t):xe g (some (.exit i,t))=some (.exit i,t):=_root_.id rfl
@[go_sem] theorem HZ(g t):xe g (some (.ret,t))=some (.ret,t):=_root_.id rfl
@[go_sem] theorem GZ{β}(s h)(f:ah->ac->Option β):ak (some ⟨s,h⟩) f=f s h:=_root_.id rfl
@[go_sem] theorem H0{β}(c) [Decidable c](x y)(f:ah->ac->Option β):ak (if c then x else y) f=if c then ak x f else ak y f:=by split<;>rfl
@[go_sem] theorem H1(c) [Decidable c](x y)(f):bF (if c then x else y) f=if c then bF x f else bF y f:=by split<;>rfl
@[go_sem] theorem Mb:ae call md [] s h=some ⟨s,h⟩:=_root_.id rfl
@[go_sem] theorem sH(d op rest):ae call md (⟨some d,none,.p op⟩::rest) s h=(dw s op).bind fun a=>ae call md rest (upd s d a) h:=by
 simp only[ae,mN,step,tD];cases dw s op with
 |none=>rfl
 |some a=>simp only[ad5,aN,j6,if_true];rfl
def cm(d n:Nat):COp:=⟨some d,none,.p (.mv (.t n))⟩
def co(d:Nat)(op:POp):COp:=⟨some d,none,.p op⟩
def cg(d j:Nat)(w:Bool)(op:POp):COp:=⟨some d,some (j,w),.p op⟩
@[go_sem] theorem OJ(d n rest):ae call md (cm d n::rest) s h=ae call md rest (upd s d (s n)) h:=sH d (.mv (.t n)) rest
@[go_sem] theorem OK(d op rest):ae call md (co d op::rest) s h=(dw s op).bind fun a=>ae call md rest (upd s d a) h:=sH d op rest
@[go_sem] theorem OL(d j w op rest):ae call md (cg d j w op::rest) s h=ak (eP (some d) w ((dw s op).map fun a=>⟨upd s d a,h⟩) s h (s j)) (ae call md rest):=by
 have:aN md.nm s (some d) (step call md d (.p op) s h)=(dw s op).map fun a=>⟨upd s d a,h⟩:=by
  simp only[step,tD];cases dw s op with
  |none=>rfl
  |some a=>simp only[ad5,aN,j6,if_true];rfl
 show ak (eP (some d) w (aN md.nm s (some d) (step call md d (.p op) s h)) s h (s j)) _=_;rw[this]
def b2(d:Nat)(op:BinOp)(a b:Nat):COp:=⟨some d,none,.p (.bin op (.t a) (.t b))⟩
def fa(d k a:Nat):COp:=⟨some d,none,.p (.fadr k (.t a))⟩
def nk(d a:Nat):COp:=⟨some d,none,.p (.nilck (.t a))⟩
def ld(d k a:Nat):COp:=⟨some d,none,.load k false (.t a)⟩
def la(d k a:Nat):COp:=⟨some d,none,.load k true (.t a)⟩
def ca(d f:Nat)(zas:List Opd):COp:=⟨some d,none,.call (.c (.fn f [] [])) zas⟩
def sr(k:Nat)(x y:Opd):COp:=⟨none,none,.store k x y⟩
def al(d:Nat)(z:List AV):COp:=⟨some d,none,.alloc z⟩
def bx(d k:Nat)(x:Opd):COp:=⟨some d,none,.box k x⟩
@[go_sem] theorem OM(d op a b rest):ae call md (b2 d op a b::rest) s h=(bS op (s a) (s b)).bind fun a=>ae call md rest (upd s d a) h:=sH d (.bin op (.t a) (.t b)) rest
@[go_sem] theorem ON(d k a rest):ae call md (fa d k a::rest) s h=(qM k (s a)).bind fun a=>ae call md rest (upd s d a) h:=sH d (.fadr k (.t a)) rest
@[go_sem] theorem OP(d a rest):ae call md (nk d a::rest) s h=(rC (s a)).bind fun a=>ae call md rest (upd s d a) h:=sH d (.nilck (.t a)) rest
@[go_sem] theorem OQ(d k a rest):ae call md (ld d k a::rest) s h=ak (aN md.nm s (some d) (hH h k false (s a))) (ae call md rest):=_root_.id rfl
@[go_sem] theorem OR(d k a rest):ae call md (la d k a::rest) s h=ak (aN md.nm s (some d) (hH h k true (s a))) (ae call md rest):=_root_.id rfl
@[go_sem] theorem OS(d f zas rest):ae call md (ca d f zas::rest) s h=ak (aN md.nm s (some d) (aM call md h d (zas.map (ev s)) (.fn f [] []))) (ae call md rest):=_root_.id rfl
@[go_sem] theorem OT(k x y rest):ae call md (sr k x y::rest) s h=ak (aN md.nm s none (kK h k (ev s x) (ev s y))) (ae call md rest):=_root_.id rfl
@[go_sem] theorem OU(d z rest):ae call md (al d z::rest) s h=ak (aN md.nm s (some d) (gP h d z [])) (ae call md rest):=_root_.id rfl
@[go_sem] theorem OV(d k x rest):ae call md (bx d k x::rest) s h=ak (aN md.nm s (some d) (rD h d k (ev s x))) (ae call md rest):=_root_.id rfl
@[go_sem] theorem Qe(d j w op rest):ae call md (⟨d,some (j,w),op⟩::rest) s h=ak (eP d w (aN md.nm s d (step call md (d.getD 0) op s h)) s h (s j)) (ae call md rest):=_root_.id rfl
@[go_sem] theorem H2(d z rest):ae call md (⟨some d,none,.alloc z⟩::rest) s h=ak (aN md.nm s (some d) (gP h d z [])) (ae call md rest):=_root_.id rfl
@[go_sem] theorem Mc(d k x rest):ae call md (⟨some d,none,.box k x⟩::rest) s h=ak (aN md.nm s (some d) (rD h d k (ev s x))) (ae call md rest):=_root_.id rfl
@[go_sem] theorem Gc(d k z n ps rest):ae call md (⟨some d,none,.buildSl k z n ps⟩::rest) s h=ak (aN md.nm s (some d) ((dq k h (QI n z) (ps.map fun p=>(p.1,ev s p.2))).bind fun q=>aT q.2.1 d k q.1 n q.2.2)) (ae call md rest):=_root_.id rfl
@[go_sem] theorem J1(d k z b l c rest):ae call md (⟨some d,none,.mkSl k z b l c⟩::rest) s h=ak (aN md.nm s (some d) ((sy (ev s l) (ev s c)).bind fun p=>if p.2*b<=140737488355328 then aT h d k (QI p.1 z) p.1 []else none)) (ae call md rest):=_root_.id rfl
@[go_sem] theorem J2(d k g x rest):ae call md (⟨some d,none,.load k g x⟩::rest) s h=ak (aN md.nm s (some d) (hH h k g (ev s x))) (ae call md rest):=_root_.id rfl
@[go_sem] theorem H3(d k x y rest):ae call md (⟨d,none,.store k x y⟩::rest) s h=ak (aN md.nm s d (kK h k (ev s x) (ev s y))) (ae call md rest):=_root_.id rfl
@[go_sem] theorem Md(d k b x y rest):ae call md (⟨some d,none,.app k b x y⟩::rest) s h=ak (aN md.nm s (some d) (A8 h d k b (ev s x) (ev s y))) (ae call md rest):=_root_.id rfl
@[go_sem] theorem J3(d f zas rest):ae call md (⟨some d,none,.call f zas⟩::rest) s h=ak (aN md.nm s (some d) (aM call md h d (zas.map (ev s)) (ev s f))) (ae call md rest):=_root_.id rfl
@[go_sem] theorem H4(f zas rest):ae call md (⟨none,none,.call f zas⟩::rest) s h=ak (aN md.nm s none (aM call md h 0 (zas.map (ev s)) (ev s f))) (ae call md rest):=_root_.id rfl
@[go_sem] theorem J4(nm)(s d x h):aN nm s (some d) (some (x,h,[]))=some ⟨upd s d x,h⟩:=by simp only[aN,j6,if_true];rfl
@[go_sem] theorem H5(nm)(s x h):aN nm s none (some (x,h,[]))=some ⟨s,h⟩:=by simp only[aN,j6,if_true];rfl
@[go_sem] theorem OW(d op):step call md d (.p op) s h=tD h (dw s op):=_root_.id rfl
@[go_sem] theorem H6(d k g x):step call md d (.load k g x) s h=hH h k g (ev s x):=_root_.id rfl
@[go_sem] theorem H7(d f zas):step call md d (.call f zas) s h=aM call md h d (zas.map (ev s)) (ev s f):=_root_.id rfl
@[go_sem] theorem G0(d k x y):step call md d (.store k x y) s h=kK h k (ev s x) (ev s y):=_root_.id rfl
@[go_sem] theorem G1(d z):step call md d (.alloc z) s h=gP h d z []:=_root_.id rfl
@[go_sem] theorem J5(d k x):step call md d (.box k x) s h=rD h d k (ev s x):=_root_.id rfl
@[go_sem] theorem Fy(d k z n ps):step call md d (.buildSl k z n ps) s h=(dq k h (QI n z) (ps.map fun p=>(p.1,ev s p.2))).bind fun q=>aT q.2.1 d k q.1 n q.2.2:=_root_.id rfl
@[go_sem] theorem H8(d k z b l c):step call md d (.mkSl k z b l c) s h=(sy (ev s l) (ev s c)).bind fun p=>if p.2*b<=140737488355328 then aT h d k (QI p.1 z) p.1 []else none:=_root_.id rfl
@[go_sem] theorem H9(h a):tD h (some a)=some (a,h,[]):=_root_.id rfl
@[go_sem] theorem G2(d st s h):eP d true st s h (.v (.bool true))=st:=_root_.id rfl
@[go_sem] theorem G3(d st s h):eP d false st s h (.v (.bool false))=st:=_root_.id rfl
@[go_sem] theorem G4(d st s h):eP (some d) true st s h (.v (.bool false))=some ⟨upd s d .und,h⟩:=_root_.id rfl
@[go_sem] theorem G5(d st s h):eP (some d) false st s h (.v (.bool true))=some ⟨upd s d .und,h⟩:=_root_.id rfl
@[go_sem] theorem Ge(d w st s h):eP (some d) w st s h .und=some ⟨upd s d .und,h⟩:=_root_.id rfl
@[go_sem] theorem Qv(s n):ev s (.t n)=s n:=_root_.id rfl
@[go_sem] theorem Qw(s a):ev s (.c a)=a:=_root_.id rfl
@[go_sem] theorem J6(s):evo s none=none:=_root_.id rfl
@[go_sem] theorem J7(s x):evo s (some x)=some (ev s x):=_root_.id rfl
@[go_sem] theorem OX{α}(s)(d)(x:α)(i):upd s d x i=if i=d then x else s i:=_root_.id rfl
@[go_sem] theorem OY{α}(d)(f:Nat->α):mk d f []=fun _=>d:=_root_.id rfl
@[go_sem] theorem Me{α}(d)(f:Nat->α)(i l):mk d f (i::l)=upd (mk d f l) i (f i):=_root_.id rfl
@[go_sem] theorem Qx(x):dw s (.mv x)=some (ev s x):=_root_.id rfl
@[go_sem] theorem OZ(c a b):dw s (.pick c a b)=wR (ev s c) (ev s a) (ev s b):=_root_.id rfl
@[go_sem] theorem Mf(x):dw s (.nilck x)=rC (ev s x):=_root_.id rfl
@[go_sem] theorem O0(n x):dw s (.nilq n x)=AQ n (ev s x):=_root_.id rfl
@[go_sem] theorem Qf(op x y):dw s (.bin op x y)=bS op (ev s x) (ev s y):=_root_.id rfl
@[go_sem] theorem Qy(op x):dw s (.un op x)=Cf op (ev s x):=_root_.id rfl
@[go_sem] theorem Qz(k x):dw s (.cv k x)=EY k (ev s x):=_root_.id rfl
@[go_sem] theorem Qg(x):dw s (.cv0 x)=EZ (ev s x):=_root_.id rfl
@[go_sem] theorem Qh(k x lo hi mx):dw s (.slc k x lo hi mx)=gO k (ev s x) (evo s lo) (evo s hi) (evo s mx):=_root_.id rfl
@[go_sem] theorem O1(x lo hi):dw s (.slcS x lo hi)=DV (ev s x) (evo s lo) (evo s hi):=_root_.id rfl
@[go_sem] theorem O3(o x):dw s (.fadr o x)=qM o (ev s x):=_root_.id rfl
@[go_sem] theorem Qi(o k g x):dw s (.fld o k g x)=CY o k g (ev s x):=_root_.id rfl
@[go_sem] theorem Mg(k x i):dw s (.iadrS k x i)=kJ k (ev s x) (ev s i):=_root_.id rfl
@[go_sem] theorem Mh(n k x i):dw s (.iadrA n k x i)=su n k (ev s x) (ev s i):=_root_.id rfl
@[go_sem] theorem O4(x i):dw s (.idxS x i)=wS (ev s x) (ev s i):=_root_.id rfl
@[go_sem] theorem O5(n k g x i):dw s (.idxA n k g x i)=DW n k g (ev s x) (ev s i):=_root_.id rfl
@[go_sem] theorem Qj(i x):dw s (.ext i x)=CZ i (ev s x):=_root_.id rfl
@[go_sem] theorem Qk(m x):dw s (.len m x)=oB m (ev s x):=_root_.id rfl
@[go_sem] theorem Ql(m t x y):dw s (.eqc m t x y)=CX m t (ev s x) (ev s y):=_root_.id rfl
@[go_sem] theorem O6(x):dw s (.capp x)=C0 (ev s x):=_root_.id rfl
@[go_sem] theorem Qm(m x ys):dw s (.mnx m x ys)=tu m (ev s x) (ys.map (ev s)):=_root_.id rfl
@[go_sem] theorem Mi(z ps):dw s (.build z ps)=(nE z (ps.map fun p=>(p.1,p.2.1,ev s p.2.2))).map .agg:=_root_.id rfl
@[go_sem] theorem Qn(f a b):dw s (.mkF f a b)=some (.fn f (a.map (ev s)) (b.map (ev s))):=_root_.id rfl
@[go_sem] theorem Ia(a b):wR (.v (.bool true)) a b=some a:=_root_.id rfl
@[go_sem] theorem G6(a b):wR (.v (.bool false)) a b=some b:=_root_.id rfl
@[go_sem] theorem J8(id sub k i j):rC (.ref id sub k i j)=some (.ref id sub k i j):=_root_.id rfl
@[go_sem] theorem J9(cs):rC (.ipt cs)=some (.ipt cs):=_root_.id rfl
@[go_sem] theorem Mj(f a b):rC (.fn f a b)=some (.fn f a b):=_root_.id rfl
theorem eG(op a b):bS op (.v a) (.v b)=(fY op a b).map .v:=_root_.id rfl
@[go_sem] theorem Mk(k a b):bS .add (.v (.int k a)) (.v (.int k b))=some (.v (.int k (k.wrap (a+b)))):=by simp[eG,fY,jk]
@[go_sem] theorem Ml(k a b):bS .sub (.v (.int k a)) (.v (.int k b))=some (.v (.int k (k.wrap (a-b)))):=by simp[eG,fY,jk]
@[go_sem] theorem Mm(k a b):bS .mul (.v (.int k a)) (.v (.int k b))=some (.v (.int k (k.wrap (a*b)))):=by simp[eG,fY,jk]
@[go_sem] theorem Ek(k a b):bS .quo (.v (.int k a)) (.v (.int k b))=if b=0 then none else some (.v (.int k (k.wrap (a.tdiv b)))):=by simp only[eG,fY,jk,if_true];split<;>rfl
@[go_sem] theorem Ap(k a b):bS .rem (.v (.int k a)) (.v (.int k b))=if b=0 then none else some (.v (.int k (a.tmod b))):=by simp only[eG,fY,jk,if_true];split<;>rfl
@[go_sem] theorem Mn(k a b):bS .and (.v (.int k a)) (.v (.int k b))=some (.v (.int k (k.wrap ((BitVec.ofInt k.bits a&&&BitVec.ofInt k.bits b).toNat)))):=by simp[eG,fY,jk]
@[go_sem] theorem Fz(k a b):bS .or (.v (.int k a)) (.v (.int k b))=some (.v (.int k (k.wrap ((BitVec.ofInt k.bits a|||BitVec.ofInt k.bits b).toNat)))):=by simp[eG,fY,jk]
@[go_sem] theorem El(k k' a b):bS .shl (.v (.int k a)) (.v (.int k' b))=if b<0 then none else some (.v (.int k (k.wrap (a*2^ (min b.toNat k.bits))))):=by simp only[eG,fY,EW];split<;>rfl
@[go_sem] theorem tK(k k' a b):bS .shr (.v (.int k a)) (.v (.int k' b))=if b<0 then none else some (.v (.int k (a.fdiv (2^ (min b.toNat k.bits))))):=by simp only[eG,fY,EX];split<;>rfl
@[go_sem] theorem Mo(k a b):bS .lss (.v (.int k a)) (.v (.int k b))=some (B (decide (a<b))):=by simp[eG,fY,jk]
@[go_sem] theorem Mp(k a b):bS .leq (.v (.int k a)) (.v (.int k b))=some (B (decide (a<=b))):=by simp[eG,fY,jk]
@[go_sem] theorem Mr(k a b):bS .gtr (.v (.int k a)) (.v (.int k b))=some (B (decide (b<a))):=by simp[eG,fY,jk]
@[go_sem] theorem Ms(k a b):bS .geq (.v (.int k a)) (.v (.int k b))=some (B (decide (b<=a))):=by simp[eG,fY,jk]
@[go_sem] theorem Mt(k a b):bS .eql (.v (.int k a)) (.v (.int k b))=some (B (decide (a=b))):=by simp[eG,fY,jk];rfl
@[go_sem] theorem Mu(k a b):bS .neq (.v (.int k a)) (.v (.int k b))=some (B (!decide (a=b))):=by simp[eG,fY,jk,bne];rfl
@[go_sem] theorem O7(k a):Cf .neg (.v (.int k a))=some (.v (.int k (k.wrap (0-a)))):=_root_.id rfl
@[go_sem] theorem O8(k a):Cf .xor (.v (.int k a))=some (.v (.int k (k.wrap ((BitVec.ofInt k.bits (if k.signed then-1 else k.max)^^^BitVec.ofInt k.bits a).toNat)))):=_root_.id rfl
@[go_sem] theorem Mv(k a b):bS .xor (.v (.int k a)) (.v (.int k b))=some (.v (.int k (k.wrap ((BitVec.ofInt k.bits a^^^BitVec.ofInt k.bits b).toNat)))):=by simp[eG,fY,jk]
@[go_sem] theorem O9(b):Cf .not (.v (.bool b))=some (B (!b)):=_root_.id rfl
@[go_sem] theorem Pa(k k' n):EY k (.v (.int k' n))=some (.v (.int k (k.wrap n))):=_root_.id rfl
@[go_sem] theorem Ka(o id sub k i j):qM o (.ref id sub k i j)=some (.ref id sub k i (j+o)):=_root_.id rfl
@[go_sem] theorem Kb(o cs):qM o (.ipt cs)=some (.ipt (cs.drop o)):=_root_.id rfl
@[go_sem] theorem Mw(o k g cs):CY o k g (.agg cs)=iZ k g cs o:=_root_.id rfl
@[go_sem] theorem Ib(k cs o):iZ k false cs o=cs[o]?:=_root_.id rfl
@[go_sem] theorem Kc(k cs o):iZ k true cs o=if o+k<=cs.length then some (.agg ((cs.drop o).take k))else none:=_root_.id rfl
@[go_sem] theorem My(k rows k' i):kJ k (.sl k rows) (.v (.int k' i))=ey rows i:=by simp[kJ]
@[go_sem] theorem Kd(k id sub lo n k' i):kJ k (.rsl id sub k lo n) (.v (.int k' i))=if 0<=i/\i<n then some (.ref id sub k (lo+i.toNat) 0)else none:=by simp[kJ]
@[go_sem] theorem Ic(n k id sub k' a j kk i):su n k (.ref id sub k' a j) (.v (.int kk i))=if 0<=i/\i<n then some (.ref id sub k' a (j+i.toNat*k))else none:=_root_.id rfl
@[go_sem] theorem Ie(n k cs kk i):su n k (.ipt cs) (.v (.int kk i))=if 0<=i/\i<n then some (.ipt (cs.drop (i.toNat*k)))else none:=_root_.id rfl
@[go_sem] theorem Mz(i vs):CZ i (.tup vs)=vs[i]?:=_root_.id rfl
@[go_sem] theorem Pb(k rows):oB false (.sl k rows)=some (I rows.length):=_root_.id rfl
@[go_sem] theorem MA:oB false .emp=some (I 0):=_root_.id rfl
@[go_sem] theorem MB(a b c d n):oB false (.rsl a b c d n)=some (I n):=_root_.id rfl
@[go_sem] theorem MC(x):oB true (.v (.string x))=some (I x.size):=_root_.id rfl
@[go_sem] theorem Ke(m a):tu m a []=some a:=_root_.id rfl
@[go_sem] theorem If(m a b l):tu m a (b::l)=(AS m a b).bind fun c=>tu m c l:=_root_.id rfl
@[go_sem] theorem MD(k k' x y):AS true (.v (.int k x)) (.v (.int k' y))=some (.v (.int k (if y<x then y else x))):=_root_.id rfl
@[go_sem] theorem ME(k k' x y):AS false (.v (.int k x)) (.v (.int k' y))=some (.v (.int k (if x<y then y else x))):=_root_.id rfl
@[go_sem] theorem Kf(m a b):CX m 0 (.v (.bool a)) (.v (.bool b))=some (B (m != (a==b))):=_root_.id rfl
@[go_sem] theorem Ig(z):nE z []=some z:=_root_.id rfl
@[go_sem] theorem G7(z o k a ps):nE z ((o,k,a)::ps)=(cX a).bind fun cs=>if cs.length=k/\o+k<=z.length then nE (setRow z o cs) ps else none:=_root_.id rfl
@[go_sem] theorem Ih(cs):cX (.agg cs)=some cs:=_root_.id rfl
@[go_sem] theorem MF(x):cX (.v x)=some [.v x]:=_root_.id rfl
@[go_sem] theorem Ii:cX .emp=some [.emp]:=_root_.id rfl
@[go_sem] theorem Kg(k r):cX (.sl k r)=some [.sl k r]:=_root_.id rfl
@[go_sem] theorem Ij(a b c d e):cX (.rsl a b c d e)=some [.rsl a b c d e]:=_root_.id rfl
@[go_sem] theorem Ik(a b c d e):cX (.ref a b c d e)=some [.ref a b c d e]:=_root_.id rfl
@[go_sem] theorem Kh(f a b):cX (.fn f a b)=some [.fn f a b]:=_root_.id rfl
@[go_sem] theorem G8(r j):setRow r j []=r:=_root_.id rfl
@[go_sem] theorem Gf(r j c cs):setRow r j (c::cs)=setRow (r.set j c) (j+1) cs:=_root_.id rfl
@[go_sem] theorem Ki(h k g cs):hH h k g (.ipt cs)=(iZ k g cs 0).map fun a=>(a,h,[]):=_root_.id rfl
@[go_sem] theorem Kj(h k g id k0 i j):hH h k g (.ref id none k0 i j)=sx h k g id k0 i j (h id):=_root_.id rfl
@[go_sem] theorem Kk(h k g id p k0 i j):hH h k g (.ref id (some p) k0 i j)=lA h k g k0 i j (lI p (h id)):=_root_.id rfl
@[go_sem] theorem Kl(h k g id k0 i j cs):sx h k g id k0 i j (.bx cs)=wT h id (i*k0+j) k g cs:=_root_.id rfl
@[go_sem] theorem Km(h k g id k0 i j k' rows):sx h k g id k0 i j (.ar k' rows)=lA h k g k0 i j (some (k',rows)):=_root_.id rfl
@[go_sem] theorem Kn(h k g id k0 i j k' rows):sx h k g id k0 i j (.fz k' rows)=lA h k g k0 i j (some (k',rows)):=_root_.id rfl
@[go_sem] theorem G9(h id p k cs):wT h id p k false cs=(cs[p]?).map fun c=>(lw id p c,h,[]):=_root_.id rfl
@[go_sem] theorem Il(h id p k cs):wT h id p k true cs=if p+k<=cs.length then(if((cs.drop p).take k).any bT then some (.agg (((cs.map tv).drop p).take k),upd h id (.bx (cs.map tv)),[(id,true)])else some (.agg ((cs.drop p).take k),h,[]))else none:=_root_.id rfl
@[go_sem] theorem MG(id p x):lw id p (.v x)=.v x:=_root_.id rfl
@[go_sem] theorem Im(id p):lw id p .emp=.emp:=_root_.id rfl
@[go_sem] theorem Ko(id p k r):lw id p (.sl k r)=.sl k r:=_root_.id rfl
@[go_sem] theorem Io(id p a b c d e):lw id p (.ref a b c d e)=.ref a b c d e:=_root_.id rfl
@[go_sem] theorem Kp(id p f a b):lw id p (.fn f a b)=.fn f a b:=_root_.id rfl
@[go_sem] theorem Ip(id p k r):lw id p (.osl k r)=.rsl id (some p) k 0 r.length:=_root_.id rfl
@[go_sem] theorem Ha(h k g i j k' rows):lA h k g k' i j (some (k',rows))=(rows[i]?).bind fun row=>(iZ k g row j).map fun a=>(a,h,[]):=by simp[lA]
@[go_sem] theorem MH(x):bT (.v x)=false:=_root_.id rfl
@[go_sem] theorem Iq:bT .emp=false:=_root_.id rfl
@[go_sem] theorem Kq(k r):bT (.sl k r)=false:=_root_.id rfl
@[go_sem] theorem Ir(k r):bT (.osl k r)=true:=_root_.id rfl
@[go_sem] theorem Is(a b c d e):bT (.ref a b c d e)=false:=_root_.id rfl
@[go_sem] theorem Kr(f a b):bT (.fn f a b)=false:=_root_.id rfl
@[go_sem] theorem Pc(x):aq (.v x)=true:=_root_.id rfl
@[go_sem] theorem Ks:aq .emp=true:=_root_.id rfl
@[go_sem] theorem MI(k r):aq (.sl k r)=true:=_root_.id rfl
@[go_sem] theorem Kt(a b c d e):aq (.rsl a b c d e)=false:=_root_.id rfl
@[go_sem] theorem Ku(a b c d e):aq (.ref a b c d e)=false:=_root_.id rfl
@[go_sem] theorem Kv(f):aq (.fn f [] [])=true:=_root_.id rfl
@[go_sem] theorem MJ(cs):dat (.agg cs)=cs.all aq:=_root_.id rfl
@[go_sem] theorem Qo(x):dat (.v x)=true:=_root_.id rfl
@[go_sem] theorem MK:dat .emp=true:=_root_.id rfl
@[go_sem] theorem Pd(k r):dat (.sl k r)=true:=_root_.id rfl
@[go_sem] theorem ML(a b c d e):dat (.rsl a b c d e)=false:=_root_.id rfl
@[go_sem] theorem MN(a b c d e):dat (.ref a b c d e)=false:=_root_.id rfl
@[go_sem] theorem MO(f):dat (.fn f [] [])=true:=_root_.id rfl
@[go_sem] theorem Kw(h d cs ks):gP h d cs ks=xr h d (.ref d none 0 0 0) (.bx cs) ks (h d):=_root_.id rfl
@[go_sem] theorem It(h d a o ks):xr h d a o ks .dead=some (a,upd h d o,ks):=_root_.id rfl
@[go_sem] theorem Hb(h d k rows n ks):aT h d k rows n ks=xr h d (.rsl d none k 0 n) (.ar k rows) ks (h d):=_root_.id rfl
@[go_sem] theorem Pe(h d k x):rD h d k x=(cX x).bind fun xs=>if xs.length=k then(if xs.all aq then gP h d xs []else(gP h d (QI k .any) []).bind (E4 d 0 xs))else none:=_root_.id rfl
@[go_sem] theorem FA(k h rows):dq k h rows []=some (rows,h,[]):=_root_.id rfl
@[go_sem] theorem EU(k h rows i a ps):dq k h rows ((i,a)::ps)=(cX a).bind fun cs=>if cs.length=k/\i<rows.length then(gr h cs).bind fun q=>(dq k q.2.1 (rows.set i q.1) ps).bind fun r=>some (r.1,r.2.1,q.2.2++r.2.2)else none:=_root_.id rfl
@[go_sem] theorem Iu(h):gr h []=some ([],h,[]):=_root_.id rfl
@[go_sem] theorem Hc(h a l):gr h (a::l)=(eJ h a).bind fun p=>(gr p.2.1 l).bind fun q=>some (p.1::q.1,q.2.1,p.2.2++q.2.2):=_root_.id rfl
@[go_sem] theorem Pf(h x):eJ h (.v x)=some (.v x,h,[]):=_root_.id rfl
@[go_sem] theorem Kx(h):eJ h .emp=some (.emp,h,[]):=_root_.id rfl
@[go_sem] theorem MP(h k r):eJ h (.sl k r)=some (.sl k r,h,[]):=_root_.id rfl
@[go_sem] theorem MQ(h f):eJ h (.fn f [] [])=some (.fn f [] [],h,[]):=_root_.id rfl
@[go_sem] theorem Ky(h id k lo n):eJ h (.rsl id none k lo n)=jV h id k lo n (h id):=_root_.id rfl
@[go_sem] theorem Iv(h id p k lo n):eJ h (.rsl id (some p) k lo n)=AW h id p k lo n (h id):=_root_.id rfl
@[go_sem] theorem MR(h id k lo n rows):jV h id k lo n (.ar k rows)=if lo+n<=rows.length then some (jo k lo n rows,upd h id (.fz k rows),[])else none:=by simp[jV]
@[go_sem] theorem MS(h id k lo n rows):jV h id k lo n (.fz k rows)=if lo+n<=rows.length then some (jo k lo n rows,h,[])else none:=by simp[jV]
@[go_sem] theorem MT(k lo n rows):jo k lo n rows=.sl k ((rows.drop lo).take n):=_root_.id rfl
@[go_sem] theorem Iw(h k id k0 i j x):kK h k (.ref id none k0 i j) x=(cX x).bind fun xs=>if xs.length=k then AX h k id k0 i j xs (h id)else none:=_root_.id rfl
@[go_sem] theorem Ix(h k id p k0 i j x):kK h k (.ref id (some p) k0 i j) x=(cX x).bind fun xs=>if xs.length=k then(gr h xs).bind fun q=>AY q.2.1 k id p k0 i j q.1 q.2.2 (q.2.1 id)else none:=_root_.id rfl
@[go_sem] theorem MU(h k id k0 i j xs cs):AX h k id k0 i j xs (.bx cs)=C1 h id (i*k0+j) k xs cs:=_root_.id rfl
@[go_sem] theorem MV(h k id k0 i j xs k' rows):AX h k id k0 i j xs (.ar k' rows)=(gr h xs).bind fun q=>C2 q.2.1 id k k0 i j q.1 q.2.2 (q.2.1 id):=_root_.id rfl
@[go_sem] theorem MW(h id k k0 i j xs ks k' rows):C2 h id k k0 i j xs ks (.ar k' rows)=(tw k k0 i j xs k' rows).map fun q=>(.und,upd h id (.ar k' q),ks):=_root_.id rfl
@[go_sem] theorem MX(k k0 i j cs rows):tw k k0 i j cs k0 rows=(rows[i]?).bind fun row=>if j+k<=row.length then some (rows.set i (setRow row j cs))else none:=by simp[tw]
@[go_sem] theorem MY(h id p k xs cs):C1 h id p k xs cs=if p+k<=cs.length then(if xs.all aq then some (.und,upd h id (.bx (setRow cs p xs)),if((cs.drop p).take k).any bT then [(id,true)]else [])else(nF h id p xs.length xs).map fun q=>(.und,q.1,q.2))else none:=_root_.id rfl
@[go_sem] theorem MZ(hs x):eE hs (.v x)=.v x:=_root_.id rfl
@[go_sem] theorem Iy(hs):eE hs .emp=.emp:=_root_.id rfl
@[go_sem] theorem Kz(hs k r):eE hs (.sl k r)=.sl k r:=_root_.id rfl
@[go_sem] theorem Iz(hs):eE hs .any=.any:=_root_.id rfl
@[go_sem] theorem IA(hs cs):eE hs (.ipt cs)=.ipt cs:=_root_.id rfl
@[go_sem] theorem IB(hs id sub k lo n):eE hs (.rsl id sub k lo n)=if hs.contains id then .rsl id sub k lo n else .any:=_root_.id rfl
@[go_sem] theorem IC(hs id sub k lo n):eE hs (.ref id sub k lo n)=if hs.contains id then .ref id sub k lo n else .any:=_root_.id rfl
@[go_sem] theorem ID(hs cs):eE hs (.agg cs)=if cs.all (knownL hs)then .agg cs else .any:=_root_.id rfl
@[go_sem] theorem IE(hs f):eE hs (.fn f [] [])=.fn f [] []:=_root_.id rfl
@[go_sem] theorem KA(hs f a b):eE hs (.fn f a b)=if a.all (knownL hs)&&b.all (knownL hs)then .fn f a b else .any:=_root_.id rfl
@[go_sem] theorem KB(hs x):knownL hs (.v x)=true:=_root_.id rfl
@[go_sem] theorem Hd(hs):knownL hs .emp=true:=_root_.id rfl
@[go_sem] theorem IF(hs k r):knownL hs (.sl k r)=true:=_root_.id rfl
@[go_sem] theorem He(hs id a b c d):knownL hs (.ref id a b c d)=hs.contains id:=_root_.id rfl
@[go_sem] theorem FB(hs):bo hs .dead=true:=_root_.id rfl
@[go_sem] theorem Hf(hs k r):bo hs (.ar k r)=true:=_root_.id rfl
@[go_sem] theorem Hg(hs k r):bo hs (.fz k r)=true:=_root_.id rfl
@[go_sem] theorem Hh(hs cs):bo hs (.bx cs)=cs.all (fW hs):=_root_.id rfl
@[go_sem] theorem IG(hs x):fW hs (.v x)=true:=_root_.id rfl
@[go_sem] theorem Gg(hs):fW hs .emp=true:=_root_.id rfl
@[go_sem] theorem Hi(hs k r):fW hs (.sl k r)=true:=_root_.id rfl
@[go_sem] theorem Gh(hs k r):fW hs (.osl k r)=true:=_root_.id rfl
@[go_sem] theorem Gi(hs id a b c):fW hs (.ref id none a b c)=hs.contains id:=by simp[fW,bT,cj,bD]
@[go_sem] theorem Gj(hs f):fW hs (.fn f [] [])=true:=_root_.id rfl
@[go_sem] theorem Hj{α β:Type}(f:α->β)(a):Option.map f (some a)=some (f a):=_root_.id rfl
@[go_sem] theorem Hk{α β:Type}(f:α->β):Option.map f none=none:=_root_.id rfl
@[go_sem] theorem Gk{α β:Type}(f:α->Option β)(a):(some a).bind f=f a:=_root_.id rfl
@[go_sem] theorem Gl{α β:Type}(f:α->Option β):none.bind f=none:=_root_.id rfl
@[go_sem] theorem Gm{α:Type}(a b:α):(some a).getD b=a:=_root_.id rfl
@[go_sem] theorem IH{α:Type}(p:α->Bool):[].all p=true:=_root_.id rfl
@[go_sem] theorem Hl{α:Type}(p:α->Bool)(a l):(a::l).all p=(p a&&l.all p):=_root_.id rfl
@[go_sem] theorem II{α:Type}(p:α->Bool):[].any p=false:=_root_.id rfl
@[go_sem] theorem Hm{α:Type}(p:α->Bool)(a l):(a::l).any p=(p a||l.any p):=_root_.id rfl
@[go_sem] theorem Hn{α:Type}(a:α)(l):(a::l)[0]?=some a:=_root_.id rfl
@[go_sem] theorem Ho{α:Type}(a:α)(l)(n):(a::l)[n+1]?=l[n]?:=_root_.id rfl
@[go_sem] theorem IJ{α β:Type}(f:α->β):[].map f=[]:=_root_.id rfl
@[go_sem] theorem Hp{α β:Type}(f:α->β)(a l):(a::l).map f=f a::l.map f:=_root_.id rfl
@[go_sem] theorem KC{α β:Type}(f:α->List β):[].flatMap f=[]:=_root_.id rfl
@[go_sem] theorem IK{α β:Type}(f:α->List β)(a l):(a::l).flatMap f=f a++l.flatMap f:=_root_.id rfl
@[go_sem] theorem IL{α:Type}(l:List α):l++[]=l:=ad4 l
@[go_sem] theorem IM{α:Type}(l:List α):[]++l=l:=_root_.id rfl
@[go_sem] theorem Hq{α:Type}(a:α)(l r):(a::l)++r=a::(l++r):=_root_.id rfl
@[go_sem] theorem IN{α:Type}:([]:List α).length=0:=_root_.id rfl
@[go_sem] theorem Hr{α:Type}(a:α)(l):(a::l).length=l.length+1:=_root_.id rfl
@[go_sem] theorem Gn{α:Type}(l:List α):l.drop 0=l:=_root_.id rfl
@[go_sem] theorem Gp{α:Type}(a:α)(l)(n):(a::l).drop (n+1)=l.drop n:=_root_.id rfl
@[go_sem] theorem Gq{α:Type}(l:List α):l.take 0=[]:=_root_.id rfl
@[go_sem] theorem Gr{α:Type}(a:α)(l)(n):(a::l).take (n+1)=a::l.take n:=_root_.id rfl
@[go_sem] theorem FC{α:Type}(p:α->Bool):[].filter p=[]:=_root_.id rfl
@[go_sem] theorem Hs{α:Type}(a b:α)(l):(a::l).set 0 b=b::l:=_root_.id rfl
@[go_sem] theorem Ht{α:Type}(a b:α)(l)(n):(a::l).set (n+1) b=a::l.set n b:=_root_.id rfl
@[go_sem] theorem Pg{α:Type}(a:α):QI 0 a=[]:=_root_.id rfl
@[go_sem] theorem Ph{α:Type}(a:α):QI 1 a=[a]:=_root_.id rfl
@[go_sem] theorem Pi{α:Type}(a:α):QI 2 a=[a,a]:=_root_.id rfl
@[go_sem] theorem Pj{α:Type}(a:α):QI 3 a=[a,a,a]:=_root_.id rfl
@[go_sem] theorem Pk{α:Type}(a:α):QI 4 a=[a,a,a,a]:=_root_.id rfl
@[go_sem] theorem Pm{α:Type}(a:α):QI 5 a=[a,a,a,a,a]:=_root_.id rfl
@[go_sem] theorem QA:decide True=true:=_root_.id rfl
@[go_sem] theorem QB:decide False=false:=_root_.id rfl
@[go_sem] theorem M0(b):(true&&b)=b:=_root_.id rfl
@[go_sem] theorem M1(b):(false&&b)=false:=_root_.id rfl
@[go_sem] theorem Pn(b):(true||b)=true:=_root_.id rfl
@[go_sem] theorem Po(b):(false||b)=b:=_root_.id rfl
@[go_sem] theorem M2:(!true)=false:=_root_.id rfl
@[go_sem] theorem M3:(!false)=true:=_root_.id rfl
@[go_sem] theorem M4(b):(b&&true)=b:=Bool.and_true b
@[go_sem] theorem QC:(false=true)=False:=by simp
@[go_sem] theorem Qp{α:Type}(a:α):(a=a)=True:=by simp
@[go_sem] theorem Pp(p):(True/\p)=p:=by simp
@[go_sem] theorem M5(p):(p/\True)=p:=by simp
@[go_sem] theorem Pq(p):(False/\p)=False:=by simp
@[go_sem] theorem Pr:(¬False)=True:=by simp
@[go_sem] theorem Pt:(¬True)=False:=by simp
@[go_sem] theorem KD(nm rs res n t):oH nm rs res n (some (.ret,t))=pU nm rs res n t.s t.h:=_root_.id rfl
@[go_sem] theorem Gs(nm rs res n t):oH nm rs res n (some (.normal,t))=pU nm rs res n t.s t.h:=_root_.id rfl
@[go_sem] theorem IP(nm rs res n s h):pU nm rs res n s h=(mQ s h res).bind fun q=>if ju nm q.2.2 then pT rs n q.2.1 q.1 else none:=_root_.id rfl
@[go_sem] theorem Pu(nm):ju nm []=true:=j6 nm
@[go_sem] theorem IQ(s h):mQ s h []=some ([],h,[]):=_root_.id rfl
@[go_sem] theorem M6(s h n l):mQ s h (.t n::l)=(mQ s h l).bind fun q=>some (Bp q.2.2 (s n)::q.1,q.2.1,q.2.2):=_root_.id rfl
@[go_sem] theorem Hu(s h n k g l):mQ s h (.cell n k g::l)=(hH h k g (s n)).bind fun p=>(mQ (jn p.2.2 s) p.2.1 l).bind fun q=>some (Bp q.2.2 p.1::q.1,q.2.1,p.2.2++q.2.2):=_root_.id rfl
@[go_sem] theorem KE(a):Bp [] a=a:=_root_.id rfl
@[go_sem] theorem IR(s):jn [] s=s:=_root_.id rfl
@[go_sem] theorem Pw(rs h vs):pT rs 0 h vs=if kN ((vs.flatMap bK).filter fun i=>!bw i)then(mP h vs).map fun us=>(oG (aG rs us),[])else none:=by simp[pT,oC]
@[go_sem] theorem IS(h):mP h []=some []:=_root_.id rfl
@[go_sem] theorem Hv(h a l):mP h (a::l)=(oF h a).bind fun b=>(mP h l).bind fun q=>some (b::q):=_root_.id rfl
@[go_sem] theorem Px(h x):oF h (.v x)=some (.v x):=_root_.id rfl
@[go_sem] theorem KF(h):oF h .emp=some .emp:=_root_.id rfl
@[go_sem] theorem M7(h k r):oF h (.sl k r)=some (.sl k r):=_root_.id rfl
@[go_sem] theorem KG(h cs):oF h (.agg cs)=(gw h cs).map .agg:=_root_.id rfl
@[go_sem] theorem KH(h id k lo n):oF h (.rsl id none k lo n)=if bw id then none else pS k lo n (h id):=_root_.id rfl
@[go_sem] theorem M8(k lo n rows):pS k lo n (.ar k rows)=if lo+n<=rows.length then(if lo=0/\n=rows.length then some (.osl k rows)else some (jo k lo n rows))else none:=by simp[pS]
@[go_sem] theorem M9(k lo n rows):pS k lo n (.fz k rows)=if lo+n<=rows.length then some (jo k lo n rows)else none:=by simp[pS]
@[go_sem] theorem IT(h):gw h []=some []:=_root_.id rfl
@[go_sem] theorem Na(h x l):gw h (.v x::l)=(gw h l).bind fun q=>some (.v x::q):=_root_.id rfl
@[go_sem] theorem IU(h l):gw h (.emp::l)=(gw h l).bind fun q=>some (.emp::q):=_root_.id rfl
@[go_sem] theorem KI(h k r l):gw h (.sl k r::l)=(gw h l).bind fun q=>some (.sl k r::q):=_root_.id rfl
@[go_sem] theorem IV(h id k lo n l):gw h (.rsl id none k lo n::l)=(xx h (.rsl id none k lo n)).bind fun b=>(Bo b).bind fun c=>(gw h l).bind fun q=>some (c::q):=_root_.id rfl
@[go_sem] theorem KJ(h id k lo n):xx h (.rsl id none k lo n)=if bw id then none else pS k lo n (h id):=_root_.id rfl
@[go_sem] theorem KL(k r):Bo (.osl k r)=some (.sl k r):=_root_.id rfl
@[go_sem] theorem Nb(k r):Bo (.sl k r)=some (.sl k r):=_root_.id rfl
@[go_sem] theorem Nc(a):oG [a]=a:=_root_.id rfl
@[go_sem] theorem Nd(a b l):oG (a::b::l)=.tup (a::b::l):=_root_.id rfl
@[go_sem] theorem Nf:oG []=.tup []:=_root_.id rfl
@[go_sem] theorem IW(l):aG [] l=l:=by cases l<;>simp[aG]
@[go_sem] theorem Hw(s):aG s []=[]:=by cases s<;>simp[aG]
@[go_sem] theorem Hx(s ss a l):aG (s::ss) (a::l)=nrmV s a::aG ss l:=_root_.id rfl
@[go_sem] theorem Df(a):nrmV [] a=a:=by cases a<;>simp[nrmV,nrmL,aU]
@[go_sem] theorem KM(ss cs):nrmV ss (.agg cs)=.agg (aU ss cs):=_root_.id rfl
@[go_sem] theorem Py(ss x):nrmV ss (.v x)=.v x:=by
 show nrmL _ _=_;generalize ss.headD (.o 0 [])=s;obtain⟨k,cs⟩:=s;cases k<;>simp[nrmL]
@[go_sem] theorem KN(k cs ss):nrmV (.o (k+1) cs::ss) .emp=.sl k []:=by simp[nrmV,nrmL]
@[go_sem] theorem Ng(k cs ss k' rows):nrmV (.o (k+1) cs::ss) (.sl k' rows)=.sl k' (rows.map (aU cs)):=by simp[nrmV,nrmL]
@[go_sem] theorem KO(k cs ss k' rows):nrmV (.o (k+1) cs::ss) (.osl k' rows)=.sl k' (rows.map (aU cs)):=by simp[nrmV,nrmL]
@[go_sem] theorem Dg(l):aU [] l=l:=by cases l<;>simp[aU]
@[go_sem] theorem IX(l):aU l []=[]:=by cases l<;>simp[aU]
@[go_sem] theorem IY(s ss a l):aU (s::ss) (a::l)=nrmL s a::aU ss l:=by simp[aU]
@[go_sem] theorem Pz(cs a):nrmL (.o 0 cs) a=a:=by simp[nrmL]
@[go_sem] theorem KP(k cs):nrmL (.o (k+1) cs) .emp=.sl k []:=by simp[nrmL]
@[go_sem] theorem Nh(k cs k' rows):nrmL (.o (k+1) cs) (.sl k' rows)=.sl k' (rows.map (aU cs)):=by simp[nrmL]
@[go_sem] theorem PA(k cs x):nrmL (.o k cs) (.v x)=.v x:=by cases k<;>simp[nrmL]
@[go_sem] theorem PB(x):bK (.v x)=[]:=_root_.id rfl
@[go_sem] theorem KQ:bK .emp=[]:=_root_.id rfl
@[go_sem] theorem Ni(k r):bK (.sl k r)=[]:=_root_.id rfl
@[go_sem] theorem KR(cs):bK (.agg cs)=cs.flatMap eM:=_root_.id rfl
@[go_sem] theorem KS(a b c d e):bK (.rsl a b c d e)=[a]:=_root_.id rfl
@[go_sem] theorem PC(x):eM (.v x)=[]:=_root_.id rfl
@[go_sem] theorem KT:eM .emp=[]:=_root_.id rfl
@[go_sem] theorem Nj(k r):eM (.sl k r)=[]:=_root_.id rfl
@[go_sem] theorem KU(a b c d e):eM (.rsl a b c d e)=[a]:=_root_.id rfl
@[go_sem] theorem Hy:kN []=true:=_root_.id rfl
@[go_sem] theorem Hz(a):kN [a]=true:=_root_.id rfl
@[go_sem] theorem Nk(args i):oI args i=(args[i]?).getD .any:=_root_.id rfl
@[go_sem] theorem BE:aO []=fun _=>.dead:=by funext i;simp[aO]
@[go_sem] theorem IZ(i):bw i=decide (1000<=i/\i<2000):=_root_.id rfl
def fE(h:ac)(d:Nat):Option (AV×List Ob)->Option R3
 |some (r,[])=>if jt r<=8/\dZ h (2000+8*d) (jt r)=true/\eC [] r=true then some ((mat (2000+8*d) h r).1,(mat (2000+8*d) h r).2,[])else none
 |_=>none
theorem di{c}{ids}{n}(hn:2000<=n)(hc:bD [] c=true\/(∃k lo m,c=.rsl n none k lo m)\/∃k i j,c=.ref n none k i j):jL (dD ids) c=c:=by
 have hb:dD ids n=n:=by unfold dD;rw[if_neg (by omega)]
 rcases hc with hc| ⟨k,lo,m,rfl⟩| ⟨k,i,j,rfl⟩
 ·cases c<;>simp[bD]at hc<;>rfl
 ·simp[jL,hb]
 ·simp[jL,hb]
theorem uU{r}{n}(hn:2000<=n)(h)(ids)(hr:dL [] r=true):ez (dD ids) (ge n h r).1=(ge n h r).1:=by
 cases r<;>simp only[dL]at hr<;>simp only[ge]
 case osl=>simp only[ez];exact di hn (.inr (.inl ⟨_,_,_,rfl⟩))
 case obx=>simp only[ez];exact di hn (.inr (.inr ⟨_,_,_,rfl⟩))
 case agg cs=>
  simp only[cj,ad1]at hr;simp only[ez,AV.agg.injEq];exact(aef (g:=fun c=>c) fun c hc=>di hn (.inl (hr c hc))).trans (List.map_id' cs)
 case fn f x y=>
  simp only[cj,QQ,ad1]at hr;simp only[ez,AV.fn.injEq,true_and];exact⟨(aef (g:=fun c=>c) fun c hc=>di hn (.inl (hr.1 c hc))).trans (List.map_id' x),(aef (g:=fun c=>c) fun c hc=>di hn (.inl (hr.2 c hc))).trans (List.map_id' y)⟩
 all_goals
  simp only[ez];exact di hn (.inl hr)
theorem uV(ids):∀ {l} {n} {h},2000<=n->l.all (dL [])=true->(ng n h l).1.map (ez (dD ids))=(ng n h l).1
 |[],n,h,_,_=>rfl
 |c::l,n,h,hn,hr=>by
  simp only[List.all_cons,QQ]at hr;simp only[ng,List.map_cons];rw[uU hn h ids hr.1,uV ids (by omega) hr.2]
theorem Dh{r}{n}(hn:2000<=n)(h)(ids)(hr:eC [] r=true):pN (dD ids) (mat n h r).1=(mat n h r).1:=by
 cases r with
 |tup vs=>
  simp only[eC]at hr;simp only[mat,pN,AV.tup.injEq];exact uV ids hn hr
 |_=>
  simp only[eC]at hr;have:=uU hn h ids hr;simp only[mat];simp only[ge]at this⊢;exact this
theorem uW:∀l,mK [] l=[]
 |[]=>rfl
 |a::l=>by simp[mK,uW l]
theorem mV{f}{args}(d)(hm:md.m f=[])(hd:args.all dat=true):aM call md h d args (.fn f [] [])=fE h d (call f (aG (md.sh f) args) []):=by
 have hin:=by
  have:∀l,l.all dat=true->bU h [] l=some (l,h,[]):=by
   intro l;induction l with
   |nil=>intro _;rfl
   |cons a l ih=>
    intro hd;simp only[List.all_cons,QQ]at hd;have ha:df h 0 a=some (a,h,[]):=by
     have h1:=hd.1;by_cases hagg:∃cs,a=.agg cs
     ·obtain⟨cs,rfl⟩:=hagg;simp only[dat]at h1;simp only[df,xk];rw[pX h1 h];rfl
     ·have h2:aq a=true:=by cases a<;>first|exact h1|exact absurd ⟨_,rfl⟩ hagg
      cases a<;>first| (simp[aq]at h2;done)|rfl|skip
    simp only[bU,List.headD_nil,ha,QO,List.tail_nil,ih hd.2,ad4]
  exact this args hd
 have hids:args.flatMap bK=[]:=by
  rw[List.flatMap_eq_nil_iff];exact fun c hc=>Da (List.all_eq_true.1 hd c hc)
 have hren:(aG (md.sh f) args).map (ez (dh []))=aG (md.sh f) args/\(aG (md.sh f) args).all (cj [])=true:=by
  have key:∀c∈aG (md.sh f) args,dat c=true:=by
   intro c hc;obtain⟨i,hi⟩:=ad9 hc;obtain⟨c0,h1,h2⟩:=uP _ _ _ _ hi;have h0:=List.all_eq_true.1 hd c0 (QR h1);rcases h2 with rfl| ⟨ss,rfl⟩
   ·exact h0
   ·cases c0<;>simp only[dat]at h0<;>simp only[nrmV,dat]<;>try (have:=rF (s:=ss.headD (.o 0 [])) h0;revert this;generalize nrmL _ _=q;intro this;cases q<;>first|exact this|simp[aq]at this)
    rename_i cs;rw[ad1];intro c hc;obtain⟨i,hi⟩:=ad9 hc;obtain⟨c0,h1,h2⟩:=oM _ _ _ _ hi;have h3:=List.all_eq_true.1 h0 c0 (QR h1);rcases h2 with rfl| ⟨s,rfl⟩
    ·exact h3
    ·exact rF h3
  refine⟨(aef (g:=fun c=>c) fun c hc=>?_).trans (List.map_id' _),?_⟩
  ·have:=key c hc;cases c<;>simp only[dat]at this<;>first|rfl|skip
   all_goals first
    | (simp[aq]at this;done)
    |skip
   ·rename_i cs;simp only[ez,AV.agg.injEq];refine(aef (g:=fun c=>c) fun c hc=>?_).trans (List.map_id' cs);have h3:=List.all_eq_true.1 this c hc;cases c<;>simp[aq]at h3<;>rfl
   ·rename_i g x y;simp[aq]at this;obtain⟨rfl,rfl⟩:=this;rfl
  ·rw[ad1];intro c hc;have:=key c hc;cases c<;>simp only[dat]at this<;>first|rfl|skip
   all_goals first
    | (simp[aq]at this;done)
    |skip
   ·rename_i cs;simp only[cj,ad1];intro c hc;have h3:=List.all_eq_true.1 this c hc;cases c<;>simp[aq]at h3<;>simp[bD,h3]
   ·rename_i g x y;simp[aq]at this;obtain⟨rfl,rfl⟩:=this;rfl
 unfold aM;rw[if_neg (by simp[jY,hm])];simp only[eN,aeg,ad4,QO,bV,Co,lB,hren.2,List.all_nil,Bool.and_self,if_true,hren.1,List.map_nil,uW, *];cases hr:call f (aG (md.sh f) args) []with
 |none=>rfl
 |some q=>
  obtain⟨r,os⟩:=q;cases os with
  |cons o os=>simp only[QO,jX,fE];simp
  |nil=>
   simp only[QO,jX,fE,adZ,aei,true_and,jW,qN,tC,List.all_nil,adY,Bool.and_true,xt,oC,List.range'_zero,mM,mL];by_cases hc:jt r<=8/\dZ h (2000+8*d) (jt r)=true/\eC [] r=true
   ·rw[if_pos hc,if_pos hc,Dh (by omega) h [] hc.2.2];simp
   ·rw[if_neg hc,if_neg hc]
def BF(call:bQ)(md:Mode)(d:Nat)(f:FuncId)(p:List AV×ac×K):Option R3:=
 lB call md p.2.1 d f (fy p.2.1 40 (bV [] (p.1.flatMap bK)) 0) (aG (md.sh f) p.1) p.2.2
theorem xX{f}{args}(d)(hm:md.m f=[]):aM call md h d args (.fn f [] [])=(bU h [] args).bind (BF call md d f):=by
 unfold aM;rw[if_neg (by simp[jY,hm])];simp only[eN,hm,aeg,ad4];rfl
@[go_sem] theorem I1{f}{zs}(d)(hm:md.m f=[])(hd:zs.all dat=true):BF call md d f (zs,h,[])=fE h d (call f (aG (md.sh f) zs) []):=by
 rw[←mV d hm hd,xX d hm];have hin:∀l,l.all dat=true->bU h [] l=some (l,h,[]):=by
  intro l;induction l with
  |nil=>intro _;rfl
  |cons a l ih=>
   intro hd;simp only[List.all_cons,QQ]at hd;have ha:df h 0 a=some (a,h,[]):=by
    have h1:=hd.1;by_cases hagg:∃cs,a=.agg cs
    ·obtain⟨cs,rfl⟩:=hagg;simp only[dat]at h1;simp only[df,xk];rw[pX h1 h];rfl
    ·have h2:aq a=true:=by cases a<;>first|exact h1|exact absurd ⟨_,rfl⟩ hagg
     cases a<;>first| (simp[aq]at h2;done)|rfl|skip
   simp only[bU,List.headD_nil,ha,QO,List.tail_nil,ih hd.2,ad4]
 rw[hin zs hd];rfl
@[go_sem] theorem HA(h):bU h [] []=some ([],h,[]):=_root_.id rfl
@[go_sem] theorem Gt(h a l):bU h [] (a::l)=(df h 0 a).bind fun p=>(bU p.2.1 [] l).bind fun q=>some (p.1::q.1,q.2.1,p.2.2++q.2.2):=_root_.id rfl
@[go_sem] theorem Nl(h x):df h 0 (.v x)=some (.v x,h,[]):=_root_.id rfl
@[go_sem] theorem I2(h):df h 0 .emp=some (.emp,h,[]):=_root_.id rfl
@[go_sem] theorem KV(h k r):df h 0 (.sl k r)=some (.sl k r,h,[]):=_root_.id rfl
@[go_sem] theorem KW(h f a b):df h 0 (.fn f a b)=some (.fn f a b,h,[]):=_root_.id rfl
@[go_sem] theorem I3(h a b c d):df h 0 (.ref a none b c d)=some (.ref a none b c d,h,[]):=_root_.id rfl
@[go_sem] theorem I4(h cs):df h 0 (.ipt cs)=some (.ipt cs,h,[]):=_root_.id rfl
@[go_sem] theorem I5(h id k lo n):df h 0 (.rsl id none k lo n)=jV h id k lo n (h id):=_root_.id rfl
@[go_sem] theorem HB(h id p k lo n):df h 0 (.rsl id (some p) k lo n)=AW h id p k lo n (h id):=_root_.id rfl
@[go_sem] theorem I6(h cs):df h 0 (.agg cs)=(gr h cs).bind fun p=>some (.agg p.1,p.2):=_root_.id rfl
@[go_sem] theorem Nm(h d x):fE h d (some (.v x,[]))=if dZ h (2000+8*d) 1=true then some (.v x,h,[])else none:=by
 simp[fE,jt,eC,dL,cj,bD,mat,ge]
@[go_sem] theorem Di(h d k r):fE h d (some (.sl k r,[]))=if dZ h (2000+8*d) 1=true then some (.sl k r,h,[])else none:=by
 simp[fE,jt,eC,dL,cj,bD,mat,ge]
@[go_sem] theorem I7(h d cs)(hd:cs.all aq=true):fE h d (some (.agg cs,[]))=if dZ h (2000+8*d) 1=true then some (.agg cs,h,[])else none:=by
 have:cs.all (bD [])=true:=by
  rw[ad1]at hd⊢;intro c hc;have:=hd c hc;cases c<;>simp[aq]at this<;>simp[bD,this]
 simp only[fE,jt,eC,dL,cj,mat,ge,this,and_true];simp
@[go_sem] theorem I8(h d vs)(h8:vs.length<=8)(hd:vs.all dat=true):fE h d (some (.tup vs,[]))=if dZ h (2000+8*d) vs.length=true then some (.tup vs,h,[])else none:=by
 have h1:vs.all (dL [])=true:=by
  rw[ad1]at hd⊢;intro c hc;have:=hd c hc;cases c<;>simp only[dat]at this<;>simp only[dL,cj]<;>try (simp[aq]at this<;>simp[bD,this];done)
  rename_i cs;rw[ad1]at this⊢;intro c hc;have:=this c hc;cases c<;>simp[aq]at this<;>simp[bD,this]
 have h2:∀l n g,l.all dat=true->ng n g l=(l,g):=by
  intro l;induction l with
  |nil=>intro n g _;rfl
  |cons c l ih=>
   intro n g hd;simp only[List.all_cons,QQ]at hd;have hc:ge n g c=(c,g):=by
    have:=hd.1;cases c<;>simp only[dat,aq]at this<;>first|rfl| (cases this;done)
   simp only[ng,hc,ih _ _ hd.2]
 simp only[fE,jt,eC,mat,h2 vs _ _ hd,true_and,and_true, *]
@[go_sem] theorem I9(h d k r):fE h d (some (.osl k r,[]))=if dZ h (2000+8*d) 1=true then some (.rsl (2000+8*d) none k 0 r.length,upd h (2000+8*d) (.ar k r),[])else none:=by
 simp[fE,jt,eC,dL,mat,ge]
@[go_sem] theorem HC(h n):dZ h n 0=true:=_root_.id rfl
@[go_sem] theorem HD(h n m):dZ h n (m+1)=(dY (h n)&&dZ h (n+1) m):=_root_.id rfl
@[go_sem] theorem Gu:dY .dead=true:=_root_.id rfl
def ax(call:bQ)(md:Mode)(ps:List (Nat×Nat)):List Fp->List COp->ah->ac->Option St
 |acc,[],s,h=>if ps.all (lK acc)=true then some ⟨s,h⟩else none
 |acc,o::rest,s,h=>(je call md o s h).bind fun r=>ax call md ps (acc++[r.2]) rest r.1.s r.1.h
theorem Aq(ps):∀l acc s h,ax call md ps acc l s h=(iF call md l s h).bind fun r=>if ps.all (lK (acc++r.2))=true then some r.1 else none
 |[],acc,s,h=>by simp only[ax,iF,QO,ad4]
 |o::l,acc,s,h=>by
  simp only[ax,iF];cases je call md o s h with
  |none=>rfl
  |some r=>
   simp only[QO];rw[Aq ps l];cases iF call md l r.1.s r.1.h with
   |none=>rfl
   |some q=>simp only[QO,List.append_assoc,List.singleton_append]
@[go_sem] theorem Ja:lC []=none:=_root_.id rfl
@[go_sem] theorem HE(p g l):lC ((p,g)::l)=if 1000000<=p then some (p-1000000,g)else none:=_root_.id rfl
theorem xY(l ps):lX call md l ps s h=ax call md ps [] l s h:=by
 rw[Aq];rfl
theorem Em(ps)(l)(h0:lC ps=none):ic call md l ps s h=ax call md ps [] l s h:=by
 unfold ic;rw[h0];exact xY l ps
def Dj(call:bQ)(md:Mode)(m g:Nat)(ps:List (Nat×Nat))(l:List COp)(s:ah)(h:ac):Option St:=
 ak (ax call md ps [] (l.take m) s h) fun s h=>ak (sB md.nm g s h) (ae call md (l.drop m))
@[go_sem] theorem KX(l ps):ic call md l ps s h=match lC ps with
  |some q=>Dj call md q.1 q.2 ps.tail l s h
  |none=>ax call md ps [] l s h:=by
 cases hb:lC ps with
 |none=>exact Em ps l hb
 |some q=>
  unfold ic;rw[hb];simp only[Dj,qQ];rw[←xY _ _,lX];cases iF call md (l.take q.1) s h with
  |none=>rfl
  |some r=>
   simp only[QO];split<;>rfl
def bY(call:bQ)(md:Mode)(ps:List (Nat×Nat))(acc:List Fp)(rest:List COp)(s:ah)(d:Option Nat)(f:ac->Fp):Option R3->Option St
 |some (x,h,[])=>ax call md ps (acc++[f h]) rest (kU s d x) h
 |_=>none
theorem aK(ps acc)(o)(rest)(hg:o.g=none):ax call md ps acc (o::rest) s h=bY call md ps acc rest s o.d (jZ (o.d.getD 0) o.op s h) (step call md (o.d.getD 0) o.op s h):=by
 simp only[ax,je,hg,mO];cases step call md (o.d.getD 0) o.op s h with
 |none=>rfl
 |some r=>
  obtain⟨x,h',ks⟩:=r;cases ks<;>rfl
@[go_sem] theorem KY(ps acc):ax call md ps acc [] s h=if ps.all (lK acc)=true then some ⟨s,h⟩else none:=_root_.id rfl
@[go_sem] theorem qV(ps acc d op rest):ax call md ps acc (co d op::rest) s h=(dw s op).bind fun a=>ax call md ps (acc++[some ([],[])]) rest (upd s d a) h:=by
 rw[aK _ _ _ _ rfl];simp only[co,step,tD];cases dw s op<;>rfl
@[go_sem] theorem Nn(ps acc d n rest):ax call md ps acc (cm d n::rest) s h=ax call md ps (acc++[some ([],[])]) rest (upd s d (s n)) h:=qV ps acc d (.mv (.t n)) rest
@[go_sem] theorem Jb(ps acc d k g x rest):ax call md ps acc (⟨some d,none,.load k g x⟩::rest) s h=bY call md ps acc rest s (some d) (fun _=>kL (ev s x)) (hH h k g (ev s x)):=aK _ _ _ _ rfl
@[go_sem] theorem HF(ps acc d k x y rest):ax call md ps acc (⟨d,none,.store k x y⟩::rest) s h=bY call md ps acc rest s d (fun _=>xc (ev s y) (ev s x)) (kK h k (ev s x) (ev s y)):=aK _ _ _ _ rfl
@[go_sem] theorem Jc(ps acc d f zas rest):ax call md ps acc (⟨some d,none,.call f zas⟩::rest) s h=bY call md ps acc rest s (some d) (pP h d (lW (zas.map (ev s)) (ev s f))) (aM call md h d (zas.map (ev s)) (ev s f)):=aK _ _ _ _ rfl
@[go_sem] theorem HG(ps acc d z rest):ax call md ps acc (⟨some d,none,.alloc z⟩::rest) s h=bY call md ps acc rest s (some d) (fun _=>some ([],[ft d])) (gP h d z []):=aK _ _ _ _ rfl
@[go_sem] theorem KZ(ps acc d k x rest):ax call md ps acc (⟨some d,none,.box k x⟩::rest) s h=bY call md ps acc rest s (some d) (fun _=>if dat (ev s x)=true then some ([],[ft d])else none) (rD h d k (ev s x)):=aK _ _ _ _ rfl
@[go_sem] theorem FE(ps acc d k z n qs rest):ax call md ps acc (⟨some d,none,.buildSl k z n qs⟩::rest) s h=bY call md ps acc rest s (some d) (fun _=>if(qs.all fun p=>dat (ev s p.2))=true then some ([],[ft d])else none) ((dq k h (QI n z) (qs.map fun p=>(p.1,ev s p.2))).bind fun q=>aT q.2.1 d k q.1 n q.2.2):=aK _ _ _ _ rfl
@[go_sem] theorem No(ps acc d op a b rest):ax call md ps acc (b2 d op a b::rest) s h=(bS op (s a) (s b)).bind fun a=>ax call md ps (acc++[some ([],[])]) rest (upd s d a) h:=qV ps acc d (.bin op (.t a) (.t b)) rest
@[go_sem] theorem Np(ps acc d k a rest):ax call md ps acc (fa d k a::rest) s h=(qM k (s a)).bind fun a=>ax call md ps (acc++[some ([],[])]) rest (upd s d a) h:=qV ps acc d (.fadr k (.t a)) rest
@[go_sem] theorem Nq(ps acc d a rest):ax call md ps acc (nk d a::rest) s h=(rC (s a)).bind fun a=>ax call md ps (acc++[some ([],[])]) rest (upd s d a) h:=qV ps acc d (.nilck (.t a)) rest
@[go_sem] theorem Nr(ps acc d k a rest):ax call md ps acc (ld d k a::rest) s h=bY call md ps acc rest s (some d) (fun _=>kL (s a)) (hH h k false (s a)):=aK _ _ _ _ rfl
@[go_sem] theorem Ns(ps acc d k a rest):ax call md ps acc (la d k a::rest) s h=bY call md ps acc rest s (some d) (fun _=>kL (s a)) (hH h k true (s a)):=aK _ _ _ _ rfl
@[go_sem] theorem Nu(ps acc d f zas rest):ax call md ps acc (ca d f zas::rest) s h=bY call md ps acc rest s (some d) (pP h d (lW (zas.map (ev s)) (.fn f [] []))) (aM call md h d (zas.map (ev s)) (.fn f [] [])):=aK _ _ _ _ rfl
@[go_sem] theorem Nv(ps acc k x y rest):ax call md ps acc (sr k x y::rest) s h=bY call md ps acc rest s none (fun _=>xc (ev s y) (ev s x)) (kK h k (ev s x) (ev s y)):=aK _ _ _ _ rfl
@[go_sem] theorem Nw(ps acc d z rest):ax call md ps acc (al d z::rest) s h=bY call md ps acc rest s (some d) (fun _=>some ([],[ft d])) (gP h d z []):=aK _ _ _ _ rfl
@[go_sem] theorem Nx(ps acc d k x rest):ax call md ps acc (bx d k x::rest) s h=bY call md ps acc rest s (some d) (fun _=>if dat (ev s x)=true then some ([],[ft d])else none) (rD h d k (ev s x)):=aK _ _ _ _ rfl
@[go_sem] theorem Jd(ps acc rest s d f x h):bY call md ps acc rest s (some d) f (some (x,h,[]))=ax call md ps (acc++[f h]) rest (upd s d x) h:=_root_.id rfl
@[go_sem] theorem HI(ps acc rest s f x h):bY call md ps acc rest s none f (some (x,h,[]))=ax call md ps (acc++[f h]) rest s h:=_root_.id rfl
theorem FF(ps acc)(o)(j w rest)(hg:o.g=some (j,w)){b}(hb:s j=.v (.bool b)):ax call md ps acc (o::rest) s h=
  if b=w then bY call md ps acc rest s o.d (jZ (o.d.getD 0) o.op s h) (step call md (o.d.getD 0) o.op s h)else ax call md ps (acc++[some ([],[])]) rest (kU s o.d .und) h:=by
 simp only[ax,je,oE, *];split
 ·simp only[mO];cases step call md (o.d.getD 0) o.op s h with
  |none=>rfl
  |some r=>
   obtain⟨x,h',ks⟩:=r;cases ks<;>rfl
 ·rfl
def xZ(call:bQ)(md:Mode)(ps:List (Nat×Nat))(acc:List Fp)(rest:List COp)(s:ah)(h:ac)(d:Option Nat)(w:Bool)(op:AOp):AV->Option St
 | .v (.bool b)=>if b=w then bY call md ps acc rest s d (jZ (d.getD 0) op s h) (step call md (d.getD 0) op s h)else ax call md ps (acc++[some ([],[])]) rest (kU s d .und) h
 | .und=>ax call md ps (acc++[some ([],[])]) rest (kU s d .und) h
 |_=>none
@[go_sem] theorem En(ps acc d j w op rest):ax call md ps acc (⟨d,some (j,w),op⟩::rest) s h=xZ call md ps acc rest s h d w op (s j):=by
 by_cases hb:∃b,s j=.v (.bool b)
 ·obtain⟨b,hb⟩:=hb;rw[FF ps acc ⟨d,some (j,w),op⟩ j w rest rfl hb,hb];rfl
 ·simp only[ax,je];cases hq:s j<;>first|rfl|skip
  rename_i x;cases x<;>first|rfl|exact absurd ⟨_,hq⟩ hb
@[go_sem] theorem Ny(ps acc d j w op rest):ax call md ps acc (cg d j w op::rest) s h=xZ call md ps acc rest s h (some d) w (.p op) (s j):=En ps acc (some d) j w (.p op) rest
@[go_sem] theorem PD(ps acc rest s h d op):xZ call md ps acc rest s h (some d) true op (.v (.bool true))=bY call md ps acc rest s (some d) (jZ d op s h) (step call md d op s h):=_root_.id rfl
@[go_sem] theorem PE(ps acc rest s h d op):xZ call md ps acc rest s h (some d) false op (.v (.bool false))=bY call md ps acc rest s (some d) (jZ d op s h) (step call md d op s h):=_root_.id rfl
@[go_sem] theorem PF(ps acc rest s h d op):xZ call md ps acc rest s h (some d) true op (.v (.bool false))=ax call md ps (acc++[some ([],[])]) rest (upd s d .und) h:=_root_.id rfl
@[go_sem] theorem PG(ps acc rest s h d op):xZ call md ps acc rest s h (some d) false op (.v (.bool true))=ax call md ps (acc++[some ([],[])]) rest (upd s d .und) h:=_root_.id rfl
@[go_sem] theorem Nz(ps acc rest s h d w op):xZ call md ps acc rest s h (some d) w op .und=ax call md ps (acc++[some ([],[])]) rest (upd s d .und) h:=_root_.id rfl
@[go_sem] theorem QD(d op h'):jZ d (.p op) s h h'=some ([],[]):=_root_.id rfl
@[go_sem] theorem NA(d k g x h'):jZ d (.load k g x) s h h'=kL (ev s x):=_root_.id rfl
@[go_sem] theorem NB(d f zas h'):jZ d (.call f zas) s h h'=pP h d (lW (zas.map (ev s)) (ev s f)) h':=_root_.id rfl
@[go_sem] theorem K0(d z h'):jZ d (.alloc z) s h h'=some ([],[ft d]):=_root_.id rfl
@[go_sem] theorem PH(d k x h'):jZ d (.box k x) s h h'=if dat (ev s x)=true then some ([],[ft d])else none:=_root_.id rfl
@[go_sem] theorem HJ(cs):kL (.ipt cs)=some ([],[]):=_root_.id rfl
@[go_sem] theorem Gv(id k i j):kL (.ref id none k i j)=some ([ft id],[]):=_root_.id rfl
@[go_sem] theorem Gw(id p k i j):kL (.ref id (some p) k i j)=some ([ft id],[]):=_root_.id rfl
@[go_sem] theorem Je(y id sub k i j):xc y (.ref id sub k i j)=if dat y=true then some ([ft id],[ft id])else none:=_root_.id rfl
@[go_sem] theorem PI(i):ft i=if i<2000 then i else i-i%8:=_root_.id rfl
@[go_sem] theorem Jf(l f a b):lW l (.fn f a b)=a++l++b:=_root_.id rfl
@[go_sem] theorem Jg(h d l h'):pP h d l h'=if l.all dat=true then some ([],[2000+8*d])else if l.all DZ=true then some ((fy h 40 (bV [] (l.flatMap bK)) 0).map ft,(HV h h' (fy h 40 (bV [] (l.flatMap bK)) 0)).map ft++[2000+8*d])else none:=_root_.id rfl
@[go_sem] theorem HK(l i j):lK l (i,j)=(match l[i]?,l[j]? with|some a,some b=>j5 a b|_,_=>false):=_root_.id rfl
@[go_sem] theorem K1(a b):j5 (some a) (some b)=(pR a.2 (b.1++b.2)&&pR b.2 a.1):=_root_.id rfl
@[go_sem] theorem K2(b):j5 none (some b)=(b.1.isEmpty&&b.2.isEmpty):=_root_.id rfl
@[go_sem] theorem K3(a):j5 (some a) none=(a.1.isEmpty&&a.2.isEmpty):=_root_.id rfl
@[go_sem] theorem K4(b):pR [] b=true:=_root_.id rfl
@[go_sem] theorem Jh(a l b):pR (a::l) b=(!b.contains a&&pR l b):=_root_.id rfl
@[go_sem] theorem HL(a:Nat):[].contains a=false:=_root_.id rfl
@[go_sem] theorem Gx(a b)(l:List Nat):(b::l).contains a=(a==b||l.contains a):=by rw[List.contains_cons]
@[go_sem] theorem K5(s d x h p l):aN false s (some d) (some (x,h,p::l))=some ⟨upd (jn (p::l) s) d x,h⟩:=_root_.id rfl
@[go_sem] theorem Ji(s x h p l):aN false s none (some (x,h,p::l))=some ⟨jn (p::l) s,h⟩:=_root_.id rfl
@[go_sem] theorem NC(p l s)(i):jn (p::l) s i=jC (p::l) (s i):=_root_.id rfl
@[go_sem] theorem Qq(ks x):jC ks (.v x)=.v x:=_root_.id rfl
@[go_sem] theorem ND(ks):jC ks .any=.any:=_root_.id rfl
@[go_sem] theorem NE(ks):jC ks .und=.und:=_root_.id rfl
@[go_sem] theorem NF(ks):jC ks .emp=.emp:=_root_.id rfl
@[go_sem] theorem PJ(ks k r):jC ks (.sl k r)=.sl k r:=_root_.id rfl
@[go_sem] theorem NG(ks cs):jC ks (.ipt cs)=.ipt cs:=_root_.id rfl
@[go_sem] theorem NH(ks f):jC ks (.fn f [] [])=.fn f [] []:=_root_.id rfl
@[go_sem] theorem NI(ks id sub k lo n):jC ks (.rsl id sub k lo n)=if iT ks id sub=true then .any else .rsl id sub k lo n:=_root_.id rfl
@[go_sem] theorem NJ(ks id sub k lo n):jC ks (.ref id sub k lo n)=if iT ks id sub=true then .any else .ref id sub k lo n:=_root_.id rfl
@[go_sem] theorem NK(ks cs):jC ks (.agg cs)=if cs.any (fw ks)=true then .any else .agg cs:=_root_.id rfl
@[go_sem] theorem PK(ks f a b):jC ks (.fn f a b)=if(a.any (fw ks)||b.any (fw ks))=true then .any else .fn f a b:=_root_.id rfl
@[go_sem] theorem NL(ks vs):jC ks (.tup vs)=if vs.any (nc ks)=true then .any else .tup vs:=_root_.id rfl
@[go_sem] theorem PL(ks x):nc ks (.v x)=false:=_root_.id rfl
@[go_sem] theorem NM(ks k r):nc ks (.sl k r)=false:=_root_.id rfl
@[go_sem] theorem PM(ks x):fw ks (.v x)=false:=_root_.id rfl
@[go_sem] theorem K6(ks):fw ks .emp=false:=_root_.id rfl
@[go_sem] theorem NN(ks k r):fw ks (.sl k r)=false:=_root_.id rfl
@[go_sem] theorem K7(ks id sub k i j):fw ks (.ref id sub k i j)=iT ks id sub:=_root_.id rfl
@[go_sem] theorem K8(id sub):iT [] id sub=false:=_root_.id rfl
@[go_sem] theorem K9(a)(b)(l:K)(id)(sub):iT ((a,b)::l) id sub=((a==id&& (!b||sub.isSome))||iT l id sub):=by simp[iT]
@[go_sem] theorem FG{α:Type}:(none:Option α).isSome=false:=_root_.id rfl
@[go_sem] theorem FH{α:Type}(a:α):(some a).isSome=true:=_root_.id rfl
@[go_sem] theorem PN(h d k b x y):A8 h d k b x y=(kD h k y).bind fun ys=>match x with
 | .emp=>if ys.length*b<=140737488355328 then A7 h d k ys else none
 | .rsl id none k' lo n=>A6 h d k b id k' lo n ys (h id)
 | .rsl id (some p) k' lo n=>E5 h d k b id p k' lo n ys (h id)
 |_=>none:=_root_.id rfl
@[go_sem] theorem Jj(h k):kD h k .emp=some []:=_root_.id rfl
@[go_sem] theorem Dk(h k r):kD h k (.sl k r)=some r:=by simp[kD]
@[go_sem] theorem Jk(h k id sub lo n):kD h k (.rsl id sub k lo n)=lJ k lo n (pM h id sub):=by simp[kD]
@[go_sem] theorem Gy(h id):pM h id none=sv (h id):=_root_.id rfl
@[go_sem] theorem Jl(k r):sv (.ar k r)=some (k,r):=_root_.id rfl
@[go_sem] theorem Jm(k r):sv (.fz k r)=some (k,r):=_root_.id rfl
@[go_sem] theorem FI(k lo n r):lJ k lo n (some (k,r))=if lo+n<=r.length then some ((r.drop lo).take n)else none:=by simp[lJ]
@[go_sem] theorem NO(h d k b id lo n ys r):A6 h d k b id k lo n ys (.ar k r)=if lo=0/\n=r.length/\(id<1000\/2000<=id)/\(n+ys.length)*b<=140737488355328 then
   some (.rsl id none k 0 (n+ys.length),upd h id (.ar k (r++ys)),[(id,false)])else AZ h d k b id k lo n ys k r:=by simp[A6]
@[go_sem] theorem La(h d k):A7 h d k []=some (.emp,h,[]):=_root_.id rfl
@[go_sem] theorem Jn(h d k y ys):A7 h d k (y::ys)=aT h d k (y::ys) (ys.length+1) []:=_root_.id rfl
end
noncomputable section
def D8:List (Nat×Nat)->Option Nat->AOp
 | (d,k)::l,x=>if x=some d then(match k with|0=>.callC (.c .any) []|1=>.take (.c .any)|_=>.slcM 0 (.c .any) none none)else D8 l x
 |[],_=>.bad
def HM(P:Program)(N:Nat)(ops:Array Oper)(h:AOp)(o:Oper):Option COp:=match o.op with
 | .build t ps=>(xJ ops o.guard).bind fun g=>(mS P t).bind fun z=>match P.underlying t with
  |some (.struct fs)=>(sD P (Ag P fs) ps.toList).map fun q=>⟨o.dst,g,.p (.build z q)⟩
  |_=>xd P N ops h o
 | .binOp op t x y _=>match P.underlying t with
  |some (.struct _)=>(xJ ops o.guard).bind fun g=>(aF x).bind fun x=>(aF y).bind fun y=>(Br P false 3 t).bind fun k=>(tF op).map fun n=>⟨o.dst,g,.p (.eqc n (3+k) x y)⟩
  |_=>xd P N ops h o
 |_=>xd P N ops h o
def Dl(P:Program)(N:Nat)(H:List (Nat×Nat))(ops:Array Oper):List Oper->Option (List COp)
 |[]=>some []
 |o::l=>(HM P N ops (D8 H o.dst) o).bind fun a=>(Dl P N H ops l).bind fun q=>some (a::q)
def Jo:List Nat->List (Nat×Nat)
 |a::b::l=>(a,b)::Jo l
 |_=>[]
abbrev bj:=List (List Nat)
def FJ(P:Program)(N:Nat)(H:List (Nat×Nat))(ops:Array Oper):Bool->bj->Option (Cmd×bj)
 |dr,(7777777::is)::l=>(FJ P N H ops dr l).map fun r=>(.frz is r.1,r.2)
 |true,ks::ps::l=>(Dl P N H ops ops.toList).map fun q=>(.dops ks q (Jo ps),l)
 |false,ks::l=>(Dl P N H ops ops.toList).map fun q=>(.ops ks q,l)
 |_,_=>none
def nL:Code->Nat
 | .seq a b=>nL a+nL b
 | .cond _ a b=>nL a+nL b
 | .block _ a=>nL a
 | .loop a=>nL a+1
 | .scope a=>nL a
 |_=>0
abbrev GS:=bj×List (Nat×Cmd)
noncomputable def gC (P:Program) (N:Nat) (H:List (Nat×Nat)) (L:List Cmd):Nat->Code->GS->Option (Cmd×GS)
 |_,.skip,s=>some (.skip,s)
 |_,.ret,s=>some (.ret,s)
 |_,.exit i,s=>some (.exit i,s)
 |_,.refuse _,s=>some (.ops [] [⟨none,none,.bad⟩],s)
 |_,.region _ ops dr,s=>(FJ P N H ops dr s.1).map fun r=>(r.1,r.2,s.2)
 |n,.seq a b,s=>(gC P N H L (n+nL b) a s).bind fun r=>(gC P N H L n b r.2).map fun q=>(.seq r.1 q.1,q.2)
 |n,.cond x a b,s=>(aF x).bind fun x=>(gC P N H L n a s).bind fun r=>(gC P N H L (n+nL a) b r.2).map fun q=>(.cond x r.1 q.1,q.2)
 |_,.label _,s=>some (.skip,s)
 |n,.scope a,s=>(gC P N H L n a s).map fun r=>(.frz [] r.1,r.2)
 |n,.block i a,(ks::l,bs)=>(gC P N H L n a (l,bs)).map fun r=>(.block i ks r.1,r.2)
 |n,.loop a,(ks::hs::l,bs)=>(gC P N H L n a (l,bs)).map fun r=>(.loop ks hs (L.getD (n+nL a) .skip),r.2.1,(n+nL a+1,r.1)::r.2.2)
 |_,_,_=>none
noncomputable def gK (P:Program) (H:List (Nat×Nat)) (f:Func) (l:bj) (k:Nat) (L:List Cmd):Cmd:=
 ((f.body.bind fun c=>gC P f.ntmps H L 0 c (l,[])).bind fun r=>((0,r.1)::r.2.2).lookup k).getD .skip
section
variable (d k n a b f:Nat) (op:POp) (x y:Opd) (l:List Opd) (w:Bool) (o:BinOp) (z:List AV)
theorem Lc:(⟨some d,none,.p op⟩:COp)=co d op:=rfl
theorem Le:co d (.mv (.t n))=cm d n:=rfl
theorem Lf:co d (.bin o (.t a) (.t b))=b2 d o a b:=rfl
theorem Lg:co d (.fadr k (.t a))=fa d k a:=rfl
theorem Lh:co d (.nilck (.t a))=nk d a:=rfl
theorem Li:(⟨some d,some (n,w),.p op⟩:COp)=cg d n w op:=rfl
theorem Lj:(⟨some d,none,.load k false (.t a)⟩:COp)=ld d k a:=rfl
theorem Ll:(⟨some d,none,.load k true (.t a)⟩:COp)=la d k a:=rfl
theorem Lm:(⟨some d,none,.call (.c (.fn f [] [])) l⟩:COp)=ca d f l:=rfl
theorem Ln:(⟨none,none,.store k x y⟩:COp)=sr k x y:=rfl
theorem Lo:(⟨some d,none,.alloc z⟩:COp)=al d z:=rfl
theorem Lp:(⟨some d,none,.box k x⟩:COp)=bx d k x:=rfl
end
noncomputable def ag {α:Type} (b:α) {a:α} (_:a=b:=by conv=>rhs;reduce;(try simp only[Int.reduceOfNat,Int.reduceNegSucc,Lc,Le,Lf,Lg,Lh,Li,Lj,Ll,Lm,Ln,Lo,Lp])):α:=a
@[go_sem] theorem Qs{α:Type}(b:α){a:α}(h:a=b):@ag α b a h=a:=_root_.id rfl
end
end Go.Ab
