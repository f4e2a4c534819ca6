/-
  A law of tapes on models holds at every input that the statement speaks of, under the conditions that its card names. Part B1.
-/
import Derived.Scope
import Derived.Test.YtoaheljbgnbicaaGreatDoorA1
open Nat renaming le_refl → avt, lt_of_lt_of_le → awn, zero_add → avs, zero_le → av6
open Bool renaming and_eq_true → avv, and_self → awa, false_eq_true → awo, not_eq_true' → awu, true_and → avz
open List renaming all_cons → avQ, all_eq_true → avK, append_assoc → awe, append_nil → avE, cons_append → avS, getElem_mem → avN, length_cons → av2, length_drop → aws, length_map → awk, length_nil → awd, length_take → avF, map_congr_left → avR, map_cons → avY, map_id' → av5, map_nil → av4, mem_append → awt, mem_map → awc, nil_append → avB, replicate → avr
open Option renaming bind_eq_some_iff → avq, bind_some → avw, map_eq_some_iff → avu, map_some → av9
set_option linter.all false
namespace Go.Ab
open Go
section
variable {P:Program} {w w':World} {X:Nat→Prop} {ρ ρ':dZ} {h h':ac} {s:ak} {a:Act} {call:ic} {md:Mode} {N:Nat} {ops:Array Oper} {Q:Exit→Act→World→Prop} {A A':Nat→Prop} {I:Inv}
theorem Ok.undef(ok:Ok I N w X ρ h s a){d}(hd:d.getD 0<N):Ok I N w X ρ h (fR s d .und) (a.put d undef):=
 ok.put (ks:=[]) ok.rel (.refl _ _ _) .und hd
theorem agN{u}(hv:RV w A ρ h .und u):u=undef:=by
 cases hv with
 |und=>rfl
 |dat hd=>cases hd
theorem ad0{nm}{d}{r}{t}(hz:dC nm s d r=some t):∃z h' ks,r=some (z,h',ks)/\rg nm ks=true/\t=⟨fR (kg ks s) d z,h'⟩:=by
 unfold dC at hz;grind
theorem GM(hcall:mr P I call md)(hN:N<=1000){i}{o}{co}{hint}(hget:ops[i]?=some o)(hc:GC P N ops hint o=some co)(ok:Ok I N w X ρ h s a){t}(hz:lZ call md co s h=some t)
  {K'} (hK:∀a' w' ρ',Ok I N w' X ρ' t.h t.s a'->Far md.nm w ρ h w' ρ' t.h->K' a' w'):wpOp P ops Q i K' a w:=by
 simp only[GC,avq]at hc;obtain⟨g,e1,op,e2,hc⟩:=hc;split at hc
 ·rename_i hcond;cases hc;simp only[avv,decide_eq_true_eq]at hcond;have hd:=hcond.2;have run:dC md.nm s o.dst (step call md (o.dst.getD 0) op s h)=some t->o.wp P a w K' Q:=by
   grind[ad0,alV]
  have skip:some ⟨fR s o.dst .und,h⟩=some t->K' (a.put o.dst undef) w:=by
   intro hf;cases hf;exact hK _ _ ρ (ok.undef hd) (.refl _ _ _ _)
  unfold wpOp;rw[hget];cases hg:o.guard with
  |none=>
   rw[hg]at e1;simp only[Il,Option.some.injEq]at e1;subst e1
   simp_all[lZ,Region.wanted,if_true]
  |some jb=>
   rw[hg]at e1;simp only[Il,avu]at e1;obtain⟨d,e3,rfl⟩:=e1;simp only[lZ,kW]at hz;have hv:=ok.rs d;simp only[Region.wanted,yielded,avw, *];have cell:∀v,a.tmps.getD d Go.undef=v->v≠Go.undef->a.tmps[d]?=some v:=by
    intro v hv hne;rw[Array.getD_eq_getD_getElem?]at hv;grind
   split at hz
   ·rename_i b' hb';rw[hb']at hv;rw[cell _ hv.v_inv.1 (by simp[Go.undef])];grind
   ·rename_i hb';rw[hb']at hv;have hu:=agN hv;rw[Array.getD_eq_getD_getElem?]at hu;grind[Go.undef]
   grind
 grind
theorem Qp(hcall:mr P I call md)(hN:N<=1000):∀rest cl i {hs} {w} {ρ} {h} {s} {a} {t},(∀j o,rest[j]?=some o->ops[i+j]?=some o)->se P N ops hs rest=some cl->Ok I N w X ρ h s a->
  aF call md cl s h=some t->(∀a' w' ρ',Ok I N w' X ρ' t.h t.s a'->Far md.nm w ρ h w' ρ' t.h->Q .normal a' w')->wpOps P ops Q (List.range' i rest.length) a w
 |[],cl,i,hs,w,ρ,h,s,a,t,_,hc,ok,hz,hQ=>by
  simp only[se,Option.some.injEq]at hc;subst hc;cases hz;exact hQ _ _ ρ ok (.refl _ _ _ _)
 |o::rest,cl,i,hs,w,ρ,h,s,a,t,hg,hc,ok,hz,hQ=>by
  simp only[se,avq]at hc;obtain⟨co,e1,q,e2,e3⟩:=hc;cases e3;simp only[aF,bq]at hz;split at hz
  ·grind
  ·rename_i t1 ht1;exact GM hcall hN (by simpa using hg 0 o rfl) e1 ok ht1 fun a' w' ρ' ok' far=>
    Qp hcall hN rest q (i+1) (fun j o' hj=>by rw[show i+1+j=i+(j+1)from by omega];simp_all) e2 ok' hz fun a'' w'' ρ'' ok'' far'=>hQ _ _ ρ'' ok'' (far.trans far')
theorem JW{α}(d)(f:Nat->α):∀l i,mk d f l i=if i∈l then f i else d
 |[],i=>by simp[mk]
 |j::l,i=>by
  simp only[mk,upd,JW d f l i,List.mem_cons];by_cases e:i=j
  ·subst e;simp
  ·simp[e]
theorem RS.some(hs:RS w A ρ h s a.tmps){s'}(he:∀i,s' i=s i\/s' i=.any):RS w A ρ h s' a.tmps:=fun i=>by
 rcases he i with e|e
 ·rw[e];exact hs i
 ·rw[e];exact .anyv _
theorem Ok.some(ok:Ok I N w X ρ h s a){s'}(he:∀i,s' i=s i\/s' i=.any):Ok I N w X ρ h s' a:=⟨ok.rel,ok.rs.some he,ok.size,ok.defers,ok.inv⟩
theorem RV.knownL{l}{c}{u}(hv:RV w A ρ h c u)(hA:∀b,A b->A' b/\w'.heap[b]?=w.heap[b]?)(hk:∀id sub,cH h id sub->l.contains id=true->cH h' id sub/\ρ' id sub=ρ id sub)(hm:knownL l c=true):RV w' A' ρ' h' c u:=by
 cases hv with
 |anyv u=>exact .anyv u
 |und=>exact .und
 |dat hd=>exact .dat (hd.mono hA)
 |ref id sub k i j hp=>
  obtain⟨h1,h2⟩:=hk id sub hp hm;rw[←h2];exact .ref id sub k i j h1
 |rsl id sub k lo n cap a hp hn hb ha=>
  obtain⟨h1,h2⟩:=hk id sub hp hm;exact .rsl id sub k lo n cap a h1 hn γ γ
 |rsc id k lo n cap a hp hn hb ha=>grind[Ab.knownL]
 |ipt cs ad vals hA' hs hv hl hr=>
  exact .ipt cs ad vals (hA _ hA').1 hs (fun j c hc=>by rw[oC (w:=w) (w':=w') (by rw[oA];grind)];grind) hl (fun j c hc=>(hr j c hc).mono hA)
 |agg cs us hs h1 hr=>grind[Ab.knownL]
 |tup vs us hs hr=>grind[Ab.knownL]
 |fn f x y us ts hs ht hx hy=>
  simp[Ab.knownL]at hm;obtain⟨rfl,rfl⟩:=hm;exact .fn f [] [] us ts hs ht (fun i c u hc=>by grind) (fun i c u hc=>by grind)
theorem RV.knownA{l}{c}{u}(hv:RV w A ρ h c u)(hA:∀b,A b->A' b/\w'.heap[b]?=w.heap[b]?)(hk:∀id sub,cH h id sub->l.contains id=true->cH h' id sub/\ρ' id sub=ρ id sub)(hm:knownA l c=true):RV w' A' ρ' h' c u:=by
 cases c with
 |agg cs=>
  simp only[Ab.knownA,avK]at hm;cases hv with
  |dat hd=>exact .dat (hd.mono hA)
  |agg _ us hs h1 hr=>exact .agg cs us hs h1 fun i c u hc hu=>(hr i c u hc hu).knownL hA hk (hm c (List.mem_of_getElem? hc))
 |fn f x y=>
  simp only[Ab.knownA,avv,avK]at hm;cases hv with
  |dat hd=>exact .dat (hd.mono hA)
  |fn _ _ _ us ts hs ht hx hy=>exact .fn f x y us ts hs ht (fun i c u hc hu=>(hx i c u hc hu).knownL hA hk (hm.1 c (List.mem_of_getElem? hc))) (fun i c u hc hu=>(hy i c u hc hu).knownL hA hk (hm.2 c (List.mem_of_getElem? hc)))
 |_=>exact hv.knownL hA hk hm
theorem B9{l}{c}(hc:bo l c=true):knownL l c=true:=by
 cases c<;>simp[bo,knownL]at hc⊢ <;>first|exact hc.1|exact hc
theorem RB{l}{c}(hc:aX l c=true):knownA l c=true:=by
 cases c with
 |agg cs=>
  grind[aX,knownA,avK,B9]
 |fn f x y=>
  simp_all[aX,knownA,avv,avK,B9]
 |_=>
  simp only[aX,knownA]at hc⊢;exact B9 hc
theorem Ti(nm)(r:Rel w X ρ h){hs}(hcl:∀id,id∈hs->az hs (h id)=true):Rel w X ρ (mk .dead h hs)/\Far nm w ρ h w ρ (mk .dead h hs)/\
  ∀ {c} {u},RV w (aJ w X h ρ) ρ h c u->knownA hs c=true->RV w (aJ w X (mk .dead h hs) ρ) ρ (mk .dead h hs) c u:=by
 have at_:∀id,id∈hs->mk .dead h hs id=h id:=fun id hi=>by rw[JW,if_pos hi]
 have not_:∀id,id∉hs->mk .dead h hs id=.dead:=fun id hi=>by rw[JW,if_neg hi]
 have hl:∀id sub,live (mk .dead h hs) id sub->id∈hs/\live h id sub:=by
  intro id sub h1;by_cases hi:id∈hs
  ·grind[dv]
  ·have:=not_ id hi;cases sub<;>simp[live,this]at h1
 have hA:∀b,aJ w X h ρ b->aJ w X (mk .dead h hs) ρ b/\w.heap[b]?=w.heap[b]?:=fun b hb=>⟨⟨hb.1,hb.2.1,fun⟨id,sub,h1,h2⟩=>hb.2.2 ⟨id,sub,(hl id sub h1).2,h2⟩⟩,rfl⟩;have hk:∀id sub,cH h id sub->hs.contains id=true->cH (mk .dead h hs) id sub/\ρ id sub=ρ id sub:=fun id sub hp hi=>⟨(fL (at_ id γ)).2 hp,rfl⟩;have far:Far nm w ρ h w ρ (mk .dead h hs):=by
  refine⟨rfl,rfl,rfl,avt _,fun _ _ _=>rfl,fun b ⟨id,sub,h1,h2⟩=>.inl ⟨id,sub,(hl id sub h1).2,h2⟩,fun id _ hd=>⟨fun e=>?_,rfl⟩,fun _ id p _ hd hp=>⟨?_,rfl⟩⟩
  all_goals grind
 refine⟨⟨fun a b c d h1 h2=>r.inj a b c d (hl a b h1).2 (hl c d h2).2,fun a b h1=>r.nx a b (hl a b h1).2,fun id=>?_,r.xl⟩,far,fun hv hc=>hv.knownA hA hk hc⟩;by_cases hi:id∈hs
 ·have ho:=r.ob id;have hc:=hcl id hi;rw[at_ id hi];cases e:h id with
  |dead=>trivial
  |bx cs=>
   rw[e]at ho hc;obtain⟨us,t,h1,h2,h3,h4⟩:=ho;refine⟨us,t,h1,h2,h3,fun p c hcp=>?_⟩;obtain⟨u,h5,h6⟩:=h4 p c hcp;refine⟨u,h5,?_⟩;simp only[az,avK]at hc;have hcc:=hc c (List.mem_of_getElem? hcp);cases hO:bB c with
   |true=>
    cases c<;>simp[bB]at hO;obtain⟨a,cap,us',t',g1,g2,g3,g4,g5,g6,g7⟩:=h6;exact⟨a,cap,us',t',g1,g2,g3,g4,g5,g6,g7.mono hA⟩
   |false=>
    rw[uk hO]at h6⊢;have hca:aX hs c=true:=by grind[jI]
    refine⟨h6.1.knownA hA hk (RB hca),h6.2.1,?_⟩;have h7:=h6.2.2;cases c<;>try exact h7
    simp_all[aX,bo,mP]
  |ar k rows=>
   rw[e]at ho;obtain⟨us,t,h1,h2,h3,h4⟩:=ho;exact⟨us,t,h1,h2,h3,h4.mono hA⟩
  |fz k rows=>
   rw[e]at ho;obtain⟨h0,us,t,fr,h1,h2,h3,h4⟩:=ho;exact⟨(hA _ h0).1,us,t,fr,h1,h2,h3,h4.mono hA⟩
 ·rw[not_ id hi];trivial
end
def exo:Ex->Exit
 | .normal=>.normal
 | .exit id=>.exit id
 | .ret=>.ret
def Qq(P:Program)(I:Inv)(call:ic)(md:Mode)(N:Nat):Prop:=
 ∀ {id} {ops} {hs cl} {w} {X} {ρ} {h} {s} {a} {t} {ps} {Q},se P N ops hs ops.toList=some cl->Tb ops.toList cl ps=true->Ok I N w X ρ h s a->ri call md cl ps s h=some t->
  (∀a' w' ρ',Ok I N w' X ρ' t.h t.s a'->Far md.nm w ρ h w' ρ' t.h->Q .normal a' w')->(Code.region id ops true).wp P Q a w
section
variable {P:Program} {X:Nat→Prop} {call:ic} {md:Mode} {N:Nat} {I:Inv} {nm:Bool}
theorem It(s:ak)(ks)(i):mk .any s ks i=s i\/mk .any s ks i=.any:=by
 grind[JW]
theorem Zq(hs)(a):(gE hs a=a/\knownA hs a=true)\/gE hs a=.any:=by
 grind[gE]
theorem abm{w}{ρ}{h}{s}{a}(ok:Ok I N w X ρ h s a){ks hs}(hcl:(hs.all fun a=>az hs (h a))=true):
  Ok I N w X ρ (mk .dead h hs) (mk .any (fun i=>gE hs (s i)) ks) a/\Far nm w ρ h w ρ (mk .dead h hs):=by
 obtain⟨h1,h2,h3⟩:=Ti nm ok.rel (hs:=hs) (fun id hi=>List.all_eq_true.1 hcl id hi);refine⟨⟨h1,fun i=>?_,ok.size,ok.defers,ok.inv⟩,h2⟩;rcases It (fun i=>gE hs (s i)) ks i with e|e
 ·rw[e];rcases Zq hs (s i)with⟨e2,e3⟩|e2
  ·rw[e2];exact h3 (ok.rs i) e3
  ·rw[e2];exact .anyv _
 ·rw[e];exact .anyv _
def Qs(P:Program)(I:Inv)(nm:Bool)(X:Nat->Prop)(N:Nat)(f:ak->ac->Option (Ex×St))(c:Code):Prop:=
 ∀ {s} {h} {e} {t} {w} {ρ} {a} {Q},f s h=some (e,t)->Ok I N w X ρ h s a->(∀a' w' ρ',Ok I N w' X ρ' t.h t.s a'->Far nm w ρ h w' ρ' t.h->Q (exo e) a' w')->c.wp P Q a w
theorem MW{body}{c}(hb:Qs P I nm X N body c){ks hs}:∀n {s} {h} {e} {t} {w} {ρ} {a} {Q},
  td body ks hs n s h=some (e,t)->Ok I N w X ρ h s a->(∀a' w' ρ',Ok I N w' X ρ' t.h t.s a'->Far nm w ρ h w' ρ' t.h->Q (exo e) a' w')->Code.rounds P c Q n a w
 |0,s,h,e,t,w,ρ,a,Q,hz,_,_=>by grind[td]
 |n+1,s,h,e,t,w,ρ,a,Q,hz,ok,hQ=>by
  simp only[td]at hz;split at hz
  ·rename_i hcl;obtain⟨ok1,far1⟩:=abm ok (ks:=ks) hcl;split at hz
   ·rename_i t1 ht1;exact hb ht1 ok1 fun a' w' ρ' ok2 far2=>MW hb n hz ok2 fun a'' w'' ρ'' ok3 far3=>hQ _ _ ρ'' ok3 (far1.trans (far2.trans far3))
   ·rename_i r hne;refine hb hz ok1 fun a' w' ρ' ok2 far2=>?_;have:=hQ a' w' ρ' ok2 (far1.trans far2);cases e with
    |normal=>exact absurd hz (hne t)
    |exit id=>exact this
    |ret=>exact this
  ·cases hz
theorem Zr{i}{w}{ρ}{h}{s}{a}{r}(ok:Ok I N w X ρ h s a)(hz:OE i s h (s i)=some r)(hnm:rg nm r.2.2=true):
  Ok I N w X ρ r.2.1 r.1 a/\Far nm w ρ h w ρ r.2.1:=by
 have hv:=ok.rs i;cases hi:s i<;>rw[hi]at hz hv<;>simp only[OE]at hz<;>try (cases hz;done)
 case sl=>cases hz;exact⟨ok,.refl _ _ _ _⟩
 case rsl id sub k lo n=>
  simp only[avu]at hz;obtain⟨q,e1,rfl⟩:=hz;obtain⟨x,h',ks⟩:=q;have h1:(a.tmps.getD i undef).oneCell'=true:=by
   obtain⟨_,_,e,_⟩:=hv.rsl_inv;rw[e];rfl
  obtain⟨g1,g2,g3,g4⟩:=yC ok.rel hv (fun b hb=>hb) h1 e1;refine⟨⟨g1,fun j=>?_,ok.size,ok.defers,g2.inv ok.rel ok.inv⟩,g2.far hnm⟩;show RV w (aJ w X h' ρ) ρ h' (upd (kg ks s) i x j) _;rw[cU];split
  ·rename_i hj;subst hj;exact .dat g3
  ·exact g2.rs ok.rs j
 case ref id sub k j l=>
  cases sub with
  |some p=>grind
  |none=>
   simp only at hz;cases ho:h id<;>rw[ho]at hz<;>simp only at hz<;>try (cases hz;done)
   cases hz;rename_i cs;obtain⟨g1,g2⟩:=Io (ds:=cs.map lA) ok.rel ho σ fun p c hc=>by
    grind[bB,WU]
   exact⟨⟨g1,g2.rs ok.rs,ok.size,ok.defers,g2.inv ok.rel ok.inv⟩,g2.far hnm⟩
theorem Wl{w}{ρ}{h}{s}{a}(ok:Ok I N w X ρ h s a)(x):Ok I N w X ρ (GA h x) s a/\Far nm w ρ h w ρ (GA h x):=by
 have id':Ok I N w X ρ h s a/\Far nm w ρ h w ρ h:=⟨ok,.refl _ _ _ _⟩;unfold GA;split
 ·rename_i id k' lo n;split
  ·rename_i k rows e;obtain⟨s1,s2⟩:=abf (m:=lo+n) ok.rel e;exact⟨⟨s1,s2.rs ok.rs,ok.size,ok.defers,s2.inv ok.rel ok.inv⟩,s2.far (pq _)⟩
  omega
 omega
theorem KQ{g}{w}{ρ}{h}{s}{a}{t}(ok:Ok I N w X ρ h s a)(hz:tw nm g s h=some t):∃ρ',Ok I N w X ρ' t.h t.s a/\Far nm w ρ h w ρ' t.h:=by
 cases g with
 |zero=>
  cases hz;exact⟨ρ,ok,.refl _ _ _ _⟩
 |succ i=>
  simp only[tw,avq]at hz;obtain⟨r,e1,e2⟩:=hz;split at e2
  ·rename_i hnm;cases e2;have hv:=ok.rs i;cases hi:s i<;>rw[hi]at e1 hv<;>simp only[Qg]at e1<;>try (cases e1;done)
   ·cases e1;exact⟨ρ,ok,.refl _ _ _ _⟩
   ·rename_i id sub k lo n;cases sub with
    |none=>grind
    |some p=>
    simp only at e1;split at e1
    ·rename_i hps;cases eo:h id<;>rw[eo]at e1<;>simp only[WS]at e1<;>try (cases e1;done)
     rename_i cs;cases ec:cs[p]? with
     |none=>grind[ML]
     |some c=>
      rw[ec]at e1;cases c<;>simp only[ML]at e1<;>try (cases e1;done)
      split at e1
      ·rename_i hc;obtain⟨rfl,rfl,rfl,hd⟩:=hc;have hd':h i=.dead:=by cases hh:h i<;>rw[hh]at hd<;>first|rfl|cases hd
       cases e1;obtain⟨m1,m2⟩:=Zg ok.rel eo ec hps hd';obtain⟨ad,cap,e4,q2,q3,q4,q5⟩:=hv.rsl_inv;refine⟨_,⟨m1,fun j=>?_,ok.size,ok.defers,m2.inv ok.rel ok.inv⟩,m2.far hnm⟩;show RV w _ _ _ (upd (kg [(id,true)] s) i _ j) _;rw[cU];split
       ·rename_i hj;subst hj;rw[e4];refine .rsl _ none _ 0 _ cap ad (by simp[cH,aA]) q3 (by grind[bK]) ?_;grind[bK]
       ·exact m2.rs ok.rs j
      grind
    grind
  grind
theorem Zs{i}{w}{ρ}{h}{s}{a}{r}(ok:Ok I N w X ρ h s a)(hz:OF i s h (s i)=some r)(hnm:rg nm r.2.2=true):
  ∃ρ',Ok I N w X ρ' r.2.1 r.1 a/\Far nm w ρ h w ρ' r.2.1:=by
 have hv:=ok.rs i;have key:∀ {id k lo n},(∃ad cap,a.tmps.getD i undef=.slice ad n cap/\n<=cap/\(lo+cap)*k=(ρ id none).2/\(cap=0\/ad=some ⟨(ρ id none).1,lo*k,none⟩))->Ih i s h id k lo n (h id)=some r->
   ∃ρ',Ok I N w X ρ' r.2.1 r.1 a/\Far nm w ρ h w ρ' r.2.1:=by
  intro id k lo n ⟨ad,cap,e4,q3,q4,q5⟩ e1;cases eo:h id<;>rw[eo]at e1<;>simp only[Ih]at e1<;>try (cases e1;done)
  split at e1
  ·rename_i hc;obtain⟨rfl,rfl,hps,hd⟩:=hc;have hd':h i=.dead:=by cases hh:h i<;>rw[hh]at hd<;>first|rfl|cases hd
   cases e1;obtain⟨m1,m2⟩:=ajs ok.rel eo hps hd';refine⟨_,⟨m1,fun j=>?_,ok.size,ok.defers,m2.inv ok.rel ok.inv⟩,m2.far hnm⟩;show RV w _ _ _ (upd (kg [(id,false)] s) i _ j) _;rw[cU];split
   ·rename_i hj;subst hj;rw[e4];refine .rsl _ none _ 0 _ cap ad (by simp[cH,aA]) q3 (by grind[bK]) ?_;grind[bK]
   ·exact m2.rs ok.rs j
  grind
 cases hi:s i<;>rw[hi]at hz hv<;>simp only[OF]at hz<;>try (cases hz;done)
 ·cases hz;exact⟨ρ,ok,.refl _ _ _ _⟩
 ·rename_i id sub k lo n;cases sub with
  |some p=>grind
  |none=>
  obtain⟨ad,cap,e4,q2,q3,q4,q5⟩:=hv.rsl_inv;exact key ⟨ad,cap,e4,q3,q4,q5⟩ hz
 ·rename_i id k lo n c;obtain⟨ad,e4,q2,q3,q4,q5⟩:=hv.rsc_inv;exact key ⟨ad,c,e4,q3,q4,q5⟩ hz
theorem yE:∀is {w} {ρ} {h} {s} {a} {t},Ok I N w X ρ h s a->Ag nm is s h=some t->∃ρ',Ok I N w X ρ' t.h t.s a/\Far nm w ρ h w ρ' t.h
 |[],w,ρ,h,s,a,t,ok,hz=>by cases hz;exact⟨ρ,ok,.refl _ _ _ _⟩
 |i::l,w,ρ,h,s,a,t,ok,hz=>by
  unfold Ag at hz;split at hz
  ·simp only[avq]at hz;obtain⟨r,e1,e2⟩:=hz;split at e2
   ·rename_i hn;obtain⟨ρ1,g1,g2⟩:=Zs ok e1 hn;obtain⟨ρ2,f1,f2⟩:=yE l g1 e2;exact⟨ρ2,f1,g2.trans f2⟩
   grind
  ·split at hz
   ·obtain⟨g1,g2⟩:=Wl (nm:=nm) ok (s (i-100000));obtain⟨ρ2,f1,f2⟩:=yE l g1 hz;exact⟨ρ2,f1,g2.trans f2⟩
   ·simp only[avq]at hz;obtain⟨r,e1,e2⟩:=hz;split at e2
    ·rename_i hn;obtain⟨g1,g2⟩:=Zr ok e1 hn;obtain⟨ρ2,f1,f2⟩:=yE l g1 e2;exact⟨ρ2,f1,g2.trans f2⟩
    grind
theorem Zt(hcall:mr P I call md)(hN:N<=1000)(hD:Qq P I call md N)(lf):∀cmd c,ie P N c cmd=some cmd->Qs P I md.nm X N (cI call md lf cmd) c:=by
 intro cmd;induction cmd with
 |skip=>
  intro c hc s h e t w ρ a Q hz ok hQ;cases c<;> (try simp only[ie]at hc)<;> (try (cases hc;done))
  ·obtain⟨rfl,rfl⟩:=hz;exact wp_skip (hQ _ _ ρ ok (.refl _ _ _ _))
  all_goals first
   | (obtain⟨rfl,rfl⟩:=hz;exact wp_label (hQ _ _ ρ ok (.refl _ _ _ _)))
   | (exfalso;revert hc;simp[avq])
 |ops ks l=>
  intro c hc s h e t w ρ a Q hz ok hQ;by_cases hrf:∃m,c=.refuse m
  ·have hl:l=[⟨none,none,.bad⟩]:=by
    unfold ie at hc;grind
   simp_all[cI,aF,lZ,dC,step,bq]
  cases c<;> (try (exact absurd ⟨_,rfl⟩ hrf))<;> (try simp only[ie]at hc)<;> (try (cases hc;done));rename_i id ops dr;cases dr<;> (try simp only[ie]at hc)<;> (try (cases hc;done));simp only[avu]at hc;obtain⟨l',h1,h2⟩:=hc;cases h2;simp only[cI,bq]at hz;split at hz
  ·grind
  ·rename_i t1 ht1;obtain⟨rfl,rfl⟩:=hz;refine wp_region ?_;rw[List.range_eq_range',show ops.size=ops.toList.length from Array.length_toList.symm];exact Qp hcall hN ops.toList l 0 (fun j o hj=>by grind) h1 ok ht1 fun a' w' ρ' ok' far=>hQ _ _ ρ' (ok'.some (It _ _)) far
 |dops ks l ps=>
  intro c hc s h e t w ρ a Q hz ok hQ;cases c<;> (try simp only[ie]at hc)<;> (try (cases hc;done));rename_i id ops dr;cases dr<;> (try simp only[ie]at hc)<;> (try (cases hc;done));simp only[avq]at hc;obtain⟨l',h1,h2⟩:=hc;split at h2
  ·rename_i hps;cases h2;simp only[cI,bq]at hz;split at hz
   ·grind
   ·rename_i t1 ht1;obtain⟨rfl,rfl⟩:=hz;exact hD h1 hps ok ht1 fun a' w' ρ' ok' far=>hQ _ _ ρ' (ok'.some (It _ _)) far
  grind
 |seq x y ihx ihy=>
  intro c hc s h e t w ρ a Q hz ok hQ;cases c<;> (try simp only[ie]at hc)<;> (try (cases hc;done));simp only[avq,avu]at hc;obtain⟨c1,h1,c2,h2,h3⟩:=hc;cases h3;simp only[cI,cS]at hz;refine wp_seq ?_;split at hz
  ·grind
  ·rename_i t1 ht1;exact ihx _ h1 ht1 ok fun a' w' ρ' ok1 far1=>ihy _ h2 hz ok1 fun a'' w'' ρ'' ok2 far2=>hQ _ _ ρ'' ok2 (far1.trans far2)
  ·rename_i i t1 ht1;cases hz;exact ihx _ h1 ht1 ok fun a' w' ρ' ok1 far1=>hQ a' w' ρ' ok1 far1
  ·rename_i t1 ht1;cases hz;exact ihx _ h1 ht1 ok fun a' w' ρ' ok1 far1=>hQ a' w' ρ' ok1 far1
 |cond b x y ihx ihy=>
  intro c hc s h e t w ρ a Q hz ok hQ;cases c<;> (try simp only[ie]at hc)<;> (try (cases hc;done));simp only[avq,avu]at hc;obtain⟨b',h0,c1,h1,c2,h2,h3⟩:=hc;cases h3;simp only[cI]at hz;have hv:=be h0 ok.rs;unfold rj at hz;split at hz
  ·rename_i tt htt;rw[htt]at hv;refine wp_cond hv.v_inv.1 ?_;cases tt with
   |true=>exact ihx _ h1 hz ok hQ
   |false=>exact ihy _ h2 hz ok hQ
  grind
 |block id ks x ih=>
  intro c hc s h e t w ρ a Q hz ok hQ;cases c<;> (try simp only[ie]at hc)<;> (try (cases hc;done));simp only[avu]at hc;obtain⟨c1,h1,h3⟩:=hc;cases h3;simp only[cI]at hz;refine wp_block ?_;unfold ah at hz;split at hz
  ·grind
  ·rename_i t1 ht1;cases hz;exact ih _ h1 ht1 ok fun a' w' ρ' ok1 far1=>hQ a' w' ρ' (ok1.some (It _ _)) far1
  ·rename_i i t1 ht1;refine ih _ h1 ht1 ok fun a' w' ρ' ok1 far1=>?_;split at hz
   ·rename_i hi;cases hz;have:=hQ a' w' ρ' (ok1.some (It _ _)) far1;grind[exo,Exit.inBlock]
   grind[exo,Exit.inBlock]
  ·rename_i t1 ht1;cases hz;exact ih _ h1 ht1 ok fun a' w' ρ' ok1 far1=>hQ a' w' ρ' ok1 far1
 |loop ks hs x ih=>
  intro c hc s h e t w ρ a Q hz ok hQ;cases c<;> (try simp only[ie]at hc)<;> (try (cases hc;done));simp only[avu]at hc;obtain⟨c1,h1,h3⟩:=hc;cases h3;exact wp_loop_rounds lf (MW (ih _ h1) lf hz ok hQ)
 |exit id=>
  intro c hc s h e t w ρ a Q hz ok hQ;cases c<;> (try simp only[ie]at hc)<;> (try (cases hc;done));cases hc;obtain⟨rfl,rfl⟩:=hz;exact wp_exit (hQ _ _ ρ ok (.refl _ _ _ _))
 |ret=>
  intro c hc s h e t w ρ a Q hz ok hQ;cases c<;> (try simp only[ie]at hc)<;> (try (cases hc;done));obtain⟨rfl,rfl⟩:=hz;exact wp_ret (hQ _ _ ρ ok (.refl _ _ _ _))
 |frz is x ih=>
  intro c hc s h e t w ρ a Q hz ok hQ;by_cases hsc:∃d,c=.scope d
  ·obtain⟨d,rfl⟩:=hsc;have hc':(ie P N d x).map (Cmd.frz is)=some (.frz is x):=by
    grind[ie]
   simp only[avu]at hc';obtain⟨c1,h1,h3⟩:=hc';cases h3;simp only[cI,bq]at hz;split at hz
   ·grind
   ·rename_i t1 ht1;obtain⟨ρ1,ok1,far1⟩:=yE is ok ht1;refine wp_scope_straight (ih _ h1 hz ok1 fun a' w' ρ' ok2 far2=>?_);have:=hQ a' w' ρ' ok2 (far1.trans far2);cases e<;>exact this
  have hc':(ie P N c x).map (Cmd.frz is)=some (.frz is x):=by
   cases c<;>first|exact absurd ⟨_,rfl⟩ hsc|exact hc| (rename_i b;cases b<;>exact hc)
  simp only[avu]at hc';obtain⟨c1,h1,h3⟩:=hc';cases h3;simp only[cI,bq]at hz;split at hz
  ·grind
  ·rename_i t1 ht1;obtain⟨ρ1,ok1,far1⟩:=yE is ok ht1;exact ih _ h1 hz ok1 fun a' w' ρ' ok2 far2=>hQ a' w' ρ' ok2 (far1.trans far2)
end
def pG(P:Program)(I:Inv)(kp:Bool)(f:FuncId)(g:List AV->List Ob->Option (AV×List Ob)):Prop:=
 ∀ {args} {obs obs'} {res} {w} {X} {ρ} {vals} {n},g args obs=some (res,obs')->2000<=n->I.p w X->Rel w X ρ (ao obs)->vals.size=args.length->
  (∀ (i:Nat) c u,args[i]?=some c->vals[i]?=some u->RV w (aJ w X (ao obs) ρ) ρ (ao obs) c u)->
  Enters P f vals w fun v w'=>∃ρ',Rel w' X ρ' (mat n (ao obs') res).2/\Far kp w ρ (ao obs) w' ρ' (mat n (ao obs') res).2/\RV w' (aJ w' X (mat n (ao obs') res).2 ρ') ρ' (mat n (ao obs') res).2 (mat n (ao obs') res).1 v
def BJ(tmps:Array Value):ResultVar->Sem Value
 | .tmp t=>pure (tmps.getD t Go.undef)
 | .cell c t=>do loadVar t (←asAddr (tmps.getD c Go.undef))
section
variable {P:Program} {w w':World} {X:Nat→Prop} {ρ ρ':dZ} {h h':ac} {s:ak} {a:Act} {call:ic} {md:Mode} {N:Nat}
theorem KR:∀rs l {h h'} {s} {vs} {ks},GF P rs=some l->Rel w X ρ h->RS w (aJ w X h ρ) ρ h s a.tmps->Bq s h l=some (vs,h',ks)->
  ∃us,(rs.mapM (BJ a.tmps)).run P w=.ok us w/\us.length=vs.length/\Rel w X ρ h'/\Evo w ρ h w ρ h' ks/\
   ∀ (i:Nat) c u,vs[i]?=some c->us[i]?=some u->RV w (aJ w X h' ρ) ρ h' c u
 |[],l,h,h',s,vs,ks,hc,r,hs,hz=>by
  simp only[GF,Option.some.injEq]at hc;subst hc;obtain⟨rfl,rfl,rfl⟩:=hz;exact⟨[],rfl,rfl,r,.refl _ _ _,fun i c u hc=>by grind⟩
 |x::rs,l,h,h',s,vs,ks,hc,r,hs,hz=>by
  have step1:∃rv l',l=rv::l'/\GF P rs=some l'/\∀ {z} {h1} {k1},ajj s h rv=some (z,h1,k1)->∃v,(BJ a.tmps x).run P w=.ok v w/\
    Rel w X ρ h1/\Evo w ρ h w ρ h1 k1/\RV w (aJ w X h1 ρ) ρ h1 z v:=by
   cases x with
   |tmp t=>
    simp only[GF,avu]at hc;obtain⟨l',h1,rfl⟩:=hc;refine⟨_,l',rfl,h1,fun{z h1 k1} e=>?_⟩;obtain⟨rfl,rfl,rfl⟩:=e;exact⟨_,rfl,r,.refl _ _ _,hs t⟩
   |cell c t=>
    simp only[GF,avq]at hc;obtain⟨g,g1,k,g2,hc⟩:=hc;split at hc
    ·simp only[avu]at hc;obtain⟨l',h1,rfl⟩:=hc;refine⟨_,l',rfl,h1,fun{z h1 k1} e=>?_⟩;obtain⟨ad,v,q1,q2,q3,q4,q5⟩:=KN (P:=P) r g1 g2 (hs c) e;refine⟨v,?_,q3,q4,q5⟩;simp only[BJ];rw[q1];exact q2
    grind
  obtain⟨rv,l',rfl,hc',key⟩:=step1;simp only[Bq,avq]at hz;obtain⟨⟨z,h1,k1⟩,e1,⟨vs',h2,k2⟩,e2,e3⟩:=hz;cases e3;obtain⟨v,f1,f2,f3,f4⟩:=key e1;obtain⟨us,g1,g2,g3,g4,g5⟩:=KR rs l' hc' f2 (f3.rs hs) e2;refine⟨v::us,by simp_all,by grind,g3,f3.trans g4,fun i c u hc hu=>?_⟩;cases i with
  |zero=>
   simp only[List.getElem?_cons_zero,Option.some.injEq]at hc hu;subst hc hu;cases k2 with
   |nil=>exact g4.rv f4
   |cons p k2=>
    simp only[S7,tv];split
    ·exact .anyv _
    ·exact g4.rvk f4 (.inr γ)
  |succ i=>grind
end
structure Emb (L:List Nat) (f g:Nat->Nat) (h' h2:ac):Prop where
 back:∀id,L.contains id=true->g (f id)=id/\h2 (f id)=dG f (h' id)
 obj:∀i,h2 i≠ .dead->h2 i=dG f (h' (g i))/\az L (h' (g i))=true
 inj:∀i j,h2 i≠ .dead->h2 j≠ .dead->g i=g j->i=j
section
variable {w:World} {X:Nat→Prop} {ρ:dZ} {h' h2:ac} {A A2:Nat→Prop} {L:List Nat} {f g:Nat→Nat}
theorem Iu{o}:dG f o=.dead↔o=.dead:=by cases o<;>simp[dG]
theorem WX(o):bf (dG f o)=bf o:=by cases o<;>rfl
theorem ad1{c}{k}{rows}:dB f c=.osl k rows↔c=.osl k rows:=by cases c<;>simp[dB,jk]
theorem abn(c):bB (dB f c)=bB c:=by cases c<;>rfl
theorem RV.embL(em:Emb L f g h' h2){c}{u}(hv:RV w A ρ h' c u)(hA:∀b,A b->A2 b)(hm:bo L c=true):RV w A2 (fun i s=>ρ (g i) s) h2 (jk f c) u:=by
 cases hv with
 |anyv u=>exact .anyv u
 |und=>exact .und
 |dat hd=>
  have:jk f c=c:=by cases hd<;>rfl
  rw[this];exact .dat (hd.mono fun b hb=>⟨hA b hb,rfl⟩)
 |ref id sub k i j hp=>
  simp only[bo,avv]at hm;obtain⟨h1,h3⟩:=em.back id hm.1;cases sub with
  |some p=>grind
  |none=>
   have:=RV.ref (w:=w) (A:=A2) (ρ:=fun i s=>ρ (g i) s) (h:=h2) (f id) none k i j (by simp only[cH,h3,ne_eq,Iu];exact hp);simp only[h1]at this;exact this
 |rsl id sub k lo n cap a hp hn hb ha=>
  simp only[bo,avv]at hm;obtain⟨h1,h3⟩:=em.back id hm.1;cases sub with
  |some p=>grind
  |none=>exact .rsl (f id) none k lo n cap a (by simp only[cH,h3,ne_eq,Iu];exact hp) hn γ γ
 |rsc id k lo n cap a hp hn hb ha=>simp[bo]at hm
 |ipt cs ad vals hA' hs hv hl hr=>exact .ipt cs ad vals (hA _ hA') hs hv hl (fun j c hc=>(hr j c hc).mono fun b hb=>⟨hA b hb,rfl⟩)
 |agg cs us hs h1 hr=>simp[bo]at hm
 |tup vs us hs hr=>simp[bo]at hm
 |fn ff x y us ts hs ht hx hy=>
  simp[bo]at hm;obtain⟨rfl,rfl⟩:=hm;exact .fn ff [] [] us ts hs ht (fun i c u hc=>by grind) (fun i c u hc=>by grind)
theorem RV.embA(em:Emb L f g h' h2){c}{u}(hv:RV w A ρ h' c u)(hA:∀b,A b->A2 b)(hm:aX L c=true):RV w A2 (fun i s=>ρ (g i) s) h2 (dB f c) u:=by
 cases c with
 |agg cs=>
  simp only[aX,avK]at hm;obtain⟨us,rfl,hs,h1,hr⟩:=hv.agg_inv;refine .agg _ us γ h1 fun i c u hc hu=>?_;simp only[List.getElem?_map,avu]at hc;obtain⟨c',hc',rfl⟩:=hc;exact(hr i c' u hc' hu).embL em hA (hm c' (List.mem_of_getElem? hc'))
 |fn ff x y=>
  simp only[aX,avv,avK]at hm;obtain⟨us,ts,rfl,hs,ht,hx,hy⟩:=hv.fn_inv;refine .fn ff _ _ us ts γ γ (fun i c u hc hu=>?_) (fun i c u hc hu=>?_)
  ·simp only[List.getElem?_map,avu]at hc;obtain⟨c',hc',rfl⟩:=hc;exact(hx i c' u hc' hu).embL em hA (hm.1 c' (List.mem_of_getElem? hc'))
  ·simp only[List.getElem?_map,avu]at hc;obtain⟨c',hc',rfl⟩:=hc;exact(hy i c' u hc' hu).embL em hA (hm.2 c' (List.mem_of_getElem? hc'))
 |_=>
  exact hv.embL em hA hm
theorem Emb.live(em:Emb L f g h' h2){i}{s}(hl:live h2 i s):live h' (g i) s/\h2 i≠ .dead:=by
 have hd:h2 i≠ .dead:=aa1 hl|>fun hp=>by
  cases s with
  |none=>exact hp
  |some p=>obtain⟨_,_,_,e,_⟩:=hp;grind
 obtain⟨e,_⟩:=em.obj i hd;refine⟨?_,hd⟩;cases s with
 |none=>
  simp only[Ab.live,e]at hl;simp only[Ab.live];cases e2:h' (g i)<;>rw[e2]at hl<;>simp[dG]at hl⊢
 |some p=>
  obtain⟨cs,k,rows,e1,e2⟩:=hl;rw[e]at e1;cases e3:h' (g i)<;>rw[e3]at e1<;>simp only[dG]at e1<;>try (cases e1;done)
  rename_i cs';cases e1;simp only[List.getElem?_map,avu]at e2;obtain⟨c,e4,e5⟩:=e2;exact⟨cs',k,rows,e3,by rw[e4,ad1.1 e5]⟩
theorem Rel.emb(em:Emb L f g h' h2)(r:Rel w X ρ h'){X2}(hX:∀b,XZ X2 b->b<w.heap.size)(hnx:∀i s,live h2 i s->¬XZ X2 (ρ (g i) s).1)(hA:∀b,aJ w X h' ρ b->aJ w X2 h2 (fun i s=>ρ (g i) s) b):
  Rel w X2 (fun i s=>ρ (g i) s) h2:=by
 refine⟨fun i s j t h1 h3 h4=>?_,hnx,fun i=>?_,hX⟩
 ·obtain⟨f1,f2⟩:=em.live h1;obtain⟨f3,f4⟩:=em.live h3;obtain⟨e1,e2⟩:=r.inj (g i) s (g j) t f1 f3 h4;exact⟨em.inj i j f2 f4 e1,e2⟩
 ·by_cases hd:h2 i=.dead
  ·rw[hd];trivial
  ·obtain⟨e,hc⟩:=em.obj i hd;have ho:=r.ob (g i);rw[e];cases e2:h' (g i)with
   |dead=>trivial
   |bx cs=>
    rw[e2]at ho hc;obtain⟨us,t,h1,h3,h4,h5⟩:=ho;refine⟨us,t,h1,h3,by grind,fun p c hp=>?_⟩;simp only[List.getElem?_map,avu]at hp;obtain⟨c',hp',rfl⟩:=hp;obtain⟨u,h6,h7⟩:=h5 p c' hp';refine⟨u,h6,?_⟩;simp only[az,avK]at hc;have hcc:=hc c' (List.mem_of_getElem? hp');cases hO:bB c' with
    |true=>
     cases c'<;>simp[bB]at hO;obtain⟨a,cap,us',t',g1,g2,g3,g4,g5,g6,g7⟩:=h7;exact⟨a,cap,us',t',g1,g2,g3,g4,g5,g6,g7.mono fun b hb=>⟨hA b hb,rfl⟩⟩
    |false=>
     have hca:=by simpa [jI,hO]using hcc
     rw[uk hO]at h7;rw[uk (by rw[abn];omega)];refine⟨h7.1.embA em hA hca,h7.2.1,?_⟩;have h8:=h7.2.2;cases c'<;>first|exact h8.elim|trivial|skip
     ·rename_i id sub _ _ _;cases sub with
      |some p=>exact h8.elim
      |none=>
       simp only[aX,bo,avv]at hca;obtain⟨_,e3⟩:=em.back id hca.1;simp only[dB,jk,mP]at h8⊢;rw[e3,WX];omega
     ·simp only[mP,avv,avK]at h8;simp only[dB,mP,avv,avK,awc];have key:∀c,aD c=true->aD (jk f c)=true:=fun c hd=>by cases c<;>simp[aD,jk]at hd⊢ <;>exact hd
      grind
   |ar k rows=>
    rw[e2]at ho;obtain⟨us,t,h1,h3,h4,h5⟩:=ho;exact⟨us,t,h1,h3,h4,h5.mono fun b hb=>⟨hA b hb,rfl⟩⟩
   |fz k rows=>
    rw[e2]at ho;obtain⟨h0,us,t,fr,h1,h3,h4,h5⟩:=ho;exact⟨hA _ h0,us,t,fr,h1,h3,h4,h5.mono fun b hb=>⟨hA b hb,rfl⟩⟩
end
theorem agO(c):jk (fun i=>i) c=c:=by cases c<;>rfl
theorem Tj{α:Type}{f}(hf:∀a,f a=a)(l:List α):l.map f=l:=by
 rw[show f=id from funext hf,List.map_id]
theorem agP(c):dB (fun i=>i) c=c:=by
 cases c<;>simp[dB,jk,Tj agO]
theorem OI(o):dG (fun i=>i) o=o:=by
 cases o<;>simp[dG,Tj agP]
section
variable {L:List Nat} {g:Nat→Nat} {h' h2:ac}
theorem Emb.add(em:Emb L (fun i=>i) g h' h2){m id}(hm:h2 m=.dead)(hL:L.contains m=false)(hid:∀i,h2 i≠ .dead->g i≠id)(hcl:az L (h' id)=true):Emb L (fun i=>i) (upd g m id) h' (upd h2 m (h' id)):=by
 refine⟨fun i hi=>?_,fun i hi=>?_,fun i j hi hj hg=>?_⟩
 ·have hne:i≠m:=γ
  rw[aN _ _ hne,aN _ _ hne];exact em.back i hi
 ·by_cases e:i=m
  ·subst e;rw[aA,aA,OI];grind
  ·rw[aN _ _ e]at hi⊢;rw[aN _ _ e];exact em.obj i hi
 ·by_cases e:i=m<;>by_cases e':j=m
  ·rw[e,e']
  ·subst e;rw[aA,aN _ _ e']at hg;rw[aN _ _ e']at hj;grind
  ·subst e';rw[aA,aN _ _ e]at hg;rw[aN _ _ e]at hi;grind
  ·rw[aN _ _ e]at hi;rw[aN _ _ e']at hj;rw[aN _ _ e,aN _ _ e']at hg;exact em.inj i j hi hj hg
theorem Ak{n i}:(cF n).contains i=true↔1000<=i/\i<1000+n:=by
 grind[cF,List.mem_range']
theorem sR(h':ac)(n i):ao ((cF n).map h') i=if 1000<=i/\i<1000+n then h' i else .dead:=by
 unfold ao;by_cases h1:1000<=i
 ·rw[if_pos h1];by_cases h2:i<1000+n
  ·have:(cF n)[i-1000]?=some i:=by
    unfold cF;grind
   grind
  ·rw[if_neg ω,List.getElem?_map,List.getElem?_eq_none (by grind[cF])];rfl
 grind
theorem Emb.base{n}(hcl:((cF n).all fun i=>az (cF n) (h' i))=true):Emb (cF n) (fun i=>i) (fun i=>i) h' (ao ((cF n).map h')):=by
 refine⟨fun i hi=>⟨rfl,?_⟩,fun i hi=>?_,fun i j _ _ hg=>hg⟩
 ·rw[sR,if_pos (Ak.1 hi),OI]
 ·rw[sR]at hi⊢;split at hi
  ·rename_i h1;rw[if_pos h1,OI];exact⟨rfl,List.all_eq_true.1 hcl i (by simpa using Ak.2 h1)⟩
  grind
end
section
variable {w:World} {X:Nat→Prop} {ρ:dZ} {h' h2:ac} {A A2:Nat→Prop}
theorem JX{b k lo n cap}{us}{e}{fr}{rows}{a}(hb:w.heap[b]?=some (.cells us e fr))(hA2:A2 b)(hA:∀b,A b->A2 b)(hr:cZ w A k rows us)
  (hle:lo+n<=rows.length) (hn:n<=cap) (ha:cap=0\/a=some ⟨b,lo*k,none⟩):RD w A2 (pp k lo n rows) (.slice a n cap):=
 oF hb hA2 (hr.mono fun b hb=>⟨hA b hb,rfl⟩) hle hn ha
def agd(w:World)(A:Nat->Prop)(ρ:dZ)(h':ac)(a b:AV)(u:Value):Prop:=
 (∃id k rows,b=.osl k rows/\a=.rsl id none k 0 rows.length/\h' id=.ar k rows/\bj id=false)\/
 (∃id cs,b=.obx cs/\a=.ref id none 0 0 0/\h' id=.bx cs/\cs.all lY=true/\bj id=false)\/
 (b=a/\∃id k i j,a=.ref id none k i j/\bj id=true)\/
 (b=a/\aD a=true)\/
 (aD b=true/\∀A2,(∀b,A b->A2 b)->(∀id sub,fC a=[id]->live h' id sub->A2 (ρ id sub).1)->RD w A2 b u)
theorem CP(r:Rel w X ρ h'){a b}{u}(hv:RV w (aJ w X h' ρ) ρ h' a u)(he:lB h' a=some b):agd w (aJ w X h' ρ) ρ h' a b u:=by
 have dl:aD a=true->lB h' a=some a->agd w (aJ w X h' ρ) ρ h' a b u:=fun hd hq=>by
  rw[hq]at he;cases he;exact .inr (.inr (.inr (.inl ⟨rfl,hd⟩)))
 cases a with
 |rsl id sub k lo n=>
  obtain⟨a,cap,rfl,hp,hn,hb,ha⟩:=hv.rsl_inv;cases sub with
  |none=>
   simp only[lB]at he;split at he
   ·grind
   ·have ho:=r.ob id;cases e:h' id with
    |dead=>rw[e]at he;cases he
    |ar k' rows=>
     rw[e]at he ho;simp only[Ah]at he;split at he
     ·rename_i hc;obtain⟨rfl,hle⟩:=hc;split at he
      ·rename_i hw;obtain⟨rfl,rfl⟩:=hw;cases he;exact .inl ⟨id,k',rows,rfl,rfl,e,by grind⟩
      ·cases he;obtain⟨us,t,h1,h3,h4,h5⟩:=ho;exact .inr (.inr (.inr (.inr ⟨rfl,fun A2 hA hl=>JX h1 (hl id none rfl (by grind[live])) hA h5 hle hn ha⟩)))
     grind
    |fz k' rows=>
     rw[e]at he ho;simp only[Ah]at he;split at he
     ·rename_i hc;obtain⟨rfl,hle⟩:=hc;cases he;obtain⟨h0,us,t,fr,h1,h3,h4,h5⟩:=ho;exact .inr (.inr (.inr (.inr ⟨rfl,fun A2 hA hl=>JX h1 (hA _ h0) hA h5 hle hn ha⟩)))
     grind
    |bx cs=>
     rw[e]at he;simp only[Ah]at he;split at he
     ·rename_i hc;obtain⟨rfl,hle,hd⟩:=hc;cases he;obtain⟨us,t,h1,h3,h4,h5⟩:=r.cell e;refine .inr (.inr (.inr (.inr ⟨rfl,fun A2 hA hl=>oF h1 (hl id none rfl (by grind[live])) (fun i row hi=>?_) (by grind[uX]) hn ha⟩)));simp only[uX,List.getElem?_map,avu]at hi;obtain⟨c,hc,rfl⟩:=hi;refine⟨rfl,fun j d hj=>?_⟩;cases j with
      |succ j=>grind
      |zero=>
       simp at hj;subst hj;obtain⟨u,h6,h7⟩:=h5 i c hc;have hdc:=List.all_eq_true.1 hd c (List.mem_of_getElem? hc);exact⟨u,by grind,Lq h7 hdc hA (fun k rows ec=>by subst ec;exact hl id (some i) rfl ⟨cs,k,rows,e,hc⟩),GJ hdc⟩
     grind
  |some p=>
   simp only[lB]at he;split at he
   ·grind
   ·cases e:h' id with
    |bx cs=>
     rw[e]at he;simp only[kh]at he;cases ec:cs[p]? with
     |none=>rw[ec]at he;cases he
     |some c=>
      rw[ec]at he;cases c<;>simp only[xi,aji]at he<;>try (cases he;done)
      split at he
      ·rename_i hc;obtain⟨rfl,hle⟩:=hc;cases he;obtain⟨us,t,h1,h3,h4,h5⟩:=r.cell e;obtain⟨u,_,a',cap',us',t',_,_,_,q4,q5,q6,q7⟩:=h5 p _ ec;exact .inr (.inr (.inr (.inr ⟨rfl,fun A2 hA hl=>JX q4 (hl id (some p) rfl ⟨cs,_,_,e,ec⟩) hA q7 hle hn ha⟩)))
      grind
    |_=>rw[e]at he;cases he
 |ref id sub k i j=>
  cases sub with
  |some p=>grind[lB,aD]
  |none=>
   simp only[lB]at he;split at he
   ·rename_i hps;cases he;exact .inr (.inr (.inl ⟨rfl,id,k,i,j,rfl,hps⟩))
   ·split at he
    ·rename_i hc;obtain⟨rfl,rfl,rfl⟩:=hc;cases e:h' id<;>rw[e]at he<;>simp only[YP]at he<;>try (cases he;done)
     split at he
     ·rename_i hd;cases he;exact .inr (.inl ⟨id,_,rfl,rfl,e,hd,by grind⟩)
     grind
    grind
 |fn f x y=>
  grind[lB]
 |any=>exact dl rfl rfl
 |v x=>exact dl rfl rfl
 |emp=>exact dl rfl rfl
 |sl k rows=>exact dl rfl rfl
 |_=>simp[lB,aD]at he
theorem Tk{b c}(hdl:aD b=true)(hd:B6 b=some c):c=b:=by
 unfold B6 at hd;split at hd
 all_goals simp_all[aD,if_pos]
theorem MX(r:Rel w X ρ h'){a b c}{u}(hv:RV w (aJ w X h' ρ) ρ h' a u)(h1:u.oneCell'=true)(he:lB h' a=some b)(hd:B6 b=some c):
  aD c=true/\∀A2,(∀b,aJ w X h' ρ b->A2 b)->(∀id sub,fC a=[id]->live h' id sub->A2 (ρ id sub).1)->RD w A2 c u:=by
 rcases CP r hv he with⟨id,k,rows,rfl,rfl,e,_⟩| ⟨id,cs,rfl,_⟩| ⟨rfl,id,k,i,j,rfl,_⟩| ⟨rfl,hdl⟩| ⟨hdl,hr⟩
 ·simp only[B6,Option.some.injEq]at hd;subst hd;refine⟨rfl,fun A2 hA hl=>?_⟩;obtain⟨a,cap,rfl,hp,hn,hb,ha⟩:=hv.rsl_inv;have ho:=r.ob id;rw[e]at ho;obtain⟨us,t,g1,g2,g3,g4⟩:=ho;have:=JX (w:=w) (A2:=A2) (lo:=0) g1 (hl id none rfl (by grind[live])) hA g4 ω hn ha;grind[pp]
 ·grind[B6,aD]
 ·grind[B6,aD]
 ·have:=Tk hdl hd;subst this;exact⟨hdl,fun A2 hA _=>(hv.toD hdl h1).mono fun b hb=>⟨hA b hb,rfl⟩⟩
 grind[Tk]
theorem KS(r:Rel w X ρ h'):∀cs ds,l6 h' cs=some ds->ds.length=cs.length/\∀ (i:Nat) a c u,cs[i]?=some a->ds[i]?=some c->RV w (aJ w X h' ρ) ρ h' a u->u.oneCell'=true->
  aD c=true/\∀A2,(∀b,aJ w X h' ρ b->A2 b)->(∀id sub,fC a=[id]->live h' id sub->A2 (ρ id sub).1)->RD w A2 c u
 |[],ds,he=>by grind[l6]
 |a::cs,ds,he=>by
  simp only[l6,avq]at he;obtain⟨b,e1,c,e2,q,e3,e4⟩:=he;obtain⟨g1,g2⟩:=KS r cs q e3;refine⟨by grind,fun i a' c' u hc hd hv h1=>?_⟩;cases i with
  |zero=>
   grind[MX]
  |succ i=>grind
end
def Dp(f:ac->Option R3)(p:ac->ac->Fp)(h:ac)(x:AV)(h':ac)(r w:List Nat):Prop:=
 ∀g,(∀i,dF i∈r\/dF i∈w->g i=h i)->∃g',f g=some (x,g',[])/\p g g'=some (r,w)/\(∀i,dF i∈w->g' i=h' i)/\(∀i,dF i∉w->g' i=g i)
section
variable {h h' g:ac} {x:AV} {r w:List Nat}
theorem Fj{f:ac->Option R3}{p:ac->ac->Fp}(hw:w=[])(hp:∀g g',p g g'=some (r,w))(hf:∀g,(∀i,dF i∈r->g i=h i)->f g=some (x,g,[])):Dp f p h x h' r w:=fun g hg=>by
 simp_all
theorem oI{f:ac->Option R3}{p:ac->ac->Fp}{d}{o}(hd:dF d∈w)(hh:h'=upd h d o)(hp:∀g g',p g g'=some (r,w))(hf:∀g,g d=h d->f g=some (x,upd g d o,[])):Dp f p h x h' r w:=fun g hg=>by
 refine⟨upd g d o,hf g (hg d (.inr hd)),hp g _,fun i hi=>?_,fun i hi=>?_⟩
 ·simp_all[upd]
 grind[upd,absurd]
theorem ad2{a}(hd:aD a=true)(h):fQ h a=some (a,h,[]):=by
 cases a<;>simp[aD]at hd<;>simp[fQ,aD,hd]
theorem mu:∀ {xs},xs.all aD=true->∀h,i8 h xs=some (xs,h,[])
 |[],_,h=>rfl
 |a::l,hd,h=>by
  simp only[avQ,avv]at hd;simp only[i8,ad2 hd.1 h,mu hd.2 h,avw,avE]
theorem CQ{a}{xs}(hd:dat a=true)(hc:iv a=some xs):xs.all aD=true:=by
 cases a<;>simp only[dat,aD,iv,Option.some.injEq]at hd hc<;>first| (cases hc;done)| (cases hd;done)|skip
 all_goals grind[aD]
theorem Dq{k}:∀ {ps} {rows rows'} {h h'} {ks},(ps.all fun p=>dat p.2)=true->eU k h rows ps=some (rows',h',ks)->h'=h/\ks=[]/\∀g,eU k g rows ps=some (rows',g,[])
 |[],rows,rows',h,h',ks,_,hz=>by
  grind[eU,Option.some.injEq,Prod.mk.injEq]
 | (i,a)::ps,rows,rows',h,h',ks,hd,hz=>by
  simp only[avQ,avv]at hd;simp only[eU,avq]at hz;obtain⟨cs,e1,hz⟩:=hz;split at hz
  ·have hcs:=CQ hd.1 e1;simp only[mu hcs h,avw,avq]at hz;obtain⟨⟨r1,r2,r3⟩,e2,e3⟩:=hz;obtain⟨q1,q2,q3⟩:=Dq hd.2 e2
   simp_all[eU,avw,if_pos,mu,avB]
  grind
theorem Iv{k k0 i j}{agg}{o}{ks}(hz:og h k agg k0 i j o=some (x,h',ks)):h'=h/\ks=[]/\∀g,og g k agg k0 i j o=some (x,g,[]):=by
 cases o with
 |none=>cases hz
 |some q=>
  simp only[og]at hz;split at hz
  ·simp only[avq,avu]at hz;obtain⟨row,e1,a,e2,e3⟩:=hz
   simp_all[og,if_pos,avw,av9]
  grind
theorem abo{k id k0 i j}{agg}{o}(hz:Bn h k agg id k0 i j o=some (x,h',[])):h'=h/\∀g,Bn g k agg id k0 i j o=some (x,g,[]):=by
 cases o with
 |dead=>cases hz
 |bx cs=>
  simp only[Bn,Gy]at hz⊢;grind
 |ar k' rows=>
  grind[Bn,Iv]
 |fz k' rows=>
  grind[Bn,Iv]
theorem Zu{k}{agg}{a}(hz:i9 h k agg a=some (x,h',[]))(hp:ui a=some (r,w)):Dp (fun g=>i9 g k agg a) (fun _ _=>ui a) h x h' r w:=by
 cases a<;>simp only[ui]at hp<;>try (cases hp;done)
 case ipt cs=>
  cases hp;refine Fj rfl (fun _ _=>rfl) fun g _=>?_;grind[i9,avu]
 case ref id sub k0 i j=>
  cases hp;refine Fj rfl (fun _ _=>rfl) fun g hg=>?_;cases sub with
  |none=>
   grind[i9,abo]
  |some p=>
   grind[i9,Iv]
theorem Wm{k}{a y}(hz:adq h k a y=some (x,h',[]))(hp:Bo y a=some (r,w)):Dp (fun g=>adq g k a y) (fun _ _=>Bo y a) h x h' r w:=by
 cases a<;>simp only[Bo]at hp<;>try (cases hp;done)
 rename_i id sub k0 i j;split at hp
 ·rename_i hd;cases hp;simp only[adq,avq]at hz;obtain⟨xs,e1,hz⟩:=hz;have hxs:=CQ hd e1;split at hz
  ·cases sub with
   |none=>
    simp only at hz;cases eo:h id with
    |bx cs=>
     rw[eo]at hz;simp only[Fc,Oy]at hz;split at hz
     ·simp only[Option.some.injEq,Prod.mk.injEq]at hz;obtain⟨rfl,rfl,e3⟩:=hz;refine oI σ rfl (fun _ _=>by simp_all[Bo,if_pos]) fun g hg=>?_
      simp_all[adq,avw,if_pos,Fc,Oy,if_true]
     grind
    |ar k' rows=>
     simp only[Fc,mu hxs h,avw,eo,Oz,avu]at hz;obtain⟨q,e2,e3⟩:=hz;cases e3;refine oI σ rfl (fun _ _=>by simp_all[Bo,if_pos]) fun g hg=>?_
     simp_all[adq,avw,if_pos,Fc,mu,Oz,av9]
    |_=>rw[eo]at hz;cases hz
   |some p=>
    simp only[mu hxs h,avw]at hz;cases eo:h id with
    |bx cs=>
     rw[eo]at hz;simp only[Es]at hz;cases ec:cs[p]? with
     |none=>rw[ec]at hz;cases hz
     |some c=>
      rw[ec]at hz;cases c<;>simp only[YN]at hz<;>try (cases hz;done)
      simp only[avu]at hz;obtain⟨q,e2,e3⟩:=hz;cases e3;refine oI σ rfl (fun _ _=>by simp_all[Bo,if_pos]) fun g hg=>?_
      simp_all[adq,avw,if_pos,Es,mu,YN,av9]
    |_=>rw[eo]at hz;cases hz
  grind
 grind
end
theorem aju{a b}(h:S4 a b=true):a=b:=by
 cases a<;>cases b<;>simp only[S4]at h<;>try (cases h;done)
 case string.string x y=>
  obtain⟨⟨x⟩⟩:=x
  simp_all
 all_goals grind
mutual
theorem ajv:∀ {a b:AV},S5 a b=true->a=b
 |a,b,h=>by
  cases a<;>cases b<;>simp only[S5]at h<;>try (first|rfl| (cases h;done))
  case v.v=>rw[aju h]
  case sl.sl=>simp only[avv,decide_eq_true_eq]at h;rw[h.1,Iw h.2]
  case osl.osl=>simp only[avv,decide_eq_true_eq]at h;rw[h.1,Iw h.2]
  case obx.obx=>rw[yF h]
  case agg.agg=>rw[yF h]
  case ref.ref=>grind
  case rsl.rsl=>grind
  case ipt.ipt=>rw[yF h]
  case fn.fn=>simp only[avv,decide_eq_true_eq]at h;rw[h.1,yF h.2.1,yF h.2.2]
theorem yF:∀ {a b:List AV},zV a b=true->a=b
 |[],[],_=>rfl
 |[],_::_,h=>by cases h
 |_::_,[],h=>by cases h
 |a::l,b::r,h=>by
  simp only[zV,avv]at h;rw[ajv h.1,yF h.2]
theorem Iw:∀ {a b:List (List AV)},HD a b=true->a=b
 |[],[],_=>rfl
 |[],_::_,h=>by cases h
 |_::_,[],h=>by cases h
 |a::l,b::r,h=>by
  simp only[HD,avv]at h;rw[yF h.1,Iw h.2]
end
theorem ad3{a b}(h:JP a b=true):a=b:=by
 cases a<;>cases b<;>simp only[JP]at h<;>try (first|rfl| (cases h;done))
 case bx.bx=>rw[yF h]
 case ar.ar=>grind[Iw]
 case fz.fz=>grind[Iw]
theorem abp{g h g' h'}{ids}(e:∀i,i∈ids->g i=h i)(e':∀i,i∈ids->g' i=h' i):If g g' ids=If h h' ids:=by
 grind[If,List.filter_congr]
theorem ad4{h h'}{ids}{i}(hi:i∈ids)(hn:dF i∉ (If h h' ids).map dF):h' i=h i:=by
 by_cases hs:JP (h i) (h' i)=true
 ·exact(ad3 hs).symm
 ·refine absurd (List.mem_map.2 ⟨i,?_,rfl⟩) hn;simp only[If,List.mem_filter];exact⟨hi,by simpa using hs⟩
theorem GN{a}:∀ {r l},a∈l->a∈bu l r
 |[],l,h=>h
 |b::r,l,h=>by
  unfold bu;apply GN;split
  ·exact h
  ·simp[h]
theorem Dr:∀ {r l},l.Nodup->(bu l r).Nodup
 |[],l,h=>h
 |b::r,l,h=>by
  unfold bu;apply Dr;split
  ·exact h
  ·rename_i hc;rw[List.nodup_append];refine⟨h,by simp,fun a ha c hc'=>?_⟩;simp only[List.mem_singleton]at hc';subst hc'
   rintro rfl
   exact hc (by simpa using ha)
theorem Qt{h}{a}:∀ {n} {l} {i},a∈l->a∈bX h n l i
 |0,l,i,hm=>hm
 |n+1,l,i,hm=>by
  unfold bX;split
  ·exact hm
  ·exact Qt (GN hm)
theorem KT{h}:∀ {n} {l} {i},l.Nodup->(bX h n l i).Nodup
 |0,l,i,hm=>hm
 |n+1,l,i,hm=>by
  unfold bX;split
  ·exact hm
  ·exact KT (Dr hm)
theorem Fk{g h}:∀ {n} {l} {i},(∀a,a∈bX h n l i->g a=h a)->bX g n l i=bX h n l i
 |0,l,i,_=>rfl
 |n+1,l,i,hg=>by
  unfold bX at hg⊢;split
  ·rfl
  ·rename_i a ha;rw[ha]at hg;rw[hg a (Qt (GN (List.mem_of_getElem? ha)))];exact Fk hg
theorem Qu(h)(n):bX h n [] 0=[]:=by cases n<;>simp[bX]
theorem Tl{a}(h:aD a=true):fC a=[]:=by cases a<;>simp[aD]at h<;>rfl
theorem Tm{a}(h:dat a=true):bZ a=[]:=by
 cases a<;>simp only[dat]at h<;>try exact Tl h
 all_goals simp_all[bZ,List.flatMap_eq_nil_iff,Tl,aD,avv,List.isEmpty_iff]
theorem Qv{a}(h:dat a=true):yz a=true:=by
 have key:∀c,aD c=true->rY c=true:=fun c hc=>by cases c<;>simp[aD]at hc<;>rfl
 cases a<;>simp only[dat]at h<;>try exact key _ h
 all_goals simp_all[aD,avv,List.isEmpty_iff,yz]
section
variable {h h' g:ac} {x:AV}
theorem KU:∀ {cs} {q},cs.all rY=true->i8 h cs=some q->q=(cs,h,[])/\∀g,i8 g cs=some (cs,g,[])
 |[],q,_,hz=>by cases hz;exact⟨rfl,fun g=>rfl⟩
 |c::cs,q,hd,hz=>by
  simp only[avQ,avv]at hd;simp only[i8,avq]at hz;obtain⟨p,e1,q',e2,e3⟩:=hz;have hc:p=(c,h,[])/\∀g,fQ g c=some (c,g,[]):=by
   cases c<;>simp only[rY]at hd<;>simp only[fQ]at e1⊢ <;>first| (cases hd.1;done)|skip
   all_goals
    split at e1
    ·rename_i hdl;simp only[if_pos hdl];cases e1;exact⟨rfl,fun g=>by first|trivial|rfl⟩
    ·cases e1
  obtain⟨rfl,hc2⟩:=hc;obtain⟨rfl,q2⟩:=KU hd.2 e2;cases e3;refine⟨rfl,fun g=>?_⟩;simp only[i8,hc2 g,avw,q2 g,avE]
theorem Wn{m}{a}{q}(hd:yz a=true)(hz:dE h m a=some q):q=(a,h,[])/\∀g,dE g m a=some (a,g,[]):=by
 have key:∀c,(∀cs,c≠ .agg cs)->rY c=true->vT h c=some q->q=(c,h,[])/\∀g,vT g c=some (c,g,[]):=by
  intro c hna hc hz;have e1:∀g,vT g c=if aD c then some (c,g,[])else none:=by
   intro g;cases c<;>simp only[rY]at hc<;>first| (cases hc;done)| (exact absurd rfl (hna _))|rfl
  grind
 cases a with
 |agg cs=>
  simp only[dE,vT,avq]at hz⊢;obtain⟨p,e1,e2⟩:=hz;obtain⟨rfl,q2⟩:=KU hd e1;grind
 |rsl=>grind[yz,rY]
 |rsc=>grind[yz,rY]
 |ref id sub k i j=>
  cases sub with
  |none=>
   simp_all[dE,Option.some.injEq,trivial]
  |some p=>exact key _ (fun cs=>by simp) rfl hz
 |ipt cs=>
  simp_all[dE,Option.some.injEq,trivial]
 |fn f u v=>
  simp_all[dE,Option.some.injEq,trivial]
 |_=>exact key _ (fun cs=>by simp) rfl hz
theorem Ix:∀ {l} {ms} {q},l.all yz=true->bO h ms l=some q->q=(l,h,[])/\∀g,bO g ms l=some (l,g,[])
 |[],ms,q,_,hz=>by cases hz;exact⟨rfl,fun g=>rfl⟩
 |a::l,ms,q,hd,hz=>by
  simp only[avQ,avv]at hd;simp only[bO,avq]at hz;obtain⟨p,e1,q',e2,e3⟩:=hz;obtain⟨rfl,p2⟩:=Wn hd.1 e1;obtain⟨rfl,q2⟩:=Ix hd.2 e2;cases e3;refine⟨rfl,fun g=>?_⟩;simp only[bO,p2 g,avw,q2 g,avE]
theorem Tn{ids}{i}:∀ {l} {os} {g h},g i=h i->dS g ids l os i=dS h ids l os i
 |[],os,g,h,e=>by simp_all[dS]
 |a::l,[],g,h,e=>by simp_all[dS]
 |a::l,o::os,g,h,e=>by
  simp only[dS];apply Tn;unfold upd;split
  ·rfl
  ·exact e
theorem xV{ids}{i}:∀ {l} {os} {g},i∉l->dS g ids l os i=g i
 |[],os,g,_=>rfl
 |a::l,[],g,_=>rfl
 |a::l,o::os,g,hn=>by
  simp only[List.mem_cons,not_or]at hn;simp only[dS];rw[xV hn.2];exact aN _ _ hn.1
theorem Lr(n)(g h)(c):(dO n g c).1=(dO n h c).1:=by cases c<;>rfl
theorem WY{n i}{g h}{c}(e:g i=h i):(dO n g c).2 i=(dO n h c).2 i:=by
 cases c<;>simp only[dO]<;>first|exact e| (unfold upd;split;rfl;exact e)
theorem To{n i}{g}{c}(hn:i≠n):(dO n g c).2 i=g i:=by
 cases c<;>simp only[dO]<;>first|rfl|exact aN _ _ hn
theorem Tp:∀l n g h,(cV n g l).1=(cV n h l).1
 |[],n,g,h=>rfl
 |c::l,n,g,h=>by simp only[cV];rw[Lr n g h,Tp l (n+1) _ (dO n h c).2]
theorem WZ{i}:∀ {l} {n} {g h},g i=h i->(cV n g l).2 i=(cV n h l).2 i
 |[],n,g,h,e=>e
 |c::l,n,g,h,e=>by simp only[cV];exact WZ (WY e)
theorem Tq{i}:∀ {l} {n} {g},¬ (n<=i/\i<n+l.length)->(cV n g l).2 i=g i
 |[],n,g,hn=>rfl
 |c::l,n,g,hn=>by
  simp only[cV];simp only[av2]at hn;rw[Tq ω,To ω]
theorem W0(n)(g h)(c):(mat n g c).1=(mat n h c).1:=by
 cases c<;>simp only[mat]<;>first|exact Lr _ _ _ _|rw[Tp]
theorem abq{n i}{g h}{c}(e:g i=h i):(mat n g c).2 i=(mat n h c).2 i:=by
 cases c<;>simp only[mat]<;>first|exact WY e|exact WZ e
theorem Al{n i}{g}{c}(hn:¬ (n<=i/\i<n+cu c)):(mat n g c).2 i=g i:=by
 cases c<;>simp only[mat]<;>simp only[cu]at hn<;>first|exact To ω|exact Tq hn
theorem KV{g h}:∀ {m n},(∀i,n<=i->i<n+m->g i=h i)->bY g n m=bY h n m
 |0,n,_=>rfl
 |m+1,n,hg=>by
  simp only[bY];rw[hg n ω ω,KV fun i h1 h2=>hg i ω ω]
theorem HF{g h}{gv}:∀ {l} {os},(∀a,a∈l->g a=h a)->cO g gv l os=cO h gv l os
 |[],os,_=>rfl
 |a::l,[],_=>rfl
 |a::l,o::os,hg=>by
  simp only[cO];rw[hg a σ,HF fun b hb=>hg b (by simp[hb])]
theorem EB{d i}(h1:2000+8*d<=i)(h2:i<2000+8*d+8):dF i=2000+8*d:=by
 unfold dF;grind
theorem RE{kp}{d}{ids}{gv}{r}(hz:dX kp h d ids [] gv r=some (x,h',[]))(hg:∀i,dF i∈ids.map dF++[2000+8*d]->g i=h i):
  ∃g',dX kp g d ids [] gv r=some (x,g',[])/\(∀i,dF i∈ids.map dF++[2000+8*d]->g' i=h' i)/\(∀i,dF i∉ids.map dF++[2000+8*d]->g' i=g i)/\∀i,i∉ids->dF i≠2000+8*d->h' i=h i:=by
 unfold dX at hz⊢;split at hz
 ·rename_i hc;simp only[Option.some.injEq,Prod.mk.injEq,avB,List.append_eq_nil_iff]at hz;obtain⟨rfl,rfl,hk,rfl⟩:=hz;obtain⟨c1,c0,c2,c3,c4,c5⟩:=hc;have hfr:bY g (2000+8*d) (cu r.1)=true:=by
   grind[KV,EB]
  have hst:cO g [] ids r.2=true:=by grind[HF]
  refine⟨(mat (2000+8*d) (dS g ids ids r.2) r.1).2,?_,fun i hi=>?_,fun i hi=>?_,fun i hi hi2=>?_⟩
  ·rw[if_pos ⟨c1,c0,c2,hfr,hst,c5⟩,hk];simp only[fG,avE];rw[W0 _ (dS g ids ids r.2) (dS h ids ids r.2)]
  ·simp only[fG];grind[abq,Tn]
  ·rw[Al (fun hh=>hi (by grind[EB])),xV (fun hh=>hi γ)]
  ·simp only[fG];rw[Al (fun hh=>hi2 (EB hh.1 ω)),xV hi]
 grind
theorem Wo{call}{md}{d}{f}{zas}{r w}(hz:dH call md h d zas f=some (x,h',[]))(hp:jo h d (oj zas f) h'=some (r,w)):
  Dp (fun g=>dH call md g d zas f) (fun g=>jo g d (oj zas f)) h x h' r w:=by
 cases f<;>simp only[dH]at hz<;>try (cases hz;done)
 rename_i fid a b;simp only[oj]at hp;simp only[avq]at hz;obtain⟨p,e1,e2⟩:=hz;have hno:(a++zas++b).all yz=true:=by
  grind[jo,avK,Qv]
 obtain⟨rfl,e3⟩:=Ix hno e1;generalize hI:bX h 40 (bu [] ((a++zas++b).flatMap bZ)) 0=ids at*
 have hids:(∀i,i∈ids->dF i∈r)/\w=(If h h' ids).map dF++[2000+8*d]/\
   (∀g g',(∀i,i∈ids->g i=h i)->(∀i,i∈ids->g' i=h' i)->jo g d (a++zas++b) g'=some (r,w)):=by
  unfold jo at hp;split at hp
  ·cases hp;have:(a++zas++b).flatMap bZ=[]:=by
    grind[List.flatMap_eq_nil_iff,Tm]
   rw[this]at hI;simp only[bu,Qu]at hI;subst hI;refine⟨fun i hi=>by grind,rfl,fun g g' _ _=>?_⟩
   simp_all[jo,if_pos]
  ·rename_i hd;rw[hI]at hp;cases hp;refine⟨fun i hi=>List.mem_map.2 ⟨i,hi,rfl⟩,rfl,fun g g' hg hg'=>?_⟩;unfold jo;have hre:bX g 40 (bu [] ((a++zas++b).flatMap bZ)) 0=ids:=by
    grind[Fk]
   rw[if_neg hd,if_pos hno,hre,abp hg hg']
 obtain⟨hi1,hi2,hi3⟩:=hids;intro g hg;have hat:=fun i hi=>hg i (.inl (hi1 i hi));have hre:bX g 40 (bu [] ((a++zas++b).flatMap bZ)) 0=ids:=by
  grind[Fk]
 unfold jd at e2;split at e2
 ·simp only[avq]at e2;obtain⟨res,e4,e5⟩:=e2;have hgl:∀i,dF i∈ids.map dF++[2000+8*d]->g i=h i:=fun i hi=>by
   grind
  obtain⟨g',g1,g2,g3,g4⟩:=RE e5 (g:=g) hgl;have hat':=fun i hi=>g2 i (List.mem_append_left _ (List.mem_map.2 ⟨i,hi,rfl⟩));refine⟨g',?_,hi3 g g' hat hat',fun i hi=>g2 i ?_,fun i hi=>?_⟩
  ·simp only[dH,e3 g,avw,hre];unfold jd;have hmap:ids.map (fun a=>dG (aW ids) (g a))=ids.map fun a=>dG (aW ids) (h a):=avR fun i hi=>by rw[hat i hi]
   grind
  ·rw[hi2]at hi;rcases List.mem_append.1 hi with hi|hi
   ·refine List.mem_append_left _ ?_;obtain⟨a,ha,hae⟩:=List.mem_map.1 hi;exact List.mem_map.2 ⟨a,(List.mem_filter.1 ha).1,hae⟩
   grind
  grind[dF,ad4,List.mem_append_left]
 grind
theorem MY{call}{md}{d}{f}{zas}{r w}(hz:bv call md h d zas f=some (x,h',[]))(hp:jo h d (oj zas f) h'=some (r,w)):
  Dp (fun g=>bv call md g d zas f) (fun g=>jo g d (oj zas f)) h x h' r w:=by
 have hb:¬jn md zas f=true:=by
  intro hb;have hno:∀l:List AV,l.all yz=true->l.any (fun x=>!MH x)=false:=fun l hl=>by
   rw[List.any_eq_false];intro c hc;have:=List.all_eq_true.1 hl c hc;cases c<;>simp[yz,rY,MH]at this⊢
  cases f<;>simp only[jn,avv]at hb<;>try (cases hb;done)
  simp only[oj]at hp;unfold jo at hp;split at hp
  ·rename_i hd;rw[hno _ (List.all_eq_true.2 fun c hc=>Qv (List.all_eq_true.1 hd c hc))]at hb;grind
  grind
 simp_all[bv,if_neg,Wo]
theorem KW{d}{x0 x}{h0 g0 h'}{k0}(hz:yy d (x0,h0,k0)=some (x,h',[]))(hg:∀i,dF i=2000+8*d->g0 i=h0 i):
  k0=[]/\∃g',yy d (x0,g0,[])=some (x,g',[])/\(∀i,dF i=2000+8*d->g' i=h' i)/\(∀i,dF i≠2000+8*d->g' i=g0 i):=by
 unfold yy at hz⊢;simp only at hz⊢;split at hz
 ·rename_i id k lo n;split at hz
  ·rename_i hid;subst hid;have hgd:dF (2000+8*d)=2000+8*d:=EB (avt _) ω;have he:=hg _ hgd;simp only[fQ]at hz⊢;rw[he];cases eo:h0 (2000+8*d)<;>rw[eo]at hz<;>simp only[mN]at hz⊢ <;>try (cases hz;done)
   ·simp_all
   ·split at hz
    ·rename_i hc;rw[if_pos hc];simp only[av9,Option.some.injEq,Prod.mk.injEq,avE]at hz;obtain⟨rfl,rfl,rfl⟩:=hz;refine⟨rfl,upd g0 (2000+8*d) (.fz k _),rfl,fun i hi=>?_,fun i hi=>?_⟩
     all_goals grind[upd,absurd]
    grind
   grind
  grind
 grind
theorem GO{call}{md}{d}{op}{s}{r w}(hz:step call md d op s h=some (x,h',[]))(hp:gD d op s h h'=some (r,w)):
  Dp (fun g=>step call md d op s g) (fun g=>gD d op s g) h x h' r w:=by
 cases op with
 |p op=>
  obtain⟨rfl,rfl⟩:=hp;simp only[step,Di,avu]at hz;obtain⟨a,e1,e2⟩:=hz;cases e2;exact Fj rfl (fun _ _=>rfl) fun g _=>by simp only[step,Di,e1,av9]
 |alloc z=>
  obtain⟨rfl,rfl⟩:=hp;obtain⟨h1,rfl,rfl,_⟩:=lD hz;exact oI σ rfl (fun _ _=>rfl) fun g hg=>by grind[step,mO,B4]
 |box k y=>
  simp only[gD]at hp;split at hp
  ·rename_i hd;cases hp;simp only[step,Dh,avq]at hz;obtain⟨xs,e1,hz⟩:=hz;split at hz
   ·rename_i hk;simp only[CQ hd e1,if_true,mO]at hz;obtain⟨h1,rfl,rfl,_⟩:=lD hz;refine oI σ rfl (fun _ _=>by simp_all[gD,if_pos]) fun g hg=>?_;simp only[step,Dh,avw,if_pos hk,CQ hd e1,if_true,mO,B4, *]
   grind
  grind
 |buildSl k z n ps=>
  simp only[gD]at hp;split at hp
  ·rename_i hd;cases hp;simp only[step,avq]at hz;obtain⟨q,e1,hz⟩:=hz;have hd':((ps.map fun p=>(p.1,ev s p.2)).all fun p=>dat p.2)=true:=by
    grind
   obtain⟨e2,e3,e4⟩:=Dq hd' e1;obtain⟨q1,q2,q3⟩:=q;simp only at e2 e3 e4 hz;subst e2 e3;obtain⟨h1,rfl,rfl,_⟩:=lD hz;refine oI σ rfl (fun _ _=>by simp only[gD,if_pos hd]) fun g hg=>?_;simp only[step,e4 g,avw,df,B4, *]
  grind
 |buildC k z n ps=>
  simp only[gD]at hp;split at hp
  ·rename_i hd;cases hp;simp only[step,avq]at hz;obtain⟨x0,⟨q,e1,hz⟩,hco⟩:=hz;have hd':((ps.map fun p=>(p.1,ev s p.2)).all fun p=>dat p.2)=true:=by
    grind
   obtain⟨e2,e3,e4⟩:=Dq hd' e1;obtain⟨q1,q2,q3⟩:=q;simp only at e2 e3 e4 hz;subst e2 e3;obtain⟨x1,x2,x3⟩:=x0;obtain⟨h1,rfl,rfl,rfl⟩:=lD hz;have hu:∀g (a b:Ob),upd (upd g d a) d b=upd g d b:=fun g a b=>by funext i;simp only[cU];split<;>rfl
   have key:∀g,g d=.dead->step call md d (.buildC k z n ps) s g=if 0+n<=q1.length then some (pp k 0 n q1,upd g d (.fz k q1),[])else none:=fun g hg=>by
    simp only[step,e4 g,avw,df,B4,Ew,fQ,mN,cU,if_true,true_and, *];split<;>simp
   simp only[Ew,fQ,mN,cU,if_true,true_and,hu]at hco;split at hco
   ·rename_i hle;cases hco;refine oI σ rfl (fun _ _=>by simp only[gD,if_pos hd]) fun g hg=>?_;rw[key g (by rw[hg];exact h1),if_pos hle]
   ·cases hco
  grind
 |mkSl k z b l c=>
  obtain⟨rfl,rfl⟩:=hp;simp only[step,avq]at hz;obtain⟨q,e1,hz⟩:=hz;split at hz
  ·obtain⟨h1,rfl,rfl,_⟩:=lD hz;refine oI σ rfl (fun _ _=>rfl) fun g hg=>?_
   simp_all[step,avw,if_pos,df,B4]
  grind
 |load k g y=>exact Zu hz hp
 |store k a y=>exact Wm hz hp
 |app k b a y=>cases hp
 |cpy k x y=>cases hp
 |slcM k x lo hi=>cases hp
 |clr k z x=>cases hp
 |appz k b z x n=>cases hp
 |take x=>cases hp
 |call f zas=>exact MY hz hp
 |callC f zas=>
  simp only[step,avq]at hz;obtain⟨⟨x0,h0,k0⟩,e1,e2⟩:=hz;simp only[gD,Ig]at hp;split at hp
  ·cases hp;obtain⟨rfl,_⟩:=KW (g0:=h0) e2 (fun _ _=>rfl);have hp1:jo h d (oj (zas.map (ev s)) (ev s f)) h0=some ([],[2000+8*d]):=by simp_all[jo,if_pos]
   intro g hg;obtain⟨g0,a1,a2,a3,a4⟩:=MY e1 hp1 g hg;obtain⟨_,g',b1,b2,b3⟩:=KW e2 (g0:=g0) (fun i hi=>a3 i γ)
   simp_all[bv,ev,step,gD,Ig,if_pos]
  grind
 |bad=>cases hz
end
section
variable {call:ic} {md:Mode} {s:ak} {h:ac}
theorem gR{s s'}{o}(hs:∀i,i∈gP o->s' i=s i):ev s' o=ev s o:=by
 cases o with
 |t n=>exact hs n (by simp[gP])
 |c a=>rfl
theorem xW{s s'}{o}(hs:∀i,i∈pF o.toList->s' i=s i):evo s' o=evo s o:=by
 cases o with
 |none=>rfl
 |some o=>grind[evo,gR,pF]
theorem EC{s s'}{l}(hs:∀i,i∈pF l->s' i=s i):l.map (ev s')=l.map (ev s):=
 avR fun o ho=>gR fun i hi=>hs i (by simp only[pF,List.mem_flatMap];exact⟨o,ho,hi⟩)
theorem abr{s s'}{op}(hs:∀i,i∈MJ op->s' i=s i):gL s' op=gL s op:=by
 cases op<;>simp only[MJ,awt]at hs<;>simp only[gL]
 case build z ps=>
  have:(ps.map fun p=>(p.1,p.2.1,ev s' p.2.2))=ps.map fun p=>(p.1,p.2.1,ev s p.2.2):=
   avR fun p hp=>by rw[gR fun i hi=>hs i (by rw[List.mem_flatMap];exact⟨p,hp,hi⟩)]
  rw[this]
 case mnx m x ys=>rw[gR fun i hi=>hs i (.inl hi),EC fun i hi=>hs i (.inr hi)]
 case mkF f a b=>rw[EC fun i hi=>hs i (.inl hi),EC fun i hi=>hs i (.inr hi)]
 case pick c a b=>rw[gR fun i hi=>hs i (.inl hi),gR fun i hi=>hs i (.inr (.inl hi)),gR fun i hi=>hs i (.inr (.inr hi))]
 case slc k x lo hi mx=>rw[gR fun i hi=>hs i (.inl hi),xW fun i hi=>hs i (.inr (.inl hi)),xW fun i hi=>hs i (.inr (.inr (.inl hi))),xW fun i hi=>hs i (.inr (.inr (.inr hi)))]
 case slcS x lo hi=>rw[gR fun i hi=>hs i (.inl hi),xW fun i hi=>hs i (.inr (.inl hi)),xW fun i hi=>hs i (.inr (.inr hi))]
 all_goals first
  |rw[gR hs]
  |rw[gR fun i hi=>hs i (.inl hi),gR fun i hi=>hs i (.inr hi)]
theorem yG{s s'}{d}{op}(hs:∀i,i∈MK op->s' i=s i):step call md d op s' h=step call md d op s h/\∀h',gD d op s' h h'=gD d op s h h':=by
 cases op<;>simp only[MK,awt]at hs<;>simp only[step,gD]
 case p op=>simp_all[abr,trivial]
 case buildSl k z n ps=>
  have:(ps.map fun p=>(p.1,ev s' p.2))=ps.map fun p=>(p.1,ev s p.2):=
   avR fun p hp=>by rw[gR fun i hi=>hs i (by rw[List.mem_flatMap];exact⟨p,hp,hi⟩)]
  rw[this];have h2:(ps.all fun p=>dat (ev s' p.2))=ps.all fun p=>dat (ev s p.2):=by
   rw[show(ps.all fun p=>dat (ev s' p.2))=((ps.map fun p=>(p.1,ev s' p.2)).all fun p=>dat p.2)from by rw[List.all_map];rfl,this,List.all_map];rfl
  rw[h2];exact⟨rfl,fun _=>rfl⟩
 case buildC k z n ps=>
  have:(ps.map fun p=>(p.1,ev s' p.2))=ps.map fun p=>(p.1,ev s p.2):=
   avR fun p hp=>by rw[gR fun i hi=>hs i (by rw[List.mem_flatMap];exact⟨p,hp,hi⟩)]
  rw[this];have h2:(ps.all fun p=>dat (ev s' p.2))=ps.all fun p=>dat (ev s p.2):=by
   rw[show(ps.all fun p=>dat (ev s' p.2))=((ps.map fun p=>(p.1,ev s' p.2)).all fun p=>dat p.2)from by rw[List.all_map];rfl,this,List.all_map];rfl
  rw[h2];exact⟨rfl,fun _=>rfl⟩
 case slcM k x lo hi=>simp_all[gR,xW,trivial]
 all_goals simp_all[gR,EC,trivial]
theorem Iy{d}{f}{f'}{r}{t}(hz:nF s d f r=some (t,f')):∃x h',r=some (x,h',[])/\t=⟨fR s d x,h'⟩/\f'=f h':=by
 unfold nF at hz;grind
theorem ED{o}{t}{f}(hz:ab3 call md o s h=some (t,f)):
  ∃x h',t=⟨fR s o.d x,h'⟩/\((∀s',∀g,(∀i,i∈lM o->s' i=s i)->ab3 call md o s' g=some (⟨fR s' o.d x,g⟩,some ([],[])))/\h'=h/\f=some ([],[])\/
   (step call md (o.d.getD 0) o.op s h=some (x,h',[])/\f=gD (o.d.getD 0) o.op s h h'/\
    ∀s',∀g,(∀i,i∈lM o->s' i=s i)->ab3 call md o s' g=nF s' o.d (gD (o.d.getD 0) o.op s g) (step call md (o.d.getD 0) o.op s g))):=by
 unfold ab3 at hz;cases hg:o.g with
 |none=>
  rw[hg]at hz;obtain⟨x,h',e1,e2,e3⟩:=Iy hz;refine⟨x,h',e2,.inr ⟨e1,e3,fun s' g hs=>?_⟩⟩;simp only[lM,hg,avB]at hs;unfold ab3;rw[hg];rw[(yG (h:=g) hs).1,funext (yG (call:=call) (md:=md) (h:=g) hs).2]
 |some jb=>
  obtain⟨j,b⟩:=jb;rw[hg]at hz;simp only at hz;have hj:∀s':ak,(∀i,i∈lM o->s' i=s i)->s' j=s j:=fun s' hs=>hs j (by grind[lM]);unfold rh at hz;split at hz
  ·rename_i bb hb;split at hz
   ·rename_i hbb;obtain⟨x,h',e1,e2,e3⟩:=Iy hz;refine⟨x,h',e2,.inr ⟨e1,e3,fun s' g hs=>?_⟩⟩;unfold ab3;rw[hg];simp only;rw[hj s' hs,hb];simp only[rh,if_pos hbb];simp only[lM,hg,awt]at hs;rw[(yG (h:=g) fun i hi=>hs i (.inr hi)).1,funext (yG (call:=call) (md:=md) (h:=g) fun i hi=>hs i (.inr hi)).2]
   ·cases hz;refine⟨.und,h,rfl,.inl ⟨fun s' g hs=>?_,rfl,rfl⟩⟩
    simp_all[ab3,rh,if_neg]
  ·cases hz;refine⟨.und,h,rfl,.inl ⟨fun s' g hs=>?_,rfl,rfl⟩⟩
   simp_all[ab3,rh]
  grind
theorem JY{d}{x}{i}(hn:∀e,d=some e->i≠e):fR s d x i=s i:=by
 cases d with
 |none=>rfl
 |some e=>exact aN _ _ (hn e rfl)
theorem Qw{a b}(x y)(hn:∀i j,a=some i->b=some j->i≠j):fR (fR s a x) b y=fR (fR s b y) a x:=by
 cases a with
 |none=>rfl
 |some i=>
  cases b with
  |none=>rfl
  |some j=>
   funext k;simp only[fR,upd];grind
theorem MZ{a b}(hi:CN a b=true):(∀i d,i∈lM b->a.d=some d->i≠d)/\(∀i d,i∈lM a->b.d=some d->i≠d)/\∀i j,a.d=some i->b.d=some j->i≠j:=by
 simp only[CN,avv]at hi;grind
def uq(f g:Fp):Prop:=nT f g=true
theorem Qx{a b}(h:B5 a b=true){i}(ha:i∈a):i∉b:=by
 simp only[B5,avK,awu,List.contains_eq_mem,decide_eq_false_iff_not]at h;exact h i ha
theorem CR{α:Type}{l:List α}(h:l.isEmpty=true):l=[]:=by cases l<;>simp at h⊢
theorem alW{a b}{t1 t2}{fa fb}(ha:ab3 call md a s h=some (t1,fa))(hb:ab3 call md b t1.s t1.h=some (t2,fb))(hi:CN a b=true)(hf:uq fa fb):
  ∃t,ab3 call md b s h=some (t,fb)/\ab3 call md a t.s t.h=some (t2,fa):=by
 obtain⟨i1,i2,i3⟩:=MZ hi;obtain⟨xa,ha',rfl,ca⟩:=ED ha;obtain⟨xb,hb',rfl,cb⟩:=ED hb;have sb:∀i,i∈lM b->s i=fR s a.d xa i:=fun i hm=>(JY fun e he=>i1 i e hm he).symm;have sa:∀i,i∈lM a->fR s b.d xb i=s i:=fun i hm=>JY fun e he=>i2 i e hm he;have sc:=Qw (s:=s) xa xb i3;rcases ca with⟨ca,rfl,rfl⟩| ⟨ea,rfl,ca⟩
 ·
  rcases cb with⟨cb,rfl,rfl⟩| ⟨eb,rfl,cb⟩
  ·grind
  ·refine⟨⟨fR s b.d xb,hb'⟩,?_,by rw[ca _ _ sa,←sc]⟩;rw[cb s _ sb,eb];rfl
 ·rcases cb with⟨cb,rfl,rfl⟩| ⟨eb,rfl,cb⟩
  ·grind[nF]
  ·
   unfold uq at hf;cases efa:gD (a.d.getD 0) a.op s h ha' with
   |none=>
    rw[efa]at hf;cases efb:gD (b.d.getD 0) b.op (fR s a.d xa) ha' hb' with
    |none=>rw[efb]at hf;cases hf
    |some q=>
     obtain⟨r,w⟩:=q;rw[efb]at hf;simp only[nT,avv]at hf;have hr:=CR hf.1;have hw:=CR hf.2;subst hr hw;have fb:=GO eb efb;obtain⟨g1,p1,p2,p3,p4⟩:=fb h (fun i hi=>by grind);obtain⟨g2,q1,q2,q3,q4⟩:=fb ha' (fun i hi=>rfl);have e1:=funext fun i=>p4 i σ;have e2:hb'=ha':=by
      grind
     grind[nF]
   |some p=>
    obtain⟨ra,wa⟩:=p;rw[efa]at hf;have fra:=GO ea efa;cases efb:gD (b.d.getD 0) b.op (fR s a.d xa) ha' hb' with
    |none=>
     rw[efb]at hf;simp only[nT,avv]at hf;have hr:=CR hf.1;have hw:=CR hf.2;subst hr hw;obtain⟨g1,p1,p2,p3,p4⟩:=fra h (fun i hi=>rfl);have e1:ha'=h:=by
      grind
     obtain⟨g2,q1,q2,q3,q4⟩:=fra hb' (fun i hi=>by grind);have e2:=funext fun i=>q4 i σ;grind[nF]
    |some q=>
     obtain⟨rb,wb⟩:=q;rw[efb]at hf;simp only[nT,avv]at hf;obtain⟨d1,d2⟩:=hf;have frb:=GO eb efb;have hout:∀i,dF i∉wa->ha' i=h i:=by
      obtain⟨g1,p1,p2,p3,p4⟩:=fra h (fun i hi=>rfl);grind
     have hout2:∀i,dF i∉wb->hb' i=ha' i:=by
      obtain⟨g1,p1,p2,p3,p4⟩:=frb ha' (fun i hi=>rfl);grind
     have nwa:∀i,dF i∈rb\/dF i∈wb->dF i∉wa:=fun i hi hw=>Qx d1 hw γ;obtain⟨g1,p1,p2,p3,p4⟩:=frb h (fun i hi=>(hout i (nwa i hi)).symm);have agr:∀i,dF i∈ra\/dF i∈wa->g1 i=h i:=fun i hi=>p4 i fun hw=>by
      grind[Qx]
     obtain⟨g2,q1,q2,q3,q4⟩:=fra g1 agr;have e2:g2=hb':=funext fun i=>by
      by_cases hwa:dF i∈wa
      all_goals grind
     grind[nF]
theorem Ts{o}{post}:∀ {pre} {s} {h} {t} {Fs},iw call md (pre++o::post) s h=some (t,Fs)->
  ∃Fpre f Fpost,Fs=Fpre++f::Fpost/\Fpre.length=pre.length/\((∀ (j:Nat) a fa,pre[j]?=some a->Fpre[j]?=some fa->CN a o=true/\uq fa f)->
   ∃t1,ab3 call md o s h=some (t1,f)/\iw call md (pre++post) t1.s t1.h=some (t,Fpre++Fpost))
 |[],s,h,t,Fs,hz=>by
  simp only[avB,iw,avq]at hz;obtain⟨⟨t1,f⟩,e1,⟨t2,F2⟩,e2,e3⟩:=hz;cases e3;exact⟨[],f,F2,rfl,rfl,fun _=>⟨t1,e1,e2⟩⟩
 |a::pre,s,h,t,Fs,hz=>by
  simp only[avS,iw,avq]at hz;obtain⟨⟨t1,fa⟩,e1,⟨t2,F2⟩,e2,e3⟩:=hz;cases e3;obtain⟨Fpre,f,Fpost,rfl,hl,hh⟩:=Ts e2;refine⟨fa::Fpre,f,Fpost,rfl,by grind,fun hc=>?_⟩;obtain⟨t3,g1,g2⟩:=hh fun j a' fa' h1 h2=>hc (j+1) a' fa' γ γ;obtain⟨c1,c2⟩:=hc 0 a fa rfl rfl;obtain⟨t4,k1,k2⟩:=alW e1 g1 c1 c2;refine⟨t4,k1,?_⟩;simp only[avS,iw,avw, *]
end
section
variable {P:Program} {I:Inv} {call:ic} {md:Mode} {N:Nat} {ops:Array Oper}
theorem Wp{o}{s}{h}{t}{f}(hz:ab3 call md o s h=some (t,f)):lZ call md o s h=some t:=by
 have fin:∀F r,nF s o.d F r=some (t,f)->dC md.nm s o.d r=some t:=by
  intro F r hz;obtain⟨x,h',e1,e2,_⟩:=Iy hz;subst e1 e2;simp only[dC,pq,if_true];rfl
 unfold ab3 at hz;unfold lZ;cases hg:o.g with
 |none=>
  grind
 |some jb=>
  unfold rh at hz;unfold kW;grind
theorem yH:∀ {l} {hs cl},se P N ops hs l=some cl->cl.length=l.length/\∀ (j:Nat) o c,l[j]?=some o->cl[j]?=some c->∃hint,GC P N ops hint o=some c
 |[],hs,cl,hc=>by grind[se,Option.some.injEq]
 |o::l,hs,cl,hc=>by
  simp only[se,avq]at hc;obtain⟨c,e1,q,e2,e3⟩:=hc;cases e3;obtain⟨g1,g2⟩:=yH e2;refine⟨by simp[g1],fun j o' c' h1 h2=>?_⟩;cases j with
  |zero=>simp at h1 h2;subst h1 h2;exact⟨_,e1⟩
  |succ j=>exact g2 j o' c' (by simpa using h1) (by simpa using h2)
theorem Tt:∀ {l} {s} {h} {t} {Fs},iw call md l s h=some (t,Fs)->Fs.length=l.length/\∀ (j:Nat) a f,l[j]?=some a->Fs[j]?=some f->∃s' h' t',ab3 call md a s' h'=some (t',f)
 |[],s,h,t,Fs,hz=>by grind[iw,Option.some.injEq,Prod.mk.injEq]
 |o::l,s,h,t,Fs,hz=>by
  simp only[iw,avq]at hz;obtain⟨⟨t1,f1⟩,e1,⟨t2,F2⟩,e2,e3⟩:=hz;cases e3;obtain⟨g1,g2⟩:=Tt e2;refine⟨by simp[g1],fun j a f h1 h2=>?_⟩;cases j with
  |zero=>simp at h1 h2;subst h1 h2;exact⟨s,h,t1,e1⟩
  |succ j=>exact g2 j a f (by simpa using h1) (by simpa using h2)
theorem OJ{i}:∀ {l acc},i∈WT acc l↔i∈acc\/i∈l
 |[],acc=>by simp[WT]
 |a::l,acc=>by
  unfold WT;cases h:acc.contains a with
  |true=>
   rw[OJ];have ha:=by simpa using h
   constructor
   ·rintro(h1|h1)
    ·exact .inl h1
    ·exact .inr (List.mem_cons_of_mem _ h1)
   ·rintro(h1|h1)
    ·exact .inl h1
    ·rcases List.mem_cons.1 h1 with rfl|h1
     ·exact .inl ha
     ·exact .inr h1
  |false=>
   rw[OJ];simp only[List.mem_cons];constructor
   ·rintro((h1|h1)|h1)
    ·exact .inr (.inl h1)
    ·exact .inl h1
    ·exact .inr (.inr h1)
   ·rintro(h1|h1|h1)
    ·exact .inl (.inr h1)
    ·exact .inl (.inl h1)
    ·exact .inr h1
theorem Ls{o}{acc}{i}:i∈GD o acc↔i∈rn o\/∃d∈rn o,i∈acc.getD d []:=by
 unfold GD;rw[OJ,awt,List.mem_flatMap];simp
theorem Lt:∀l acc,∃r,pY l acc=acc++r/\r.length=l.length
 |[],acc=>⟨[],by simp[pY],rfl⟩
 |o::l,acc=>by
  obtain⟨r,e1,e2⟩:=Lt l (acc++[GD o acc]);grind[GD,pY,awe]
theorem Tu:∀l acc j o,l[j]?=some o->∃pre,(pY l acc)[acc.length+j]?=some (GD o pre)/\
  pre.length=acc.length+j/\∃r,pY l acc=pre++r
 |[],acc,j,o,h=>by grind
 |o::l,acc,0,o',h=>by
  obtain⟨r,e1,e2⟩:=Lt l (acc++[GD o acc]);grind[pY,awe]
 |o::l,acc,j+1,o',h=>by
  obtain⟨pre,e1,e2,e3⟩:=Tu l (acc++[GD o acc]) j o' γ;refine⟨pre,?_,by grind,e3⟩;rw[pY,←e1];grind
theorem Iz{C}{j}{b}{bf}:∀ {l} {i0},JT C j b bf i0 l=true->∀i a,l[i]?=some a->(i0+i)∈bf\/C (i0+i) j a b=true
 |[],i0,_,i,a,h=>by grind
 |c::l,i0,hd,i,a,h=>by
  simp only[JT,avv,Bool.or_eq_true]at hd;cases i with
  |zero=>grind
  |succ i=>
   have:=Iz hd.2 i a γ;grind
theorem Ca{C}:∀ {l} {bs} {j0} {done},done.length=j0->GE C j0 done l bs=true->∀j b bf,l[j]?=some b->bs[j]?=some bf->
  (∀i∈bf,i<j0+j)/\∀i a,i<j0+j->(done++l)[i]?=some a->i∈bf\/C i (j0+j) a b=true
 |[],bs,j0,done,hl,hd,j,b,bf,h1,h2=>by grind
 |c::l,[],j0,done,hl,hd,j,b,bf,h1,h2=>by grind
 |c::l,b0::bs,j0,done,hl,hd,j,b,bf,h1,h2=>by
  simp only[GE,avv,avK,decide_eq_true_eq]at hd;cases j with
  |zero=>
   simp at h1 h2;subst h1 h2;refine⟨hd.1,fun i a hi ha=>?_⟩;rw[List.getElem?_append_left ω]at ha;simpa using Iz hd.2.1 i a ha
  |succ j=>
   obtain⟨g1,g2⟩:=Ca γ hd.2.2 j b bf γ γ;grind
theorem Qy(f):uq (some ([],[])) f:=by
 unfold uq;cases f<;>simp[nT,B5]
theorem uq.symm{f g}(h:uq f g):uq g f:=by
 unfold uq at*
 cases f<;>cases g<;>simp only[nT]at h⊢ <;>try exact h
 simp only[avv,B5,avK,awu,List.contains_eq_mem,decide_eq_false_iff_not,awt]at h⊢;grind
theorem W7{o}{s}{h}{t}{f}(hz:ab3 call md o s h=some (t,f))(hp:isP o.op=true):f=some ([],[]):=by
 obtain⟨x,h',e,⟨_,_,rfl⟩| ⟨_,rfl,_⟩⟩:=ED hz
 ·rfl
 ·cases ho:o.op<;>rw[ho]at hp<;>first|rfl|cases hp
theorem M0{o}{s}{h}{t}{f}(hz:ab3 call md o s h=some (t,f))(hp:S6 o.op=true):∃r,f=some (r,[]):=by
 obtain⟨x,h',e,⟨_,_,rfl⟩| ⟨e2,rfl,_⟩⟩:=ED hz
 ·grind
 ·cases ho:o.op<;>rw[ho]at hp<;>try (cases hp;done)
  rename_i k g y;rw[ho]at e2;simp only[step]at e2;simp only[gD];cases hy:ev s y<;>rw[hy]at e2<;>simp only[i9]at e2<;>first| (cases e2;done)|exact⟨_,rfl⟩
abbrev alX:=List (Nat×COp×Fp)
theorem Ok.draws{w}{X}{ρ}{h}{s}{a}(ok:Ok I N w X ρ h s a):Ok I N {w with drawn:=w.drawn+1} X ρ h s a/\Far md.nm w ρ h {w with drawn:=w.drawn+1} ρ h:=by
 have e:Evo w ρ h {w with drawn:=w.drawn+1} ρ h []:=⟨rfl,rfl,rfl,avt _,fun _ _ _=>rfl,fun _ _ hp _=>⟨hp,rfl⟩,fun _ ho=>.inl ho,fun _ hb=>⟨hb,rfl⟩,fun _ _ hd=>⟨hd,rfl⟩⟩;exact⟨⟨ok.rel.step e (fun _=>False) (fun _ _=>⟨rfl,fun _=>rfl,fun _ _=>rfl⟩) ok.rel.inj ok.rel.nx (fun _ hf=>hf.elim),e.rs ok.rs,ok.size,ok.defers,e.inv ok.rel ok.inv⟩,e.far (pq _)⟩
def IA(g:Nat)(a b:COp):Prop:=∃e n,a=⟨some e,none,.p (.mv (.t n))⟩/\CN a b=true/\(g=0\/(g≠e+1/\g≠n+1))
theorem Zv{g}{a b}(h:YT g a b=true):IA g a b:=by
 unfold YT at h;split at h
 ·rename_i e n;simp only[avv,Bool.or_eq_true,beq_iff_eq,bne_iff_ne]at h;exact⟨e,n,rfl,h.1,h.2⟩
 grind
theorem IA.zero{g}{a b}(h:IA g a b):IA 0 a b:=by
 obtain⟨e,n,h1,h2,_⟩:=h;exact⟨e,n,h1,h2,.inl rfl⟩
theorem Tv(ks:K)(s:ak)(e n):kg ks (upd s e (s n))=upd (kg ks s) e (kg ks s n):=by
 cases ks with
 |nil=>rfl
 |cons p l=>
  grind[kg,upd]
theorem Tw{d}{e}{x y}{s:ak}(hd:d≠some e):fR (upd s e y) d x=upd (fR s d x) e y:=by
 have:=Qw (s:=s) (a:=some e) (b:=d) y x fun i j h1 h2=>by
  grind
 exact this
theorem Qz{nm}{s:ak}{d}{e n}{r}{t}(h1:d≠some e)(h2:d≠some n)(hz:dC nm (upd s e (s n)) d r=some t):∃t2,dC nm s d r=some t2/\t=⟨upd t2.s e (t2.s n),t2.h⟩:=by
 unfold dC at hz⊢;split at hz
 ·split at hz
  ·grind[fR,kg,JY,Tv,Tw]
  grind
 grind
theorem Zw{b}{s:ak}{h}{e n}{t}(hi:CN ⟨some e,none,.p (.mv (.t n))⟩ b=true)(hz:lZ call md b (upd s e (s n)) h=some t):∃t2,lZ call md b s h=some t2/\t=⟨upd t2.s e (t2.s n),t2.h⟩:=by
 obtain⟨i1,i2,i3⟩:=MZ hi;have h1:=fun hh=>i3 e e rfl hh rfl;have h2:=fun hh=>i2 n n (by simp[lM,MK,MJ,gP]) hh rfl;have hr:∀i,i∈lM b->upd s e (s n) i=s i:=fun i hm=>aN _ _ (i1 i e hm rfl);have hs:step call md (b.d.getD 0) b.op (upd s e (s n)) h=step call md (b.d.getD 0) b.op s h:=(yG fun i hm=>hr i (by grind[lM])).1;have hu:∀x,fR (upd s e (s n)) b.d x=upd (fR s b.d x) e (fR s b.d x n):=fun x=>by
  rw[Tw h1];grind[JY]
 unfold lZ at hz⊢;cases hg:b.g with
 |none=>
  grind[Qz]
 |some jb=>
  obtain⟨j,w⟩:=jb;rw[hg]at hz;simp only at hz⊢;rw[hs,hr j (by grind[lM])]at hz;unfold kW at hz⊢;split at hz
  ·split at hz
   all_goals simp_all[if_pos,Qz,if_neg]
  all_goals grind
theorem ad5{s:ak}{i e}{x y}(hn:i≠e):upd (upd s e y) i x=upd (upd s i x) e y:=by
 grind[upd]
theorem Zx{nm}{g}{s:ak}{h}{e n}{t}(hg:g=0\/(g≠e+1/\g≠n+1))(hz:tw nm g (upd s e (s n)) h=some t):∃t2,tw nm g s h=some t2/\t=⟨upd t2.s e (t2.s n),t2.h⟩:=by
 cases g with
 |zero=>cases hz;exact⟨_,rfl,rfl⟩
 |succ i=>
  have h1:i≠e:=ω
  simp only[tw]at hz⊢;rw[aN _ _ h1]at hz;simp only[avq]at hz;obtain⟨r,e1,e2⟩:=hz;split at e2
  ·cases hi:s i<;>rw[hi]at e1<;>simp only[Qg]at e1<;>try (cases e1;done)
   ·cases e1
    simp_all[Qg,pq]
   ·rename_i id sub k lo m;cases sub with
    |none=>grind
    |some p=>
    simp only at e1;split at e1
    ·cases eo:h id<;>rw[eo]at e1<;>simp only[WS]at e1<;>try (cases e1;done)
     rename_i cs;cases ec:cs[p]? with
     |none=>grind[ML]
     |some c=>
      rw[ec]at e1;cases c<;>simp only[ML]at e1<;>try (cases e1;done)
      split at e1
      ·cases e1
       simp_all[Qg,if_pos,WS,ML,avw,Tv,ad5,aN,Ne.symm]
      grind
    grind
  grind
theorem Tx{g}{y}:∀ {L} {s} {h} {t0 t1 t2} {Fs},(∀x∈L,IA g x y)->iw call md L s h=some (t0,Fs)->tw md.nm g t0.s t0.h=some t1->lZ call md y t1.s t1.h=some t2->
  ∃r1 r2,tw md.nm g s h=some r1/\lZ call md y r1.s r1.h=some r2/\iw call md L r2.s r2.h=some (t2,Fs)
 |[],s,h,t0,t1,t2,Fs,_,h1,h2,h3=>by
  grind[iw,Option.some.injEq,Prod.mk.injEq]
 |a::L,s,h,t0,t1,t2,Fs,hl,h1,h2,h3=>by
  obtain⟨e,n,rfl,hi,hg⟩:=hl a σ;simp only[iw,avq]at h1;obtain⟨⟨t',f⟩,e1,⟨t'',F2⟩,e2,e3⟩:=h1;cases e3;have e1':t'=⟨upd s e (s n),h⟩/\f=some ([],[]):=by
   simp only[ab3,step,gL,ev,Di,av9,nF,gD,Option.some.injEq,Prod.mk.injEq]at e1;exact⟨e1.1.symm,e1.2.symm⟩
  obtain⟨rfl,rfl⟩:=e1';obtain⟨r1,r2,g1,g2,g3⟩:=Tx (fun x hx=>hl x γ) e2 h2 h3;obtain⟨q1,k1,rfl⟩:=Zx hg g1;obtain⟨q2,k2,rfl⟩:=Zw hi g2
  simp_all[iw,ab3,step,gL,ev,Di,av9,nF,gD,avw,fR]
abbrev alY:=List (Nat×COp)
structure RestB (ops:Array Oper) (cl:List COp) (bf:Nat->List Nat) (listed:Array Bool) (g:Nat) (L:alX) (T:alY):Prop where
 size:listed.size=ops.size
 op:∀x∈L,cl[x.1]?=some x.2.1/\listed.getD x.1 true=false
 opT:∀y∈T,cl[y.1]?=some y.2/\listed.getD y.1 true=false
 all:∀j,j<ops.size->listed.getD j true=false->(∃x∈L,x.1=j)\/∃y∈T,y.1=j
 pw:L.Pairwise fun x y=>x.1<y.1/\(x.1∈bf y.1\/(CN x.2.1 y.2.1=true/\uq x.2.2 y.2.2))
 lt:∀x∈L,∀y∈T,x.1<y.1/\(x.1∈bf y.1\/IA g x.2.1 y.2)
 pwT:T.Pairwise fun x y=>x.1<y.1/\x.1∈bf y.1
 cls:∀k,k<ops.size->listed.getD k true=true->∀i∈bf k,listed.getD i true=true
theorem IB(hcall:mr P I call md)(hN:N<=1000){hs cl}(hc:se P N ops hs ops.toList=some cl){bf}
  (hlt:∀j,j<ops.size->∀i∈bf j,i<j) (hdep:∀j o,ops[j]?=some o->(∀d∈rn o,d∈bf j)/\∀i∈bf j,i∈rn o\/∃d∈rn o,i∈bf d):
  ∀fuel {g} {L} {T} {listed} {w} {X} {ρ} {h} {s} {a} {t0 tg t} {Q},L.length+T.length=fuel->RestB ops cl bf listed g L T->
   iw call md (L.map (·.2.1)) s h=some (t0,L.map (·.2.2))->tw md.nm g t0.s t0.h=some tg->aF call md (T.map (·.2)) tg.s tg.h=some t->Ok I N w X ρ h s a->(∀a' w' ρ',Ok I N w' X ρ' t.h t.s a'->Far md.nm w ρ h w' ρ' t.h->Q .normal a' w')->wpAny P .any ops Q fuel listed a w
 |0,g,L,T,listed,w,X,ρ,h,s,a,t0,tg,t,Q,hl,hr,hz,hgh,hT,ok,hQ=>by
  have:L=[]:=by simp_all
  subst this;have:T=[]:=by simp_all
  subst this;simp only[av4,iw,Option.some.injEq,Prod.mk.injEq]at hz;obtain⟨rfl,_⟩:=hz;simp only[av4,aF,Option.some.injEq]at hT;subst hT;obtain⟨ρ',ok',far'⟩:=KQ ok hgh;refine⟨?_,hQ _ _ ρ' ok' far'⟩;rw[List.eq_nil_iff_forall_not_mem];intro j hj;obtain⟨h1,o,h2,_⟩:=mem_ready.1 hj;rcases hr.all j (Array.getElem?_eq_some_iff.1 h2).1 h1 with⟨x,hx,_⟩| ⟨x,hx,_⟩<;>simp at hx
 |fuel+1,g,L,T,listed,w,X,ρ,h,s,a,t0,tg,t,Q,hl,hr,hz,hgh,hT,ok,hQ=>by
  have tf:∀d,d<ops.size->listed.getD d true=listed.getD d false:=fun d hd=>by
   have:d<listed.size:=by rw[hr.size];omega
   grind
  have lenc:=(yH hc).1;have cllt:∀ {j:Nat} {c:COp},cl[j]?=some c->j<ops.size:=fun h1=>by
   grind
  have first:∀j,j<ops.size->listed.getD j true=false->(∀k,k<j->listed.getD k true=true)->j∈Region.ready .any ops listed:=by
   intro j hj h1 h2;have hox:ops[j]?=some ops[j]:=γ
   refine mem_ready.2 ⟨h1,ops[j],hox,fun e he hb=>?_⟩;have hd:e.on∈rn ops[j]:=by
    simp only[rn,awc,List.mem_filter];exact⟨e,⟨by simpa using he,hb⟩,rfl⟩
   have hlt':=hlt j hj _ ((hdep j _ hox).1 _ hd);rw[←tf e.on ω];exact h2 _ hlt'
  have isT:∀k,listed.getD k true=true\/listed.getD k true=false:=fun k=>by cases listed.getD k true<;>simp
  refine⟨fun hnil=>?_,fun i hi=>?_⟩
  ·exfalso;have key:∃j,j<ops.size/\listed.getD j true=false/\∀k,k<j->listed.getD k true=true:=by
    cases L with
    |cons x L'=>
     obtain⟨h1,h2⟩:=hr.op x σ;refine⟨x.1,cllt h1,h2,fun k hk=>?_⟩;rcases isT k with h3|h3
     ·omega
     ·rcases hr.all k (Nat.lt_trans hk (cllt h1)) h3 with⟨y,hy,rfl⟩| ⟨y,hy,rfl⟩
      ·rcases List.mem_cons.1 hy with rfl|hy'
       ·omega
       ·have:=(List.pairwise_cons.1 hr.pw).1 y hy';omega
      ·have:=(hr.lt x σ y hy).1;omega
    |nil=>
     cases T with
     |nil=>grind
     |cons x T'=>
      obtain⟨h1,h2⟩:=hr.opT x σ;refine⟨x.1,cllt h1,h2,fun k hk=>?_⟩;rcases isT k with h3|h3
      ·omega
      ·rcases hr.all k (Nat.lt_trans hk (cllt h1)) h3 with⟨y,hy,rfl⟩| ⟨y,hy,rfl⟩
       ·grind
       ·rcases List.mem_cons.1 hy with rfl|hy'
        ·omega
        ·have:=(List.pairwise_cons.1 hr.pwT).1 y hy';omega
   grind
  ·obtain⟨h1,o,h2,h3⟩:=mem_ready.1 hi;have hisz:=(Array.getElem?_eq_some_iff.1 h2).1;have hbl:∀k∈bf i,listed.getD k true=true:=by
    intro k hk;have dl:∀d∈rn o,listed.getD d true=true:=by
     intro d hd;have hdl:d<ops.size:=Nat.lt_trans (hlt i hisz d ((hdep i o h2).1 d hd)) hisz;simp only[rn,awc,List.mem_filter]at hd;obtain⟨e,⟨he,hb⟩,rfl⟩:=hd;rw[tf _ hdl];exact h3 e (by simpa using he) hb
    rcases(hdep i o h2).2 k hk with hd| ⟨d,hd,hkd⟩
    ·grind
    ·exact hr.cls d (Nat.lt_trans (hlt i hisz d ((hdep i o h2).1 d hd)) hisz) (dl d hd) k hkd
   have set_ne:∀k,k≠i->(listed.setIfInBounds i true).getD k true=listed.getD k true:=fun k hk=>getD_set_ne true (Ne.symm hk);have set_same:(listed.setIfInBounds i true).getD i true=true:=by
    simp_all
   have cls':∀k,k<ops.size->(listed.setIfInBounds i true).getD k true=true->∀k'∈bf k,(listed.setIfInBounds i true).getD k' true=true:=fun k hk hkl k' hk'=>by
    have old:listed.getD k' true=true:=by
     by_cases hkx:k=i
     ·grind
     ·rw[set_ne _ hkx]at hkl;exact hr.cls k hk hkl k' hk'
    grind
   rcases hr.all i hisz h1 with⟨x,hx,rfl⟩| ⟨y,hy,rfl⟩
   ·obtain⟨L1,L2,rfl⟩:=List.append_of_mem hx;have hpw:=hr.pw;rw[List.pairwise_append]at hpw;obtain⟨pw1,pw2,pw3⟩:=hpw;rw[List.pairwise_cons]at pw2;simp only[List.map_append,avY]at hz;obtain⟨Fpre,f,Fpost,e1,e2,e3⟩:=Ts hz;have e4:Fpre=L1.map (·.2.2)/\f=x.2.2/\Fpost=L2.map (·.2.2):=by
     grind[List.append_inj,List.cons.injEq]
    obtain⟨rfl,rfl,rfl⟩:=e4;obtain⟨t1,g1,g2⟩:=e3 fun j c fc hj1 hj2=>by
     simp only[List.getElem?_map,avu]at hj1 hj2;obtain⟨y,hy,rfl⟩:=hj1;obtain⟨y',hy',rfl⟩:=hj2;rw[hy]at hy';cases hy';have hyL:=List.mem_of_getElem? hy;rcases(pw3 y hyL x σ).2 with hin|hh
     ·have:=hbl _ hin;rw[(hr.op y γ).2]at this;grind
     omega
    obtain⟨c1,_⟩:=hr.op x σ;obtain⟨hint,hco⟩:=(yH hc).2 x.1 o x.2.1 (by simpa using h2) c1;have nx:∀y,y∈L1++L2->y.1≠x.1:=by
     intro y hy;rcases List.mem_append.1 hy with hy|hy
     ·have:=(pw3 y hy x σ).1;omega
     ·have:=(pw2.1 y hy).1;omega
    refine GM hcall hN h2 hco ok (Wp g1) fun a' w' ρ' ok' far=>?_;refine IB hcall hN hc hlt hdep fuel (L:=L1++L2) (T:=T) (by simp at hl⊢;omega) ⟨by simpa using hr.size,fun y hy=>?_,fun y hy=>?_,fun j hj hjl=>?_,?_,fun y hy=>hr.lt y (by rcases List.mem_append.1 hy with hy|hy<;>simp[hy]),hr.pwT,cls'⟩ (by simpa [List.map_append]using g2) hgh hT ok' fun a'' w'' ρ'' ok'' far'=>hQ _ _ ρ'' ok'' (far.trans far')
    ·obtain⟨q1,q2⟩:=hr.op y (by rcases List.mem_append.1 hy with hy|hy<;>simp[hy]);exact⟨q1,by rw[set_ne _ (nx y hy)];exact q2⟩
    ·obtain⟨q1,q2⟩:=hr.opT y hy;have:=(hr.lt x σ y hy).1;exact⟨q1,by rw[set_ne _ ω];exact q2⟩
    ·have hne:j≠x.1:=by rintro rfl;rw[set_same]at hjl;cases hjl
     rw[set_ne _ hne]at hjl;rcases hr.all j hj hjl with⟨y,hy,rfl⟩|hyT
     ·refine .inl ⟨y,?_,rfl⟩;simp only[awt,List.mem_cons]at hy⊢;rcases hy with hy|rfl|hy
      ·exact .inl hy
      ·exact absurd rfl hne
      ·exact .inr hy
     ·exact .inr hyT
    grind
   ·
    cases T with
    |nil=>simp at hy
    |cons z T'=>
    have hzy:z=y:=by
     rcases List.mem_cons.1 hy with rfl|hy'
     ·rfl
     ·have h5:=((List.pairwise_cons.1 hr.pwT).1 y hy').2;have:=hbl _ h5;rw[(hr.opT z σ).2]at this;cases this
    subst hzy;have hlate:∀x∈L,IA g x.2.1 z.2:=fun x hx=>by
     rcases(hr.lt x hx z σ).2 with h5|h5
     ·have:=hbl _ h5;rw[(hr.op x hx).2]at this;cases this
     ·exact h5
    simp only[avY,aF,bq]at hT;split at hT
    ·cases hT
    ·rename_i t2 ht2;obtain⟨r1,r2,g1,g2,g3⟩:=Tx (L:=L.map (·.2.1)) (fun x hx=>by
      obtain⟨q,hq,rfl⟩:=List.mem_map.1 hx;exact hlate q hq) hz hgh ht2
     obtain⟨ρg,okg,farg⟩:=KQ ok g1;obtain⟨c1,_⟩:=hr.opT z σ;obtain⟨hint,hco⟩:=(yH hc).2 z.1 o z.2 (by simpa using h2) c1;refine GM hcall hN h2 hco okg g2 fun a' w' ρ' ok' far=>?_;refine IB hcall hN hc hlt hdep fuel (g:=0) (L:=L) (T:=T') (by simp at hl⊢;omega) ⟨by simpa using hr.size,fun x hx=>?_,fun y hy=>?_,fun j hj hjl=>?_,hr.pw,fun x hx y hy=>?_,(List.pairwise_cons.1 hr.pwT).2,cls'⟩ g3 rfl hT ok' fun a'' w'' ρ'' ok'' far'=>hQ _ _ ρ'' ok'' ((farg.trans far).trans far')
     ·obtain⟨q1,q2⟩:=hr.op x hx;have:=(hr.lt x hx z σ).1;exact⟨q1,by rw[set_ne _ ω];exact q2⟩
     ·obtain⟨q1,q2⟩:=hr.opT y (by simp[hy]);have:=((List.pairwise_cons.1 hr.pwT).1 y hy).1;exact⟨q1,by rw[set_ne _ ω];exact q2⟩
     ·have hne:j≠z.1:=by rintro rfl;rw[set_same]at hjl;cases hjl
      rw[set_ne _ hne]at hjl;rcases hr.all j hj hjl with hx| ⟨y,hy,rfl⟩
      ·exact .inl hx
      ·rcases List.mem_cons.1 hy with rfl|hy'
       ·exact absurd rfl hne
       ·exact .inr ⟨y,hy',rfl⟩
     ·obtain⟨q1,q2⟩:=hr.lt x hx y (by simp[hy]);exact⟨q1,q2.imp_right IA.zero⟩
theorem Ty(hm:P.follows .mixedOrders=true)(hcall:mr P I call md)(hN:N<=1000){id}{hs0 cl}{w}{X}{ρ}{h}{s}{a}{t0 tg t}{m g}{qs}{Fs}{Q}
  (hc:se P N ops hs0 ops.toList=some cl)
  (hsp:∀j b bf,cl[j]?=some b->(pY ops.toList [])[j]?=some bf->(∀i∈bf,i<j)/\∀i a,i<j->cl[i]?=some a->i∈bf\/JS m g qs i j a b=true)
  (ok:Ok I N w X ρ h s a) (e1:iw call md (cl.take m) s h=some (t0,Fs)) (hps:qs.all (xT Fs)=true) (hgh:tw md.nm g t0.s t0.h=some tg) (hT:aF call md (cl.drop m) tg.s tg.h=some t)
  (hQ:∀a' w' ρ',Ok I N w' X ρ' t.h t.s a'->Far md.nm w ρ h w' ρ' t.h->Q .normal a' w'):(Code.region id ops true).wp P Q a w:=by
 refine wp_region_any hm ?_;obtain⟨ok',far'⟩:=ok.draws (md:=md);obtain⟨lf,gf⟩:=Tt e1;obtain⟨lc,gc⟩:=yH hc;have lc':cl.length=ops.size:=ω
 have ltm:(cl.take m).length=min m ops.size:=γ
 have lb:(pY ops.toList []).length=ops.size:=by
  obtain⟨r,q1,q2⟩:=Lt ops.toList [];grind
 have bget:∀j,j<ops.size->(pY ops.toList [])[j]?=some ((pY ops.toList []).getD j []):=fun j hj=>by
  grind
 have hlt:∀j,j<ops.size->∀i∈ (pY ops.toList []).getD j [],i<j:=fun j hj i hi=>by
  simp_all
 have hdep:∀ (j:Nat) (o:Oper),ops[j]?=some o->(∀d∈rn o,d∈ (pY ops.toList []).getD j [])/\∀i∈ (pY ops.toList []).getD j [],i∈rn o\/∃d∈rn o,i∈ (pY ops.toList []).getD d []:=fun j o hj=>by
  have hjs:j<ops.size:=(Array.getElem?_eq_some_iff.1 hj).1;obtain⟨pre,q1,q2,r,q3⟩:=Tu ops.toList [] j o γ;simp only[awd,avs]at q1 q2;have hrow:(pY ops.toList []).getD j []=GD o pre:=by
   grind
  have hpre:∀d∈rn o,pre.getD d []=(pY ops.toList []).getD d []:=fun d hd=>by
   have hdj:d<j:=hlt j hjs d (by rw[hrow];exact Ls.2 (.inl hd));grind
  refine⟨fun d hd=>by rw[hrow];exact Ls.2 (.inl hd),fun i hi=>?_⟩;rw[hrow]at hi;rcases Ls.1 hi with hi| ⟨d,hd,hid⟩
  all_goals grind
 have getL:∀x∈ (List.range ops.size).zip ((cl.take m).zip Fs),x.1<m/\x.1<ops.size/\cl[x.1]?=some x.2.1/\Fs[x.1]?=some x.2.2:=fun x hx=>by
  obtain⟨n,hn⟩:=List.getElem?_of_mem hx;grind
 have getT:∀y∈ (List.range' (min m ops.size) (ops.size-m)).zip (cl.drop m),m<=y.1/\y.1<ops.size/\cl[y.1]?=some y.2:=fun y hy=>by
  obtain⟨n,hn⟩:=List.getElem?_of_mem hy;rw[List.getElem?_zip_eq_some]at hn;grind
 refine IB hcall hN hc (bf:=fun j=>(pY ops.toList []).getD j []) hlt hdep ops.size (g:=g) (L:=(List.range ops.size).zip ((cl.take m).zip Fs)) (T:=(List.range' (min m ops.size) (ops.size-m)).zip (cl.drop m)) ?_ ⟨by simp,fun x hx=>?_,fun y hy=>?_,fun j hj _=>?_,?_,fun x hx y hy=>?_,?_,fun k hk hkl=>?_⟩ (t0:=t0) (tg:=tg) (t:=t) ?_ hgh ?_ ok' fun a'' w'' ρ'' ok'' far''=>hQ _ _ ρ'' ok'' (far'.trans far'')
 ·grind
 ·obtain⟨q0,q1,q2,q3⟩:=getL x hx;exact⟨q2,by simp[q1]⟩
 ·obtain⟨q0,q1,q2⟩:=getT y hy;exact⟨q2,by simp[q1]⟩
 ·by_cases hjm:j<m
  ·have hjt:j< (cl.take m).length:=ω
   refine .inl ⟨(j,(cl.take m)[j],Fs[j]'(by omega)),?_,rfl⟩;refine List.mem_of_getElem? (i:=j) ?_;grind
  ·have hjt:j-m< (cl.drop m).length:=by rw[aws,lc'];omega
   refine .inr ⟨(j,(cl.drop m)[j-m]),?_,rfl⟩;refine List.mem_of_getElem? (i:=j-m) ?_;rw[List.getElem?_zip_eq_some];refine⟨?_,by rw[List.getElem?_eq_getElem hjt]⟩;rw[List.getElem?_range' ω];simp only[Option.some.injEq];omega
 ·rw[List.pairwise_iff_getElem];intro i j hi hj hij;have hj':j< (cl.take m).length/\j<Fs.length:=by simp only[List.length_zip,List.length_range,lf]at hj;omega
  have hjs:j<ops.size:=ω
  have hjm:j<m:=ω
  simp only[List.getElem_zip,List.getElem_range,List.getElem_take];refine⟨hij,?_⟩;rcases(hsp j cl[j] _ σ (bget j hjs)).2 i cl[i] ω σ with hb|hb
  ·grind
  ·refine .inr ?_;simp only[JS,if_pos hjm,YS,avv,Bool.or_eq_true]at hb;obtain⟨hb1,hb2⟩:=hb;refine⟨hb1,?_⟩;have gi:∀q (hq:q< (cl.take m).length) (hq':q<Fs.length),∃s' h' t',ab3 call md (cl[q]'(by omega)) s' h'=some (t',Fs[q]):=fun q hq hq'=>by
    refine gf q _ _ ?_ (by rw[List.getElem?_eq_getElem hq']);rw[List.getElem?_eq_getElem hq,List.getElem_take]
   obtain⟨s1,h1,t1,st1⟩:=gi i ω ω;obtain⟨s2,h2,t2,st2⟩:=gi j hj'.1 hj'.2;rcases hb2 with((hb2|hb2)|hb2)|hb2
   ·rw[W7 st1 hb2];exact Qy _
   ·rw[W7 st2 hb2];exact(Qy _).symm
   ·obtain⟨r1,k1⟩:=M0 st1 hb2.1;obtain⟨r2,k2⟩:=M0 st2 hb2.2;rw[k1,k2];simp[uq,nT,B5]
   ·have:=List.all_eq_true.1 hps (i,j) (by simpa using hb2);simp only[xT]at this;rw[List.getElem?_eq_getElem (show i<Fs.length from by omega),List.getElem?_eq_getElem hj'.2]at this;exact this
 ·obtain⟨q0,q1,q2,q3⟩:=getL x hx;obtain⟨p0,p1,p2⟩:=getT y hy;refine⟨by omega,?_⟩;rcases(hsp y.1 y.2 _ p2 (bget y.1 p1)).2 x.1 x.2.1 ω q2 with hb|hb
  ·exact .inl hb
  ·simp only[JS,if_neg (show¬y.1<m by omega),avv]at hb;exact .inr (Zv hb.2)
 ·rw[List.pairwise_iff_getElem];intro i j hi hj hij;have hi':=getT _ (avN hi);have hj':=getT _ (avN hj);have hlt2:((List.range' (min m ops.size) (ops.size-m)).zip (cl.drop m))[i].1< ((List.range' (min m ops.size) (ops.size-m)).zip (cl.drop m))[j].1:=by
   simp only[List.getElem_zip,List.getElem_range'];omega
  refine⟨hlt2,?_⟩;rcases(hsp _ _ _ hj'.2.2 (bget _ hj'.2.1)).2 _ _ hlt2 hi'.2.2 with hb|hb
  ·omega
  ·simp only[JS,if_neg (Nat.not_lt.2 hj'.1),avv,decide_eq_true_eq]at hb;have:=hb.1;have:=hi'.1;omega
 ·simp[hk]at hkl
 ·have m1:((List.range ops.size).zip ((cl.take m).zip Fs)).map (·.2.1)=cl.take m:=by
   rw[show(fun x:Nat×COp×Fp=>x.2.1)=Prod.fst∘Prod.snd from rfl,←List.map_map,List.map_snd_zip (by simp[lc',lf,avF];omega),List.map_fst_zip ω]
  have m2:((List.range ops.size).zip ((cl.take m).zip Fs)).map (·.2.2)=Fs:=by
   rw[show(fun x:Nat×COp×Fp=>x.2.2)=Prod.snd∘Prod.snd from rfl,←List.map_map,List.map_snd_zip (by simp[lc',lf,avF];omega),List.map_snd_zip ω]
  rw[m1,m2];exact e1
 grind[List.range',List.map_snd_zip]
theorem Zy(hm:P.follows .mixedOrders=true)(hcall:mr P I call md)(hN:N<=1000):Qq P I call md N:=by
 intro id ops hs0 cl w X ρ h s a t ps Q hc hd ok hz hQ;unfold Tb agb at hd;unfold ri at hz;cases hb:Bp ps with
 |none=>
  rw[hb]at hd hz;simp only[BE,avq]at hz;obtain⟨⟨t0,Fs⟩,e1,e2⟩:=hz;split at e2
  ·rename_i hps;cases e2;have hsp:=Ca (done:=[]) (j0:=0) rfl hd;refine Ty hm hcall hN (m:=cl.length) (g:=0) (qs:=ps) hc (fun j b bf h1 h2=>?_) ok (by rw[List.take_length];omega) hps rfl (by rw[List.drop_length];rfl) hQ;have hj:=(List.getElem?_eq_some_iff.1 h1).1
   simp_all[JS,if_pos,avs]
  grind
 |some q=>
  rw[hb]at hd hz;simp only[Gz,avq]at hz;obtain⟨⟨t0,Fs⟩,e1,e2⟩:=hz;split at e2
  ·rename_i hps;simp only[bq]at e2;split at e2
   ·grind
   ·rename_i tg htg;have hsp:=Ca (done:=[]) (j0:=0) rfl hd;refine Ty hm hcall hN (m:=q.1) (g:=q.2) (qs:=ps.tail) hc (fun j b bf h1 h2=>?_) ok e1 hps htg e2 hQ;grind
  grind
end
theorem Bs:∀ss l,(dU ss l).length=l.length
 |[],l=>by cases l<;>simp[dU]
 |s::ss,[]=>by simp[dU]
 |s::ss,a::l=>by simp[dU,Bs ss l]
theorem Ds:∀ss l (j:Nat) c,(dU ss l)[j]?=some c->∃c0,l[j]?=some c0/\(c=c0\/∃s,c=nrmL s c0)
 |[],l,j,c,h=>⟨c,by grind[dU],.inl rfl⟩
 |s::ss,[],j,c,h=>by grind[dU]
 |s::ss,a::l,0,c,h=>by grind[dU]
 |s::ss,a::l,j+1,c,h=>by
  simpa using Ds ss l j c h
theorem Dt{s}{c}(hd:aD c=true):aD (nrmL s c)=true:=by
 obtain⟨k,cs⟩:=s;cases k with
 |zero=>grind[nrmL]
 |succ k=>cases c<;>simp[aD]at hd<;>simp[nrmL,aD,hd]
theorem gS(s){c}(h1:∀k r,c≠ .sl k r)(h2:c≠ .emp)(h3:∀k r,c≠ .osl k r):nrmL s c=c:=by
 obtain⟨k,cs⟩:=s;cases k with
 |zero=>simp[nrmL]
 |succ k=>cases c<;>first|rfl|exact absurd rfl (h1 _ _)|exact absurd rfl h2|exact absurd rfl (h3 _ _)
section
variable {w:World} {A:Nat→Prop} {ρ:dZ} {h:ac}
theorem RD.nrmL{c}{u}(hd:RD w A c u):∀s,RD w A (nrmL s c) u:=by
 induction hd with
 |any u h=>intro s;rw[gS s σ σ σ];exact .any u h
 |v x h=>intro s;rw[gS s σ σ σ];exact .v x h
 |emp a=>
  intro s;obtain⟨k,cs⟩:=s;cases k with
  |zero=>exact .emp a
  |succ k=>
   exact .sl k [] a 0 ⟨0,0,none⟩ (fun _ _=>undef) (avt 0) (fun h=>absurd rfl h) (fun _ h=>by grind) (fun i row j c h=>by grind) (fun _ h=>by grind) (fun i row j c h=>by grind)
 |sl k rows a cap ad vals hc ha hk hv hl hr ih=>
  intro s;obtain⟨k',cs⟩:=s;cases k' with
  |zero=>exact .sl k rows a cap ad vals hc ha hk hv hl hr
  |succ k'=>
   simp only[Ab.nrmL];have key:∀ (i:Nat) row (j:Nat) c,(rows.map (dU cs))[i]?=some row->row[j]?=some c->∃row0 c0,rows[i]?=some row0/\row0[j]?=some c0/\(c=c0\/∃s,c=Ab.nrmL s c0):=by
    intro i row j c h1 h2;simp only[List.getElem?_map,avu]at h1;obtain⟨row0,h3,rfl⟩:=h1;obtain⟨c0,h4,h5⟩:=Ds cs row0 j c h2;grind
   have:=RD.sl (w:=w) (A:=A) k (rows.map (dU cs)) a cap ad vals γ (fun hne=>ha γ) (fun row hm=>by
     simp only[awc]at hm;obtain⟨row0,hm,rfl⟩:=hm;rw[Bs];grind) (fun i row j c h1 h2=>by
     grind) (fun row hm c hc=>by
     obtain⟨i,hi⟩:=List.getElem?_of_mem hm;obtain⟨j,hj⟩:=List.getElem?_of_mem hc;obtain⟨row0,c0,h3,h4,h5⟩:=key i row j c hi hj;have hd:=hl row0 (List.mem_of_getElem? h3) c0 (List.mem_of_getElem? h4);rcases h5 with rfl| ⟨s,rfl⟩
     ·omega
     ·exact Dt hd) (fun i row j c h1 h2=>by
     grind)
   grind
 |agg cs us hs h1 hr ih=>intro s;rw[gS s σ σ σ];exact .agg cs us hs h1 hr
 |fn f=>intro s;rw[gS s σ σ σ];exact .fn f
theorem RV.nrmL{c}{u}(hv:RV w A ρ h c u)(s):RV w A ρ h (nrmL s c) u:=by
 cases hv with
 |dat hd=>exact .dat (hd.nrmL s)
 |anyv u=>rw[gS s σ σ σ];exact .anyv u
 |und=>rw[gS s σ σ σ];exact .und
 |ref id sub k i j hp=>rw[gS s σ σ σ];exact .ref id sub k i j hp
 |rsl id sub k lo n cap a hp hn hb ha=>rw[gS s σ σ σ];exact .rsl id sub k lo n cap a hp hn hb ha
 |rsc id k lo n cap a hp hn hb ha=>rw[gS s σ σ σ];exact .rsc id k lo n cap a hp hn hb ha
 |ipt cs ad vals hA hs hv hl hr=>rw[gS s σ σ σ];exact .ipt cs ad vals hA hs hv hl hr
 |agg cs us hs h1 hr=>rw[gS s σ σ σ];exact .agg cs us hs h1 hr
 |tup vs us hs hr=>rw[gS s σ σ σ];exact .tup vs us hs hr
 |fn f x y us ts hs ht hx hy=>rw[gS s σ σ σ];exact .fn f x y us ts hs ht hx hy
theorem RV.nrmV{c}{u}(hv:RV w A ρ h c u)(ss):RV w A ρ h (nrmV ss c) u:=by
 cases c with
 |agg cs=>
  obtain⟨us,rfl,hs,h1,hr⟩:=hv.agg_inv;refine .agg _ us (by rw[Bs];omega) h1 fun i c u hc hu=>?_;obtain⟨c0,h2,h3⟩:=Ds ss cs i c hc;rcases h3 with rfl| ⟨s,rfl⟩
  ·grind
  ·exact(hr i c0 u h2 hu).nrmL s
 |_=>exact hv.nrmL _
theorem yI:∀ss l,(bm ss l).length=l.length
 |[],l=>by cases l<;>simp[bm]
 |s::ss,[]=>by simp[bm]
 |s::ss,a::l=>by simp[bm,yI ss l]
theorem xX:∀ss l (j:Nat) c,(bm ss l)[j]?=some c->∃c0,l[j]?=some c0/\(c=c0\/∃s,c=Ab.nrmV s c0)
 |[],l,j,c,h=>⟨c,by grind[bm],.inl rfl⟩
 |s::ss,[],j,c,h=>by grind[bm]
 |s::ss,a::l,0,c,h=>by grind[bm]
 |s::ss,a::l,j+1,c,h=>by
  simpa using xX ss l j c h
end
def ur:AV->Bool
 | .osl _ _| .obx _=>true
 |_=>false
def Tz(L:List Nat)(h':ac)(a c:AV):Prop:=
 ∃id,bZ a=[id]/\bj id=false/\az L (h' id)=true/\
  ((∃k rows,c=.osl k rows/\a=.rsl id none k 0 rows.length/\h' id=.ar k rows)\/(∃xs,c=.obx xs/\a=.ref id none 0 0 0/\h' id=.bx xs))
theorem QA{m}{h}{c}(hc:ur c=false):dO m h c=(c,h):=by
 cases c<;>simp[ur]at hc<;>rfl
theorem Tz.mat{L}{h'}{a c}(hm:Tz L h' a c)(m)(h2):∃id,bZ a=[id]/\bj id=false/\az L (h' id)=true/\h' id≠ .dead/\(dO m h2 c).2=upd h2 m (h' id):=by
 obtain⟨id,h1,h3,h4,⟨k,rows,rfl,rfl,h5⟩| ⟨xs,rfl,rfl,h5⟩⟩:=hm
 ·exact⟨id,h1,h3,h4,by grind,by rw[h5];rfl⟩
 ·exact⟨id,h1,h3,h4,by grind,by rw[h5];rfl⟩
theorem Wq{x}{l}(h:jq (x::l)=true):x∉l/\jq l=true:=by
 simp_all[jq,avv,awu,List.contains_eq_mem,decide_eq_false_iff_not]
theorem M1{l l'}:jq (l++l')=true->jq l'=true/\∀x,x∈l->x∉l':=by
 induction l with
 |nil=>grind
 |cons y l ih=>
  intro h;obtain⟨h1,h2⟩:=Wq h
  simp_all
section
variable {h':ac} {L:List Nat}
theorem GQ(hL:∀i,2000<=i->L.contains i=false):∀ (zas cs:List AV) m h2 g,2000<=m->zas.length=cs.length->
  (∀ (j:Nat) a c,zas[j]?=some a->cs[j]?=some c->ur c=true->Tz L h' a c)->jq ((zas.flatMap bZ).filter fun i=>!bj i)=true->Emb L (fun i=>i) g h' h2->(∀i,m<=i->h2 i=.dead)->
  (∀i,h2 i≠ .dead->∀id,id∈zas.flatMap bZ->bj id=false->g i≠id)->
  ∃gm,Emb L (fun i=>i) gm h' (cV m h2 cs).2/\(∀i,i<m->(cV m h2 cs).2 i=h2 i/\gm i=g i)/\
   (∀i,(cV m h2 cs).2 i≠ .dead->(h2 i≠ .dead/\gm i=g i)\/∃ (j:Nat) (a c:AV),zas[j]?=some a/\cs[j]?=some c/\ur c=true/\bZ a=[gm i])/\
   (∀j a c id,zas[j]?=some a->cs[j]?=some c->ur c=true->bZ a=[id]->gm (m+j)=id/\(cV m h2 cs).2 (m+j)=h' id/\h' id≠ .dead)
 |[],[],m,h2,g,hm,_,_,_,em,_,_=>⟨g,em,fun _ _=>⟨rfl,rfl⟩,fun _ hi=>.inl ⟨hi,rfl⟩,fun j a c id h1=>by grind⟩
 |[],c::cs,m,h2,g,_,hl,_,_,_,_,_=>by grind
 |a::zas,[],m,h2,g,_,hl,_,_,_,_,_=>by grind
 |a::zas,c::cs,m,h2,g,hm,hl,hmv,hnd,em,hfree,hid=>by
  simp only[List.flatMap_cons,List.filter_append]at hnd;obtain⟨nd2,nd3⟩:=M1 hnd;have hmv':∀j a c,zas[j]?=some a->cs[j]?=some c->ur c=true->Tz L h' a c:=fun j a' c' h1 h3=>hmv (j+1) a' c' γ γ;have hl':zas.length=cs.length:=γ
  cases hc:ur c with
  |false=>
   simp only[cV,QA hc];obtain⟨gm,e1,e2,e3,e4⟩:=GQ hL zas cs (m+1) h2 g ω hl' hmv' nd2 em (fun i hi=>hfree i ω) (fun i hi id hm'=>hid i hi id γ);refine⟨gm,e1,fun i hi=>e2 i ω,fun i hi=>?_,fun j a' c' id h1 h3 h4 h5=>?_⟩
   ·rcases e3 i hi with hh| ⟨j,a',c',h1,h3,h4,h5⟩
    ·grind
    ·exact .inr ⟨j+1,a',c',by grind,by grind,h4,h5⟩
   ·cases j with
    |zero=>
     grind
    |succ j=>
     grind
  |true=>
   obtain⟨id,i1,i2,i3,i4,i5⟩:=(hmv 0 a c rfl rfl hc).mat m h2;simp only[cV,i5];have hida:id∈ (a::zas).flatMap bZ:=γ
   have em1:=em.add (m:=m) (id:=id) (hfree m (avt _)) (hL m hm) (fun i hi=>hid i hi id hida i2) i3;have nin:∀id',id'∈zas.flatMap bZ->bj id'=false->id'≠id:=by
    grind
   obtain⟨gm,e1,e2,e3,e4⟩:=GQ hL zas cs (m+1) (upd h2 m (h' id)) (upd g m id) ω hl' hmv' nd2 em1 (fun i hi=>by grind[aN]) (fun i hi id' hm' hp'=>by
    by_cases e:i=m
    ·subst e;rw[aA];exact fun ee=>nin id' hm' hp' ee.symm
    ·rw[aN _ _ e]at hi⊢;exact hid i hi id' (by simp only[List.flatMap_cons,awt];exact .inr hm') hp')
   have atm:=e2 m ω;rw[aA,aA]at atm;refine⟨gm,e1,fun i hi=>?_,fun i hi=>?_,fun j a' c' id' h1 h3 h4 h5=>?_⟩
   ·grind[aN]
   ·rcases e3 i hi with⟨h1,h3⟩| ⟨j,a',c',h1,h3,h4,h5⟩
    ·by_cases e:i=m
     ·subst e;exact .inr ⟨0,a,c,rfl,rfl,hc,by grind⟩
     grind[aN]
    ·exact .inr ⟨j+1,a',c',by grind,by grind,h4,h5⟩
   ·cases j with
    |zero=>
     grind
    |succ j=>
     grind
theorem TA:∀l m h j z,(cV m h l).1[j]?=some z->∃c,l[j]?=some c/\z=(dO (m+j) h c).1
 |[],m,h,j,z,hz=>by grind[cV]
 |c::l,m,h,0,z,hz=>by
  grind[cV]
 |c::l,m,h,j+1,z,hz=>by
  obtain⟨c',h1,h2⟩:=TA l (m+1) _ j z hz;refine⟨c',by simpa using h1,?_⟩;rw[h2,Lr _ _ h,show m+1+j=m+(j+1)from by omega]
theorem KX:∀l m h,(cV m h l).1.length=l.length
 |[],m,h=>rfl
 |c::l,m,h=>by simp[cV,KX l]
end
section
variable {w:World} {X:Nat→Prop} {ρ:dZ} {h':ac} {L:List Nat}
structure Seen (w:World) (X:Nat->Prop) (ρ:dZ) (h':ac) (a:AV) (A2:Nat->Prop) (ρ2:dZ) (h2:ac):Prop where
 mono:∀b,aJ w X h' ρ b->A2 b
 ids:∀id,id∈bZ a->bj id=false->∀sub,live h' id sub->A2 (ρ id sub).1
 pas:∀id,bj id=true->h' id≠ .dead->h2 id≠ .dead/\ρ2 id none=ρ id none
def ad6(w:World)(X:Nat->Prop)(ρ:dZ)(h':ac)(L:List Nat)(a c:AV)(u:Value):Prop:=
 (ur c=true->Tz L h' a c)/\(ur c=false->∀A2 ρ2 h2,Seen w X ρ h' a A2 ρ2 h2->RV w A2 ρ2 h2 c u)
theorem KY{c}(hd:lY c=true):jI L c=true:=by
 simp only[lY,Bool.or_eq_true]at hd;simp only[jI,Bool.or_eq_true];rcases hd with hd|hd
 ·grind
 ·cases c<;>simp[aD]at hd<;>simp[aX,bo,hd]
theorem KZ{a b}(he:lB h' a=some b)(hd:aD b=true\/∃k r,b=.osl k r){id}(hi:fC a=[id]):bj id=false:=by
 cases a<;>simp only[fC]at hi<;>try (cases hi;done)
 case ref i sub k x y=>
  cases sub with
  |some p=>grind[lB,aD]
  |none=>
   grind[lB,aD,YP]
 case rsl i sub k x y=>
  have hi':i=id:=γ
  subst hi';cases hp:bj i with
  |false=>rfl
  |true=>cases sub<;>simp[lB,hp]at he
theorem agQ{b c}(hd:B6 b=some c):aD b=true\/∃k r,b=.osl k r:=by
 unfold B6 at hd;grind
theorem TB:∀ {cs ds},l6 h' cs=some ds->∀ (i:Nat) a id,cs[i]?=some a->fC a=[id]->bj id=false
 |[],ds,_,i,a,id,h1,_=>by grind
 |c::cs,ds,he,i,a,id,h1,h2=>by
  simp only[l6,avq]at he;obtain⟨b,e1,c',e2,q,e3,e4⟩:=he;cases i with
  |zero=>simp at h1;subst h1;exact KZ e1 (agQ e2) h2
  |succ i=>exact TB e3 i a id (by simpa using h1) h2
theorem QB{s}{b}(h:ur (nrmL s b)=true):nrmL s b=b:=by
 obtain⟨k,cs⟩:=s;cases k with
 |zero=>simp[nrmL]
 |succ k=>cases b<;>simp[nrmL,ur]at h⊢
theorem abt(ss){b}(h:∀cs,b≠ .agg cs):nrmV ss b=nrmL (ss.headD (.o 0 [])) b:=by
 cases b<;>first|rfl|exact absurd rfl (h _)
theorem ad7(r:Rel w X ρ h'){a b}{u}(hv:RV w (aJ w X h' ρ) ρ h' a u)(he:lB h' a=some b)(s):ad6 w X ρ h' L a (nrmL s b) u:=by
 have data:∀ {b},lB h' a=some b->aD b=true->(∀A2,(∀b,aJ w X h' ρ b->A2 b)->(∀id sub,fC a=[id]->live h' id sub->A2 (ρ id sub).1)->RD w A2 b u)->
   ∀A2 ρ2 h2,Seen w X ρ h' a A2 ρ2 h2->RV w A2 ρ2 h2 (nrmL s b) u:=by
  intro b he hd hr A2 ρ2 h2 hs;exact .dat ((hr A2 hs.mono fun id sub hi hl=>hs.ids id (by
   have:bZ a=fC a:=by cases a<;>first|rfl|simp[fC]at hi
   grind) (KZ he (.inl hd) hi) sub hl).nrmL s)
 rcases CP r hv he with⟨id,k,rows,rfl,rfl,e,hp⟩| ⟨id,cs,rfl,rfl,e,hd,hp⟩| ⟨rfl,id,k,i,j,rfl,hp⟩| ⟨rfl,hd⟩| ⟨hd,hr⟩
 ·refine⟨fun hm=>?_,fun hm A2 ρ2 h2 hs=>?_⟩
  ·rw[QB hm];exact⟨id,rfl,hp,by rw[e];rfl,.inl ⟨k,rows,rfl,rfl,e⟩⟩
  ·have hsl:nrmL s (.osl k rows)=nrmL s (.sl k rows):=by
    obtain⟨k',cs⟩:=s;cases k' with
    |zero=>grind[nrmL,ur]
    |succ k'=>simp[nrmL]
   rw[hsl];obtain⟨a',cap,rfl,_⟩:=hv.rsl_inv;exact .dat (((MX r hv rfl he rfl).2 A2 hs.mono fun id' sub hi hl=>hs.ids id' (by
    grind[bZ,fC]) (by grind[fC]) sub hl).nrmL s)
 ·refine⟨fun hm=>?_,fun hm=>?_⟩
  ·rw[QB hm];refine⟨id,rfl,hp,?_,.inr ⟨cs,rfl,rfl,e⟩⟩;grind[az,avK,KY]
  ·rw[gS s σ σ σ]at hm;cases hm
 ·refine⟨fun hm=>?_,fun hm A2 ρ2 h2 hs=>?_⟩
  ·rw[gS s σ σ σ]at hm;cases hm
  ·rw[gS s σ σ σ];obtain⟨rfl,hpr⟩:=hv.ref_inv;obtain⟨h1,h3⟩:=hs.pas id hp hpr;have:=RV.ref (w:=w) (A:=A2) (ρ:=ρ2) (h:=h2) id none k i j h1;grind
 ·refine⟨fun hm=>?_,fun hm A2 ρ2 h2 hs=>?_⟩
  ·have:=Dt (s:=s) hd;cases hq:nrmL s b<;>rw[hq]at hm this<;>simp[ur,aD]at hm this
  ·exact(hv.keepD hd fun b hb=>⟨hs.mono b hb,rfl⟩).nrmL s
 ·refine⟨fun hm=>?_,fun hm=>data he hd hr⟩;have:=Dt (s:=s) hd;cases hq:nrmL s b<;>rw[hq]at hm this<;>simp[ur,aD]at hm this
theorem agR(r:Rel w X ρ h'){a b}{u}(hv:RV w (aJ w X h' ρ) ρ h' a u)(he:pW h' a=some b){c}(hc:c=b\/∃ss,c=nrmV ss b):ad6 w X ρ h' L a c u:=by
 have hc':∃ss,c=nrmV ss b:=by
  rcases hc with rfl|hc
  ·refine⟨[],?_⟩;cases c<;>simp[nrmV,nrmL,dU]
  omega
 obtain⟨ss,rfl⟩:=hc';by_cases hagg:∃cs,a=.agg cs
 ·obtain⟨cs,rfl⟩:=hagg;simp only[pW,avu]at he;obtain⟨ds,e1,rfl⟩:=he;refine⟨fun hm=>by grind[nrmV,ur],fun _ A2 ρ2 h2 hs=>?_⟩;obtain⟨us,rfl,q1,q2,q3⟩:=hv.agg_inv;obtain⟨l1,l2⟩:=KS r cs ds e1;refine .agg _ us (by grind[Bs]) q2 fun i c u hc hu=>?_;obtain⟨c0,h1,h3⟩:=Ds ss ds i c hc;have hi:i<cs.length:=γ
  have hci:cs[i]?=some cs[i]:=γ
  obtain⟨d1,d2⟩:=l2 i cs[i] c0 u hci h1 (q3 i _ u hci hu) (q2 i u hu);have hrd:=d2 A2 hs.mono fun id sub hii hl=>hs.ids id (by
   simp only[bZ,List.mem_flatMap];exact⟨cs[i],by simp,by rw[hii];simp⟩) (TB e1 i _ id hci hii) sub hl
  rcases h3 with rfl| ⟨s,rfl⟩
  ·exact .dat hrd
  ·exact .dat (hrd.nrmL s)
 ·have hl:pW h' a=lB h' a:=by cases a<;>first|rfl|exact absurd ⟨_,rfl⟩ hagg
  rw[hl]at he;have hb:∀cs,b≠ .agg cs:=by
   rcases CP r hv he with⟨id,k,rows,h1,_⟩| ⟨id,cs',h1,_⟩| ⟨h1,id,k,i,j,h2,_⟩| ⟨h1,hd⟩| ⟨hd,hr⟩
   all_goals grind[aD]
  grind[abt,ad7]
theorem QC:∀ {zas bs},rk h' zas=some bs->bs.length=zas.length/\∀ (j:Nat) a b,zas[j]?=some a->bs[j]?=some b->pW h' a=some b
 |[],bs,he=>by grind[rk,Option.some.injEq]
 |a::zas,bs,he=>by
  simp only[rk,avq]at he;obtain⟨b,e1,q,e2,e3⟩:=he;cases e3;obtain⟨g1,g2⟩:=QC e2;refine⟨by simp[g1],fun j a' b' h1 h2=>?_⟩;cases j with
  |zero=>simp at h1 h2;subst h1 h2;exact e1
  |succ j=>exact g2 j a' b' (by simpa using h1) (by simpa using h2)
def SE(us:Array Value):Value:=if h:us.size=1 then us[0]else .tuple us
theorem abu{l}(hl:∀c∈l,∀vs,c≠ .tup vs)(n)(h):mat n h (tC l)=(tC (cV n h l).1,(cV n h l).2):=by
 match l with
 |[]=>rfl
 |[c]=>
  have:=hl c σ;cases c<;>first|rfl|exact absurd rfl (this _)
 |a::b::l=>rfl
end
section
variable {w:World} {X:Nat→Prop} {ρ:dZ} {h':ac}
theorem W8{L}{g}{h2}(em:Emb L (fun i=>i) g h' h2){b}(ho:sf h2 (fun i s=>ρ (g i) s) b):sf h' ρ b:=by
 obtain⟨i,s,h1,h3⟩:=ho;exact⟨g i,s,(em.live h1).1,h3⟩
theorem ad8{ss}{b}{vs}(h:nrmV ss b=.tup vs):∃vs',b=.tup vs':=by
 cases b with
 |tup vs'=>grind
 |agg cs=>grind[nrmV]
 |_=>
  simp only[nrmV]at h;generalize ss.headD (.o 0 [])=s at h;obtain⟨k,cs⟩:=s;cases k<;>simp[nrmL]at h
theorem Zz(r:Rel w X ρ h'){a}{u}{vs}(hv:RV w (aJ w X h' ρ) ρ h' a u)(he:pW h' a=some (.tup vs)):False:=by
 by_cases hagg:∃cs,a=.agg cs
 ·obtain⟨cs,rfl⟩:=hagg
  simp_all[pW]
 ·have hl:pW h' a=lB h' a:=by cases a<;>first|rfl|exact absurd ⟨_,rfl⟩ hagg
  rw[hl]at he;rcases CP r hv he with⟨id,k,rows,h1,_⟩| ⟨id,cs',h1,_⟩| ⟨h1,id,k,i,j,h2,_⟩| ⟨h1,hd⟩| ⟨hd,hr⟩
  all_goals grind[aD]
theorem abv(r:Rel w X ρ h'){n0 n}(hn0:n0<=1000)(hn:2000<=n)(hpass:∀id,bj id=true->h' id≠ .dead->(cF n0).contains id=true){zas}{us}(hs:us.size=zas.length)
  (hv:∀ (i:Nat) c u,zas[i]?=some c->us[i]?=some u->RV w (aJ w X h' ρ) ρ h' c u) {rs} {res} {obs} (hz:pX rs n0 h' zas=some (res,obs)):
  ∃ρ2,Rel w X ρ2 (mat n (ao obs) res).2/\(∀nm,Far nm w ρ h' w ρ2 (mat n (ao obs) res).2)/\RV w (aJ w X (mat n (ao obs) res).2 ρ2) ρ2 (mat n (ao obs) res).2 (mat n (ao obs) res).1 (SE us):=by
 unfold pX at hz;split at hz
 ·rename_i hc;simp only[avv]at hc;obtain⟨hc1,hc2⟩:=hc;simp only[avu]at hz;obtain⟨bs,e1,e2⟩:=hz;cases e2;obtain⟨l1,l2⟩:=QC e1;have hLm:∀i,(cF n0).contains i=true->bj i=true:=fun i hi=>by
   have:=Ak.1 hi;simp only[bj,decide_eq_true_eq];omega
  have hL:∀i,2000<=i->(cF n0).contains i=false:=fun i hi=>by
   grind[cF]
  have hcl:(bm rs bs).length=zas.length:=by rw[yI,l1]
  have out:∀ (j:Nat) (a c:AV) (u:Value),zas[j]?=some a->(bm rs bs)[j]?=some c->us[j]?=some u->ad6 w X ρ h' (cF n0) a c u:=fun j a c u h1 h3 h4=>by
   grind[xX,agR]
  have uget:∀ (j:Nat) (a:AV),zas[j]?=some a->∃u,us[j]?=some u:=fun j a h1=>by
   have:j<us.size:=γ
   simp_all
  have em:=Emb.base (h':=h') hc2;have hlow:∀i,ao ((cF n0).map h') i≠ .dead->(cF n0).contains i=true:=fun i hi=>by
   rw[sR]at hi;split at hi
   ·rename_i h1;exact Ak.2 h1
   grind
  obtain⟨gm,m1,m2,m3,m4⟩:=GQ hL zas (bm rs bs) n (ao ((cF n0).map h')) (fun i=>i) hn hcl.symm (fun j a c h1 h3 h4=>by
    obtain⟨u,hu⟩:=uget j a h1;exact(out j a c u h1 h3 hu).1 h4) hc1 em (fun i hi=>by
    rw[sR,if_neg ω]) (fun i hi id _ hp e=>by
    grind)
  have notup:∀c∈bm rs bs,∀vs,c≠ .tup vs:=by
   rintro c hcm vs rfl
   obtain⟨j,hj⟩:=List.getElem?_of_mem hcm;have hja:j<zas.length:=γ
   obtain⟨u,hu⟩:=uget j zas[j] γ;obtain⟨b,h5,h6⟩:=xX rs bs j _ hj;have he:=l2 j zas[j] b γ h5;grind[ad8,Zz]
  rw[abu notup];simp only;have hfar:∀b,aJ w X h' ρ b->aJ w X (cV n (ao ((cF n0).map h')) (bm rs bs)).2 (fun i s=>ρ (gm i) s) b:=fun b hb=>⟨hb.1,hb.2.1,fun ho=>hb.2.2 (W8 m1 ho)⟩;have hps:∀id,bj id=true->(cV n (ao ((cF n0).map h')) (bm rs bs)).2 id=ao ((cF n0).map h') id/\gm id=id:=fun id hp=>m2 id (by
   simp only[bj,decide_eq_true_eq]at hp;omega)
  have hpd:∀id,bj id=true->h' id≠ .dead->(cV n (ao ((cF n0).map h')) (bm rs bs)).2 id=h' id:=fun id hp hd=>by
   rw[(hps id hp).1,sR,if_pos (Ak.1 (hpass id hp hd))]
  have rel2:=Rel.emb m1 r r.xl (fun i s hl=>r.nx _ _ (m1.live hl).1) hfar;refine⟨fun i s=>ρ (gm i) s,rel2,fun nm=>⟨rfl,rfl,rfl,avt _,fun _ _ _=>rfl,fun b ho=>.inl (W8 m1 ho),fun id hp hd=>?_,fun _ id p hp hd hpr=>?_⟩,?_⟩
  ·grind[sR]
  ·have h1:h' id≠ .dead:=by obtain⟨_,_,_,e,_⟩:=hpr;grind
   grind[fL]
  ·
   have seen:∀ (j:Nat) (a c:AV),zas[j]?=some a->(bm rs bs)[j]?=some c->ur c=false->
     Seen w X ρ h' a (aJ w X (cV n (ao ((cF n0).map h')) (bm rs bs)).2 (fun i s=>ρ (gm i) s)) (fun i s=>ρ (gm i) s) (cV n (ao ((cF n0).map h')) (bm rs bs)).2:=by
    intro j a c h1 h3 h4;refine⟨hfar,fun id hid hp sub hl=>⟨?_,fun hx=>r.nx _ _ hl (.inl hx),fun⟨i,s,ho1,ho2⟩=>?_⟩,fun id hp hd=>⟨by grind,by grind⟩⟩
    ·cases sub with
     |none=>
      have ho:=r.ob id;cases e:h' id with
      |bx cs=>rw[e]at ho;obtain⟨us,t,g1,_⟩:=ho;grind
      |ar k rows=>rw[e]at ho;obtain⟨us,t,g1,_⟩:=ho;grind
      |_=>simp[live,e]at hl
     |some p=>
      obtain⟨cs,k,rows,e,ec⟩:=hl;have ho:=r.ob id;rw[e]at ho;obtain⟨us,t,g1,g2,g3,g4⟩:=ho;obtain⟨u,_,a',cap,us',t',_,_,_,q4,_⟩:=g4 p _ ec;grind
    ·obtain⟨hl1,hdd⟩:=m1.live ho1;obtain⟨e1,_⟩:=r.inj _ _ _ _ hl1 hl ho2;rcases m3 i hdd with⟨q1,q2⟩| ⟨j',a',c',q1,q2,q3,q4⟩
     ·grind
     ·rw[e1]at q4;have hne:j'≠j:=by
       grind
      exact two_names zas j' j a' a id hne q1 h1 γ hid hp hc1
   have vals:∀ (j:Nat) (z:AV) (u:Value),(cV n (ao ((cF n0).map h')) (bm rs bs)).1[j]?=some z->us[j]?=some u->
     RV w (aJ w X (cV n (ao ((cF n0).map h')) (bm rs bs)).2 (fun i s=>ρ (gm i) s)) (fun i s=>ρ (gm i) s) (cV n (ao ((cF n0).map h')) (bm rs bs)).2 z u:=by
    intro j z u hz hu;obtain⟨c,h1,rfl⟩:=TA _ _ _ _ _ hz;have hja:j<zas.length:=γ
    have ha:zas[j]?=some zas[j]:=γ
    have o:=out j zas[j] c u ha h1 hu;cases hm:ur c with
    |false=>
     rw[QA hm];exact o.2 hm _ _ _ (seen j zas[j] c ha h1 hm)
    |true=>
     obtain⟨id,i1,i2,i3,⟨k,rows,rfl,i4,i5⟩| ⟨xs,rfl,i4,i5⟩⟩:=o.1 hm
     ·obtain⟨q1,q2,q3⟩:=m4 j zas[j] _ id ha h1 hm i1;have hva:=hv j zas[j] u ha hu;rw[i4]at hva;obtain⟨a',cap,rfl,hp,hnn,hb,hab⟩:=hva.rsl_inv;simp only[dO];exact .rsl (n+j) none k 0 rows.length cap a' (by show _≠_;grind) hnn γ (by simp only[q1];exact hab)
     ·obtain⟨q1,q2,q3⟩:=m4 j zas[j] _ id ha h1 hm i1;have hva:=hv j zas[j] u ha hu;rw[i4]at hva;obtain⟨rfl,hp⟩:=hva.ref_inv;simp only[dO];have:=RV.ref (w:=w) (A:=aJ w X (cV n (ao ((cF n0).map h')) (bm rs bs)).2 (fun i s=>ρ (gm i) s)) (ρ:=fun i s=>ρ (gm i) s) (h:=(cV n (ao ((cF n0).map h')) (bm rs bs)).2) (n+j) none 0 0 0 (by show _≠_;rw[q2];exact q3);simp only[q1]at this;exact this
   have hzl:(cV n (ao ((cF n0).map h')) (bm rs bs)).1.length=us.size:=by rw[KX,hcl,hs]
   unfold SE;split
   ·rename_i h1
    match hq:(cV n (ao ((cF n0).map h')) (bm rs bs)).1 with
    |[]=>rw[hq]at hzl;simp at hzl;omega
    |[z]=>exact vals 0 z us[0] (by rw[hq];rfl) (by simp[h1])
    |a::b::l=>rw[hq]at hzl;simp at hzl;omega
   ·rename_i h1
    match hq:(cV n (ao ((cF n0).map h')) (bm rs bs)).1 with
    |[]=>exact .tup [] us (by rw[hq]at hzl;simpa using hzl.symm) fun i c u hc=>by simp at hc
    |[z]=>rw[hq]at hzl;simp at hzl;omega
    |a::b::l=>
     rw[hq]at hzl;exact .tup _ us hzl.symm fun i c u hc hu=>vals i c u (by rw[hq];exact hc) hu
 grind
where
 two_names:∀ (zas:List AV) (i j:Nat) (a b:AV) (id:Nat),i≠j->zas[i]?=some a->zas[j]?=some b->id∈bZ a->id∈bZ b->bj id=false->jq ((zas.flatMap bZ).filter fun i=>!bj i)=true->False
 |[],i,j,a,b,id,_,h1,_,_,_,_,_=>by simp at h1
 |c::zas,i,j,a,b,id,hne,h1,h2,h3,h4,hp,hnd=>by
  simp only[List.flatMap_cons,List.filter_append]at hnd;obtain⟨nd2,nd3⟩:=M1 hnd;have mem:∀ (j:Nat) (b:AV),zas[j]?=some b->id∈bZ b->id∈ (zas.flatMap bZ).filter fun i=>!bj i:=fun j b hb hi=>
   List.mem_filter.2 ⟨List.mem_flatMap.2 ⟨b,List.mem_of_getElem? hb,hi⟩,by grind⟩
  cases i with
  |zero=>
   simp at h1;subst h1;cases j with
   |zero=>exact hne rfl
   |succ j=>exact nd3 id (List.mem_filter.2 ⟨h3,by simp[hp]⟩) (mem j b (by simpa using h2) h4)
  |succ i=>
   cases j with
   |zero=>
    simp at h2;subst h2;exact nd3 id (List.mem_filter.2 ⟨h4,by simp[hp]⟩) (mem i a (by simpa using h1) h3)
   |succ j=>exact two_names zas i j a b id ω γ (by simpa using h2) h3 h4 hp nd2
end
structure Text (P:Program) (f:FuncId) (fd:FD):Prop where
 text: ∃fn code N,P.funcs[f]?=some fn/\fn.body=some code/\fn.ntmps=N/\N<=1000/\ie P N code fd.body=some fd.body/\GF P fn.results.toList=some fd.res/\ (fn.name== "runtime.NumGoroutine")=false
theorem TC(fn:Func)(tmps):fn.results.mapM (BJ tmps)=(fun l=>l.toArray)<$>fn.results.toList.mapM (BJ tmps):=by
 rw[Array.mapM_eq_mapM_toList]
theorem Wr{P}{fn}{tmps}{w}{us}(h:(fn.results.toList.mapM (BJ tmps)).run P w=.ok us w):(results fn tmps).run P w=.ok (SE us.toArray) w:=by
 have h1:(fn.results.mapM (BJ tmps)).run P w=.ok us.toArray w:=by
  simp_all[TC,Sem.run_map]
 have h2:results fn tmps=(fn.results.mapM (BJ tmps)>>=fun vs=>pure (SE vs)):=by
  congr 1
 simp_all
section
variable {P:Program} {I:Inv} {call:ic} {md:Mode}
theorem agS(hm:P.follows .mixedOrders=true)(hcall:mr P I call md){f}{fd}{lf}(ht:Text P f fd):pG P I md.nm f (Ii call md lf fd):=by
 obtain⟨fn,code,N,t1,t2,t3,t4,t5,t6,t7⟩:=ht.text;intro args obs obs' res w X ρ vals n hz hn hi r hsz hv;unfold Ii at hz;split at hz
 ·rename_i hc;obtain⟨c1,c2⟩:=hc;have he:(callFunc f vals).run P w=.ok (.enter f vals) w:=by
   simp_all[callFunc,Sem.run_bind,Result.andThen]
  unfold Enters;rw[he];refine calls_of_wp t1 t2 ?_;have hget:∀i,(vals++Array.replicate (fn.ntmps-vals.size) undef).getD i undef=vals.getD i undef:=fun i=>by
   simp only[Array.getD_eq_getD_getElem?,Array.getElem?_append];grind
  have ok:Ok I N w X ρ (ao obs) (te args) {tmps:=vals++Array.replicate (fn.ntmps-vals.size) undef,defers:=[]}:=by
   refine⟨r,fun i=>?_,by grind,rfl,hi⟩;simp only[hget,te];by_cases h:i<args.length
   ·rw[Array.getD_eq_getD_getElem?];grind
   ·rw[List.getElem?_eq_none ω];exact .anyv _
  have fin:∀ {t:St} {a} {w'} {ρ'},Ok I N w' X ρ' t.h t.s a->Far md.nm w ρ (ao obs) w' ρ' t.h->Dj md.nm fd.rs fd.res obs.length t.s t.h=some (res,obs')->
    a.defers=[]/\∃v,(results fn a.tmps).run P w'=.ok v w'/\∃ρ'',Rel w' X ρ'' (mat n (ao obs') res).2/\Far md.nm w ρ (ao obs) w' ρ'' (mat n (ao obs') res).2/\
     RV w' (aJ w' X (mat n (ao obs') res).2 ρ'') ρ'' (mat n (ao obs') res).2 (mat n (ao obs') res).1 v:=by
   intro t a w' ρ' ok' far hf;refine⟨ok'.defers,?_⟩;simp only[Dj,avq]at hf;obtain⟨⟨vs,h',ks⟩,e1,e2⟩:=hf;split at e2
   ·rename_i hnm;obtain⟨us,g1,g2,g3,g4,g5⟩:=KR (a:=a) fn.results.toList fd.res t6 ok'.rel ok'.rs e1;refine⟨_,Wr g1,?_⟩;have far2:=far.trans (g4.far hnm);obtain⟨ρ2,q1,q2,q3⟩:=abv (us:=us.toArray) g3 c2 hn (fun id hp hd=>by
     have:=(far2.stay id hp hd).1;unfold ao at this;refine Ak.2 ?_;grind) ω (fun i c u hc hu=>g5 i c u hc γ) e2
    exact⟨ρ2,q1,far2.trans (q2 md.nm),q3⟩
   grind
  cases hx:cI call md lf fd.body (te args) (ao obs)with
  |none=>rw[hx]at hz;cases hz
  |some q=>
   obtain⟨e,t⟩:=q;rw[hx]at hz;refine Zt (N:=N) hcall t4 (Zy hm hcall t4) lf fd.body code t5 hx ok fun a' w' ρ' ok' far=>?_;cases e with
   |normal=>
    obtain⟨d1,v,d2,d3⟩:=fin ok' far hz;exact⟨d1,v,d2,d3⟩
   |ret=>
    obtain⟨d1,v,d2,d3⟩:=fin ok' far hz;exact⟨d1,v,d2,d3⟩
   |exit id=>cases hz
 grind
end
section
variable {w:World} {X:Nat→Prop} {ρ:dZ} {h h':ac}
theorem QD{a c}{ks}(hz:fQ h a=some (c,h',ks)):∀p∈ks,p.2=true:=by
 unfold fQ at hz;split at hz
 ·unfold mN at hz;grind
 ·unfold Ic adP at hz;grind
 grind
theorem M2:∀ {l cs} {h h'} {ks},i8 h l=some (cs,h',ks)->∀p∈ks,p.2=true
 |[],cs,h,h',ks,hz=>by grind[i8,Option.some.injEq,Prod.mk.injEq]
 |a::l,cs,h,h',ks,hz=>by
  simp only[i8,avq]at hz;obtain⟨⟨c,h1,k1⟩,e1,⟨q,h2,k2⟩,e2,e3⟩:=hz;cases e3;intro p hp;rcases List.mem_append.1 hp with hp|hp
  ·exact QD e1 p hp
  ·exact M2 e2 p hp
theorem ad9{a c}{ks}(hz:vT h a=some (c,h',ks)):∀p∈ks,p.2=true:=by
 unfold vT at hz;split at hz
 ·simp only[avq]at hz;obtain⟨⟨q,h1,k1⟩,e1,e2⟩:=hz;cases e2;exact M2 e1
 ·exact QD hz
theorem abw{ks:K}(hk:∀p∈ks,p.2=true)(id):jj ks id none=false:=by
 grind[jj,List.any_eq_false]
theorem RV.clo{w'}{A A'}{ρ'}{l}{c}{u}(hv:RV w A ρ h c u)(hA:∀b,A b->A' b/\w'.heap[b]?=w.heap[b]?)(hk:∀id,cH h id none->cH h' id none/\ρ' id none=ρ id none)(hm:aX l c=true):RV w' A' ρ' h' c u:=by
 have leaf:∀ {c} {u},RV w A ρ h c u->bo l c=true->RV w' A' ρ' h' c u:=by
  intro c u hv hm;cases hv with
  |anyv u=>exact .anyv u
  |und=>exact .und
  |dat hd=>exact .dat (hd.mono hA)
  |ref id sub k i j hp=>
   cases sub with
   |some p=>simp[bo]at hm
   |none=>
    obtain⟨h1,h2⟩:=hk id hp;rw[←h2];exact .ref id none k i j h1
  |rsl id sub k lo n cap a hp hn hb ha=>
   cases sub with
   |some p=>simp[bo]at hm
   |none=>
    obtain⟨h1,h2⟩:=hk id hp;exact .rsl id none k lo n cap a h1 hn γ γ
  |rsc id k lo n cap a hp hn hb ha=>simp[bo]at hm
  |ipt cs ad vals hA' hs hv hl hr=>
   exact .ipt cs ad vals (hA _ hA').1 hs (fun j c hc=>by rw[oC (w:=w) (w':=w') (by rw[oA];grind)];grind) hl (fun j c hc=>(hr j c hc).mono hA)
  |agg cs us hs h1 hr=>simp[bo]at hm
  |tup vs us hs hr=>simp[bo]at hm
  |fn f x y us ts hs ht hx hy=>
   simp[bo]at hm;obtain⟨rfl,rfl⟩:=hm;exact .fn f [] [] us ts hs ht (fun i c u hc=>by grind) (fun i c u hc=>by grind)
 cases c with
 |agg cs=>
  simp only[aX,avK]at hm;obtain⟨us,rfl,hs,h1,hr⟩:=hv.agg_inv;exact .agg cs us hs h1 fun i c u hc hu=>leaf (hr i c u hc hu) (hm c (List.mem_of_getElem? hc))
 |fn f x y=>
  simp only[aX,avv,avK]at hm;obtain⟨us,ts,rfl,hs,ht,hx,hy⟩:=hv.fn_inv;exact .fn f x y us ts hs ht (fun i c u hc hu=>leaf (hx i c u hc hu) (hm.1 c (List.mem_of_getElem? hc))) (fun i c u hc hu=>leaf (hy i c u hc hu) (hm.2 c (List.mem_of_getElem? hc)))
 |_=>exact leaf hv hm
structure Way (w:World) (X:Nat->Prop) (ρ:dZ) (h0 h:ac):Prop where
 evo:∃ks:K,Evo w ρ h0 w ρ h ks/\∀p∈ks,p.2=true
theorem Way.refl:Way w X ρ h h:=⟨[],.refl _ _ _,by simp⟩
theorem Way.trans{h1 h2}(a:Way w X ρ h h1)(b:Way w X ρ h1 h2):Way w X ρ h h2:=by
 obtain⟨k1,e1,f1⟩:=a.evo;obtain⟨k2,e2,f2⟩:=b.evo;exact⟨k1++k2,e1.trans e2,fun p hp=>by grind⟩
theorem Way.al{h0}(a:Way w X ρ h0 h):∀b,aJ w X h0 ρ b->aJ w X h ρ b:=by
 obtain⟨k1,e1,_⟩:=a.evo;exact fun b hb=>(e1.al hb).1
theorem Ws{h0}{m}{a z}{u}{ks}(r:Rel w X ρ h)(wy:Way w X ρ h0 h)(hv:RV w (aJ w X h0 ρ) ρ h0 a u)(hz:dE h m a=some (z,h',ks)):
  Rel w X ρ h'/\Evo w ρ h w ρ h' ks/\(∀p∈ks,p.2=true)/\∃h1,Way w X ρ h1 h'/\RV w (aJ w X h1 ρ) ρ h1 z u:=by
 have same:some (a,h,[])=some (z,h',ks)->Rel w X ρ h'/\Evo w ρ h w ρ h' ks/\(∀p∈ks,p.2=true)/\∃h1,Way w X ρ h1 h'/\RV w (aJ w X h1 ρ) ρ h1 z u:=by
  intro e;cases e;exact⟨r,.refl _ _ _,by simp,h0,wy,hv⟩
 have data:vT h a=some (z,h',ks)->((∀cs,a≠ .agg cs)->u.oneCell'=true)->Rel w X ρ h'/\Evo w ρ h w ρ h' ks/\(∀p∈ks,p.2=true)/\∃h1,Way w X ρ h1 h'/\RV w (aJ w X h1 ρ) ρ h1 z u:=by
  intro hz h1;obtain⟨g1,g2,g3,g4⟩:=abb r hv wy.al hz h1;exact⟨g1,g2,ad9 hz,h',.refl,.dat g3⟩
 cases a with
 |any=>
  grind[dE,vT,fQ,aD]
 |rsl id sub k lo n=>
  obtain⟨ad,cap,rfl,_⟩:=hv.rsl_inv;cases sub with
  |none=>
   simp only[dE]at hz;split at hz
   ·exact data hz fun _=>rfl
   grind
  |some p=>exact data hz fun _=>rfl
 |ref id sub k i j=>
  cases sub with
  |none=>exact same hz
  |some p=>grind[dE,vT,fQ,aD]
 |ipt cs=>exact same hz
 |fn f x y=>exact same hz
 |agg cs=>exact data hz fun hh=>absurd rfl (hh cs)
 |v x=>exact data hz fun _=>by obtain⟨rfl,hp⟩:=hv.v_inv;exact GG hp
 |emp=>
  refine data hz fun _=>?_;cases hv with
  |dat hd=>exact hd.one rfl
 |sl k rows=>
  refine data hz fun _=>?_;cases hv with
  |dat hd=>exact hd.one rfl
 |_=>simp[dE,vT,fQ,aD]at hz
theorem IC{h0}:∀l ms (vals:List Value) {h h'} {zs} {ks},Rel w X ρ h->Way w X ρ h0 h->vals.length=l.length->
  (∀ (i:Nat) c u,l[i]?=some c->vals[i]?=some u->RV w (aJ w X h0 ρ) ρ h0 c u)->bO h ms l=some (zs,h',ks)->
  Rel w X ρ h'/\Evo w ρ h w ρ h' ks/\(∀p∈ks,p.2=true)/\zs.length=l.length/\∀ (i:Nat) z u,zs[i]?=some z->vals[i]?=some u->∃h1,Way w X ρ h1 h'/\RV w (aJ w X h1 ρ) ρ h1 z u
 |[],ms,vals,h,h',zs,ks,r,wy,hl,hv,hz=>by
  obtain⟨rfl,rfl,rfl⟩:=hz;exact⟨r,.refl _ _ _,by simp,rfl,fun i z u h1=>by grind⟩
 |a::l,ms,vals,h,h',zs,ks,r,wy,hl,hv,hz=>by
  simp only[bO,avq]at hz;obtain⟨⟨z,h1,k1⟩,e1,⟨q,h2,k2⟩,e2,e3⟩:=hz;cases e3;cases vals with
  |nil=>grind
  |cons u vals=>
   obtain⟨g1,g2,g3,h3,g4,g5⟩:=Ws r wy (hv 0 a u rfl rfl) e1;obtain⟨f1,f2,f3,f4,f5⟩:=IC l ms.tail vals g1 (wy.trans ⟨k1,g2,g3⟩) γ (fun i c u' h4 h5=>hv (i+1) c u' γ γ) e2;refine⟨f1,g2.trans f2,fun p hp=>?_,by grind,fun i z' u' h4 h5=>?_⟩
   ·grind
   ·cases i with
    |zero=>
     simp at h4 h5;subst h4 h5;exact⟨h3,g4.trans ⟨k2,f2,f3⟩,g5⟩
    |succ i=>grind
theorem abx{L}{h1}{z}{u}(wy:Way w X ρ h1 h)(hv:RV w (aJ w X h1 ρ) ρ h1 z u)(hc:aX L z=true):RV w (aJ w X h ρ) ρ h z u:=by
 obtain⟨ks,e,f⟩:=wy.evo;exact hv.clo (fun b hb=>e.al hb) (fun id hp=>e.keep id none hp (abw f id)) hc
theorem ID(r:Rel w X ρ h){b}(ho:sf h ρ b):b<w.heap.size:=by
 obtain⟨id,sub,hl,rfl⟩:=ho;cases sub with
 |none=>
  have ho:=r.ob id;cases e:h id with
  |bx cs=>rw[e]at ho;obtain⟨us,t,g1,_⟩:=ho;grind
  |ar k rows=>rw[e]at ho;obtain⟨us,t,g1,_⟩:=ho;grind
  |_=>simp[live,e]at hl
 |some p=>
  obtain⟨cs,k,rows,e,ec⟩:=hl;have ho:=r.ob id;rw[e]at ho;obtain⟨us,t,g1,g2,g3,g4⟩:=ho;obtain⟨u,_,a',cap,us',t',_,_,_,q4,_⟩:=g4 p _ ec;grind
section
variable {ids:List Nat}
theorem Du{a}(ha:a∈ids):1000<=aW ids a/\aW ids a<1000+ids.length:=by
 grind[aW,List.idxOf_lt_length_of_mem]
theorem BK(hl:ids.length<=1000){a}(ha:a∈ids):dK ids (aW ids a)=a:=by
 have:=Du ha;unfold dK;rw[if_pos ω]
 simp_all[aW,List.idxOf_lt_length_of_mem]
theorem Dv(hl:ids.length<=1000)(hnd:ids.Nodup){i}(h1:1000<=i)(h2:i<1000+ids.length):dK ids i∈ids/\aW ids (dK ids i)=i:=by
 have hj:i-1000<ids.length:=ω
 have e:dK ids i=ids[i-1000]:=by
  unfold dK;grind
 grind[aW]
theorem M3{os}{j}{o}(h:os[j]?=some o):ao os (1000+j)=o:=by
 simp_all[ao,if_pos]
theorem yJ{os}{i}(h:i<1000\/1000+os.length<=i):ao os i=.dead:=by
 grind[ao]
theorem Emb.enter(hl:ids.length<=1000)(hnd:ids.Nodup)(hcl:∀a∈ids,az ids (h a)=true):Emb ids (aW ids) (dK ids) h (ao (ids.map fun a=>dG (aW ids) (h a))):=by
 have at_:∀a∈ids,ao (ids.map fun a=>dG (aW ids) (h a)) (aW ids a)=dG (aW ids) (h a):=fun a ha=>by
  refine M3 ?_;grind
 have low:∀i,ao (ids.map fun a=>dG (aW ids) (h a)) i≠ .dead->1000<=i/\i<1000+ids.length:=fun i hi=>by
  by_cases h1:1000<=i/\i<1000+ids.length
  ·omega
  ·exact absurd (yJ γ) hi
 refine⟨fun a ha=>?_,fun i hi=>?_,fun i j hi hj e=>?_⟩
 ·have ha':a∈ids:=γ
  exact⟨BK hl ha',at_ a ha'⟩
 ·obtain⟨h1,h2⟩:=low i hi;obtain⟨h3,h4⟩:=Dv hl hnd h1 h2;grind
 ·obtain⟨h1,h2⟩:=low i hi;obtain⟨h3,h4⟩:=low j hj;rw[← (Dv hl hnd h1 h2).2,← (Dv hl hnd h3 h4).2,e]
end
end
theorem QF{gv}{id}:∀ {h},(∀p∈gv,p.1≠id)->fG h gv id=h id:=by
 induction gv with
 |nil=>intro h _;rfl
 |cons p l ih=>
  simp_all[fG,aN,Ne.symm]
theorem TD{gv}{id}:∀ {h},((∃p∈gv,p.1=id)\/h id=.dead)->fG h gv id=.dead:=by
 induction gv with
 |nil=>
  intro h hi;rcases hi with⟨p,hp,_⟩|hi
  ·grind
  ·exact hi
 |cons p l ih=>
  simp only[fG];grind[aA,absurd,upd]
theorem TE{ids}:∀ {l} {os} {g} {j a:Nat} {o},l.Nodup->l[j]?=some a->os[j]?=some o->dS g ids l os a=dG (dK ids) o
 |[],os,g,j,a,o,_,h1,_=>by grind
 |b::l,[],g,j,a,o,_,_,h2=>by grind
 |b::l,o'::os,g,j,a,o,hnd,h1,h2=>by
  obtain⟨n1,n2⟩:=List.nodup_cons.1 hnd;simp only[dS];cases j with
  |zero=>
   simp at h1 h2;subst h1 h2;rw[xV n1,aA]
  |succ j=>exact TE n2 (by simpa using h1) (by simpa using h2)
theorem M4{h}:∀ {m n},bY h n m=true->∀i,n<=i->i<n+m->h i=.dead
 |0,n,_,i,h1,h2=>by omega
 |m+1,n,hf,i,h1,h2=>by
  simp only[bY,avv]at hf;by_cases e:i=n
  ·grind[bL]
  ·exact M4 hf.2 i ω ω
theorem Dw{h}{gv}:∀ {l} {os},cO h gv l os=true->∀ (j a:Nat) o,l[j]?=some a->os[j]?=some o->(bf (h a)=true->bf o=true)/\((∀p∈gv,p.1≠a)->o≠ .dead)
 |[],os,_,j,a,o,h1,_=>by grind
 |b::l,[],_,j,a,o,_,h2=>by grind
 |b::l,o'::os,hs,j,a,o,h1,h2=>by
  simp only[cO,avv,Bool.or_eq_true,awu]at hs;obtain⟨⟨s1,s2⟩,s3⟩:=hs;cases j with
  |zero=>
   refine⟨fun hb=>?_,fun hn e=>?_⟩
   ·grind
   ·grind[bL]
  |succ j=>exact Dw s3 j a o (by simpa using h1) (by simpa using h2)
theorem Dx{l l'}{c}(hl:∀i,l.contains i=true->l'.contains i=true)(hc:bo l c=true):bo l' c=true:=by
 cases c<;>simp only[bo]at hc⊢ <;>first|exact hc|skip
 all_goals grind
theorem IE{l l'}{c}(hl:∀i,l.contains i=true->l'.contains i=true)(hc:aX l c=true):aX l' c=true:=by
 cases c with
 |agg cs=>
  grind[aX,avK,Dx]
 |fn f x y=>
  simp only[aX,avv,avK]at hc⊢;grind[Dx]
 |_=>
  simp only[aX]at hc⊢;exact Dx hl hc
theorem TF{l l'}{o}(hl:∀i,l.contains i=true->l'.contains i=true)(hc:az l o=true):az l' o=true:=by
 cases o<;>simp only[az]at hc⊢;simp only[avK,jI,Bool.or_eq_true]at hc⊢;grind[IE]
theorem TG{f}{c}(hd:lY c=true):dB f c=c:=by
 cases c<;>simp[lY,bB,aD]at hd<;>first|rfl|skip
 obtain⟨rfl,rfl⟩:=hd;rfl
theorem TH{l}{n}{g}{c}(hr:fE l c=true){i}(h:(dO n g c).2 i≠g i):(∃k rows,(dO n g c).2 i=.ar k rows)\/∃cs,(dO n g c).2 i=.bx cs/\cs.all lY=true:=by
 cases c<;>simp only[dO]at h⊢ <;>first|exact absurd rfl h|skip
 case osl k rows=>
  simp_all[upd,if_neg,absurd]
 case obx cs=>
  unfold upd at h⊢;split
  ·exact .inr ⟨_,rfl,hr⟩
  grind
theorem TI{l}{i}:∀ {vs} {n} {g},vs.all (fE l)=true->(cV n g vs).2 i≠g i->(∃k rows,(cV n g vs).2 i=.ar k rows)\/∃cs,(cV n g vs).2 i=.bx cs/\cs.all lY=true
 |[],n,g,_,h=>absurd rfl h
 |c::vs,n,g,hr,h=>by
  simp only[avQ,avv]at hr;simp only[cV]at h⊢;by_cases e:(cV (n+1) (dO n g c).2 vs).2 i=(dO n g c).2 i
  ·rw[e]at h⊢;exact TH hr.1 h
  ·exact TI hr.2 e
theorem agT{l}{n}{g}{c}(hr:jl l c=true){i}(h:(mat n g c).2 i≠g i):(∃k rows,(mat n g c).2 i=.ar k rows)\/∃cs,(mat n g c).2 i=.bx cs/\cs.all lY=true:=by
 cases c<;>simp only[mat]at h⊢ <;>simp only[jl]at hr<;>first|exact TI hr h|exact TH hr h
theorem K0{l l'}{n}{g}{c}(hr:fE l c=true)(hl:∀i,l.contains i=true->l'.contains i=true)(hn:l'.contains n=true):aX l' (dO n g c).1=true:=by
 cases c<;>simp only[dO]<;>simp only[fE]at hr<;>first|exact IE hl hr| (simp only[aX,bo,hn];rfl)
theorem K1{l l'}(hl:∀i,l.contains i=true->l'.contains i=true):∀ {vs} {n} {g},vs.all (fE l)=true->(∀i,n<=i->i<n+vs.length->l'.contains i=true)->∀z∈ (cV n g vs).1,aX l' z=true
 |[],n,g,_,_,z,hz=>by grind[cV]
 |c::vs,n,g,hr,hn,z,hz=>by
  simp only[avQ,avv]at hr;simp only[cV,List.mem_cons]at hz;rcases hz with rfl|hz
  ·exact K0 hr.1 hl (hn n (avt _) σ)
  ·exact K1 hl hr.2 (fun i h1 h2=>hn i ω (by simp at h2⊢;omega)) z hz
def ZA(l:List Nat):AV->Prop
 | .tup vs=>∀c∈vs,aX l c=true
 |c=>aX l c=true
theorem ZB{l l'}{n}{g}{c}(hr:fE l c=true)(hl:∀i,l.contains i=true->l'.contains i=true)(hn:l'.contains n=true):ZA l' (dO n g c).1:=by
 have:=K0 (n:=n) (g:=g) hr hl hn;cases hq:(dO n g c).1<;>rw[hq]at this<;>first|exact this|simp[aX,bo]at this
theorem aby{l l'}{n}{g}{c}(hr:jl l c=true)(hl:∀i,l.contains i=true->l'.contains i=true)(hn:∀i,n<=i->i<n+cu c->l'.contains i=true):ZA l' (mat n g c).1:=by
 cases c with
 |tup vs=>
  exact K1 hl hr hn
 |_=>exact ZB hr hl (hn n (avt _) (by simp[cu]))
section
variable {w:World} {X:Nat→Prop} {ρ:dZ} {hc:ac} {ids:List Nat}
def K2(X:Nat->Prop)(hc:ac)(ρ:dZ)(ids:List Nat)(b:Nat):Prop:=
 X b\/(sf hc ρ b/\¬sf (ao (ids.map fun a=>dG (aW ids) (hc a))) (fun i s=>ρ (dK ids i) s) b)
theorem abz(r:Rel w X ρ hc)(hl:ids.length<=1000)(hnd:ids.Nodup)(hcl:∀a∈ids,az ids (hc a)=true):
  Rel w (K2 X hc ρ ids) (fun i s=>ρ (dK ids i) s) (ao (ids.map fun a=>dG (aW ids) (hc a)))/\
  (∀b,aJ w X hc ρ b->aJ w (K2 X hc ρ ids) (ao (ids.map fun a=>dG (aW ids) (hc a))) (fun i s=>ρ (dK ids i) s) b):=by
 have em:=Emb.enter (h:=hc) hl hnd hcl;have hA:∀b,aJ w X hc ρ b->aJ w (K2 X hc ρ ids) (ao (ids.map fun a=>dG (aW ids) (hc a))) (fun i s=>ρ (dK ids i) s) b:=fun b hb=>
  ⟨hb.1,fun hx=>by rcases hx with hx| ⟨hx,_⟩;exact hb.2.1 hx;exact hb.2.2 hx,fun⟨i,s,h1,h2⟩=>hb.2.2 ⟨_,s,(em.live h1).1,h2⟩⟩
 exact⟨Rel.emb em r (fun b hb=>by rcases hb with(hb| ⟨hb,_⟩)|hb;exact r.xl b (.inl hb);exact ID r hb;exact r.xl b (.inr hb)) (fun i s hl hx=>by
  rcases hx with(hx| ⟨_,hx⟩)|hx
  ·exact r.nx _ _ (em.live hl).1 (.inl hx)
  ·exact hx ⟨i,s,hl,rfl⟩
  ·exact r.nx _ _ (em.live hl).1 (.inr hx)) hA,hA⟩
theorem IF(hl:ids.length<=1000)(hnd:ids.Nodup)(hcl:∀a∈ids,az ids (hc a)=true){b}(ho:sf (ao (ids.map fun a=>dG (aW ids) (hc a))) (fun i s=>ρ (dK ids i) s) b):
  ∃id sub,id∈ids/\live hc id sub/\(ρ id sub).1=b:=by
 obtain⟨i,s,h1,h2⟩:=ho;obtain⟨h3,h4⟩:=(Emb.enter (h:=hc) hl hnd hcl).live h1;grind[absurd,yJ,Dv]
theorem ZC{w'}{ρ'}{kp}{d}{gv ks0 ks}{res}{os}{z}{h'}{v}(r:Rel w X ρ hc)(hnd:ids.Nodup)(hcl:∀a∈ids,az ids (hc a)=true)(hdead:∀a∈ids,hc a≠ .dead)(gvflag:∀p∈gv,p.2=false)
  (hz:dX kp hc d ids ks0 gv (res,os)=some (z,h',ks)) (r':Rel w' (K2 X hc ρ ids) ρ' (mat (2000+8*d) (ao os) res).2)
  (far:Far kp w (fun i s=>ρ (dK ids i) s) (ao (ids.map fun a=>dG (aW ids) (hc a))) w' ρ' (mat (2000+8*d) (ao os) res).2)
  (hv:RV w' (aJ w' (K2 X hc ρ ids) (mat (2000+8*d) (ao os) res).2 ρ') ρ' (mat (2000+8*d) (ao os) res).2 (mat (2000+8*d) (ao os) res).1 v):
  ∃ρ3 k1,ks=ks0++k1/\Rel w' X ρ3 h'/\Evo w ρ hc w' ρ3 h' k1/\RV w' (aJ w' X h' ρ3) ρ3 h' z v:=by
 unfold dX at hz;split at hz
 ·rename_i hcond;obtain⟨c1,hl,c2,c3,c4,c5⟩:=hcond;simp only at c1 c2 c4;simp only[Option.some.injEq,Prod.mk.injEq]at hz;obtain⟨rfl,rfl,rfl⟩:=hz;simp only[kG,avv]at c5;obtain⟨c5,c6,c7⟩:=c5;generalize hn:2000+8*d=n at*
  have n2:=ω
  have em:=Emb.enter (h:=hc) hl hnd hcl;have gdead:=M4 c3;have gids:=fun i h1 h2 hi=>hdead i hi (gdead i h1 h2);have oget:∀a∈ids,os[ids.idxOf a]?=some (ao os (aW ids a)):=fun a ha=>by
   simp_all[List.idxOf_lt_length_of_mem,aW,congrArg,M3]
  have hm_ids:∀a∈ids,(mat n (ao os) res).2 (aW ids a)=ao os (aW ids a):=fun a ha=>Al (by grind[Du]);have hm_out:∀i,¬ (1000<=i/\i<1000+ids.length)->¬ (n<=i/\i<n+cu res)->(mat n (ao os) res).2 i=.dead:=fun i h1 h2=>by
   grind[Al,yJ]
  have w_ids:∀a∈ids,dS hc ids ids os a=dG (dK ids) (ao os (aW ids a)):=fun a ha=>TE hnd (by
   grind) (oget a ha)
  have h_grp:∀i,n<=i->i<n+cu res->(mat n (fG (dS hc ids ids os) gv) res).2 i=(mat n (ao os) res).2 i:=fun i h1 h2=>abq (by
   grind[TD,xV,yJ])
  have h_ids:∀a∈ids,(∀p∈gv,p.1≠a)->(mat n (fG (dS hc ids ids os) gv) res).2 a=dG (dK ids) ((mat n (ao os) res).2 (aW ids a)):=fun a ha hg=>by
   rw[Al (fun hh=>gids a hh.1 hh.2 ha),QF hg,w_ids a ha,hm_ids a ha]
  have h_gv:∀a,¬ (n<=a/\a<n+cu res)->(∃p∈gv,p.1=a)->(mat n (fG (dS hc ids ids os) gv) res).2 a=.dead:=fun a h1 hg=>by
   rw[Al ω,TD (.inl hg)]
  have h_out:∀a,a∉ids->¬ (n<=a/\a<n+cu res)->(∀p∈gv,p.1≠a)->(mat n (fG (dS hc ids ids os) gv) res).2 a=hc a:=fun a h1 h2 hg=>by
   rw[Al ω,QF hg,xV h1]
  generalize hh':(mat n (fG (dS hc ids ids os) gv) res).2=h' at*
  have hzr':(mat n (ao os) res).1=(mat n (fG (dS hc ids ids os) gv) res).1:=W0 _ _ _ _;generalize(mat n (fG (dS hc ids ids os) gv) res).1=zr at*
  have grp_obj:∀i,n<=i->i<n+cu res->(mat n (ao os) res).2 i≠ .dead->(∃k rows,(mat n (ao os) res).2 i=.ar k rows)\/∃cs,(mat n (ao os) res).2 i=.bx cs/\cs.all lY=true:=fun i h1 h2 hd=>
   agT c6 (by grind[yJ])
  rw[hzr']at hv;have zcl:∀ {l':List Nat},(∀i,(Eu ids gv).contains i=true->l'.contains i=true)->(∀i,n<=i->i<n+cu res->l'.contains i=true)->ZA l' zr:=fun{l'} hl1 hl2=>hzr'▸aby c6 hl1 hl2;generalize hhm:(mat n (ao os) res).2=hm at*
  have ok_spec:∀i,(Eu ids gv).contains i=true->1000<=i/\i<1000+ids.length/\∀p∈gv,p.1≠dK ids i:=fun i hi=>by
   unfold Eu at hi;split at hi
   all_goals simp_all[List.contains_eq_mem,List.mem_filter,decide_eq_true_eq,awu,List.any_eq_false,beq_iff_eq,cF]
  let L3:=Eu ids gv++List.range' n (cu res)
  have l3a:∀i,(Eu ids gv).contains i=true->L3.contains i=true:=fun i hi=>by
   grind
  have l3b:∀i,n<=i->i<n+cu res->L3.contains i=true:=fun i h1 h2=>by
   grind
  let Cal:=fun i=>(i∈ids/\∀p∈gv,p.1≠i)\/(n<=i/\i<n+cu res)
  let nm:Nat->Nat:=fun i=>if i∈ids then aW ids i else i
  let h3:ac:=fun i=>open Classical in if Cal i then h' i else .dead
  have h3c:∀i,Cal i->h3 i=h' i:=fun i hi=>by grind
  have h3n:∀i,h3 i≠ .dead->Cal i:=fun i hi=>by
   grind
  have nmi:∀i∈ids,nm i=aW ids i:=fun i hi=>by grind
  have nmg:∀i,n<=i->i<n+cu res->nm i=i:=fun i h1 h2=>by grind
  have em3:Emb L3 (dK ids) nm hm h3:=by
   refine⟨fun i hi=>?_,fun i hi=>?_,fun i j hi hj e=>?_⟩
   ·simp only[L3,List.contains_eq_mem,awt,decide_eq_true_eq,List.mem_range'_1]at hi;rcases hi with hi|hi
    ·grind[Dv]
    ·have e1:dK ids i=i:=by unfold dK;rw[if_neg ω]
     rw[e1];refine⟨nmg i hi.1 hi.2,?_⟩;rw[h3c _ (.inr hi),h_grp i hi.1 hi.2];by_cases hd:hm i=.dead
     ·rw[hd];rfl
     ·rcases grp_obj i hi.1 hi.2 hd with⟨k,rows,e2⟩| ⟨cs,e2,e3⟩
      ·rw[e2];rfl
      ·rw[e2];simp only[dG,Ob.bx.injEq];exact((avR (g:=fun c=>c) fun c hc=>TG (List.all_eq_true.1 e3 c hc)).trans (av5 cs)).symm
   ·rcases h3n i hi with⟨q1,q2⟩| ⟨q1,q2⟩
    ·rw[h3c _ (.inl ⟨q1,q2⟩),nmi i q1];refine⟨h_ids i q1 q2,?_⟩;rw[hm_ids i q1];exact TF l3a (List.all_eq_true.1 c7 _ (List.mem_of_getElem? (oget i q1)))
    ·rw[nmg i q1 q2];have hd:hm i≠ .dead:=by rw[h3c _ (.inr ⟨q1,q2⟩),h_grp i q1 q2]at hi;exact hi
     rw[h3c _ (.inr ⟨q1,q2⟩),h_grp i q1 q2];rcases grp_obj i q1 q2 hd with⟨k,rows,e2⟩| ⟨cs,e2,e3⟩
     ·rw[e2];exact⟨rfl,rfl⟩
     ·rw[e2];refine⟨?_,?_⟩
      ·simp only[dG,Ob.bx.injEq];exact((avR (g:=fun c=>c) fun c hc=>TG (List.all_eq_true.1 e3 c hc)).trans (av5 cs)).symm
      ·simp only[az,avK];exact fun c hc=>KY (List.all_eq_true.1 e3 c hc)
   ·rcases h3n i hi with⟨q1,q2⟩| ⟨q1,q2⟩<;>rcases h3n j hj with⟨q3,q4⟩| ⟨q3,q4⟩
    ·rw[nmi i q1,nmi j q3]at e;rw[←BK hl q1,←BK hl q3,e]
    ·rw[nmi i q1,nmg j q3 q4]at e;have:=Du q1;omega
    ·rw[nmg i q1 q2,nmi j q3]at e;have:=Du q3;omega
    ·rwa[nmg i q1 q2,nmg j q3 q4]at e
  have own3:∀ {b},sf h3 (fun i s=>ρ' (nm i) s) b->sf hm ρ' b:=fun⟨i,s,h1,h2⟩=>⟨nm i,s,(em3.live h1).1,h2⟩;have r3:Rel w' (K2 X hc ρ ids) (fun i s=>ρ' (nm i) s) h3:=Rel.emb em3 r' r'.xl (fun i s hl=>r'.nx _ _ (em3.live hl).1) fun b hb=>⟨hb.1,hb.2.1,fun ho=>hb.2.2 (own3 ho)⟩
  let ρ3:dZ:=fun i s=>open Classical in if Cal i then ρ' (nm i) s else ρ i s
  have r3c:∀i,Cal i->∀s,ρ3 i s=ρ' (nm i) s:=fun i hi s=>by simp only[ρ3,if_pos hi]
  have r3n:∀i,¬Cal i->∀s,ρ3 i s=ρ i s:=fun i hi s=>by simp only[ρ3,if_neg hi]
  have rest:∀i,¬Cal i->h' i≠ .dead->i∉ids/\h' i=hc i:=fun i hi hd=>by
   have h1:¬ (n<=i/\i<n+cu res):=fun hh=>hi (.inr hh);have h2:∀p∈gv,p.1≠i:=fun p hp e=>hd (h_gv i h1 ⟨p,hp,e⟩);have h4:i∉ids:=fun hh=>hi (.inl ⟨hh,h2⟩);exact⟨h4,h_out i h4 h1 h2⟩
  have xin:∀ {i s},i∉ids->live hc i s->¬sf (ao (ids.map fun a=>dG (aW ids) (hc a))) (fun i s=>ρ (dK ids i) s) (ρ i s).1:=fun{i s} hi hl' ho=>by
   obtain⟨id,sub,q1,q2,q3⟩:=IF hl hnd hcl ho;obtain⟨e,_⟩:=r.inj _ _ _ _ q2 hl' q3;exact hi (e▸q1)
  have lcal:∀ {i s},live h' i s->Cal i->live h3 i s:=fun{i s} hl' hC=>(dv (h3c i hC)).2 hl';have lrest:∀ {i s},live h' i s->¬Cal i->i∉ids/\live hc i s:=fun{i s} hl' hC=>by
   have hd:h' i≠ .dead:=by
    cases s with
    |none=>intro e;simp[live,e]at hl'
    |some p=>obtain⟨_,_,_,e,_⟩:=hl';rw[e];simp
   obtain⟨h1,h2⟩:=rest i hC hd;exact⟨h1,(dv h2).1 hl'⟩
  have fr3:∀ {b},sf hm ρ' b->sf (ao (ids.map fun a=>dG (aW ids) (hc a))) (fun i s=>ρ (dK ids i) s) b\/w.heap.size<=b:=fun ho=>far.fresh _ ho;have parts:∀ {i s j t},live h3 i s->j∉ids->live hc j t->(ρ' (nm i) s).1≠ (ρ j t).1:=fun{i s j t} h1 h2 h4 e=>by
   rcases fr3 ⟨nm i,s,(em3.live h1).1,e⟩with ho|ho
   ·exact xin h2 h4 ho
   ·have:=ID r ⟨j,t,h4,rfl⟩;omega
  have ownc:∀ {b},sf h' ρ3 b->sf h3 (fun i s=>ρ' (nm i) s) b\/∃id sub,id∉ids/\live hc id sub/\(ρ id sub).1=b:=fun{b} ⟨i,s,h1,h2⟩=>by
   by_cases hC:Cal i
   ·exact .inl ⟨i,s,lcal h1 hC,by rw[←h2,r3c i hC]⟩
   ·obtain⟨h4,h5⟩:=lrest h1 hC;exact .inr ⟨i,s,h4,h5,by rw[←h2,r3n i hC]⟩
  have hA3:∀b,aJ w' (K2 X hc ρ ids) h3 (fun i s=>ρ' (nm i) s) b->aJ w' X h' ρ3 b:=fun b hb=>⟨hb.1,fun hx=>hb.2.1 (.inl hx),fun ho=>by
   rcases ownc ho with ho| ⟨i,s,h1,h2,rfl⟩
   ·exact hb.2.2 ho
   ·exact hb.2.1 (.inr ⟨⟨i,s,h2,rfl⟩,xin h1 h2⟩)⟩
  have noE:∀ {b},¬sf hc ρ b->¬sf (ao (ids.map fun a=>dG (aW ids) (hc a))) (fun i s=>ρ (dK ids i) s) b:=fun{b} hb ho=>by
   obtain⟨id,sub,_,q2,q3⟩:=IF hl hnd hcl ho;exact hb ⟨id,sub,q2,q3⟩
  have hAc:∀b,aJ w X hc ρ b->aJ w' X h' ρ3 b/\w'.heap[b]?=w.heap[b]?:=fun b hb=>by
   refine⟨⟨awn hb.1 far.size,hb.2.1,fun ho=>?_⟩,far.old b hb.1 (noE hb.2.2)⟩;rcases ownc ho with ho| ⟨i,s,h1,h2,rfl⟩
   ·rcases fr3 (own3 ho)with ho|ho
    ·exact noE hb.2.2 ho
    ·have:=hb.1;omega
   ·exact hb.2.2 ⟨i,s,h2,rfl⟩
  have pas:∀a∈ids,bj (aW ids a)=true:=fun a ha=>by
   have:=Du ha;simp only[bj,decide_eq_true_eq];omega
  have stayI:∀a∈ids,(∀p∈gv,p.1≠a)->h' a≠ .dead/\ρ3 a none=ρ a none/\hm (aW ids a)≠ .dead:=fun a ha hg=>by
   have h1:=(Dw c4 _ a _ (by have h1:=List.idxOf_lt_length_of_mem ha;rw[List.getElem?_eq_getElem h1];simp) (oget a ha)).2 hg;have h2:hm (aW ids a)≠ .dead:=by rw[hm_ids a ha];exact h1
   refine⟨by rw[h_ids a ha hg,ne_eq,Iu];exact h2,?_,h2⟩;rw[r3c a (.inl ⟨ha,hg⟩),nmi a ha,(far.stay _ (pas a ha) h2).2,BK hl ha]
  have bfB:∀id,bf (hc id)=true->bf (h' id)=true/\ρ3 id none=ρ id none:=fun id hb=>by
   have h1:¬ (n<=id/\id<n+cu res):=fun hh=>by rw[gdead id hh.1 hh.2]at hb;cases hb
   have h2:∀p∈gv,p.1≠id:=fun p hp e=>by
    have:=List.all_eq_true.1 c5 p hp;rw[e,hb]at this;cases this
   by_cases hi:id∈ids
   ·have h4:=(Dw c4 _ id _ (by have h1:=List.idxOf_lt_length_of_mem hi;rw[List.getElem?_eq_getElem h1];simp) (oget id hi)).1 hb;exact⟨by rw[h_ids id hi h2,WX,hm_ids id hi];exact h4,(stayI id hi h2).2.1⟩
   ·exact⟨by rw[h_out id hi h1 h2];exact hb,r3n id (fun hC=>by rcases hC with hC|hC;exact hi hC.1;exact h1 hC) none⟩
  have rel:Rel w' X ρ3 h':=by
   refine⟨fun i s j t h1 h2 e=>?_,fun i s h1 hx=>?_,fun id=>?_,fun b hb=>awn (r.xl b hb) far.size⟩
   ·by_cases hi:Cal i<;>by_cases hj:Cal j
    ·rw[r3c i hi,r3c j hj]at e;exact r3.inj _ _ _ _ (lcal h1 hi) (lcal h2 hj) e
    ·rw[r3c i hi,r3n j hj]at e;obtain⟨q1,q2⟩:=lrest h2 hj;exact absurd e (parts (lcal h1 hi) q1 q2)
    ·rw[r3n i hi,r3c j hj]at e;obtain⟨q1,q2⟩:=lrest h1 hi;exact absurd e.symm (parts (lcal h2 hj) q1 q2)
    ·rw[r3n i hi,r3n j hj]at e;exact r.inj _ _ _ _ (lrest h1 hi).2 (lrest h2 hj).2 e
   ·by_cases hi:Cal i
    ·rw[r3c i hi]at hx;exact r3.nx _ _ (lcal h1 hi) (hx.imp .inl id)
    ·rw[r3n i hi]at hx;exact r.nx _ _ (lrest h1 hi).2 hx
   ·by_cases hi:Cal id
    ·have:=(r3.ob id).keep (w':=w') (A':=aJ w' X h' ρ3) (ρ':=ρ3) (h':=h') (fun b hb=>⟨hA3 b hb,rfl⟩) (fun i hb=>by
      have hC:=h3n i (fun e=>by rw[e]at hb;cases hb);rw[h3c i hC]at hb;exact⟨hb,r3c i hC none⟩) (fun s=>r3c id hi s) (fun _ _=>rfl)
     rwa[h3c id hi]at this
    ·by_cases hd:h' id=.dead
     ·rw[hd];trivial
     ·obtain⟨q1,q2⟩:=rest id hi hd;have:=(r.ob id).keep (w':=w') (A':=aJ w' X h' ρ3) (ρ':=ρ3) (h':=h') hAc bfB (fun s=>r3n id hi s) (fun s hl'=>far.old _ (ID r ⟨id,s,hl',rfl⟩) (xin q1 hl'));rwa[←q2]at this
  have evo:Evo w ρ hc w' ρ3 h' ((if kp then []else ids.map (·,true))++gv):=by
   refine⟨far.os,far.tape,far.output,far.size,fun b hb ho=>far.old b hb (noE ho),fun id sub hp hk=>?_,fun b ho=>?_,bfB,fun id hp hd=>?_⟩
   ·rw[GH,Bool.or_eq_false_iff]at hk;have h2:∀p∈gv,p.1≠id:=fun p hp' e=>by
     have hk2:=hk.2;simp only[jj,List.any_eq_false,avv,beq_iff_eq,Bool.or_eq_true,awu,not_and]at hk2;exact hk2 p hp' e (.inl (gvflag p hp'))
    have hnd':hc id≠ .dead:=by
     cases sub with
     |none=>exact hp
     |some p=>obtain⟨_,_,_,e,_⟩:=hp;rw[e];simp
    have h1:¬ (n<=id/\id<n+cu res):=fun hh=>hnd' (gdead id hh.1 hh.2);by_cases hi:id∈ids
    ·cases sub with
     |none=>exact⟨(stayI id hi h2).1,(stayI id hi h2).2.1⟩
     |some p=>
      cases kp with
      |false=>
       have hk1:=hk.1;simp only[awo,if_false,jj,List.any_map,List.any_eq_false,Function.comp,avv,beq_iff_eq]at hk1;exact absurd ⟨rfl,rfl⟩ (hk1 id hi)
      |true=>
       have hpe:cH (ao (ids.map fun a=>dG (aW ids) (hc a))) (aW ids id) (some p):=by
        obtain⟨cs,k,rows,e1,e2⟩:=hp;have:=(em.back id (by simpa using hi)).2;rw[e1]at this;refine⟨cs.map (dB (aW ids)),k,rows,this,?_⟩;rw[List.getElem?_map,e2];rfl
       obtain⟨q1,q2⟩:=far.keep rfl (aW ids id) p (pas id hi) (stayI id hi h2).2.2 hpe;refine⟨?_,?_⟩
       ·obtain⟨cs,k,rows,e1,e2⟩:=q1;refine⟨cs.map (dB (dK ids)),k,rows,?_,?_⟩
        ·rw[h_ids id hi h2,e1];rfl
        ·rw[List.getElem?_map,e2];rfl
       ·rw[r3c id (.inl ⟨hi,h2⟩),nmi id hi,q2,BK hl hi]
    ·have hC:¬Cal id:=fun hC=>by rcases hC with hC|hC;exact hi hC.1;exact h1 hC
     exact⟨(fL (h_out id hi h1 h2)).2 hp,r3n id hC sub⟩
   ·rcases ownc ho with ho| ⟨i,s,h1,h2,rfl⟩
    ·rcases fr3 (own3 ho)with ho|ho
     ·obtain⟨id,sub,_,q2,q3⟩:=IF hl hnd hcl ho;exact .inl ⟨id,sub,q2,q3⟩
     ·exact .inr ho
    ·exact .inl ⟨i,s,h2,rfl⟩
   ·simp only[bj,decide_eq_true_eq]at hp;by_cases hi:id∈ids
    ·refine⟨hdead id hi,?_⟩;by_cases hg:∀p∈gv,p.1≠id
     ·exact(stayI id hi hg).2.1
     ·exfalso;refine hd (h_gv id ω ?_);have:=Classical.not_forall.1 hg;obtain⟨p,hp'⟩:=this;obtain⟨hp1,hp2⟩:=Classical.not_imp.1 hp';exact⟨p,hp1,Classical.not_not.1 hp2⟩
    ·have hC:¬Cal id:=fun hC=>by rcases hC with hC|hC;exact hi hC.1;omega
     obtain⟨_,q2⟩:=rest id hC hd;exact⟨q2▸hd,r3n id hC none⟩
  refine⟨ρ3,_,rfl,rel,evo,?_⟩;have toV:∀ {c:AV} {u:Value},RV w' (aJ w' (K2 X hc ρ ids) hm ρ') ρ' hm c u->aX L3 c=true->RV w' (aJ w' X h' ρ3) ρ3 h' (dB (dK ids) c) u:=fun{c u} hv hcl'=>by
   have h1:=hv.embA (A2:=aJ w' (K2 X hc ρ ids) h3 (fun i s=>ρ' (nm i) s)) em3 (fun b hb=>⟨hb.1,hb.2.1,fun ho=>hb.2.2 (own3 ho)⟩) hcl';exact h1.keep (fun b hb=>⟨hA3 b hb,rfl⟩) fun i s hp=>by
    have hC:=h3n i (by
     cases s with
     |none=>exact hp
     |some p=>obtain⟨_,_,_,e,_⟩:=hp;rw[e];simp)
    exact⟨(fL (h3c i hC)).1 hp,r3c i hC s⟩
  have zc:=zcl l3a l3b;cases zr with
  |tup vs=>
   cases hv with
   |dat hd=>cases hd
   |tup _ us hs hr=>
    refine .tup _ us (by simpa using hs) fun i c u hc' hu=>?_;simp only[List.getElem?_map,avu]at hc';obtain⟨c0,h1,rfl⟩:=hc';exact toV (hr i c0 u h1 hu) (zc c0 (List.mem_of_getElem? h1))
  |_=>exact toV hv zc
 grind
end
theorem M5:∀ {l} {ms},∀p∈re ms l,p.2=false
 |[],ms,p,hp=>by grind[re]
 |a::l,ms,p,hp=>by
  simp only[re,awt]at hp;rcases hp with hp|hp
  ·split at hp
   ·simp only[awc]at hp;obtain⟨i,_,rfl⟩:=hp;rfl
   ·simp at hp
  ·exact M5 p hp
section
variable {P:Program} {I:Inv} {call:ic} {md:Mode}
def ZD(P:Program)(I:Inv)(call:ic)(md:Mode):Prop:=
 ∀ {w} {X} {ρ} {h h'} {d} {f z} {zas} {ks} {uf} {us},d<1000->I.p w X->Rel w X ρ h->RV w (aJ w X h ρ) ρ h f uf->us.size=zas.length->
  (∀ (i:Nat) c u,zas[i]?=some c->us[i]?=some u->RV w (aJ w X h ρ) ρ h c u)->dH call md h d zas f=some (z,h',ks)->
  ∃g first cap,uf=.func (.func g) first cap/\Enters P g (first++us++cap) w fun v w'=>Got w X ρ h w' h' ks z v
theorem Wu(hf:∀f,pG P I (md.keep f) f (call f)):ZD P I call md:=by
 intro w X ρ h h' d f z zas ks uf us hd hi r hvf hus hva hz;cases f<;>simp only[dH]at hz<;>try (cases hz;done)
 rename_i fid a b;obtain⟨first,cap,rfl,s1,s2,va,vb⟩:=hvf.fn_inv;refine⟨fid,first,cap,rfl,?_⟩;simp only[avq]at hz;obtain⟨⟨zs,hc,ks0⟩,e1,e2⟩:=hz;obtain⟨r1,ev1,fl1,ln1,vv⟩:=IC (h0:=h) (a++zas++b) (md.m fid) (first++us++cap).toList r .refl γ (fun i c u h1 h2=>by
  grind) e1
 have hnd:(bX hc 40 (bu [] (zs.flatMap bZ)) 0).Nodup:=KT (Dr List.nodup_nil);generalize bX hc 40 (bu [] (zs.flatMap bZ)) 0=ids at*
 unfold jd at e2;split at e2
 ·rename_i hck;simp only[avv,avK,awu]at hck;obtain⟨k1,k2⟩:=hck;simp only[avq]at e2;obtain⟨⟨res,os⟩,e3,e4⟩:=e2;have hl:ids.length<=1000:=by
   grind[dX]
  have hcl:=fun a ha=>(k2 a ha).1;have hdead:∀a∈ids,hc a≠ .dead:=fun a ha e=>by
   have:=(k2 a ha).2;rw[e]at this;cases this
  have em:=Emb.enter (h:=hc) hl hnd hcl;obtain⟨rE,hA⟩:=abz r1 hl hnd hcl;have hi1:I.p w (K2 X hc ρ ids):=I.more hi fun b hb=>.inl hb;refine(hf fid e3 (n:=2000+8*d) ω hi1 rE (by grind[awk,yI]) fun i c u hc' hu=>?_).mono fun v w' ⟨ρ',q1,q2,q3⟩=>?_
  ·simp only[List.getElem?_map,avu]at hc';obtain⟨c0,h1,rfl⟩:=hc';obtain⟨c1,h2,h3⟩:=xX _ _ _ _ h1;obtain⟨h4,wy,hv⟩:=vv i c1 u h2 γ;have hv':RV w (aJ w X h4 ρ) ρ h4 c0 u:=by
    rcases h3 with rfl| ⟨ss,rfl⟩
    ·omega
    ·exact hv.nrmV ss
   have hcc:=k1 c0 (List.mem_of_getElem? h1);exact(abx wy hv' hcc).embA em hA hcc
  ·obtain⟨ρ3,k3,rfl,g1,g2,g3⟩:=ZC r1 hnd hcl hdead M5 e4 q1 q2 q3;exact⟨ρ3,g1,ev1.trans g2,g3⟩
 grind
theorem IG{w}{X}{ρ}{h}{b}(hb:aJ w X h ρ b):aJ w X (ao []) ρ b:=⟨hb.1,hb.2.1,fun⟨id,sub,hl,_⟩=>by
 have hd:ao [] id=.dead:=by grind[ao]
 cases sub with
 |none=>grind[live]
 |some p=>grind[live]⟩
theorem W9{w}{X}{ρ}{h}(r:Rel w X ρ h){id}{sub}(hl:live h id sub):aJ w X (ao []) ρ (ρ id sub).1:=
 ⟨ID r ⟨id,sub,hl,rfl⟩,fun hx=>r.nx id sub hl (.inl hx),fun⟨id',sub',hl',_⟩=>by
  have hd:ao [] id'=.dead:=by grind[ao]
  cases sub' with
  |none=>grind[live]
  |some p=>grind[live]⟩
theorem ZE{w}{X}{ρ}{h}(r:Rel w X ρ h){a c}{u}(hv:RV w (aJ w X h ρ) ρ h a u)(hz:YO h a=some c):RV w (aJ w X (ao []) ρ) ρ (ao []) c u:=by
 have dd:∀ {a},RD w (aJ w X h ρ) a u->RV w (aJ w X (ao []) ρ) ρ (ao []) a u:=fun hd=>.dat (hd.mono fun b hb=>⟨IG hb,rfl⟩);cases a<;>simp only[YO]at hz<;>try (cases hz;done)
 case v x=>cases hz;exact .dat (by obtain⟨rfl,hp⟩:=hv.v_inv;exact .v _ hp)
 case emp=>cases hz;obtain⟨a,rfl⟩:=hv.emp_inv;exact .dat (.emp a)
 case sl k rows=>cases hz;exact dd hv.sl_inv
 case rsl id sub k lo n=>
  simp only[avu]at hz;obtain⟨rs,h1,rfl⟩:=hz;obtain⟨a,cap,rfl,hp,hn,hb,ha⟩:=hv.rsl_inv;cases sub with
  |none=>
   simp only[yv]at h1;have ho:=r.ob id;cases eo:h id with
   |dead=>grind[BD,iS]
   |bx cs=>grind[BD,iS]
   |ar k' rows=>
    rw[eo]at h1 ho;simp only[BD,iS]at h1;split at h1
    ·rename_i hc;obtain⟨rfl,hle⟩:=hc;cases h1;obtain⟨us,t0,g1,g2,g3,g4⟩:=ho;exact .dat (oF g1 (W9 r (by grind[live])) (g4.mono fun b hb=>⟨IG hb,rfl⟩) hle hn ha)
    grind
   |fz k' rows=>
    rw[eo]at h1 ho;simp only[BD,iS]at h1;split at h1
    ·rename_i hc;obtain⟨rfl,hle⟩:=hc;cases h1;obtain⟨ga,us,t0,fr,g1,g2,g3,g4⟩:=ho;exact .dat (oF g1 (IG ga) (g4.mono fun b hb=>⟨IG hb,rfl⟩) hle hn ha)
    grind
  |some p=>
   simp only[yv]at h1;cases eo:h id with
   |bx cs=>
    rw[eo]at h1;simp only[kh]at h1;cases ec:cs[p]? with
    |none=>grind[xi,iS]
    |some c=>
     rw[ec]at h1;cases c<;>simp[xi,iS]at h1;rename_i k' rows;obtain⟨⟨rfl,hle⟩,rfl⟩:=h1;obtain⟨us,t0,g1,g2,g3,g4⟩:=r.cell eo;obtain⟨u,f1,a',cap',us1,t1,q1,q2,q3,q4,q5,q6,q7⟩:=g4 p _ ec;exact .dat (oF q4 (W9 r ⟨cs,_,rows,eo,ec⟩) (q7.mono fun b hb=>⟨IG hb,rfl⟩) hle hn ha)
   |dead=>grind[kh,iS]
   |ar k' rows=>grind[kh,iS]
   |fz k' rows=>grind[kh,iS]
 case fn f x y=>
  cases x with
  |cons a l=>grind
  |nil=>
   cases y with
   |cons a l=>grind
   |nil=>
    simp only[Option.some.injEq]at hz;subst hz;obtain⟨us,ts,rfl,s1,s2,_,_⟩:=hv.fn_inv;exact .fn f [] [] us ts s1 s2 (fun i c u hc=>by grind) (fun i c u hc=>by grind)
theorem M6{w}{X}{ρ}{h}(r:Rel w X ρ h):∀l (vals:List Value) {cs},vals.length=l.length->(∀ (i:Nat) c u,l[i]?=some c->vals[i]?=some u->RV w (aJ w X h ρ) ρ h c u)->OD h l=some cs->
  cs.length=l.length/\∀ (i:Nat) c u,cs[i]?=some c->vals[i]?=some u->RV w (aJ w X (ao []) ρ) ρ (ao []) c u
 |[],vals,cs,hl,hv,hz=>by
  grind[OD,Option.some.injEq]
 |a::l,[],cs,hl,hv,hz=>by grind
 |a::l,v::vals,cs,hl,hv,hz=>by
  simp only[OD,avq]at hz;obtain⟨b,e1,q,e2,e3⟩:=hz;cases e3;obtain⟨g1,g2⟩:=M6 r l vals γ (fun i c u hc hu=>hv (i+1) c u γ γ) e2;refine⟨by grind,fun i c u hc hu=>?_⟩;cases i with
  |zero=>simp at hc hu;subst hc hu;exact ZE r (hv 0 a v rfl rfl) e1
  |succ i=>grind
theorem ZF{kp}{w w'}{X}{ρ ρ'}{h}(r:Rel w X ρ h)(far:Far kp w ρ (ao []) w' ρ' (ao [])):Rel w' X ρ h/\Evo w ρ h w' ρ h []:=by
 have no:∀b,¬sf (ao []) ρ b:=fun b ⟨id',sub',hl',_⟩=>by
  have hd:ao [] id'=.dead:=by grind[ao]
  cases sub' with
  |none=>grind[live]
  |some p=>grind[live]
 have e:Evo w ρ h w' ρ h []:=⟨far.os,far.tape,far.output,far.size,fun b hb _=>far.old b hb (no b),fun _ _ hp _=>⟨hp,rfl⟩,fun _ ho=>.inl ho,fun _ hb=>⟨hb,rfl⟩,fun _ _ hd=>⟨hd,rfl⟩⟩;exact⟨r.step e (fun _=>False) (fun _ _=>⟨rfl,fun _=>rfl,fun sub hl=>far.old _ (ID r ⟨_,sub,hl,rfl⟩) (no _)⟩) r.inj r.nx (fun _ hf=>hf.elim),e⟩
theorem ZG{c}(hp:yx c=true)(n)(h):dO n h c=(c,h):=by
 cases c<;>simp[yx]at hp;rfl
theorem M7:∀ {vs} n h,vs.all yx=true->cV n h vs=(vs,h)
 |[],n,h,_=>rfl
 |a::l,n,h,hp=>by
  simp only[avQ,avv]at hp;simp only[cV,ZG hp.1,M7 (n+1) h hp.2]
theorem abA{c}(hp:Ie c=true)(n)(h):mat n h c=(c,h):=by
 cases c<;>simp only[Ie]at hp<;>try (simp[yx]at hp;done)
 case v x=>rfl
 grind[mat,M7]
theorem QG{w w'}{A A'}{ρ ρ'}{h h'}{c}{u}(hp:yx c=true)(hv:RV w A ρ h c u):RV w' A' ρ' h' c u:=by
 cases c<;>simp[yx]at hp;obtain⟨rfl,hp⟩:=hv.v_inv;exact .dat (.v _ hp)
theorem aea{w w'}{A A'}{ρ ρ'}{h h'}{c}{u}(hp:Ie c=true)(hv:RV w A ρ h c u):RV w' A' ρ' h' c u:=by
 cases c<;>simp only[Ie]at hp<;>try (simp[yx]at hp;done)
 case v x=>grind[QG]
 case tup vs=>
  cases hv with
  |dat hd=>cases hd
  |tup _ us hs hr=>exact .tup vs us hs fun i c u hc hu=>QG (List.all_eq_true.1 hp c (List.mem_of_getElem? hc)) (hr i c u hc hu)
theorem ZH(hf:∀f,pG P I (md.keep f) f (call f)):mr P I call md:=by
 intro w X ρ h h' d f z zas ks uf us hd hi r hvf hus hva hz;unfold bv at hz;split at hz
 ·cases f<;>simp only[MI]at hz<;>try (cases hz;done)
  rename_i fid a b _;obtain⟨first,cap,rfl,s1,s2,va,vb⟩:=hvf.fn_inv;refine⟨fid,first,cap,rfl,?_⟩;simp only[avq]at hz;obtain⟨cs,e1,⟨res,os⟩,e2,e3⟩:=hz;obtain⟨l1,l2⟩:=M6 r (a++zas++b) (first++us++cap).toList γ (fun i c u h1 h2=>by
   grind) e1
  cases os with
  |cons o os=>grind[S3]
  |nil=>
   simp only[S3]at e3;split at e3
   ·rename_i hp;cases e3;have rE:Rel w X ρ (ao []):=by
     have hd:∀id,ao [] id=.dead:=fun id=>by grind[ao]
     have no:∀id sub,¬live (ao []) id sub:=fun id sub hl=>by
      cases sub with
      |none=>grind[live]
      |some p=>grind[live]
     exact⟨fun id sub _ _ h=>(no id sub h).elim,fun id sub h=>(no id sub h).elim,fun id=>by rw[hd];trivial,r.xl⟩
    refine(hf fid e2 (n:=2000) (avt _) hi rE (by grind[yI]) fun i c u hc' hu=>?_).mono fun v w' ⟨ρ',q1,q2,q3⟩=>?_
    ·obtain⟨c1,h2,h3⟩:=xX _ _ _ _ hc';have hv:=l2 i c1 u h2 γ;rcases h3 with rfl| ⟨ss,rfl⟩
     ·omega
     ·exact hv.nrmV ss
    ·rw[abA hp]at q1 q2 q3;obtain⟨g1,g2⟩:=ZF r q2;exact⟨ρ,g1,g2,aea hp q3⟩
   grind
 ·exact Wu hf hd hi r hvf hus hva hz
end
section
variable {P:Program} {I:Inv} {call:ic} {md:Mode}
structure EnvOK (P:Program) (I:Inv) (e:Env):Prop where
 mixed:P.follows .mixedOrders=true
 ext:∀f g,e.E f=some g->pG P I (e.md.keep f) f g
 text:∀f fd,e.E f=none->e.C f=some fd->Text P f fd
theorem ZI(kp)(f):pG P I kp f (fun _ _=>none):=by
 intro args obs obs' res w X ρ vals n hz;grind
theorem abB{e}(he:EnvOK P I e):∀n f,pG P I (e.md.keep f) f (lC e n f)
 |0,f=>ZI _ f
 |n+1,f=>by
  cases hE:e.E f with
  |some g=>
   have:lC e (n+1) f=g:=by grind[lC]
   rw[this];exact he.ext f g hE
  |none=>
   cases hC:e.C f with
   |none=>
    have:lC e (n+1) f=fun _ _=>none:=by grind[lC]
    grind
   |some fd=>
    have:lC e (n+1) f=Ii (lC e n) {e.md with nm:=e.md.keep f} n fd:=by grind[lC]
    rw[this];exact agS (md:={e.md with nm:=e.md.keep f}) he.mixed (ZH (md:={e.md with nm:=e.md.keep f}) fun g=>abB he n g) (he.text f fd hE hC)
end
def Ev(p:Nat->Prop):Prop:=∃n,∀k,n<=k->p k
theorem Ev.and{p q}(a:Ev p)(b:Ev q):Ev fun k=>p k/\q k:=by
 obtain⟨n,hn⟩:=a;obtain⟨m,hm⟩:=b;exact⟨max n m,fun k hk=>⟨hn k ω,hm k ω⟩⟩
theorem Ev.mono{p q}(a:Ev p)(h:∀k,p k->q k):Ev q:=by
 obtain⟨n,hn⟩:=a;exact⟨n,fun k hk=>h k (hn k hk)⟩
theorem Ev.all{p}(h:∀k,p k):Ev p:=⟨0,fun k _=>h k⟩
open Classical in
noncomputable def EE {α:Type} (f:Nat->Option α):Option α:=if h:∃a,Ev fun k=>f k=some a then some (Classical.choose h)else none
theorem pu{α}{f}{a:α}:EE f=some a↔Ev fun k=>f k=some a:=by
 unfold EE;constructor
 ·intro h;split at h
  all_goals grind
 ·intro h;have hh:∃a,Ev fun k=>f k=some a:=⟨a,h⟩;obtain⟨n,hn⟩:=Classical.choose_spec hh;obtain⟨m,hm⟩:=h;have h1:=hn (max n m) ω;grind
theorem agU{α}{f g:Nat->Option α}(h:∀a,EE f=some a↔EE g=some a):EE f=EE g:=by
 cases hf:EE f with
 |none=>
  cases hg:EE g with
  |none=>rfl
  |some a=>grind
 |some a=>grind
theorem BL{α}(a:Option α):EE (fun _=>a)=a:=by
 cases a with
 |none=>
  cases h:EE (fun _:Nat=>none)with
  |none=>rfl
  |some a=>
   obtain⟨n,hn⟩:=pu.1 h;exact absurd (hn n (avt _)) σ
 |some a=>exact pu.2 (Ev.all fun _=>rfl)
theorem TJ{α}(f:Nat->Option α):EE (fun n=>f (n+1))=EE f:=agU fun a=>by
 rw[pu,pu];constructor
 ·rintro⟨n,hn⟩
  refine⟨n+1,fun k hk=>?_⟩;have:=hn (k-1) ω;grind
 ·rintro⟨n,hn⟩
  exact⟨n,fun k hk=>hn (k+1) ω⟩
noncomputable def av (body:ak->ac->Option (Ex×St)) (ks hs:List Nat) (s:ak) (h:ac):Option (Ex×St):=EE fun n=>td body ks hs n s h
def SF(g:ak->ac->Option (Ex×St)):Option (Ex×St)->Option (Ex×St)
 |some (.normal,t)=>g t.s t.h
 |r=>r
theorem ag(body)(ks hs)(s)(h):
  av body ks hs s h=if(hs.all fun a=>az hs (h a))=true then SF (av body ks hs) (body (mk .any (fun i=>gE hs (s i)) ks) (mk .dead h hs))else none:=by
 unfold av;rw[←TJ];simp only[td];split
 ·cases hb:body (mk .any (fun i=>gE hs (s i)) ks) (mk .dead h hs)with
  |none=>exact BL _
  |some r=>
   obtain⟨e,t⟩:=r;cases e with
   |normal=>rfl
   |exit id=>exact BL _
   |ret=>exact BL _
 ·exact BL _
noncomputable def ai (call:ic) (md:Mode):Cmd->ak->ac->Option (Ex×St)
 | .skip,s,h=>some (.normal,⟨s,h⟩)
 | .ops ks l,s,h=>bq (aF call md l s h) fun s h=>some (.normal,⟨mk .any s ks,h⟩)
 | .dops ks l ps,s,h=>bq (ri call md l ps s h) fun s h=>some (.normal,⟨mk .any s ks,h⟩)
 | .seq a b,s,h=>cS (ai call md a s h) (ai call md b)
 | .cond c a b,s,h=>rj (ai call md a s h) (ai call md b s h) (ev s c)
 | .block id ks a,s,h=>ah id ks (ai call md a s h)
 | .loop ks hs a,s,h=>av (ai call md a) ks hs s h
 | .exit id,s,h=>some (.exit id,⟨s,h⟩)
 | .ret,s,h=>some (.ret,⟨s,h⟩)
 | .frz is a,s,h=>bq (Ag md.nm is s h) (ai call md a)
noncomputable def fS (e:Env):ic:=fun f args hs=>EE fun n=>lC e n f args hs
noncomputable def TK (call:ic) (md:Mode) (fd:FD) (args:List AV) (hs:List Ob):Option (AV×List Ob):=
 if args.length=fd.np/\hs.length<=1000 then jV md.nm fd.rs fd.res hs.length (ai call md fd.body (te args) (ao hs))else none
section
variable {e:Env} {md:Mode}
theorem abC{h}{d}{zas}{f}{r}(hz:dH (fS e) md h d zas f=some r):Ev fun k=>dH (lC e k) md h d zas f=some r:=by
 cases f<;>simp only[dH]at hz⊢ <;>try (cases hz;done)
 simp only[avq]at hz⊢;obtain⟨p,e1,e2⟩:=hz;unfold jd at e2⊢;split at e2
 ·simp only[avq]at e2;obtain⟨q,e3,e4⟩:=e2;refine(pu.1 e3).mono fun k hk=>⟨p,e1,?_⟩;grind
 grind
theorem TL{h}{d}{zas}{f}{r}(hz:bv (fS e) md h d zas f=some r):Ev fun k=>bv (lC e k) md h d zas f=some r:=by
 unfold bv at hz⊢;by_cases hb:jn md zas f=true
 ·rw[if_pos hb]at hz;simp only[if_pos hb];cases f<;>simp only[MI]at hz⊢ <;>try (cases hz;done)
  simp only[avq]at hz⊢;obtain⟨p,e1,q,e3,e4⟩:=hz;exact(pu.1 e3).mono fun k hk=>⟨p,e1,q,hk,e4⟩
 simp_all[if_neg,abC]
theorem Xa{d}{op}{s}{h}{r}(hz:step (fS e) md d op s h=some r):Ev fun k=>step (lC e k) md d op s h=some r:=by
 cases op with
 |call f zas=>exact TL hz
 |callC f zas=>
  simp only[step,avq]at hz⊢;obtain⟨q,e1,e2⟩:=hz;exact(TL e1).mono fun k hk=>⟨q,hk,e2⟩
 |_=>exact Ev.all fun k=>hz
theorem Xb{d}{op}{s}{h}{t}(hz:dC md.nm s d (step (fS e) md (d.getD 0) op s h)=some t):Ev fun k=>dC md.nm s d (step (lC e k) md (d.getD 0) op s h)=some t:=by
 cases hs:step (fS e) md (d.getD 0) op s h with
 |none=>rw[hs]at hz;cases hz
 |some r=>
  exact(Xa hs).mono fun k hk=>by grind
theorem aeb{o}{s}{h}{t}(hz:lZ (fS e) md o s h=some t):Ev fun k=>lZ (lC e k) md o s h=some t:=by
 unfold lZ at hz⊢;cases hg:o.g with
 |none=>grind[Xb]
 |some g=>
  rw[hg]at hz;simp only at hz⊢;unfold kW at hz⊢;split at hz
  ·split at hz
   all_goals simp_all[if_pos,Xb,if_neg,Ev.all]
  all_goals grind[Ev.all]
theorem GR:∀ {l} {s} {h} {t},aF (fS e) md l s h=some t->Ev fun k=>aF (lC e k) md l s h=some t
 |[],s,h,t,hz=>Ev.all fun k=>hz
 |o::l,s,h,t,hz=>by
  simp only[aF,bq]at hz;split at hz
  ·grind
  ·rename_i t1 ht1;refine((aeb ht1).and (GR hz)).mono fun k hk=>?_;grind[aF,bq]
theorem TM{d}{op}{s}{h}{f}{t}(hz:nF s d f (step (fS e) md (d.getD 0) op s h)=some t):Ev fun k=>nF s d f (step (lC e k) md (d.getD 0) op s h)=some t:=by
 cases hs:step (fS e) md (d.getD 0) op s h with
 |none=>rw[hs]at hz;cases hz
 |some r=>
  exact(Xa hs).mono fun k hk=>by grind
theorem aec{o}{s}{h}{t}(hz:ab3 (fS e) md o s h=some t):Ev fun k=>ab3 (lC e k) md o s h=some t:=by
 unfold ab3 at hz⊢;cases hg:o.g with
 |none=>grind[TM]
 |some g=>
  rw[hg]at hz;simp only at hz⊢;unfold rh at hz⊢;split at hz
  ·split at hz
   all_goals simp_all[if_pos,TM,if_neg,Ev.all]
  all_goals grind[Ev.all]
theorem OK:∀ {l} {s} {h} {t},iw (fS e) md l s h=some t->Ev fun k=>iw (lC e k) md l s h=some t
 |[],s,h,t,hz=>Ev.all fun k=>hz
 |o::l,s,h,t,hz=>by
  simp only[iw,avq]at hz;obtain⟨r,e1,q,e2,e3⟩:=hz;refine((aec e1).and (OK e2)).mono fun k hk=>?_;simp only[iw,hk.1,hk.2,avw,e3]
theorem aed{l}{ps}{s}{h}{t}(hz:ri (fS e) md l ps s h=some t):Ev fun k=>ri (lC e k) md l ps s h=some t:=by
 unfold ri at hz⊢;cases hb:Bp ps with
 |none=>
  rw[hb]at hz;simp only[BE,avq]at hz;obtain⟨q,e1,e2⟩:=hz;exact(OK e1).mono fun k hk=>by simp only[BE,avw, *]
 |some b=>
  rw[hb]at hz;simp only[Gz,avq]at hz;obtain⟨q,e1,e2⟩:=hz;split at e2
  ·simp only[bq]at e2;split at e2
   ·grind
   ·exact((OK e1).and (GR e2)).mono fun k hk=>by simp_all[Gz,avw,if_pos,bq]
  grind
theorem Xc{c}{ks hs}(ih:∀ {s} {h} {r},ai (fS e) md c s h=some r->Ev fun k=>cI (lC e k) md k c s h=some r):
  ∀m {s} {h} {r},td (ai (fS e) md c) ks hs m s h=some r->∃n,∀k,n<=k->∀j,n<=j->td (cI (lC e k) md k c) ks hs j s h=some r
 |0,s,h,r,hz=>by grind[td]
 |m+1,s,h,r,hz=>by
  simp only[td]at hz;split at hz
  ·rename_i hc;cases hb:ai (fS e) md c (mk .any (fun i=>gE hs (s i)) ks) (mk .dead h hs)with
   |none=>grind
   |some q=>
    rw[hb]at hz;obtain⟨n1,h1⟩:=ih hb;obtain⟨ex,t⟩:=q;cases ex with
    |normal=>
     obtain⟨n2,h2⟩:=Xc ih m hz;refine⟨max n1 n2+1,fun k hk j hj=>?_⟩;obtain⟨j,rfl⟩:∃j',j=j'+1:=⟨j-1,by omega⟩;simp only[td,if_pos hc,h1 k ω];grind
    |exit id=>
     refine⟨n1+1,fun k hk j hj=>?_⟩;obtain⟨j,rfl⟩:∃j',j=j'+1:=⟨j-1,by omega⟩;simp only[td,if_pos hc,h1 k ω];omega
    |ret=>
     refine⟨n1+1,fun k hk j hj=>?_⟩;obtain⟨j,rfl⟩:∃j',j=j'+1:=⟨j-1,by omega⟩;simp only[td,if_pos hc,h1 k ω];omega
  grind
theorem lE:∀c {s} {h} {r},ai (fS e) md c s h=some r->Ev fun k=>cI (lC e k) md k c s h=some r
 | .skip,s,h,r,hz=>Ev.all fun k=>hz
 | .ops ks l,s,h,r,hz=>by
  simp only[ai,bq]at hz;split at hz
  ·grind
  ·rename_i t1 ht1;exact(GR ht1).mono fun k hk=>by grind[cI,bq]
 | .dops ks l ps,s,h,r,hz=>by
  simp only[ai,bq]at hz;split at hz
  ·grind
  ·rename_i t1 ht1;exact(aed ht1).mono fun k hk=>by grind[cI,bq]
 | .seq a b,s,h,r,hz=>by
  simp only[ai,cS]at hz;split at hz
  ·grind
  ·rename_i t1 ht1;exact((lE a ht1).and (lE b hz)).mono fun k hk=>by grind[cI,cS]
  ·rename_i i t1 ht1;exact(lE a ht1).mono fun k hk=>by grind[cI,cS]
  ·rename_i t1 ht1;exact(lE a ht1).mono fun k hk=>by grind[cI,cS]
 | .cond c a b,s,h,r,hz=>by
  simp only[ai,rj]at hz;split at hz
  ·rename_i t ht;cases t with
   |true=>simp_all[lE,cI,rj,if_true]
   |false=>simp_all[lE,cI,rj,awo,if_false]
  grind
 | .block id ks a,s,h,r,hz=>by
  simp only[ai,ah]at hz;split at hz
  ·grind
  ·rename_i t1 ht1;exact(lE a ht1).mono fun k hk=>by grind[cI,ah]
  ·rename_i i t1 ht1;exact(lE a ht1).mono fun k hk=>by grind[cI,ah]
  ·rename_i t1 ht1;exact(lE a ht1).mono fun k hk=>by grind[cI,ah]
 | .loop ks hs a,s,h,r,hz=>by
  obtain⟨m,hm⟩:=pu.1 hz;obtain⟨n,hn⟩:=Xc (fun hh=>lE a hh) m (hm m (avt _));exact⟨n,fun k hk=>by grind[cI]⟩
 | .exit id,s,h,r,hz=>Ev.all fun k=>hz
 | .ret,s,h,r,hz=>Ev.all fun k=>hz
 | .frz is a,s,h,r,hz=>by
  simp only[ai,bq]at hz;split at hz
  ·cases hz
  ·rename_i t1 ht1;exact(lE a hz).mono fun k hk=>by simp only[cI,bq, *]
theorem IH{f}{fd}{args}{hs}{r}(hE:e.E f=none)(hC:e.C f=some fd)(hz:TK (fS e) {e.md with nm:=e.md.keep f} fd args hs=some r):fS e f args hs=some r:=by
 unfold fS;rw[pu];unfold TK at hz;split at hz
 ·cases hx:ai (fS e) {e.md with nm:=e.md.keep f} fd.body (te args) (ao hs)with
  |none=>rw[hx]at hz;cases hz
  |some q=>
   obtain⟨n,hn⟩:=lE fd.body hx;refine⟨n+1,fun k hk=>?_⟩;obtain⟨k,rfl⟩:∃k',k=k'+1:=⟨k-1,by omega⟩
   simp_all[lC,avw,Ii,if_pos]
 grind
theorem GT{f}{g}{args}{hs}(hE:e.E f=some g):fS e f args hs=g args hs:=by
 unfold fS;rw[←TJ]
 simp_all[lC,funext,BL]
theorem Xd{P}{I}(he:EnvOK P I e)(f):pG P I (e.md.keep f) f (fS e f):=by
 intro args obs obs' res w X ρ vals n hz;obtain⟨m,hm⟩:=pu.1 hz;exact abB he m f (hm m (avt _))
end
section
variable {call:ic} {md:Mode} {s:ak} {h:ac}
@[go_sem] theorem atF:ai call md .skip s h=some (.normal,⟨s,h⟩):=θ _
@[go_sem] theorem auY(ks l):ai call md (.ops ks l) s h=bq (aF call md l s h) fun s h=>some (.normal,⟨mk .any s ks,h⟩):=θ _
@[go_sem] theorem auZ(is a):ai call md (.frz is a) s h=bq (Ag md.nm is s h) (ai call md a):=θ _
@[go_sem] theorem atG(ks l ps):ai call md (.dops ks l ps) s h=bq (ri call md l ps s h) fun s h=>some (.normal,⟨mk .any s ks,h⟩):=θ _
@[go_sem] theorem ZJ(a b):ai call md (.seq a b) s h=cS (ai call md a s h) (ai call md b):=θ _
@[go_sem] theorem atH(c a b):ai call md (.cond c a b) s h=rj (ai call md a s h) (ai call md b s h) (ev s c):=θ _
@[go_sem] theorem arm(id ks a):ai call md (.block id ks a) s h=ah id ks (ai call md a s h):=θ _
@[go_sem] theorem atI(ks hs a):ai call md (.loop ks hs a) s h=av (ai call md a) ks hs s h:=θ _
@[go_sem] theorem atJ(i):ai call md (.exit i) s h=some (.exit i,⟨s,h⟩):=θ _
@[go_sem] theorem au0:ai call md .ret s h=some (.ret,⟨s,h⟩):=θ _
@[go_sem] theorem ajw(s h f):cS (some (.normal,⟨s,h⟩)) f=f s h:=θ _
@[go_sem] theorem alZ(i t f):cS (some (.exit i,t)) f=some (.exit i,t):=θ _
@[go_sem] theorem anB(t f):cS (some (.ret,t)) f=some (.ret,t):=θ _
@[go_sem] theorem alt(id ks i t):ah id ks (some (.exit i,t))=if i=id then some (.normal,⟨mk .any t.s ks,t.h⟩)else some (.exit i,t):=θ _
@[go_sem] theorem ajc(id ks t):ah id ks (some (.normal,t))=some (.normal,⟨mk .any t.s ks,t.h⟩):=θ _
@[go_sem] theorem al0(id ks t):ah id ks (some (.ret,t))=some (.ret,t):=θ _
@[go_sem] theorem al1(a b):rj a b (.v (.bool true))=a:=θ _
@[go_sem] theorem alu(a b):rj a b (.v (.bool false))=b:=θ _
@[go_sem] theorem ajx(g t):SF g (some (.normal,t))=g t.s t.h:=θ _
@[go_sem] theorem al2(g i t):SF g (some (.exit i,t))=some (.exit i,t):=θ _
@[go_sem] theorem anC(g t):SF g (some (.ret,t))=some (.ret,t):=θ _
@[go_sem] theorem al3{β}(s h)(f:ak->ac->Option β):bq (some ⟨s,h⟩) f=f s h:=θ _
@[go_sem] theorem anD{β}(c) [Decidable c](x y)(f:ak->ac->Option β):bq (if c then x else y) f=if c then bq x f else bq y f:=by split<;>rfl
@[go_sem] theorem anE(c) [Decidable c](x y)(f):cS (if c then x else y) f=if c then cS x f else cS y f:=by split<;>rfl
@[go_sem] theorem arn:aF call md [] s h=some ⟨s,h⟩:=θ _
@[go_sem] theorem M8(d op rest):aF call md (⟨some d,none,.p op⟩::rest) s h=(gL s op).bind fun a=>aF call md rest (upd s d a) h:=by
 simp only[aF,lZ,step,Di];cases gL s op with
 |none=>rfl
 |some a=>simp only[av9,dC,pq,if_true];rfl
def cm(d n:Nat):COp:=⟨some d,none,.p (.mv (.t n))⟩
def co(d:Nat)(op:POp):COp:=⟨some d,none,.p op⟩
def cg(d j:Nat)(w:Bool)(op:POp):COp:=⟨some d,some (j,w),.p op⟩
@[go_sem] theorem atK(d n rest):aF call md (cm d n::rest) s h=aF call md rest (upd s d (s n)) h:=M8 d (.mv (.t n)) rest
@[go_sem] theorem atL(d op rest):aF call md (co d op::rest) s h=(gL s op).bind fun a=>aF call md rest (upd s d a) h:=M8 d op rest
@[go_sem] theorem atM(d j w op rest):aF call md (cg d j w op::rest) s h=bq (kW (some d) w ((gL s op).map fun a=>⟨upd s d a,h⟩) s h (s j)) (aF call md rest):=by
 have:dC md.nm s (some d) (step call md d (.p op) s h)=(gL s op).map fun a=>⟨upd s d a,h⟩:=by
  simp only[step,Di];cases gL s op with
  |none=>rfl
  |some a=>simp only[av9,dC,pq,if_true];rfl
 show bq (kW (some d) w (dC md.nm s (some d) (step call md d (.p op) s h)) s h (s j)) _=_;rw[this]
def b2(d:Nat)(op:BinOp)(a b:Nat):COp:=⟨some d,none,.p (.bin op (.t a) (.t b))⟩
def fa(d k a:Nat):COp:=⟨some d,none,.p (.fadr k (.t a))⟩
def nk(d a:Nat):COp:=⟨some d,none,.p (.nilck (.t a))⟩
def ld(d k a:Nat):COp:=⟨some d,none,.load k false (.t a)⟩
def la(d k a:Nat):COp:=⟨some d,none,.load k true (.t a)⟩
def ca(d f:Nat)(zas:List Opd):COp:=⟨some d,none,.call (.c (.fn f [] [])) zas⟩
def sr(k:Nat)(x y:Opd):COp:=⟨none,none,.store k x y⟩
def al(d:Nat)(z:List AV):COp:=⟨some d,none,.alloc z⟩
def bx(d k:Nat)(x:Opd):COp:=⟨some d,none,.box k x⟩
@[go_sem] theorem atN(d op a b rest):aF call md (b2 d op a b::rest) s h=(eA op (s a) (s b)).bind fun a=>aF call md rest (upd s d a) h:=M8 d (.bin op (.t a) (.t b)) rest
@[go_sem] theorem atO(d k a rest):aF call md (fa d k a::rest) s h=(Bl k (s a)).bind fun a=>aF call md rest (upd s d a) h:=M8 d (.fadr k (.t a)) rest
@[go_sem] theorem atP(d a rest):aF call md (nk d a::rest) s h=(Ia (s a)).bind fun a=>aF call md rest (upd s d a) h:=M8 d (.nilck (.t a)) rest
@[go_sem] theorem atQ(d k a rest):aF call md (ld d k a::rest) s h=bq (dC md.nm s (some d) (i9 h k false (s a))) (aF call md rest):=θ _
@[go_sem] theorem atS(d k a rest):aF call md (la d k a::rest) s h=bq (dC md.nm s (some d) (i9 h k true (s a))) (aF call md rest):=θ _
@[go_sem] theorem atT(d f zas rest):aF call md (ca d f zas::rest) s h=bq (dC md.nm s (some d) (bv call md h d (zas.map (ev s)) (.fn f [] []))) (aF call md rest):=θ _
@[go_sem] theorem atU(k x y rest):aF call md (sr k x y::rest) s h=bq (dC md.nm s none (adq h k (ev s x) (ev s y))) (aF call md rest):=θ _
@[go_sem] theorem atV(d z rest):aF call md (al d z::rest) s h=bq (dC md.nm s (some d) (mO h d z [])) (aF call md rest):=θ _
@[go_sem] theorem atW(d k x rest):aF call md (bx d k x::rest) s h=bq (dC md.nm s (some d) (Dh h d k (ev s x))) (aF call md rest):=θ _
@[go_sem] theorem au1(d j w op rest):aF call md (⟨d,some (j,w),op⟩::rest) s h=bq (kW d w (dC md.nm s d (step call md (d.getD 0) op s h)) s h (s j)) (aF call md rest):=θ _
@[go_sem] theorem anF(d z rest):aF call md (⟨some d,none,.alloc z⟩::rest) s h=bq (dC md.nm s (some d) (mO h d z [])) (aF call md rest):=θ _
@[go_sem] theorem aro(d k x rest):aF call md (⟨some d,none,.box k x⟩::rest) s h=bq (dC md.nm s (some d) (Dh h d k (ev s x))) (aF call md rest):=θ _
@[go_sem] theorem alv(d k z n ps rest):aF call md (⟨some d,none,.buildSl k z n ps⟩::rest) s h=bq (dC md.nm s (some d) ((eU k h (avr n z) (ps.map fun p=>(p.1,ev s p.2))).bind fun q=>df q.2.1 d k q.1 n q.2.2)) (aF call md rest):=θ _
@[go_sem] theorem aph(d k z b l c rest):aF call md (⟨some d,none,.mkSl k z b l c⟩::rest) s h=bq (dC md.nm s (some d) ((nE (ev s l) (ev s c)).bind fun p=>if p.2*b<=140737488355328 then df h d k (avr p.1 z) p.1 []else none)) (aF call md rest):=θ _
@[go_sem] theorem api(d k g x rest):aF call md (⟨some d,none,.load k g x⟩::rest) s h=bq (dC md.nm s (some d) (i9 h k g (ev s x))) (aF call md rest):=θ _
@[go_sem] theorem anG(d k x y rest):aF call md (⟨d,none,.store k x y⟩::rest) s h=bq (dC md.nm s d (adq h k (ev s x) (ev s y))) (aF call md rest):=θ _
@[go_sem] theorem arp(d k b x y rest):aF call md (⟨some d,none,.app k b x y⟩::rest) s h=bq (dC md.nm s (some d) (Lo h d k b (ev s x) (ev s y))) (aF call md rest):=θ _
@[go_sem] theorem apj(d f zas rest):aF call md (⟨some d,none,.call f zas⟩::rest) s h=bq (dC md.nm s (some d) (bv call md h d (zas.map (ev s)) (ev s f))) (aF call md rest):=θ _
@[go_sem] theorem anH(f zas rest):aF call md (⟨none,none,.call f zas⟩::rest) s h=bq (dC md.nm s none (bv call md h 0 (zas.map (ev s)) (ev s f))) (aF call md rest):=θ _
@[go_sem] theorem apk(nm)(s d x h):dC nm s (some d) (some (x,h,[]))=some ⟨upd s d x,h⟩:=by simp only[dC,pq,if_true];rfl
@[go_sem] theorem anI(nm)(s x h):dC nm s none (some (x,h,[]))=some ⟨s,h⟩:=by simp only[dC,pq,if_true];rfl
@[go_sem] theorem atX(d op):step call md d (.p op) s h=Di h (gL s op):=θ _
@[go_sem] theorem anJ(d k g x):step call md d (.load k g x) s h=i9 h k g (ev s x):=θ _
@[go_sem] theorem anK(d f zas):step call md d (.call f zas) s h=bv call md h d (zas.map (ev s)) (ev s f):=θ _
@[go_sem] theorem al4(d k x y):step call md d (.store k x y) s h=adq h k (ev s x) (ev s y):=θ _
@[go_sem] theorem al5(d z):step call md d (.alloc z) s h=mO h d z []:=θ _
@[go_sem] theorem apl(d k x):step call md d (.box k x) s h=Dh h d k (ev s x):=θ _
@[go_sem] theorem ajy(d k z n ps):step call md d (.buildSl k z n ps) s h=(eU k h (avr n z) (ps.map fun p=>(p.1,ev s p.2))).bind fun q=>df q.2.1 d k q.1 n q.2.2:=θ _
@[go_sem] theorem anL(d k z b l c):step call md d (.mkSl k z b l c) s h=(nE (ev s l) (ev s c)).bind fun p=>if p.2*b<=140737488355328 then df h d k (avr p.1 z) p.1 []else none:=θ _
@[go_sem] theorem anM(h a):Di h (some a)=some (a,h,[]):=θ _
@[go_sem] theorem al6(d st s h):kW d true st s h (.v (.bool true))=st:=θ _
@[go_sem] theorem al7(d st s h):kW d false st s h (.v (.bool false))=st:=θ _
@[go_sem] theorem al8(d st s h):kW (some d) true st s h (.v (.bool false))=some ⟨upd s d .und,h⟩:=θ _
@[go_sem] theorem al9(d st s h):kW (some d) false st s h (.v (.bool true))=some ⟨upd s d .und,h⟩:=θ _
@[go_sem] theorem alx(d w st s h):kW (some d) w st s h .und=some ⟨upd s d .und,h⟩:=θ _
@[go_sem] theorem avh(s n):ev s (.t n)=s n:=θ _
@[go_sem] theorem avi(s a):ev s (.c a)=a:=θ _
@[go_sem] theorem apm(s):evo s none=none:=θ _
@[go_sem] theorem apn(s x):evo s (some x)=some (ev s x):=θ _
@[go_sem] theorem atY{α}(s)(d)(x:α)(i):upd s d x i=if i=d then x else s i:=θ _
@[go_sem] theorem atZ{α}(d)(f:Nat->α):mk d f []=fun _=>d:=θ _
@[go_sem] theorem arq{α}(d)(f:Nat->α)(i l):mk d f (i::l)=upd (mk d f l) i (f i):=θ _
@[go_sem] theorem avj(x):gL s (.mv x)=some (ev s x):=θ _
@[go_sem] theorem at0(c a b):gL s (.pick c a b)=JJ (ev s c) (ev s a) (ev s b):=θ _
@[go_sem] theorem arr(x):gL s (.nilck x)=Ia (ev s x):=θ _
@[go_sem] theorem at1(n x):gL s (.nilq n x)=JK n (ev s x):=θ _
@[go_sem] theorem au2(op x y):gL s (.bin op x y)=eA op (ev s x) (ev s y):=θ _
@[go_sem] theorem avk(op x):gL s (.un op x)=ST op (ev s x):=θ _
@[go_sem] theorem avl(k x):gL s (.cv k x)=cvA k (ev s x):=θ _
@[go_sem] theorem au3(x):gL s (.cv0 x)=YM (ev s x):=θ _
@[go_sem] theorem au4(k x lo hi mx):gL s (.slc k x lo hi mx)=eS k (ev s x) (evo s lo) (evo s hi) (evo s mx):=θ _
@[go_sem] theorem at2(x lo hi):gL s (.slcS x lo hi)=Sy (ev s x) (evo s lo) (evo s hi):=θ _
@[go_sem] theorem at3(o x):gL s (.fadr o x)=Bl o (ev s x):=θ _
@[go_sem] theorem au5(o k g x):gL s (.fld o k g x)=SV o k g (ev s x):=θ _
@[go_sem] theorem ars(k x i):gL s (.iadrS k x i)=wG k (ev s x) (ev s i):=θ _
@[go_sem] theorem art(n k x i):gL s (.iadrA n k x i)=FH n k (ev s x) (ev s i):=θ _
@[go_sem] theorem at4(x i):gL s (.idxS x i)=JL (ev s x) (ev s i):=θ _
@[go_sem] theorem at5(n k g x i):gL s (.idxA n k g x i)=JM n k g (ev s x) (ev s i):=θ _
@[go_sem] theorem au6(i x):gL s (.ext i x)=SW i (ev s x):=θ _
@[go_sem] theorem au7(m x):gL s (.len m x)=pU m (ev s x):=θ _
@[go_sem] theorem au8(m t x y):gL s (.eqc m t x y)=SS m t (ev s x) (ev s y):=θ _
@[go_sem] theorem at6(x):gL s (.capp x)=Ow (ev s x):=θ _
@[go_sem] theorem au9(m x ys):gL s (.mnx m x ys)=Fa m (ev s x) (ys.map (ev s)):=θ _
@[go_sem] theorem aru(z ps):gL s (.build z ps)=(yu z (ps.map fun p=>(p.1,p.2.1,ev s p.2.2))).map .agg:=θ _
@[go_sem] theorem ava(f a b):gL s (.mkF f a b)=some (.fn f (a.map (ev s)) (b.map (ev s))):=θ _
@[go_sem] theorem anN(a b):JJ (.v (.bool true)) a b=some a:=θ _
@[go_sem] theorem ama(a b):JJ (.v (.bool false)) a b=some b:=θ _
@[go_sem] theorem apo(id sub k i j):Ia (.ref id sub k i j)=some (.ref id sub k i j):=θ _
@[go_sem] theorem apq(cs):Ia (.ipt cs)=some (.ipt cs):=θ _
@[go_sem] theorem arv(f a b):Ia (.fn f a b)=some (.fn f a b):=θ _
theorem pH(op a b):eA op (.v a) (.v b)=(kP op a b).map .v:=θ _
@[go_sem] theorem arw(k a b):eA .add (.v (.int k a)) (.v (.int k b))=some (.v (.int k (k.wrap (a+b)))):=by simp[pH,kP,ug]
@[go_sem] theorem arx(k a b):eA .sub (.v (.int k a)) (.v (.int k b))=some (.v (.int k (k.wrap (a-b)))):=by simp[pH,kP,ug]
@[go_sem] theorem ary(k a b):eA .mul (.v (.int k a)) (.v (.int k b))=some (.v (.int k (k.wrap (a*b)))):=by simp[pH,kP,ug]
@[go_sem] theorem OL(k a b):eA .quo (.v (.int k a)) (.v (.int k b))=if b=0 then none else some (.v (.int k (k.wrap (a.tdiv b)))):=by simp only[pH,kP,ug,if_true];split<;>rfl
@[go_sem] theorem JZ(k a b):eA .rem (.v (.int k a)) (.v (.int k b))=if b=0 then none else some (.v (.int k (a.tmod b))):=by simp only[pH,kP,ug,if_true];split<;>rfl
@[go_sem] theorem Xe(k a b):eA .and (.v (.int k a)) (.v (.int k b))=some (.v (.int k (k.wrap ((BitVec.ofInt k.bits a&&&BitVec.ofInt k.bits b).toNat)))):=by simp[pH,kP,ug]
@[go_sem] theorem M9(k a b):eA .or (.v (.int k a)) (.v (.int k b))=some (.v (.int k (k.wrap ((BitVec.ofInt k.bits a|||BitVec.ofInt k.bits b).toNat)))):=by simp[pH,kP,ug]
@[go_sem] theorem J0(k k' a b):eA .shl (.v (.int k a)) (.v (.int k' b))=if b<0 then none else some (.v (.int k (k.wrap (a*2^ (min b.toNat k.bits))))):=by simp only[pH,kP,adN];split<;>rfl
@[go_sem] theorem FO(k k' a b):eA .shr (.v (.int k a)) (.v (.int k' b))=if b<0 then none else some (.v (.int k (a.fdiv (2^ (min b.toNat k.bits))))):=by simp only[pH,kP,adO];split<;>rfl
@[go_sem] theorem arz(k a b):eA .lss (.v (.int k a)) (.v (.int k b))=some (B (decide (a<b))):=by simp[pH,kP,ug]
@[go_sem] theorem arA(k a b):eA .leq (.v (.int k a)) (.v (.int k b))=some (B (decide (a<=b))):=by simp[pH,kP,ug]
@[go_sem] theorem arB(k a b):eA .gtr (.v (.int k a)) (.v (.int k b))=some (B (decide (b<a))):=by simp[pH,kP,ug]
@[go_sem] theorem arC(k a b):eA .geq (.v (.int k a)) (.v (.int k b))=some (B (decide (b<=a))):=by simp[pH,kP,ug]
@[go_sem] theorem arD(k a b):eA .eql (.v (.int k a)) (.v (.int k b))=some (B (decide (a=b))):=by simp[pH,kP,ug];rfl
@[go_sem] theorem arE(k a b):eA .neq (.v (.int k a)) (.v (.int k b))=some (B (!decide (a=b))):=by simp[pH,kP,ug,bne];rfl
@[go_sem] theorem at7(k a):ST .neg (.v (.int k a))=some (.v (.int k (k.wrap (0-a)))):=θ _
@[go_sem] theorem at8(k a):ST .xor (.v (.int k a))=some (.v (.int k (k.wrap ((BitVec.ofInt k.bits (if k.signed then-1 else k.max)^^^BitVec.ofInt k.bits a).toNat)))):=θ _
@[go_sem] theorem arF(k a b):eA .xor (.v (.int k a)) (.v (.int k b))=some (.v (.int k (k.wrap ((BitVec.ofInt k.bits a^^^BitVec.ofInt k.bits b).toNat)))):=by simp[pH,kP,ug]
@[go_sem] theorem at9(b):ST .not (.v (.bool b))=some (B (!b)):=θ _
@[go_sem] theorem aua(k k' n):cvA k (.v (.int k' n))=some (.v (.int k (k.wrap n))):=θ _
@[go_sem] theorem apr(o id sub k i j):Bl o (.ref id sub k i j)=some (.ref id sub k i (j+o)):=θ _
@[go_sem] theorem aps(o cs):Bl o (.ipt cs)=some (.ipt (cs.drop o)):=θ _
@[go_sem] theorem arG(o k g cs):SV o k g (.agg cs)=kF k g cs o:=θ _
@[go_sem] theorem anO(k cs o):kF k false cs o=cs[o]?:=θ _
@[go_sem] theorem apt(k cs o):kF k true cs o=if o+k<=cs.length then some (.agg ((cs.drop o).take k))else none:=θ _
@[go_sem] theorem arH(k rows k' i):wG k (.sl k rows) (.v (.int k' i))=bp rows i:=by simp[wG]
@[go_sem] theorem apu(k id sub lo n k' i):wG k (.rsl id sub k lo n) (.v (.int k' i))=if 0<=i/\i<n then some (.ref id sub k (lo+i.toNat) 0)else none:=by simp[wG]
@[go_sem] theorem anP(n k id sub k' a j kk i):FH n k (.ref id sub k' a j) (.v (.int kk i))=if 0<=i/\i<n then some (.ref id sub k' a (j+i.toNat*k))else none:=θ _
@[go_sem] theorem anQ(n k cs kk i):FH n k (.ipt cs) (.v (.int kk i))=if 0<=i/\i<n then some (.ipt (cs.drop (i.toNat*k)))else none:=θ _
@[go_sem] theorem arI(i vs):SW i (.tup vs)=vs[i]?:=θ _
@[go_sem] theorem aub(k rows):pU false (.sl k rows)=some (I rows.length):=θ _
@[go_sem] theorem arJ:pU false .emp=some (I 0):=θ _
@[go_sem] theorem arK(a b c d n):pU false (.rsl a b c d n)=some (I n):=θ _
@[go_sem] theorem arL(x):pU true (.v (.string x))=some (I x.size):=θ _
@[go_sem] theorem apv(m a):Fa m a []=some a:=θ _
@[go_sem] theorem anR(m a b l):Fa m a (b::l)=(Ox m a b).bind fun c=>Fa m c l:=θ _
@[go_sem] theorem arM(k k' x y):Ox true (.v (.int k x)) (.v (.int k' y))=some (.v (.int k (if y<x then y else x))):=θ _
@[go_sem] theorem arN(k k' x y):Ox false (.v (.int k x)) (.v (.int k' y))=some (.v (.int k (if x<y then y else x))):=θ _
@[go_sem] theorem apw(m a b):SS m 0 (.v (.bool a)) (.v (.bool b))=some (B (m != (a==b))):=θ _
@[go_sem] theorem anS(z):yu z []=some z:=θ _
@[go_sem] theorem amb(z o k a ps):yu z ((o,k,a)::ps)=(iv a).bind fun cs=>if cs.length=k/\o+k<=z.length then yu (setRow z o cs) ps else none:=θ _
@[go_sem] theorem anT(cs):iv (.agg cs)=some cs:=θ _
@[go_sem] theorem arO(x):iv (.v x)=some [.v x]:=θ _
@[go_sem] theorem anU:iv .emp=some [.emp]:=θ _
@[go_sem] theorem apx(k r):iv (.sl k r)=some [.sl k r]:=θ _
@[go_sem] theorem anV(a b c d e):iv (.rsl a b c d e)=some [.rsl a b c d e]:=θ _
@[go_sem] theorem anW(a b c d e):iv (.ref a b c d e)=some [.ref a b c d e]:=θ _
@[go_sem] theorem apy(f a b):iv (.fn f a b)=some [.fn f a b]:=θ _
@[go_sem] theorem amc(r j):setRow r j []=r:=θ _
@[go_sem] theorem aly(r j c cs):setRow r j (c::cs)=setRow (r.set j c) (j+1) cs:=θ _
@[go_sem] theorem apz(h k g cs):i9 h k g (.ipt cs)=(kF k g cs 0).map fun a=>(a,h,[]):=θ _
@[go_sem] theorem apA(h k g id k0 i j):i9 h k g (.ref id none k0 i j)=Bn h k g id k0 i j (h id):=θ _
@[go_sem] theorem apB(h k g id p k0 i j):i9 h k g (.ref id (some p) k0 i j)=og h k g k0 i j (kh p (h id)):=θ _
@[go_sem] theorem apC(h k g id k0 i j cs):Bn h k g id k0 i j (.bx cs)=Gy h id (i*k0+j) k g cs:=θ _
@[go_sem] theorem apD(h k g id k0 i j k' rows):Bn h k g id k0 i j (.ar k' rows)=og h k g k0 i j (some (k',rows)):=θ _
@[go_sem] theorem apE(h k g id k0 i j k' rows):Bn h k g id k0 i j (.fz k' rows)=og h k g k0 i j (some (k',rows)):=θ _
@[go_sem] theorem amd(h id p k cs):Gy h id p k false cs=(cs[p]?).map fun c=>(Bm id p c,h,[]):=θ _
@[go_sem] theorem anX(h id p k cs):Gy h id p k true cs=if p+k<=cs.length then(if((cs.drop p).take k).any bB then some (.agg (((cs.map lA).drop p).take k),upd h id (.bx (cs.map lA)),[(id,true)])else some (.agg ((cs.drop p).take k),h,[]))else none:=θ _
@[go_sem] theorem arP(id p x):Bm id p (.v x)=.v x:=θ _
@[go_sem] theorem anY(id p):Bm id p .emp=.emp:=θ _
@[go_sem] theorem apF(id p k r):Bm id p (.sl k r)=.sl k r:=θ _
@[go_sem] theorem anZ(id p a b c d e):Bm id p (.ref a b c d e)=.ref a b c d e:=θ _
@[go_sem] theorem apG(id p f a b):Bm id p (.fn f a b)=.fn f a b:=θ _
@[go_sem] theorem an0(id p k r):Bm id p (.osl k r)=.rsl id (some p) k 0 r.length:=θ _
@[go_sem] theorem ame(h k g i j k' rows):og h k g k' i j (some (k',rows))=(rows[i]?).bind fun row=>(kF k g row j).map fun a=>(a,h,[]):=by simp[og]
@[go_sem] theorem arQ(x):bB (.v x)=false:=θ _
@[go_sem] theorem an1:bB .emp=false:=θ _
@[go_sem] theorem apH(k r):bB (.sl k r)=false:=θ _
@[go_sem] theorem an2(k r):bB (.osl k r)=true:=θ _
@[go_sem] theorem an3(a b c d e):bB (.ref a b c d e)=false:=θ _
@[go_sem] theorem apI(f a b):bB (.fn f a b)=false:=θ _
@[go_sem] theorem auc(x):aD (.v x)=true:=θ _
@[go_sem] theorem apJ:aD .emp=true:=θ _
@[go_sem] theorem arR(k r):aD (.sl k r)=true:=θ _
@[go_sem] theorem apK(a b c d e):aD (.rsl a b c d e)=false:=θ _
@[go_sem] theorem apL(a b c d e):aD (.ref a b c d e)=false:=θ _
@[go_sem] theorem apM(f):aD (.fn f [] [])=true:=θ _
@[go_sem] theorem arS(cs):dat (.agg cs)=cs.all aD:=θ _
@[go_sem] theorem avb(x):dat (.v x)=true:=θ _
@[go_sem] theorem arT:dat .emp=true:=θ _
@[go_sem] theorem aud(k r):dat (.sl k r)=true:=θ _
@[go_sem] theorem arU(a b c d e):dat (.rsl a b c d e)=false:=θ _
@[go_sem] theorem arV(a b c d e):dat (.ref a b c d e)=false:=θ _
@[go_sem] theorem arW(f):dat (.fn f [] [])=true:=θ _
@[go_sem] theorem apN(h d cs ks):mO h d cs ks=B4 h d (.ref d none 0 0 0) (.bx cs) ks (h d):=θ _
@[go_sem] theorem an4(h d a o ks):B4 h d a o ks .dead=some (a,upd h d o,ks):=θ _
@[go_sem] theorem amf(h d k rows n ks):df h d k rows n ks=B4 h d (.rsl d none k 0 n) (.ar k rows) ks (h d):=θ _
@[go_sem] theorem aue(h d k x):Dh h d k x=(iv x).bind fun xs=>if xs.length=k then(if xs.all aD then mO h d xs []else(mO h d (avr k .any) []).bind (Lm d 0 xs))else none:=θ _
@[go_sem] theorem ajz(k h rows):eU k h rows []=some (rows,h,[]):=θ _
@[go_sem] theorem ajd(k h rows i a ps):eU k h rows ((i,a)::ps)=(iv a).bind fun cs=>if cs.length=k/\i<rows.length then(i8 h cs).bind fun q=>(eU k q.2.1 (rows.set i q.1) ps).bind fun r=>some (r.1,r.2.1,q.2.2++r.2.2)else none:=θ _
@[go_sem] theorem an5(h):i8 h []=some ([],h,[]):=θ _
@[go_sem] theorem amg(h a l):i8 h (a::l)=(fQ h a).bind fun p=>(i8 p.2.1 l).bind fun q=>some (p.1::q.1,q.2.1,p.2.2++q.2.2):=θ _
@[go_sem] theorem auf(h x):fQ h (.v x)=some (.v x,h,[]):=θ _
@[go_sem] theorem apO(h):fQ h .emp=some (.emp,h,[]):=θ _
@[go_sem] theorem arX(h k r):fQ h (.sl k r)=some (.sl k r,h,[]):=θ _
@[go_sem] theorem arY(h f):fQ h (.fn f [] [])=some (.fn f [] [],h,[]):=θ _
@[go_sem] theorem apP(h id k lo n):fQ h (.rsl id none k lo n)=mN h id k lo n (h id):=θ _
@[go_sem] theorem an6(h id p k lo n):fQ h (.rsl id (some p) k lo n)=Ic h id p k lo n (h id):=θ _
@[go_sem] theorem arZ(h id k lo n rows):mN h id k lo n (.ar k rows)=if lo+n<=rows.length then some (pp k lo n rows,upd h id (.fz k rows),[])else none:=by simp[mN]
@[go_sem] theorem ar0(h id k lo n rows):mN h id k lo n (.fz k rows)=if lo+n<=rows.length then some (pp k lo n rows,h,[])else none:=by simp[mN]
@[go_sem] theorem ar1(k lo n rows):pp k lo n rows=.sl k ((rows.drop lo).take n):=θ _
@[go_sem] theorem an7(h k id k0 i j x):adq h k (.ref id none k0 i j) x=(iv x).bind fun xs=>if xs.length=k then Fc h k id k0 i j xs (h id)else none:=θ _
@[go_sem] theorem an8(h k id p k0 i j x):adq h k (.ref id (some p) k0 i j) x=(iv x).bind fun xs=>if xs.length=k then(i8 h xs).bind fun q=>Es q.2.1 k id p k0 i j q.1 q.2.2 (q.2.1 id)else none:=θ _
@[go_sem] theorem ar2(h k id k0 i j xs cs):Fc h k id k0 i j xs (.bx cs)=Oy h id (i*k0+j) k xs cs:=θ _
@[go_sem] theorem ar3(h k id k0 i j xs k' rows):Fc h k id k0 i j xs (.ar k' rows)=(i8 h xs).bind fun q=>Oz q.2.1 id k k0 i j q.1 q.2.2 (q.2.1 id):=θ _
@[go_sem] theorem ar4(h id k k0 i j xs ks k' rows):Oz h id k k0 i j xs ks (.ar k' rows)=(qZ k k0 i j xs k' rows).map fun q=>(.und,upd h id (.ar k' q),ks):=θ _
@[go_sem] theorem ar5(k k0 i j cs rows):qZ k k0 i j cs k0 rows=(rows[i]?).bind fun row=>if j+k<=row.length then some (rows.set i (setRow row j cs))else none:=by simp[qZ]
@[go_sem] theorem ar6(h id p k xs cs):Oy h id p k xs cs=if p+k<=cs.length then(if xs.all aD then some (.und,upd h id (.bx (setRow cs p xs)),if((cs.drop p).take k).any bB then [(id,true)]else [])else(rX h id p xs.length xs).map fun q=>(.und,q.1,q.2))else none:=θ _
@[go_sem] theorem ar7(hs x):gE hs (.v x)=.v x:=θ _
@[go_sem] theorem an9(hs):gE hs .emp=.emp:=θ _
@[go_sem] theorem apQ(hs k r):gE hs (.sl k r)=.sl k r:=θ _
@[go_sem] theorem aoa(hs):gE hs .any=.any:=θ _
@[go_sem] theorem aob(hs cs):gE hs (.ipt cs)=.ipt cs:=θ _
@[go_sem] theorem aoc(hs id sub k lo n):gE hs (.rsl id sub k lo n)=if hs.contains id then .rsl id sub k lo n else .any:=θ _
@[go_sem] theorem aod(hs id sub k lo n):gE hs (.ref id sub k lo n)=if hs.contains id then .ref id sub k lo n else .any:=θ _
@[go_sem] theorem aoe(hs cs):gE hs (.agg cs)=if cs.all (knownL hs)then .agg cs else .any:=θ _
@[go_sem] theorem aof(hs f):gE hs (.fn f [] [])=.fn f [] []:=θ _
@[go_sem] theorem apR(hs f a b):gE hs (.fn f a b)=if a.all (knownL hs)&&b.all (knownL hs)then .fn f a b else .any:=θ _
@[go_sem] theorem apS(hs x):knownL hs (.v x)=true:=θ _
@[go_sem] theorem amh(hs):knownL hs .emp=true:=θ _
@[go_sem] theorem aog(hs k r):knownL hs (.sl k r)=true:=θ _
@[go_sem] theorem ami(hs id a b c d):knownL hs (.ref id a b c d)=hs.contains id:=θ _
@[go_sem] theorem ajA(hs):az hs .dead=true:=θ _
@[go_sem] theorem amj(hs k r):az hs (.ar k r)=true:=θ _
@[go_sem] theorem amk(hs k r):az hs (.fz k r)=true:=θ _
@[go_sem] theorem aml(hs cs):az hs (.bx cs)=cs.all (jI hs):=θ _
@[go_sem] theorem aoh(hs x):jI hs (.v x)=true:=θ _
@[go_sem] theorem alz(hs):jI hs .emp=true:=θ _
@[go_sem] theorem amm(hs k r):jI hs (.sl k r)=true:=θ _
@[go_sem] theorem alA(hs k r):jI hs (.osl k r)=true:=θ _
@[go_sem] theorem alB(hs id a b c):jI hs (.ref id none a b c)=hs.contains id:=by simp[jI,bB,aX,bo]
@[go_sem] theorem alC(hs f):jI hs (.fn f [] [])=true:=θ _
@[go_sem] theorem amn{α β:Type}(f:α->β)(a):Option.map f (some a)=some (f a):=θ _
@[go_sem] theorem amo{α β:Type}(f:α->β):Option.map f none=none:=θ _
@[go_sem] theorem alD{α β:Type}(f:α->Option β)(a):(some a).bind f=f a:=θ _
@[go_sem] theorem alE{α β:Type}(f:α->Option β):none.bind f=none:=θ _
@[go_sem] theorem alF{α:Type}(a b:α):(some a).getD b=a:=θ _
@[go_sem] theorem aoi{α:Type}(p:α->Bool):[].all p=true:=θ _
@[go_sem] theorem amp{α:Type}(p:α->Bool)(a l):(a::l).all p=(p a&&l.all p):=θ _
@[go_sem] theorem aoj{α:Type}(p:α->Bool):[].any p=false:=θ _
@[go_sem] theorem amq{α:Type}(p:α->Bool)(a l):(a::l).any p=(p a||l.any p):=θ _
@[go_sem] theorem amr{α:Type}(a:α)(l):(a::l)[0]?=some a:=θ _
@[go_sem] theorem ams{α:Type}(a:α)(l)(n):(a::l)[n+1]?=l[n]?:=θ _
@[go_sem] theorem aok{α β:Type}(f:α->β):[].map f=[]:=θ _
@[go_sem] theorem amt{α β:Type}(f:α->β)(a l):(a::l).map f=f a::l.map f:=θ _
@[go_sem] theorem apT{α β:Type}(f:α->List β):[].flatMap f=[]:=θ _
@[go_sem] theorem aol{α β:Type}(f:α->List β)(a l):(a::l).flatMap f=f a++l.flatMap f:=θ _
@[go_sem] theorem aom{α:Type}(l:List α):l++[]=l:=avE l
@[go_sem] theorem aon{α:Type}(l:List α):[]++l=l:=θ _
@[go_sem] theorem amu{α:Type}(a:α)(l r):(a::l)++r=a::(l++r):=θ _
@[go_sem] theorem aoo{α:Type}:([]:List α).length=0:=θ _
@[go_sem] theorem amv{α:Type}(a:α)(l):(a::l).length=l.length+1:=θ _
@[go_sem] theorem alG{α:Type}(l:List α):l.drop 0=l:=θ _
@[go_sem] theorem alH{α:Type}(a:α)(l)(n):(a::l).drop (n+1)=l.drop n:=θ _
@[go_sem] theorem alI{α:Type}(l:List α):l.take 0=[]:=θ _
@[go_sem] theorem alJ{α:Type}(a:α)(l)(n):(a::l).take (n+1)=a::l.take n:=θ _
@[go_sem] theorem ajB{α:Type}(p:α->Bool):[].filter p=[]:=θ _
@[go_sem] theorem amw{α:Type}(a b:α)(l):(a::l).set 0 b=b::l:=θ _
@[go_sem] theorem amx{α:Type}(a b:α)(l)(n):(a::l).set (n+1) b=a::l.set n b:=θ _
@[go_sem] theorem aug{α:Type}(a:α):avr 0 a=[]:=θ _
@[go_sem] theorem auh{α:Type}(a:α):avr 1 a=[a]:=θ _
@[go_sem] theorem aui{α:Type}(a:α):avr 2 a=[a,a]:=θ _
@[go_sem] theorem auj{α:Type}(a:α):avr 3 a=[a,a,a]:=θ _
@[go_sem] theorem auk{α:Type}(a:α):avr 4 a=[a,a,a,a]:=θ _
@[go_sem] theorem aul{α:Type}(a:α):avr 5 a=[a,a,a,a,a]:=θ _
@[go_sem] theorem avm:decide True=true:=θ _
@[go_sem] theorem avn:decide False=false:=θ _
@[go_sem] theorem ar8(b):(true&&b)=b:=θ _
@[go_sem] theorem ar9(b):(false&&b)=false:=θ _
@[go_sem] theorem aum(b):(true||b)=true:=θ _
@[go_sem] theorem aun(b):(false||b)=b:=θ _
@[go_sem] theorem asa:(!true)=false:=θ _
@[go_sem] theorem asb:(!false)=true:=θ _
@[go_sem] theorem asc(b):(b&&true)=b:=Bool.and_true b
@[go_sem] theorem avo:(false=true)=False:=σ
@[go_sem] theorem avc{α:Type}(a:α):(a=a)=True:=σ
@[go_sem] theorem auo(p):(True/\p)=p:=σ
@[go_sem] theorem asd(p):(p/\True)=p:=σ
@[go_sem] theorem aup(p):(False/\p)=False:=σ
@[go_sem] theorem auq:(¬False)=True:=σ
@[go_sem] theorem aur:(¬True)=False:=σ
@[go_sem] theorem apU(nm rs res n t):jV nm rs res n (some (.ret,t))=Dj nm rs res n t.s t.h:=θ _
@[go_sem] theorem alK(nm rs res n t):jV nm rs res n (some (.normal,t))=Dj nm rs res n t.s t.h:=θ _
@[go_sem] theorem aoq(nm rs res n s h):Dj nm rs res n s h=(Bq s h res).bind fun q=>if rg nm q.2.2 then pX rs n q.2.1 q.1 else none:=θ _
@[go_sem] theorem aus(nm):rg nm []=true:=pq nm
@[go_sem] theorem aor(s h):Bq s h []=some ([],h,[]):=θ _
@[go_sem] theorem ase(s h n l):Bq s h (.t n::l)=(Bq s h l).bind fun q=>some (S7 q.2.2 (s n)::q.1,q.2.1,q.2.2):=θ _
@[go_sem] theorem amy(s h n k g l):Bq s h (.cell n k g::l)=(i9 h k g (s n)).bind fun p=>(Bq (kg p.2.2 s) p.2.1 l).bind fun q=>some (S7 q.2.2 p.1::q.1,q.2.1,p.2.2++q.2.2):=θ _
@[go_sem] theorem apV(a):S7 [] a=a:=θ _
@[go_sem] theorem aos(s):kg [] s=s:=θ _
@[go_sem] theorem aut(rs h vs):pX rs 0 h vs=if jq ((vs.flatMap bZ).filter fun i=>!bj i)then(rk h vs).map fun us=>(tC (bm rs us),[])else none:=by simp[pX,cF]
@[go_sem] theorem aot(h):rk h []=some []:=θ _
@[go_sem] theorem amz(h a l):rk h (a::l)=(pW h a).bind fun b=>(rk h l).bind fun q=>some (b::q):=θ _
@[go_sem] theorem auu(h x):pW h (.v x)=some (.v x):=θ _
@[go_sem] theorem apW(h):pW h .emp=some .emp:=θ _
@[go_sem] theorem asf(h k r):pW h (.sl k r)=some (.sl k r):=θ _
@[go_sem] theorem apX(h cs):pW h (.agg cs)=(l6 h cs).map .agg:=θ _
@[go_sem] theorem apY(h id k lo n):pW h (.rsl id none k lo n)=if bj id then none else Ah k lo n (h id):=θ _
@[go_sem] theorem asg(k lo n rows):Ah k lo n (.ar k rows)=if lo+n<=rows.length then(if lo=0/\n=rows.length then some (.osl k rows)else some (pp k lo n rows))else none:=by simp[Ah]
@[go_sem] theorem ash(k lo n rows):Ah k lo n (.fz k rows)=if lo+n<=rows.length then some (pp k lo n rows)else none:=by simp[Ah]
@[go_sem] theorem aou(h):l6 h []=some []:=θ _
@[go_sem] theorem asi(h x l):l6 h (.v x::l)=(l6 h l).bind fun q=>some (.v x::q):=θ _
@[go_sem] theorem aov(h l):l6 h (.emp::l)=(l6 h l).bind fun q=>some (.emp::q):=θ _
@[go_sem] theorem apZ(h k r l):l6 h (.sl k r::l)=(l6 h l).bind fun q=>some (.sl k r::q):=θ _
@[go_sem] theorem aow(h id k lo n l):l6 h (.rsl id none k lo n::l)=(lB h (.rsl id none k lo n)).bind fun b=>(B6 b).bind fun c=>(l6 h l).bind fun q=>some (c::q):=θ _
@[go_sem] theorem ap0(h id k lo n):lB h (.rsl id none k lo n)=if bj id then none else Ah k lo n (h id):=θ _
@[go_sem] theorem ap1(k r):B6 (.osl k r)=some (.sl k r):=θ _
@[go_sem] theorem asj(k r):B6 (.sl k r)=some (.sl k r):=θ _
@[go_sem] theorem ask(a):tC [a]=a:=θ _
@[go_sem] theorem asl(a b l):tC (a::b::l)=.tup (a::b::l):=θ _
@[go_sem] theorem asm:tC []=.tup []:=θ _
@[go_sem] theorem aox(l):bm [] l=l:=by cases l<;>simp[bm]
@[go_sem] theorem amA(s):bm s []=[]:=by cases s<;>simp[bm]
@[go_sem] theorem amB(s ss a l):bm (s::ss) (a::l)=nrmV s a::bm ss l:=θ _
@[go_sem] theorem aee(a):nrmV [] a=a:=by cases a<;>simp[nrmV,nrmL,dU]
@[go_sem] theorem ap2(ss cs):nrmV ss (.agg cs)=.agg (dU ss cs):=θ _
@[go_sem] theorem auv(ss x):nrmV ss (.v x)=.v x:=by
 show nrmL _ _=_;generalize ss.headD (.o 0 [])=s;obtain⟨k,cs⟩:=s;cases k<;>simp[nrmL]
@[go_sem] theorem ap3(k cs ss):nrmV (.o (k+1) cs::ss) .emp=.sl k []:=by simp[nrmV,nrmL]
@[go_sem] theorem asn(k cs ss k' rows):nrmV (.o (k+1) cs::ss) (.sl k' rows)=.sl k' (rows.map (dU cs)):=by simp[nrmV,nrmL]
@[go_sem] theorem ap4(k cs ss k' rows):nrmV (.o (k+1) cs::ss) (.osl k' rows)=.sl k' (rows.map (dU cs)):=by simp[nrmV,nrmL]
@[go_sem] theorem TN(l):dU [] l=l:=by cases l<;>simp[dU]
@[go_sem] theorem aoy(l):dU l []=[]:=by cases l<;>simp[dU]
@[go_sem] theorem aoz(s ss a l):dU (s::ss) (a::l)=nrmL s a::dU ss l:=by simp[dU]
@[go_sem] theorem auw(cs a):nrmL (.o 0 cs) a=a:=by simp[nrmL]
@[go_sem] theorem ap5(k cs):nrmL (.o (k+1) cs) .emp=.sl k []:=by simp[nrmL]
@[go_sem] theorem aso(k cs k' rows):nrmL (.o (k+1) cs) (.sl k' rows)=.sl k' (rows.map (dU cs)):=by simp[nrmL]
@[go_sem] theorem aux(k cs x):nrmL (.o k cs) (.v x)=.v x:=by cases k<;>simp[nrmL]
@[go_sem] theorem auy(x):bZ (.v x)=[]:=θ _
@[go_sem] theorem ap6:bZ .emp=[]:=θ _
@[go_sem] theorem asp(k r):bZ (.sl k r)=[]:=θ _
@[go_sem] theorem ap7(cs):bZ (.agg cs)=cs.flatMap fC:=θ _
@[go_sem] theorem ap8(a b c d e):bZ (.rsl a b c d e)=[a]:=θ _
@[go_sem] theorem auz(x):fC (.v x)=[]:=θ _
@[go_sem] theorem ap9:fC .emp=[]:=θ _
@[go_sem] theorem asq(k r):fC (.sl k r)=[]:=θ _
@[go_sem] theorem aqa(a b c d e):fC (.rsl a b c d e)=[a]:=θ _
@[go_sem] theorem amC:jq []=true:=θ _
@[go_sem] theorem amD(a):jq [a]=true:=θ _
@[go_sem] theorem asr(args i):te args i=(args[i]?).getD .any:=θ _
@[go_sem] theorem ZK:ao []=fun _=>.dead:=by funext i;simp[ao]
@[go_sem] theorem aoA(i):bj i=decide (1000<=i/\i<2000):=θ _
def kY(h:ac)(d:Nat):Option (AV×List Ob)->Option R3
 |some (r,[])=>if cu r<=8/\bY h (2000+8*d) (cu r)=true/\jl [] r=true then some ((mat (2000+8*d) h r).1,(mat (2000+8*d) h r).2,[])else none
 |_=>none
theorem kZ{c}{ids}{n}(hn:2000<=n)(hc:bo [] c=true\/(∃k lo m,c=.rsl n none k lo m)\/∃k i j,c=.ref n none k i j):jk (dK ids) c=c:=by
 have hb:dK ids n=n:=by unfold dK;rw[if_neg ω]
 rcases hc with hc| ⟨k,lo,m,rfl⟩| ⟨k,i,j,rfl⟩
 ·cases c<;>simp[bo]at hc<;>rfl
 ·simp[jk,hb]
 ·simp[jk,hb]
theorem QH{r}{n}(hn:2000<=n)(h)(ids)(hr:fE [] r=true):dB (dK ids) (dO n h r).1=(dO n h r).1:=by
 cases r<;>simp only[fE]at hr<;>simp only[dO]
 case osl=>simp only[dB];exact kZ hn (.inr (.inl ⟨_,_,_,rfl⟩))
 case obx=>simp only[dB];exact kZ hn (.inr (.inr ⟨_,_,_,rfl⟩))
 case agg cs=>
  simp only[aX,avK]at hr;simp only[dB,AV.agg.injEq];exact(avR (g:=fun c=>c) fun c hc=>kZ hn (.inl (hr c hc))).trans (av5 cs)
 case fn f x y=>
  simp only[aX,avv,avK]at hr;simp only[dB,AV.fn.injEq,true_and];exact⟨(avR (g:=fun c=>c) fun c hc=>kZ hn (.inl (hr.1 c hc))).trans (av5 x),(avR (g:=fun c=>c) fun c hc=>kZ hn (.inl (hr.2 c hc))).trans (av5 y)⟩
 all_goals
  simp only[dB];exact kZ hn (.inl hr)
theorem QI(ids):∀ {l} {n} {h},2000<=n->l.all (fE [])=true->(cV n h l).1.map (dB (dK ids))=(cV n h l).1
 |[],n,h,_,_=>rfl
 |c::l,n,h,hn,hr=>by
  simp only[avQ,avv]at hr;simp only[cV,avY];rw[QH hn h ids hr.1,QI ids ω hr.2]
theorem aef{r}{n}(hn:2000<=n)(h)(ids)(hr:jl [] r=true):Fd (dK ids) (mat n h r).1=(mat n h r).1:=by
 cases r with
 |tup vs=>
  simp only[jl]at hr;simp only[mat,Fd,AV.tup.injEq];exact QI ids hn hr
 |_=>
  simp only[jl]at hr;have:=QH hn h ids hr;simp only[mat];simp only[dO]at this⊢;exact this
theorem QJ:∀l,re [] l=[]
 |[]=>rfl
 |a::l=>by simp[re,QJ l]
theorem xY{f}{args}(d)(hm:md.m f=[])(hd:args.all dat=true):bv call md h d args (.fn f [] [])=kY h d (call f (bm (md.sh f) args) []):=by
 have hin:=by
  have:∀l,l.all dat=true->bO h [] l=some (l,h,[]):=by
   intro l;induction l with
   |nil=>intro _;rfl
   |cons a l ih=>
    intro hd;simp only[avQ,avv]at hd;have ha:dE h 0 a=some (a,h,[]):=by
     have h1:=hd.1;by_cases hagg:∃cs,a=.agg cs
     ·obtain⟨cs,rfl⟩:=hagg;simp only[dat]at h1;simp only[dE,vT];rw[mu h1 h];rfl
     ·have h2:aD a=true:=by cases a<;>first|exact h1|exact absurd ⟨_,rfl⟩ hagg
      cases a<;>first| (simp[aD]at h2;done)|rfl|skip
    simp only[bO,List.headD_nil,ha,avw,List.tail_nil,ih hd.2,avE]
  exact this args hd
 have hids:args.flatMap bZ=[]:=by
  rw[List.flatMap_eq_nil_iff];exact fun c hc=>Tm (List.all_eq_true.1 hd c hc)
 have hren:(bm (md.sh f) args).map (dB (aW []))=bm (md.sh f) args/\(bm (md.sh f) args).all (aX [])=true:=by
  have key:∀c∈bm (md.sh f) args,dat c=true:=by
   intro c hc;obtain⟨i,hi⟩:=List.getElem?_of_mem hc;obtain⟨c0,h1,h2⟩:=xX _ _ _ _ hi;have h0:=List.all_eq_true.1 hd c0 (List.mem_of_getElem? h1);rcases h2 with rfl| ⟨ss,rfl⟩
   ·exact h0
   ·cases c0<;>simp only[dat]at h0<;>simp only[nrmV,dat]<;>try (have:=Dt (s:=ss.headD (.o 0 [])) h0;revert this;generalize nrmL _ _=q;intro this;cases q<;>first|exact this|simp[aD]at this)
    rename_i cs;rw[avK];intro c hc;obtain⟨i,hi⟩:=List.getElem?_of_mem hc;obtain⟨c0,h1,h2⟩:=Ds _ _ _ _ hi;have h3:=List.all_eq_true.1 h0 c0 (List.mem_of_getElem? h1);rcases h2 with rfl| ⟨s,rfl⟩
    ·exact h3
    ·exact Dt h3
  refine⟨(avR (g:=fun c=>c) fun c hc=>?_).trans (av5 _),?_⟩
  ·have:=key c hc;cases c<;>simp only[dat]at this<;>first|rfl|skip
   all_goals first
    | (simp[aD]at this;done)
    |skip
   ·rename_i cs;simp only[dB,AV.agg.injEq];refine(avR (g:=fun c=>c) fun c hc=>?_).trans (av5 cs);have h3:=List.all_eq_true.1 this c hc;cases c<;>simp[aD]at h3<;>rfl
   ·rename_i g x y;simp[aD]at this;obtain⟨rfl,rfl⟩:=this;rfl
  ·rw[avK];intro c hc;have:=key c hc;cases c<;>simp only[dat]at this<;>first|rfl|skip
   all_goals first
    | (simp[aD]at this;done)
    |skip
   ·rename_i cs;simp only[aX,avK];intro c hc;have h3:=List.all_eq_true.1 this c hc;cases c<;>simp[aD]at h3<;>simp[bo,h3]
   ·rename_i g x y;simp[aD]at this;obtain⟨rfl,rfl⟩:=this;rfl
 unfold bv;rw[if_neg (by simp[jn,hm])];simp only[dH,avB,avE,avw,bu,Qu,jd,hren.2,List.all_nil,awa,if_true,hren.1,av4,QJ, *];cases hr:call f (bm (md.sh f) args) []with
 |none=>rfl
 |some q=>
  obtain⟨r,os⟩:=q;cases os with
  |cons o os=>simp only[avw,dX,kY];simp
  |nil=>
   simp only[avw,dX,kY,awd,av6,true_and,cO,kG,yw,List.all_nil,avz,Bool.and_true,Eu,cF,List.range'_zero,dS,fG];by_cases hc:cu r<=8/\bY h (2000+8*d) (cu r)=true/\jl [] r=true
   ·rw[if_pos hc,if_pos hc,aef ω h [] hc.2.2];simp
   ·rw[if_neg hc,if_neg hc]
def GU(call:ic)(md:Mode)(d:Nat)(f:FuncId)(p:List AV×ac×K):Option R3:=
 jd call md p.2.1 d f (bX p.2.1 40 (bu [] (p.1.flatMap bZ)) 0) (bm (md.sh f) p.1) p.2.2
theorem GV{f}{args}(d)(hm:md.m f=[]):bv call md h d args (.fn f [] [])=(bO h [] args).bind (GU call md d f):=by
 unfold bv;rw[if_neg (by simp[jn,hm])];simp only[dH,hm,avB,avE];rfl
@[go_sem] theorem aoB{f}{zs}(d)(hm:md.m f=[])(hd:zs.all dat=true):GU call md d f (zs,h,[])=kY h d (call f (bm (md.sh f) zs) []):=by
 rw[←xY d hm hd,GV d hm];have hin:∀l,l.all dat=true->bO h [] l=some (l,h,[]):=by
  intro l;induction l with
  |nil=>intro _;rfl
  |cons a l ih=>
   intro hd;simp only[avQ,avv]at hd;have ha:dE h 0 a=some (a,h,[]):=by
    have h1:=hd.1;by_cases hagg:∃cs,a=.agg cs
    ·obtain⟨cs,rfl⟩:=hagg;simp only[dat]at h1;simp only[dE,vT];rw[mu h1 h];rfl
    ·have h2:aD a=true:=by cases a<;>first|exact h1|exact absurd ⟨_,rfl⟩ hagg
     cases a<;>first| (simp[aD]at h2;done)|rfl|skip
   simp only[bO,List.headD_nil,ha,avw,List.tail_nil,ih hd.2,avE]
 rw[hin zs hd];rfl
@[go_sem] theorem amE(h):bO h [] []=some ([],h,[]):=θ _
@[go_sem] theorem alL(h a l):bO h [] (a::l)=(dE h 0 a).bind fun p=>(bO p.2.1 [] l).bind fun q=>some (p.1::q.1,q.2.1,p.2.2++q.2.2):=θ _
@[go_sem] theorem ass(h x):dE h 0 (.v x)=some (.v x,h,[]):=θ _
@[go_sem] theorem aoC(h):dE h 0 .emp=some (.emp,h,[]):=θ _
@[go_sem] theorem aqb(h k r):dE h 0 (.sl k r)=some (.sl k r,h,[]):=θ _
@[go_sem] theorem aqc(h f a b):dE h 0 (.fn f a b)=some (.fn f a b,h,[]):=θ _
@[go_sem] theorem aoD(h a b c d):dE h 0 (.ref a none b c d)=some (.ref a none b c d,h,[]):=θ _
@[go_sem] theorem aoE(h cs):dE h 0 (.ipt cs)=some (.ipt cs,h,[]):=θ _
@[go_sem] theorem aoF(h id k lo n):dE h 0 (.rsl id none k lo n)=mN h id k lo n (h id):=θ _
@[go_sem] theorem amF(h id p k lo n):dE h 0 (.rsl id (some p) k lo n)=Ic h id p k lo n (h id):=θ _
@[go_sem] theorem aoG(h cs):dE h 0 (.agg cs)=(i8 h cs).bind fun p=>some (.agg p.1,p.2):=θ _
@[go_sem] theorem ast(h d x):kY h d (some (.v x,[]))=if bY h (2000+8*d) 1=true then some (.v x,h,[])else none:=by
 simp[kY,cu,jl,fE,aX,bo,mat,dO]
@[go_sem] theorem aeg(h d k r):kY h d (some (.sl k r,[]))=if bY h (2000+8*d) 1=true then some (.sl k r,h,[])else none:=by
 simp[kY,cu,jl,fE,aX,bo,mat,dO]
@[go_sem] theorem aoH(h d cs)(hd:cs.all aD=true):kY h d (some (.agg cs,[]))=if bY h (2000+8*d) 1=true then some (.agg cs,h,[])else none:=by
 have:cs.all (bo [])=true:=by
  rw[avK]at hd⊢;intro c hc;have:=hd c hc;cases c<;>simp[aD]at this<;>simp[bo,this]
 simp only[kY,cu,jl,fE,aX,mat,dO,this,and_true];simp
@[go_sem] theorem aoI(h d vs)(h8:vs.length<=8)(hd:vs.all dat=true):kY h d (some (.tup vs,[]))=if bY h (2000+8*d) vs.length=true then some (.tup vs,h,[])else none:=by
 have h1:vs.all (fE [])=true:=by
  rw[avK]at hd⊢;intro c hc;have:=hd c hc;cases c<;>simp only[dat]at this<;>simp only[fE,aX]<;>try (simp[aD]at this<;>simp[bo,this];done)
  rename_i cs;rw[avK]at this⊢;intro c hc;have:=this c hc;cases c<;>simp[aD]at this<;>simp[bo,this]
 have h2:∀l n g,l.all dat=true->cV n g l=(l,g):=by
  intro l;induction l with
  |nil=>intro n g _;rfl
  |cons c l ih=>
   intro n g hd;simp only[avQ,avv]at hd;have hc:dO n g c=(c,g):=by
    have:=hd.1;cases c<;>simp only[dat,aD]at this<;>first|rfl| (cases this;done)
   simp only[cV,hc,ih _ _ hd.2]
 simp only[kY,cu,jl,mat,h2 vs _ _ hd,true_and,and_true, *]
@[go_sem] theorem aoJ(h d k r):kY h d (some (.osl k r,[]))=if bY h (2000+8*d) 1=true then some (.rsl (2000+8*d) none k 0 r.length,upd h (2000+8*d) (.ar k r),[])else none:=by
 simp[kY,cu,jl,fE,mat,dO]
@[go_sem] theorem amG(h n):bY h n 0=true:=θ _
@[go_sem] theorem amH(h n m):bY h n (m+1)=(bL (h n)&&bY h (n+1) m):=θ _
@[go_sem] theorem alM:bL .dead=true:=θ _
def dh(call:ic)(md:Mode)(ps:List (Nat×Nat)):List Fp->List COp->ak->ac->Option St
 |acc,[],s,h=>if ps.all (xT acc)=true then some ⟨s,h⟩else none
 |acc,o::rest,s,h=>(ab3 call md o s h).bind fun r=>dh call md ps (acc++[r.2]) rest r.1.s r.1.h
theorem Xf(ps):∀l acc s h,dh call md ps acc l s h=(iw call md l s h).bind fun r=>if ps.all (xT (acc++r.2))=true then some r.1 else none
 |[],acc,s,h=>by simp only[dh,iw,avw,avE]
 |o::l,acc,s,h=>by
  simp only[dh,iw];cases ab3 call md o s h with
  |none=>rfl
  |some r=>
   simp only[avw];rw[Xf ps l];cases iw call md l r.1.s r.1.h with
   |none=>rfl
   |some q=>simp only[avw,awe,List.singleton_append]
@[go_sem] theorem aoK:Bp []=none:=θ _
@[go_sem] theorem amI(p g l):Bp ((p,g)::l)=if 1000000<=p then some (p-1000000,g)else none:=θ _
theorem TO(l ps):BE call md l ps s h=dh call md ps [] l s h:=by
 rw[Xf];rfl
theorem agV(ps)(l)(h0:Bp ps=none):ri call md l ps s h=dh call md ps [] l s h:=by
 unfold ri;rw[h0];exact TO l ps
def aeh(call:ic)(md:Mode)(m g:Nat)(ps:List (Nat×Nat))(l:List COp)(s:ak)(h:ac):Option St:=
 bq (dh call md ps [] (l.take m) s h) fun s h=>bq (tw md.nm g s h) (aF call md (l.drop m))
@[go_sem] theorem aqd(l ps):ri call md l ps s h=match Bp ps with
  |some q=>aeh call md q.1 q.2 ps.tail l s h
  |none=>dh call md ps [] l s h:=by
 cases hb:Bp ps with
 |none=>exact agV ps l hb
 |some q=>
  unfold ri;rw[hb];simp only[aeh,Gz];rw[←TO _ _,BE];cases iw call md (l.take q.1) s h with
  |none=>rfl
  |some r=>
   simp only[avw];split<;>rfl
def je(call:ic)(md:Mode)(ps:List (Nat×Nat))(acc:List Fp)(rest:List COp)(s:ak)(d:Option Nat)(f:ac->Fp):Option R3->Option St
 |some (x,h,[])=>dh call md ps (acc++[f h]) rest (fR s d x) h
 |_=>none
theorem eM(ps acc)(o)(rest)(hg:o.g=none):dh call md ps acc (o::rest) s h=je call md ps acc rest s o.d (gD (o.d.getD 0) o.op s h) (step call md (o.d.getD 0) o.op s h):=by
 simp only[dh,ab3,hg,nF];cases step call md (o.d.getD 0) o.op s h with
 |none=>rfl
 |some r=>
  obtain⟨x,h',ks⟩:=r;cases ks<;>rfl
@[go_sem] theorem aqe(ps acc):dh call md ps acc [] s h=if ps.all (xT acc)=true then some ⟨s,h⟩else none:=θ _
@[go_sem] theorem J1(ps acc d op rest):dh call md ps acc (co d op::rest) s h=(gL s op).bind fun a=>dh call md ps (acc++[some ([],[])]) rest (upd s d a) h:=by
 rw[eM _ _ _ _ rfl];simp only[co,step,Di];cases gL s op<;>rfl
@[go_sem] theorem asu(ps acc d n rest):dh call md ps acc (cm d n::rest) s h=dh call md ps (acc++[some ([],[])]) rest (upd s d (s n)) h:=J1 ps acc d (.mv (.t n)) rest
@[go_sem] theorem aoL(ps acc d k g x rest):dh call md ps acc (⟨some d,none,.load k g x⟩::rest) s h=je call md ps acc rest s (some d) (fun _=>ui (ev s x)) (i9 h k g (ev s x)):=eM _ _ _ _ rfl
@[go_sem] theorem amJ(ps acc d k x y rest):dh call md ps acc (⟨d,none,.store k x y⟩::rest) s h=je call md ps acc rest s d (fun _=>Bo (ev s y) (ev s x)) (adq h k (ev s x) (ev s y)):=eM _ _ _ _ rfl
@[go_sem] theorem aoM(ps acc d f zas rest):dh call md ps acc (⟨some d,none,.call f zas⟩::rest) s h=je call md ps acc rest s (some d) (jo h d (oj (zas.map (ev s)) (ev s f))) (bv call md h d (zas.map (ev s)) (ev s f)):=eM _ _ _ _ rfl
@[go_sem] theorem amK(ps acc d z rest):dh call md ps acc (⟨some d,none,.alloc z⟩::rest) s h=je call md ps acc rest s (some d) (fun _=>some ([],[dF d])) (mO h d z []):=eM _ _ _ _ rfl
@[go_sem] theorem aqf(ps acc d k x rest):dh call md ps acc (⟨some d,none,.box k x⟩::rest) s h=je call md ps acc rest s (some d) (fun _=>if dat (ev s x)=true then some ([],[dF d])else none) (Dh h d k (ev s x)):=eM _ _ _ _ rfl
@[go_sem] theorem ajC(ps acc d k z n qs rest):dh call md ps acc (⟨some d,none,.buildSl k z n qs⟩::rest) s h=je call md ps acc rest s (some d) (fun _=>if(qs.all fun p=>dat (ev s p.2))=true then some ([],[dF d])else none) ((eU k h (avr n z) (qs.map fun p=>(p.1,ev s p.2))).bind fun q=>df q.2.1 d k q.1 n q.2.2):=eM _ _ _ _ rfl
@[go_sem] theorem asv(ps acc d op a b rest):dh call md ps acc (b2 d op a b::rest) s h=(eA op (s a) (s b)).bind fun a=>dh call md ps (acc++[some ([],[])]) rest (upd s d a) h:=J1 ps acc d (.bin op (.t a) (.t b)) rest
@[go_sem] theorem asw(ps acc d k a rest):dh call md ps acc (fa d k a::rest) s h=(Bl k (s a)).bind fun a=>dh call md ps (acc++[some ([],[])]) rest (upd s d a) h:=J1 ps acc d (.fadr k (.t a)) rest
@[go_sem] theorem asx(ps acc d a rest):dh call md ps acc (nk d a::rest) s h=(Ia (s a)).bind fun a=>dh call md ps (acc++[some ([],[])]) rest (upd s d a) h:=J1 ps acc d (.nilck (.t a)) rest
@[go_sem] theorem asy(ps acc d k a rest):dh call md ps acc (ld d k a::rest) s h=je call md ps acc rest s (some d) (fun _=>ui (s a)) (i9 h k false (s a)):=eM _ _ _ _ rfl
@[go_sem] theorem asz(ps acc d k a rest):dh call md ps acc (la d k a::rest) s h=je call md ps acc rest s (some d) (fun _=>ui (s a)) (i9 h k true (s a)):=eM _ _ _ _ rfl
@[go_sem] theorem asA(ps acc d f zas rest):dh call md ps acc (ca d f zas::rest) s h=je call md ps acc rest s (some d) (jo h d (oj (zas.map (ev s)) (.fn f [] []))) (bv call md h d (zas.map (ev s)) (.fn f [] [])):=eM _ _ _ _ rfl
@[go_sem] theorem asB(ps acc k x y rest):dh call md ps acc (sr k x y::rest) s h=je call md ps acc rest s none (fun _=>Bo (ev s y) (ev s x)) (adq h k (ev s x) (ev s y)):=eM _ _ _ _ rfl
@[go_sem] theorem asC(ps acc d z rest):dh call md ps acc (al d z::rest) s h=je call md ps acc rest s (some d) (fun _=>some ([],[dF d])) (mO h d z []):=eM _ _ _ _ rfl
@[go_sem] theorem asD(ps acc d k x rest):dh call md ps acc (bx d k x::rest) s h=je call md ps acc rest s (some d) (fun _=>if dat (ev s x)=true then some ([],[dF d])else none) (Dh h d k (ev s x)):=eM _ _ _ _ rfl
@[go_sem] theorem aoN(ps acc rest s d f x h):je call md ps acc rest s (some d) f (some (x,h,[]))=dh call md ps (acc++[f h]) rest (upd s d x) h:=θ _
@[go_sem] theorem amL(ps acc rest s f x h):je call md ps acc rest s none f (some (x,h,[]))=dh call md ps (acc++[f h]) rest s h:=θ _
theorem ajD(ps acc)(o)(j w rest)(hg:o.g=some (j,w)){b}(hb:s j=.v (.bool b)):dh call md ps acc (o::rest) s h=
  if b=w then je call md ps acc rest s o.d (gD (o.d.getD 0) o.op s h) (step call md (o.d.getD 0) o.op s h)else dh call md ps (acc++[some ([],[])]) rest (fR s o.d .und) h:=by
 simp only[dh,ab3,rh, *];split
 ·simp only[nF];cases step call md (o.d.getD 0) o.op s h with
  |none=>rfl
  |some r=>
   obtain⟨x,h',ks⟩:=r;cases ks<;>rfl
 ·rfl
def TP(call:ic)(md:Mode)(ps:List (Nat×Nat))(acc:List Fp)(rest:List COp)(s:ak)(h:ac)(d:Option Nat)(w:Bool)(op:AOp):AV->Option St
 | .v (.bool b)=>if b=w then je call md ps acc rest s d (gD (d.getD 0) op s h) (step call md (d.getD 0) op s h)else dh call md ps (acc++[some ([],[])]) rest (fR s d .und) h
 | .und=>dh call md ps (acc++[some ([],[])]) rest (fR s d .und) h
 |_=>none
@[go_sem] theorem agW(ps acc d j w op rest):dh call md ps acc (⟨d,some (j,w),op⟩::rest) s h=TP call md ps acc rest s h d w op (s j):=by
 by_cases hb:∃b,s j=.v (.bool b)
 ·obtain⟨b,hb⟩:=hb;rw[ajD ps acc ⟨d,some (j,w),op⟩ j w rest rfl hb,hb];rfl
 ·simp only[dh,ab3];cases hq:s j<;>first|rfl|skip
  rename_i x;cases x<;>first|rfl|exact absurd ⟨_,hq⟩ hb
@[go_sem] theorem asE(ps acc d j w op rest):dh call md ps acc (cg d j w op::rest) s h=TP call md ps acc rest s h (some d) w (.p op) (s j):=agW ps acc (some d) j w (.p op) rest
@[go_sem] theorem auA(ps acc rest s h d op):TP call md ps acc rest s h (some d) true op (.v (.bool true))=je call md ps acc rest s (some d) (gD d op s h) (step call md d op s h):=θ _
@[go_sem] theorem auB(ps acc rest s h d op):TP call md ps acc rest s h (some d) false op (.v (.bool false))=je call md ps acc rest s (some d) (gD d op s h) (step call md d op s h):=θ _
@[go_sem] theorem auC(ps acc rest s h d op):TP call md ps acc rest s h (some d) true op (.v (.bool false))=dh call md ps (acc++[some ([],[])]) rest (upd s d .und) h:=θ _
@[go_sem] theorem auD(ps acc rest s h d op):TP call md ps acc rest s h (some d) false op (.v (.bool true))=dh call md ps (acc++[some ([],[])]) rest (upd s d .und) h:=θ _
@[go_sem] theorem asF(ps acc rest s h d w op):TP call md ps acc rest s h (some d) w op .und=dh call md ps (acc++[some ([],[])]) rest (upd s d .und) h:=θ _
@[go_sem] theorem avp(d op h'):gD d (.p op) s h h'=some ([],[]):=θ _
@[go_sem] theorem asG(d k g x h'):gD d (.load k g x) s h h'=ui (ev s x):=θ _
@[go_sem] theorem asH(d f zas h'):gD d (.call f zas) s h h'=jo h d (oj (zas.map (ev s)) (ev s f)) h':=θ _
@[go_sem] theorem aqg(d z h'):gD d (.alloc z) s h h'=some ([],[dF d]):=θ _
@[go_sem] theorem auE(d k x h'):gD d (.box k x) s h h'=if dat (ev s x)=true then some ([],[dF d])else none:=θ _
@[go_sem] theorem amM(cs):ui (.ipt cs)=some ([],[]):=θ _
@[go_sem] theorem alN(id k i j):ui (.ref id none k i j)=some ([dF id],[]):=θ _
@[go_sem] theorem alO(id p k i j):ui (.ref id (some p) k i j)=some ([dF id],[]):=θ _
@[go_sem] theorem aoO(y id sub k i j):Bo y (.ref id sub k i j)=if dat y=true then some ([dF id],[dF id])else none:=θ _
@[go_sem] theorem auF(i):dF i=if i<2000 then i else i-i%8:=θ _
@[go_sem] theorem aoP(l f a b):oj l (.fn f a b)=a++l++b:=θ _
@[go_sem] theorem BM(h d l h'):jo h d l h'=if l.all dat=true then some ([],[2000+8*d])else if l.all yz=true then some ((bX h 40 (bu [] (l.flatMap bZ)) 0).map dF,(If h h' (bX h 40 (bu [] (l.flatMap bZ)) 0)).map dF++[2000+8*d])else none:=θ _
@[go_sem] theorem amN(l i j):xT l (i,j)=(match l[i]?,l[j]? with|some a,some b=>nT a b|_,_=>false):=θ _
@[go_sem] theorem aqh(a b):nT (some a) (some b)=(B5 a.2 (b.1++b.2)&&B5 b.2 a.1):=θ _
@[go_sem] theorem aqi(b):nT none (some b)=(b.1.isEmpty&&b.2.isEmpty):=θ _
@[go_sem] theorem aqj(a):nT (some a) none=(a.1.isEmpty&&a.2.isEmpty):=θ _
@[go_sem] theorem aqk(b):B5 [] b=true:=θ _
@[go_sem] theorem aoQ(a l b):B5 (a::l) b=(!b.contains a&&B5 l b):=θ _
@[go_sem] theorem amO(a:Nat):[].contains a=false:=θ _
@[go_sem] theorem alP(a b)(l:List Nat):(b::l).contains a=(a==b||l.contains a):=by rw[List.contains_cons]
@[go_sem] theorem aql(s d x h p l):dC false s (some d) (some (x,h,p::l))=some ⟨upd (kg (p::l) s) d x,h⟩:=θ _
@[go_sem] theorem aoR(s x h p l):dC false s none (some (x,h,p::l))=some ⟨kg (p::l) s,h⟩:=θ _
@[go_sem] theorem asI(p l s)(i):kg (p::l) s i=tv (p::l) (s i):=θ _
@[go_sem] theorem avd(ks x):tv ks (.v x)=.v x:=θ _
@[go_sem] theorem asJ(ks):tv ks .any=.any:=θ _
@[go_sem] theorem asK(ks):tv ks .und=.und:=θ _
@[go_sem] theorem asL(ks):tv ks .emp=.emp:=θ _
@[go_sem] theorem auG(ks k r):tv ks (.sl k r)=.sl k r:=θ _
@[go_sem] theorem asM(ks cs):tv ks (.ipt cs)=.ipt cs:=θ _
@[go_sem] theorem asN(ks f):tv ks (.fn f [] [])=.fn f [] []:=θ _
@[go_sem] theorem asO(ks id sub k lo n):tv ks (.rsl id sub k lo n)=if jj ks id sub=true then .any else .rsl id sub k lo n:=θ _
@[go_sem] theorem asQ(ks id sub k lo n):tv ks (.ref id sub k lo n)=if jj ks id sub=true then .any else .ref id sub k lo n:=θ _
@[go_sem] theorem asR(ks cs):tv ks (.agg cs)=if cs.any (qY ks)=true then .any else .agg cs:=θ _
@[go_sem] theorem auH(ks f a b):tv ks (.fn f a b)=if(a.any (qY ks)||b.any (qY ks))=true then .any else .fn f a b:=θ _
@[go_sem] theorem asS(ks vs):tv ks (.tup vs)=if vs.any (Fb ks)=true then .any else .tup vs:=θ _
@[go_sem] theorem auI(ks x):Fb ks (.v x)=false:=θ _
@[go_sem] theorem asT(ks k r):Fb ks (.sl k r)=false:=θ _
@[go_sem] theorem auJ(ks x):qY ks (.v x)=false:=θ _
@[go_sem] theorem aqm(ks):qY ks .emp=false:=θ _
@[go_sem] theorem asU(ks k r):qY ks (.sl k r)=false:=θ _
@[go_sem] theorem aqn(ks id sub k i j):qY ks (.ref id sub k i j)=jj ks id sub:=θ _
@[go_sem] theorem aqo(id sub):jj [] id sub=false:=θ _
@[go_sem] theorem aqp(a)(b)(l:K)(id)(sub):jj ((a,b)::l) id sub=((a==id&& (!b||sub.isSome))||jj l id sub):=by simp[jj]
@[go_sem] theorem ajE{α:Type}:(none:Option α).isSome=false:=θ _
@[go_sem] theorem ajF{α:Type}(a:α):(some a).isSome=true:=θ _
@[go_sem] theorem auK(h d k b x y):Lo h d k b x y=(uY h k y).bind fun ys=>match x with
 | .emp=>if ys.length*b<=140737488355328 then SY h d k ys else none
 | .rsl id none k' lo n=>SX h d k b id k' lo n ys (h id)
 | .rsl id (some p) k' lo n=>adQ h d k b id p k' lo n ys (h id)
 |_=>none:=θ _
@[go_sem] theorem aoS(h k):uY h k .emp=some []:=θ _
@[go_sem] theorem aei(h k r):uY h k (.sl k r)=some r:=by simp[uY]
@[go_sem] theorem aoT(h k id sub lo n):uY h k (.rsl id sub k lo n)=iS k lo n (yv h id sub):=by simp[uY]
@[go_sem] theorem alQ(h id):yv h id none=BD (h id):=θ _
@[go_sem] theorem aoU(k r):BD (.ar k r)=some (k,r):=θ _
@[go_sem] theorem aoV(k r):BD (.fz k r)=some (k,r):=θ _
@[go_sem] theorem ajG(k lo n r):iS k lo n (some (k,r))=if lo+n<=r.length then some ((r.drop lo).take n)else none:=by simp[iS]
@[go_sem] theorem asV(h d k b id lo n ys r):SX h d k b id k lo n ys (.ar k r)=if lo=0/\n=r.length/\(id<1000\/2000<=id)/\(n+ys.length)*b<=140737488355328 then
   some (.rsl id none k 0 (n+ys.length),upd h id (.ar k (r++ys)),[(id,false)])else Ln h d k b id k lo n ys k r:=by simp[SX]
@[go_sem] theorem aqq(h d k):SY h d k []=some (.emp,h,[]):=θ _
@[go_sem] theorem aoW(h d k y ys):SY h d k (y::ys)=df h d k (y::ys) (ys.length+1) []:=θ _
end
noncomputable section
def age:List (Nat×Nat)->Option Nat->AOp
 | (d,k)::l,x=>if x=some d then(match k with|0=>.callC (.c .any) []|1=>.take (.c .any)|_=>.slcM 0 (.c .any) none none)else age l x
 |[],_=>.bad
def amP(P:Program)(N:Nat)(ops:Array Oper)(h:AOp)(o:Oper):Option COp:=match o.op with
 | .build t ps=>(Il ops o.guard).bind fun g=>(kX P t).bind fun z=>match P.underlying t with
  |some (.struct fs)=>(Dk P (JR P fs) ps.toList).map fun q=>⟨o.dst,g,.p (.build z q)⟩
  |_=>GC P N ops h o
 | .binOp op t x y _=>match P.underlying t with
  |some (.struct _)=>(Il ops o.guard).bind fun g=>(cK x).bind fun x=>(cK y).bind fun y=>(yA P false 3 t).bind fun k=>(Fe op).map fun n=>⟨o.dst,g,.p (.eqc n (3+k) x y)⟩
  |_=>GC P N ops h o
 |_=>GC P N ops h o
def aej(P:Program)(N:Nat)(H:List (Nat×Nat))(ops:Array Oper):List Oper->Option (List COp)
 |[]=>some []
 |o::l=>(amP P N ops (age H o.dst) o).bind fun a=>(aej P N H ops l).bind fun q=>some (a::q)
def prs:List Nat->List (Nat×Nat)
 |a::b::l=>(a,b)::prs l
 |_=>[]
abbrev dQ:=List (List Nat)
def ajH(P:Program)(N:Nat)(H:List (Nat×Nat))(ops:Array Oper):Bool->dQ->Option (Cmd×dQ)
 |dr,(7777777::is)::l=>(ajH P N H ops dr l).map fun r=>(.frz is r.1,r.2)
 |true,ks::ps::l=>(aej P N H ops ops.toList).map fun q=>(.dops ks q (prs ps),l)
 |false,ks::l=>(aej P N H ops ops.toList).map fun q=>(.ops ks q,l)
 |_,_=>none
def nL:Code->Nat
 | .seq a b=>nL a+nL b
 | .cond _ a b=>nL a+nL b
 | .block _ a=>nL a
 | .loop a=>nL a+1
 | .scope a=>nL a
 |_=>0
abbrev GS:=dQ×List (Nat×Cmd)
noncomputable def gC (P:Program) (N:Nat) (H:List (Nat×Nat)) (L:List Cmd):Nat->Code->GS->Option (Cmd×GS)
 |_,.skip,s=>some (.skip,s)
 |_,.ret,s=>some (.ret,s)
 |_,.exit i,s=>some (.exit i,s)
 |_,.refuse _,s=>some (.ops [] [⟨none,none,.bad⟩],s)
 |_,.region _ ops dr,s=>(ajH P N H ops dr s.1).map fun r=>(r.1,r.2,s.2)
 |n,.seq a b,s=>(gC P N H L (n+nL b) a s).bind fun r=>(gC P N H L n b r.2).map fun q=>(.seq r.1 q.1,q.2)
 |n,.cond x a b,s=>(cK x).bind fun x=>(gC P N H L n a s).bind fun r=>(gC P N H L (n+nL a) b r.2).map fun q=>(.cond x r.1 q.1,q.2)
 |_,.label _,s=>some (.skip,s)
 |n,.scope a,s=>(gC P N H L n a s).map fun r=>(.frz [] r.1,r.2)
 |n,.block i a,(ks::l,bs)=>(gC P N H L n a (l,bs)).map fun r=>(.block i ks r.1,r.2)
 |n,.loop a,(ks::hs::l,bs)=>(gC P N H L n a (l,bs)).map fun r=>(.loop ks hs (L.getD (n+nL a) .skip),r.2.1,(n+nL a+1,r.1)::r.2.2)
 |_,_,_=>none
noncomputable def gK (P:Program) (H:List (Nat×Nat)) (f:Func) (l:dQ) (k:Nat) (L:List Cmd):Cmd:=
 ((f.body.bind fun c=>gC P f.ntmps H L 0 c (l,[])).bind fun r=>((0,r.1)::r.2.2).lookup k).getD .skip
section
variable (d k n a b f:Nat) (op:POp) (x y:Opd) (l:List Opd) (w:Bool) (o:BinOp) (z:List AV)
theorem aqr:(⟨some d,none,.p op⟩:COp)=co d op:=rfl
theorem aqs:co d (.mv (.t n))=cm d n:=rfl
theorem aqt:co d (.bin o (.t a) (.t b))=b2 d o a b:=rfl
theorem aqu:co d (.fadr k (.t a))=fa d k a:=rfl
theorem aqv:co d (.nilck (.t a))=nk d a:=rfl
theorem aqw:(⟨some d,some (n,w),.p op⟩:COp)=cg d n w op:=rfl
theorem aqx:(⟨some d,none,.load k false (.t a)⟩:COp)=ld d k a:=rfl
theorem aqy:(⟨some d,none,.load k true (.t a)⟩:COp)=la d k a:=rfl
theorem aqz:(⟨some d,none,.call (.c (.fn f [] [])) l⟩:COp)=ca d f l:=rfl
theorem aqA:(⟨none,none,.store k x y⟩:COp)=sr k x y:=rfl
theorem aqB:(⟨some d,none,.alloc z⟩:COp)=al d z:=rfl
theorem aqC:(⟨some d,none,.box k x⟩:COp)=bx d k x:=rfl
end
noncomputable def ap {α:Type} (b:α) {a:α} (_:a=b:=by conv=>rhs;reduce;(try simp only[Int.reduceOfNat,Int.reduceNegSucc,aqr,aqs,aqt,aqu,aqv,aqw,aqx,aqy,aqz,aqA,aqB,aqC])):α:=a
@[go_sem] theorem ave{α:Type}(b:α){a:α}(h:a=b):@ap α b a h=a:=θ _
end
end Go.Ab
