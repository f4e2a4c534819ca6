/-
  A law of tapes on models holds at every input that the statement speaks of, under the conditions that its card names. Part B1.
-/
import Derived.Scope
import Derived.Test.YtighajjmobfadaaGreatDoorA1
open Nat renaming le_refl → aCJ, lt_of_lt_of_le → aDF, zero_add → aCI, zero_le → aC7
open Bool renaming and_eq_true → aCK, and_self → aDv, false_eq_true → aDy, not_eq_true' → aDJ, true_and → aCM
open List renaming all_cons → aDb, all_eq_true → aC5, append_assoc → aDr, append_nil → aCY, cons_append → aDd, getElem_mem → aC0, length_cons → aDp, length_drop → aDL, length_nil → aDs, length_take → aCW, map_congr_left → aDk, map_cons → aDc, map_id' → aDu, map_nil → aDh, mem_append → aEj, mem_map → aDz, nil_append → aCT, replicate → aCG
open Option renaming bind_eq_some_iff → aCH, bind_some → aCN, map_eq_some_iff → aCL, map_some → aDt
set_option linter.all false
namespace Go.Ab
open Go
variable{α β:Type}
section
variable {P:Program} {w w':World} {X:Nat→Prop} {ρ ρ':eZ} {h h':ae} {s:ap} {a:Act} {call:jt} {md:Mode} {N:Nat} {ops:Array Oper} {Q:Exit→Act→World→Prop} {A A':Nat→Prop} {I:Inv}
theorem Ok.undef(ok:Ok I N w X ρ h s a){d}(hd:d.getD 0<N):Ok I N w X ρ h (gX s d .und) (a.put d undef):=
 ok.put (ks:=[]) ok.rel (.refl _ _ _) .und hd
theorem amM{u}(hv:RV w A ρ h .und u):u=undef:=by
 cases hv with
 |und=>rfl
 |dat hd=>cases hd
theorem ajE{nm}{d}{r}{t}(hz:dY nm s d r=some t):∃z h' ks,r=some (z,h',ks)/\ud nm ks=true/\t=⟨gX (lQ ks s) d z,h'⟩:=by
 unfold dY at hz;grind
theorem I7(hcall:oR P I call md)(hN:N<=1000){i}{o}{co}{hint}(hget:ops[i]?=some o)(hc:IX P N ops hint o=some co)(ok:Ok I N w X ρ h s a){t}(hz:oC call md co s h=some t)
  {K'} (hK:∀a' w' ρ',Ok I N w' X ρ' t.h t.s a'->Far md.nm w ρ h w' ρ' t.h->K' a' w'):wpOp P ops Q i K' a w:=by
 simp only[IX,aCH]at hc;obtain⟨g,e1,op,e2,hc⟩:=hc;split at hc
 ·rename_i hcond;cases hc;simp only[aCK,decide_eq_true_eq]at hcond;have hd:=hcond.2;have run:dY md.nm s o.dst (step call md (o.dst.getD 0) op s h)=some t->o.wp P a w K' Q:=by
   grind[ajE,asw]
  have skip:some ⟨gX s o.dst .und,h⟩=some t->K' (a.put o.dst undef) w:=by
   intro hf;cases hf;exact hK _ _ ρ (ok.undef hd) (.refl _ _ _ _)
  unfold wpOp;rw[hget];cases hg:o.guard with
  |none=>
   rw[hg]at e1;simp only[KO,Option.some.injEq]at e1;subst e1
   simp_all[oC,Region.wanted,if_true]
  |some jb=>
   rw[hg]at e1;simp only[KO,aCL]at e1;obtain⟨d,e3,rfl⟩:=e1;simp only[oC,mV]at hz;have hv:=ok.rs d;simp only[Region.wanted,yielded,aCN, *];have cell:∀v,a.tmps.getD d Go.undef=v->v≠Go.undef->a.tmps[d]?=some v:=by
    intro v hv hne;rw[Array.getD_eq_getD_getElem?]at hv;grind
   split at hz
   ·rename_i b' hb';rw[hb']at hv;rw[cell _ hv.v_inv.1 (by simp[Go.undef])];grind
   ·rename_i hb';rw[hb']at hv;have hu:=amM hv;rw[Array.getD_eq_getD_getElem?]at hu;grind[Go.undef]
   grind
 grind
theorem T6(hcall:oR P I call md)(hN:N<=1000):∀rest cl i {hs} {w} {ρ} {h} {s} {a} {t},(∀j o,rest[j]?=some o->ops[i+j]?=some o)->uR P N ops hs rest=some cl->Ok I N w X ρ h s a->
  aM call md cl s h=some t->(∀a' w' ρ',Ok I N w' X ρ' t.h t.s a'->Far md.nm w ρ h w' ρ' t.h->Q .normal a' w')->wpOps P ops Q (List.range' i rest.length) a w
 |[],cl,i,hs,w,ρ,h,s,a,t,_,hc,ok,hz,hQ=>by
  simp only[uR,Option.some.injEq]at hc;subst hc;cases hz;exact hQ _ _ ρ ok (.refl _ _ _ _)
 |o::rest,cl,i,hs,w,ρ,h,s,a,t,hg,hc,ok,hz,hQ=>by
  simp only[uR,aCH]at hc;obtain⟨co,e1,q,e2,e3⟩:=hc;cases e3;simp only[aM,bv]at hz;split at hz
  ·grind
  ·rename_i t1 ht1;exact I7 hcall hN (by simpa using hg 0 o rfl) e1 ok ht1 fun a' w' ρ' ok' far=>
    T6 hcall hN rest q (i+1) (fun j o' hj=>by rw[show i+1+j=i+(j+1)from by omega];simp_all) e2 ok' hz fun a'' w'' ρ'' ok'' far'=>hQ _ _ ρ'' ok'' (far.trans far')
theorem MD{α}(d)(f:Nat->α):∀l i,mk d f l i=if i∈l then f i else d
 |[],i=>by simp[mk]
 |j::l,i=>by
  simp only[mk,upd,MD d f l i,List.mem_cons];by_cases e:i=j
  ·subst e;simp
  ·simp[e]
theorem RS.some(hs:RS w A ρ h s a.tmps){s'}(he:∀i,s' i=s i\/s' i=.any):RS w A ρ h s' a.tmps:=fun i=>by
 rcases he i with e|e
 ·rw[e];exact hs i
 ·rw[e];exact .anyv _
theorem Ok.some(ok:Ok I N w X ρ h s a){s'}(he:∀i,s' i=s i\/s' i=.any):Ok I N w X ρ h s' a:=⟨ok.rel,ok.rs.some he,ok.size,ok.defers,ok.inv⟩
theorem RV.knownL{l}{c}{u}(hv:RV w A ρ h c u)(hA:∀b,A b->A' b/\w'.heap[b]?=w.heap[b]?)(hk:∀id sub,cV h id sub->l.contains id=true->cV h' id sub/\ρ' id sub=ρ id sub)(hm:knownL l c=true):RV w' A' ρ' h' c u:=by
 cases hv with
 |anyv u=>exact .anyv u
 |und=>exact .und
 |dat hd=>exact .dat (hd.mono hA)
 |ref id sub k i j hp=>
  obtain⟨h1,h2⟩:=hk id sub hp hm;rw[←h2];exact .ref id sub k i j h1
 |rsl id sub k lo n cap a hp hn hb ha=>
  obtain⟨h1,h2⟩:=hk id sub hp hm;exact .rsl id sub k lo n cap a h1 hn γ γ
 |rsc id k lo n cap a hp hn hb ha=>grind[Ab.knownL]
 |ipt cs ad vals hA' hs hv hl hr=>
  exact .ipt cs ad vals (hA _ hA').1 hs (fun j c hc=>by rw[rg (w:=w) (w':=w') (by rw[qZ];grind)];grind) hl (fun j c hc=>(hr j c hc).mono hA)
 |agg cs us hs h1 hr=>grind[Ab.knownL]
 |tup vs us hs hr=>grind[Ab.knownL]
 |fn f x y us ts hs ht hx hy=>
  simp[Ab.knownL]at hm;obtain⟨rfl,rfl⟩:=hm;exact .fn f [] [] us ts hs ht (fun i c u hc=>by grind) (fun i c u hc=>by grind)
theorem RV.knownA{l}{c}{u}(hv:RV w A ρ h c u)(hA:∀b,A b->A' b/\w'.heap[b]?=w.heap[b]?)(hk:∀id sub,cV h id sub->l.contains id=true->cV h' id sub/\ρ' id sub=ρ id sub)(hm:knownA l c=true):RV w' A' ρ' h' c u:=by
 cases c with
 |agg cs=>
  simp only[Ab.knownA,aC5]at hm;cases hv with
  |dat hd=>exact .dat (hd.mono hA)
  |agg _ us hs h1 hr=>exact .agg cs us hs h1 fun i c u hc hu=>(hr i c u hc hu).knownL hA hk (hm c (List.mem_of_getElem? hc))
 |fn f x y=>
  simp only[Ab.knownA,aCK,aC5]at hm;cases hv with
  |dat hd=>exact .dat (hd.mono hA)
  |fn _ _ _ us ts hs ht hx hy=>exact .fn f x y us ts hs ht (fun i c u hc hu=>(hx i c u hc hu).knownL hA hk (hm.1 c (List.mem_of_getElem? hc))) (fun i c u hc hu=>(hy i c u hc hu).knownL hA hk (hm.2 c (List.mem_of_getElem? hc)))
 |_=>exact hv.knownL hA hk hm
theorem Ej{l}{c}(hc:bw l c=true):knownL l c=true:=by
 cases c<;>simp[bw,knownL]at hc⊢ <;>first|exact hc.1|exact hc
theorem Vc{l}{c}(hc:bo l c=true):knownA l c=true:=by
 cases c with
 |agg cs=>
  grind[bo,knownA,aC5,Ej]
 |fn f x y=>
  simp_all[bo,knownA,aCK,aC5,Ej]
 |_=>
  simp only[bo,knownA]at hc⊢;exact Ej hc
theorem WS(nm)(r:Rel w X ρ h){hs}(hcl:∀id,id∈hs->aF hs (h id)=true):Rel w X ρ (mk .dead h hs)/\Far nm w ρ h w ρ (mk .dead h hs)/\
  ∀ {c} {u},RV w (aQ w X h ρ) ρ h c u->knownA hs c=true->RV w (aQ w X (mk .dead h hs) ρ) ρ (mk .dead h hs) c u:=by
 have at_:∀id,id∈hs->mk .dead h hs id=h id:=fun id hi=>by rw[MD,if_pos hi]
 have not_:∀id,id∉hs->mk .dead h hs id=.dead:=fun id hi=>by rw[MD,if_neg hi]
 have hl:∀id sub,live (mk .dead h hs) id sub->id∈hs/\live h id sub:=by
  intro id sub h1;by_cases hi:id∈hs
  ·grind[dS]
  ·have:=not_ id hi;cases sub<;>simp[live,this]at h1
 have hA:∀b,aQ w X h ρ b->aQ w X (mk .dead h hs) ρ b/\w.heap[b]?=w.heap[b]?:=fun b hb=>⟨⟨hb.1,hb.2.1,fun⟨id,sub,h1,h2⟩=>hb.2.2 ⟨id,sub,(hl id sub h1).2,h2⟩⟩,rfl⟩;have hk:∀id sub,cV h id sub->hs.contains id=true->cV (mk .dead h hs) id sub/\ρ id sub=ρ id sub:=fun id sub hp hi=>⟨(gQ (at_ id γ)).2 hp,rfl⟩;have far:Far nm w ρ h w ρ (mk .dead h hs):=by
  refine⟨rfl,rfl,rfl,aCJ _,fun _ _ _=>rfl,fun b ⟨id,sub,h1,h2⟩=>.inl ⟨id,sub,(hl id sub h1).2,h2⟩,fun id _ hd=>⟨fun e=>?_,rfl⟩,fun _ id p _ hd hp=>⟨?_,rfl⟩⟩
  all_goals grind
 refine⟨⟨fun a b c d h1 h2=>r.inj a b c d (hl a b h1).2 (hl c d h2).2,fun a b h1=>r.nx a b (hl a b h1).2,fun id=>?_,r.xl⟩,far,fun hv hc=>hv.knownA hA hk hc⟩;by_cases hi:id∈hs
 ·have ho:=r.ob id;have hc:=hcl id hi;rw[at_ id hi];cases e:h id with
  |dead=>trivial
  |bx cs=>
   rw[e]at ho hc;obtain⟨us,t,h1,h2,h3,h4⟩:=ho;refine⟨us,t,h1,h2,h3,fun p c hcp=>?_⟩;obtain⟨u,h5,h6⟩:=h4 p c hcp;refine⟨u,h5,?_⟩;simp only[aF,aC5]at hc;have hcc:=hc c (List.mem_of_getElem? hcp);cases hO:bE c with
   |true=>
    cases c<;>simp[bE]at hO;obtain⟨a,cap,us',t',g1,g2,g3,g4,g5,g6,g7⟩:=h6;exact⟨a,cap,us',t',g1,g2,g3,g4,g5,g6,g7.mono hA⟩
   |false=>
    rw[wR hO]at h6⊢;have hca:bo hs c=true:=by grind[hF]
    refine⟨h6.1.knownA hA hk (Vc hca),h6.2.1,?_⟩;have h7:=h6.2.2;cases c<;>try exact h7
    simp_all[bo,bw,pK]
  |ar k rows=>
   rw[e]at ho;obtain⟨us,t,h1,h2,h3,h4⟩:=ho;exact⟨us,t,h1,h2,h3,h4.mono hA⟩
  |fz k rows=>
   rw[e]at ho;obtain⟨h0,us,t,fr,h1,h2,h3,h4⟩:=ho;exact⟨(hA _ h0).1,us,t,fr,h1,h2,h3,h4.mono hA⟩
 ·rw[not_ id hi];trivial
end
def exo:Ex->Exit
 | .normal=>.normal
 | .exit id=>.exit id
 | .ret=>.ret
def T7(P:Program)(I:Inv)(call:jt)(md:Mode)(N:Nat):Prop:=
 ∀ {id} {ops} {hs cl} {w} {X} {ρ} {h} {s} {a} {t} {ps} {Q},uR P N ops hs ops.toList=some cl->WL ops.toList cl ps=true->Ok I N w X ρ h s a->ug call md cl ps s h=some t->
  (∀a' w' ρ',Ok I N w' X ρ' t.h t.s a'->Far md.nm w ρ h w' ρ' t.h->Q .normal a' w')->(Code.region id ops true).wp P Q a w
section
variable {P:Program} {X:Nat→Prop} {call:jt} {md:Mode} {N:Nat} {I:Inv} {nm:Bool}
theorem KV(s:ap)(ks)(i):mk .any s ks i=s i\/mk .any s ks i=.any:=by
 grind[MD]
theorem adW(hs)(a):(iQ hs a=a/\knownA hs a=true)\/iQ hs a=.any:=by
 grind[iQ]
theorem agf{w}{ρ}{h}{s}{a}(ok:Ok I N w X ρ h s a){ks hs}(hcl:(hs.all fun a=>aF hs (h a))=true):
  Ok I N w X ρ (mk .dead h hs) (mk .any (fun i=>iQ hs (s i)) ks) a/\Far nm w ρ h w ρ (mk .dead h hs):=by
 obtain⟨h1,h2,h3⟩:=WS nm ok.rel (hs:=hs) (fun id hi=>List.all_eq_true.1 hcl id hi);refine⟨⟨h1,fun i=>?_,ok.size,ok.defers,ok.inv⟩,h2⟩;rcases KV (fun i=>iQ hs (s i)) ks i with e|e
 ·rw[e];rcases adW hs (s i)with⟨e2,e3⟩|e2
  ·rw[e2];exact h3 (ok.rs i) e3
  ·rw[e2];exact .anyv _
 ·rw[e];exact .anyv _
def T8(P:Program)(I:Inv)(nm:Bool)(X:Nat->Prop)(N:Nat)(f:ap->ae->Option (Ex×St))(c:Code):Prop:=
 ∀ {s} {h} {e} {t} {w} {ρ} {a} {Q},f s h=some (e,t)->Ok I N w X ρ h s a->(∀a' w' ρ',Ok I N w' X ρ' t.h t.s a'->Far nm w ρ h w' ρ' t.h->Q (exo e) a' w')->c.wp P Q a w
theorem P9{body}{c}(hb:T8 P I nm X N body c){ks hs}:∀n {s} {h} {e} {t} {w} {ρ} {a} {Q},
  wj body ks hs n s h=some (e,t)->Ok I N w X ρ h s a->(∀a' w' ρ',Ok I N w' X ρ' t.h t.s a'->Far nm w ρ h w' ρ' t.h->Q (exo e) a' w')->Code.rounds P c Q n a w
 |0,s,h,e,t,w,ρ,a,Q,hz,_,_=>by grind[wj]
 |n+1,s,h,e,t,w,ρ,a,Q,hz,ok,hQ=>by
  simp only[wj]at hz;split at hz
  ·rename_i hcl;obtain⟨ok1,far1⟩:=agf ok (ks:=ks) hcl;split at hz
   ·rename_i t1 ht1;exact hb ht1 ok1 fun a' w' ρ' ok2 far2=>P9 hb n hz ok2 fun a'' w'' ρ'' ok3 far3=>hQ _ _ ρ'' ok3 (far1.trans (far2.trans far3))
   ·rename_i r hne;refine hb hz ok1 fun a' w' ρ' ok2 far2=>?_;have:=hQ a' w' ρ' ok2 (far1.trans far2);cases e with
    |normal=>exact absurd hz (hne t)
    |exit id=>exact this
    |ret=>exact this
  ·cases hz
theorem adX{i}{w}{ρ}{h}{s}{a}{r}(ok:Ok I N w X ρ h s a)(hz:R1 i s h (s i)=some r)(hnm:ud nm r.2.2=true):
  Ok I N w X ρ r.2.1 r.1 a/\Far nm w ρ h w ρ r.2.1:=by
 have hv:=ok.rs i;cases hi:s i<;>rw[hi]at hz hv<;>simp only[R1]at hz<;>try (cases hz;done)
 case sl=>cases hz;exact⟨ok,.refl _ _ _ _⟩
 case rsl id sub k lo n=>
  simp only[aCL]at hz;obtain⟨q,e1,rfl⟩:=hz;obtain⟨x,h',ks⟩:=q;have h1:(a.tmps.getD i undef).oneCell'=true:=by
   obtain⟨_,_,e,_⟩:=hv.rsl_inv;rw[e];rfl
  obtain⟨g1,g2,g3,g4⟩:=BG ok.rel hv (fun b hb=>hb) h1 e1;refine⟨⟨g1,fun j=>?_,ok.size,ok.defers,g2.inv ok.rel ok.inv⟩,g2.far hnm⟩;show RV w (aQ w X h' ρ) ρ h' (upd (lQ ks s) i x j) _;rw[cB];split
  ·rename_i hj;subst hj;exact .dat g3
  ·exact g2.rs ok.rs j
 case ref id sub k j l=>
  cases sub with
  |some p=>grind
  |none=>
   simp only at hz;cases ho:h id<;>rw[ho]at hz<;>simp only at hz<;>try (cases hz;done)
   cases hz;rename_i cs;obtain⟨g1,g2⟩:=KQ (ds:=cs.map nD) ok.rel ho σ fun p c hc=>by
    grind[bE,abm]
   exact⟨⟨g1,g2.rs ok.rs,ok.size,ok.defers,g2.inv ok.rel ok.inv⟩,g2.far hnm⟩
theorem aan{w}{ρ}{h}{s}{a}(ok:Ok I N w X ρ h s a)(x):Ok I N w X ρ (IV h x) s a/\Far nm w ρ h w ρ (IV h x):=by
 have id':Ok I N w X ρ h s a/\Far nm w ρ h w ρ h:=⟨ok,.refl _ _ _ _⟩;unfold IV;split
 ·rename_i id k' lo n;split
  ·rename_i k rows e;obtain⟨s1,s2⟩:=af8 (m:=lo+n) ok.rel e;exact⟨⟨s1,s2.rs ok.rs,ok.size,ok.defers,s2.inv ok.rel ok.inv⟩,s2.far (rP _)⟩
  omega
 omega
theorem NH{g}{w}{ρ}{h}{s}{a}{t}(ok:Ok I N w X ρ h s a)(hz:wu nm g s h=some t):∃ρ',Ok I N w X ρ' t.h t.s a/\Far nm w ρ h w ρ' t.h:=by
 cases g with
 |zero=>
  cases hz;exact⟨ρ,ok,.refl _ _ _ _⟩
 |succ i=>
  simp only[wu,aCH]at hz;obtain⟨r,e1,e2⟩:=hz;split at e2
  ·rename_i hnm;cases e2;have hv:=ok.rs i;cases hi:s i<;>rw[hi]at e1 hv<;>simp only[TW]at e1<;>try (cases e1;done)
   ·cases e1;exact⟨ρ,ok,.refl _ _ _ _⟩
   ·rename_i id sub k lo n;cases sub with
    |none=>grind
    |some p=>
    simp only at e1;split at e1
    ·rename_i hps;cases eo:h id<;>rw[eo]at e1<;>simp only[ghO]at e1<;>try (cases e1;done)
     rename_i cs;cases ec:cs[p]? with
     |none=>grind[PY]
     |some c=>
      rw[ec]at e1;cases c<;>simp only[PY]at e1<;>try (cases e1;done)
      split at e1
      ·rename_i hc;obtain⟨rfl,rfl,rfl,hd⟩:=hc;have hd':h i=.dead:=by cases hh:h i<;>rw[hh]at hd<;>first|rfl|cases hd
       cases e1;obtain⟨m1,m2⟩:=adL ok.rel eo ec hps hd';obtain⟨ad,cap,e4,q2,q3,q4,q5⟩:=hv.rsl_inv;refine⟨_,⟨m1,fun j=>?_,ok.size,ok.defers,m2.inv ok.rel ok.inv⟩,m2.far hnm⟩;show RV w _ _ _ (upd (lQ [(id,true)] s) i _ j) _;rw[cB];split
       ·rename_i hj;subst hj;rw[e4];refine .rsl _ none _ 0 _ cap ad (by simp[cV,aC]) q3 (by grind[bV]) ?_;grind[bV]
       ·exact m2.rs ok.rs j
      grind
    grind
  grind
theorem adY{i}{w}{ρ}{h}{s}{a}{r}(ok:Ok I N w X ρ h s a)(hz:R2 i s h (s i)=some r)(hnm:ud nm r.2.2=true):
  ∃ρ',Ok I N w X ρ' r.2.1 r.1 a/\Far nm w ρ h w ρ' r.2.1:=by
 have hv:=ok.rs i;have key:∀ {id k lo n},(∃ad cap,a.tmps.getD i undef=.slice ad n cap/\n<=cap/\(lo+cap)*k=(ρ id none).2/\(cap=0\/ad=some ⟨(ρ id none).1,lo*k,none⟩))->KL i s h id k lo n (h id)=some r->
   ∃ρ',Ok I N w X ρ' r.2.1 r.1 a/\Far nm w ρ h w ρ' r.2.1:=by
  intro id k lo n ⟨ad,cap,e4,q3,q4,q5⟩ e1;cases eo:h id<;>rw[eo]at e1<;>simp only[KL]at e1<;>try (cases e1;done)
  split at e1
  ·rename_i hc;obtain⟨rfl,rfl,hps,hd⟩:=hc;have hd':h i=.dead:=by cases hh:h i<;>rw[hh]at hd<;>first|rfl|cases hd
   cases e1;obtain⟨m1,m2⟩:=apL ok.rel eo hps hd';refine⟨_,⟨m1,fun j=>?_,ok.size,ok.defers,m2.inv ok.rel ok.inv⟩,m2.far hnm⟩;show RV w _ _ _ (upd (lQ [(id,false)] s) i _ j) _;rw[cB];split
   ·rename_i hj;subst hj;rw[e4];refine .rsl _ none _ 0 _ cap ad (by simp[cV,aC]) q3 (by grind[bV]) ?_;grind[bV]
   ·exact m2.rs ok.rs j
  grind
 cases hi:s i<;>rw[hi]at hz hv<;>simp only[R2]at hz<;>try (cases hz;done)
 ·cases hz;exact⟨ρ,ok,.refl _ _ _ _⟩
 ·rename_i id sub k lo n;cases sub with
  |some p=>grind
  |none=>
  obtain⟨ad,cap,e4,q2,q3,q4,q5⟩:=hv.rsl_inv;exact key ⟨ad,cap,e4,q3,q4,q5⟩ hz
 ·rename_i id k lo n c;obtain⟨ad,e4,q2,q3,q4,q5⟩:=hv.rsc_inv;exact key ⟨ad,c,e4,q3,q4,q5⟩ hz
theorem BI:∀is {w} {ρ} {h} {s} {a} {t},Ok I N w X ρ h s a->CL nm is s h=some t->∃ρ',Ok I N w X ρ' t.h t.s a/\Far nm w ρ h w ρ' t.h
 |[],w,ρ,h,s,a,t,ok,hz=>by cases hz;exact⟨ρ,ok,.refl _ _ _ _⟩
 |i::l,w,ρ,h,s,a,t,ok,hz=>by
  unfold CL at hz;split at hz
  ·simp only[aCH]at hz;obtain⟨r,e1,e2⟩:=hz;split at e2
   ·rename_i hn;obtain⟨ρ1,g1,g2⟩:=adY ok e1 hn;obtain⟨ρ2,f1,f2⟩:=BI l g1 e2;exact⟨ρ2,f1,g2.trans f2⟩
   grind
  ·split at hz
   ·obtain⟨g1,g2⟩:=aan (nm:=nm) ok (s (i-100000));obtain⟨ρ2,f1,f2⟩:=BI l g1 hz;exact⟨ρ2,f1,g2.trans f2⟩
   ·simp only[aCH]at hz;obtain⟨r,e1,e2⟩:=hz;split at e2
    ·rename_i hn;obtain⟨g1,g2⟩:=adX ok e1 hn;obtain⟨ρ2,f1,f2⟩:=BI l g1 e2;exact⟨ρ2,f1,g2.trans f2⟩
    grind
theorem adZ(hcall:oR P I call md)(hN:N<=1000)(hD:T7 P I call md N)(lf):∀cmd c,ju P N c cmd=some cmd->T8 P I md.nm X N (cU call md lf cmd) c:=by
 intro cmd;induction cmd with
 |skip=>
  intro c hc s h e t w ρ a Q hz ok hQ;cases c<;> (try simp only[ju]at hc)<;> (try (cases hc;done))
  ·obtain⟨rfl,rfl⟩:=hz;exact wp_skip (hQ _ _ ρ ok (.refl _ _ _ _))
  all_goals first
   | (obtain⟨rfl,rfl⟩:=hz;exact wp_label (hQ _ _ ρ ok (.refl _ _ _ _)))
   | (exfalso;revert hc;simp[aCH])
 |ops ks l=>
  intro c hc s h e t w ρ a Q hz ok hQ;by_cases hrf:∃m,c=.refuse m
  ·have hl:l=[⟨none,none,.bad⟩]:=by
    unfold ju at hc;grind
   simp_all[cU,aM,oC,dY,step,bv]
  cases c<;> (try (exact absurd ⟨_,rfl⟩ hrf))<;> (try simp only[ju]at hc)<;> (try (cases hc;done));rename_i id ops dr;cases dr<;> (try simp only[ju]at hc)<;> (try (cases hc;done));simp only[aCL]at hc;obtain⟨l',h1,h2⟩:=hc;cases h2;simp only[cU,bv]at hz;split at hz
  ·grind
  ·rename_i t1 ht1;obtain⟨rfl,rfl⟩:=hz;refine wp_region ?_;rw[List.range_eq_range',show ops.size=ops.toList.length from Array.length_toList.symm];exact T6 hcall hN ops.toList l 0 (fun j o hj=>by grind) h1 ok ht1 fun a' w' ρ' ok' far=>hQ _ _ ρ' (ok'.some (KV _ _)) far
 |dops ks l ps=>
  intro c hc s h e t w ρ a Q hz ok hQ;cases c<;> (try simp only[ju]at hc)<;> (try (cases hc;done));rename_i id ops dr;cases dr<;> (try simp only[ju]at hc)<;> (try (cases hc;done));simp only[aCH]at hc;obtain⟨l',h1,h2⟩:=hc;split at h2
  ·rename_i hps;cases h2;simp only[cU,bv]at hz;split at hz
   ·grind
   ·rename_i t1 ht1;obtain⟨rfl,rfl⟩:=hz;exact hD h1 hps ok ht1 fun a' w' ρ' ok' far=>hQ _ _ ρ' (ok'.some (KV _ _)) far
  grind
 |seq x y ihx ihy=>
  intro c hc s h e t w ρ a Q hz ok hQ;cases c<;> (try simp only[ju]at hc)<;> (try (cases hc;done));simp only[aCH,aCL]at hc;obtain⟨c1,h1,c2,h2,h3⟩:=hc;cases h3;simp only[cU,cF]at hz;refine wp_seq ?_;split at hz
  ·grind
  ·rename_i t1 ht1;exact ihx _ h1 ht1 ok fun a' w' ρ' ok1 far1=>ihy _ h2 hz ok1 fun a'' w'' ρ'' ok2 far2=>hQ _ _ ρ'' ok2 (far1.trans far2)
  ·rename_i i t1 ht1;cases hz;exact ihx _ h1 ht1 ok fun a' w' ρ' ok1 far1=>hQ a' w' ρ' ok1 far1
  ·rename_i t1 ht1;cases hz;exact ihx _ h1 ht1 ok fun a' w' ρ' ok1 far1=>hQ a' w' ρ' ok1 far1
 |cond b x y ihx ihy=>
  intro c hc s h e t w ρ a Q hz ok hQ;cases c<;> (try simp only[ju]at hc)<;> (try (cases hc;done));simp only[aCH,aCL]at hc;obtain⟨b',h0,c1,h1,c2,h2,h3⟩:=hc;cases h3;simp only[cU]at hz;have hv:=bp h0 ok.rs;unfold ui at hz;split at hz
  ·rename_i tt htt;rw[htt]at hv;refine wp_cond hv.v_inv.1 ?_;cases tt with
   |true=>exact ihx _ h1 hz ok hQ
   |false=>exact ihy _ h2 hz ok hQ
  grind
 |block id ks x ih=>
  intro c hc s h e t w ρ a Q hz ok hQ;cases c<;> (try simp only[ju]at hc)<;> (try (cases hc;done));simp only[aCL]at hc;obtain⟨c1,h1,h3⟩:=hc;cases h3;simp only[cU]at hz;refine wp_block ?_;unfold ak at hz;split at hz
  ·grind
  ·rename_i t1 ht1;cases hz;exact ih _ h1 ht1 ok fun a' w' ρ' ok1 far1=>hQ a' w' ρ' (ok1.some (KV _ _)) far1
  ·rename_i i t1 ht1;refine ih _ h1 ht1 ok fun a' w' ρ' ok1 far1=>?_;split at hz
   ·rename_i hi;cases hz;have:=hQ a' w' ρ' (ok1.some (KV _ _)) far1;grind[exo,Exit.inBlock]
   grind[exo,Exit.inBlock]
  ·rename_i t1 ht1;cases hz;exact ih _ h1 ht1 ok fun a' w' ρ' ok1 far1=>hQ a' w' ρ' ok1 far1
 |loop ks hs x ih=>
  intro c hc s h e t w ρ a Q hz ok hQ;cases c<;> (try simp only[ju]at hc)<;> (try (cases hc;done));simp only[aCL]at hc;obtain⟨c1,h1,h3⟩:=hc;cases h3;exact wp_loop_rounds lf (P9 (ih _ h1) lf hz ok hQ)
 |exit id=>
  intro c hc s h e t w ρ a Q hz ok hQ;cases c<;> (try simp only[ju]at hc)<;> (try (cases hc;done));cases hc;obtain⟨rfl,rfl⟩:=hz;exact wp_exit (hQ _ _ ρ ok (.refl _ _ _ _))
 |ret=>
  intro c hc s h e t w ρ a Q hz ok hQ;cases c<;> (try simp only[ju]at hc)<;> (try (cases hc;done));obtain⟨rfl,rfl⟩:=hz;exact wp_ret (hQ _ _ ρ ok (.refl _ _ _ _))
 |frz is x ih=>
  intro c hc s h e t w ρ a Q hz ok hQ;by_cases hsc:∃d,c=.scope d
  ·obtain⟨d,rfl⟩:=hsc;have hc':(ju P N d x).map (Cmd.frz is)=some (.frz is x):=by
    grind[ju]
   simp only[aCL]at hc';obtain⟨c1,h1,h3⟩:=hc';cases h3;simp only[cU,bv]at hz;split at hz
   ·grind
   ·rename_i t1 ht1;obtain⟨ρ1,ok1,far1⟩:=BI is ok ht1;refine wp_scope_straight (ih _ h1 hz ok1 fun a' w' ρ' ok2 far2=>?_);have:=hQ a' w' ρ' ok2 (far1.trans far2);cases e<;>exact this
  have hc':(ju P N c x).map (Cmd.frz is)=some (.frz is x):=by
   cases c<;>first|exact absurd ⟨_,rfl⟩ hsc|exact hc| (rename_i b;cases b<;>exact hc)
  simp only[aCL]at hc';obtain⟨c1,h1,h3⟩:=hc';cases h3;simp only[cU,bv]at hz;split at hz
  ·grind
  ·rename_i t1 ht1;obtain⟨ρ1,ok1,far1⟩:=BI is ok ht1;exact ih _ h1 hz ok1 fun a' w' ρ' ok2 far2=>hQ a' w' ρ' ok2 (far1.trans far2)
end
def si(P:Program)(I:Inv)(kp:Bool)(f:FuncId)(g:List AV->List Ob->Option (AV×List Ob)):Prop:=
 ∀ {args} {obs obs'} {res} {w} {X} {ρ} {vals} {n},g args obs=some (res,obs')->2000<=n->I.p w X->Rel w X ρ (ax obs)->vals.size=args.length->
  (∀ (i:Nat) c u,args[i]?=some c->vals[i]?=some u->RV w (aQ w X (ax obs) ρ) ρ (ax obs) c u)->
  Enters P f vals w fun v w'=>∃ρ',Rel w' X ρ' (mat n (ax obs') res).2/\Far kp w ρ (ax obs) w' ρ' (mat n (ax obs') res).2/\RV w' (aQ w' X (mat n (ax obs') res).2 ρ') ρ' (mat n (ax obs') res).2 (mat n (ax obs') res).1 v
def DO(tmps:Array Value):ResultVar->Sem Value
 | .tmp t=>pure (tmps.getD t Go.undef)
 | .cell c t=>do loadVar t (←asAddr (tmps.getD c Go.undef))
section
variable {P:Program} {w w':World} {X:Nat→Prop} {ρ ρ':eZ} {h h':ae} {s:ap} {a:Act} {call:jt} {md:Mode} {N:Nat}
theorem NI:∀rs l {h h'} {s} {vs} {ks},I0 P rs=some l->Rel w X ρ h->RS w (aQ w X h ρ) ρ h s a.tmps->Dy s h l=some (vs,h',ks)->
  ∃us,(rs.mapM (DO a.tmps)).run P w=.ok us w/\us.length=vs.length/\Rel w X ρ h'/\Evo w ρ h w ρ h' ks/\
   ∀ (i:Nat) c u,vs[i]?=some c->us[i]?=some u->RV w (aQ w X h' ρ) ρ h' c u
 |[],l,h,h',s,vs,ks,hc,r,hs,hz=>by
  simp only[I0,Option.some.injEq]at hc;subst hc;obtain⟨rfl,rfl,rfl⟩:=hz;exact⟨[],rfl,rfl,r,.refl _ _ _,fun i c u hc=>by grind⟩
 |x::rs,l,h,h',s,vs,ks,hc,r,hs,hz=>by
  have step1:∃rv l',l=rv::l'/\I0 P rs=some l'/\∀ {z} {h1} {k1},apC s h rv=some (z,h1,k1)->∃v,(DO a.tmps x).run P w=.ok v w/\
    Rel w X ρ h1/\Evo w ρ h w ρ h1 k1/\RV w (aQ w X h1 ρ) ρ h1 z v:=by
   cases x with
   |tmp t=>
    simp only[I0,aCL]at hc;obtain⟨l',h1,rfl⟩:=hc;refine⟨_,l',rfl,h1,fun{z h1 k1} e=>?_⟩;obtain⟨rfl,rfl,rfl⟩:=e;exact⟨_,rfl,r,.refl _ _ _,hs t⟩
   |cell c t=>
    simp only[I0,aCH]at hc;obtain⟨g,g1,k,g2,hc⟩:=hc;split at hc
    ·simp only[aCL]at hc;obtain⟨l',h1,rfl⟩:=hc;refine⟨_,l',rfl,h1,fun{z h1 k1} e=>?_⟩;obtain⟨ad,v,q1,q2,q3,q4,q5⟩:=NE (P:=P) r g1 g2 (hs c) e;refine⟨v,?_,q3,q4,q5⟩;simp only[DO];rw[q1];exact q2
    grind
  obtain⟨rv,l',rfl,hc',key⟩:=step1;simp only[Dy,aCH]at hz;obtain⟨⟨z,h1,k1⟩,e1,⟨vs',h2,k2⟩,e2,e3⟩:=hz;cases e3;obtain⟨v,f1,f2,f3,f4⟩:=key e1;obtain⟨us,g1,g2,g3,g4,g5⟩:=NI rs l' hc' f2 (f3.rs hs) e2;refine⟨v::us,by simp_all,by grind,g3,f3.trans g4,fun i c u hc hu=>?_⟩;cases i with
  |zero=>
   simp only[List.getElem?_cons_zero,Option.some.injEq]at hc hu;subst hc hu;cases k2 with
   |nil=>exact g4.rv f4
   |cons p k2=>
    simp only[WH,wt];split
    ·exact .anyv _
    ·exact g4.rvk f4 (.inr γ)
  |succ i=>grind
end
structure Emb (L:List Nat) (f g:Nat->Nat) (h' h2:ae):Prop where
 back:∀id,L.contains id=true->g (f id)=id/\h2 (f id)=eH f (h' id)
 obj:∀i,h2 i≠ .dead->h2 i=eH f (h' (g i))/\aF L (h' (g i))=true
 inj:∀i j,h2 i≠ .dead->h2 j≠ .dead->g i=g j->i=j
section
variable {w:World} {X:Nat→Prop} {ρ:eZ} {h' h2:ae} {A A2:Nat→Prop} {L:List Nat} {f g:Nat→Nat}
theorem KW{o}:eH f o=.dead↔o=.dead:=by cases o<;>simp[eH]
theorem abo(o):bf (eH f o)=bf o:=by cases o<;>rfl
theorem ajF{c}{k}{rows}:eG f c=.osl k rows↔c=.osl k rows:=by cases c<;>simp[eG,lu]
theorem agh(c):bE (eG f c)=bE c:=by cases c<;>rfl
theorem RV.embL(em:Emb L f g h' h2){c}{u}(hv:RV w A ρ h' c u)(hA:∀b,A b->A2 b)(hm:bw L c=true):RV w A2 (fun i s=>ρ (g i) s) h2 (lu f c) u:=by
 cases hv with
 |anyv u=>exact .anyv u
 |und=>exact .und
 |dat hd=>
  have:lu f c=c:=by cases hd<;>rfl
  rw[this];exact .dat (hd.mono fun b hb=>⟨hA b hb,rfl⟩)
 |ref id sub k i j hp=>
  simp only[bw,aCK]at hm;obtain⟨h1,h3⟩:=em.back id hm.1;cases sub with
  |some p=>grind
  |none=>
   have:=RV.ref (w:=w) (A:=A2) (ρ:=fun i s=>ρ (g i) s) (h:=h2) (f id) none k i j (by simp only[cV,h3,ne_eq,KW];exact hp);simp only[h1]at this;exact this
 |rsl id sub k lo n cap a hp hn hb ha=>
  simp only[bw,aCK]at hm;obtain⟨h1,h3⟩:=em.back id hm.1;cases sub with
  |some p=>grind
  |none=>exact .rsl (f id) none k lo n cap a (by simp only[cV,h3,ne_eq,KW];exact hp) hn γ γ
 |rsc id k lo n cap a hp hn hb ha=>simp[bw]at hm
 |ipt cs ad vals hA' hs hv hl hr=>exact .ipt cs ad vals (hA _ hA') hs hv hl (fun j c hc=>(hr j c hc).mono fun b hb=>⟨hA b hb,rfl⟩)
 |agg cs us hs h1 hr=>simp[bw]at hm
 |tup vs us hs hr=>simp[bw]at hm
 |fn ff x y us ts hs ht hx hy=>
  simp[bw]at hm;obtain⟨rfl,rfl⟩:=hm;exact .fn ff [] [] us ts hs ht (fun i c u hc=>by grind) (fun i c u hc=>by grind)
theorem RV.embA(em:Emb L f g h' h2){c}{u}(hv:RV w A ρ h' c u)(hA:∀b,A b->A2 b)(hm:bo L c=true):RV w A2 (fun i s=>ρ (g i) s) h2 (eG f c) u:=by
 cases c with
 |agg cs=>
  simp only[bo,aC5]at hm;obtain⟨us,rfl,hs,h1,hr⟩:=hv.agg_inv;refine .agg _ us γ h1 fun i c u hc hu=>?_;simp only[List.getElem?_map,aCL]at hc;obtain⟨c',hc',rfl⟩:=hc;exact(hr i c' u hc' hu).embL em hA (hm c' (List.mem_of_getElem? hc'))
 |fn ff x y=>
  simp only[bo,aCK,aC5]at hm;obtain⟨us,ts,rfl,hs,ht,hx,hy⟩:=hv.fn_inv;refine .fn ff _ _ us ts γ γ (fun i c u hc hu=>?_) (fun i c u hc hu=>?_)
  ·simp only[List.getElem?_map,aCL]at hc;obtain⟨c',hc',rfl⟩:=hc;exact(hx i c' u hc' hu).embL em hA (hm.1 c' (List.mem_of_getElem? hc'))
  ·simp only[List.getElem?_map,aCL]at hc;obtain⟨c',hc',rfl⟩:=hc;exact(hy i c' u hc' hu).embL em hA (hm.2 c' (List.mem_of_getElem? hc'))
 |_=>
  exact hv.embL em hA hm
theorem Emb.live(em:Emb L f g h' h2){i}{s}(hl:live h2 i s):live h' (g i) s/\h2 i≠ .dead:=by
 have hd:h2 i≠ .dead:=afU hl|>fun hp=>by
  cases s with
  |none=>exact hp
  |some p=>obtain⟨_,_,_,e,_⟩:=hp;grind
 obtain⟨e,_⟩:=em.obj i hd;refine⟨?_,hd⟩;cases s with
 |none=>
  simp only[Ab.live,e]at hl;simp only[Ab.live];cases e2:h' (g i)<;>rw[e2]at hl<;>simp[eH]at hl⊢
 |some p=>
  obtain⟨cs,k,rows,e1,e2⟩:=hl;rw[e]at e1;cases e3:h' (g i)<;>rw[e3]at e1<;>simp only[eH]at e1<;>try (cases e1;done)
  rename_i cs';cases e1;simp only[List.getElem?_map,aCL]at e2;obtain⟨c,e4,e5⟩:=e2;exact⟨cs',k,rows,e3,by rw[e4,ajF.1 e5]⟩
theorem Rel.emb(em:Emb L f g h' h2)(r:Rel w X ρ h'){X2}(hX:∀b,XZ X2 b->b<w.heap.size)(hnx:∀i s,live h2 i s->¬XZ X2 (ρ (g i) s).1)(hA:∀b,aQ w X h' ρ b->aQ w X2 h2 (fun i s=>ρ (g i) s) b):
  Rel w X2 (fun i s=>ρ (g i) s) h2:=by
 refine⟨fun i s j t h1 h3 h4=>?_,hnx,fun i=>?_,hX⟩
 ·obtain⟨f1,f2⟩:=em.live h1;obtain⟨f3,f4⟩:=em.live h3;obtain⟨e1,e2⟩:=r.inj (g i) s (g j) t f1 f3 h4;exact⟨em.inj i j f2 f4 e1,e2⟩
 ·by_cases hd:h2 i=.dead
  ·rw[hd];trivial
  ·obtain⟨e,hc⟩:=em.obj i hd;have ho:=r.ob (g i);rw[e];cases e2:h' (g i)with
   |dead=>trivial
   |bx cs=>
    rw[e2]at ho hc;obtain⟨us,t,h1,h3,h4,h5⟩:=ho;refine⟨us,t,h1,h3,by grind,fun p c hp=>?_⟩;simp only[List.getElem?_map,aCL]at hp;obtain⟨c',hp',rfl⟩:=hp;obtain⟨u,h6,h7⟩:=h5 p c' hp';refine⟨u,h6,?_⟩;simp only[aF,aC5]at hc;have hcc:=hc c' (List.mem_of_getElem? hp');cases hO:bE c' with
    |true=>
     cases c'<;>simp[bE]at hO;obtain⟨a,cap,us',t',g1,g2,g3,g4,g5,g6,g7⟩:=h7;exact⟨a,cap,us',t',g1,g2,g3,g4,g5,g6,g7.mono fun b hb=>⟨hA b hb,rfl⟩⟩
    |false=>
     have hca:=by simpa [hF,hO]using hcc
     rw[wR hO]at h7;rw[wR (by rw[agh];omega)];refine⟨h7.1.embA em hA hca,h7.2.1,?_⟩;have h8:=h7.2.2;cases c'<;>first|exact h8.elim|trivial|skip
     ·rename_i id sub _ _ _;cases sub with
      |some p=>exact h8.elim
      |none=>
       simp only[bo,bw,aCK]at hca;obtain⟨_,e3⟩:=em.back id hca.1;simp only[eG,lu,pK]at h8⊢;rw[e3,abo];omega
     ·simp only[pK,aCK,aC5]at h8;simp only[eG,pK,aCK,aC5,aDz];have key:∀c,aJ c=true->aJ (lu f c)=true:=fun c hd=>by cases c<;>simp[aJ,lu]at hd⊢ <;>exact hd
      grind
   |ar k rows=>
    rw[e2]at ho;obtain⟨us,t,h1,h3,h4,h5⟩:=ho;exact⟨us,t,h1,h3,h4,h5.mono fun b hb=>⟨hA b hb,rfl⟩⟩
   |fz k rows=>
    rw[e2]at ho;obtain⟨h0,us,t,fr,h1,h3,h4,h5⟩:=ho;exact⟨hA _ h0,us,t,fr,h1,h3,h4,h5.mono fun b hb=>⟨hA b hb,rfl⟩⟩
end
theorem amN(c):lu (fun i=>i) c=c:=by cases c<;>rfl
theorem WT{f}(hf:∀a,f a=a)(l:List α):l.map f=l:=by
 rw[show f=id from funext hf,List.map_id]
theorem amO(c):eG (fun i=>i) c=c:=by
 cases c<;>simp[eG,lu,WT amN]
theorem R6(o):eH (fun i=>i) o=o:=by
 cases o<;>simp[eH,WT amO]
section
variable {L:List Nat} {g:Nat→Nat} {h' h2:ae}
theorem Emb.add(em:Emb L (fun i=>i) g h' h2){m id}(hm:h2 m=.dead)(hL:L.contains m=false)(hid:∀i,h2 i≠ .dead->g i≠id)(hcl:aF L (h' id)=true):Emb L (fun i=>i) (upd g m id) h' (upd h2 m (h' id)):=by
 refine⟨fun i hi=>?_,fun i hi=>?_,fun i j hi hj hg=>?_⟩
 ·have hne:i≠m:=γ
  rw[aU _ _ hne,aU _ _ hne];exact em.back i hi
 ·by_cases e:i=m
  ·subst e;rw[aC,aC,R6];grind
  ·rw[aU _ _ e]at hi⊢;rw[aU _ _ e];exact em.obj i hi
 ·by_cases e:i=m<;>by_cases e':j=m
  ·rw[e,e']
  ·subst e;rw[aC,aU _ _ e']at hg;rw[aU _ _ e']at hj;grind
  ·subst e';rw[aC,aU _ _ e]at hg;rw[aU _ _ e]at hi;grind
  ·rw[aU _ _ e]at hi;rw[aU _ _ e']at hj;rw[aU _ _ e,aU _ _ e']at hg;exact em.inj i j hi hj hg
theorem CP{n i}:(dD n).contains i=true↔1000<=i/\i<1000+n:=by
 grind[dD,List.mem_range']
theorem vT(h':ae)(n i):ax ((dD n).map h') i=if 1000<=i/\i<1000+n then h' i else .dead:=by
 unfold ax;by_cases h1:1000<=i
 ·rw[if_pos h1];by_cases h2:i<1000+n
  ·have:(dD n)[i-1000]?=some i:=by
    unfold dD;grind
   grind
  ·rw[if_neg ω,List.getElem?_map,List.getElem?_eq_none (by grind[dD])];rfl
 grind
theorem Emb.base{n}(hcl:((dD n).all fun i=>aF (dD n) (h' i))=true):Emb (dD n) (fun i=>i) (fun i=>i) h' (ax ((dD n).map h')):=by
 refine⟨fun i hi=>⟨rfl,?_⟩,fun i hi=>?_,fun i j _ _ hg=>hg⟩
 ·rw[vT,if_pos (CP.1 hi),R6]
 ·rw[vT]at hi⊢;split at hi
  ·rename_i h1;rw[if_pos h1,R6];exact⟨rfl,List.all_eq_true.1 hcl i (by simpa using CP.2 h1)⟩
  grind
end
section
variable {w:World} {X:Nat→Prop} {ρ:eZ} {h' h2:ae} {A A2:Nat→Prop}
theorem ME{b k lo n cap}{us}{e}{fr}{rows}{a}(hb:w.heap[b]?=some (.cells us e fr))(hA2:A2 b)(hA:∀b,A b->A2 b)(hr:dw w A k rows us)
  (hle:lo+n<=rows.length) (hn:n<=cap) (ha:cap=0\/a=some ⟨b,lo*k,none⟩):RD w A2 (rO k lo n rows) (.slice a n cap):=
 ri hb hA2 (hr.mono fun b hb=>⟨hA b hb,rfl⟩) hle hn ha
def al8(w:World)(A:Nat->Prop)(ρ:eZ)(h':ae)(a b:AV)(u:Value):Prop:=
 (∃id k rows,b=.osl k rows/\a=.rsl id none k 0 rows.length/\h' id=.ar k rows/\bt id=false)\/
 (∃id cs,b=.obx cs/\a=.ref id none 0 0 0/\h' id=.bx cs/\cs.all oA=true/\bt id=false)\/
 (b=a/\∃id k i j,a=.ref id none k i j/\bt id=true)\/
 (b=a/\aJ a=true)\/
 (aJ b=true/\∀A2,(∀b,A b->A2 b)->(∀id sub,gL a=[id]->live h' id sub->A2 (ρ id sub).1)->RD w A2 b u)
theorem ER(r:Rel w X ρ h'){a b}{u}(hv:RV w (aQ w X h' ρ) ρ h' a u)(he:oE h' a=some b):al8 w (aQ w X h' ρ) ρ h' a b u:=by
 have dl:aJ a=true->oE h' a=some a->al8 w (aQ w X h' ρ) ρ h' a b u:=fun hd hq=>by
  rw[hq]at he;cases he;exact .inr (.inr (.inr (.inl ⟨rfl,hd⟩)))
 cases a with
 |rsl id sub k lo n=>
  obtain⟨a,cap,rfl,hp,hn,hb,ha⟩:=hv.rsl_inv;cases sub with
  |none=>
   simp only[oE]at he;split at he
   ·grind
   ·have ho:=r.ob id;cases e:h' id with
    |dead=>rw[e]at he;cases he
    |ar k' rows=>
     rw[e]at he ho;simp only[Ef]at he;split at he
     ·rename_i hc;obtain⟨rfl,hle⟩:=hc;split at he
      ·rename_i hw;obtain⟨rfl,rfl⟩:=hw;cases he;exact .inl ⟨id,k',rows,rfl,rfl,e,by grind⟩
      ·cases he;obtain⟨us,t,h1,h3,h4,h5⟩:=ho;exact .inr (.inr (.inr (.inr ⟨rfl,fun A2 hA hl=>ME h1 (hl id none rfl (by grind[live])) hA h5 hle hn ha⟩)))
     grind
    |fz k' rows=>
     rw[e]at he ho;simp only[Ef]at he;split at he
     ·rename_i hc;obtain⟨rfl,hle⟩:=hc;cases he;obtain⟨h0,us,t,fr,h1,h3,h4,h5⟩:=ho;exact .inr (.inr (.inr (.inr ⟨rfl,fun A2 hA hl=>ME h1 (hA _ h0) hA h5 hle hn ha⟩)))
     grind
    |bx cs=>
     rw[e]at he;simp only[Ef]at he;split at he
     ·rename_i hc;obtain⟨rfl,hle,hd⟩:=hc;cases he;obtain⟨us,t,h1,h3,h4,h5⟩:=r.cell e;refine .inr (.inr (.inr (.inr ⟨rfl,fun A2 hA hl=>ri h1 (hl id none rfl (by grind[live])) (fun i row hi=>?_) (by grind[xR]) hn ha⟩)));simp only[xR,List.getElem?_map,aCL]at hi;obtain⟨c,hc,rfl⟩:=hi;refine⟨rfl,fun j d hj=>?_⟩;cases j with
      |succ j=>grind
      |zero=>
       simp at hj;subst hj;obtain⟨u,h6,h7⟩:=h5 i c hc;have hdc:=List.all_eq_true.1 hd c (List.mem_of_getElem? hc);exact⟨u,by grind,Oq h7 hdc hA (fun k rows ec=>by subst ec;exact hl id (some i) rfl ⟨cs,k,rows,e,hc⟩),I4 hdc⟩
     grind
  |some p=>
   simp only[oE]at he;split at he
   ·grind
   ·cases e:h' id with
    |bx cs=>
     rw[e]at he;simp only[lR]at he;cases ec:cs[p]? with
     |none=>rw[ec]at he;cases he
     |some c=>
      rw[ec]at he;cases c<;>simp only[An,apB]at he<;>try (cases he;done)
      split at he
      ·rename_i hc;obtain⟨rfl,hle⟩:=hc;cases he;obtain⟨us,t,h1,h3,h4,h5⟩:=r.cell e;obtain⟨u,_,a',cap',us',t',_,_,_,q4,q5,q6,q7⟩:=h5 p _ ec;exact .inr (.inr (.inr (.inr ⟨rfl,fun A2 hA hl=>ME q4 (hl id (some p) rfl ⟨cs,_,_,e,ec⟩) hA q7 hle hn ha⟩)))
      grind
    |_=>rw[e]at he;cases he
 |ref id sub k i j=>
  cases sub with
  |some p=>grind[oE,aJ]
  |none=>
   simp only[oE]at he;split at he
   ·rename_i hps;cases he;exact .inr (.inr (.inl ⟨rfl,id,k,i,j,rfl,hps⟩))
   ·split at he
    ·rename_i hc;obtain⟨rfl,rfl,rfl⟩:=hc;cases e:h' id<;>rw[e]at he<;>simp only[adn]at he<;>try (cases he;done)
     split at he
     ·rename_i hd;cases he;exact .inr (.inl ⟨id,_,rfl,rfl,e,hd,by grind⟩)
     grind
    grind
 |fn f x y=>
  grind[oE]
 |any=>exact dl rfl rfl
 |v x=>exact dl rfl rfl
 |emp=>exact dl rfl rfl
 |sl k rows=>exact dl rfl rfl
 |_=>simp[oE,aJ]at he
theorem WU{b c}(hdl:aJ b=true)(hd:Eg b=some c):c=b:=by
 unfold Eg at hd;split at hd
 all_goals simp_all[aJ,if_pos]
theorem Qa(r:Rel w X ρ h'){a b c}{u}(hv:RV w (aQ w X h' ρ) ρ h' a u)(h1:u.oneCell'=true)(he:oE h' a=some b)(hd:Eg b=some c):
  aJ c=true/\∀A2,(∀b,aQ w X h' ρ b->A2 b)->(∀id sub,gL a=[id]->live h' id sub->A2 (ρ id sub).1)->RD w A2 c u:=by
 rcases ER r hv he with⟨id,k,rows,rfl,rfl,e,_⟩| ⟨id,cs,rfl,_⟩| ⟨rfl,id,k,i,j,rfl,_⟩| ⟨rfl,hdl⟩| ⟨hdl,hr⟩
 ·simp only[Eg,Option.some.injEq]at hd;subst hd;refine⟨rfl,fun A2 hA hl=>?_⟩;obtain⟨a,cap,rfl,hp,hn,hb,ha⟩:=hv.rsl_inv;have ho:=r.ob id;rw[e]at ho;obtain⟨us,t,g1,g2,g3,g4⟩:=ho;have:=ME (w:=w) (A2:=A2) (lo:=0) g1 (hl id none rfl (by grind[live])) hA g4 ω hn ha;grind[rO]
 ·grind[Eg,aJ]
 ·grind[Eg,aJ]
 ·have:=WU hdl hd;subst this;exact⟨hdl,fun A2 hA _=>(hv.toD hdl h1).mono fun b hb=>⟨hA b hb,rfl⟩⟩
 grind[WU]
theorem NJ(r:Rel w X ρ h'):∀cs ds,oF h' cs=some ds->ds.length=cs.length/\∀ (i:Nat) a c u,cs[i]?=some a->ds[i]?=some c->RV w (aQ w X h' ρ) ρ h' a u->u.oneCell'=true->
  aJ c=true/\∀A2,(∀b,aQ w X h' ρ b->A2 b)->(∀id sub,gL a=[id]->live h' id sub->A2 (ρ id sub).1)->RD w A2 c u
 |[],ds,he=>by grind[oF]
 |a::cs,ds,he=>by
  simp only[oF,aCH]at he;obtain⟨b,e1,c,e2,q,e3,e4⟩:=he;obtain⟨g1,g2⟩:=NJ r cs q e3;refine⟨by grind,fun i a' c' u hc hd hv h1=>?_⟩;cases i with
  |zero=>
   grind[Qa]
  |succ i=>grind
end
def Fx(f:ae->Option R3)(p:ae->ae->Fp)(h:ae)(x:AV)(h':ae)(r w:List Nat):Prop:=
 ∀g,(∀i,dx i∈r\/dx i∈w->g i=h i)->∃g',f g=some (x,g',[])/\p g g'=some (r,w)/\(∀i,dx i∈w->g' i=h' i)/\(∀i,dx i∉w->g' i=g i)
section
variable {h h' g:ae} {x:AV} {r w:List Nat}
theorem HA{f:ae->Option R3}{p:ae->ae->Fp}(hw:w=[])(hp:∀g g',p g g'=some (r,w))(hf:∀g,(∀i,dx i∈r->g i=h i)->f g=some (x,g,[])):Fx f p h x h' r w:=fun g hg=>by
 simp_all
theorem rm{f:ae->Option R3}{p:ae->ae->Fp}{d}{o}(hd:dx d∈w)(hh:h'=upd h d o)(hp:∀g g',p g g'=some (r,w))(hf:∀g,g d=h d->f g=some (x,upd g d o,[])):Fx f p h x h' r w:=fun g hg=>by
 refine⟨upd g d o,hf g (hg d (.inr hd)),hp g _,fun i hi=>?_,fun i hi=>?_⟩
 ·simp_all[upd]
 grind[upd,absurd]
theorem ajG{a}(hd:aJ a=true)(h):gW h a=some (a,h,[]):=by
 cases a<;>simp[aJ]at hd<;>simp[gW,aJ,hd]
theorem oS:∀ {xs},xs.all aJ=true->∀h,ke h xs=some (xs,h,[])
 |[],_,h=>rfl
 |a::l,hd,h=>by
  simp only[aDb,aCK]at hd;simp only[ke,ajG hd.1 h,oS hd.2 h,aCN,aCY]
theorem ES{a}{xs}(hd:dat a=true)(hc:jH a=some xs):xs.all aJ=true:=by
 cases a<;>simp only[dat,aJ,jH,Option.some.injEq]at hd hc<;>first| (cases hc;done)| (cases hd;done)|skip
 all_goals grind[aJ]
theorem Fy{k}:∀ {ps} {rows rows'} {h h'} {ks},(ps.all fun p=>dat p.2)=true->fM k h rows ps=some (rows',h',ks)->h'=h/\ks=[]/\∀g,fM k g rows ps=some (rows',g,[])
 |[],rows,rows',h,h',ks,_,hz=>by
  grind[fM,Option.some.injEq,Prod.mk.injEq]
 | (i,a)::ps,rows,rows',h,h',ks,hd,hz=>by
  simp only[aDb,aCK]at hd;simp only[fM,aCH]at hz;obtain⟨cs,e1,hz⟩:=hz;split at hz
  ·have hcs:=ES hd.1 e1;simp only[oS hcs h,aCN,aCH]at hz;obtain⟨⟨r1,r2,r3⟩,e2,e3⟩:=hz;obtain⟨q1,q2,q3⟩:=Fy hd.2 e2
   simp_all[fM,aCN,if_pos,oS,aCT]
  grind
theorem KX{k k0 i j}{agg}{o}{ks}(hz:qX h k agg k0 i j o=some (x,h',ks)):h'=h/\ks=[]/\∀g,qX g k agg k0 i j o=some (x,g,[]):=by
 cases o with
 |none=>cases hz
 |some q=>
  simp only[qX]at hz;split at hz
  ·simp only[aCH,aCL]at hz;obtain⟨row,e1,a,e2,e3⟩:=hz
   simp_all[qX,if_pos,aCN,aDt]
  grind
theorem agi{k id k0 i j}{agg}{o}(hz:Dv h k agg id k0 i j o=some (x,h',[])):h'=h/\∀g,Dv g k agg id k0 i j o=some (x,g,[]):=by
 cases o with
 |dead=>cases hz
 |bx cs=>
  simp only[Dv,IT]at hz⊢;grind
 |ar k' rows=>
  grind[Dv,KX]
 |fz k' rows=>
  grind[Dv,KX]
theorem ad0{k}{agg}{a}(hz:kf h k agg a=some (x,h',[]))(hp:wO a=some (r,w)):Fx (fun g=>kf g k agg a) (fun _ _=>wO a) h x h' r w:=by
 cases a<;>simp only[wO]at hp<;>try (cases hp;done)
 case ipt cs=>
  cases hp;refine HA rfl (fun _ _=>rfl) fun g _=>?_;grind[kf,aCL]
 case ref id sub k0 i j=>
  cases hp;refine HA rfl (fun _ _=>rfl) fun g hg=>?_;cases sub with
  |none=>
   grind[kf,agi]
  |some p=>
   grind[kf,KX]
theorem aao{k}{a y}(hz:nN h k a y=some (x,h',[]))(hp:Dw y a=some (r,w)):Fx (fun g=>nN g k a y) (fun _ _=>Dw y a) h x h' r w:=by
 cases a<;>simp only[Dw]at hp<;>try (cases hp;done)
 rename_i id sub k0 i j;split at hp
 ·rename_i hd;cases hp;simp only[nN,aCH]at hz;obtain⟨xs,e1,hz⟩:=hz;have hxs:=ES hd e1;split at hz
  ·cases sub with
   |none=>
    simp only at hz;cases eo:h id with
    |bx cs=>
     rw[eo]at hz;simp only[Ht,RU]at hz;split at hz
     ·simp only[Option.some.injEq,Prod.mk.injEq]at hz;obtain⟨rfl,rfl,e3⟩:=hz;refine rm σ rfl (fun _ _=>by simp_all[Dw,if_pos]) fun g hg=>?_
      simp_all[nN,aCN,if_pos,Ht,RU,if_true]
     grind
    |ar k' rows=>
     simp only[Ht,oS hxs h,aCN,eo,RW,aCL]at hz;obtain⟨q,e2,e3⟩:=hz;cases e3;refine rm σ rfl (fun _ _=>by simp_all[Dw,if_pos]) fun g hg=>?_
     simp_all[nN,aCN,if_pos,Ht,oS,RW,aDt]
    |_=>rw[eo]at hz;cases hz
   |some p=>
    simp only[oS hxs h,aCN]at hz;cases eo:h id with
    |bx cs=>
     rw[eo]at hz;simp only[GE]at hz;cases ec:cs[p]? with
     |none=>rw[ec]at hz;cases hz
     |some c=>
      rw[ec]at hz;cases c<;>simp only[adl]at hz<;>try (cases hz;done)
      simp only[aCL]at hz;obtain⟨q,e2,e3⟩:=hz;cases e3;refine rm σ rfl (fun _ _=>by simp_all[Dw,if_pos]) fun g hg=>?_
      simp_all[nN,aCN,if_pos,GE,oS,adl,aDt]
    |_=>rw[eo]at hz;cases hz
  grind
 grind
end
theorem apN{a b}(h:WE a b=true):a=b:=by
 cases a<;>cases b<;>simp only[WE]at h<;>try (cases h;done)
 case string.string x y=>
  obtain⟨⟨x⟩⟩:=x
  simp_all
 all_goals grind
mutual
theorem apO:∀ {a b:AV},WF a b=true->a=b
 |a,b,h=>by
  cases a<;>cases b<;>simp only[WF]at h<;>try (first|rfl| (cases h;done))
  case v.v=>rw[apN h]
  case sl.sl=>simp only[aCK,decide_eq_true_eq]at h;rw[h.1,KY h.2]
  case osl.osl=>simp only[aCK,decide_eq_true_eq]at h;rw[h.1,KY h.2]
  case obx.obx=>rw[BJ h]
  case agg.agg=>rw[BJ h]
  case ref.ref=>grind
  case rsl.rsl=>grind
  case ipt.ipt=>rw[BJ h]
  case fn.fn=>simp only[aCK,decide_eq_true_eq]at h;rw[h.1,BJ h.2.1,BJ h.2.2]
theorem BJ:∀ {a b:List AV},Cw a b=true->a=b
 |[],[],_=>rfl
 |[],_::_,h=>by cases h
 |_::_,[],h=>by cases h
 |a::l,b::r,h=>by
  simp only[Cw,aCK]at h;rw[apO h.1,BJ h.2]
theorem KY:∀ {a b:List (List AV)},Ka a b=true->a=b
 |[],[],_=>rfl
 |[],_::_,h=>by cases h
 |_::_,[],h=>by cases h
 |a::l,b::r,h=>by
  simp only[Ka,aCK]at h;rw[BJ h.1,KY h.2]
end
theorem ajH{a b}(h:Mv a b=true):a=b:=by
 cases a<;>cases b<;>simp only[Mv]at h<;>try (first|rfl| (cases h;done))
 case bx.bx=>rw[BJ h]
 case ar.ar=>grind[KY]
 case fz.fz=>grind[KY]
theorem agj{g h g' h'}{ids}(e:∀i,i∈ids->g i=h i)(e':∀i,i∈ids->g' i=h' i):GI g g' ids=GI h h' ids:=by
 grind[GI,List.filter_congr]
theorem ajI{h h'}{ids}{i}(hi:i∈ids)(hn:dx i∉ (GI h h' ids).map dx):h' i=h i:=by
 by_cases hs:Mv (h i) (h' i)=true
 ·exact(ajH hs).symm
 ·refine absurd (List.mem_map.2 ⟨i,?_,rfl⟩) hn;simp only[GI,List.mem_filter];exact⟨hi,by simpa using hs⟩
theorem I8{a}:∀ {r l},a∈l->a∈bN l r
 |[],l,h=>h
 |b::r,l,h=>by
  unfold bN;apply I8;split
  ·exact h
  ·simp[h]
theorem Fz:∀ {r l},l.Nodup->(bN l r).Nodup
 |[],l,h=>h
 |b::r,l,h=>by
  unfold bN;apply Fz;split
  ·exact h
  ·rename_i hc;rw[List.nodup_append];refine⟨h,by simp,fun a ha c hc'=>?_⟩;simp only[List.mem_singleton]at hc';subst hc'
   rintro rfl
   exact hc (by simpa using ha)
theorem T9{h}{a}:∀ {n} {l} {i},a∈l->a∈cp h n l i
 |0,l,i,hm=>hm
 |n+1,l,i,hm=>by
  unfold cp;split
  ·exact hm
  ·exact T9 (I8 hm)
theorem NK{h}:∀ {n} {l} {i},l.Nodup->(cp h n l i).Nodup
 |0,l,i,hm=>hm
 |n+1,l,i,hm=>by
  unfold cp;split
  ·exact hm
  ·exact NK (Fz hm)
theorem HB{g h}:∀ {n} {l} {i},(∀a,a∈cp h n l i->g a=h a)->cp g n l i=cp h n l i
 |0,l,i,_=>rfl
 |n+1,l,i,hg=>by
  unfold cp at hg⊢;split
  ·rfl
  ·rename_i a ha;rw[ha]at hg;rw[hg a (T9 (I8 (List.mem_of_getElem? ha)))];exact HB hg
theorem Ua(h)(n):cp h n [] 0=[]:=by cases n<;>simp[cp]
theorem WV{a}(h:aJ a=true):gL a=[]:=by cases a<;>simp[aJ]at h<;>rfl
theorem WX{a}(h:dat a=true):cH a=[]:=by
 cases a<;>simp only[dat]at h<;>try exact WV h
 all_goals simp_all[cH,List.flatMap_eq_nil_iff,WV,aJ,aCK,List.isEmpty_iff]
theorem Ub{a}(h:dat a=true):BD a=true:=by
 have key:∀c,aJ c=true->uP c=true:=fun c hc=>by cases c<;>simp[aJ]at hc<;>rfl
 cases a<;>simp only[dat]at h<;>try exact key _ h
 all_goals simp_all[aJ,aCK,List.isEmpty_iff,BD]
section
variable {h h' g:ae} {x:AV}
theorem NL:∀ {cs} {q},cs.all uP=true->ke h cs=some q->q=(cs,h,[])/\∀g,ke g cs=some (cs,g,[])
 |[],q,_,hz=>by cases hz;exact⟨rfl,fun g=>rfl⟩
 |c::cs,q,hd,hz=>by
  simp only[aDb,aCK]at hd;simp only[ke,aCH]at hz;obtain⟨p,e1,q',e2,e3⟩:=hz;have hc:p=(c,h,[])/\∀g,gW g c=some (c,g,[]):=by
   cases c<;>simp only[uP]at hd<;>simp only[gW]at e1⊢ <;>first| (cases hd.1;done)|skip
   all_goals
    split at e1
    ·rename_i hdl;simp only[if_pos hdl];cases e1;exact⟨rfl,fun g=>by first|trivial|rfl⟩
    ·cases e1
  obtain⟨rfl,hc2⟩:=hc;obtain⟨rfl,q2⟩:=NL hd.2 e2;cases e3;refine⟨rfl,fun g=>?_⟩;simp only[ke,hc2 g,aCN,q2 g,aCY]
theorem aap{m}{a}{q}(hd:BD a=true)(hz:ef h m a=some q):q=(a,h,[])/\∀g,ef g m a=some (a,g,[]):=by
 have key:∀c,(∀cs,c≠ .agg cs)->uP c=true->yM h c=some q->q=(c,h,[])/\∀g,yM g c=some (c,g,[]):=by
  intro c hna hc hz;have e1:∀g,yM g c=if aJ c then some (c,g,[])else none:=by
   intro g;cases c<;>simp only[uP]at hc<;>first| (cases hc;done)| (exact absurd rfl (hna _))|rfl
  grind
 cases a with
 |agg cs=>
  simp only[ef,yM,aCH]at hz⊢;obtain⟨p,e1,e2⟩:=hz;obtain⟨rfl,q2⟩:=NL hd e1;grind
 |rsl=>grind[BD,uP]
 |rsc=>grind[BD,uP]
 |ref id sub k i j=>
  cases sub with
  |none=>
   simp_all[ef,Option.some.injEq,trivial]
  |some p=>exact key _ (fun cs=>by simp) rfl hz
 |ipt cs=>
  simp_all[ef,Option.some.injEq,trivial]
 |fn f u v=>
  simp_all[ef,Option.some.injEq,trivial]
 |_=>exact key _ (fun cs=>by simp) rfl hz
theorem KZ:∀ {l} {ms} {q},l.all BD=true->cu h ms l=some q->q=(l,h,[])/\∀g,cu g ms l=some (l,g,[])
 |[],ms,q,_,hz=>by cases hz;exact⟨rfl,fun g=>rfl⟩
 |a::l,ms,q,hd,hz=>by
  simp only[aDb,aCK]at hd;simp only[cu,aCH]at hz;obtain⟨p,e1,q',e2,e3⟩:=hz;obtain⟨rfl,p2⟩:=aap hd.1 e1;obtain⟨rfl,q2⟩:=KZ hd.2 e2;cases e3;refine⟨rfl,fun g=>?_⟩;simp only[cu,p2 g,aCN,q2 g,aCY]
theorem WY{ids}{i}:∀ {l} {os} {g h},g i=h i->eY g ids l os i=eY h ids l os i
 |[],os,g,h,e=>by simp_all[eY]
 |a::l,[],g,h,e=>by simp_all[eY]
 |a::l,o::os,g,h,e=>by
  simp only[eY];apply WY;unfold upd;split
  ·rfl
  ·exact e
theorem AX{ids}{i}:∀ {l} {os} {g},i∉l->eY g ids l os i=g i
 |[],os,g,_=>rfl
 |a::l,[],g,_=>rfl
 |a::l,o::os,g,hn=>by
  simp only[List.mem_cons,not_or]at hn;simp only[eY];rw[AX hn.2];exact aU _ _ hn.1
theorem Ot(n)(g h)(c):(eJ n g c).1=(eJ n h c).1:=by cases c<;>rfl
theorem abp{n i}{g h}{c}(e:g i=h i):(eJ n g c).2 i=(eJ n h c).2 i:=by
 cases c<;>simp only[eJ]<;>first|exact e| (unfold upd;split;rfl;exact e)
theorem WZ{n i}{g}{c}(hn:i≠n):(eJ n g c).2 i=g i:=by
 cases c<;>simp only[eJ]<;>first|rfl|exact aU _ _ hn
theorem W0:∀l n g h,(dp n g l).1=(dp n h l).1
 |[],n,g,h=>rfl
 |c::l,n,g,h=>by simp only[dp];rw[Ot n g h,W0 l (n+1) _ (eJ n h c).2]
theorem abq{i}:∀ {l} {n} {g h},g i=h i->(dp n g l).2 i=(dp n h l).2 i
 |[],n,g,h,e=>e
 |c::l,n,g,h,e=>by simp only[dp];exact abq (abp e)
theorem W7{i}:∀ {l} {n} {g},¬ (n<=i/\i<n+l.length)->(dp n g l).2 i=g i
 |[],n,g,hn=>rfl
 |c::l,n,g,hn=>by
  simp only[dp];simp only[aDp]at hn;rw[W7 ω,WZ ω]
theorem abr(n)(g h)(c):(mat n g c).1=(mat n h c).1:=by
 cases c<;>simp only[mat]<;>first|exact Ot _ _ _ _|rw[W0]
theorem agk{n i}{g h}{c}(e:g i=h i):(mat n g c).2 i=(mat n h c).2 i:=by
 cases c<;>simp only[mat]<;>first|exact abp e|exact abq e
theorem CQ{n i}{g}{c}(hn:¬ (n<=i/\i<n+cJ c)):(mat n g c).2 i=g i:=by
 cases c<;>simp only[mat]<;>simp only[cJ]at hn<;>first|exact WZ ω|exact W7 hn
theorem NM{g h}:∀ {m n},(∀i,n<=i->i<n+m->g i=h i)->cr g n m=cr h n m
 |0,n,_=>rfl
 |m+1,n,hg=>by
  simp only[cr];rw[hg n ω ω,NM fun i h1 h2=>hg i ω ω]
theorem Kc{g h}{gv}:∀ {l} {os},(∀a,a∈l->g a=h a)->dh g gv l os=dh h gv l os
 |[],os,_=>rfl
 |a::l,[],_=>rfl
 |a::l,o::os,hg=>by
  simp only[dh];rw[hg a σ,Kc fun b hb=>hg b (by simp[hb])]
theorem GM{d i}(h1:2000+8*d<=i)(h2:i<2000+8*d+8):dx i=2000+8*d:=by
 unfold dx;grind
theorem Vd{kp}{d}{ids}{gv}{r}(hz:fE kp h d ids [] gv r=some (x,h',[]))(hg:∀i,dx i∈ids.map dx++[2000+8*d]->g i=h i):
  ∃g',fE kp g d ids [] gv r=some (x,g',[])/\(∀i,dx i∈ids.map dx++[2000+8*d]->g' i=h' i)/\(∀i,dx i∉ids.map dx++[2000+8*d]->g' i=g i)/\∀i,i∉ids->dx i≠2000+8*d->h' i=h i:=by
 unfold fE at hz⊢;split at hz
 ·rename_i hc;simp only[Option.some.injEq,Prod.mk.injEq,aCT,List.append_eq_nil_iff]at hz;obtain⟨rfl,rfl,hk,rfl⟩:=hz;obtain⟨c1,c0,c2,c3,c4,c5⟩:=hc;have hfr:cr g (2000+8*d) (cJ r.1)=true:=by
   grind[NM,GM]
  have hst:dh g [] ids r.2=true:=by grind[Kc]
  refine⟨(mat (2000+8*d) (eY g ids ids r.2) r.1).2,?_,fun i hi=>?_,fun i hi=>?_,fun i hi hi2=>?_⟩
  ·rw[if_pos ⟨c1,c0,c2,hfr,hst,c5⟩,hk];simp only[gP,aCY];rw[abr _ (eY g ids ids r.2) (eY h ids ids r.2)]
  ·simp only[gP];grind[agk,WY]
  ·rw[CQ (fun hh=>hi (by grind[GM])),AX (fun hh=>hi γ)]
  ·simp only[gP];rw[CQ (fun hh=>hi2 (GM hh.1 ω)),AX hi]
 grind
theorem aaq{call}{md}{d}{f}{zas}{r w}(hz:eM call md h d zas f=some (x,h',[]))(hp:i9 h d (qY zas f) h'=some (r,w)):
  Fx (fun g=>eM call md g d zas f) (fun g=>i9 g d (qY zas f)) h x h' r w:=by
 cases f<;>simp only[eM]at hz<;>try (cases hz;done)
 rename_i fid a b;simp only[qY]at hp;simp only[aCH]at hz;obtain⟨p,e1,e2⟩:=hz;have hno:(a++zas++b).all BD=true:=by
  grind[i9,aC5,Ub]
 obtain⟨rfl,e3⟩:=KZ hno e1;generalize hI:cp h 40 (bN [] ((a++zas++b).flatMap cH)) 0=ids at*
 have hids:(∀i,i∈ids->dx i∈r)/\w=(GI h h' ids).map dx++[2000+8*d]/\
   (∀g g',(∀i,i∈ids->g i=h i)->(∀i,i∈ids->g' i=h' i)->i9 g d (a++zas++b) g'=some (r,w)):=by
  unfold i9 at hp;split at hp
  ·cases hp;have:(a++zas++b).flatMap cH=[]:=by
    grind[List.flatMap_eq_nil_iff,WX]
   rw[this]at hI;simp only[bN,Ua]at hI;subst hI;refine⟨fun i hi=>by grind,rfl,fun g g' _ _=>?_⟩
   simp_all[i9,if_pos]
  ·rename_i hd;rw[hI]at hp;cases hp;refine⟨fun i hi=>List.mem_map.2 ⟨i,hi,rfl⟩,rfl,fun g g' hg hg'=>?_⟩;unfold i9;have hre:cp g 40 (bN [] ((a++zas++b).flatMap cH)) 0=ids:=by
    grind[HB]
   rw[if_neg hd,if_pos hno,hre,agj hg hg']
 obtain⟨hi1,hi2,hi3⟩:=hids;intro g hg;have hat:=fun i hi=>hg i (.inl (hi1 i hi));have hre:cp g 40 (bN [] ((a++zas++b).flatMap cH)) 0=ids:=by
  grind[HB]
 unfold kt at e2;split at e2
 ·simp only[aCH]at e2;obtain⟨res,e4,e5⟩:=e2;have hgl:∀i,dx i∈ids.map dx++[2000+8*d]->g i=h i:=fun i hi=>by
   grind
  obtain⟨g',g1,g2,g3,g4⟩:=Vd e5 (g:=g) hgl;have hat':=fun i hi=>g2 i (List.mem_append_left _ (List.mem_map.2 ⟨i,hi,rfl⟩));refine⟨g',?_,hi3 g g' hat hat',fun i hi=>g2 i ?_,fun i hi=>?_⟩
  ·simp only[eM,e3 g,aCN,hre];unfold kt;have hmap:ids.map (fun a=>eH (bu ids) (g a))=ids.map fun a=>eH (bu ids) (h a):=aDk fun i hi=>by rw[hat i hi]
   grind
  ·rw[hi2]at hi;rcases List.mem_append.1 hi with hi|hi
   ·refine List.mem_append_left _ ?_;obtain⟨a,ha,hae⟩:=List.mem_map.1 hi;exact List.mem_map.2 ⟨a,(List.mem_filter.1 ha).1,hae⟩
   grind
  grind[dx,ajI,List.mem_append_left]
 grind
theorem Qb{call}{md}{d}{f}{zas}{r w}(hz:bF call md h d zas f=some (x,h',[]))(hp:i9 h d (qY zas f) h'=some (r,w)):
  Fx (fun g=>bF call md g d zas f) (fun g=>i9 g d (qY zas f)) h x h' r w:=by
 have hb:¬lw md zas f=true:=by
  intro hb;have hno:∀l:List AV,l.all BD=true->l.any (fun x=>!PU x)=false:=fun l hl=>by
   rw[List.any_eq_false];intro c hc;have:=List.all_eq_true.1 hl c hc;cases c<;>simp[BD,uP,PU]at this⊢
  cases f<;>simp only[lw,aCK]at hb<;>try (cases hb;done)
  simp only[qY]at hp;unfold i9 at hp;split at hp
  ·rename_i hd;rw[hno _ (List.all_eq_true.2 fun c hc=>Ub (List.all_eq_true.1 hd c hc))]at hb;grind
  grind
 simp_all[bF,if_neg,aaq]
theorem NN{d}{x0 x}{h0 g0 h'}{k0}(hz:BC d (x0,h0,k0)=some (x,h',[]))(hg:∀i,dx i=2000+8*d->g0 i=h0 i):
  k0=[]/\∃g',BC d (x0,g0,[])=some (x,g',[])/\(∀i,dx i=2000+8*d->g' i=h' i)/\(∀i,dx i≠2000+8*d->g' i=g0 i):=by
 unfold BC at hz⊢;simp only at hz⊢;split at hz
 ·rename_i id k lo n;split at hz
  ·rename_i hid;subst hid;have hgd:dx (2000+8*d)=2000+8*d:=GM (aCJ _) ω;have he:=hg _ hgd;simp only[gW]at hz⊢;rw[he];cases eo:h0 (2000+8*d)<;>rw[eo]at hz<;>simp only[pI]at hz⊢ <;>try (cases hz;done)
   ·simp_all
   ·split at hz
    ·rename_i hc;rw[if_pos hc];simp only[aDt,Option.some.injEq,Prod.mk.injEq,aCY]at hz;obtain⟨rfl,rfl,rfl⟩:=hz;refine⟨rfl,upd g0 (2000+8*d) (.fz k _),rfl,fun i hi=>?_,fun i hi=>?_⟩
     all_goals grind[upd,absurd]
    grind
   grind
  grind
 grind
theorem I9{call}{md}{d}{op}{s}{r w}(hz:step call md d op s h=some (x,h',[]))(hp:iu d op s h h'=some (r,w)):
  Fx (fun g=>step call md d op s g) (fun g=>iu d op s g) h x h' r w:=by
 cases op with
 |p op=>
  obtain⟨rfl,rfl⟩:=hp;simp only[step,Fq,aCL]at hz;obtain⟨a,e1,e2⟩:=hz;cases e2;exact HA rfl (fun _ _=>rfl) fun g _=>by simp only[step,Fq,e1,aDt]
 |alloc z=>
  obtain⟨rfl,rfl⟩:=hp;obtain⟨h1,rfl,rfl,_⟩:=nF hz;exact rm σ rfl (fun _ _=>rfl) fun g hg=>by grind[step,pJ,Ee]
 |box k y=>
  simp only[iu]at hp;split at hp
  ·rename_i hd;cases hp;simp only[step,Fo,aCH]at hz;obtain⟨xs,e1,hz⟩:=hz;split at hz
   ·rename_i hk;simp only[ES hd e1,if_true,pJ]at hz;obtain⟨h1,rfl,rfl,_⟩:=nF hz;refine rm σ rfl (fun _ _=>by simp_all[iu,if_pos]) fun g hg=>?_;simp only[step,Fo,aCN,if_pos hk,ES hd e1,if_true,pJ,Ee, *]
   grind
  grind
 |buildSl k z n ps=>
  simp only[iu]at hp;split at hp
  ·rename_i hd;cases hp;simp only[step,aCH]at hz;obtain⟨q,e1,hz⟩:=hz;have hd':((ps.map fun p=>(p.1,ev s p.2)).all fun p=>dat p.2)=true:=by
    grind
   obtain⟨e2,e3,e4⟩:=Fy hd' e1;obtain⟨q1,q2,q3⟩:=q;simp only at e2 e3 e4 hz;subst e2 e3;obtain⟨h1,rfl,rfl,_⟩:=nF hz;refine rm σ rfl (fun _ _=>by simp only[iu,if_pos hd]) fun g hg=>?_;simp only[step,e4 g,aCN,dA,Ee, *]
  grind
 |buildC k z n ps=>
  simp only[iu]at hp;split at hp
  ·rename_i hd;cases hp;simp only[step,aCH]at hz;obtain⟨x0,⟨q,e1,hz⟩,hco⟩:=hz;have hd':((ps.map fun p=>(p.1,ev s p.2)).all fun p=>dat p.2)=true:=by
    grind
   obtain⟨e2,e3,e4⟩:=Fy hd' e1;obtain⟨q1,q2,q3⟩:=q;simp only at e2 e3 e4 hz;subst e2 e3;obtain⟨x1,x2,x3⟩:=x0;obtain⟨h1,rfl,rfl,rfl⟩:=nF hz;have hu:∀g (a b:Ob),upd (upd g d a) d b=upd g d b:=fun g a b=>by funext i;simp only[cB];split<;>rfl
   have key:∀g,g d=.dead->step call md d (.buildC k z n ps) s g=if 0+n<=q1.length then some (rO k 0 n q1,upd g d (.fz k q1),[])else none:=fun g hg=>by
    simp only[step,e4 g,aCN,dA,Ee,GH,gW,pI,cB,if_true,true_and, *];split<;>simp
   simp only[GH,gW,pI,cB,if_true,true_and,hu]at hco;split at hco
   ·rename_i hle;cases hco;refine rm σ rfl (fun _ _=>by simp only[iu,if_pos hd]) fun g hg=>?_;rw[key g (by rw[hg];exact h1),if_pos hle]
   ·cases hco
  grind
 |mkSl k z b l c=>
  obtain⟨rfl,rfl⟩:=hp;simp only[step,aCH]at hz;obtain⟨q,e1,hz⟩:=hz;split at hz
  ·obtain⟨h1,rfl,rfl,_⟩:=nF hz;refine rm σ rfl (fun _ _=>rfl) fun g hg=>?_
   simp_all[step,aCN,if_pos,dA,Ee]
  grind
 |load k g y=>exact ad0 hz hp
 |store k a y=>exact aao hz hp
 |app k b a y=>cases hp
 |cpy k x y=>cases hp
 |slcM k x lo hi=>cases hp
 |clr k z x=>cases hp
 |appz k b z x n=>cases hp
 |take x=>cases hp
 |call f zas=>exact Qb hz hp
 |callC f zas=>
  simp only[step,aCH]at hz;obtain⟨⟨x0,h0,k0⟩,e1,e2⟩:=hz;simp only[iu,KJ]at hp;split at hp
  ·cases hp;obtain⟨rfl,_⟩:=NN (g0:=h0) e2 (fun _ _=>rfl);have hp1:i9 h d (qY (zas.map (ev s)) (ev s f)) h0=some ([],[2000+8*d]):=by simp_all[i9,if_pos]
   intro g hg;obtain⟨g0,a1,a2,a3,a4⟩:=Qb e1 hp1 g hg;obtain⟨_,g',b1,b2,b3⟩:=NN e2 (g0:=g0) (fun i hi=>a3 i γ)
   simp_all[bF,ev,step,iu,KJ,if_pos]
  grind
 |bad=>cases hz
end
section
variable {call:jt} {md:Mode} {s:ap} {h:ae}
theorem jh{s s'}{o}(hs:∀i,i∈jf o->s' i=s i):ev s' o=ev s o:=by
 cases o with
 |t n=>exact hs n (by simp[jf])
 |c a=>rfl
theorem AY{s s'}{o}(hs:∀i,i∈sf o.toList->s' i=s i):evo s' o=evo s o:=by
 cases o with
 |none=>rfl
 |some o=>grind[evo,jh,sf]
theorem GN{s s'}{l}(hs:∀i,i∈sf l->s' i=s i):l.map (ev s')=l.map (ev s):=
 aDk fun o ho=>jh fun i hi=>hs i (by simp only[sf,List.mem_flatMap];exact⟨o,ho,hi⟩)
theorem agl{s s'}{op}(hs:∀i,i∈PW op->s' i=s i):iZ s' op=iZ s op:=by
 cases op<;>simp only[PW,aEj]at hs<;>simp only[iZ]
 case build z ps=>
  have:(ps.map fun p=>(p.1,p.2.1,ev s' p.2.2))=ps.map fun p=>(p.1,p.2.1,ev s p.2.2):=
   aDk fun p hp=>by rw[jh fun i hi=>hs i (by rw[List.mem_flatMap];exact⟨p,hp,hi⟩)]
  rw[this]
 case mnx m x ys=>rw[jh fun i hi=>hs i (.inl hi),GN fun i hi=>hs i (.inr hi)]
 case mkF f a b=>rw[GN fun i hi=>hs i (.inl hi),GN fun i hi=>hs i (.inr hi)]
 case pick c a b=>rw[jh fun i hi=>hs i (.inl hi),jh fun i hi=>hs i (.inr (.inl hi)),jh fun i hi=>hs i (.inr (.inr hi))]
 case slc k x lo hi mx=>rw[jh fun i hi=>hs i (.inl hi),AY fun i hi=>hs i (.inr (.inl hi)),AY fun i hi=>hs i (.inr (.inr (.inl hi))),AY fun i hi=>hs i (.inr (.inr (.inr hi)))]
 case slcS x lo hi=>rw[jh fun i hi=>hs i (.inl hi),AY fun i hi=>hs i (.inr (.inl hi)),AY fun i hi=>hs i (.inr (.inr hi))]
 all_goals first
  |rw[jh hs]
  |rw[jh fun i hi=>hs i (.inl hi),jh fun i hi=>hs i (.inr hi)]
theorem BK{s s'}{d}{op}(hs:∀i,i∈PX op->s' i=s i):step call md d op s' h=step call md d op s h/\∀h',iu d op s' h h'=iu d op s h h':=by
 cases op<;>simp only[PX,aEj]at hs<;>simp only[step,iu]
 case p op=>simp_all[agl,trivial]
 case buildSl k z n ps=>
  have:(ps.map fun p=>(p.1,ev s' p.2))=ps.map fun p=>(p.1,ev s p.2):=
   aDk fun p hp=>by rw[jh fun i hi=>hs i (by rw[List.mem_flatMap];exact⟨p,hp,hi⟩)]
  rw[this];have h2:(ps.all fun p=>dat (ev s' p.2))=ps.all fun p=>dat (ev s p.2):=by
   rw[show(ps.all fun p=>dat (ev s' p.2))=((ps.map fun p=>(p.1,ev s' p.2)).all fun p=>dat p.2)from by rw[List.all_map];rfl,this,List.all_map];rfl
  rw[h2];exact⟨rfl,fun _=>rfl⟩
 case buildC k z n ps=>
  have:(ps.map fun p=>(p.1,ev s' p.2))=ps.map fun p=>(p.1,ev s p.2):=
   aDk fun p hp=>by rw[jh fun i hi=>hs i (by rw[List.mem_flatMap];exact⟨p,hp,hi⟩)]
  rw[this];have h2:(ps.all fun p=>dat (ev s' p.2))=ps.all fun p=>dat (ev s p.2):=by
   rw[show(ps.all fun p=>dat (ev s' p.2))=((ps.map fun p=>(p.1,ev s' p.2)).all fun p=>dat p.2)from by rw[List.all_map];rfl,this,List.all_map];rfl
  rw[h2];exact⟨rfl,fun _=>rfl⟩
 case slcM k x lo hi=>simp_all[jh,AY,trivial]
 all_goals simp_all[jh,GN,trivial]
theorem K0{d}{f}{f'}{r}{t}(hz:qB s d f r=some (t,f')):∃x h',r=some (x,h',[])/\t=⟨gX s d x,h'⟩/\f'=f h':=by
 unfold qB at hz;grind
theorem GO{o}{t}{f}(hz:fJ call md o s h=some (t,f)):
  ∃x h',t=⟨gX s o.d x,h'⟩/\((∀s',∀g,(∀i,i∈nO o->s' i=s i)->fJ call md o s' g=some (⟨gX s' o.d x,g⟩,some ([],[])))/\h'=h/\f=some ([],[])\/
   (step call md (o.d.getD 0) o.op s h=some (x,h',[])/\f=iu (o.d.getD 0) o.op s h h'/\
    ∀s',∀g,(∀i,i∈nO o->s' i=s i)->fJ call md o s' g=qB s' o.d (iu (o.d.getD 0) o.op s g) (step call md (o.d.getD 0) o.op s g))):=by
 unfold fJ at hz;cases hg:o.g with
 |none=>
  rw[hg]at hz;obtain⟨x,h',e1,e2,e3⟩:=K0 hz;refine⟨x,h',e2,.inr ⟨e1,e3,fun s' g hs=>?_⟩⟩;simp only[nO,hg,aCT]at hs;unfold fJ;rw[hg];rw[(BK (h:=g) hs).1,funext (BK (call:=call) (md:=md) (h:=g) hs).2]
 |some jb=>
  obtain⟨j,b⟩:=jb;rw[hg]at hz;simp only at hz;have hj:∀s':ap,(∀i,i∈nO o->s' i=s i)->s' j=s j:=fun s' hs=>hs j (by grind[nO]);unfold ue at hz;split at hz
  ·rename_i bb hb;split at hz
   ·rename_i hbb;obtain⟨x,h',e1,e2,e3⟩:=K0 hz;refine⟨x,h',e2,.inr ⟨e1,e3,fun s' g hs=>?_⟩⟩;unfold fJ;rw[hg];simp only;rw[hj s' hs,hb];simp only[ue,if_pos hbb];simp only[nO,hg,aEj]at hs;rw[(BK (h:=g) fun i hi=>hs i (.inr hi)).1,funext (BK (call:=call) (md:=md) (h:=g) fun i hi=>hs i (.inr hi)).2]
   ·cases hz;refine⟨.und,h,rfl,.inl ⟨fun s' g hs=>?_,rfl,rfl⟩⟩
    simp_all[fJ,ue,if_neg]
  ·cases hz;refine⟨.und,h,rfl,.inl ⟨fun s' g hs=>?_,rfl,rfl⟩⟩
   simp_all[fJ,ue]
  grind
theorem MF{d}{x}{i}(hn:∀e,d=some e->i≠e):gX s d x i=s i:=by
 cases d with
 |none=>rfl
 |some e=>exact aU _ _ (hn e rfl)
theorem Uc{a b}(x y)(hn:∀i j,a=some i->b=some j->i≠j):gX (gX s a x) b y=gX (gX s b y) a x:=by
 cases a with
 |none=>rfl
 |some i=>
  cases b with
  |none=>rfl
  |some j=>
   funext k;simp only[gX,upd];grind
theorem Qc{a b}(hi:EO a b=true):(∀i d,i∈nO b->a.d=some d->i≠d)/\(∀i d,i∈nO a->b.d=some d->i≠d)/\∀i j,a.d=some i->b.d=some j->i≠j:=by
 simp only[EO,aCK]at hi;grind
def wT(f g:Fp):Prop:=mW f g=true
theorem GQ{a b}(h:sG a b=true){i}(ha:i∈a):i∉b:=by
 simp only[sG,aC5,aDJ,List.contains_eq_mem,decide_eq_false_iff_not]at h;exact h i ha
theorem ET{l:List α}(h:l.isEmpty=true):l=[]:=by cases l<;>simp at h⊢
theorem asx{a b}{t1 t2}{fa fb}(ha:fJ call md a s h=some (t1,fa))(hb:fJ call md b t1.s t1.h=some (t2,fb))(hi:EO a b=true)(hf:wT fa fb):
  ∃t,fJ call md b s h=some (t,fb)/\fJ call md a t.s t.h=some (t2,fa):=by
 obtain⟨i1,i2,i3⟩:=Qc hi;obtain⟨xa,ha',rfl,ca⟩:=GO ha;obtain⟨xb,hb',rfl,cb⟩:=GO hb;have sb:∀i,i∈nO b->s i=gX s a.d xa i:=fun i hm=>(MF fun e he=>i1 i e hm he).symm;have sa:∀i,i∈nO a->gX s b.d xb i=s i:=fun i hm=>MF fun e he=>i2 i e hm he;have sc:=Uc (s:=s) xa xb i3;rcases ca with⟨ca,rfl,rfl⟩| ⟨ea,rfl,ca⟩
 ·
  rcases cb with⟨cb,rfl,rfl⟩| ⟨eb,rfl,cb⟩
  ·grind
  ·refine⟨⟨gX s b.d xb,hb'⟩,?_,by rw[ca _ _ sa,←sc]⟩;rw[cb s _ sb,eb];rfl
 ·rcases cb with⟨cb,rfl,rfl⟩| ⟨eb,rfl,cb⟩
  ·grind[qB]
  ·
   unfold wT at hf;cases efa:iu (a.d.getD 0) a.op s h ha' with
   |none=>
    rw[efa]at hf;cases efb:iu (b.d.getD 0) b.op (gX s a.d xa) ha' hb' with
    |none=>rw[efb]at hf;cases hf
    |some q=>
     obtain⟨r,w⟩:=q;rw[efb]at hf;simp only[mW,aCK]at hf;have hr:=ET hf.1;have hw:=ET hf.2;subst hr hw;have fb:=I9 eb efb;obtain⟨g1,p1,p2,p3,p4⟩:=fb h (fun i hi=>by grind);obtain⟨g2,q1,q2,q3,q4⟩:=fb ha' (fun i hi=>rfl);have e1:=funext fun i=>p4 i σ;have e2:hb'=ha':=by
      grind
     grind[qB]
   |some p=>
    obtain⟨ra,wa⟩:=p;rw[efa]at hf;have fra:=I9 ea efa;cases efb:iu (b.d.getD 0) b.op (gX s a.d xa) ha' hb' with
    |none=>
     rw[efb]at hf;simp only[mW,aCK]at hf;have hr:=ET hf.1;have hw:=ET hf.2;subst hr hw;obtain⟨g1,p1,p2,p3,p4⟩:=fra h (fun i hi=>rfl);have e1:ha'=h:=by
      grind
     obtain⟨g2,q1,q2,q3,q4⟩:=fra hb' (fun i hi=>by grind);have e2:=funext fun i=>q4 i σ;grind[qB]
    |some q=>
     obtain⟨rb,wb⟩:=q;rw[efb]at hf;simp only[mW,aCK]at hf;obtain⟨d1,d2⟩:=hf;have frb:=I9 eb efb;have hout:∀i,dx i∉wa->ha' i=h i:=by
      obtain⟨g1,p1,p2,p3,p4⟩:=fra h (fun i hi=>rfl);grind
     have hout2:∀i,dx i∉wb->hb' i=ha' i:=by
      obtain⟨g1,p1,p2,p3,p4⟩:=frb ha' (fun i hi=>rfl);grind
     have nwa:∀i,dx i∈rb\/dx i∈wb->dx i∉wa:=fun i hi hw=>GQ d1 hw γ;obtain⟨g1,p1,p2,p3,p4⟩:=frb h (fun i hi=>(hout i (nwa i hi)).symm);have agr:∀i,dx i∈ra\/dx i∈wa->g1 i=h i:=fun i hi=>p4 i fun hw=>by
      grind[GQ]
     obtain⟨g2,q1,q2,q3,q4⟩:=fra g1 agr;have e2:g2=hb':=funext fun i=>by
      by_cases hwa:dx i∈wa
      all_goals grind
     grind[qB]
theorem W8{o}{post}:∀ {pre} {s} {h} {t} {Fs},jI call md (pre++o::post) s h=some (t,Fs)->
  ∃Fpre f Fpost,Fs=Fpre++f::Fpost/\Fpre.length=pre.length/\((∀ (j:Nat) a fa,pre[j]?=some a->Fpre[j]?=some fa->EO a o=true/\wT fa f)->
   ∃t1,fJ call md o s h=some (t1,f)/\jI call md (pre++post) t1.s t1.h=some (t,Fpre++Fpost))
 |[],s,h,t,Fs,hz=>by
  simp only[aCT,jI,aCH]at hz;obtain⟨⟨t1,f⟩,e1,⟨t2,F2⟩,e2,e3⟩:=hz;cases e3;exact⟨[],f,F2,rfl,rfl,fun _=>⟨t1,e1,e2⟩⟩
 |a::pre,s,h,t,Fs,hz=>by
  simp only[aDd,jI,aCH]at hz;obtain⟨⟨t1,fa⟩,e1,⟨t2,F2⟩,e2,e3⟩:=hz;cases e3;obtain⟨Fpre,f,Fpost,rfl,hl,hh⟩:=W8 e2;refine⟨fa::Fpre,f,Fpost,rfl,by grind,fun hc=>?_⟩;obtain⟨t3,g1,g2⟩:=hh fun j a' fa' h1 h2=>hc (j+1) a' fa' γ γ;obtain⟨c1,c2⟩:=hc 0 a fa rfl rfl;obtain⟨t4,k1,k2⟩:=asx e1 g1 c1 c2;refine⟨t4,k1,?_⟩;simp only[aDd,jI,aCN, *]
end
section
variable {P:Program} {I:Inv} {call:jt} {md:Mode} {N:Nat} {ops:Array Oper}
theorem aar{o}{s}{h}{t}{f}(hz:fJ call md o s h=some (t,f)):oC call md o s h=some t:=by
 have fin:∀F r,qB s o.d F r=some (t,f)->dY md.nm s o.d r=some t:=by
  intro F r hz;obtain⟨x,h',e1,e2,_⟩:=K0 hz;subst e1 e2;simp only[dY,rP,if_true];rfl
 unfold fJ at hz;unfold oC;cases hg:o.g with
 |none=>
  grind
 |some jb=>
  unfold ue at hz;unfold mV;grind
theorem BL:∀ {l} {hs cl},uR P N ops hs l=some cl->cl.length=l.length/\∀ (j:Nat) o c,l[j]?=some o->cl[j]?=some c->∃hint,IX P N ops hint o=some c
 |[],hs,cl,hc=>by grind[uR,Option.some.injEq]
 |o::l,hs,cl,hc=>by
  simp only[uR,aCH]at hc;obtain⟨c,e1,q,e2,e3⟩:=hc;cases e3;obtain⟨g1,g2⟩:=BL e2;refine⟨by simp[g1],fun j o' c' h1 h2=>?_⟩;cases j with
  |zero=>simp at h1 h2;subst h1 h2;exact⟨_,e1⟩
  |succ j=>exact g2 j o' c' (by simpa using h1) (by simpa using h2)
theorem W9:∀ {l} {s} {h} {t} {Fs},jI call md l s h=some (t,Fs)->Fs.length=l.length/\∀ (j:Nat) a f,l[j]?=some a->Fs[j]?=some f->∃s' h' t',fJ call md a s' h'=some (t',f)
 |[],s,h,t,Fs,hz=>by grind[jI,Option.some.injEq,Prod.mk.injEq]
 |o::l,s,h,t,Fs,hz=>by
  simp only[jI,aCH]at hz;obtain⟨⟨t1,f1⟩,e1,⟨t2,F2⟩,e2,e3⟩:=hz;cases e3;obtain⟨g1,g2⟩:=W9 e2;refine⟨by simp[g1],fun j a f h1 h2=>?_⟩;cases j with
  |zero=>simp at h1 h2;subst h1 h2;exact⟨s,h,t1,e1⟩
  |succ j=>exact g2 j a f (by simpa using h1) (by simpa using h2)
theorem R7{i}:∀ {l acc},i∈ded acc l↔i∈acc\/i∈l
 |[],acc=>by simp[ded]
 |a::l,acc=>by
  unfold ded;cases h:acc.contains a with
  |true=>
   rw[R7];have ha:=by simpa using h
   constructor
   ·rintro(h1|h1)
    ·exact .inl h1
    ·exact .inr (List.mem_cons_of_mem _ h1)
   ·rintro(h1|h1)
    ·exact .inl h1
    ·rcases List.mem_cons.1 h1 with rfl|h1
     ·exact .inl ha
     ·exact .inr h1
  |false=>
   rw[R7];simp only[List.mem_cons];constructor
   ·rintro((h1|h1)|h1)
    ·exact .inr (.inl h1)
    ·exact .inl h1
    ·exact .inr (.inr h1)
   ·rintro(h1|h1|h1)
    ·exact .inl (.inr h1)
    ·exact .inl (.inl h1)
    ·exact .inr h1
theorem Ou{o}{acc}{i}:i∈IY o acc↔i∈uo o\/∃d∈uo o,i∈acc.getD d []:=by
 unfold IY;rw[R7,aEj,List.mem_flatMap];simp
theorem Ov:∀l acc,∃r,sH l acc=acc++r/\r.length=l.length
 |[],acc=>⟨[],by simp[sH],rfl⟩
 |o::l,acc=>by
  obtain⟨r,e1,e2⟩:=Ov l (acc++[IY o acc]);grind[IY,sH,aDr]
theorem Xa:∀l acc j o,l[j]?=some o->∃pre,(sH l acc)[acc.length+j]?=some (IY o pre)/\
  pre.length=acc.length+j/\∃r,sH l acc=pre++r
 |[],acc,j,o,h=>by grind
 |o::l,acc,0,o',h=>by
  obtain⟨r,e1,e2⟩:=Ov l (acc++[IY o acc]);grind[sH,aDr]
 |o::l,acc,j+1,o',h=>by
  obtain⟨pre,e1,e2,e3⟩:=Xa l (acc++[IY o acc]) j o' γ;refine⟨pre,?_,by grind,e3⟩;rw[sH,←e1];grind
theorem K1{C}{j}{b}{bf}:∀ {l} {i0},MA C j b bf i0 l=true->∀i a,l[i]?=some a->(i0+i)∈bf\/C (i0+i) j a b=true
 |[],i0,_,i,a,h=>by grind
 |c::l,i0,hd,i,a,h=>by
  simp only[MA,aCK,Bool.or_eq_true]at hd;cases i with
  |zero=>grind
  |succ i=>
   have:=K1 hd.2 i a γ;grind
theorem Ek{C}:∀ {l} {bs} {j0} {done},done.length=j0->IZ C j0 done l bs=true->∀j b bf,l[j]?=some b->bs[j]?=some bf->
  (∀i∈bf,i<j0+j)/\∀i a,i<j0+j->(done++l)[i]?=some a->i∈bf\/C i (j0+j) a b=true
 |[],bs,j0,done,hl,hd,j,b,bf,h1,h2=>by grind
 |c::l,[],j0,done,hl,hd,j,b,bf,h1,h2=>by grind
 |c::l,b0::bs,j0,done,hl,hd,j,b,bf,h1,h2=>by
  simp only[IZ,aCK,aC5,decide_eq_true_eq]at hd;cases j with
  |zero=>
   simp at h1 h2;subst h1 h2;refine⟨hd.1,fun i a hi ha=>?_⟩;rw[List.getElem?_append_left ω]at ha;simpa using K1 hd.2.1 i a ha
  |succ j=>
   obtain⟨g1,g2⟩:=Ek γ hd.2.2 j b bf γ γ;grind
theorem Ud(f):wT (some ([],[])) f:=by
 unfold wT;cases f<;>simp[mW,sG]
theorem wT.symm{f g}(h:wT f g):wT g f:=by
 unfold wT at*
 cases f<;>cases g<;>simp only[mW]at h⊢ <;>try exact h
 simp only[aCK,sG,aC5,aDJ,List.contains_eq_mem,decide_eq_false_iff_not,aEj]at h⊢;grind
theorem abt{o}{s}{h}{t}{f}(hz:fJ call md o s h=some (t,f))(hp:isP o.op=true):f=some ([],[]):=by
 obtain⟨x,h',e,⟨_,_,rfl⟩| ⟨_,rfl,_⟩⟩:=GO hz
 ·rfl
 ·cases ho:o.op<;>rw[ho]at hp<;>first|rfl|cases hp
theorem Qd{o}{s}{h}{t}{f}(hz:fJ call md o s h=some (t,f))(hp:WG o.op=true):∃r,f=some (r,[]):=by
 obtain⟨x,h',e,⟨_,_,rfl⟩| ⟨e2,rfl,_⟩⟩:=GO hz
 ·grind
 ·cases ho:o.op<;>rw[ho]at hp<;>try (cases hp;done)
  rename_i k g y;rw[ho]at e2;simp only[step]at e2;simp only[iu];cases hy:ev s y<;>rw[hy]at e2<;>simp only[kf]at e2<;>first| (cases e2;done)|exact⟨_,rfl⟩
abbrev asy:=List (Nat×COp×Fp)
theorem Ok.draws{w}{X}{ρ}{h}{s}{a}(ok:Ok I N w X ρ h s a):Ok I N {w with drawn:=w.drawn+1} X ρ h s a/\Far md.nm w ρ h {w with drawn:=w.drawn+1} ρ h:=by
 have e:Evo w ρ h {w with drawn:=w.drawn+1} ρ h []:=⟨rfl,rfl,rfl,aCJ _,fun _ _ _=>rfl,fun _ _ hp _=>⟨hp,rfl⟩,fun _ ho=>.inl ho,fun _ hb=>⟨hb,rfl⟩,fun _ _ hd=>⟨hd,rfl⟩⟩;exact⟨⟨ok.rel.step e (fun _=>False) (fun _ _=>⟨rfl,fun _=>rfl,fun _ _=>rfl⟩) ok.rel.inj ok.rel.nx (fun _ hf=>hf.elim),e.rs ok.rs,ok.size,ok.defers,e.inv ok.rel ok.inv⟩,e.far (rP _)⟩
def K2(g:Nat)(a b:COp):Prop:=∃e n,a=⟨some e,none,.p (.mv (.t n))⟩/\EO a b=true/\(g=0\/(g≠e+1/\g≠n+1))
theorem ad1{g}{a b}(h:adr g a b=true):K2 g a b:=by
 unfold adr at h;split at h
 ·rename_i e n;simp only[aCK,Bool.or_eq_true,beq_iff_eq,bne_iff_ne]at h;exact⟨e,n,rfl,h.1,h.2⟩
 grind
theorem K2.zero{g}{a b}(h:K2 g a b):K2 0 a b:=by
 obtain⟨e,n,h1,h2,_⟩:=h;exact⟨e,n,h1,h2,.inl rfl⟩
theorem Xb(ks:K)(s:ap)(e n):lQ ks (upd s e (s n))=upd (lQ ks s) e (lQ ks s n):=by
 cases ks with
 |nil=>rfl
 |cons p l=>
  grind[lQ,upd]
theorem Xc{d}{e}{x y}{s:ap}(hd:d≠some e):gX (upd s e y) d x=upd (gX s d x) e y:=by
 have:=Uc (s:=s) (a:=some e) (b:=d) y x fun i j h1 h2=>by
  grind
 exact this
theorem Ue{nm}{s:ap}{d}{e n}{r}{t}(h1:d≠some e)(h2:d≠some n)(hz:dY nm (upd s e (s n)) d r=some t):∃t2,dY nm s d r=some t2/\t=⟨upd t2.s e (t2.s n),t2.h⟩:=by
 unfold dY at hz⊢;split at hz
 ·split at hz
  ·grind[gX,lQ,MF,Xb,Xc]
  grind
 grind
theorem ad2{b}{s:ap}{h}{e n}{t}(hi:EO ⟨some e,none,.p (.mv (.t n))⟩ b=true)(hz:oC call md b (upd s e (s n)) h=some t):∃t2,oC call md b s h=some t2/\t=⟨upd t2.s e (t2.s n),t2.h⟩:=by
 obtain⟨i1,i2,i3⟩:=Qc hi;have h1:=fun hh=>i3 e e rfl hh rfl;have h2:=fun hh=>i2 n n (by simp[nO,PX,PW,jf]) hh rfl;have hr:∀i,i∈nO b->upd s e (s n) i=s i:=fun i hm=>aU _ _ (i1 i e hm rfl);have hs:step call md (b.d.getD 0) b.op (upd s e (s n)) h=step call md (b.d.getD 0) b.op s h:=(BK fun i hm=>hr i (by grind[nO])).1;have hu:∀x,gX (upd s e (s n)) b.d x=upd (gX s b.d x) e (gX s b.d x n):=fun x=>by
  rw[Xc h1];grind[MF]
 unfold oC at hz⊢;cases hg:b.g with
 |none=>
  grind[Ue]
 |some jb=>
  obtain⟨j,w⟩:=jb;rw[hg]at hz;simp only at hz⊢;rw[hs,hr j (by grind[nO])]at hz;unfold mV at hz⊢;split at hz
  ·split at hz
   all_goals simp_all[if_pos,Ue,if_neg]
  all_goals grind
theorem ajJ{s:ap}{i e}{x y}(hn:i≠e):upd (upd s e y) i x=upd (upd s i x) e y:=by
 grind[upd]
theorem ad3{nm}{g}{s:ap}{h}{e n}{t}(hg:g=0\/(g≠e+1/\g≠n+1))(hz:wu nm g (upd s e (s n)) h=some t):∃t2,wu nm g s h=some t2/\t=⟨upd t2.s e (t2.s n),t2.h⟩:=by
 cases g with
 |zero=>cases hz;exact⟨_,rfl,rfl⟩
 |succ i=>
  have h1:i≠e:=ω
  simp only[wu]at hz⊢;rw[aU _ _ h1]at hz;simp only[aCH]at hz;obtain⟨r,e1,e2⟩:=hz;split at e2
  ·cases hi:s i<;>rw[hi]at e1<;>simp only[TW]at e1<;>try (cases e1;done)
   ·cases e1
    simp_all[TW,rP]
   ·rename_i id sub k lo m;cases sub with
    |none=>grind
    |some p=>
    simp only at e1;split at e1
    ·cases eo:h id<;>rw[eo]at e1<;>simp only[ghO]at e1<;>try (cases e1;done)
     rename_i cs;cases ec:cs[p]? with
     |none=>grind[PY]
     |some c=>
      rw[ec]at e1;cases c<;>simp only[PY]at e1<;>try (cases e1;done)
      split at e1
      ·cases e1
       simp_all[TW,if_pos,ghO,PY,aCN,Xb,ajJ,aU,Ne.symm]
      grind
    grind
  grind
theorem Xd{g}{y}:∀ {L} {s} {h} {t0 t1 t2} {Fs},(∀x∈L,K2 g x y)->jI call md L s h=some (t0,Fs)->wu md.nm g t0.s t0.h=some t1->oC call md y t1.s t1.h=some t2->
  ∃r1 r2,wu md.nm g s h=some r1/\oC call md y r1.s r1.h=some r2/\jI call md L r2.s r2.h=some (t2,Fs)
 |[],s,h,t0,t1,t2,Fs,_,h1,h2,h3=>by
  grind[jI,Option.some.injEq,Prod.mk.injEq]
 |a::L,s,h,t0,t1,t2,Fs,hl,h1,h2,h3=>by
  obtain⟨e,n,rfl,hi,hg⟩:=hl a σ;simp only[jI,aCH]at h1;obtain⟨⟨t',f⟩,e1,⟨t'',F2⟩,e2,e3⟩:=h1;cases e3;have e1':t'=⟨upd s e (s n),h⟩/\f=some ([],[]):=by
   simp only[fJ,step,iZ,ev,Fq,aDt,qB,iu,Option.some.injEq,Prod.mk.injEq]at e1;exact⟨e1.1.symm,e1.2.symm⟩
  obtain⟨rfl,rfl⟩:=e1';obtain⟨r1,r2,g1,g2,g3⟩:=Xd (fun x hx=>hl x γ) e2 h2 h3;obtain⟨q1,k1,rfl⟩:=ad3 hg g1;obtain⟨q2,k2,rfl⟩:=ad2 hi g2
  simp_all[jI,fJ,step,iZ,ev,Fq,aDt,qB,iu,aCN,gX]
abbrev asz:=List (Nat×COp)
structure RestB (ops:Array Oper) (cl:List COp) (bf:Nat->List Nat) (listed:Array Bool) (g:Nat) (L:asy) (T:asz):Prop where
 size:listed.size=ops.size
 op:∀x∈L,cl[x.1]?=some x.2.1/\listed.getD x.1 true=false
 opT:∀y∈T,cl[y.1]?=some y.2/\listed.getD y.1 true=false
 all:∀j,j<ops.size->listed.getD j true=false->(∃x∈L,x.1=j)\/∃y∈T,y.1=j
 pw:L.Pairwise fun x y=>x.1<y.1/\(x.1∈bf y.1\/(EO x.2.1 y.2.1=true/\wT x.2.2 y.2.2))
 lt:∀x∈L,∀y∈T,x.1<y.1/\(x.1∈bf y.1\/K2 g x.2.1 y.2)
 pwT:T.Pairwise fun x y=>x.1<y.1/\x.1∈bf y.1
 cls:∀k,k<ops.size->listed.getD k true=true->∀i∈bf k,listed.getD i true=true
theorem K3(hcall:oR P I call md)(hN:N<=1000){hs cl}(hc:uR P N ops hs ops.toList=some cl){bf}
  (hlt:∀j,j<ops.size->∀i∈bf j,i<j) (hdep:∀j o,ops[j]?=some o->(∀d∈uo o,d∈bf j)/\∀i∈bf j,i∈uo o\/∃d∈uo o,i∈bf d):
  ∀fuel {g} {L} {T} {listed} {w} {X} {ρ} {h} {s} {a} {t0 tg t} {Q},L.length+T.length=fuel->RestB ops cl bf listed g L T->
   jI call md (L.map (·.2.1)) s h=some (t0,L.map (·.2.2))->wu md.nm g t0.s t0.h=some tg->aM call md (T.map (·.2)) tg.s tg.h=some t->Ok I N w X ρ h s a->(∀a' w' ρ',Ok I N w' X ρ' t.h t.s a'->Far md.nm w ρ h w' ρ' t.h->Q .normal a' w')->wpAny P .any ops Q fuel listed a w
 |0,g,L,T,listed,w,X,ρ,h,s,a,t0,tg,t,Q,hl,hr,hz,hgh,hT,ok,hQ=>by
  have:L=[]:=by simp_all
  subst this;have:T=[]:=by simp_all
  subst this;simp only[aDh,jI,Option.some.injEq,Prod.mk.injEq]at hz;obtain⟨rfl,_⟩:=hz;simp only[aDh,aM,Option.some.injEq]at hT;subst hT;obtain⟨ρ',ok',far'⟩:=NH ok hgh;refine⟨?_,hQ _ _ ρ' ok' far'⟩;rw[List.eq_nil_iff_forall_not_mem];intro j hj;obtain⟨h1,o,h2,_⟩:=mem_ready.1 hj;rcases hr.all j (Array.getElem?_eq_some_iff.1 h2).1 h1 with⟨x,hx,_⟩| ⟨x,hx,_⟩<;>simp at hx
 |fuel+1,g,L,T,listed,w,X,ρ,h,s,a,t0,tg,t,Q,hl,hr,hz,hgh,hT,ok,hQ=>by
  have tf:∀d,d<ops.size->listed.getD d true=listed.getD d false:=fun d hd=>by
   have:d<listed.size:=by rw[hr.size];omega
   grind
  have lenc:=(BL hc).1;have cllt:∀ {j:Nat} {c:COp},cl[j]?=some c->j<ops.size:=fun h1=>by
   grind
  have first:∀j,j<ops.size->listed.getD j true=false->(∀k,k<j->listed.getD k true=true)->j∈Region.ready .any ops listed:=by
   intro j hj h1 h2;have hox:ops[j]?=some ops[j]:=γ
   refine mem_ready.2 ⟨h1,ops[j],hox,fun e he hb=>?_⟩;have hd:e.on∈uo ops[j]:=by
    simp only[uo,aDz,List.mem_filter];exact⟨e,⟨by simpa using he,hb⟩,rfl⟩
   have hlt':=hlt j hj _ ((hdep j _ hox).1 _ hd);rw[←tf e.on ω];exact h2 _ hlt'
  have isT:∀k,listed.getD k true=true\/listed.getD k true=false:=fun k=>by cases listed.getD k true<;>simp
  refine⟨fun hnil=>?_,fun i hi=>?_⟩
  ·exfalso;have key:∃j,j<ops.size/\listed.getD j true=false/\∀k,k<j->listed.getD k true=true:=by
    cases L with
    |cons x L'=>
     obtain⟨h1,h2⟩:=hr.op x σ;refine⟨x.1,cllt h1,h2,fun k hk=>?_⟩;rcases isT k with h3|h3
     ·omega
     ·rcases hr.all k (Nat.lt_trans hk (cllt h1)) h3 with⟨y,hy,rfl⟩| ⟨y,hy,rfl⟩
      ·rcases List.mem_cons.1 hy with rfl|hy'
       ·omega
       ·have:=(List.pairwise_cons.1 hr.pw).1 y hy';omega
      ·have:=(hr.lt x σ y hy).1;omega
    |nil=>
     cases T with
     |nil=>grind
     |cons x T'=>
      obtain⟨h1,h2⟩:=hr.opT x σ;refine⟨x.1,cllt h1,h2,fun k hk=>?_⟩;rcases isT k with h3|h3
      ·omega
      ·rcases hr.all k (Nat.lt_trans hk (cllt h1)) h3 with⟨y,hy,rfl⟩| ⟨y,hy,rfl⟩
       ·grind
       ·rcases List.mem_cons.1 hy with rfl|hy'
        ·omega
        ·have:=(List.pairwise_cons.1 hr.pwT).1 y hy';omega
   grind
  ·obtain⟨h1,o,h2,h3⟩:=mem_ready.1 hi;have hisz:=(Array.getElem?_eq_some_iff.1 h2).1;have hbl:∀k∈bf i,listed.getD k true=true:=by
    intro k hk;have dl:∀d∈uo o,listed.getD d true=true:=by
     intro d hd;have hdl:d<ops.size:=Nat.lt_trans (hlt i hisz d ((hdep i o h2).1 d hd)) hisz;simp only[uo,aDz,List.mem_filter]at hd;obtain⟨e,⟨he,hb⟩,rfl⟩:=hd;rw[tf _ hdl];exact h3 e (by simpa using he) hb
    rcases(hdep i o h2).2 k hk with hd| ⟨d,hd,hkd⟩
    ·grind
    ·exact hr.cls d (Nat.lt_trans (hlt i hisz d ((hdep i o h2).1 d hd)) hisz) (dl d hd) k hkd
   have set_ne:∀k,k≠i->(listed.setIfInBounds i true).getD k true=listed.getD k true:=fun k hk=>getD_set_ne true (Ne.symm hk);have set_same:(listed.setIfInBounds i true).getD i true=true:=by
    simp_all
   have cls':∀k,k<ops.size->(listed.setIfInBounds i true).getD k true=true->∀k'∈bf k,(listed.setIfInBounds i true).getD k' true=true:=fun k hk hkl k' hk'=>by
    have old:listed.getD k' true=true:=by
     by_cases hkx:k=i
     ·grind
     ·rw[set_ne _ hkx]at hkl;exact hr.cls k hk hkl k' hk'
    grind
   rcases hr.all i hisz h1 with⟨x,hx,rfl⟩| ⟨y,hy,rfl⟩
   ·obtain⟨L1,L2,rfl⟩:=List.append_of_mem hx;have hpw:=hr.pw;rw[List.pairwise_append]at hpw;obtain⟨pw1,IN,pw3⟩:=hpw;rw[List.pairwise_cons]at IN;simp only[List.map_append,aDc]at hz;obtain⟨Fpre,f,Fpost,e1,e2,e3⟩:=W8 hz;have e4:Fpre=L1.map (·.2.2)/\f=x.2.2/\Fpost=L2.map (·.2.2):=by
     grind[List.append_inj,List.cons.injEq]
    obtain⟨rfl,rfl,rfl⟩:=e4;obtain⟨t1,g1,g2⟩:=e3 fun j c fc hj1 hj2=>by
     simp only[List.getElem?_map,aCL]at hj1 hj2;obtain⟨y,hy,rfl⟩:=hj1;obtain⟨y',hy',rfl⟩:=hj2;rw[hy]at hy';cases hy';have hyL:=List.mem_of_getElem? hy;rcases(pw3 y hyL x σ).2 with hin|hh
     ·have:=hbl _ hin;rw[(hr.op y γ).2]at this;grind
     omega
    obtain⟨c1,_⟩:=hr.op x σ;obtain⟨hint,hco⟩:=(BL hc).2 x.1 o x.2.1 (by simpa using h2) c1;have nx:∀y,y∈L1++L2->y.1≠x.1:=by
     intro y hy;rcases List.mem_append.1 hy with hy|hy
     ·have:=(pw3 y hy x σ).1;omega
     ·have:=(IN.1 y hy).1;omega
    refine I7 hcall hN h2 hco ok (aar g1) fun a' w' ρ' ok' far=>?_;refine K3 hcall hN hc hlt hdep fuel (L:=L1++L2) (T:=T) (by simp at hl⊢;omega) ⟨by simpa using hr.size,fun y hy=>?_,fun y hy=>?_,fun j hj hjl=>?_,?_,fun y hy=>hr.lt y (by rcases List.mem_append.1 hy with hy|hy<;>simp[hy]),hr.pwT,cls'⟩ (by simpa [List.map_append]using g2) hgh hT ok' fun a'' w'' ρ'' ok'' far'=>hQ _ _ ρ'' ok'' (far.trans far')
    ·obtain⟨q1,q2⟩:=hr.op y (by rcases List.mem_append.1 hy with hy|hy<;>simp[hy]);exact⟨q1,by rw[set_ne _ (nx y hy)];exact q2⟩
    ·obtain⟨q1,q2⟩:=hr.opT y hy;have:=(hr.lt x σ y hy).1;exact⟨q1,by rw[set_ne _ ω];exact q2⟩
    ·have hne:j≠x.1:=by rintro rfl;rw[set_same]at hjl;cases hjl
     rw[set_ne _ hne]at hjl;rcases hr.all j hj hjl with⟨y,hy,rfl⟩|hyT
     ·refine .inl ⟨y,?_,rfl⟩;simp only[aEj,List.mem_cons]at hy⊢;rcases hy with hy|rfl|hy
      ·exact .inl hy
      ·exact absurd rfl hne
      ·exact .inr hy
     ·exact .inr hyT
    grind
   ·
    cases T with
    |nil=>simp at hy
    |cons z T'=>
    have hzy:z=y:=by
     rcases List.mem_cons.1 hy with rfl|hy'
     ·rfl
     ·have h5:=((List.pairwise_cons.1 hr.pwT).1 y hy').2;have:=hbl _ h5;rw[(hr.opT z σ).2]at this;cases this
    subst hzy;have hlate:∀x∈L,K2 g x.2.1 z.2:=fun x hx=>by
     rcases(hr.lt x hx z σ).2 with h5|h5
     ·have:=hbl _ h5;rw[(hr.op x hx).2]at this;cases this
     ·exact h5
    simp only[aDc,aM,bv]at hT;split at hT
    ·cases hT
    ·rename_i t2 ht2;obtain⟨r1,r2,g1,g2,g3⟩:=Xd (L:=L.map (·.2.1)) (fun x hx=>by
      obtain⟨q,hq,rfl⟩:=List.mem_map.1 hx;exact hlate q hq) hz hgh ht2
     obtain⟨ρg,okg,farg⟩:=NH ok g1;obtain⟨c1,_⟩:=hr.opT z σ;obtain⟨hint,hco⟩:=(BL hc).2 z.1 o z.2 (by simpa using h2) c1;refine I7 hcall hN h2 hco okg g2 fun a' w' ρ' ok' far=>?_;refine K3 hcall hN hc hlt hdep fuel (g:=0) (L:=L) (T:=T') (by simp at hl⊢;omega) ⟨by simpa using hr.size,fun x hx=>?_,fun y hy=>?_,fun j hj hjl=>?_,hr.pw,fun x hx y hy=>?_,(List.pairwise_cons.1 hr.pwT).2,cls'⟩ g3 rfl hT ok' fun a'' w'' ρ'' ok'' far'=>hQ _ _ ρ'' ok'' ((farg.trans far).trans far')
     ·obtain⟨q1,q2⟩:=hr.op x hx;have:=(hr.lt x hx z σ).1;exact⟨q1,by rw[set_ne _ ω];exact q2⟩
     ·obtain⟨q1,q2⟩:=hr.opT y (by simp[hy]);have:=((List.pairwise_cons.1 hr.pwT).1 y hy).1;exact⟨q1,by rw[set_ne _ ω];exact q2⟩
     ·have hne:j≠z.1:=by rintro rfl;rw[set_same]at hjl;cases hjl
      rw[set_ne _ hne]at hjl;rcases hr.all j hj hjl with hx| ⟨y,hy,rfl⟩
      ·exact .inl hx
      ·rcases List.mem_cons.1 hy with rfl|hy'
       ·exact absurd rfl hne
       ·exact .inr ⟨y,hy',rfl⟩
     ·obtain⟨q1,q2⟩:=hr.lt x hx y (by simp[hy]);exact⟨q1,q2.imp_right K2.zero⟩
theorem Xe(hm:P.follows .mixedOrders=true)(hcall:oR P I call md)(hN:N<=1000){id}{hs0 cl}{w}{X}{ρ}{h}{s}{a}{t0 tg t}{m g}{qs}{Fs}{Q}
  (hc:uR P N ops hs0 ops.toList=some cl)
  (hsp:∀j b bf,cl[j]?=some b->(sH ops.toList [])[j]?=some bf->(∀i∈bf,i<j)/\∀i a,i<j->cl[i]?=some a->i∈bf\/Mz m g qs i j a b=true)
  (ok:Ok I N w X ρ h s a) (e1:jI call md (cl.take m) s h=some (t0,Fs)) (hps:qs.all (AU Fs)=true) (hgh:wu md.nm g t0.s t0.h=some tg) (hT:aM call md (cl.drop m) tg.s tg.h=some t)
  (hQ:∀a' w' ρ',Ok I N w' X ρ' t.h t.s a'->Far md.nm w ρ h w' ρ' t.h->Q .normal a' w'):(Code.region id ops true).wp P Q a w:=by
 refine wp_region_any hm ?_;obtain⟨ok',far'⟩:=ok.draws (md:=md);obtain⟨lf,gf⟩:=W9 e1;obtain⟨lc,gc⟩:=BL hc;have lc':cl.length=ops.size:=ω
 have ltm:(cl.take m).length=min m ops.size:=γ
 have lb:(sH ops.toList []).length=ops.size:=by
  obtain⟨r,q1,q2⟩:=Ov ops.toList [];grind
 have bget:∀j,j<ops.size->(sH ops.toList [])[j]?=some ((sH ops.toList []).getD j []):=fun j hj=>by
  grind
 have hlt:∀j,j<ops.size->∀i∈ (sH ops.toList []).getD j [],i<j:=fun j hj i hi=>by
  simp_all
 have hdep:∀ (j:Nat) (o:Oper),ops[j]?=some o->(∀d∈uo o,d∈ (sH ops.toList []).getD j [])/\∀i∈ (sH ops.toList []).getD j [],i∈uo o\/∃d∈uo o,i∈ (sH ops.toList []).getD d []:=fun j o hj=>by
  have hjs:j<ops.size:=(Array.getElem?_eq_some_iff.1 hj).1;obtain⟨pre,q1,q2,r,q3⟩:=Xa ops.toList [] j o γ;simp only[aDs,aCI]at q1 q2;have hrow:(sH ops.toList []).getD j []=IY o pre:=by
   grind
  have hpre:∀d∈uo o,pre.getD d []=(sH ops.toList []).getD d []:=fun d hd=>by
   have hdj:d<j:=hlt j hjs d (by rw[hrow];exact Ou.2 (.inl hd));grind
  refine⟨fun d hd=>by rw[hrow];exact Ou.2 (.inl hd),fun i hi=>?_⟩;rw[hrow]at hi;rcases Ou.1 hi with hi| ⟨d,hd,hid⟩
  all_goals grind
 have getL:∀x∈ (List.range ops.size).zip ((cl.take m).zip Fs),x.1<m/\x.1<ops.size/\cl[x.1]?=some x.2.1/\Fs[x.1]?=some x.2.2:=fun x hx=>by
  obtain⟨n,hn⟩:=List.getElem?_of_mem hx;grind
 have getT:∀y∈ (List.range' (min m ops.size) (ops.size-m)).zip (cl.drop m),m<=y.1/\y.1<ops.size/\cl[y.1]?=some y.2:=fun y hy=>by
  obtain⟨n,hn⟩:=List.getElem?_of_mem hy;rw[List.getElem?_zip_eq_some]at hn;grind
 refine K3 hcall hN hc (bf:=fun j=>(sH ops.toList []).getD j []) hlt hdep ops.size (g:=g) (L:=(List.range ops.size).zip ((cl.take m).zip Fs)) (T:=(List.range' (min m ops.size) (ops.size-m)).zip (cl.drop m)) ?_ ⟨by simp,fun x hx=>?_,fun y hy=>?_,fun j hj _=>?_,?_,fun x hx y hy=>?_,?_,fun k hk hkl=>?_⟩ (t0:=t0) (tg:=tg) (t:=t) ?_ hgh ?_ ok' fun a'' w'' ρ'' ok'' far''=>hQ _ _ ρ'' ok'' (far'.trans far'')
 ·grind
 ·obtain⟨q0,q1,q2,q3⟩:=getL x hx;exact⟨q2,by simp[q1]⟩
 ·obtain⟨q0,q1,q2⟩:=getT y hy;exact⟨q2,by simp[q1]⟩
 ·by_cases hjm:j<m
  ·have hjt:j< (cl.take m).length:=ω
   refine .inl ⟨(j,(cl.take m)[j],Fs[j]'(by omega)),?_,rfl⟩;refine List.mem_of_getElem? (i:=j) ?_;grind
  ·have hjt:j-m< (cl.drop m).length:=by rw[aDL,lc'];omega
   refine .inr ⟨(j,(cl.drop m)[j-m]),?_,rfl⟩;refine List.mem_of_getElem? (i:=j-m) ?_;rw[List.getElem?_zip_eq_some];refine⟨?_,by rw[List.getElem?_eq_getElem hjt]⟩;rw[List.getElem?_range' ω];simp only[Option.some.injEq];omega
 ·rw[List.pairwise_iff_getElem];intro i j hi hj hij;have hj':j< (cl.take m).length/\j<Fs.length:=by simp only[List.length_zip,List.length_range,lf]at hj;omega
  have hjs:j<ops.size:=ω
  have hjm:j<m:=ω
  simp only[List.getElem_zip,List.getElem_range,List.getElem_take];refine⟨hij,?_⟩;rcases(hsp j cl[j] _ σ (bget j hjs)).2 i cl[i] ω σ with hb|hb
  ·grind
  ·refine .inr ?_;simp only[Mz,if_pos hjm,adq,aCK,Bool.or_eq_true]at hb;obtain⟨hb1,hb2⟩:=hb;refine⟨hb1,?_⟩;have gi:∀q (hq:q< (cl.take m).length) (hq':q<Fs.length),∃s' h' t',fJ call md (cl[q]'(by omega)) s' h'=some (t',Fs[q]):=fun q hq hq'=>by
    refine gf q _ _ ?_ (by rw[List.getElem?_eq_getElem hq']);rw[List.getElem?_eq_getElem hq,List.getElem_take]
   obtain⟨s1,h1,t1,st1⟩:=gi i ω ω;obtain⟨s2,h2,t2,st2⟩:=gi j hj'.1 hj'.2;rcases hb2 with((hb2|hb2)|hb2)|hb2
   ·rw[abt st1 hb2];exact Ud _
   ·rw[abt st2 hb2];exact(Ud _).symm
   ·obtain⟨r1,k1⟩:=Qd st1 hb2.1;obtain⟨r2,k2⟩:=Qd st2 hb2.2;rw[k1,k2];simp[wT,mW,sG]
   ·have:=List.all_eq_true.1 hps (i,j) (by simpa using hb2);simp only[AU]at this;rw[List.getElem?_eq_getElem (show i<Fs.length from by omega),List.getElem?_eq_getElem hj'.2]at this;exact this
 ·obtain⟨q0,q1,q2,q3⟩:=getL x hx;obtain⟨p0,p1,p2⟩:=getT y hy;refine⟨by omega,?_⟩;rcases(hsp y.1 y.2 _ p2 (bget y.1 p1)).2 x.1 x.2.1 ω q2 with hb|hb
  ·exact .inl hb
  ·simp only[Mz,if_neg (show¬y.1<m by omega),aCK]at hb;exact .inr (ad1 hb.2)
 ·rw[List.pairwise_iff_getElem];intro i j hi hj hij;have hi':=getT _ (aC0 hi);have hj':=getT _ (aC0 hj);have hlt2:((List.range' (min m ops.size) (ops.size-m)).zip (cl.drop m))[i].1< ((List.range' (min m ops.size) (ops.size-m)).zip (cl.drop m))[j].1:=by
   simp only[List.getElem_zip,List.getElem_range'];omega
  refine⟨hlt2,?_⟩;rcases(hsp _ _ _ hj'.2.2 (bget _ hj'.2.1)).2 _ _ hlt2 hi'.2.2 with hb|hb
  ·omega
  ·simp only[Mz,if_neg (Nat.not_lt.2 hj'.1),aCK,decide_eq_true_eq]at hb;have:=hb.1;have:=hi'.1;omega
 ·simp[hk]at hkl
 ·have m1:((List.range ops.size).zip ((cl.take m).zip Fs)).map (·.2.1)=cl.take m:=by
   rw[show(fun x:Nat×COp×Fp=>x.2.1)=Prod.fst∘Prod.snd from rfl,←List.map_map,List.map_snd_zip (by simp[lc',lf,aCW];omega),List.map_fst_zip ω]
  have m2:((List.range ops.size).zip ((cl.take m).zip Fs)).map (·.2.2)=Fs:=by
   rw[show(fun x:Nat×COp×Fp=>x.2.2)=Prod.snd∘Prod.snd from rfl,←List.map_map,List.map_snd_zip (by simp[lc',lf,aCW];omega),List.map_snd_zip ω]
  rw[m1,m2];exact e1
 grind[List.range',List.map_snd_zip]
theorem ad4(hm:P.follows .mixedOrders=true)(hcall:oR P I call md)(hN:N<=1000):T7 P I call md N:=by
 intro id ops hs0 cl w X ρ h s a t ps Q hc hd ok hz hQ;unfold WL al6 at hd;unfold ug at hz;cases hb:Dx ps with
 |none=>
  rw[hb]at hd hz;simp only[DJ,aCH]at hz;obtain⟨⟨t0,Fs⟩,e1,e2⟩:=hz;split at e2
  ·rename_i hps;cases e2;have hsp:=Ek (done:=[]) (j0:=0) rfl hd;refine Xe hm hcall hN (m:=cl.length) (g:=0) (qs:=ps) hc (fun j b bf h1 h2=>?_) ok (by rw[List.take_length];omega) hps rfl (by rw[List.drop_length];rfl) hQ;have hj:=(List.getElem?_eq_some_iff.1 h1).1
   simp_all[Mz,if_pos,aCI]
  grind
 |some q=>
  rw[hb]at hd hz;simp only[IU,aCH]at hz;obtain⟨⟨t0,Fs⟩,e1,e2⟩:=hz;split at e2
  ·rename_i hps;simp only[bv]at e2;split at e2
   ·grind
   ·rename_i tg htg;have hsp:=Ek (done:=[]) (j0:=0) rfl hd;refine Xe hm hcall hN (m:=q.1) (g:=q.2) (qs:=ps.tail) hc (fun j b bf h1 h2=>?_) ok e1 hps htg e2 hQ;grind
  grind
end
theorem DA:∀ss l,(eP ss l).length=l.length
 |[],l=>by cases l<;>simp[eP]
 |s::ss,[]=>by simp[eP]
 |s::ss,a::l=>by simp[eP,DA ss l]
theorem FA:∀ss l (j:Nat) c,(eP ss l)[j]?=some c->∃c0,l[j]?=some c0/\(c=c0\/∃s,c=nrmL s c0)
 |[],l,j,c,h=>⟨c,by grind[eP],.inl rfl⟩
 |s::ss,[],j,c,h=>by grind[eP]
 |s::ss,a::l,0,c,h=>by grind[eP]
 |s::ss,a::l,j+1,c,h=>by
  simpa using FA ss l j c h
theorem FB{s}{c}(hd:aJ c=true):aJ (nrmL s c)=true:=by
 obtain⟨k,cs⟩:=s;cases k with
 |zero=>grind[nrmL]
 |succ k=>cases c<;>simp[aJ]at hd<;>simp[nrmL,aJ,hd]
theorem ji(s){c}(h1:∀k r,c≠ .sl k r)(h2:c≠ .emp)(h3:∀k r,c≠ .osl k r):nrmL s c=c:=by
 obtain⟨k,cs⟩:=s;cases k with
 |zero=>simp[nrmL]
 |succ k=>cases c<;>first|rfl|exact absurd rfl (h1 _ _)|exact absurd rfl h2|exact absurd rfl (h3 _ _)
section
variable {w:World} {A:Nat→Prop} {ρ:eZ} {h:ae}
theorem RD.nrmL{c}{u}(hd:RD w A c u):∀s,RD w A (nrmL s c) u:=by
 induction hd with
 |any u h=>intro s;rw[ji s σ σ σ];exact .any u h
 |v x h=>intro s;rw[ji s σ σ σ];exact .v x h
 |emp a=>
  intro s;obtain⟨k,cs⟩:=s;cases k with
  |zero=>exact .emp a
  |succ k=>
   exact .sl k [] a 0 ⟨0,0,none⟩ (fun _ _=>undef) (aCJ 0) (fun h=>absurd rfl h) (fun _ h=>by grind) (fun i row j c h=>by grind) (fun _ h=>by grind) (fun i row j c h=>by grind)
 |sl k rows a cap ad vals hc ha hk hv hl hr ih=>
  intro s;obtain⟨k',cs⟩:=s;cases k' with
  |zero=>exact .sl k rows a cap ad vals hc ha hk hv hl hr
  |succ k'=>
   simp only[Ab.nrmL];have key:∀ (i:Nat) row (j:Nat) c,(rows.map (eP cs))[i]?=some row->row[j]?=some c->∃row0 c0,rows[i]?=some row0/\row0[j]?=some c0/\(c=c0\/∃s,c=Ab.nrmL s c0):=by
    intro i row j c h1 h2;simp only[List.getElem?_map,aCL]at h1;obtain⟨row0,h3,rfl⟩:=h1;obtain⟨c0,h4,h5⟩:=FA cs row0 j c h2;grind
   have:=RD.sl (w:=w) (A:=A) k (rows.map (eP cs)) a cap ad vals γ (fun hne=>ha γ) (fun row hm=>by
     simp only[aDz]at hm;obtain⟨row0,hm,rfl⟩:=hm;rw[DA];grind) (fun i row j c h1 h2=>by
     grind) (fun row hm c hc=>by
     obtain⟨i,hi⟩:=List.getElem?_of_mem hm;obtain⟨j,hj⟩:=List.getElem?_of_mem hc;obtain⟨row0,c0,h3,h4,h5⟩:=key i row j c hi hj;have hd:=hl row0 (List.mem_of_getElem? h3) c0 (List.mem_of_getElem? h4);rcases h5 with rfl| ⟨s,rfl⟩
     ·omega
     ·exact FB hd) (fun i row j c h1 h2=>by
     grind)
   grind
 |agg cs us hs h1 hr ih=>intro s;rw[ji s σ σ σ];exact .agg cs us hs h1 hr
 |fn f=>intro s;rw[ji s σ σ σ];exact .fn f
theorem RV.nrmL{c}{u}(hv:RV w A ρ h c u)(s):RV w A ρ h (nrmL s c) u:=by
 cases hv with
 |dat hd=>exact .dat (hd.nrmL s)
 |anyv u=>rw[ji s σ σ σ];exact .anyv u
 |und=>rw[ji s σ σ σ];exact .und
 |ref id sub k i j hp=>rw[ji s σ σ σ];exact .ref id sub k i j hp
 |rsl id sub k lo n cap a hp hn hb ha=>rw[ji s σ σ σ];exact .rsl id sub k lo n cap a hp hn hb ha
 |rsc id k lo n cap a hp hn hb ha=>rw[ji s σ σ σ];exact .rsc id k lo n cap a hp hn hb ha
 |ipt cs ad vals hA hs hv hl hr=>rw[ji s σ σ σ];exact .ipt cs ad vals hA hs hv hl hr
 |agg cs us hs h1 hr=>rw[ji s σ σ σ];exact .agg cs us hs h1 hr
 |tup vs us hs hr=>rw[ji s σ σ σ];exact .tup vs us hs hr
 |fn f x y us ts hs ht hx hy=>rw[ji s σ σ σ];exact .fn f x y us ts hs ht hx hy
theorem RV.nrmV{c}{u}(hv:RV w A ρ h c u)(ss):RV w A ρ h (nrmV ss c) u:=by
 cases c with
 |agg cs=>
  obtain⟨us,rfl,hs,h1,hr⟩:=hv.agg_inv;refine .agg _ us (by rw[DA];omega) h1 fun i c u hc hu=>?_;obtain⟨c0,h2,h3⟩:=FA ss cs i c hc;rcases h3 with rfl| ⟨s,rfl⟩
  ·grind
  ·exact(hr i c0 u h2 hu).nrmL s
 |_=>exact hv.nrmL _
theorem BM:∀ss l,(bA ss l).length=l.length
 |[],l=>by cases l<;>simp[bA]
 |s::ss,[]=>by simp[bA]
 |s::ss,a::l=>by simp[bA,BM ss l]
theorem AZ:∀ss l (j:Nat) c,(bA ss l)[j]?=some c->∃c0,l[j]?=some c0/\(c=c0\/∃s,c=Ab.nrmV s c0)
 |[],l,j,c,h=>⟨c,by grind[bA],.inl rfl⟩
 |s::ss,[],j,c,h=>by grind[bA]
 |s::ss,a::l,0,c,h=>by grind[bA]
 |s::ss,a::l,j+1,c,h=>by
  simpa using AZ ss l j c h
end
def wU:AV->Bool
 | .osl _ _| .obx _=>true
 |_=>false
def Xf(L:List Nat)(h':ae)(a c:AV):Prop:=
 ∃id,cH a=[id]/\bt id=false/\aF L (h' id)=true/\
  ((∃k rows,c=.osl k rows/\a=.rsl id none k 0 rows.length/\h' id=.ar k rows)\/(∃xs,c=.obx xs/\a=.ref id none 0 0 0/\h' id=.bx xs))
theorem Uf{m}{h}{c}(hc:wU c=false):eJ m h c=(c,h):=by
 cases c<;>simp[wU]at hc<;>rfl
theorem Xf.mat{L}{h'}{a c}(hm:Xf L h' a c)(m)(h2):∃id,cH a=[id]/\bt id=false/\aF L (h' id)=true/\h' id≠ .dead/\(eJ m h2 c).2=upd h2 m (h' id):=by
 obtain⟨id,h1,h3,h4,⟨k,rows,rfl,rfl,h5⟩| ⟨xs,rfl,rfl,h5⟩⟩:=hm
 ·exact⟨id,h1,h3,h4,by grind,by rw[h5];rfl⟩
 ·exact⟨id,h1,h3,h4,by grind,by rw[h5];rfl⟩
theorem aas{x}{l}(h:mF (x::l)=true):x∉l/\mF l=true:=by
 simp_all[mF,aCK,aDJ,List.contains_eq_mem,decide_eq_false_iff_not]
theorem Qe{l l'}:mF (l++l')=true->mF l'=true/\∀x,x∈l->x∉l':=by
 induction l with
 |nil=>grind
 |cons y l ih=>
  intro h;obtain⟨h1,h2⟩:=aas h
  simp_all
section
variable {h':ae} {L:List Nat}
theorem Ja(hL:∀i,2000<=i->L.contains i=false):∀ (zas cs:List AV) m h2 g,2000<=m->zas.length=cs.length->
  (∀ (j:Nat) a c,zas[j]?=some a->cs[j]?=some c->wU c=true->Xf L h' a c)->mF ((zas.flatMap cH).filter fun i=>!bt i)=true->Emb L (fun i=>i) g h' h2->(∀i,m<=i->h2 i=.dead)->
  (∀i,h2 i≠ .dead->∀id,id∈zas.flatMap cH->bt id=false->g i≠id)->
  ∃gm,Emb L (fun i=>i) gm h' (dp m h2 cs).2/\(∀i,i<m->(dp m h2 cs).2 i=h2 i/\gm i=g i)/\
   (∀i,(dp m h2 cs).2 i≠ .dead->(h2 i≠ .dead/\gm i=g i)\/∃ (j:Nat) (a c:AV),zas[j]?=some a/\cs[j]?=some c/\wU c=true/\cH a=[gm i])/\
   (∀j a c id,zas[j]?=some a->cs[j]?=some c->wU c=true->cH a=[id]->gm (m+j)=id/\(dp m h2 cs).2 (m+j)=h' id/\h' id≠ .dead)
 |[],[],m,h2,g,hm,_,_,_,em,_,_=>⟨g,em,fun _ _=>⟨rfl,rfl⟩,fun _ hi=>.inl ⟨hi,rfl⟩,fun j a c id h1=>by grind⟩
 |[],c::cs,m,h2,g,_,hl,_,_,_,_,_=>by grind
 |a::zas,[],m,h2,g,_,hl,_,_,_,_,_=>by grind
 |a::zas,c::cs,m,h2,g,hm,hl,hmv,hnd,em,hfree,hid=>by
  simp only[List.flatMap_cons,List.filter_append]at hnd;obtain⟨nd2,nd3⟩:=Qe hnd;have hmv':∀j a c,zas[j]?=some a->cs[j]?=some c->wU c=true->Xf L h' a c:=fun j a' c' h1 h3=>hmv (j+1) a' c' γ γ;have hl':zas.length=cs.length:=γ
  cases hc:wU c with
  |false=>
   simp only[dp,Uf hc];obtain⟨gm,e1,e2,e3,e4⟩:=Ja hL zas cs (m+1) h2 g ω hl' hmv' nd2 em (fun i hi=>hfree i ω) (fun i hi id hm'=>hid i hi id γ);refine⟨gm,e1,fun i hi=>e2 i ω,fun i hi=>?_,fun j a' c' id h1 h3 h4 h5=>?_⟩
   ·rcases e3 i hi with hh| ⟨j,a',c',h1,h3,h4,h5⟩
    ·grind
    ·exact .inr ⟨j+1,a',c',by grind,by grind,h4,h5⟩
   ·cases j with
    |zero=>
     grind
    |succ j=>
     grind
  |true=>
   obtain⟨id,i1,i2,i3,i4,i5⟩:=(hmv 0 a c rfl rfl hc).mat m h2;simp only[dp,i5];have hida:id∈ (a::zas).flatMap cH:=γ
   have em1:=em.add (m:=m) (id:=id) (hfree m (aCJ _)) (hL m hm) (fun i hi=>hid i hi id hida i2) i3;have nin:∀id',id'∈zas.flatMap cH->bt id'=false->id'≠id:=by
    grind
   obtain⟨gm,e1,e2,e3,e4⟩:=Ja hL zas cs (m+1) (upd h2 m (h' id)) (upd g m id) ω hl' hmv' nd2 em1 (fun i hi=>by grind[aU]) (fun i hi id' hm' hp'=>by
    by_cases e:i=m
    ·subst e;rw[aC];exact fun ee=>nin id' hm' hp' ee.symm
    ·rw[aU _ _ e]at hi⊢;exact hid i hi id' (by simp only[List.flatMap_cons,aEj];exact .inr hm') hp')
   have atm:=e2 m ω;rw[aC,aC]at atm;refine⟨gm,e1,fun i hi=>?_,fun i hi=>?_,fun j a' c' id' h1 h3 h4 h5=>?_⟩
   ·grind[aU]
   ·rcases e3 i hi with⟨h1,h3⟩| ⟨j,a',c',h1,h3,h4,h5⟩
    ·by_cases e:i=m
     ·subst e;exact .inr ⟨0,a,c,rfl,rfl,hc,by grind⟩
     grind[aU]
    ·exact .inr ⟨j+1,a',c',by grind,by grind,h4,h5⟩
   ·cases j with
    |zero=>
     grind
    |succ j=>
     grind
theorem Xg:∀l m h j z,(dp m h l).1[j]?=some z->∃c,l[j]?=some c/\z=(eJ (m+j) h c).1
 |[],m,h,j,z,hz=>by grind[dp]
 |c::l,m,h,0,z,hz=>by
  grind[dp]
 |c::l,m,h,j+1,z,hz=>by
  obtain⟨c',h1,h2⟩:=Xg l (m+1) _ j z hz;refine⟨c',by simpa using h1,?_⟩;rw[h2,Ot _ _ h,show m+1+j=m+(j+1)from by omega]
theorem NO:∀l m h,(dp m h l).1.length=l.length
 |[],m,h=>rfl
 |c::l,m,h=>by simp[dp,NO l]
end
section
variable {w:World} {X:Nat→Prop} {ρ:eZ} {h':ae} {L:List Nat}
structure Seen (w:World) (X:Nat->Prop) (ρ:eZ) (h':ae) (a:AV) (A2:Nat->Prop) (ρ2:eZ) (h2:ae):Prop where
 mono:∀b,aQ w X h' ρ b->A2 b
 ids:∀id,id∈cH a->bt id=false->∀sub,live h' id sub->A2 (ρ id sub).1
 pas:∀id,bt id=true->h' id≠ .dead->h2 id≠ .dead/\ρ2 id none=ρ id none
def ajK(w:World)(X:Nat->Prop)(ρ:eZ)(h':ae)(L:List Nat)(a c:AV)(u:Value):Prop:=
 (wU c=true->Xf L h' a c)/\(wU c=false->∀A2 ρ2 h2,Seen w X ρ h' a A2 ρ2 h2->RV w A2 ρ2 h2 c u)
theorem NP{c}(hd:oA c=true):hF L c=true:=by
 simp only[oA,Bool.or_eq_true]at hd;simp only[hF,Bool.or_eq_true];rcases hd with hd|hd
 ·grind
 ·cases c<;>simp[aJ]at hd<;>simp[bo,bw,hd]
theorem NQ{a b}(he:oE h' a=some b)(hd:aJ b=true\/∃k r,b=.osl k r){id}(hi:gL a=[id]):bt id=false:=by
 cases a<;>simp only[gL]at hi<;>try (cases hi;done)
 case ref i sub k x y=>
  cases sub with
  |some p=>grind[oE,aJ]
  |none=>
   grind[oE,aJ,adn]
 case rsl i sub k x y=>
  have hi':i=id:=γ
  subst hi';cases hp:bt i with
  |false=>rfl
  |true=>cases sub<;>simp[oE,hp]at he
theorem amP{b c}(hd:Eg b=some c):aJ b=true\/∃k r,b=.osl k r:=by
 unfold Eg at hd;grind
theorem Xh:∀ {cs ds},oF h' cs=some ds->∀ (i:Nat) a id,cs[i]?=some a->gL a=[id]->bt id=false
 |[],ds,_,i,a,id,h1,_=>by grind
 |c::cs,ds,he,i,a,id,h1,h2=>by
  simp only[oF,aCH]at he;obtain⟨b,e1,c',e2,q,e3,e4⟩:=he;cases i with
  |zero=>simp at h1;subst h1;exact NQ e1 (amP e2) h2
  |succ i=>exact Xh e3 i a id (by simpa using h1) h2
theorem Ug{s}{b}(h:wU (nrmL s b)=true):nrmL s b=b:=by
 obtain⟨k,cs⟩:=s;cases k with
 |zero=>simp[nrmL]
 |succ k=>cases b<;>simp[nrmL,wU]at h⊢
theorem agm(ss){b}(h:∀cs,b≠ .agg cs):nrmV ss b=nrmL (ss.headD (.o 0 [])) b:=by
 cases b<;>first|rfl|exact absurd rfl (h _)
theorem ajL(r:Rel w X ρ h'){a b}{u}(hv:RV w (aQ w X h' ρ) ρ h' a u)(he:oE h' a=some b)(s):ajK w X ρ h' L a (nrmL s b) u:=by
 have data:∀ {b},oE h' a=some b->aJ b=true->(∀A2,(∀b,aQ w X h' ρ b->A2 b)->(∀id sub,gL a=[id]->live h' id sub->A2 (ρ id sub).1)->RD w A2 b u)->
   ∀A2 ρ2 h2,Seen w X ρ h' a A2 ρ2 h2->RV w A2 ρ2 h2 (nrmL s b) u:=by
  intro b he hd hr A2 ρ2 h2 hs;exact .dat ((hr A2 hs.mono fun id sub hi hl=>hs.ids id (by
   have:cH a=gL a:=by cases a<;>first|rfl|simp[gL]at hi
   grind) (NQ he (.inl hd) hi) sub hl).nrmL s)
 rcases ER r hv he with⟨id,k,rows,rfl,rfl,e,hp⟩| ⟨id,cs,rfl,rfl,e,hd,hp⟩| ⟨rfl,id,k,i,j,rfl,hp⟩| ⟨rfl,hd⟩| ⟨hd,hr⟩
 ·refine⟨fun hm=>?_,fun hm A2 ρ2 h2 hs=>?_⟩
  ·rw[Ug hm];exact⟨id,rfl,hp,by rw[e];rfl,.inl ⟨k,rows,rfl,rfl,e⟩⟩
  ·have hsl:nrmL s (.osl k rows)=nrmL s (.sl k rows):=by
    obtain⟨k',cs⟩:=s;cases k' with
    |zero=>grind[nrmL,wU]
    |succ k'=>simp[nrmL]
   rw[hsl];obtain⟨a',cap,rfl,_⟩:=hv.rsl_inv;exact .dat (((Qa r hv rfl he rfl).2 A2 hs.mono fun id' sub hi hl=>hs.ids id' (by
    grind[cH,gL]) (by grind[gL]) sub hl).nrmL s)
 ·refine⟨fun hm=>?_,fun hm=>?_⟩
  ·rw[Ug hm];refine⟨id,rfl,hp,?_,.inr ⟨cs,rfl,rfl,e⟩⟩;grind[aF,aC5,NP]
  ·rw[ji s σ σ σ]at hm;cases hm
 ·refine⟨fun hm=>?_,fun hm A2 ρ2 h2 hs=>?_⟩
  ·rw[ji s σ σ σ]at hm;cases hm
  ·rw[ji s σ σ σ];obtain⟨rfl,hpr⟩:=hv.ref_inv;obtain⟨h1,h3⟩:=hs.pas id hp hpr;have:=RV.ref (w:=w) (A:=A2) (ρ:=ρ2) (h:=h2) id none k i j h1;grind
 ·refine⟨fun hm=>?_,fun hm A2 ρ2 h2 hs=>?_⟩
  ·have:=FB (s:=s) hd;cases hq:nrmL s b<;>rw[hq]at hm this<;>simp[wU,aJ]at hm this
  ·exact(hv.keepD hd fun b hb=>⟨hs.mono b hb,rfl⟩).nrmL s
 ·refine⟨fun hm=>?_,fun hm=>data he hd hr⟩;have:=FB (s:=s) hd;cases hq:nrmL s b<;>rw[hq]at hm this<;>simp[wU,aJ]at hm this
theorem amQ(r:Rel w X ρ h'){a b}{u}(hv:RV w (aQ w X h' ρ) ρ h' a u)(he:uj h' a=some b){c}(hc:c=b\/∃ss,c=nrmV ss b):ajK w X ρ h' L a c u:=by
 have hc':∃ss,c=nrmV ss b:=by
  rcases hc with rfl|hc
  ·refine⟨[],?_⟩;cases c<;>simp[nrmV,nrmL,eP]
  omega
 obtain⟨ss,rfl⟩:=hc';by_cases hagg:∃cs,a=.agg cs
 ·obtain⟨cs,rfl⟩:=hagg;simp only[uj,aCL]at he;obtain⟨ds,e1,rfl⟩:=he;refine⟨fun hm=>by grind[nrmV,wU],fun _ A2 ρ2 h2 hs=>?_⟩;obtain⟨us,rfl,q1,q2,q3⟩:=hv.agg_inv;obtain⟨l1,l2⟩:=NJ r cs ds e1;refine .agg _ us (by grind[DA]) q2 fun i c u hc hu=>?_;obtain⟨c0,h1,h3⟩:=FA ss ds i c hc;have hi:i<cs.length:=γ
  have hci:cs[i]?=some cs[i]:=γ
  obtain⟨d1,d2⟩:=l2 i cs[i] c0 u hci h1 (q3 i _ u hci hu) (q2 i u hu);have hrd:=d2 A2 hs.mono fun id sub hii hl=>hs.ids id (by
   simp only[cH,List.mem_flatMap];exact⟨cs[i],by simp,by rw[hii];simp⟩) (Xh e1 i _ id hci hii) sub hl
  rcases h3 with rfl| ⟨s,rfl⟩
  ·exact .dat hrd
  ·exact .dat (hrd.nrmL s)
 ·have hl:uj h' a=oE h' a:=by cases a<;>first|rfl|exact absurd ⟨_,rfl⟩ hagg
  rw[hl]at he;have hb:∀cs,b≠ .agg cs:=by
   rcases ER r hv he with⟨id,k,rows,h1,_⟩| ⟨id,cs',h1,_⟩| ⟨h1,id,k,i,j,h2,_⟩| ⟨h1,hd⟩| ⟨hd,hr⟩
   all_goals grind[aJ]
  grind[agm,ajL]
theorem Uh:∀ {zas bs},xT h' zas=some bs->bs.length=zas.length/\∀ (j:Nat) a b,zas[j]?=some a->bs[j]?=some b->uj h' a=some b
 |[],bs,he=>by grind[xT,Option.some.injEq]
 |a::zas,bs,he=>by
  simp only[xT,aCH]at he;obtain⟨b,e1,q,e2,e3⟩:=he;cases e3;obtain⟨g1,g2⟩:=Uh e2;refine⟨by simp[g1],fun j a' b' h1 h2=>?_⟩;cases j with
  |zero=>simp at h1 h2;subst h1 h2;exact e1
  |succ j=>exact g2 j a' b' (by simpa using h1) (by simpa using h2)
def Wf(us:Array Value):Value:=if h:us.size=1 then us[0]else .tuple us
theorem agn{l}(hl:∀c∈l,∀vs,c≠ .tup vs)(n)(h):mat n h (Ac l)=(Ac (dp n h l).1,(dp n h l).2):=by
 match l with
 |[]=>rfl
 |[c]=>
  have:=hl c σ;cases c<;>first|rfl|exact absurd rfl (this _)
 |a::b::l=>rfl
end
section
variable {w:World} {X:Nat→Prop} {ρ:eZ} {h':ae}
theorem abu{L}{g}{h2}(em:Emb L (fun i=>i) g h' h2){b}(ho:uS h2 (fun i s=>ρ (g i) s) b):uS h' ρ b:=by
 obtain⟨i,s,h1,h3⟩:=ho;exact⟨g i,s,(em.live h1).1,h3⟩
theorem ajM{ss}{b}{vs}(h:nrmV ss b=.tup vs):∃vs',b=.tup vs':=by
 cases b with
 |tup vs'=>grind
 |agg cs=>grind[nrmV]
 |_=>
  simp only[nrmV]at h;generalize ss.headD (.o 0 [])=s at h;obtain⟨k,cs⟩:=s;cases k<;>simp[nrmL]at h
theorem ad5(r:Rel w X ρ h'){a}{u}{vs}(hv:RV w (aQ w X h' ρ) ρ h' a u)(he:uj h' a=some (.tup vs)):False:=by
 by_cases hagg:∃cs,a=.agg cs
 ·obtain⟨cs,rfl⟩:=hagg
  simp_all[uj]
 ·have hl:uj h' a=oE h' a:=by cases a<;>first|rfl|exact absurd ⟨_,rfl⟩ hagg
  rw[hl]at he;rcases ER r hv he with⟨id,k,rows,h1,_⟩| ⟨id,cs',h1,_⟩| ⟨h1,id,k,i,j,h2,_⟩| ⟨h1,hd⟩| ⟨hd,hr⟩
  all_goals grind[aJ]
theorem ago(r:Rel w X ρ h'){n0 n}(hn0:n0<=1000)(hn:2000<=n)(hpass:∀id,bt id=true->h' id≠ .dead->(dD n0).contains id=true){zas}{us}(hs:us.size=zas.length)
  (hv:∀ (i:Nat) c u,zas[i]?=some c->us[i]?=some u->RV w (aQ w X h' ρ) ρ h' c u) {rs} {res} {obs} (hz:yU rs n0 h' zas=some (res,obs)):
  ∃ρ2,Rel w X ρ2 (mat n (ax obs) res).2/\(∀nm,Far nm w ρ h' w ρ2 (mat n (ax obs) res).2)/\RV w (aQ w X (mat n (ax obs) res).2 ρ2) ρ2 (mat n (ax obs) res).2 (mat n (ax obs) res).1 (Wf us):=by
 unfold yU at hz;split at hz
 ·rename_i hc;simp only[aCK]at hc;obtain⟨hc1,hc2⟩:=hc;simp only[aCL]at hz;obtain⟨bs,e1,e2⟩:=hz;cases e2;obtain⟨l1,l2⟩:=Uh e1;have hLm:∀i,(dD n0).contains i=true->bt i=true:=fun i hi=>by
   have:=CP.1 hi;simp only[bt,decide_eq_true_eq];omega
  have hL:∀i,2000<=i->(dD n0).contains i=false:=fun i hi=>by
   grind[dD]
  have hcl:(bA rs bs).length=zas.length:=by rw[BM,l1]
  have out:∀ (j:Nat) (a c:AV) (u:Value),zas[j]?=some a->(bA rs bs)[j]?=some c->us[j]?=some u->ajK w X ρ h' (dD n0) a c u:=fun j a c u h1 h3 h4=>by
   grind[AZ,amQ]
  have uget:∀ (j:Nat) (a:AV),zas[j]?=some a->∃u,us[j]?=some u:=fun j a h1=>by
   have:j<us.size:=γ
   simp_all
  have em:=Emb.base (h':=h') hc2;have hlow:∀i,ax ((dD n0).map h') i≠ .dead->(dD n0).contains i=true:=fun i hi=>by
   rw[vT]at hi;split at hi
   ·rename_i h1;exact CP.2 h1
   grind
  obtain⟨gm,m1,m2,m3,m4⟩:=Ja hL zas (bA rs bs) n (ax ((dD n0).map h')) (fun i=>i) hn hcl.symm (fun j a c h1 h3 h4=>by
    obtain⟨u,hu⟩:=uget j a h1;exact(out j a c u h1 h3 hu).1 h4) hc1 em (fun i hi=>by
    rw[vT,if_neg ω]) (fun i hi id _ hp e=>by
    grind)
  have notup:∀c∈bA rs bs,∀vs,c≠ .tup vs:=by
   rintro c hcm vs rfl
   obtain⟨j,hj⟩:=List.getElem?_of_mem hcm;have hja:j<zas.length:=γ
   obtain⟨u,hu⟩:=uget j zas[j] γ;obtain⟨b,h5,h6⟩:=AZ rs bs j _ hj;have he:=l2 j zas[j] b γ h5;grind[ajM,ad5]
  rw[agn notup];simp only;have hfar:∀b,aQ w X h' ρ b->aQ w X (dp n (ax ((dD n0).map h')) (bA rs bs)).2 (fun i s=>ρ (gm i) s) b:=fun b hb=>⟨hb.1,hb.2.1,fun ho=>hb.2.2 (abu m1 ho)⟩;have hps:∀id,bt id=true->(dp n (ax ((dD n0).map h')) (bA rs bs)).2 id=ax ((dD n0).map h') id/\gm id=id:=fun id hp=>m2 id (by
   simp only[bt,decide_eq_true_eq]at hp;omega)
  have hpd:∀id,bt id=true->h' id≠ .dead->(dp n (ax ((dD n0).map h')) (bA rs bs)).2 id=h' id:=fun id hp hd=>by
   rw[(hps id hp).1,vT,if_pos (CP.1 (hpass id hp hd))]
  have rel2:=Rel.emb m1 r r.xl (fun i s hl=>r.nx _ _ (m1.live hl).1) hfar;refine⟨fun i s=>ρ (gm i) s,rel2,fun nm=>⟨rfl,rfl,rfl,aCJ _,fun _ _ _=>rfl,fun b ho=>.inl (abu m1 ho),fun id hp hd=>?_,fun _ id p hp hd hpr=>?_⟩,?_⟩
  ·grind[vT]
  ·have h1:h' id≠ .dead:=by obtain⟨_,_,_,e,_⟩:=hpr;grind
   grind[gQ]
  ·
   have seen:∀ (j:Nat) (a c:AV),zas[j]?=some a->(bA rs bs)[j]?=some c->wU c=false->
     Seen w X ρ h' a (aQ w X (dp n (ax ((dD n0).map h')) (bA rs bs)).2 (fun i s=>ρ (gm i) s)) (fun i s=>ρ (gm i) s) (dp n (ax ((dD n0).map h')) (bA rs bs)).2:=by
    intro j a c h1 h3 h4;refine⟨hfar,fun id hid hp sub hl=>⟨?_,fun hx=>r.nx _ _ hl (.inl hx),fun⟨i,s,ho1,ho2⟩=>?_⟩,fun id hp hd=>⟨by grind,by grind⟩⟩
    ·cases sub with
     |none=>
      have ho:=r.ob id;cases e:h' id with
      |bx cs=>rw[e]at ho;obtain⟨us,t,g1,_⟩:=ho;grind
      |ar k rows=>rw[e]at ho;obtain⟨us,t,g1,_⟩:=ho;grind
      |_=>simp[live,e]at hl
     |some p=>
      obtain⟨cs,k,rows,e,ec⟩:=hl;have ho:=r.ob id;rw[e]at ho;obtain⟨us,t,g1,g2,g3,g4⟩:=ho;obtain⟨u,_,a',cap,us',t',_,_,_,q4,_⟩:=g4 p _ ec;grind
    ·obtain⟨hl1,hdd⟩:=m1.live ho1;obtain⟨e1,_⟩:=r.inj _ _ _ _ hl1 hl ho2;rcases m3 i hdd with⟨q1,q2⟩| ⟨j',a',c',q1,q2,q3,q4⟩
     ·grind
     ·rw[e1]at q4;have hne:j'≠j:=by
       grind
      exact two_names zas j' j a' a id hne q1 h1 γ hid hp hc1
   have vals:∀ (j:Nat) (z:AV) (u:Value),(dp n (ax ((dD n0).map h')) (bA rs bs)).1[j]?=some z->us[j]?=some u->
     RV w (aQ w X (dp n (ax ((dD n0).map h')) (bA rs bs)).2 (fun i s=>ρ (gm i) s)) (fun i s=>ρ (gm i) s) (dp n (ax ((dD n0).map h')) (bA rs bs)).2 z u:=by
    intro j z u hz hu;obtain⟨c,h1,rfl⟩:=Xg _ _ _ _ _ hz;have hja:j<zas.length:=γ
    have ha:zas[j]?=some zas[j]:=γ
    have o:=out j zas[j] c u ha h1 hu;cases hm:wU c with
    |false=>
     rw[Uf hm];exact o.2 hm _ _ _ (seen j zas[j] c ha h1 hm)
    |true=>
     obtain⟨id,i1,i2,i3,⟨k,rows,rfl,i4,i5⟩| ⟨xs,rfl,i4,i5⟩⟩:=o.1 hm
     ·obtain⟨q1,q2,q3⟩:=m4 j zas[j] _ id ha h1 hm i1;have hva:=hv j zas[j] u ha hu;rw[i4]at hva;obtain⟨a',cap,rfl,hp,hnn,hb,hab⟩:=hva.rsl_inv;simp only[eJ];exact .rsl (n+j) none k 0 rows.length cap a' (by show _≠_;grind) hnn γ (by simp only[q1];exact hab)
     ·obtain⟨q1,q2,q3⟩:=m4 j zas[j] _ id ha h1 hm i1;have hva:=hv j zas[j] u ha hu;rw[i4]at hva;obtain⟨rfl,hp⟩:=hva.ref_inv;simp only[eJ];have:=RV.ref (w:=w) (A:=aQ w X (dp n (ax ((dD n0).map h')) (bA rs bs)).2 (fun i s=>ρ (gm i) s)) (ρ:=fun i s=>ρ (gm i) s) (h:=(dp n (ax ((dD n0).map h')) (bA rs bs)).2) (n+j) none 0 0 0 (by show _≠_;rw[q2];exact q3);simp only[q1]at this;exact this
   have hzl:(dp n (ax ((dD n0).map h')) (bA rs bs)).1.length=us.size:=by rw[NO,hcl,hs]
   unfold Wf;split
   ·rename_i h1
    match hq:(dp n (ax ((dD n0).map h')) (bA rs bs)).1 with
    |[]=>rw[hq]at hzl;simp at hzl;omega
    |[z]=>exact vals 0 z us[0] (by rw[hq];rfl) (by simp[h1])
    |a::b::l=>rw[hq]at hzl;simp at hzl;omega
   ·rename_i h1
    match hq:(dp n (ax ((dD n0).map h')) (bA rs bs)).1 with
    |[]=>exact .tup [] us (by rw[hq]at hzl;simpa using hzl.symm) fun i c u hc=>by simp at hc
    |[z]=>rw[hq]at hzl;simp at hzl;omega
    |a::b::l=>
     rw[hq]at hzl;exact .tup _ us hzl.symm fun i c u hc hu=>vals i c u (by rw[hq];exact hc) hu
 grind
where
 two_names:∀ (zas:List AV) (i j:Nat) (a b:AV) (id:Nat),i≠j->zas[i]?=some a->zas[j]?=some b->id∈cH a->id∈cH b->bt id=false->mF ((zas.flatMap cH).filter fun i=>!bt i)=true->False
 |[],i,j,a,b,id,_,h1,_,_,_,_,_=>by simp at h1
 |c::zas,i,j,a,b,id,hne,h1,h2,h3,h4,hp,hnd=>by
  simp only[List.flatMap_cons,List.filter_append]at hnd;obtain⟨nd2,nd3⟩:=Qe hnd;have mem:∀ (j:Nat) (b:AV),zas[j]?=some b->id∈cH b->id∈ (zas.flatMap cH).filter fun i=>!bt i:=fun j b hb hi=>
   List.mem_filter.2 ⟨List.mem_flatMap.2 ⟨b,List.mem_of_getElem? hb,hi⟩,by grind⟩
  cases i with
  |zero=>
   simp at h1;subst h1;cases j with
   |zero=>exact hne rfl
   |succ j=>exact nd3 id (List.mem_filter.2 ⟨h3,by simp[hp]⟩) (mem j b (by simpa using h2) h4)
  |succ i=>
   cases j with
   |zero=>
    simp at h2;subst h2;exact nd3 id (List.mem_filter.2 ⟨h4,by simp[hp]⟩) (mem i a (by simpa using h1) h3)
   |succ j=>exact two_names zas i j a b id ω γ (by simpa using h2) h3 h4 hp nd2
end
structure Text (P:Program) (f:FuncId) (fd:FD):Prop where
 text: ∃fn code N,P.funcs[f]?=some fn/\fn.body=some code/\fn.ntmps=N/\N<=1000/\ju P N code fd.body=some fd.body/\I0 P fn.results.toList=some fd.res/\ (fn.name== "runtime.NumGoroutine")=false
theorem Xi(fn:Func)(tmps):fn.results.mapM (DO tmps)=(fun l=>l.toArray)<$>fn.results.toList.mapM (DO tmps):=by
 rw[Array.mapM_eq_mapM_toList]
theorem aat{P}{fn}{tmps}{w}{us}(h:(fn.results.toList.mapM (DO tmps)).run P w=.ok us w):(results fn tmps).run P w=.ok (Wf us.toArray) w:=by
 have h1:(fn.results.mapM (DO tmps)).run P w=.ok us.toArray w:=by
  simp_all[Xi,Sem.run_map]
 have h2:results fn tmps=(fn.results.mapM (DO tmps)>>=fun vs=>pure (Wf vs)):=by
  congr 1
 simp_all
section
variable {P:Program} {I:Inv} {call:jt} {md:Mode}
theorem amR(hm:P.follows .mixedOrders=true)(hcall:oR P I call md){f}{fd}{lf}(ht:Text P f fd):si P I md.nm f (CM call md lf fd):=by
 obtain⟨fn,code,N,t1,t2,t3,t4,t5,t6,t7⟩:=ht.text;intro args obs obs' res w X ρ vals n hz hn hi r hsz hv;unfold CM at hz;split at hz
 ·rename_i hc;obtain⟨c1,c2⟩:=hc;have he:(callFunc f vals).run P w=.ok (.enter f vals) w:=by
   simp_all[callFunc,Sem.run_bind,Result.andThen]
  unfold Enters;rw[he];refine calls_of_wp t1 t2 ?_;have hget:∀i,(vals++Array.replicate (fn.ntmps-vals.size) undef).getD i undef=vals.getD i undef:=fun i=>by
   simp only[Array.getD_eq_getD_getElem?,Array.getElem?_append];grind
  have ok:Ok I N w X ρ (ax obs) (wk args) {tmps:=vals++Array.replicate (fn.ntmps-vals.size) undef,defers:=[]}:=by
   refine⟨r,fun i=>?_,by grind,rfl,hi⟩;simp only[hget,wk];by_cases h:i<args.length
   ·rw[Array.getD_eq_getD_getElem?];grind
   ·rw[List.getElem?_eq_none ω];exact .anyv _
  have fin:∀ {t:St} {a} {w'} {ρ'},Ok I N w' X ρ' t.h t.s a->Far md.nm w ρ (ax obs) w' ρ' t.h->Fr md.nm fd.rs fd.res obs.length t.s t.h=some (res,obs')->
    a.defers=[]/\∃v,(results fn a.tmps).run P w'=.ok v w'/\∃ρ'',Rel w' X ρ'' (mat n (ax obs') res).2/\Far md.nm w ρ (ax obs) w' ρ'' (mat n (ax obs') res).2/\
     RV w' (aQ w' X (mat n (ax obs') res).2 ρ'') ρ'' (mat n (ax obs') res).2 (mat n (ax obs') res).1 v:=by
   intro t a w' ρ' ok' far hf;refine⟨ok'.defers,?_⟩;simp only[Fr,aCH]at hf;obtain⟨⟨vs,h',ks⟩,e1,e2⟩:=hf;split at e2
   ·rename_i hnm;obtain⟨us,g1,g2,g3,g4,g5⟩:=NI (a:=a) fn.results.toList fd.res t6 ok'.rel ok'.rs e1;refine⟨_,aat g1,?_⟩;have far2:=far.trans (g4.far hnm);obtain⟨ρ2,q1,q2,q3⟩:=ago (us:=us.toArray) g3 c2 hn (fun id hp hd=>by
     have:=(far2.stay id hp hd).1;unfold ax at this;refine CP.2 ?_;grind) ω (fun i c u hc hu=>g5 i c u hc γ) e2
    exact⟨ρ2,q1,far2.trans (q2 md.nm),q3⟩
   grind
  cases hx:cU call md lf fd.body (wk args) (ax obs)with
  |none=>rw[hx]at hz;cases hz
  |some q=>
   obtain⟨e,t⟩:=q;rw[hx]at hz;refine adZ (N:=N) hcall t4 (ad4 hm hcall t4) lf fd.body code t5 hx ok fun a' w' ρ' ok' far=>?_;cases e with
   |normal=>
    obtain⟨d1,v,d2,d3⟩:=fin ok' far hz;exact⟨d1,v,d2,d3⟩
   |ret=>
    obtain⟨d1,v,d2,d3⟩:=fin ok' far hz;exact⟨d1,v,d2,d3⟩
   |exit id=>cases hz
 grind
end
section
variable {w:World} {X:Nat→Prop} {ρ:eZ} {h h':ae}
theorem Ui{a c}{ks}(hz:gW h a=some (c,h',ks)):∀p∈ks,p.2=true:=by
 unfold gW at hz;split at hz
 ·unfold pI at hz;grind
 ·unfold KH ajt at hz;grind
 grind
theorem Qf:∀ {l cs} {h h'} {ks},ke h l=some (cs,h',ks)->∀p∈ks,p.2=true
 |[],cs,h,h',ks,hz=>by grind[ke,Option.some.injEq,Prod.mk.injEq]
 |a::l,cs,h,h',ks,hz=>by
  simp only[ke,aCH]at hz;obtain⟨⟨c,h1,k1⟩,e1,⟨q,h2,k2⟩,e2,e3⟩:=hz;cases e3;intro p hp;rcases List.mem_append.1 hp with hp|hp
  ·exact Ui e1 p hp
  ·exact Qf e2 p hp
theorem ajN{a c}{ks}(hz:yM h a=some (c,h',ks)):∀p∈ks,p.2=true:=by
 unfold yM at hz;split at hz
 ·simp only[aCH]at hz;obtain⟨⟨q,h1,k1⟩,e1,e2⟩:=hz;cases e2;exact Qf e1
 ·exact Ui hz
theorem agp{ks:K}(hk:∀p∈ks,p.2=true)(id):kq ks id none=false:=by
 grind[kq,List.any_eq_false]
theorem RV.clo{w'}{A A'}{ρ'}{l}{c}{u}(hv:RV w A ρ h c u)(hA:∀b,A b->A' b/\w'.heap[b]?=w.heap[b]?)(hk:∀id,cV h id none->cV h' id none/\ρ' id none=ρ id none)(hm:bo l c=true):RV w' A' ρ' h' c u:=by
 have leaf:∀ {c} {u},RV w A ρ h c u->bw l c=true->RV w' A' ρ' h' c u:=by
  intro c u hv hm;cases hv with
  |anyv u=>exact .anyv u
  |und=>exact .und
  |dat hd=>exact .dat (hd.mono hA)
  |ref id sub k i j hp=>
   cases sub with
   |some p=>simp[bw]at hm
   |none=>
    obtain⟨h1,h2⟩:=hk id hp;rw[←h2];exact .ref id none k i j h1
  |rsl id sub k lo n cap a hp hn hb ha=>
   cases sub with
   |some p=>simp[bw]at hm
   |none=>
    obtain⟨h1,h2⟩:=hk id hp;exact .rsl id none k lo n cap a h1 hn γ γ
  |rsc id k lo n cap a hp hn hb ha=>simp[bw]at hm
  |ipt cs ad vals hA' hs hv hl hr=>
   exact .ipt cs ad vals (hA _ hA').1 hs (fun j c hc=>by rw[rg (w:=w) (w':=w') (by rw[qZ];grind)];grind) hl (fun j c hc=>(hr j c hc).mono hA)
  |agg cs us hs h1 hr=>simp[bw]at hm
  |tup vs us hs hr=>simp[bw]at hm
  |fn f x y us ts hs ht hx hy=>
   simp[bw]at hm;obtain⟨rfl,rfl⟩:=hm;exact .fn f [] [] us ts hs ht (fun i c u hc=>by grind) (fun i c u hc=>by grind)
 cases c with
 |agg cs=>
  simp only[bo,aC5]at hm;obtain⟨us,rfl,hs,h1,hr⟩:=hv.agg_inv;exact .agg cs us hs h1 fun i c u hc hu=>leaf (hr i c u hc hu) (hm c (List.mem_of_getElem? hc))
 |fn f x y=>
  simp only[bo,aCK,aC5]at hm;obtain⟨us,ts,rfl,hs,ht,hx,hy⟩:=hv.fn_inv;exact .fn f x y us ts hs ht (fun i c u hc hu=>leaf (hx i c u hc hu) (hm.1 c (List.mem_of_getElem? hc))) (fun i c u hc hu=>leaf (hy i c u hc hu) (hm.2 c (List.mem_of_getElem? hc)))
 |_=>exact leaf hv hm
structure Way (w:World) (X:Nat->Prop) (ρ:eZ) (h0 h:ae):Prop where
 evo:∃ks:K,Evo w ρ h0 w ρ h ks/\∀p∈ks,p.2=true
theorem Way.refl:Way w X ρ h h:=⟨[],.refl _ _ _,by simp⟩
theorem Way.trans{h1 h2}(a:Way w X ρ h h1)(b:Way w X ρ h1 h2):Way w X ρ h h2:=by
 obtain⟨k1,e1,f1⟩:=a.evo;obtain⟨k2,e2,f2⟩:=b.evo;exact⟨k1++k2,e1.trans e2,fun p hp=>by grind⟩
theorem Way.al{h0}(a:Way w X ρ h0 h):∀b,aQ w X h0 ρ b->aQ w X h ρ b:=by
 obtain⟨k1,e1,_⟩:=a.evo;exact fun b hb=>(e1.al hb).1
theorem aau{h0}{m}{a z}{u}{ks}(r:Rel w X ρ h)(wy:Way w X ρ h0 h)(hv:RV w (aQ w X h0 ρ) ρ h0 a u)(hz:ef h m a=some (z,h',ks)):
  Rel w X ρ h'/\Evo w ρ h w ρ h' ks/\(∀p∈ks,p.2=true)/\∃h1,Way w X ρ h1 h'/\RV w (aQ w X h1 ρ) ρ h1 z u:=by
 have same:some (a,h,[])=some (z,h',ks)->Rel w X ρ h'/\Evo w ρ h w ρ h' ks/\(∀p∈ks,p.2=true)/\∃h1,Way w X ρ h1 h'/\RV w (aQ w X h1 ρ) ρ h1 z u:=by
  intro e;cases e;exact⟨r,.refl _ _ _,by simp,h0,wy,hv⟩
 have data:yM h a=some (z,h',ks)->((∀cs,a≠ .agg cs)->u.oneCell'=true)->Rel w X ρ h'/\Evo w ρ h w ρ h' ks/\(∀p∈ks,p.2=true)/\∃h1,Way w X ρ h1 h'/\RV w (aQ w X h1 ρ) ρ h1 z u:=by
  intro hz h1;obtain⟨g1,g2,g3,g4⟩:=af4 r hv wy.al hz h1;exact⟨g1,g2,ajN hz,h',.refl,.dat g3⟩
 cases a with
 |any=>
  grind[ef,yM,gW,aJ]
 |rsl id sub k lo n=>
  obtain⟨ad,cap,rfl,_⟩:=hv.rsl_inv;cases sub with
  |none=>
   simp only[ef]at hz;split at hz
   ·exact data hz fun _=>rfl
   grind
  |some p=>exact data hz fun _=>rfl
 |ref id sub k i j=>
  cases sub with
  |none=>exact same hz
  |some p=>grind[ef,yM,gW,aJ]
 |ipt cs=>exact same hz
 |fn f x y=>exact same hz
 |agg cs=>exact data hz fun hh=>absurd rfl (hh cs)
 |v x=>exact data hz fun _=>by obtain⟨rfl,hp⟩:=hv.v_inv;exact I1 hp
 |emp=>
  refine data hz fun _=>?_;cases hv with
  |dat hd=>exact hd.one rfl
 |sl k rows=>
  refine data hz fun _=>?_;cases hv with
  |dat hd=>exact hd.one rfl
 |_=>simp[ef,yM,gW,aJ]at hz
theorem K4{h0}:∀l ms (vals:List Value) {h h'} {zs} {ks},Rel w X ρ h->Way w X ρ h0 h->vals.length=l.length->
  (∀ (i:Nat) c u,l[i]?=some c->vals[i]?=some u->RV w (aQ w X h0 ρ) ρ h0 c u)->cu h ms l=some (zs,h',ks)->
  Rel w X ρ h'/\Evo w ρ h w ρ h' ks/\(∀p∈ks,p.2=true)/\zs.length=l.length/\∀ (i:Nat) z u,zs[i]?=some z->vals[i]?=some u->∃h1,Way w X ρ h1 h'/\RV w (aQ w X h1 ρ) ρ h1 z u
 |[],ms,vals,h,h',zs,ks,r,wy,hl,hv,hz=>by
  obtain⟨rfl,rfl,rfl⟩:=hz;exact⟨r,.refl _ _ _,by simp,rfl,fun i z u h1=>by grind⟩
 |a::l,ms,vals,h,h',zs,ks,r,wy,hl,hv,hz=>by
  simp only[cu,aCH]at hz;obtain⟨⟨z,h1,k1⟩,e1,⟨q,h2,k2⟩,e2,e3⟩:=hz;cases e3;cases vals with
  |nil=>grind
  |cons u vals=>
   obtain⟨g1,g2,g3,h3,g4,g5⟩:=aau r wy (hv 0 a u rfl rfl) e1;obtain⟨f1,f2,f3,f4,f5⟩:=K4 l ms.tail vals g1 (wy.trans ⟨k1,g2,g3⟩) γ (fun i c u' h4 h5=>hv (i+1) c u' γ γ) e2;refine⟨f1,g2.trans f2,fun p hp=>?_,by grind,fun i z' u' h4 h5=>?_⟩
   ·grind
   ·cases i with
    |zero=>
     simp at h4 h5;subst h4 h5;exact⟨h3,g4.trans ⟨k2,f2,f3⟩,g5⟩
    |succ i=>grind
theorem agq{L}{h1}{z}{u}(wy:Way w X ρ h1 h)(hv:RV w (aQ w X h1 ρ) ρ h1 z u)(hc:bo L z=true):RV w (aQ w X h ρ) ρ h z u:=by
 obtain⟨ks,e,f⟩:=wy.evo;exact hv.clo (fun b hb=>e.al hb) (fun id hp=>e.keep id none hp (agp f id)) hc
theorem K5(r:Rel w X ρ h){b}(ho:uS h ρ b):b<w.heap.size:=by
 obtain⟨id,sub,hl,rfl⟩:=ho;cases sub with
 |none=>
  have ho:=r.ob id;cases e:h id with
  |bx cs=>rw[e]at ho;obtain⟨us,t,g1,_⟩:=ho;grind
  |ar k rows=>rw[e]at ho;obtain⟨us,t,g1,_⟩:=ho;grind
  |_=>simp[live,e]at hl
 |some p=>
  obtain⟨cs,k,rows,e,ec⟩:=hl;have ho:=r.ob id;rw[e]at ho;obtain⟨us,t,g1,g2,g3,g4⟩:=ho;obtain⟨u,_,a',cap,us',t',_,_,_,q4,_⟩:=g4 p _ ec;grind
section
variable {ids:List Nat}
theorem FC{a}(ha:a∈ids):1000<=bu ids a/\bu ids a<1000+ids.length:=by
 grind[bu,List.idxOf_lt_length_of_mem]
theorem DP(hl:ids.length<=1000){a}(ha:a∈ids):eu ids (bu ids a)=a:=by
 have:=FC ha;unfold eu;rw[if_pos ω]
 simp_all[bu,List.idxOf_lt_length_of_mem]
theorem FE(hl:ids.length<=1000)(hnd:ids.Nodup){i}(h1:1000<=i)(h2:i<1000+ids.length):eu ids i∈ids/\bu ids (eu ids i)=i:=by
 have hj:i-1000<ids.length:=ω
 have e:eu ids i=ids[i-1000]:=by
  unfold eu;grind
 grind[bu]
theorem Qg{os}{j}{o}(h:os[j]?=some o):ax os (1000+j)=o:=by
 simp_all[ax,if_pos]
theorem BN{os}{i}(h:i<1000\/1000+os.length<=i):ax os i=.dead:=by
 grind[ax]
theorem Emb.enter(hl:ids.length<=1000)(hnd:ids.Nodup)(hcl:∀a∈ids,aF ids (h a)=true):Emb ids (bu ids) (eu ids) h (ax (ids.map fun a=>eH (bu ids) (h a))):=by
 have at_:∀a∈ids,ax (ids.map fun a=>eH (bu ids) (h a)) (bu ids a)=eH (bu ids) (h a):=fun a ha=>by
  refine Qg ?_;grind
 have low:∀i,ax (ids.map fun a=>eH (bu ids) (h a)) i≠ .dead->1000<=i/\i<1000+ids.length:=fun i hi=>by
  by_cases h1:1000<=i/\i<1000+ids.length
  ·omega
  ·exact absurd (BN γ) hi
 refine⟨fun a ha=>?_,fun i hi=>?_,fun i j hi hj e=>?_⟩
 ·have ha':a∈ids:=γ
  exact⟨DP hl ha',at_ a ha'⟩
 ·obtain⟨h1,h2⟩:=low i hi;obtain⟨h3,h4⟩:=FE hl hnd h1 h2;grind
 ·obtain⟨h1,h2⟩:=low i hi;obtain⟨h3,h4⟩:=low j hj;rw[← (FE hl hnd h1 h2).2,← (FE hl hnd h3 h4).2,e]
end
end
theorem Uj{gv}{id}:∀ {h},(∀p∈gv,p.1≠id)->gP h gv id=h id:=by
 induction gv with
 |nil=>intro h _;rfl
 |cons p l ih=>
  simp_all[gP,aU,Ne.symm]
theorem Xj{gv}{id}:∀ {h},((∃p∈gv,p.1=id)\/h id=.dead)->gP h gv id=.dead:=by
 induction gv with
 |nil=>
  intro h hi;rcases hi with⟨p,hp,_⟩|hi
  ·grind
  ·exact hi
 |cons p l ih=>
  simp only[gP];grind[aC,absurd,upd]
theorem Xk{ids}:∀ {l} {os} {g} {j a:Nat} {o},l.Nodup->l[j]?=some a->os[j]?=some o->eY g ids l os a=eH (eu ids) o
 |[],os,g,j,a,o,_,h1,_=>by grind
 |b::l,[],g,j,a,o,_,_,h2=>by grind
 |b::l,o'::os,g,j,a,o,hnd,h1,h2=>by
  obtain⟨n1,n2⟩:=List.nodup_cons.1 hnd;simp only[eY];cases j with
  |zero=>
   simp at h1 h2;subst h1 h2;rw[AX n1,aC]
  |succ j=>exact Xk n2 (by simpa using h1) (by simpa using h2)
theorem Qh{h}:∀ {m n},cr h n m=true->∀i,n<=i->i<n+m->h i=.dead
 |0,n,_,i,h1,h2=>by omega
 |m+1,n,hf,i,h1,h2=>by
  simp only[cr,aCK]at hf;by_cases e:i=n
  ·grind[bU]
  ·exact Qh hf.2 i ω ω
theorem FF{h}{gv}:∀ {l} {os},dh h gv l os=true->∀ (j a:Nat) o,l[j]?=some a->os[j]?=some o->(bf (h a)=true->bf o=true)/\((∀p∈gv,p.1≠a)->o≠ .dead)
 |[],os,_,j,a,o,h1,_=>by grind
 |b::l,[],_,j,a,o,_,h2=>by grind
 |b::l,o'::os,hs,j,a,o,h1,h2=>by
  simp only[dh,aCK,Bool.or_eq_true,aDJ]at hs;obtain⟨⟨s1,s2⟩,s3⟩:=hs;cases j with
  |zero=>
   refine⟨fun hb=>?_,fun hn e=>?_⟩
   ·grind
   ·grind[bU]
  |succ j=>exact FF s3 j a o (by simpa using h1) (by simpa using h2)
theorem FG{l l'}{c}(hl:∀i,l.contains i=true->l'.contains i=true)(hc:bw l c=true):bw l' c=true:=by
 cases c<;>simp only[bw]at hc⊢ <;>first|exact hc|skip
 all_goals grind
theorem K6{l l'}{c}(hl:∀i,l.contains i=true->l'.contains i=true)(hc:bo l c=true):bo l' c=true:=by
 cases c with
 |agg cs=>
  grind[bo,aC5,FG]
 |fn f x y=>
  simp only[bo,aCK,aC5]at hc⊢;grind[FG]
 |_=>
  simp only[bo]at hc⊢;exact FG hl hc
theorem Xl{l l'}{o}(hl:∀i,l.contains i=true->l'.contains i=true)(hc:aF l o=true):aF l' o=true:=by
 cases o<;>simp only[aF]at hc⊢;simp only[aC5,hF,Bool.or_eq_true]at hc⊢;grind[K6]
theorem Xm{f}{c}(hd:oA c=true):eG f c=c:=by
 cases c<;>simp[oA,bE,aJ]at hd<;>first|rfl|skip
 obtain⟨rfl,rfl⟩:=hd;rfl
theorem Xn{l}{n}{g}{c}(hr:gx l c=true){i}(h:(eJ n g c).2 i≠g i):(∃k rows,(eJ n g c).2 i=.ar k rows)\/∃cs,(eJ n g c).2 i=.bx cs/\cs.all oA=true:=by
 cases c<;>simp only[eJ]at h⊢ <;>first|exact absurd rfl h|skip
 case osl k rows=>
  simp_all[upd,if_neg,absurd]
 case obx cs=>
  unfold upd at h⊢;split
  ·exact .inr ⟨_,rfl,hr⟩
  grind
theorem Xo{l}{i}:∀ {vs} {n} {g},vs.all (gx l)=true->(dp n g vs).2 i≠g i->(∃k rows,(dp n g vs).2 i=.ar k rows)\/∃cs,(dp n g vs).2 i=.bx cs/\cs.all oA=true
 |[],n,g,_,h=>absurd rfl h
 |c::vs,n,g,hr,h=>by
  simp only[aDb,aCK]at hr;simp only[dp]at h⊢;by_cases e:(dp (n+1) (eJ n g c).2 vs).2 i=(eJ n g c).2 i
  ·rw[e]at h⊢;exact Xn hr.1 h
  ·exact Xo hr.2 e
theorem amS{l}{n}{g}{c}(hr:kr l c=true){i}(h:(mat n g c).2 i≠g i):(∃k rows,(mat n g c).2 i=.ar k rows)\/∃cs,(mat n g c).2 i=.bx cs/\cs.all oA=true:=by
 cases c<;>simp only[mat]at h⊢ <;>simp only[kr]at hr<;>first|exact Xo hr h|exact Xn hr h
theorem NR{l l'}{n}{g}{c}(hr:gx l c=true)(hl:∀i,l.contains i=true->l'.contains i=true)(hn:l'.contains n=true):bo l' (eJ n g c).1=true:=by
 cases c<;>simp only[eJ]<;>simp only[gx]at hr<;>first|exact K6 hl hr| (simp only[bo,bw,hn];rfl)
theorem NS{l l'}(hl:∀i,l.contains i=true->l'.contains i=true):∀ {vs} {n} {g},vs.all (gx l)=true->(∀i,n<=i->i<n+vs.length->l'.contains i=true)->∀z∈ (dp n g vs).1,bo l' z=true
 |[],n,g,_,_,z,hz=>by grind[dp]
 |c::vs,n,g,hr,hn,z,hz=>by
  simp only[aDb,aCK]at hr;simp only[dp,List.mem_cons]at hz;rcases hz with rfl|hz
  ·exact NR hr.1 hl (hn n (aCJ _) σ)
  ·exact NS hl hr.2 (fun i h1 h2=>hn i ω (by simp at h2⊢;omega)) z hz
def ad6(l:List Nat):AV->Prop
 | .tup vs=>∀c∈vs,bo l c=true
 |c=>bo l c=true
theorem ad7{l l'}{n}{g}{c}(hr:gx l c=true)(hl:∀i,l.contains i=true->l'.contains i=true)(hn:l'.contains n=true):ad6 l' (eJ n g c).1:=by
 have:=NR (n:=n) (g:=g) hr hl hn;cases hq:(eJ n g c).1<;>rw[hq]at this<;>first|exact this|simp[bo,bw]at this
theorem ags{l l'}{n}{g}{c}(hr:kr l c=true)(hl:∀i,l.contains i=true->l'.contains i=true)(hn:∀i,n<=i->i<n+cJ c->l'.contains i=true):ad6 l' (mat n g c).1:=by
 cases c with
 |tup vs=>
  exact NS hl hr hn
 |_=>exact ad7 hr hl (hn n (aCJ _) (by simp[cJ]))
section
variable {w:World} {X:Nat→Prop} {ρ:eZ} {hc:ae} {ids:List Nat}
def NT(X:Nat->Prop)(hc:ae)(ρ:eZ)(ids:List Nat)(b:Nat):Prop:=
 X b\/(uS hc ρ b/\¬uS (ax (ids.map fun a=>eH (bu ids) (hc a))) (fun i s=>ρ (eu ids i) s) b)
theorem agt(r:Rel w X ρ hc)(hl:ids.length<=1000)(hnd:ids.Nodup)(hcl:∀a∈ids,aF ids (hc a)=true):
  Rel w (NT X hc ρ ids) (fun i s=>ρ (eu ids i) s) (ax (ids.map fun a=>eH (bu ids) (hc a)))/\
  (∀b,aQ w X hc ρ b->aQ w (NT X hc ρ ids) (ax (ids.map fun a=>eH (bu ids) (hc a))) (fun i s=>ρ (eu ids i) s) b):=by
 have em:=Emb.enter (h:=hc) hl hnd hcl;have hA:∀b,aQ w X hc ρ b->aQ w (NT X hc ρ ids) (ax (ids.map fun a=>eH (bu ids) (hc a))) (fun i s=>ρ (eu ids i) s) b:=fun b hb=>
  ⟨hb.1,fun hx=>by rcases hx with hx| ⟨hx,_⟩;exact hb.2.1 hx;exact hb.2.2 hx,fun⟨i,s,h1,h2⟩=>hb.2.2 ⟨_,s,(em.live h1).1,h2⟩⟩
 exact⟨Rel.emb em r (fun b hb=>by rcases hb with(hb| ⟨hb,_⟩)|hb;exact r.xl b (.inl hb);exact K5 r hb;exact r.xl b (.inr hb)) (fun i s hl hx=>by
  rcases hx with(hx| ⟨_,hx⟩)|hx
  ·exact r.nx _ _ (em.live hl).1 (.inl hx)
  ·exact hx ⟨i,s,hl,rfl⟩
  ·exact r.nx _ _ (em.live hl).1 (.inr hx)) hA,hA⟩
theorem K7(hl:ids.length<=1000)(hnd:ids.Nodup)(hcl:∀a∈ids,aF ids (hc a)=true){b}(ho:uS (ax (ids.map fun a=>eH (bu ids) (hc a))) (fun i s=>ρ (eu ids i) s) b):
  ∃id sub,id∈ids/\live hc id sub/\(ρ id sub).1=b:=by
 obtain⟨i,s,h1,h2⟩:=ho;obtain⟨h3,h4⟩:=(Emb.enter (h:=hc) hl hnd hcl).live h1;grind[absurd,BN,FE]
theorem ad8{w'}{ρ'}{kp}{d}{gv ks0 ks}{res}{os}{z}{h'}{v}(r:Rel w X ρ hc)(hnd:ids.Nodup)(hcl:∀a∈ids,aF ids (hc a)=true)(hdead:∀a∈ids,hc a≠ .dead)(gvflag:∀p∈gv,p.2=false)
  (hz:fE kp hc d ids ks0 gv (res,os)=some (z,h',ks)) (r':Rel w' (NT X hc ρ ids) ρ' (mat (2000+8*d) (ax os) res).2)
  (far:Far kp w (fun i s=>ρ (eu ids i) s) (ax (ids.map fun a=>eH (bu ids) (hc a))) w' ρ' (mat (2000+8*d) (ax os) res).2)
  (hv:RV w' (aQ w' (NT X hc ρ ids) (mat (2000+8*d) (ax os) res).2 ρ') ρ' (mat (2000+8*d) (ax os) res).2 (mat (2000+8*d) (ax os) res).1 v):
  ∃ρ3 k1,ks=ks0++k1/\Rel w' X ρ3 h'/\Evo w ρ hc w' ρ3 h' k1/\RV w' (aQ w' X h' ρ3) ρ3 h' z v:=by
 unfold fE at hz;split at hz
 ·rename_i hcond;obtain⟨c1,hl,c2,c3,c4,c5⟩:=hcond;simp only at c1 c2 c4;simp only[Option.some.injEq,Prod.mk.injEq]at hz;obtain⟨rfl,rfl,rfl⟩:=hz;simp only[oB,aCK]at c5;obtain⟨c5,c6,c7⟩:=c5;generalize hn:2000+8*d=n at*
  have n2:=ω
  have em:=Emb.enter (h:=hc) hl hnd hcl;have gdead:=Qh c3;have gids:=fun i h1 h2 hi=>hdead i hi (gdead i h1 h2);have oget:∀a∈ids,os[ids.idxOf a]?=some (ax os (bu ids a)):=fun a ha=>by
   simp_all[List.idxOf_lt_length_of_mem,bu,congrArg,Qg]
  have hm_ids:∀a∈ids,(mat n (ax os) res).2 (bu ids a)=ax os (bu ids a):=fun a ha=>CQ (by grind[FC]);have hm_out:∀i,¬ (1000<=i/\i<1000+ids.length)->¬ (n<=i/\i<n+cJ res)->(mat n (ax os) res).2 i=.dead:=fun i h1 h2=>by
   grind[CQ,BN]
  have w_ids:∀a∈ids,eY hc ids ids os a=eH (eu ids) (ax os (bu ids a)):=fun a ha=>Xk hnd (by
   grind) (oget a ha)
  have h_grp:∀i,n<=i->i<n+cJ res->(mat n (gP (eY hc ids ids os) gv) res).2 i=(mat n (ax os) res).2 i:=fun i h1 h2=>agk (by
   grind[Xj,AX,BN])
  have h_ids:∀a∈ids,(∀p∈gv,p.1≠a)->(mat n (gP (eY hc ids ids os) gv) res).2 a=eH (eu ids) ((mat n (ax os) res).2 (bu ids a)):=fun a ha hg=>by
   rw[CQ (fun hh=>gids a hh.1 hh.2 ha),Uj hg,w_ids a ha,hm_ids a ha]
  have h_gv:∀a,¬ (n<=a/\a<n+cJ res)->(∃p∈gv,p.1=a)->(mat n (gP (eY hc ids ids os) gv) res).2 a=.dead:=fun a h1 hg=>by
   rw[CQ ω,Xj (.inl hg)]
  have h_out:∀a,a∉ids->¬ (n<=a/\a<n+cJ res)->(∀p∈gv,p.1≠a)->(mat n (gP (eY hc ids ids os) gv) res).2 a=hc a:=fun a h1 h2 hg=>by
   rw[CQ ω,Uj hg,AX h1]
  generalize hh':(mat n (gP (eY hc ids ids os) gv) res).2=h' at*
  have hzr':(mat n (ax os) res).1=(mat n (gP (eY hc ids ids os) gv) res).1:=abr _ _ _ _;generalize(mat n (gP (eY hc ids ids os) gv) res).1=zr at*
  have grp_obj:∀i,n<=i->i<n+cJ res->(mat n (ax os) res).2 i≠ .dead->(∃k rows,(mat n (ax os) res).2 i=.ar k rows)\/∃cs,(mat n (ax os) res).2 i=.bx cs/\cs.all oA=true:=fun i h1 h2 hd=>
   amS c6 (by grind[BN])
  rw[hzr']at hv;have zcl:∀ {l':List Nat},(∀i,(GG ids gv).contains i=true->l'.contains i=true)->(∀i,n<=i->i<n+cJ res->l'.contains i=true)->ad6 l' zr:=fun{l'} hl1 hl2=>hzr'▸ags c6 hl1 hl2;generalize hhm:(mat n (ax os) res).2=hm at*
  have ok_spec:∀i,(GG ids gv).contains i=true->1000<=i/\i<1000+ids.length/\∀p∈gv,p.1≠eu ids i:=fun i hi=>by
   unfold GG at hi;split at hi
   all_goals simp_all[List.contains_eq_mem,List.mem_filter,decide_eq_true_eq,aDJ,List.any_eq_false,beq_iff_eq,dD]
  let L3:=GG ids gv++List.range' n (cJ res)
  have l3a:∀i,(GG ids gv).contains i=true->L3.contains i=true:=fun i hi=>by
   grind
  have l3b:∀i,n<=i->i<n+cJ res->L3.contains i=true:=fun i h1 h2=>by
   grind
  let Cal:=fun i=>(i∈ids/\∀p∈gv,p.1≠i)\/(n<=i/\i<n+cJ res)
  let nm:Nat->Nat:=fun i=>if i∈ids then bu ids i else i
  let h3:ae:=fun i=>open Classical in if Cal i then h' i else .dead
  have h3c:∀i,Cal i->h3 i=h' i:=fun i hi=>by grind
  have h3n:∀i,h3 i≠ .dead->Cal i:=fun i hi=>by
   grind
  have nmi:∀i∈ids,nm i=bu ids i:=fun i hi=>by grind
  have nmg:∀i,n<=i->i<n+cJ res->nm i=i:=fun i h1 h2=>by grind
  have em3:Emb L3 (eu ids) nm hm h3:=by
   refine⟨fun i hi=>?_,fun i hi=>?_,fun i j hi hj e=>?_⟩
   ·simp only[L3,List.contains_eq_mem,aEj,decide_eq_true_eq,List.mem_range'_1]at hi;rcases hi with hi|hi
    ·grind[FE]
    ·have e1:eu ids i=i:=by unfold eu;rw[if_neg ω]
     rw[e1];refine⟨nmg i hi.1 hi.2,?_⟩;rw[h3c _ (.inr hi),h_grp i hi.1 hi.2];by_cases hd:hm i=.dead
     ·rw[hd];rfl
     ·rcases grp_obj i hi.1 hi.2 hd with⟨k,rows,e2⟩| ⟨cs,e2,e3⟩
      ·rw[e2];rfl
      ·rw[e2];simp only[eH,Ob.bx.injEq];exact((aDk (g:=fun c=>c) fun c hc=>Xm (List.all_eq_true.1 e3 c hc)).trans (aDu cs)).symm
   ·rcases h3n i hi with⟨q1,q2⟩| ⟨q1,q2⟩
    ·rw[h3c _ (.inl ⟨q1,q2⟩),nmi i q1];refine⟨h_ids i q1 q2,?_⟩;rw[hm_ids i q1];exact Xl l3a (List.all_eq_true.1 c7 _ (List.mem_of_getElem? (oget i q1)))
    ·rw[nmg i q1 q2];have hd:hm i≠ .dead:=by rw[h3c _ (.inr ⟨q1,q2⟩),h_grp i q1 q2]at hi;exact hi
     rw[h3c _ (.inr ⟨q1,q2⟩),h_grp i q1 q2];rcases grp_obj i q1 q2 hd with⟨k,rows,e2⟩| ⟨cs,e2,e3⟩
     ·rw[e2];exact⟨rfl,rfl⟩
     ·rw[e2];refine⟨?_,?_⟩
      ·simp only[eH,Ob.bx.injEq];exact((aDk (g:=fun c=>c) fun c hc=>Xm (List.all_eq_true.1 e3 c hc)).trans (aDu cs)).symm
      ·simp only[aF,aC5];exact fun c hc=>NP (List.all_eq_true.1 e3 c hc)
   ·rcases h3n i hi with⟨q1,q2⟩| ⟨q1,q2⟩<;>rcases h3n j hj with⟨q3,q4⟩| ⟨q3,q4⟩
    ·rw[nmi i q1,nmi j q3]at e;rw[←DP hl q1,←DP hl q3,e]
    ·rw[nmi i q1,nmg j q3 q4]at e;have:=FC q1;omega
    ·rw[nmg i q1 q2,nmi j q3]at e;have:=FC q3;omega
    ·rwa[nmg i q1 q2,nmg j q3 q4]at e
  have own3:∀ {b},uS h3 (fun i s=>ρ' (nm i) s) b->uS hm ρ' b:=fun⟨i,s,h1,h2⟩=>⟨nm i,s,(em3.live h1).1,h2⟩;have r3:Rel w' (NT X hc ρ ids) (fun i s=>ρ' (nm i) s) h3:=Rel.emb em3 r' r'.xl (fun i s hl=>r'.nx _ _ (em3.live hl).1) fun b hb=>⟨hb.1,hb.2.1,fun ho=>hb.2.2 (own3 ho)⟩
  let ρ3:eZ:=fun i s=>open Classical in if Cal i then ρ' (nm i) s else ρ i s
  have r3c:∀i,Cal i->∀s,ρ3 i s=ρ' (nm i) s:=fun i hi s=>by simp only[ρ3,if_pos hi]
  have r3n:∀i,¬Cal i->∀s,ρ3 i s=ρ i s:=fun i hi s=>by simp only[ρ3,if_neg hi]
  have rest:∀i,¬Cal i->h' i≠ .dead->i∉ids/\h' i=hc i:=fun i hi hd=>by
   have h1:¬ (n<=i/\i<n+cJ res):=fun hh=>hi (.inr hh);have h2:∀p∈gv,p.1≠i:=fun p hp e=>hd (h_gv i h1 ⟨p,hp,e⟩);have h4:i∉ids:=fun hh=>hi (.inl ⟨hh,h2⟩);exact⟨h4,h_out i h4 h1 h2⟩
  have xin:∀ {i s},i∉ids->live hc i s->¬uS (ax (ids.map fun a=>eH (bu ids) (hc a))) (fun i s=>ρ (eu ids i) s) (ρ i s).1:=fun{i s} hi hl' ho=>by
   obtain⟨id,sub,q1,q2,q3⟩:=K7 hl hnd hcl ho;obtain⟨e,_⟩:=r.inj _ _ _ _ q2 hl' q3;exact hi (e▸q1)
  have lcal:∀ {i s},live h' i s->Cal i->live h3 i s:=fun{i s} hl' hC=>(dS (h3c i hC)).2 hl';have lrest:∀ {i s},live h' i s->¬Cal i->i∉ids/\live hc i s:=fun{i s} hl' hC=>by
   have hd:h' i≠ .dead:=by
    cases s with
    |none=>intro e;simp[live,e]at hl'
    |some p=>obtain⟨_,_,_,e,_⟩:=hl';rw[e];simp
   obtain⟨h1,h2⟩:=rest i hC hd;exact⟨h1,(dS h2).1 hl'⟩
  have fr3:∀ {b},uS hm ρ' b->uS (ax (ids.map fun a=>eH (bu ids) (hc a))) (fun i s=>ρ (eu ids i) s) b\/w.heap.size<=b:=fun ho=>far.fresh _ ho;have parts:∀ {i s j t},live h3 i s->j∉ids->live hc j t->(ρ' (nm i) s).1≠ (ρ j t).1:=fun{i s j t} h1 h2 h4 e=>by
   rcases fr3 ⟨nm i,s,(em3.live h1).1,e⟩with ho|ho
   ·exact xin h2 h4 ho
   ·have:=K5 r ⟨j,t,h4,rfl⟩;omega
  have ownc:∀ {b},uS h' ρ3 b->uS h3 (fun i s=>ρ' (nm i) s) b\/∃id sub,id∉ids/\live hc id sub/\(ρ id sub).1=b:=fun{b} ⟨i,s,h1,h2⟩=>by
   by_cases hC:Cal i
   ·exact .inl ⟨i,s,lcal h1 hC,by rw[←h2,r3c i hC]⟩
   ·obtain⟨h4,h5⟩:=lrest h1 hC;exact .inr ⟨i,s,h4,h5,by rw[←h2,r3n i hC]⟩
  have hA3:∀b,aQ w' (NT X hc ρ ids) h3 (fun i s=>ρ' (nm i) s) b->aQ w' X h' ρ3 b:=fun b hb=>⟨hb.1,fun hx=>hb.2.1 (.inl hx),fun ho=>by
   rcases ownc ho with ho| ⟨i,s,h1,h2,rfl⟩
   ·exact hb.2.2 ho
   ·exact hb.2.1 (.inr ⟨⟨i,s,h2,rfl⟩,xin h1 h2⟩)⟩
  have noE:∀ {b},¬uS hc ρ b->¬uS (ax (ids.map fun a=>eH (bu ids) (hc a))) (fun i s=>ρ (eu ids i) s) b:=fun{b} hb ho=>by
   obtain⟨id,sub,_,q2,q3⟩:=K7 hl hnd hcl ho;exact hb ⟨id,sub,q2,q3⟩
  have hAc:∀b,aQ w X hc ρ b->aQ w' X h' ρ3 b/\w'.heap[b]?=w.heap[b]?:=fun b hb=>by
   refine⟨⟨aDF hb.1 far.size,hb.2.1,fun ho=>?_⟩,far.old b hb.1 (noE hb.2.2)⟩;rcases ownc ho with ho| ⟨i,s,h1,h2,rfl⟩
   ·rcases fr3 (own3 ho)with ho|ho
    ·exact noE hb.2.2 ho
    ·have:=hb.1;omega
   ·exact hb.2.2 ⟨i,s,h2,rfl⟩
  have pas:∀a∈ids,bt (bu ids a)=true:=fun a ha=>by
   have:=FC ha;simp only[bt,decide_eq_true_eq];omega
  have stayI:∀a∈ids,(∀p∈gv,p.1≠a)->h' a≠ .dead/\ρ3 a none=ρ a none/\hm (bu ids a)≠ .dead:=fun a ha hg=>by
   have h1:=(FF c4 _ a _ (by have h1:=List.idxOf_lt_length_of_mem ha;rw[List.getElem?_eq_getElem h1];simp) (oget a ha)).2 hg;have h2:hm (bu ids a)≠ .dead:=by rw[hm_ids a ha];exact h1
   refine⟨by rw[h_ids a ha hg,ne_eq,KW];exact h2,?_,h2⟩;rw[r3c a (.inl ⟨ha,hg⟩),nmi a ha,(far.stay _ (pas a ha) h2).2,DP hl ha]
  have bfB:∀id,bf (hc id)=true->bf (h' id)=true/\ρ3 id none=ρ id none:=fun id hb=>by
   have h1:¬ (n<=id/\id<n+cJ res):=fun hh=>by rw[gdead id hh.1 hh.2]at hb;cases hb
   have h2:∀p∈gv,p.1≠id:=fun p hp e=>by
    have:=List.all_eq_true.1 c5 p hp;rw[e,hb]at this;cases this
   by_cases hi:id∈ids
   ·have h4:=(FF c4 _ id _ (by have h1:=List.idxOf_lt_length_of_mem hi;rw[List.getElem?_eq_getElem h1];simp) (oget id hi)).1 hb;exact⟨by rw[h_ids id hi h2,abo,hm_ids id hi];exact h4,(stayI id hi h2).2.1⟩
   ·exact⟨by rw[h_out id hi h1 h2];exact hb,r3n id (fun hC=>by rcases hC with hC|hC;exact hi hC.1;exact h1 hC) none⟩
  have rel:Rel w' X ρ3 h':=by
   refine⟨fun i s j t h1 h2 e=>?_,fun i s h1 hx=>?_,fun id=>?_,fun b hb=>aDF (r.xl b hb) far.size⟩
   ·by_cases hi:Cal i<;>by_cases hj:Cal j
    ·rw[r3c i hi,r3c j hj]at e;exact r3.inj _ _ _ _ (lcal h1 hi) (lcal h2 hj) e
    ·rw[r3c i hi,r3n j hj]at e;obtain⟨q1,q2⟩:=lrest h2 hj;exact absurd e (parts (lcal h1 hi) q1 q2)
    ·rw[r3n i hi,r3c j hj]at e;obtain⟨q1,q2⟩:=lrest h1 hi;exact absurd e.symm (parts (lcal h2 hj) q1 q2)
    ·rw[r3n i hi,r3n j hj]at e;exact r.inj _ _ _ _ (lrest h1 hi).2 (lrest h2 hj).2 e
   ·by_cases hi:Cal i
    ·rw[r3c i hi]at hx;exact r3.nx _ _ (lcal h1 hi) (hx.imp .inl id)
    ·rw[r3n i hi]at hx;exact r.nx _ _ (lrest h1 hi).2 hx
   ·by_cases hi:Cal id
    ·have:=(r3.ob id).keep (w':=w') (A':=aQ w' X h' ρ3) (ρ':=ρ3) (h':=h') (fun b hb=>⟨hA3 b hb,rfl⟩) (fun i hb=>by
      have hC:=h3n i (fun e=>by rw[e]at hb;cases hb);rw[h3c i hC]at hb;exact⟨hb,r3c i hC none⟩) (fun s=>r3c id hi s) (fun _ _=>rfl)
     rwa[h3c id hi]at this
    ·by_cases hd:h' id=.dead
     ·rw[hd];trivial
     ·obtain⟨q1,q2⟩:=rest id hi hd;have:=(r.ob id).keep (w':=w') (A':=aQ w' X h' ρ3) (ρ':=ρ3) (h':=h') hAc bfB (fun s=>r3n id hi s) (fun s hl'=>far.old _ (K5 r ⟨id,s,hl',rfl⟩) (xin q1 hl'));rwa[←q2]at this
  have evo:Evo w ρ hc w' ρ3 h' ((if kp then []else ids.map (·,true))++gv):=by
   refine⟨far.os,far.tape,far.output,far.size,fun b hb ho=>far.old b hb (noE ho),fun id sub hp hk=>?_,fun b ho=>?_,bfB,fun id hp hd=>?_⟩
   ·rw[I2,Bool.or_eq_false_iff]at hk;have h2:∀p∈gv,p.1≠id:=fun p hp' e=>by
     have hk2:=hk.2;simp only[kq,List.any_eq_false,aCK,beq_iff_eq,Bool.or_eq_true,aDJ,not_and]at hk2;exact hk2 p hp' e (.inl (gvflag p hp'))
    have hnd':hc id≠ .dead:=by
     cases sub with
     |none=>exact hp
     |some p=>obtain⟨_,_,_,e,_⟩:=hp;rw[e];simp
    have h1:¬ (n<=id/\id<n+cJ res):=fun hh=>hnd' (gdead id hh.1 hh.2);by_cases hi:id∈ids
    ·cases sub with
     |none=>exact⟨(stayI id hi h2).1,(stayI id hi h2).2.1⟩
     |some p=>
      cases kp with
      |false=>
       have hk1:=hk.1;simp only[aDy,if_false,kq,List.any_map,List.any_eq_false,Function.comp,aCK,beq_iff_eq]at hk1;exact absurd ⟨rfl,rfl⟩ (hk1 id hi)
      |true=>
       have hpe:cV (ax (ids.map fun a=>eH (bu ids) (hc a))) (bu ids id) (some p):=by
        obtain⟨cs,k,rows,e1,e2⟩:=hp;have:=(em.back id (by simpa using hi)).2;rw[e1]at this;refine⟨cs.map (eG (bu ids)),k,rows,this,?_⟩;rw[List.getElem?_map,e2];rfl
       obtain⟨q1,q2⟩:=far.keep rfl (bu ids id) p (pas id hi) (stayI id hi h2).2.2 hpe;refine⟨?_,?_⟩
       ·obtain⟨cs,k,rows,e1,e2⟩:=q1;refine⟨cs.map (eG (eu ids)),k,rows,?_,?_⟩
        ·rw[h_ids id hi h2,e1];rfl
        ·rw[List.getElem?_map,e2];rfl
       ·rw[r3c id (.inl ⟨hi,h2⟩),nmi id hi,q2,DP hl hi]
    ·have hC:¬Cal id:=fun hC=>by rcases hC with hC|hC;exact hi hC.1;exact h1 hC
     exact⟨(gQ (h_out id hi h1 h2)).2 hp,r3n id hC sub⟩
   ·rcases ownc ho with ho| ⟨i,s,h1,h2,rfl⟩
    ·rcases fr3 (own3 ho)with ho|ho
     ·obtain⟨id,sub,_,q2,q3⟩:=K7 hl hnd hcl ho;exact .inl ⟨id,sub,q2,q3⟩
     ·exact .inr ho
    ·exact .inl ⟨i,s,h2,rfl⟩
   ·simp only[bt,decide_eq_true_eq]at hp;by_cases hi:id∈ids
    ·refine⟨hdead id hi,?_⟩;by_cases hg:∀p∈gv,p.1≠id
     ·exact(stayI id hi hg).2.1
     ·exfalso;refine hd (h_gv id ω ?_);have:=Classical.not_forall.1 hg;obtain⟨p,hp'⟩:=this;obtain⟨hp1,hp2⟩:=Classical.not_imp.1 hp';exact⟨p,hp1,Classical.not_not.1 hp2⟩
    ·have hC:¬Cal id:=fun hC=>by rcases hC with hC|hC;exact hi hC.1;omega
     obtain⟨_,q2⟩:=rest id hC hd;exact⟨q2▸hd,r3n id hC none⟩
  refine⟨ρ3,_,rfl,rel,evo,?_⟩;have toV:∀ {c:AV} {u:Value},RV w' (aQ w' (NT X hc ρ ids) hm ρ') ρ' hm c u->bo L3 c=true->RV w' (aQ w' X h' ρ3) ρ3 h' (eG (eu ids) c) u:=fun{c u} hv hcl'=>by
   have h1:=hv.embA (A2:=aQ w' (NT X hc ρ ids) h3 (fun i s=>ρ' (nm i) s)) em3 (fun b hb=>⟨hb.1,hb.2.1,fun ho=>hb.2.2 (own3 ho)⟩) hcl';exact h1.keep (fun b hb=>⟨hA3 b hb,rfl⟩) fun i s hp=>by
    have hC:=h3n i (by
     cases s with
     |none=>exact hp
     |some p=>obtain⟨_,_,_,e,_⟩:=hp;rw[e];simp)
    exact⟨(gQ (h3c i hC)).1 hp,r3c i hC s⟩
  have zc:=zcl l3a l3b;cases zr with
  |tup vs=>
   cases hv with
   |dat hd=>cases hd
   |tup _ us hs hr=>
    refine .tup _ us (by simpa using hs) fun i c u hc' hu=>?_;simp only[List.getElem?_map,aCL]at hc';obtain⟨c0,h1,rfl⟩:=hc';exact toV (hr i c0 u h1 hu) (zc c0 (List.mem_of_getElem? h1))
  |_=>exact toV hv zc
 grind
end
theorem Qi:∀ {l} {ms},∀p∈ub ms l,p.2=false
 |[],ms,p,hp=>by grind[ub]
 |a::l,ms,p,hp=>by
  simp only[ub,aEj]at hp;rcases hp with hp|hp
  ·split at hp
   ·simp only[aDz]at hp;obtain⟨i,_,rfl⟩:=hp;rfl
   ·simp at hp
  ·exact Qi p hp
section
variable {P:Program} {I:Inv} {call:jt} {md:Mode}
def ad9(P:Program)(I:Inv)(call:jt)(md:Mode):Prop:=
 ∀ {w} {X} {ρ} {h h'} {d} {f z} {zas} {ks} {uf} {us},d<1000->I.p w X->Rel w X ρ h->RV w (aQ w X h ρ) ρ h f uf->us.size=zas.length->
  (∀ (i:Nat) c u,zas[i]?=some c->us[i]?=some u->RV w (aQ w X h ρ) ρ h c u)->eM call md h d zas f=some (z,h',ks)->
  ∃g first cap,uf=.func (.func g) first cap/\Enters P g (first++us++cap) w fun v w'=>Got w X ρ h w' h' ks z v
theorem aav(hf:∀f,si P I (md.keep f) f (call f)):ad9 P I call md:=by
 intro w X ρ h h' d f z zas ks uf us hd hi r hvf hus hva hz;cases f<;>simp only[eM]at hz<;>try (cases hz;done)
 rename_i fid a b;obtain⟨first,cap,rfl,s1,s2,va,vb⟩:=hvf.fn_inv;refine⟨fid,first,cap,rfl,?_⟩;simp only[aCH]at hz;obtain⟨⟨zs,hc,ks0⟩,e1,e2⟩:=hz;obtain⟨r1,ev1,fl1,ln1,vv⟩:=K4 (h0:=h) (a++zas++b) (md.m fid) (first++us++cap).toList r .refl γ (fun i c u h1 h2=>by
  grind) e1
 have hnd:(cp hc 40 (bN [] (zs.flatMap cH)) 0).Nodup:=NK (Fz List.nodup_nil);generalize cp hc 40 (bN [] (zs.flatMap cH)) 0=ids at*
 unfold kt at e2;split at e2
 ·rename_i hck;simp only[aCK,aC5,aDJ]at hck;obtain⟨k1,k2⟩:=hck;simp only[aCH]at e2;obtain⟨⟨res,os⟩,e3,e4⟩:=e2;have hl:ids.length<=1000:=by
   grind[fE]
  have hcl:=fun a ha=>(k2 a ha).1;have hdead:∀a∈ids,hc a≠ .dead:=fun a ha e=>by
   have:=(k2 a ha).2;rw[e]at this;cases this
  have em:=Emb.enter (h:=hc) hl hnd hcl;obtain⟨rE,hA⟩:=agt r1 hl hnd hcl;have hi1:I.p w (NT X hc ρ ids):=I.more hi fun b hb=>.inl hb;refine(hf fid e3 (n:=2000+8*d) ω hi1 rE (by grind[List.length_map,BM]) fun i c u hc' hu=>?_).mono fun v w' ⟨ρ',q1,q2,q3⟩=>?_
  ·simp only[List.getElem?_map,aCL]at hc';obtain⟨c0,h1,rfl⟩:=hc';obtain⟨c1,h2,h3⟩:=AZ _ _ _ _ h1;obtain⟨h4,wy,hv⟩:=vv i c1 u h2 γ;have hv':RV w (aQ w X h4 ρ) ρ h4 c0 u:=by
    rcases h3 with rfl| ⟨ss,rfl⟩
    ·omega
    ·exact hv.nrmV ss
   have hcc:=k1 c0 (List.mem_of_getElem? h1);exact(agq wy hv' hcc).embA em hA hcc
  ·obtain⟨ρ3,k3,rfl,g1,g2,g3⟩:=ad8 r1 hnd hcl hdead Qi e4 q1 q2 q3;exact⟨ρ3,g1,ev1.trans g2,g3⟩
 grind
theorem K8{w}{X}{ρ}{h}{b}(hb:aQ w X h ρ b):aQ w X (ax []) ρ b:=⟨hb.1,hb.2.1,fun⟨id,sub,hl,_⟩=>by
 have hd:ax [] id=.dead:=by grind[ax]
 cases sub with
 |none=>grind[live]
 |some p=>grind[live]⟩
theorem abv{w}{X}{ρ}{h}(r:Rel w X ρ h){id}{sub}(hl:live h id sub):aQ w X (ax []) ρ (ρ id sub).1:=
 ⟨K5 r ⟨id,sub,hl,rfl⟩,fun hx=>r.nx id sub hl (.inl hx),fun⟨id',sub',hl',_⟩=>by
  have hd:ax [] id'=.dead:=by grind[ax]
  cases sub' with
  |none=>grind[live]
  |some p=>grind[live]⟩
theorem aea{w}{X}{ρ}{h}(r:Rel w X ρ h){a c}{u}(hv:RV w (aQ w X h ρ) ρ h a u)(hz:adm h a=some c):RV w (aQ w X (ax []) ρ) ρ (ax []) c u:=by
 have dd:∀ {a},RD w (aQ w X h ρ) a u->RV w (aQ w X (ax []) ρ) ρ (ax []) a u:=fun hd=>.dat (hd.mono fun b hb=>⟨K8 hb,rfl⟩);cases a<;>simp only[adm]at hz<;>try (cases hz;done)
 case v x=>cases hz;exact .dat (by obtain⟨rfl,hp⟩:=hv.v_inv;exact .v _ hp)
 case emp=>cases hz;obtain⟨a,rfl⟩:=hv.emp_inv;exact .dat (.emp a)
 case sl k rows=>cases hz;exact dd hv.sl_inv
 case rsl id sub k lo n=>
  simp only[aCL]at hz;obtain⟨rs,h1,rfl⟩:=hz;obtain⟨a,cap,rfl,hp,hn,hb,ha⟩:=hv.rsl_inv;cases sub with
  |none=>
   simp only[BA]at h1;have ho:=r.ob id;cases eo:h id with
   |dead=>grind[DI,jU]
   |bx cs=>grind[DI,jU]
   |ar k' rows=>
    rw[eo]at h1 ho;simp only[DI,jU]at h1;split at h1
    ·rename_i hc;obtain⟨rfl,hle⟩:=hc;cases h1;obtain⟨us,t0,g1,g2,g3,g4⟩:=ho;exact .dat (ri g1 (abv r (by grind[live])) (g4.mono fun b hb=>⟨K8 hb,rfl⟩) hle hn ha)
    grind
   |fz k' rows=>
    rw[eo]at h1 ho;simp only[DI,jU]at h1;split at h1
    ·rename_i hc;obtain⟨rfl,hle⟩:=hc;cases h1;obtain⟨ga,us,t0,fr,g1,g2,g3,g4⟩:=ho;exact .dat (ri g1 (K8 ga) (g4.mono fun b hb=>⟨K8 hb,rfl⟩) hle hn ha)
    grind
  |some p=>
   simp only[BA]at h1;cases eo:h id with
   |bx cs=>
    rw[eo]at h1;simp only[lR]at h1;cases ec:cs[p]? with
    |none=>grind[An,jU]
    |some c=>
     rw[ec]at h1;cases c<;>simp[An,jU]at h1;rename_i k' rows;obtain⟨⟨rfl,hle⟩,rfl⟩:=h1;obtain⟨us,t0,g1,g2,g3,g4⟩:=r.cell eo;obtain⟨u,f1,a',cap',us1,t1,q1,q2,q3,q4,q5,q6,q7⟩:=g4 p _ ec;exact .dat (ri q4 (abv r ⟨cs,_,rows,eo,ec⟩) (q7.mono fun b hb=>⟨K8 hb,rfl⟩) hle hn ha)
   |dead=>grind[lR,jU]
   |ar k' rows=>grind[lR,jU]
   |fz k' rows=>grind[lR,jU]
 case fn f x y=>
  cases x with
  |cons a l=>grind
  |nil=>
   cases y with
   |cons a l=>grind
   |nil=>
    simp only[Option.some.injEq]at hz;subst hz;obtain⟨us,ts,rfl,s1,s2,_,_⟩:=hv.fn_inv;exact .fn f [] [] us ts s1 s2 (fun i c u hc=>by grind) (fun i c u hc=>by grind)
theorem Qj{w}{X}{ρ}{h}(r:Rel w X ρ h):∀l (vals:List Value) {cs},vals.length=l.length->(∀ (i:Nat) c u,l[i]?=some c->vals[i]?=some u->RV w (aQ w X h ρ) ρ h c u)->RZ h l=some cs->
  cs.length=l.length/\∀ (i:Nat) c u,cs[i]?=some c->vals[i]?=some u->RV w (aQ w X (ax []) ρ) ρ (ax []) c u
 |[],vals,cs,hl,hv,hz=>by
  grind[RZ,Option.some.injEq]
 |a::l,[],cs,hl,hv,hz=>by grind
 |a::l,v::vals,cs,hl,hv,hz=>by
  simp only[RZ,aCH]at hz;obtain⟨b,e1,q,e2,e3⟩:=hz;cases e3;obtain⟨g1,g2⟩:=Qj r l vals γ (fun i c u hc hu=>hv (i+1) c u γ γ) e2;refine⟨by grind,fun i c u hc hu=>?_⟩;cases i with
  |zero=>simp at hc hu;subst hc hu;exact aea r (hv 0 a v rfl rfl) e1
  |succ i=>grind
theorem aeb{kp}{w w'}{X}{ρ ρ'}{h}(r:Rel w X ρ h)(far:Far kp w ρ (ax []) w' ρ' (ax [])):Rel w' X ρ h/\Evo w ρ h w' ρ h []:=by
 have no:∀b,¬uS (ax []) ρ b:=fun b ⟨id',sub',hl',_⟩=>by
  have hd:ax [] id'=.dead:=by grind[ax]
  cases sub' with
  |none=>grind[live]
  |some p=>grind[live]
 have e:Evo w ρ h w' ρ h []:=⟨far.os,far.tape,far.output,far.size,fun b hb _=>far.old b hb (no b),fun _ _ hp _=>⟨hp,rfl⟩,fun _ ho=>.inl ho,fun _ hb=>⟨hb,rfl⟩,fun _ _ hd=>⟨hd,rfl⟩⟩;exact⟨r.step e (fun _=>False) (fun _ _=>⟨rfl,fun _=>rfl,fun sub hl=>far.old _ (K5 r ⟨_,sub,hl,rfl⟩) (no _)⟩) r.inj r.nx (fun _ hf=>hf.elim),e⟩
theorem aec{c}(hp:BB c=true)(n)(h):eJ n h c=(c,h):=by
 cases c<;>simp[BB]at hp;rfl
theorem Qk:∀ {vs} n h,vs.all BB=true->dp n h vs=(vs,h)
 |[],n,h,_=>rfl
 |a::l,n,h,hp=>by
  simp only[aDb,aCK]at hp;simp only[dp,aec hp.1,Qk (n+1) h hp.2]
theorem agu{c}(hp:KI c=true)(n)(h):mat n h c=(c,h):=by
 cases c<;>simp only[KI]at hp<;>try (simp[BB]at hp;done)
 case v x=>rfl
 grind[mat,Qk]
theorem Uk{w w'}{A A'}{ρ ρ'}{h h'}{c}{u}(hp:BB c=true)(hv:RV w A ρ h c u):RV w' A' ρ' h' c u:=by
 cases c<;>simp[BB]at hp;obtain⟨rfl,hp⟩:=hv.v_inv;exact .dat (.v _ hp)
theorem ajO{w w'}{A A'}{ρ ρ'}{h h'}{c}{u}(hp:KI c=true)(hv:RV w A ρ h c u):RV w' A' ρ' h' c u:=by
 cases c<;>simp only[KI]at hp<;>try (simp[BB]at hp;done)
 case v x=>grind[Uk]
 case tup vs=>
  cases hv with
  |dat hd=>cases hd
  |tup _ us hs hr=>exact .tup vs us hs fun i c u hc hu=>Uk (List.all_eq_true.1 hp c (List.mem_of_getElem? hc)) (hr i c u hc hu)
theorem aed(hf:∀f,si P I (md.keep f) f (call f)):oR P I call md:=by
 intro w X ρ h h' d f z zas ks uf us hd hi r hvf hus hva hz;unfold bF at hz;split at hz
 ·cases f<;>simp only[PV]at hz<;>try (cases hz;done)
  rename_i fid a b _;obtain⟨first,cap,rfl,s1,s2,va,vb⟩:=hvf.fn_inv;refine⟨fid,first,cap,rfl,?_⟩;simp only[aCH]at hz;obtain⟨cs,e1,⟨res,os⟩,e2,e3⟩:=hz;obtain⟨l1,l2⟩:=Qj r (a++zas++b) (first++us++cap).toList γ (fun i c u h1 h2=>by
   grind) e1
  cases os with
  |cons o os=>grind[WD]
  |nil=>
   simp only[WD]at e3;split at e3
   ·rename_i hp;cases e3;have rE:Rel w X ρ (ax []):=by
     have hd:∀id,ax [] id=.dead:=fun id=>by grind[ax]
     have no:∀id sub,¬live (ax []) id sub:=fun id sub hl=>by
      cases sub with
      |none=>grind[live]
      |some p=>grind[live]
     exact⟨fun id sub _ _ h=>(no id sub h).elim,fun id sub h=>(no id sub h).elim,fun id=>by rw[hd];trivial,r.xl⟩
    refine(hf fid e2 (n:=2000) (aCJ _) hi rE (by grind[BM]) fun i c u hc' hu=>?_).mono fun v w' ⟨ρ',q1,q2,q3⟩=>?_
    ·obtain⟨c1,h2,h3⟩:=AZ _ _ _ _ hc';have hv:=l2 i c1 u h2 γ;rcases h3 with rfl| ⟨ss,rfl⟩
     ·omega
     ·exact hv.nrmV ss
    ·rw[agu hp]at q1 q2 q3;obtain⟨g1,g2⟩:=aeb r q2;exact⟨ρ,g1,g2,ajO hp q3⟩
   grind
 ·exact aav hf hd hi r hvf hus hva hz
end
section
variable {P:Program} {I:Inv} {call:jt} {md:Mode}
structure EnvOK (P:Program) (I:Inv) (e:Env):Prop where
 mixed:P.follows .mixedOrders=true
 ext:∀f g,e.E f=some g->si P I (e.md.keep f) f g
 text:∀f fd,e.E f=none->e.C f=some fd->Text P f fd
theorem aee(kp)(f):si P I kp f (fun _ _=>none):=by
 intro args obs obs' res w X ρ vals n hz;grind
theorem agv{e}(he:EnvOK P I e):∀n f,si P I (e.md.keep f) f (gj e n f)
 |0,f=>aee _ f
 |n+1,f=>by
  cases hE:e.E f with
  |some g=>
   have:gj e (n+1) f=g:=by grind[gj]
   rw[this];exact he.ext f g hE
  |none=>
   cases hC:e.C f with
   |none=>
    have:gj e (n+1) f=fun _ _=>none:=by grind[gj]
    grind
   |some fd=>
    have:gj e (n+1) f=CM (gj e n) {e.md with nm:=e.md.keep f} n fd:=by grind[gj]
    rw[this];exact amR (md:={e.md with nm:=e.md.keep f}) he.mixed (aed (md:={e.md with nm:=e.md.keep f}) fun g=>agv he n g) (he.text f fd hE hC)
end
def Ev(p:Nat->Prop):Prop:=∃n,∀k,n<=k->p k
theorem Ev.and{p q}(a:Ev p)(b:Ev q):Ev fun k=>p k/\q k:=by
 obtain⟨n,hn⟩:=a;obtain⟨m,hm⟩:=b;exact⟨max n m,fun k hk=>⟨hn k ω,hm k ω⟩⟩
theorem Ev.mono{p q}(a:Ev p)(h:∀k,p k->q k):Ev q:=by
 obtain⟨n,hn⟩:=a;exact⟨n,fun k hk=>h k (hn k hk)⟩
theorem Ev.all{p}(h:∀k,p k):Ev p:=⟨0,fun k _=>h k⟩
open Classical in
noncomputable def GR (f:Nat->Option α):Option α:=if h:∃a,Ev fun k=>f k=some a then some (Classical.choose h)else none
theorem pM{α}{f}{a:α}:GR f=some a↔Ev fun k=>f k=some a:=by
 unfold GR;constructor
 ·intro h;split at h
  all_goals grind
 ·intro h;have hh:∃a,Ev fun k=>f k=some a:=⟨a,h⟩;obtain⟨n,hn⟩:=Classical.choose_spec hh;obtain⟨m,hm⟩:=h;have h1:=hn (max n m) ω;grind
theorem amT{α}{f g:Nat->Option α}(h:∀a,GR f=some a↔GR g=some a):GR f=GR g:=by
 cases hf:GR f with
 |none=>
  cases hg:GR g with
  |none=>rfl
  |some a=>grind
 |some a=>grind
theorem DQ{α}(a:Option α):GR (fun _=>a)=a:=by
 cases a with
 |none=>
  cases h:GR (fun _:Nat=>none)with
  |none=>rfl
  |some a=>
   obtain⟨n,hn⟩:=pM.1 h;exact absurd (hn n (aCJ _)) σ
 |some a=>exact pM.2 (Ev.all fun _=>rfl)
theorem Xq{α}(f:Nat->Option α):GR (fun n=>f (n+1))=GR f:=amT fun a=>by
 rw[pM,pM];constructor
 ·rintro⟨n,hn⟩
  refine⟨n+1,fun k hk=>?_⟩;have:=hn (k-1) ω;grind
 ·rintro⟨n,hn⟩
  exact⟨n,fun k hk=>hn (k+1) ω⟩
noncomputable def av (body:ap->ae->Option (Ex×St)) (ks hs:List Nat) (s:ap) (h:ae):Option (Ex×St):=GR fun n=>wj body ks hs n s h
def Wg(g:ap->ae->Option (Ex×St)):Option (Ex×St)->Option (Ex×St)
 |some (.normal,t)=>g t.s t.h
 |r=>r
theorem ah(body)(ks hs)(s)(h):
  av body ks hs s h=if(hs.all fun a=>aF hs (h a))=true then Wg (av body ks hs) (body (mk .any (fun i=>iQ hs (s i)) ks) (mk .dead h hs))else none:=by
 unfold av;rw[←Xq];simp only[wj];split
 ·cases hb:body (mk .any (fun i=>iQ hs (s i)) ks) (mk .dead h hs)with
  |none=>exact DQ _
  |some r=>
   obtain⟨e,t⟩:=r;cases e with
   |normal=>rfl
   |exit id=>exact DQ _
   |ret=>exact DQ _
 ·exact DQ _
noncomputable def am (call:jt) (md:Mode):Cmd->ap->ae->Option (Ex×St)
 | .skip,s,h=>some (.normal,⟨s,h⟩)
 | .ops ks l,s,h=>bv (aM call md l s h) fun s h=>some (.normal,⟨mk .any s ks,h⟩)
 | .dops ks l ps,s,h=>bv (ug call md l ps s h) fun s h=>some (.normal,⟨mk .any s ks,h⟩)
 | .seq a b,s,h=>cF (am call md a s h) (am call md b)
 | .cond c a b,s,h=>ui (am call md a s h) (am call md b s h) (ev s c)
 | .block id ks a,s,h=>ak id ks (am call md a s h)
 | .loop ks hs a,s,h=>av (am call md a) ks hs s h
 | .exit id,s,h=>some (.exit id,⟨s,h⟩)
 | .ret,s,h=>some (.ret,⟨s,h⟩)
 | .frz is a,s,h=>bv (CL md.nm is s h) (am call md a)
noncomputable def iw (e:Env):jt:=fun f args hs=>GR fun n=>gj e n f args hs
noncomputable def Xr (call:jt) (md:Mode) (fd:FD) (args:List AV) (hs:List Ob):Option (AV×List Ob):=
 if args.length=fd.np/\hs.length<=1000 then kj md.nm fd.rs fd.res hs.length (am call md fd.body (wk args) (ax hs))else none
section
variable {e:Env} {md:Mode}
theorem agw{h}{d}{zas}{f}{r}(hz:eM (iw e) md h d zas f=some r):Ev fun k=>eM (gj e k) md h d zas f=some r:=by
 cases f<;>simp only[eM]at hz⊢ <;>try (cases hz;done)
 simp only[aCH]at hz⊢;obtain⟨p,e1,e2⟩:=hz;unfold kt at e2⊢;split at e2
 ·simp only[aCH]at e2;obtain⟨q,e3,e4⟩:=e2;refine(pM.1 e3).mono fun k hk=>⟨p,e1,?_⟩;grind
 grind
theorem Xs{h}{d}{zas}{f}{r}(hz:bF (iw e) md h d zas f=some r):Ev fun k=>bF (gj e k) md h d zas f=some r:=by
 unfold bF at hz⊢;by_cases hb:lw md zas f=true
 ·rw[if_pos hb]at hz;simp only[if_pos hb];cases f<;>simp only[PV]at hz⊢ <;>try (cases hz;done)
  simp only[aCH]at hz⊢;obtain⟨p,e1,q,e3,e4⟩:=hz;exact(pM.1 e3).mono fun k hk=>⟨p,e1,q,hk,e4⟩
 simp_all[if_neg,agw]
theorem abw{d}{op}{s}{h}{r}(hz:step (iw e) md d op s h=some r):Ev fun k=>step (gj e k) md d op s h=some r:=by
 cases op with
 |call f zas=>exact Xs hz
 |callC f zas=>
  simp only[step,aCH]at hz⊢;obtain⟨q,e1,e2⟩:=hz;exact(Xs e1).mono fun k hk=>⟨q,hk,e2⟩
 |_=>exact Ev.all fun k=>hz
theorem abx{d}{op}{s}{h}{t}(hz:dY md.nm s d (step (iw e) md (d.getD 0) op s h)=some t):Ev fun k=>dY md.nm s d (step (gj e k) md (d.getD 0) op s h)=some t:=by
 cases hs:step (iw e) md (d.getD 0) op s h with
 |none=>rw[hs]at hz;cases hz
 |some r=>
  exact(abw hs).mono fun k hk=>by grind
theorem ajP{o}{s}{h}{t}(hz:oC (iw e) md o s h=some t):Ev fun k=>oC (gj e k) md o s h=some t:=by
 unfold oC at hz⊢;cases hg:o.g with
 |none=>grind[abx]
 |some g=>
  rw[hg]at hz;simp only at hz⊢;unfold mV at hz⊢;split at hz
  ·split at hz
   all_goals simp_all[if_pos,abx,if_neg,Ev.all]
  all_goals grind[Ev.all]
theorem Jb:∀ {l} {s} {h} {t},aM (iw e) md l s h=some t->Ev fun k=>aM (gj e k) md l s h=some t
 |[],s,h,t,hz=>Ev.all fun k=>hz
 |o::l,s,h,t,hz=>by
  simp only[aM,bv]at hz;split at hz
  ·grind
  ·rename_i t1 ht1;refine((ajP ht1).and (Jb hz)).mono fun k hk=>?_;grind[aM,bv]
theorem Xt{d}{op}{s}{h}{f}{t}(hz:qB s d f (step (iw e) md (d.getD 0) op s h)=some t):Ev fun k=>qB s d f (step (gj e k) md (d.getD 0) op s h)=some t:=by
 cases hs:step (iw e) md (d.getD 0) op s h with
 |none=>rw[hs]at hz;cases hz
 |some r=>
  exact(abw hs).mono fun k hk=>by grind
theorem ajQ{o}{s}{h}{t}(hz:fJ (iw e) md o s h=some t):Ev fun k=>fJ (gj e k) md o s h=some t:=by
 unfold fJ at hz⊢;cases hg:o.g with
 |none=>grind[Xt]
 |some g=>
  rw[hg]at hz;simp only at hz⊢;unfold ue at hz⊢;split at hz
  ·split at hz
   all_goals simp_all[if_pos,Xt,if_neg,Ev.all]
  all_goals grind[Ev.all]
theorem R8:∀ {l} {s} {h} {t},jI (iw e) md l s h=some t->Ev fun k=>jI (gj e k) md l s h=some t
 |[],s,h,t,hz=>Ev.all fun k=>hz
 |o::l,s,h,t,hz=>by
  simp only[jI,aCH]at hz;obtain⟨r,e1,q,e2,e3⟩:=hz;refine((ajQ e1).and (R8 e2)).mono fun k hk=>?_;simp only[jI,hk.1,hk.2,aCN,e3]
theorem ajR{l}{ps}{s}{h}{t}(hz:ug (iw e) md l ps s h=some t):Ev fun k=>ug (gj e k) md l ps s h=some t:=by
 unfold ug at hz⊢;cases hb:Dx ps with
 |none=>
  rw[hb]at hz;simp only[DJ,aCH]at hz;obtain⟨q,e1,e2⟩:=hz;exact(R8 e1).mono fun k hk=>by simp only[DJ,aCN, *]
 |some b=>
  rw[hb]at hz;simp only[IU,aCH]at hz;obtain⟨q,e1,e2⟩:=hz;split at e2
  ·simp only[bv]at e2;split at e2
   ·grind
   ·exact((R8 e1).and (Jb e2)).mono fun k hk=>by simp_all[IU,aCN,if_pos,bv]
  grind
theorem aby{c}{ks hs}(ih:∀ {s} {h} {r},am (iw e) md c s h=some r->Ev fun k=>cU (gj e k) md k c s h=some r):
  ∀m {s} {h} {r},wj (am (iw e) md c) ks hs m s h=some r->∃n,∀k,n<=k->∀j,n<=j->wj (cU (gj e k) md k c) ks hs j s h=some r
 |0,s,h,r,hz=>by grind[wj]
 |m+1,s,h,r,hz=>by
  simp only[wj]at hz;split at hz
  ·rename_i hc;cases hb:am (iw e) md c (mk .any (fun i=>iQ hs (s i)) ks) (mk .dead h hs)with
   |none=>grind
   |some q=>
    rw[hb]at hz;obtain⟨n1,h1⟩:=ih hb;obtain⟨ex,t⟩:=q;cases ex with
    |normal=>
     obtain⟨n2,h2⟩:=aby ih m hz;refine⟨max n1 n2+1,fun k hk j hj=>?_⟩;obtain⟨j,rfl⟩:∃j',j=j'+1:=⟨j-1,by omega⟩;simp only[wj,if_pos hc,h1 k ω];grind
    |exit id=>
     refine⟨n1+1,fun k hk j hj=>?_⟩;obtain⟨j,rfl⟩:∃j',j=j'+1:=⟨j-1,by omega⟩;simp only[wj,if_pos hc,h1 k ω];omega
    |ret=>
     refine⟨n1+1,fun k hk j hj=>?_⟩;obtain⟨j,rfl⟩:∃j',j=j'+1:=⟨j-1,by omega⟩;simp only[wj,if_pos hc,h1 k ω];omega
  grind
theorem nG:∀c {s} {h} {r},am (iw e) md c s h=some r->Ev fun k=>cU (gj e k) md k c s h=some r
 | .skip,s,h,r,hz=>Ev.all fun k=>hz
 | .ops ks l,s,h,r,hz=>by
  simp only[am,bv]at hz;split at hz
  ·grind
  ·rename_i t1 ht1;exact(Jb ht1).mono fun k hk=>by grind[cU,bv]
 | .dops ks l ps,s,h,r,hz=>by
  simp only[am,bv]at hz;split at hz
  ·grind
  ·rename_i t1 ht1;exact(ajR ht1).mono fun k hk=>by grind[cU,bv]
 | .seq a b,s,h,r,hz=>by
  simp only[am,cF]at hz;split at hz
  ·grind
  ·rename_i t1 ht1;exact((nG a ht1).and (nG b hz)).mono fun k hk=>by grind[cU,cF]
  ·rename_i i t1 ht1;exact(nG a ht1).mono fun k hk=>by grind[cU,cF]
  ·rename_i t1 ht1;exact(nG a ht1).mono fun k hk=>by grind[cU,cF]
 | .cond c a b,s,h,r,hz=>by
  simp only[am,ui]at hz;split at hz
  ·rename_i t ht;cases t with
   |true=>simp_all[nG,cU,ui,if_true]
   |false=>simp_all[nG,cU,ui,aDy,if_false]
  grind
 | .block id ks a,s,h,r,hz=>by
  simp only[am,ak]at hz;split at hz
  ·grind
  ·rename_i t1 ht1;exact(nG a ht1).mono fun k hk=>by grind[cU,ak]
  ·rename_i i t1 ht1;exact(nG a ht1).mono fun k hk=>by grind[cU,ak]
  ·rename_i t1 ht1;exact(nG a ht1).mono fun k hk=>by grind[cU,ak]
 | .loop ks hs a,s,h,r,hz=>by
  obtain⟨m,hm⟩:=pM.1 hz;obtain⟨n,hn⟩:=aby (fun hh=>nG a hh) m (hm m (aCJ _));exact⟨n,fun k hk=>by grind[cU]⟩
 | .exit id,s,h,r,hz=>Ev.all fun k=>hz
 | .ret,s,h,r,hz=>Ev.all fun k=>hz
 | .frz is a,s,h,r,hz=>by
  simp only[am,bv]at hz;split at hz
  ·cases hz
  ·rename_i t1 ht1;exact(nG a hz).mono fun k hk=>by simp only[cU,bv, *]
theorem K9{f}{fd}{args}{hs}{r}(hE:e.E f=none)(hC:e.C f=some fd)(hz:Xr (iw e) {e.md with nm:=e.md.keep f} fd args hs=some r):iw e f args hs=some r:=by
 unfold iw;rw[pM];unfold Xr at hz;split at hz
 ·cases hx:am (iw e) {e.md with nm:=e.md.keep f} fd.body (wk args) (ax hs)with
  |none=>rw[hx]at hz;cases hz
  |some q=>
   obtain⟨n,hn⟩:=nG fd.body hx;refine⟨n+1,fun k hk=>?_⟩;obtain⟨k,rfl⟩:∃k',k=k'+1:=⟨k-1,by omega⟩
   simp_all[gj,aCN,CM,if_pos]
 grind
theorem Jc{f}{g}{args}{hs}(hE:e.E f=some g):iw e f args hs=g args hs:=by
 unfold iw;rw[←Xq]
 simp_all[gj,funext,DQ]
theorem abz{P}{I}(he:EnvOK P I e)(f):si P I (e.md.keep f) f (iw e f):=by
 intro args obs obs' res w X ρ vals n hz;obtain⟨m,hm⟩:=pM.1 hz;exact agv he m f (hm m (aCJ _))
end
section
variable {call:jt} {md:Mode} {s:ap} {h:ae}
theorem aAM:am call md .skip s h=some (.normal,⟨s,h⟩):=θ _
theorem aB8(ks l):am call md (.ops ks l) s h=bv (aM call md l s h) fun s h=>some (.normal,⟨mk .any s ks,h⟩):=θ _
theorem aB9(is a):am call md (.frz is a) s h=bv (CL md.nm is s h) (am call md a):=θ _
theorem aAN(ks l ps):am call md (.dops ks l ps) s h=bv (ug call md l ps s h) fun s h=>some (.normal,⟨mk .any s ks,h⟩):=θ _
theorem aef(a b):am call md (.seq a b) s h=cF (am call md a s h) (am call md b):=θ _
theorem aAO(c a b):am call md (.cond c a b) s h=ui (am call md a s h) (am call md b s h) (ev s c):=θ _
theorem ayx(id ks a):am call md (.block id ks a) s h=ak id ks (am call md a s h):=θ _
theorem aAP(ks hs a):am call md (.loop ks hs a) s h=av (am call md a) ks hs s h:=θ _
theorem aAQ(i):am call md (.exit i) s h=some (.exit i,⟨s,h⟩):=θ _
theorem aCa:am call md .ret s h=some (.ret,⟨s,h⟩):=θ _
theorem apP(s h f):cF (some (.normal,⟨s,h⟩)) f=f s h:=θ _
theorem asA(i t f):cF (some (.exit i,t)) f=some (.exit i,t):=θ _
theorem auj(t f):cF (some (.ret,t)) f=some (.ret,t):=θ _
theorem ar6(id ks i t):ak id ks (some (.exit i,t))=if i=id then some (.normal,⟨mk .any t.s ks,t.h⟩)else some (.exit i,t):=θ _
theorem apv(id ks t):ak id ks (some (.normal,t))=some (.normal,⟨mk .any t.s ks,t.h⟩):=θ _
theorem asB(id ks t):ak id ks (some (.ret,t))=some (.ret,t):=θ _
theorem asC(a b):ui a b (.v (.bool true))=a:=θ _
theorem ar7(a b):ui a b (.v (.bool false))=b:=θ _
theorem apQ(g t):Wg g (some (.normal,t))=g t.s t.h:=θ _
theorem asD(g i t):Wg g (some (.exit i,t))=some (.exit i,t):=θ _
theorem auk(g t):Wg g (some (.ret,t))=some (.ret,t):=θ _
theorem asE{β}(s h)(f:ap->ae->Option β):bv (some ⟨s,h⟩) f=f s h:=θ _
theorem aul{β}(c) [Decidable c](x y)(f:ap->ae->Option β):bv (if c then x else y) f=if c then bv x f else bv y f:=by split<;>rfl
theorem aum(c) [Decidable c](x y)(f):cF (if c then x else y) f=if c then cF x f else cF y f:=by split<;>rfl
theorem ayy:aM call md [] s h=some ⟨s,h⟩:=θ _
theorem Ql(d op rest):aM call md (⟨some d,none,.p op⟩::rest) s h=(iZ s op).bind fun a=>aM call md rest (upd s d a) h:=by
 simp only[aM,oC,step,Fq];cases iZ s op with
 |none=>rfl
 |some a=>simp only[aDt,dY,rP,if_true];rfl
def cm(d n:Nat):COp:=⟨some d,none,.p (.mv (.t n))⟩
def co(d:Nat)(op:POp):COp:=⟨some d,none,.p op⟩
def cg(d j:Nat)(w:Bool)(op:POp):COp:=⟨some d,some (j,w),.p op⟩
theorem aAR(d n rest):aM call md (cm d n::rest) s h=aM call md rest (upd s d (s n)) h:=Ql d (.mv (.t n)) rest
theorem aAS(d op rest):aM call md (co d op::rest) s h=(iZ s op).bind fun a=>aM call md rest (upd s d a) h:=Ql d op rest
theorem aAT(d j w op rest):aM call md (cg d j w op::rest) s h=bv (mV (some d) w ((iZ s op).map fun a=>⟨upd s d a,h⟩) s h (s j)) (aM call md rest):=by
 have:dY md.nm s (some d) (step call md d (.p op) s h)=(iZ s op).map fun a=>⟨upd s d a,h⟩:=by
  simp only[step,Fq];cases iZ s op with
  |none=>rfl
  |some a=>simp only[aDt,dY,rP,if_true];rfl
 show bv (mV (some d) w (dY md.nm s (some d) (step call md d (.p op) s h)) s h (s j)) _=_;rw[this]
def b2(d:Nat)(op:BinOp)(a b:Nat):COp:=⟨some d,none,.p (.bin op (.t a) (.t b))⟩
def fa(d k a:Nat):COp:=⟨some d,none,.p (.fadr k (.t a))⟩
def nk(d a:Nat):COp:=⟨some d,none,.p (.nilck (.t a))⟩
def ld(d k a:Nat):COp:=⟨some d,none,.load k false (.t a)⟩
def la(d k a:Nat):COp:=⟨some d,none,.load k true (.t a)⟩
def ca(d f:Nat)(zas:List Opd):COp:=⟨some d,none,.call (.c (.fn f [] [])) zas⟩
def sr(k:Nat)(x y:Opd):COp:=⟨none,none,.store k x y⟩
def al(d:Nat)(z:List AV):COp:=⟨some d,none,.alloc z⟩
def bx(d k:Nat)(x:Opd):COp:=⟨some d,none,.box k x⟩
theorem aAU(d op a b rest):aM call md (b2 d op a b::rest) s h=(eX op (s a) (s b)).bind fun a=>aM call md rest (upd s d a) h:=Ql d (.bin op (.t a) (.t b)) rest
theorem aAV(d k a rest):aM call md (fa d k a::rest) s h=(Dt k (s a)).bind fun a=>aM call md rest (upd s d a) h:=Ql d (.fadr k (.t a)) rest
theorem aAW(d a rest):aM call md (nk d a::rest) s h=(KF (s a)).bind fun a=>aM call md rest (upd s d a) h:=Ql d (.nilck (.t a)) rest
theorem aAX(d k a rest):aM call md (ld d k a::rest) s h=bv (dY md.nm s (some d) (kf h k false (s a))) (aM call md rest):=θ _
theorem aAY(d k a rest):aM call md (la d k a::rest) s h=bv (dY md.nm s (some d) (kf h k true (s a))) (aM call md rest):=θ _
theorem aAZ(d f zas rest):aM call md (ca d f zas::rest) s h=bv (dY md.nm s (some d) (bF call md h d (zas.map (ev s)) (.fn f [] []))) (aM call md rest):=θ _
theorem aA0(k x y rest):aM call md (sr k x y::rest) s h=bv (dY md.nm s none (nN h k (ev s x) (ev s y))) (aM call md rest):=θ _
theorem aA1(d z rest):aM call md (al d z::rest) s h=bv (dY md.nm s (some d) (pJ h d z [])) (aM call md rest):=θ _
theorem aA2(d k x rest):aM call md (bx d k x::rest) s h=bv (dY md.nm s (some d) (Fo h d k (ev s x))) (aM call md rest):=θ _
theorem aCb(d j w op rest):aM call md (⟨d,some (j,w),op⟩::rest) s h=bv (mV d w (dY md.nm s d (step call md (d.getD 0) op s h)) s h (s j)) (aM call md rest):=θ _
theorem aun(d z rest):aM call md (⟨some d,none,.alloc z⟩::rest) s h=bv (dY md.nm s (some d) (pJ h d z [])) (aM call md rest):=θ _
theorem ayz(d k x rest):aM call md (⟨some d,none,.box k x⟩::rest) s h=bv (dY md.nm s (some d) (Fo h d k (ev s x))) (aM call md rest):=θ _
theorem ar8(d k z n ps rest):aM call md (⟨some d,none,.buildSl k z n ps⟩::rest) s h=bv (dY md.nm s (some d) ((fM k h (aCG n z) (ps.map fun p=>(p.1,ev s p.2))).bind fun q=>dA q.2.1 d k q.1 n q.2.2)) (aM call md rest):=θ _
theorem av5(d k z b l c rest):aM call md (⟨some d,none,.mkSl k z b l c⟩::rest) s h=bv (dY md.nm s (some d) ((qA (ev s l) (ev s c)).bind fun p=>if p.2*b<=140737488355328 then dA h d k (aCG p.1 z) p.1 []else none)) (aM call md rest):=θ _
theorem av6(d k g x rest):aM call md (⟨some d,none,.load k g x⟩::rest) s h=bv (dY md.nm s (some d) (kf h k g (ev s x))) (aM call md rest):=θ _
theorem auo(d k x y rest):aM call md (⟨d,none,.store k x y⟩::rest) s h=bv (dY md.nm s d (nN h k (ev s x) (ev s y))) (aM call md rest):=θ _
theorem ayA(d k b x y rest):aM call md (⟨some d,none,.app k b x y⟩::rest) s h=bv (dY md.nm s (some d) (On h d k b (ev s x) (ev s y))) (aM call md rest):=θ _
theorem av7(d f zas rest):aM call md (⟨some d,none,.call f zas⟩::rest) s h=bv (dY md.nm s (some d) (bF call md h d (zas.map (ev s)) (ev s f))) (aM call md rest):=θ _
theorem aup(f zas rest):aM call md (⟨none,none,.call f zas⟩::rest) s h=bv (dY md.nm s none (bF call md h 0 (zas.map (ev s)) (ev s f))) (aM call md rest):=θ _
theorem av8(nm)(s d x h):dY nm s (some d) (some (x,h,[]))=some ⟨upd s d x,h⟩:=by simp only[dY,rP,if_true];rfl
theorem auq(nm)(s x h):dY nm s none (some (x,h,[]))=some ⟨s,h⟩:=by simp only[dY,rP,if_true];rfl
theorem aA3(d op):step call md d (.p op) s h=Fq h (iZ s op):=θ _
theorem aur(d k g x):step call md d (.load k g x) s h=kf h k g (ev s x):=θ _
theorem aus(d f zas):step call md d (.call f zas) s h=bF call md h d (zas.map (ev s)) (ev s f):=θ _
theorem asF(d k x y):step call md d (.store k x y) s h=nN h k (ev s x) (ev s y):=θ _
theorem asG(d z):step call md d (.alloc z) s h=pJ h d z []:=θ _
theorem av9(d k x):step call md d (.box k x) s h=Fo h d k (ev s x):=θ _
theorem apR(d k z n ps):step call md d (.buildSl k z n ps) s h=(fM k h (aCG n z) (ps.map fun p=>(p.1,ev s p.2))).bind fun q=>dA q.2.1 d k q.1 n q.2.2:=θ _
theorem aut(d k z b l c):step call md d (.mkSl k z b l c) s h=(qA (ev s l) (ev s c)).bind fun p=>if p.2*b<=140737488355328 then dA h d k (aCG p.1 z) p.1 []else none:=θ _
theorem auu(h a):Fq h (some a)=some (a,h,[]):=θ _
theorem asH(d st s h):mV d true st s h (.v (.bool true))=st:=θ _
theorem asI(d st s h):mV d false st s h (.v (.bool false))=st:=θ _
theorem asJ(d st s h):mV (some d) true st s h (.v (.bool false))=some ⟨upd s d .und,h⟩:=θ _
theorem asK(d st s h):mV (some d) false st s h (.v (.bool true))=some ⟨upd s d .und,h⟩:=θ _
theorem ar9(d w st s h):mV (some d) w st s h .und=some ⟨upd s d .und,h⟩:=θ _
theorem aCx(s n):ev s (.t n)=s n:=θ _
theorem aCy(s a):ev s (.c a)=a:=θ _
theorem awa(s):evo s none=none:=θ _
theorem awb(s x):evo s (some x)=some (ev s x):=θ _
theorem aA4{α}(s)(d)(x:α)(i):upd s d x i=if i=d then x else s i:=θ _
theorem aA5{α}(d)(f:Nat->α):mk d f []=fun _=>d:=θ _
theorem ayB{α}(d)(f:Nat->α)(i l):mk d f (i::l)=upd (mk d f l) i (f i):=θ _
theorem aCz(x):iZ s (.mv x)=some (ev s x):=θ _
theorem aA6(c a b):iZ s (.pick c a b)=Mp (ev s c) (ev s a) (ev s b):=θ _
theorem ayC(x):iZ s (.nilck x)=KF (ev s x):=θ _
theorem aA7(n x):iZ s (.nilq n x)=Mq n (ev s x):=θ _
theorem aCc(op x y):iZ s (.bin op x y)=eX op (ev s x) (ev s y):=θ _
theorem aCA(op x):iZ s (.un op x)=Ws op (ev s x):=θ _
theorem aCB(k x):iZ s (.cv k x)=cvA k (ev s x):=θ _
theorem aCd(x):iZ s (.cv0 x)=adk (ev s x):=θ _
theorem aCe(k x lo hi mx):iZ s (.slc k x lo hi mx)=fA k (ev s x) (evo s lo) (evo s hi) (evo s mx):=θ _
theorem aA8(x lo hi):iZ s (.slcS x lo hi)=V9 (ev s x) (evo s lo) (evo s hi):=θ _
theorem aA9(o x):iZ s (.fadr o x)=Dt o (ev s x):=θ _
theorem aCf(o k g x):iZ s (.fld o k g x)=Wv o k g (ev s x):=θ _
theorem ayD(k x i):iZ s (.iadrS k x i)=zH k (ev s x) (ev s i):=θ _
theorem ayE(n k x i):iZ s (.iadrA n k x i)=HU n k (ev s x) (ev s i):=θ _
theorem aBa(x i):iZ s (.idxS x i)=Mr (ev s x) (ev s i):=θ _
theorem aBb(n k g x i):iZ s (.idxA n k g x i)=Ms n k g (ev s x) (ev s i):=θ _
theorem aCg(i x):iZ s (.ext i x)=Ww i (ev s x):=θ _
theorem aCh(m x):iZ s (.len m x)=sF m (ev s x):=θ _
theorem aCi(m t x y):iZ s (.eqc m t x y)=Wr m t (ev s x) (ev s y):=θ _
theorem aBc(x):iZ s (.capp x)=RP (ev s x):=θ _
theorem aCj(m x ys):iZ s (.mnx m x ys)=Hr m (ev s x) (ys.map (ev s)):=θ _
theorem ayF(z ps):iZ s (.build z ps)=(Bz z (ps.map fun p=>(p.1,p.2.1,ev s p.2.2))).map .agg:=θ _
theorem aCk(f a b):iZ s (.mkF f a b)=some (.fn f (a.map (ev s)) (b.map (ev s))):=θ _
theorem auv(a b):Mp (.v (.bool true)) a b=some a:=θ _
theorem asL(a b):Mp (.v (.bool false)) a b=some b:=θ _
theorem awc(id sub k i j):KF (.ref id sub k i j)=some (.ref id sub k i j):=θ _
theorem awd(cs):KF (.ipt cs)=some (.ipt cs):=θ _
theorem ayG(f a b):KF (.fn f a b)=some (.fn f a b):=θ _
theorem sj(op a b):eX op (.v a) (.v b)=(mE op a b).map .v:=θ _
theorem ayH(k a b):eX .add (.v (.int k a)) (.v (.int k b))=some (.v (.int k (k.wrap (a+b)))):=by simp[sj,mE,wN]
theorem ayI(k a b):eX .sub (.v (.int k a)) (.v (.int k b))=some (.v (.int k (k.wrap (a-b)))):=by simp[sj,mE,wN]
theorem ayJ(k a b):eX .mul (.v (.int k a)) (.v (.int k b))=some (.v (.int k (k.wrap (a*b)))):=by simp[sj,mE,wN]
theorem R9(k a b):eX .quo (.v (.int k a)) (.v (.int k b))=if b=0 then none else some (.v (.int k (k.wrap (a.tdiv b)))):=by simp only[sj,mE,wN,if_true];split<;>rfl
theorem MG(k a b):eX .rem (.v (.int k a)) (.v (.int k b))=if b=0 then none else some (.v (.int k (a.tmod b))):=by simp only[sj,mE,wN,if_true];split<;>rfl
theorem Sa(k a b):eX .and (.v (.int k a)) (.v (.int k b))=some (.v (.int k (k.wrap ((BitVec.ofInt k.bits a&&&BitVec.ofInt k.bits b).toNat)))):=by simp[sj,mE,wN]
theorem Qm(k a b):eX .or (.v (.int k a)) (.v (.int k b))=some (.v (.int k (k.wrap ((BitVec.ofInt k.bits a|||BitVec.ofInt k.bits b).toNat)))):=by simp[sj,mE,wN]
theorem MH(k k' a b):eX .shl (.v (.int k a)) (.v (.int k' b))=if b<0 then none else some (.v (.int k (k.wrap (a*2^ (min b.toNat k.bits))))):=by simp only[sj,mE,ajr];split<;>rfl
theorem H1(k k' a b):eX .shr (.v (.int k a)) (.v (.int k' b))=if b<0 then none else some (.v (.int k (a.fdiv (2^ (min b.toNat k.bits))))):=by simp only[sj,mE,ajs];split<;>rfl
theorem ayK(k a b):eX .lss (.v (.int k a)) (.v (.int k b))=some (B (decide (a<b))):=by simp[sj,mE,wN]
theorem ayL(k a b):eX .leq (.v (.int k a)) (.v (.int k b))=some (B (decide (a<=b))):=by simp[sj,mE,wN]
theorem ayM(k a b):eX .gtr (.v (.int k a)) (.v (.int k b))=some (B (decide (b<a))):=by simp[sj,mE,wN]
theorem ayN(k a b):eX .geq (.v (.int k a)) (.v (.int k b))=some (B (decide (b<=a))):=by simp[sj,mE,wN]
theorem ayO(k a b):eX .eql (.v (.int k a)) (.v (.int k b))=some (B (decide (a=b))):=by simp[sj,mE,wN];rfl
theorem ayP(k a b):eX .neq (.v (.int k a)) (.v (.int k b))=some (B (!decide (a=b))):=by simp[sj,mE,wN,bne];rfl
theorem aBd(k a):Ws .neg (.v (.int k a))=some (.v (.int k (k.wrap (0-a)))):=θ _
theorem aBe(k a):Ws .xor (.v (.int k a))=some (.v (.int k (k.wrap ((BitVec.ofInt k.bits (if k.signed then-1 else k.max)^^^BitVec.ofInt k.bits a).toNat)))):=θ _
theorem ayQ(k a b):eX .xor (.v (.int k a)) (.v (.int k b))=some (.v (.int k (k.wrap ((BitVec.ofInt k.bits a^^^BitVec.ofInt k.bits b).toNat)))):=by simp[sj,mE,wN]
theorem aBf(b):Ws .not (.v (.bool b))=some (B (!b)):=θ _
theorem aBg(k k' n):cvA k (.v (.int k' n))=some (.v (.int k (k.wrap n))):=θ _
theorem awe(o id sub k i j):Dt o (.ref id sub k i j)=some (.ref id sub k i (j+o)):=θ _
theorem awf(o cs):Dt o (.ipt cs)=some (.ipt (cs.drop o)):=θ _
theorem ayR(o k g cs):Wv o k g (.agg cs)=mr k g cs o:=θ _
theorem auw(k cs o):mr k false cs o=cs[o]?:=θ _
theorem awg(k cs o):mr k true cs o=if o+k<=cs.length then some (.agg ((cs.drop o).take k))else none:=θ _
theorem ayS(k rows k' i):zH k (.sl k rows) (.v (.int k' i))=aZ rows i:=by simp[zH]
theorem awh(k id sub lo n k' i):zH k (.rsl id sub k lo n) (.v (.int k' i))=if 0<=i/\i<n then some (.ref id sub k (lo+i.toNat) 0)else none:=by simp[zH]
theorem aux(n k id sub k' a j kk i):HU n k (.ref id sub k' a j) (.v (.int kk i))=if 0<=i/\i<n then some (.ref id sub k' a (j+i.toNat*k))else none:=θ _
theorem auy(n k cs kk i):HU n k (.ipt cs) (.v (.int kk i))=if 0<=i/\i<n then some (.ipt (cs.drop (i.toNat*k)))else none:=θ _
theorem ayT(i vs):Ww i (.tup vs)=vs[i]?:=θ _
theorem aBh(k rows):sF false (.sl k rows)=some (I rows.length):=θ _
theorem ayU:sF false .emp=some (I 0):=θ _
theorem ayV(a b c d n):sF false (.rsl a b c d n)=some (I n):=θ _
theorem ayW(x):sF true (.v (.string x))=some (I x.size):=θ _
theorem awi(m a):Hr m a []=some a:=θ _
theorem auz(m a b l):Hr m a (b::l)=(RQ m a b).bind fun c=>Hr m c l:=θ _
theorem ayX(k k' x y):RQ true (.v (.int k x)) (.v (.int k' y))=some (.v (.int k (if y<x then y else x))):=θ _
theorem ayY(k k' x y):RQ false (.v (.int k x)) (.v (.int k' y))=some (.v (.int k (if x<y then y else x))):=θ _
theorem awj(m a b):Wr m 0 (.v (.bool a)) (.v (.bool b))=some (B (m != (a==b))):=θ _
theorem auA(z):Bz z []=some z:=θ _
theorem asM(z o k a ps):Bz z ((o,k,a)::ps)=(jH a).bind fun cs=>if cs.length=k/\o+k<=z.length then Bz (setRow z o cs) ps else none:=θ _
theorem auB(cs):jH (.agg cs)=some cs:=θ _
theorem ayZ(x):jH (.v x)=some [.v x]:=θ _
theorem auC:jH .emp=some [.emp]:=θ _
theorem awk(k r):jH (.sl k r)=some [.sl k r]:=θ _
theorem auD(a b c d e):jH (.rsl a b c d e)=some [.rsl a b c d e]:=θ _
theorem auE(a b c d e):jH (.ref a b c d e)=some [.ref a b c d e]:=θ _
theorem awl(f a b):jH (.fn f a b)=some [.fn f a b]:=θ _
theorem asN(r j):setRow r j []=r:=θ _
theorem asa(r j c cs):setRow r j (c::cs)=setRow (r.set j c) (j+1) cs:=θ _
theorem awm(h k g cs):kf h k g (.ipt cs)=(mr k g cs 0).map fun a=>(a,h,[]):=θ _
theorem awn(h k g id k0 i j):kf h k g (.ref id none k0 i j)=Dv h k g id k0 i j (h id):=θ _
theorem awo(h k g id p k0 i j):kf h k g (.ref id (some p) k0 i j)=qX h k g k0 i j (lR p (h id)):=θ _
theorem awp(h k g id k0 i j cs):Dv h k g id k0 i j (.bx cs)=IT h id (i*k0+j) k g cs:=θ _
theorem awq(h k g id k0 i j k' rows):Dv h k g id k0 i j (.ar k' rows)=qX h k g k0 i j (some (k',rows)):=θ _
theorem awr(h k g id k0 i j k' rows):Dv h k g id k0 i j (.fz k' rows)=qX h k g k0 i j (some (k',rows)):=θ _
theorem asO(h id p k cs):IT h id p k false cs=(cs[p]?).map fun c=>(Du id p c,h,[]):=θ _
theorem auF(h id p k cs):IT h id p k true cs=if p+k<=cs.length then(if((cs.drop p).take k).any bE then some (.agg (((cs.map nD).drop p).take k),upd h id (.bx (cs.map nD)),[(id,true)])else some (.agg ((cs.drop p).take k),h,[]))else none:=θ _
theorem ay0(id p x):Du id p (.v x)=.v x:=θ _
theorem auG(id p):Du id p .emp=.emp:=θ _
theorem aws(id p k r):Du id p (.sl k r)=.sl k r:=θ _
theorem auH(id p a b c d e):Du id p (.ref a b c d e)=.ref a b c d e:=θ _
theorem awt(id p f a b):Du id p (.fn f a b)=.fn f a b:=θ _
theorem auI(id p k r):Du id p (.osl k r)=.rsl id (some p) k 0 r.length:=θ _
theorem asQ(h k g i j k' rows):qX h k g k' i j (some (k',rows))=(rows[i]?).bind fun row=>(mr k g row j).map fun a=>(a,h,[]):=by simp[qX]
theorem ay1(x):bE (.v x)=false:=θ _
theorem auJ:bE .emp=false:=θ _
theorem awu(k r):bE (.sl k r)=false:=θ _
theorem auK(k r):bE (.osl k r)=true:=θ _
theorem auL(a b c d e):bE (.ref a b c d e)=false:=θ _
theorem awv(f a b):bE (.fn f a b)=false:=θ _
theorem aBi(x):aJ (.v x)=true:=θ _
theorem aww:aJ .emp=true:=θ _
theorem ay2(k r):aJ (.sl k r)=true:=θ _
theorem awx(a b c d e):aJ (.rsl a b c d e)=false:=θ _
theorem awy(a b c d e):aJ (.ref a b c d e)=false:=θ _
theorem awz(f):aJ (.fn f [] [])=true:=θ _
theorem ay3(cs):dat (.agg cs)=cs.all aJ:=θ _
theorem aCl(x):dat (.v x)=true:=θ _
theorem ay4:dat .emp=true:=θ _
theorem aBj(k r):dat (.sl k r)=true:=θ _
theorem ay5(a b c d e):dat (.rsl a b c d e)=false:=θ _
theorem ay6(a b c d e):dat (.ref a b c d e)=false:=θ _
theorem ay7(f):dat (.fn f [] [])=true:=θ _
theorem awA(h d cs ks):pJ h d cs ks=Ee h d (.ref d none 0 0 0) (.bx cs) ks (h d):=θ _
theorem auM(h d a o ks):Ee h d a o ks .dead=some (a,upd h d o,ks):=θ _
theorem asR(h d k rows n ks):dA h d k rows n ks=Ee h d (.rsl d none k 0 n) (.ar k rows) ks (h d):=θ _
theorem aBk(h d k x):Fo h d k x=(jH x).bind fun xs=>if xs.length=k then(if xs.all aJ then pJ h d xs []else(pJ h d (aCG k .any) []).bind (Ol d 0 xs))else none:=θ _
theorem apS(k h rows):fM k h rows []=some (rows,h,[]):=θ _
theorem apw(k h rows i a ps):fM k h rows ((i,a)::ps)=(jH a).bind fun cs=>if cs.length=k/\i<rows.length then(ke h cs).bind fun q=>(fM k q.2.1 (rows.set i q.1) ps).bind fun r=>some (r.1,r.2.1,q.2.2++r.2.2)else none:=θ _
theorem auN(h):ke h []=some ([],h,[]):=θ _
theorem asS(h a l):ke h (a::l)=(gW h a).bind fun p=>(ke p.2.1 l).bind fun q=>some (p.1::q.1,q.2.1,p.2.2++q.2.2):=θ _
theorem aBl(h x):gW h (.v x)=some (.v x,h,[]):=θ _
theorem awB(h):gW h .emp=some (.emp,h,[]):=θ _
theorem ay8(h k r):gW h (.sl k r)=some (.sl k r,h,[]):=θ _
theorem ay9(h f):gW h (.fn f [] [])=some (.fn f [] [],h,[]):=θ _
theorem awC(h id k lo n):gW h (.rsl id none k lo n)=pI h id k lo n (h id):=θ _
theorem auO(h id p k lo n):gW h (.rsl id (some p) k lo n)=KH h id p k lo n (h id):=θ _
theorem aza(h id k lo n rows):pI h id k lo n (.ar k rows)=if lo+n<=rows.length then some (rO k lo n rows,upd h id (.fz k rows),[])else none:=by simp[pI]
theorem azb(h id k lo n rows):pI h id k lo n (.fz k rows)=if lo+n<=rows.length then some (rO k lo n rows,h,[])else none:=by simp[pI]
theorem azc(k lo n rows):rO k lo n rows=.sl k ((rows.drop lo).take n):=θ _
theorem auP(h k id k0 i j x):nN h k (.ref id none k0 i j) x=(jH x).bind fun xs=>if xs.length=k then Ht h k id k0 i j xs (h id)else none:=θ _
theorem auQ(h k id p k0 i j x):nN h k (.ref id (some p) k0 i j) x=(jH x).bind fun xs=>if xs.length=k then(ke h xs).bind fun q=>GE q.2.1 k id p k0 i j q.1 q.2.2 (q.2.1 id)else none:=θ _
theorem azd(h k id k0 i j xs cs):Ht h k id k0 i j xs (.bx cs)=RU h id (i*k0+j) k xs cs:=θ _
theorem aze(h k id k0 i j xs k' rows):Ht h k id k0 i j xs (.ar k' rows)=(ke h xs).bind fun q=>RW q.2.1 id k k0 i j q.1 q.2.2 (q.2.1 id):=θ _
theorem azf(h id k k0 i j xs ks k' rows):RW h id k k0 i j xs ks (.ar k' rows)=(tZ k k0 i j xs k' rows).map fun q=>(.und,upd h id (.ar k' q),ks):=θ _
theorem azg(k k0 i j cs rows):tZ k k0 i j cs k0 rows=(rows[i]?).bind fun row=>if j+k<=row.length then some (rows.set i (setRow row j cs))else none:=by simp[tZ]
theorem azh(h id p k xs cs):RU h id p k xs cs=if p+k<=cs.length then(if xs.all aJ then some (.und,upd h id (.bx (setRow cs p xs)),if((cs.drop p).take k).any bE then [(id,true)]else [])else(uO h id p xs.length xs).map fun q=>(.und,q.1,q.2))else none:=θ _
theorem azi(hs x):iQ hs (.v x)=.v x:=θ _
theorem auR(hs):iQ hs .emp=.emp:=θ _
theorem awD(hs k r):iQ hs (.sl k r)=.sl k r:=θ _
theorem auS(hs):iQ hs .any=.any:=θ _
theorem auT(hs cs):iQ hs (.ipt cs)=.ipt cs:=θ _
theorem auU(hs id sub k lo n):iQ hs (.rsl id sub k lo n)=if hs.contains id then .rsl id sub k lo n else .any:=θ _
theorem auV(hs id sub k lo n):iQ hs (.ref id sub k lo n)=if hs.contains id then .ref id sub k lo n else .any:=θ _
theorem auW(hs cs):iQ hs (.agg cs)=if cs.all (knownL hs)then .agg cs else .any:=θ _
theorem auX(hs f):iQ hs (.fn f [] [])=.fn f [] []:=θ _
theorem awE(hs f a b):iQ hs (.fn f a b)=if a.all (knownL hs)&&b.all (knownL hs)then .fn f a b else .any:=θ _
theorem awF(hs x):knownL hs (.v x)=true:=θ _
theorem asT(hs):knownL hs .emp=true:=θ _
theorem auY(hs k r):knownL hs (.sl k r)=true:=θ _
theorem asU(hs id a b c d):knownL hs (.ref id a b c d)=hs.contains id:=θ _
theorem apT(hs):aF hs .dead=true:=θ _
theorem asV(hs k r):aF hs (.ar k r)=true:=θ _
theorem asW(hs k r):aF hs (.fz k r)=true:=θ _
theorem asX(hs cs):aF hs (.bx cs)=cs.all (hF hs):=θ _
theorem auZ(hs x):hF hs (.v x)=true:=θ _
theorem asb(hs):hF hs .emp=true:=θ _
theorem asY(hs k r):hF hs (.sl k r)=true:=θ _
theorem asc(hs k r):hF hs (.osl k r)=true:=θ _
theorem asd(hs id a b c):hF hs (.ref id none a b c)=hs.contains id:=by simp[hF,bE,bo,bw]
theorem ase(hs f):hF hs (.fn f [] [])=true:=θ _
theorem asZ(f:α->β)(a):Option.map f (some a)=some (f a):=θ _
theorem as0(f:α->β):Option.map f none=none:=θ _
theorem asf(f:α->Option β)(a):(some a).bind f=f a:=θ _
theorem asg(f:α->Option β):none.bind f=none:=θ _
theorem ash(a b:α):(some a).getD b=a:=θ _
theorem au0(p:α->Bool):[].all p=true:=θ _
theorem as1(p:α->Bool)(a l):(a::l).all p=(p a&&l.all p):=θ _
theorem au1(p:α->Bool):[].any p=false:=θ _
theorem as2(p:α->Bool)(a l):(a::l).any p=(p a||l.any p):=θ _
theorem as3(a:α)(l):(a::l)[0]?=some a:=θ _
theorem as4(a:α)(l)(n):(a::l)[n+1]?=l[n]?:=θ _
theorem au2(f:α->β):[].map f=[]:=θ _
theorem as5(f:α->β)(a l):(a::l).map f=f a::l.map f:=θ _
theorem awG(f:α->List β):[].flatMap f=[]:=θ _
theorem au3(f:α->List β)(a l):(a::l).flatMap f=f a++l.flatMap f:=θ _
theorem au4(l:List α):l++[]=l:=aCY l
theorem au5(l:List α):[]++l=l:=θ _
theorem as6(a:α)(l r):(a::l)++r=a::(l++r):=θ _
theorem au6:([]:List α).length=0:=θ _
theorem as7(a:α)(l):(a::l).length=l.length+1:=θ _
theorem asi(l:List α):l.drop 0=l:=θ _
theorem asj(a:α)(l)(n):(a::l).drop (n+1)=l.drop n:=θ _
theorem ask(l:List α):l.take 0=[]:=θ _
theorem asl(a:α)(l)(n):(a::l).take (n+1)=a::l.take n:=θ _
theorem apU(p:α->Bool):[].filter p=[]:=θ _
theorem as8(a b:α)(l):(a::l).set 0 b=b::l:=θ _
theorem as9(a b:α)(l)(n):(a::l).set (n+1) b=a::l.set n b:=θ _
theorem aBm(a:α):aCG 0 a=[]:=θ _
theorem aBn(a:α):aCG 1 a=[a]:=θ _
theorem aBo(a:α):aCG 2 a=[a,a]:=θ _
theorem aBp(a:α):aCG 3 a=[a,a,a]:=θ _
theorem aBq(a:α):aCG 4 a=[a,a,a,a]:=θ _
theorem aBr(a:α):aCG 5 a=[a,a,a,a,a]:=θ _
theorem aCC:decide True=true:=θ _
theorem aCD:decide False=false:=θ _
theorem azj(b):(true&&b)=b:=θ _
theorem azk(b):(false&&b)=false:=θ _
theorem aBs(b):(true||b)=true:=θ _
theorem aBt(b):(false||b)=b:=θ _
theorem azl:(!true)=false:=θ _
theorem azm:(!false)=true:=θ _
theorem azn(b):(b&&true)=b:=Bool.and_true b
theorem aCE:(false=true)=False:=σ
theorem aCm(a:α):(a=a)=True:=σ
theorem aBu(p):(True/\p)=p:=σ
theorem azo(p):(p/\True)=p:=σ
theorem aBv(p):(False/\p)=False:=σ
theorem aBw:(¬False)=True:=σ
theorem aBx:(¬True)=False:=σ
theorem awH(nm rs res n t):kj nm rs res n (some (.ret,t))=Fr nm rs res n t.s t.h:=θ _
theorem asm(nm rs res n t):kj nm rs res n (some (.normal,t))=Fr nm rs res n t.s t.h:=θ _
theorem au7(nm rs res n s h):Fr nm rs res n s h=(Dy s h res).bind fun q=>if ud nm q.2.2 then yU rs n q.2.1 q.1 else none:=θ _
theorem aBy(nm):ud nm []=true:=rP nm
theorem au8(s h):Dy s h []=some ([],h,[]):=θ _
theorem azp(s h n l):Dy s h (.t n::l)=(Dy s h l).bind fun q=>some (WH q.2.2 (s n)::q.1,q.2.1,q.2.2):=θ _
theorem ata(s h n k g l):Dy s h (.cell n k g::l)=(kf h k g (s n)).bind fun p=>(Dy (lQ p.2.2 s) p.2.1 l).bind fun q=>some (WH q.2.2 p.1::q.1,q.2.1,p.2.2++q.2.2):=θ _
theorem awI(a):WH [] a=a:=θ _
theorem au9(s):lQ [] s=s:=θ _
theorem aBz(rs h vs):yU rs 0 h vs=if mF ((vs.flatMap cH).filter fun i=>!bt i)then(xT h vs).map fun us=>(Ac (bA rs us),[])else none:=by simp[yU,dD]
theorem ava(h):xT h []=some []:=θ _
theorem atb(h a l):xT h (a::l)=(uj h a).bind fun b=>(xT h l).bind fun q=>some (b::q):=θ _
theorem aBA(h x):uj h (.v x)=some (.v x):=θ _
theorem awJ(h):uj h .emp=some .emp:=θ _
theorem azq(h k r):uj h (.sl k r)=some (.sl k r):=θ _
theorem awK(h cs):uj h (.agg cs)=(oF h cs).map .agg:=θ _
theorem awL(h id k lo n):uj h (.rsl id none k lo n)=if bt id then none else Ef k lo n (h id):=θ _
theorem azr(k lo n rows):Ef k lo n (.ar k rows)=if lo+n<=rows.length then(if lo=0/\n=rows.length then some (.osl k rows)else some (rO k lo n rows))else none:=by simp[Ef]
theorem azs(k lo n rows):Ef k lo n (.fz k rows)=if lo+n<=rows.length then some (rO k lo n rows)else none:=by simp[Ef]
theorem avb(h):oF h []=some []:=θ _
theorem azt(h x l):oF h (.v x::l)=(oF h l).bind fun q=>some (.v x::q):=θ _
theorem avc(h l):oF h (.emp::l)=(oF h l).bind fun q=>some (.emp::q):=θ _
theorem awM(h k r l):oF h (.sl k r::l)=(oF h l).bind fun q=>some (.sl k r::q):=θ _
theorem avd(h id k lo n l):oF h (.rsl id none k lo n::l)=(oE h (.rsl id none k lo n)).bind fun b=>(Eg b).bind fun c=>(oF h l).bind fun q=>some (c::q):=θ _
theorem awN(h id k lo n):oE h (.rsl id none k lo n)=if bt id then none else Ef k lo n (h id):=θ _
theorem awO(k r):Eg (.osl k r)=some (.sl k r):=θ _
theorem azu(k r):Eg (.sl k r)=some (.sl k r):=θ _
theorem azv(a):Ac [a]=a:=θ _
theorem azw(a b l):Ac (a::b::l)=.tup (a::b::l):=θ _
theorem azx:Ac []=.tup []:=θ _
theorem ave(l):bA [] l=l:=by cases l<;>simp[bA]
theorem atc(s):bA s []=[]:=by cases s<;>simp[bA]
theorem atd(s ss a l):bA (s::ss) (a::l)=nrmV s a::bA ss l:=θ _
theorem ajS(a):nrmV [] a=a:=by cases a<;>simp[nrmV,nrmL,eP]
theorem awP(ss cs):nrmV ss (.agg cs)=.agg (eP ss cs):=θ _
theorem aBB(ss x):nrmV ss (.v x)=.v x:=by
 show nrmL _ _=_;generalize ss.headD (.o 0 [])=s;obtain⟨k,cs⟩:=s;cases k<;>simp[nrmL]
theorem awQ(k cs ss):nrmV (.o (k+1) cs::ss) .emp=.sl k []:=by simp[nrmV,nrmL]
theorem azy(k cs ss k' rows):nrmV (.o (k+1) cs::ss) (.sl k' rows)=.sl k' (rows.map (eP cs)):=by simp[nrmV,nrmL]
theorem awR(k cs ss k' rows):nrmV (.o (k+1) cs::ss) (.osl k' rows)=.sl k' (rows.map (eP cs)):=by simp[nrmV,nrmL]
theorem Xu(l):eP [] l=l:=by cases l<;>simp[eP]
theorem avf(l):eP l []=[]:=by cases l<;>simp[eP]
theorem avg(s ss a l):eP (s::ss) (a::l)=nrmL s a::eP ss l:=by simp[eP]
theorem aBC(cs a):nrmL (.o 0 cs) a=a:=by simp[nrmL]
theorem awS(k cs):nrmL (.o (k+1) cs) .emp=.sl k []:=by simp[nrmL]
theorem azz(k cs k' rows):nrmL (.o (k+1) cs) (.sl k' rows)=.sl k' (rows.map (eP cs)):=by simp[nrmL]
theorem aBD(k cs x):nrmL (.o k cs) (.v x)=.v x:=by cases k<;>simp[nrmL]
theorem aBE(x):cH (.v x)=[]:=θ _
theorem awT:cH .emp=[]:=θ _
theorem azA(k r):cH (.sl k r)=[]:=θ _
theorem awU(cs):cH (.agg cs)=cs.flatMap gL:=θ _
theorem awV(a b c d e):cH (.rsl a b c d e)=[a]:=θ _
theorem aBF(x):gL (.v x)=[]:=θ _
theorem awW:gL .emp=[]:=θ _
theorem azB(k r):gL (.sl k r)=[]:=θ _
theorem awX(a b c d e):gL (.rsl a b c d e)=[a]:=θ _
theorem ate:mF []=true:=θ _
theorem atf(a):mF [a]=true:=θ _
theorem azC(args i):wk args i=(args[i]?).getD .any:=θ _
theorem aeg:ax []=fun _=>.dead:=by funext i;simp[ax]
theorem avh(i):bt i=decide (1000<=i/\i<2000):=θ _
def mY(h:ae)(d:Nat):Option (AV×List Ob)->Option R3
 |some (r,[])=>if cJ r<=8/\cr h (2000+8*d) (cJ r)=true/\kr [] r=true then some ((mat (2000+8*d) h r).1,(mat (2000+8*d) h r).2,[])else none
 |_=>none
theorem mZ{c}{ids}{n}(hn:2000<=n)(hc:bw [] c=true\/(∃k lo m,c=.rsl n none k lo m)\/∃k i j,c=.ref n none k i j):lu (eu ids) c=c:=by
 have hb:eu ids n=n:=by unfold eu;rw[if_neg ω]
 rcases hc with hc| ⟨k,lo,m,rfl⟩| ⟨k,i,j,rfl⟩
 ·cases c<;>simp[bw]at hc<;>rfl
 ·simp[lu,hb]
 ·simp[lu,hb]
theorem Ul{r}{n}(hn:2000<=n)(h)(ids)(hr:gx [] r=true):eG (eu ids) (eJ n h r).1=(eJ n h r).1:=by
 cases r<;>simp only[gx]at hr<;>simp only[eJ]
 case osl=>simp only[eG];exact mZ hn (.inr (.inl ⟨_,_,_,rfl⟩))
 case obx=>simp only[eG];exact mZ hn (.inr (.inr ⟨_,_,_,rfl⟩))
 case agg cs=>
  simp only[bo,aC5]at hr;simp only[eG,AV.agg.injEq];exact(aDk (g:=fun c=>c) fun c hc=>mZ hn (.inl (hr c hc))).trans (aDu cs)
 case fn f x y=>
  simp only[bo,aCK,aC5]at hr;simp only[eG,AV.fn.injEq,true_and];exact⟨(aDk (g:=fun c=>c) fun c hc=>mZ hn (.inl (hr.1 c hc))).trans (aDu x),(aDk (g:=fun c=>c) fun c hc=>mZ hn (.inl (hr.2 c hc))).trans (aDu y)⟩
 all_goals
  simp only[eG];exact mZ hn (.inl hr)
theorem Um(ids):∀ {l} {n} {h},2000<=n->l.all (gx [])=true->(dp n h l).1.map (eG (eu ids))=(dp n h l).1
 |[],n,h,_,_=>rfl
 |c::l,n,h,hn,hr=>by
  simp only[aDb,aCK]at hr;simp only[dp,aDc];rw[Ul hn h ids hr.1,Um ids ω hr.2]
theorem ajT{r}{n}(hn:2000<=n)(h)(ids)(hr:kr [] r=true):Hu (eu ids) (mat n h r).1=(mat n h r).1:=by
 cases r with
 |tup vs=>
  simp only[kr]at hr;simp only[mat,Hu,AV.tup.injEq];exact Um ids hn hr
 |_=>
  simp only[kr]at hr;have:=Ul hn h ids hr;simp only[mat];simp only[eJ]at this⊢;exact this
theorem Un:∀l,ub [] l=[]
 |[]=>rfl
 |a::l=>by simp[ub,Un l]
theorem DR{f}{args}(d)(hm:md.m f=[])(hd:args.all dat=true):bF call md h d args (.fn f [] [])=mY h d (call f (bA (md.sh f) args) []):=by
 have hin:=by
  have:∀l,l.all dat=true->cu h [] l=some (l,h,[]):=by
   intro l;induction l with
   |nil=>intro _;rfl
   |cons a l ih=>
    intro hd;simp only[aDb,aCK]at hd;have ha:ef h 0 a=some (a,h,[]):=by
     have h1:=hd.1;by_cases hagg:∃cs,a=.agg cs
     ·obtain⟨cs,rfl⟩:=hagg;simp only[dat]at h1;simp only[ef,yM];rw[oS h1 h];rfl
     ·have h2:aJ a=true:=by cases a<;>first|exact h1|exact absurd ⟨_,rfl⟩ hagg
      cases a<;>first| (simp[aJ]at h2;done)|rfl|skip
    simp only[cu,List.headD_nil,ha,aCN,List.tail_nil,ih hd.2,aCY]
  exact this args hd
 have hids:args.flatMap cH=[]:=by
  rw[List.flatMap_eq_nil_iff];exact fun c hc=>WX (List.all_eq_true.1 hd c hc)
 have hren:(bA (md.sh f) args).map (eG (bu []))=bA (md.sh f) args/\(bA (md.sh f) args).all (bo [])=true:=by
  have key:∀c∈bA (md.sh f) args,dat c=true:=by
   intro c hc;obtain⟨i,hi⟩:=List.getElem?_of_mem hc;obtain⟨c0,h1,h2⟩:=AZ _ _ _ _ hi;have h0:=List.all_eq_true.1 hd c0 (List.mem_of_getElem? h1);rcases h2 with rfl| ⟨ss,rfl⟩
   ·exact h0
   ·cases c0<;>simp only[dat]at h0<;>simp only[nrmV,dat]<;>try (have:=FB (s:=ss.headD (.o 0 [])) h0;revert this;generalize nrmL _ _=q;intro this;cases q<;>first|exact this|simp[aJ]at this)
    rename_i cs;rw[aC5];intro c hc;obtain⟨i,hi⟩:=List.getElem?_of_mem hc;obtain⟨c0,h1,h2⟩:=FA _ _ _ _ hi;have h3:=List.all_eq_true.1 h0 c0 (List.mem_of_getElem? h1);rcases h2 with rfl| ⟨s,rfl⟩
    ·exact h3
    ·exact FB h3
  refine⟨(aDk (g:=fun c=>c) fun c hc=>?_).trans (aDu _),?_⟩
  ·have:=key c hc;cases c<;>simp only[dat]at this<;>first|rfl|skip
   all_goals first
    | (simp[aJ]at this;done)
    |skip
   ·rename_i cs;simp only[eG,AV.agg.injEq];refine(aDk (g:=fun c=>c) fun c hc=>?_).trans (aDu cs);have h3:=List.all_eq_true.1 this c hc;cases c<;>simp[aJ]at h3<;>rfl
   ·rename_i g x y;simp[aJ]at this;obtain⟨rfl,rfl⟩:=this;rfl
  ·rw[aC5];intro c hc;have:=key c hc;cases c<;>simp only[dat]at this<;>first|rfl|skip
   all_goals first
    | (simp[aJ]at this;done)
    |skip
   ·rename_i cs;simp only[bo,aC5];intro c hc;have h3:=List.all_eq_true.1 this c hc;cases c<;>simp[aJ]at h3<;>simp[bw,h3]
   ·rename_i g x y;simp[aJ]at this;obtain⟨rfl,rfl⟩:=this;rfl
 unfold bF;rw[if_neg (by simp[lw,hm])];simp only[eM,aCT,aCY,aCN,bN,Ua,kt,hren.2,List.all_nil,aDv,if_true,hren.1,aDh,Un, *];cases hr:call f (bA (md.sh f) args) []with
 |none=>rfl
 |some q=>
  obtain⟨r,os⟩:=q;cases os with
  |cons o os=>simp only[aCN,fE,mY];simp
  |nil=>
   simp only[aCN,fE,mY,aDs,aC7,true_and,dh,oB,CK,List.all_nil,aCM,Bool.and_true,GG,dD,List.range'_zero,eY,gP];by_cases hc:cJ r<=8/\cr h (2000+8*d) (cJ r)=true/\kr [] r=true
   ·rw[if_pos hc,if_pos hc,ajT ω h [] hc.2.2];simp
   ·rw[if_neg hc,if_neg hc]
def Jd(call:jt)(md:Mode)(d:Nat)(f:FuncId)(p:List AV×ae×K):Option R3:=
 kt call md p.2.1 d f (cp p.2.1 40 (bN [] (p.1.flatMap cH)) 0) (bA (md.sh f) p.1) p.2.2
theorem Je{f}{args}(d)(hm:md.m f=[]):bF call md h d args (.fn f [] [])=(cu h [] args).bind (Jd call md d f):=by
 unfold bF;rw[if_neg (by simp[lw,hm])];simp only[eM,hm,aCT,aCY];rfl
theorem avi{f}{zs}(d)(hm:md.m f=[])(hd:zs.all dat=true):Jd call md d f (zs,h,[])=mY h d (call f (bA (md.sh f) zs) []):=by
 rw[←DR d hm hd,Je d hm];have hin:∀l,l.all dat=true->cu h [] l=some (l,h,[]):=by
  intro l;induction l with
  |nil=>intro _;rfl
  |cons a l ih=>
   intro hd;simp only[aDb,aCK]at hd;have ha:ef h 0 a=some (a,h,[]):=by
    have h1:=hd.1;by_cases hagg:∃cs,a=.agg cs
    ·obtain⟨cs,rfl⟩:=hagg;simp only[dat]at h1;simp only[ef,yM];rw[oS h1 h];rfl
    ·have h2:aJ a=true:=by cases a<;>first|exact h1|exact absurd ⟨_,rfl⟩ hagg
     cases a<;>first| (simp[aJ]at h2;done)|rfl|skip
   simp only[cu,List.headD_nil,ha,aCN,List.tail_nil,ih hd.2,aCY]
 rw[hin zs hd];rfl
theorem atg(h):cu h [] []=some ([],h,[]):=θ _
theorem asn(h a l):cu h [] (a::l)=(ef h 0 a).bind fun p=>(cu p.2.1 [] l).bind fun q=>some (p.1::q.1,q.2.1,p.2.2++q.2.2):=θ _
theorem azD(h x):ef h 0 (.v x)=some (.v x,h,[]):=θ _
theorem avj(h):ef h 0 .emp=some (.emp,h,[]):=θ _
theorem awY(h k r):ef h 0 (.sl k r)=some (.sl k r,h,[]):=θ _
theorem awZ(h f a b):ef h 0 (.fn f a b)=some (.fn f a b,h,[]):=θ _
theorem avk(h a b c d):ef h 0 (.ref a none b c d)=some (.ref a none b c d,h,[]):=θ _
theorem avl(h cs):ef h 0 (.ipt cs)=some (.ipt cs,h,[]):=θ _
theorem avm(h id k lo n):ef h 0 (.rsl id none k lo n)=pI h id k lo n (h id):=θ _
theorem ath(h id p k lo n):ef h 0 (.rsl id (some p) k lo n)=KH h id p k lo n (h id):=θ _
theorem avn(h cs):ef h 0 (.agg cs)=(ke h cs).bind fun p=>some (.agg p.1,p.2):=θ _
theorem azE(h d x):mY h d (some (.v x,[]))=if cr h (2000+8*d) 1=true then some (.v x,h,[])else none:=by
 simp[mY,cJ,kr,gx,bo,bw,mat,eJ]
theorem ajU(h d k r):mY h d (some (.sl k r,[]))=if cr h (2000+8*d) 1=true then some (.sl k r,h,[])else none:=by
 simp[mY,cJ,kr,gx,bo,bw,mat,eJ]
theorem avo(h d cs)(hd:cs.all aJ=true):mY h d (some (.agg cs,[]))=if cr h (2000+8*d) 1=true then some (.agg cs,h,[])else none:=by
 have:cs.all (bw [])=true:=by
  rw[aC5]at hd⊢;intro c hc;have:=hd c hc;cases c<;>simp[aJ]at this<;>simp[bw,this]
 simp only[mY,cJ,kr,gx,bo,mat,eJ,this,and_true];simp
theorem avp(h d vs)(h8:vs.length<=8)(hd:vs.all dat=true):mY h d (some (.tup vs,[]))=if cr h (2000+8*d) vs.length=true then some (.tup vs,h,[])else none:=by
 have h1:vs.all (gx [])=true:=by
  rw[aC5]at hd⊢;intro c hc;have:=hd c hc;cases c<;>simp only[dat]at this<;>simp only[gx,bo]<;>try (simp[aJ]at this<;>simp[bw,this];done)
  rename_i cs;rw[aC5]at this⊢;intro c hc;have:=this c hc;cases c<;>simp[aJ]at this<;>simp[bw,this]
 have h2:∀l n g,l.all dat=true->dp n g l=(l,g):=by
  intro l;induction l with
  |nil=>intro n g _;rfl
  |cons c l ih=>
   intro n g hd;simp only[aDb,aCK]at hd;have hc:eJ n g c=(c,g):=by
    have:=hd.1;cases c<;>simp only[dat,aJ]at this<;>first|rfl| (cases this;done)
   simp only[dp,hc,ih _ _ hd.2]
 simp only[mY,cJ,kr,mat,h2 vs _ _ hd,true_and,and_true, *]
theorem avq(h d k r):mY h d (some (.osl k r,[]))=if cr h (2000+8*d) 1=true then some (.rsl (2000+8*d) none k 0 r.length,upd h (2000+8*d) (.ar k r),[])else none:=by
 simp[mY,cJ,kr,gx,mat,eJ]
theorem ati(h n):cr h n 0=true:=θ _
theorem atj(h n m):cr h n (m+1)=(bU (h n)&&cr h (n+1) m):=θ _
theorem aso:bU .dead=true:=θ _
def dB(call:jt)(md:Mode)(ps:List (Nat×Nat)):List Fp->List COp->ap->ae->Option St
 |acc,[],s,h=>if ps.all (AU acc)=true then some ⟨s,h⟩else none
 |acc,o::rest,s,h=>(fJ call md o s h).bind fun r=>dB call md ps (acc++[r.2]) rest r.1.s r.1.h
theorem abA(ps):∀l acc s h,dB call md ps acc l s h=(jI call md l s h).bind fun r=>if ps.all (AU (acc++r.2))=true then some r.1 else none
 |[],acc,s,h=>by simp only[dB,jI,aCN,aCY]
 |o::l,acc,s,h=>by
  simp only[dB,jI];cases fJ call md o s h with
  |none=>rfl
  |some r=>
   simp only[aCN];rw[abA ps l];cases jI call md l r.1.s r.1.h with
   |none=>rfl
   |some q=>simp only[aCN,aDr,List.singleton_append]
theorem avr:Dx []=none:=θ _
theorem atk(p g l):Dx ((p,g)::l)=if 1000000<=p then some (p-1000000,g)else none:=θ _
theorem Xv(l ps):DJ call md l ps s h=dB call md ps [] l s h:=by
 rw[abA];rfl
theorem amU(ps)(l)(h0:Dx ps=none):ug call md l ps s h=dB call md ps [] l s h:=by
 unfold ug;rw[h0];exact Xv l ps
def ajV(call:jt)(md:Mode)(m g:Nat)(ps:List (Nat×Nat))(l:List COp)(s:ap)(h:ae):Option St:=
 bv (dB call md ps [] (l.take m) s h) fun s h=>bv (wu md.nm g s h) (aM call md (l.drop m))
theorem axa(l ps):ug call md l ps s h=match Dx ps with
  |some q=>ajV call md q.1 q.2 ps.tail l s h
  |none=>dB call md ps [] l s h:=by
 cases hb:Dx ps with
 |none=>exact amU ps l hb
 |some q=>
  unfold ug;rw[hb];simp only[ajV,IU];rw[←Xv _ _,DJ];cases jI call md (l.take q.1) s h with
  |none=>rfl
  |some r=>
   simp only[aCN];split<;>rfl
def kg(call:jt)(md:Mode)(ps:List (Nat×Nat))(acc:List Fp)(rest:List COp)(s:ap)(d:Option Nat)(f:ae->Fp):Option R3->Option St
 |some (x,h,[])=>dB call md ps (acc++[f h]) rest (gX s d x) h
 |_=>none
theorem fG(ps acc)(o)(rest)(hg:o.g=none):dB call md ps acc (o::rest) s h=kg call md ps acc rest s o.d (iu (o.d.getD 0) o.op s h) (step call md (o.d.getD 0) o.op s h):=by
 simp only[dB,fJ,hg,qB];cases step call md (o.d.getD 0) o.op s h with
 |none=>rfl
 |some r=>
  obtain⟨x,h',ks⟩:=r;cases ks<;>rfl
theorem axb(ps acc):dB call md ps acc [] s h=if ps.all (AU acc)=true then some ⟨s,h⟩else none:=θ _
theorem MI(ps acc d op rest):dB call md ps acc (co d op::rest) s h=(iZ s op).bind fun a=>dB call md ps (acc++[some ([],[])]) rest (upd s d a) h:=by
 rw[fG _ _ _ _ rfl];simp only[co,step,Fq];cases iZ s op<;>rfl
theorem azF(ps acc d n rest):dB call md ps acc (cm d n::rest) s h=dB call md ps (acc++[some ([],[])]) rest (upd s d (s n)) h:=MI ps acc d (.mv (.t n)) rest
theorem avs(ps acc d k g x rest):dB call md ps acc (⟨some d,none,.load k g x⟩::rest) s h=kg call md ps acc rest s (some d) (fun _=>wO (ev s x)) (kf h k g (ev s x)):=fG _ _ _ _ rfl
theorem atl(ps acc d k x y rest):dB call md ps acc (⟨d,none,.store k x y⟩::rest) s h=kg call md ps acc rest s d (fun _=>Dw (ev s y) (ev s x)) (nN h k (ev s x) (ev s y)):=fG _ _ _ _ rfl
theorem avt(ps acc d f zas rest):dB call md ps acc (⟨some d,none,.call f zas⟩::rest) s h=kg call md ps acc rest s (some d) (i9 h d (qY (zas.map (ev s)) (ev s f))) (bF call md h d (zas.map (ev s)) (ev s f)):=fG _ _ _ _ rfl
theorem atn(ps acc d z rest):dB call md ps acc (⟨some d,none,.alloc z⟩::rest) s h=kg call md ps acc rest s (some d) (fun _=>some ([],[dx d])) (pJ h d z []):=fG _ _ _ _ rfl
theorem axc(ps acc d k x rest):dB call md ps acc (⟨some d,none,.box k x⟩::rest) s h=kg call md ps acc rest s (some d) (fun _=>if dat (ev s x)=true then some ([],[dx d])else none) (Fo h d k (ev s x)):=fG _ _ _ _ rfl
theorem apV(ps acc d k z n qs rest):dB call md ps acc (⟨some d,none,.buildSl k z n qs⟩::rest) s h=kg call md ps acc rest s (some d) (fun _=>if(qs.all fun p=>dat (ev s p.2))=true then some ([],[dx d])else none) ((fM k h (aCG n z) (qs.map fun p=>(p.1,ev s p.2))).bind fun q=>dA q.2.1 d k q.1 n q.2.2):=fG _ _ _ _ rfl
theorem azG(ps acc d op a b rest):dB call md ps acc (b2 d op a b::rest) s h=(eX op (s a) (s b)).bind fun a=>dB call md ps (acc++[some ([],[])]) rest (upd s d a) h:=MI ps acc d (.bin op (.t a) (.t b)) rest
theorem azH(ps acc d k a rest):dB call md ps acc (fa d k a::rest) s h=(Dt k (s a)).bind fun a=>dB call md ps (acc++[some ([],[])]) rest (upd s d a) h:=MI ps acc d (.fadr k (.t a)) rest
theorem azI(ps acc d a rest):dB call md ps acc (nk d a::rest) s h=(KF (s a)).bind fun a=>dB call md ps (acc++[some ([],[])]) rest (upd s d a) h:=MI ps acc d (.nilck (.t a)) rest
theorem azJ(ps acc d k a rest):dB call md ps acc (ld d k a::rest) s h=kg call md ps acc rest s (some d) (fun _=>wO (s a)) (kf h k false (s a)):=fG _ _ _ _ rfl
theorem azK(ps acc d k a rest):dB call md ps acc (la d k a::rest) s h=kg call md ps acc rest s (some d) (fun _=>wO (s a)) (kf h k true (s a)):=fG _ _ _ _ rfl
theorem azL(ps acc d f zas rest):dB call md ps acc (ca d f zas::rest) s h=kg call md ps acc rest s (some d) (i9 h d (qY (zas.map (ev s)) (.fn f [] []))) (bF call md h d (zas.map (ev s)) (.fn f [] [])):=fG _ _ _ _ rfl
theorem azM(ps acc k x y rest):dB call md ps acc (sr k x y::rest) s h=kg call md ps acc rest s none (fun _=>Dw (ev s y) (ev s x)) (nN h k (ev s x) (ev s y)):=fG _ _ _ _ rfl
theorem azN(ps acc d z rest):dB call md ps acc (al d z::rest) s h=kg call md ps acc rest s (some d) (fun _=>some ([],[dx d])) (pJ h d z []):=fG _ _ _ _ rfl
theorem azO(ps acc d k x rest):dB call md ps acc (bx d k x::rest) s h=kg call md ps acc rest s (some d) (fun _=>if dat (ev s x)=true then some ([],[dx d])else none) (Fo h d k (ev s x)):=fG _ _ _ _ rfl
theorem avu(ps acc rest s d f x h):kg call md ps acc rest s (some d) f (some (x,h,[]))=dB call md ps (acc++[f h]) rest (upd s d x) h:=θ _
theorem ato(ps acc rest s f x h):kg call md ps acc rest s none f (some (x,h,[]))=dB call md ps (acc++[f h]) rest s h:=θ _
theorem apW(ps acc)(o)(j w rest)(hg:o.g=some (j,w)){b}(hb:s j=.v (.bool b)):dB call md ps acc (o::rest) s h=
  if b=w then kg call md ps acc rest s o.d (iu (o.d.getD 0) o.op s h) (step call md (o.d.getD 0) o.op s h)else dB call md ps (acc++[some ([],[])]) rest (gX s o.d .und) h:=by
 simp only[dB,fJ,ue, *];split
 ·simp only[qB];cases step call md (o.d.getD 0) o.op s h with
  |none=>rfl
  |some r=>
   obtain⟨x,h',ks⟩:=r;cases ks<;>rfl
 ·rfl
def Xw(call:jt)(md:Mode)(ps:List (Nat×Nat))(acc:List Fp)(rest:List COp)(s:ap)(h:ae)(d:Option Nat)(w:Bool)(op:AOp):AV->Option St
 | .v (.bool b)=>if b=w then kg call md ps acc rest s d (iu (d.getD 0) op s h) (step call md (d.getD 0) op s h)else dB call md ps (acc++[some ([],[])]) rest (gX s d .und) h
 | .und=>dB call md ps (acc++[some ([],[])]) rest (gX s d .und) h
 |_=>none
theorem amV(ps acc d j w op rest):dB call md ps acc (⟨d,some (j,w),op⟩::rest) s h=Xw call md ps acc rest s h d w op (s j):=by
 by_cases hb:∃b,s j=.v (.bool b)
 ·obtain⟨b,hb⟩:=hb;rw[apW ps acc ⟨d,some (j,w),op⟩ j w rest rfl hb,hb];rfl
 ·simp only[dB,fJ];cases hq:s j<;>first|rfl|skip
  rename_i x;cases x<;>first|rfl|exact absurd ⟨_,hq⟩ hb
theorem azP(ps acc d j w op rest):dB call md ps acc (cg d j w op::rest) s h=Xw call md ps acc rest s h (some d) w (.p op) (s j):=amV ps acc (some d) j w (.p op) rest
theorem aBG(ps acc rest s h d op):Xw call md ps acc rest s h (some d) true op (.v (.bool true))=kg call md ps acc rest s (some d) (iu d op s h) (step call md d op s h):=θ _
theorem aBH(ps acc rest s h d op):Xw call md ps acc rest s h (some d) false op (.v (.bool false))=kg call md ps acc rest s (some d) (iu d op s h) (step call md d op s h):=θ _
theorem aBI(ps acc rest s h d op):Xw call md ps acc rest s h (some d) true op (.v (.bool false))=dB call md ps (acc++[some ([],[])]) rest (upd s d .und) h:=θ _
theorem aBJ(ps acc rest s h d op):Xw call md ps acc rest s h (some d) false op (.v (.bool true))=dB call md ps (acc++[some ([],[])]) rest (upd s d .und) h:=θ _
theorem azQ(ps acc rest s h d w op):Xw call md ps acc rest s h (some d) w op .und=dB call md ps (acc++[some ([],[])]) rest (upd s d .und) h:=θ _
theorem aCF(d op h'):iu d (.p op) s h h'=some ([],[]):=θ _
theorem azR(d k g x h'):iu d (.load k g x) s h h'=wO (ev s x):=θ _
theorem azS(d f zas h'):iu d (.call f zas) s h h'=i9 h d (qY (zas.map (ev s)) (ev s f)) h':=θ _
theorem axd(d z h'):iu d (.alloc z) s h h'=some ([],[dx d]):=θ _
theorem aBK(d k x h'):iu d (.box k x) s h h'=if dat (ev s x)=true then some ([],[dx d])else none:=θ _
theorem atp(cs):wO (.ipt cs)=some ([],[]):=θ _
theorem asp(id k i j):wO (.ref id none k i j)=some ([dx id],[]):=θ _
theorem asq(id p k i j):wO (.ref id (some p) k i j)=some ([dx id],[]):=θ _
theorem avv(y id sub k i j):Dw y (.ref id sub k i j)=if dat y=true then some ([dx id],[dx id])else none:=θ _
theorem aBL(i):dx i=if i<2000 then i else i-i%8:=θ _
theorem avw(l f a b):qY l (.fn f a b)=a++l++b:=θ _
theorem wV(h d l h'):i9 h d l h'=if l.all dat=true then some ([],[2000+8*d])else if l.all BD=true then some ((cp h 40 (bN [] (l.flatMap cH)) 0).map dx,(GI h h' (cp h 40 (bN [] (l.flatMap cH)) 0)).map dx++[2000+8*d])else none:=θ _
theorem atq(l i j):AU l (i,j)=(match l[i]?,l[j]? with|some a,some b=>mW a b|_,_=>false):=θ _
theorem axe(a b):mW (some a) (some b)=(sG a.2 (b.1++b.2)&&sG b.2 a.1):=θ _
theorem axf(b):mW none (some b)=(b.1.isEmpty&&b.2.isEmpty):=θ _
theorem axg(a):mW (some a) none=(a.1.isEmpty&&a.2.isEmpty):=θ _
theorem axh(b):sG [] b=true:=θ _
theorem avx(a l b):sG (a::l) b=(!b.contains a&&sG l b):=θ _
theorem atr(a:Nat):[].contains a=false:=θ _
theorem asr(a b)(l:List Nat):(b::l).contains a=(a==b||l.contains a):=by rw[List.contains_cons]
theorem axi(s d x h p l):dY false s (some d) (some (x,h,p::l))=some ⟨upd (lQ (p::l) s) d x,h⟩:=θ _
theorem avy(s x h p l):dY false s none (some (x,h,p::l))=some ⟨lQ (p::l) s,h⟩:=θ _
theorem azT(p l s)(i):lQ (p::l) s i=wt (p::l) (s i):=θ _
theorem aCn(ks x):wt ks (.v x)=.v x:=θ _
theorem azU(ks):wt ks .any=.any:=θ _
theorem azV(ks):wt ks .und=.und:=θ _
theorem azW(ks):wt ks .emp=.emp:=θ _
theorem aBM(ks k r):wt ks (.sl k r)=.sl k r:=θ _
theorem azX(ks cs):wt ks (.ipt cs)=.ipt cs:=θ _
theorem azY(ks f):wt ks (.fn f [] [])=.fn f [] []:=θ _
theorem azZ(ks id sub k lo n):wt ks (.rsl id sub k lo n)=if kq ks id sub=true then .any else .rsl id sub k lo n:=θ _
theorem az0(ks id sub k lo n):wt ks (.ref id sub k lo n)=if kq ks id sub=true then .any else .ref id sub k lo n:=θ _
theorem az1(ks cs):wt ks (.agg cs)=if cs.any (tW ks)=true then .any else .agg cs:=θ _
theorem aBN(ks f a b):wt ks (.fn f a b)=if(a.any (tW ks)||b.any (tW ks))=true then .any else .fn f a b:=θ _
theorem az2(ks vs):wt ks (.tup vs)=if vs.any (Hs ks)=true then .any else .tup vs:=θ _
theorem aBO(ks x):Hs ks (.v x)=false:=θ _
theorem az3(ks k r):Hs ks (.sl k r)=false:=θ _
theorem aBP(ks x):tW ks (.v x)=false:=θ _
theorem axj(ks):tW ks .emp=false:=θ _
theorem az4(ks k r):tW ks (.sl k r)=false:=θ _
theorem axk(ks id sub k i j):tW ks (.ref id sub k i j)=kq ks id sub:=θ _
theorem axl(id sub):kq [] id sub=false:=θ _
theorem axm(a)(b)(l:K)(id)(sub):kq ((a,b)::l) id sub=((a==id&& (!b||sub.isSome))||kq l id sub):=by simp[kq]
theorem apX:(none:Option α).isSome=false:=θ _
theorem apY(a:α):(some a).isSome=true:=θ _
theorem aBQ(h d k b x y):On h d k b x y=(xS h k y).bind fun ys=>match x with
 | .emp=>if ys.length*b<=140737488355328 then Wy h d k ys else none
 | .rsl id none k' lo n=>Wx h d k b id k' lo n ys (h id)
 | .rsl id (some p) k' lo n=>aju h d k b id p k' lo n ys (h id)
 |_=>none:=θ _
theorem avz(h k):xS h k .emp=some []:=θ _
theorem ajW(h k r):xS h k (.sl k r)=some r:=by simp[xS]
theorem avA(h k id sub lo n):xS h k (.rsl id sub k lo n)=jU k lo n (BA h id sub):=by simp[xS]
theorem ass(h id):BA h id none=DI (h id):=θ _
theorem avB(k r):DI (.ar k r)=some (k,r):=θ _
theorem avC(k r):DI (.fz k r)=some (k,r):=θ _
theorem apZ(k lo n r):jU k lo n (some (k,r))=if lo+n<=r.length then some ((r.drop lo).take n)else none:=by simp[jU]
theorem az5(h d k b id lo n ys r):Wx h d k b id k lo n ys (.ar k r)=if lo=0/\n=r.length/\(id<1000\/2000<=id)/\(n+ys.length)*b<=140737488355328 then
   some (.rsl id none k 0 (n+ys.length),upd h id (.ar k (r++ys)),[(id,false)])else Om h d k b id k lo n ys k r:=by simp[Wx]
theorem axn(h d k):Wy h d k []=some (.emp,h,[]):=θ _
theorem avD(h d k y ys):Wy h d k (y::ys)=dA h d k (y::ys) (ys.length+1) []:=θ _
attribute [go_sem] aAM aB8 aB9 aAN aef aAO ayx aAP aAQ aCa apP asA auj ar6 apv asB asC ar7 apQ asD auk asE aul aum ayy Ql aAR aAS aAT aAU aAV aAW aAX aAY aAZ aA0 aA1 aA2 aCb aun ayz ar8 av5 av6 auo ayA av7 aup av8 auq aA3 aur aus asF asG av9 apR aut auu asH asI asJ asK ar9 aCx aCy awa awb aA4 aA5 ayB aCz aA6 ayC aA7 aCc aCA aCB aCd aCe aA8 aA9 aCf ayD ayE aBa aBb aCg aCh aCi aBc aCj ayF aCk auv asL awc awd ayG ayH ayI ayJ R9 MG Sa Qm MH H1 ayK ayL ayM ayN ayO ayP aBd aBe ayQ aBf aBg awe awf ayR auw awg ayS awh aux auy ayT aBh ayU ayV ayW awi auz ayX ayY awj auA asM auB ayZ auC awk auD auE awl asN asa awm awn awo awp awq awr asO auF ay0 auG aws auH awt auI asQ ay1 auJ awu auK auL awv aBi aww ay2 awx awy awz ay3 aCl ay4 aBj ay5 ay6 ay7 awA auM asR aBk apS apw auN asS aBl awB ay8 ay9 awC auO aza azb azc auP auQ azd aze azf azg azh azi auR awD auS auT auU auV auW auX awE awF asT auY asU apT asV asW asX auZ asb asY asc asd ase asZ as0 asf asg ash au0 as1 au1 as2 as3 as4 au2 as5 awG au3 au4 au5 as6 au6 as7 asi asj ask asl apU as8 as9 aBm aBn aBo aBp aBq aBr aCC aCD azj azk aBs aBt azl azm azn aCE aCm aBu azo aBv aBw aBx awH asm au7 aBy au8 azp ata awI au9 aBz ava atb aBA awJ azq awK awL azr azs avb azt avc awM avd awN awO azu azv azw azx ave atc atd ajS awP aBB awQ azy awR Xu avf avg aBC awS azz aBD aBE awT azA awU awV aBF awW azB awX ate atf azC aeg avh avi atg asn azD avj awY awZ avk avl avm ath avn azE ajU avo avp avq ati atj aso avr atk axa axb MI azF avs atl avt atn axc apV azG azH azI azJ azK azL azM azN azO avu ato amV azP aBG aBH aBI aBJ azQ aCF azR azS axd aBK atp asp asq avv aBL avw wV atq axe axf axg axh avx atr asr axi avy azT aCn azU azV azW aBM azX azY azZ az0 az1 aBN az2 aBO az3 aBP axj az4 axk axl axm apX apY aBQ avz ajW avA ass avB avC apZ az5 axn avD
end
abbrev ac(i:Nat)(_:Unit:=()):AV:=.ref i none 0 0 0
abbrev bk:ap:=fun _=>.any
@[go_sem] theorem aCo:bk=fun _=>.any:=θ _
abbrev aG(x:Int):Int:=IntKind.i64.wrap x
noncomputable section
def al9:List (Nat×Nat)->Option Nat->AOp
 | (d,k)::l,x=>if x=some d then(match k with|0=>.callC (.c .any) []|1=>.take (.c .any)|_=>.slcM 0 (.c .any) none none)else al9 l x
 |[],_=>.bad
def ats(P:Program)(N:Nat)(ops:Array Oper)(h:AOp)(o:Oper):Option COp:=match o.op with
 | .build t ps=>(KO ops o.guard).bind fun g=>(mX P t).bind fun z=>match P.underlying t with
  |some (.struct fs)=>(Ft P (My P fs) ps.toList).map fun q=>⟨o.dst,g,.p (.build z q)⟩
  |_=>IX P N ops h o
 | .binOp op t x y _=>match P.underlying t with
  |some (.struct _)=>(KO ops o.guard).bind fun g=>(de x).bind fun x=>(de y).bind fun y=>(BE P false 3 t).bind fun k=>(Hv op).map fun n=>⟨o.dst,g,.p (.eqc n (3+k) x y)⟩
  |_=>IX P N ops h o
 |_=>IX P N ops h o
def ajX(P:Program)(N:Nat)(H:List (Nat×Nat))(ops:Array Oper):List Oper->Option (List COp)
 |[]=>some []
 |o::l=>(ats P N ops (al9 H o.dst) o).bind fun a=>(ajX P N H ops l).bind fun q=>some (a::q)
def prs:List Nat->List (Nat×Nat)
 |a::b::l=>(a,b)::prs l
 |_=>[]
abbrev NLL:=List (List Nat)
def ap0(P:Program)(N:Nat)(H:List (Nat×Nat))(ops:Array Oper):Bool->NLL->Option (Cmd×NLL)
 |dr,(7777777::is)::l=>(ap0 P N H ops dr l).map fun r=>(.frz is r.1,r.2)
 |true,ks::ps::l=>(ajX P N H ops ops.toList).map fun q=>(.dops ks q (prs ps),l)
 |false,ks::l=>(ajX P N H ops ops.toList).map fun q=>(.ops ks q,l)
 |_,_=>none
def nL:Code->Nat
 | .seq a b=>nL a+nL b
 | .cond _ a b=>nL a+nL b
 | .block _ a=>nL a
 | .loop a=>nL a+1
 | .scope a=>nL a
 |_=>0
abbrev GS:=NLL×List (Nat×Cmd)
noncomputable def gC (P:Program) (N:Nat) (H:List (Nat×Nat)) (L:List Cmd):Nat->Code->GS->Option (Cmd×GS)
 |_,.skip,s=>some (.skip,s)
 |_,.ret,s=>some (.ret,s)
 |_,.exit i,s=>some (.exit i,s)
 |_,.refuse _,s=>some (.ops [] [⟨none,none,.bad⟩],s)
 |_,.region _ ops dr,s=>(ap0 P N H ops dr s.1).map fun r=>(r.1,r.2,s.2)
 |n,.seq a b,s=>(gC P N H L (n+nL b) a s).bind fun r=>(gC P N H L n b r.2).map fun q=>(.seq r.1 q.1,q.2)
 |n,.cond x a b,s=>(de x).bind fun x=>(gC P N H L n a s).bind fun r=>(gC P N H L (n+nL a) b r.2).map fun q=>(.cond x r.1 q.1,q.2)
 |_,.label _,s=>some (.skip,s)
 |n,.scope a,s=>(gC P N H L n a s).map fun r=>(.frz [] r.1,r.2)
 |n,.block i a,(ks::l,bs)=>(gC P N H L n a (l,bs)).map fun r=>(.block i ks r.1,r.2)
 |n,.loop a,(ks::hs::l,bs)=>(gC P N H L n a (l,bs)).map fun r=>(.loop ks hs (L.getD (n+nL a) .skip),r.2.1,(n+nL a+1,r.1)::r.2.2)
 |_,_,_=>none
noncomputable def gK (P:Program) (H:List (Nat×Nat)) (f:Func) (l:NLL) (k:Nat) (L:List Cmd):Cmd:=
 ((f.body.bind fun c=>gC P f.ntmps H L 0 c (l,[])).bind fun r=>((0,r.1)::r.2.2).lookup k).getD .skip
section
variable (d k n a b f:Nat) (op:POp) (x y:Opd) (l:List Opd) (w:Bool) (o:BinOp) (z:List AV)
theorem axo:(⟨some d,none,.p op⟩:COp)=co d op:=rfl
theorem axp:co d (.mv (.t n))=cm d n:=rfl
theorem axq:co d (.bin o (.t a) (.t b))=b2 d o a b:=rfl
theorem axr:co d (.fadr k (.t a))=fa d k a:=rfl
theorem axs:co d (.nilck (.t a))=nk d a:=rfl
theorem axt:(⟨some d,some (n,w),.p op⟩:COp)=cg d n w op:=rfl
theorem axu:(⟨some d,none,.load k false (.t a)⟩:COp)=ld d k a:=rfl
theorem axv:(⟨some d,none,.load k true (.t a)⟩:COp)=la d k a:=rfl
theorem axw:(⟨some d,none,.call (.c (.fn f [] [])) l⟩:COp)=ca d f l:=rfl
theorem axx:(⟨none,none,.store k x y⟩:COp)=sr k x y:=rfl
theorem axy:(⟨some d,none,.alloc z⟩:COp)=al d z:=rfl
theorem axz:(⟨some d,none,.box k x⟩:COp)=bx d k x:=rfl
end
noncomputable def aq (b:α) {a:α} (_:a=b:=by conv=>rhs;reduce;(try simp only[Int.reduceOfNat,Int.reduceNegSucc,axo,axp,axq,axr,axs,axt,axu,axv,axw,axx,axy,axz])):α:=a
@[go_sem] theorem aCp(b:α){a:α}(h:a=b):@aq α b a h=a:=θ _
end
end Go.Ab
