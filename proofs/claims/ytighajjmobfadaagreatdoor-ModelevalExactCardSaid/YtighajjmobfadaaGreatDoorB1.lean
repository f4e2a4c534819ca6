/-
  A law of tapes on models holds at every input that the statement speaks of, under the conditions that its card names. Part B1.
-/
import Derived.Scope
import Derived.Test.YtighajjmobfadaaGreatDoorA1
open Nat renaming le_refl → ayZ, lt_of_lt_of_le → azY, zero_add → ayX, zero_le → azH
open Bool renaming and_eq_true → ay1, and_self → azs, and_true → az1, false_eq_true → azK, true_and → ay5
open List renaming all_cons → azm, all_eq_true → azk, all_nil → azX, append_assoc → azB, append_nil → azb, cons_append → azM, getElem_mem → azo, length_cons → azp, length_drop → azQ, length_map → azW, length_nil → azx, length_take → azd, map_congr_left → azy, map_cons → azv, map_id' → azN, map_nil → azF, mem_map → azP, nil_append → ay8, replicate → ayW
open Option renaming bind_eq_some_iff → ayY, bind_some → ay2, map_eq_some_iff → ay0, map_some → azE
set_option linter.all false
namespace Go.Ab
open Go
section
variable {P:Program} {w w':World} {X:Nat→Prop} {ρ ρ':eu} {h h':ac} {s:ai} {a:Act} {call:iD} {md:Mode} {N:Nat} {ops:Array Oper} {Q:Exit→Act→World→Prop} {A A':Nat→Prop} {I:Inv}
theorem Ok.undef(ok:Ok I N w X ρ h s a){d}(hd:d.getD 0<N):Ok I N w X ρ h (gh s d .und) (a.put d undef):=
 ok.put (ks:=[]) ok.rel (.refl _ _ _) .und hd
theorem ajO{u}(hv:RV w A ρ h .und u):u=undef:=by
 cases hv with
 |und=>rfl
 |dat hd=>cases hd
theorem agY{nm}{d}{r}{t}(hz:dC nm s d r=some t):∃z h' ks,r=some (z,h',ks)/\sx nm ks=true/\t=⟨gh (kP ks s) d z,h'⟩:=by
 unfold dC at hz;grind
theorem ID(hcall:nc P I call md)(hN:N<=1000){i}{o}{co}{hint}(hget:ops[i]?=some o)(hc:It P N ops hint o=some co)(ok:Ok I N w X ρ h s a){t}(hz:mR call md co s h=some t)
  {K'} (hK:∀a' w' ρ',Ok I N w' X ρ' t.h t.s a'->Far md.nm w ρ h w' ρ' t.h->K' a' w'):wpOp P ops Q i K' a w:=by
 simp only[It,ayY]at hc;obtain⟨g,e1,op,e2,hc⟩:=hc;split at hc
 ·rename_i hcond;cases hc;simp only[ay1,decide_eq_true_eq]at hcond;have hd:=hcond.2;have run:dC md.nm s o.dst (step call md (o.dst.getD 0) op s h)=some t->o.wp P a w K' Q:=by
   grind[agY,apd]
  have skip:some ⟨gh s o.dst .und,h⟩=some t->K' (a.put o.dst undef) w:=by
   intro hf;cases hf;exact hK _ _ ρ (ok.undef hd) (.refl _ _ _ _)
  unfold wpOp;rw[hget];cases hg:o.guard with
  |none=>
   rw[hg]at e1;simp only[Kf,Option.some.injEq]at e1;subst e1
   simp_all[mR,Region.wanted,if_true]
  |some jb=>
   rw[hg]at e1;simp only[Kf,ay0]at e1;obtain⟨d,e3,rfl⟩:=e1;simp only[mR,lJ]at hz;have hv:=ok.rs d;simp only[Region.wanted,yielded,ay2, *];have cell:∀v,a.tmps.getD d Go.undef=v->v≠Go.undef->a.tmps[d]?=some v:=by
    intro v hv hne;rw[Array.getD_eq_getD_getElem?]at hv;grind
   split at hz
   ·rename_i b' hb';rw[hb']at hv;rw[cell _ hv.v_inv.1 (by simp[Go.undef])];grind
   ·rename_i hb';rw[hb']at hv;have hu:=ajO hv;rw[Array.getD_eq_getD_getElem?]at hu;grind[Go.undef]
   grind
 grind
theorem SV(hcall:nc P I call md)(hN:N<=1000):∀rest cl i {hs} {w} {ρ} {h} {s} {a} {t},(∀j o,rest[j]?=some o->ops[i+j]?=some o)->tp P N ops hs rest=some cl->Ok I N w X ρ h s a->
  aF call md cl s h=some t->(∀a' w' ρ',Ok I N w' X ρ' t.h t.s a'->Far md.nm w ρ h w' ρ' t.h->Q .normal a' w')->wpOps P ops Q (List.range' i rest.length) a w
 |[],cl,i,hs,w,ρ,h,s,a,t,_,hc,ok,hz,hQ=>by
  simp only[tp,Option.some.injEq]at hc;subst hc;cases hz;exact hQ _ _ ρ ok (.refl _ _ _ _)
 |o::rest,cl,i,hs,w,ρ,h,s,a,t,hg,hc,ok,hz,hQ=>by
  simp only[tp,ayY]at hc;obtain⟨co,e1,q,e2,e3⟩:=hc;cases e3;simp only[aF,bq]at hz;split at hz
  ·grind
  ·rename_i t1 ht1;exact ID hcall hN (by simpa using hg 0 o rfl) e1 ok ht1 fun a' w' ρ' ok' far=>
    SV hcall hN rest q (i+1) (fun j o' hj=>by rw[show i+1+j=i+(j+1)from by omega];simp_all) e2 ok' hz fun a'' w'' ρ'' ok'' far'=>hQ _ _ ρ'' ok'' (far.trans far')
theorem LU{α}(d)(f:Nat->α):∀l i,mk d f l i=if i∈l then f i else d
 |[],i=>by simp[mk]
 |j::l,i=>by
  simp only[mk,upd,LU d f l i,List.mem_cons];by_cases e:i=j
  ·subst e;simp
  ·simp[e]
theorem RS.some(hs:RS w A ρ h s a.tmps){s'}(he:∀i,s' i=s i\/s' i=.any):RS w A ρ h s' a.tmps:=fun i=>by
 rcases he i with e|e
 ·rw[e];exact hs i
 ·rw[e];exact .anyv _
theorem Ok.some(ok:Ok I N w X ρ h s a){s'}(he:∀i,s' i=s i\/s' i=.any):Ok I N w X ρ h s' a:=⟨ok.rel,ok.rs.some he,ok.size,ok.defers,ok.inv⟩
theorem RV.knownL{l}{c}{u}(hv:RV w A ρ h c u)(hA:∀b,A b->A' b/\w'.heap[b]?=w.heap[b]?)(hk:∀id sub,cG h id sub->l.contains id=true->cG h' id sub/\ρ' id sub=ρ id sub)(hm:knownL l c=true):RV w' A' ρ' h' c u:=by
 cases hv with
 |anyv u=>exact .anyv u
 |und=>exact .und
 |dat hd=>exact .dat (hd.mono hA)
 |ref id sub k i j hp=>
  obtain⟨h1,h2⟩:=hk id sub hp hm;rw[←h2];exact .ref id sub k i j h1
 |rsl id sub k lo n cap a hp hn hb ha=>
  obtain⟨h1,h2⟩:=hk id sub hp hm;exact .rsl id sub k lo n cap a h1 hn γ γ
 |rsc id k lo n cap a hp hn hb ha=>grind[Ab.knownL]
 |ipt cs ad vals hA' hs hv hl hr=>
  exact .ipt cs ad vals (hA _ hA').1 hs (fun j c hc=>by rw[pH (w:=w) (w':=w') (by rw[pF];grind)];grind) hl (fun j c hc=>(hr j c hc).mono hA)
 |agg cs us hs h1 hr=>grind[Ab.knownL]
 |tup vs us hs hr=>grind[Ab.knownL]
 |fn f x y us ts hs ht hx hy=>
  simp[Ab.knownL]at hm;obtain⟨rfl,rfl⟩:=hm;exact .fn f [] [] us ts hs ht (fun i c u hc=>by grind) (fun i c u hc=>by grind)
theorem RV.knownA{l}{c}{u}(hv:RV w A ρ h c u)(hA:∀b,A b->A' b/\w'.heap[b]?=w.heap[b]?)(hk:∀id sub,cG h id sub->l.contains id=true->cG h' id sub/\ρ' id sub=ρ id sub)(hm:knownA l c=true):RV w' A' ρ' h' c u:=by
 cases c with
 |agg cs=>
  simp only[Ab.knownA,azk]at hm;cases hv with
  |dat hd=>exact .dat (hd.mono hA)
  |agg _ us hs h1 hr=>exact .agg cs us hs h1 fun i c u hc hu=>(hr i c u hc hu).knownL hA hk (hm c (List.mem_of_getElem? hc))
 |fn f x y=>
  simp only[Ab.knownA,ay1,azk]at hm;cases hv with
  |dat hd=>exact .dat (hd.mono hA)
  |fn _ _ _ us ts hs ht hx hy=>exact .fn f x y us ts hs ht (fun i c u hc hu=>(hx i c u hc hu).knownL hA hk (hm.1 c (List.mem_of_getElem? hc))) (fun i c u hc hu=>(hy i c u hc hu).knownL hA hk (hm.2 c (List.mem_of_getElem? hc)))
 |_=>exact hv.knownL hA hk hm
theorem Db{l}{c}(hc:bo l c=true):knownL l c=true:=by
 cases c<;>simp[bo,knownL]at hc⊢ <;>first|exact hc.1|exact hc
theorem TW{l}{c}(hc:aZ l c=true):knownA l c=true:=by
 cases c with
 |agg cs=>
  grind[aZ,knownA,azk,Db]
 |fn f x y=>
  simp_all[aZ,knownA,ay1,azk,Db]
 |_=>
  simp only[aZ,knownA]at hc⊢;exact Db hc
theorem Vx(nm)(r:Rel w X ρ h){hs}(hcl:∀id,id∈hs->aA hs (h id)=true):Rel w X ρ (mk .dead h hs)/\Far nm w ρ h w ρ (mk .dead h hs)/\
  ∀ {c} {u},RV w (aJ w X h ρ) ρ h c u->knownA hs c=true->RV w (aJ w X (mk .dead h hs) ρ) ρ (mk .dead h hs) c u:=by
 have at_:∀id,id∈hs->mk .dead h hs id=h id:=fun id hi=>by rw[LU,if_pos hi]
 have not_:∀id,id∉hs->mk .dead h hs id=.dead:=fun id hi=>by rw[LU,if_neg hi]
 have hl:∀id sub,live (mk .dead h hs) id sub->id∈hs/\live h id sub:=by
  intro id sub h1;by_cases hi:id∈hs
  ·grind[dw]
  ·have:=not_ id hi;cases sub<;>simp[live,this]at h1
 have hA:∀b,aJ w X h ρ b->aJ w X (mk .dead h hs) ρ b/\w.heap[b]?=w.heap[b]?:=fun b hb=>⟨⟨hb.1,hb.2.1,fun⟨id,sub,h1,h2⟩=>hb.2.2 ⟨id,sub,(hl id sub h1).2,h2⟩⟩,rfl⟩;have hk:∀id sub,cG h id sub->hs.contains id=true->cG (mk .dead h hs) id sub/\ρ id sub=ρ id sub:=fun id sub hp hi=>⟨(fV (at_ id γ)).2 hp,rfl⟩;have far:Far nm w ρ h w ρ (mk .dead h hs):=by
  refine⟨rfl,rfl,rfl,ayZ _,fun _ _ _=>rfl,fun b ⟨id,sub,h1,h2⟩=>.inl ⟨id,sub,(hl id sub h1).2,h2⟩,fun id _ hd=>⟨fun e=>?_,rfl⟩,fun _ id p _ hd hp=>⟨?_,rfl⟩⟩
  all_goals grind
 refine⟨⟨fun a b c d h1 h2=>r.inj a b c d (hl a b h1).2 (hl c d h2).2,fun a b h1=>r.nx a b (hl a b h1).2,fun id=>?_,r.xl⟩,far,fun hv hc=>hv.knownA hA hk hc⟩;by_cases hi:id∈hs
 ·have ho:=r.ob id;have hc:=hcl id hi;rw[at_ id hi];cases e:h id with
  |dead=>trivial
  |bx cs=>
   rw[e]at ho hc;obtain⟨us,t,h1,h2,h3,h4⟩:=ho;refine⟨us,t,h1,h2,h3,fun p c hcp=>?_⟩;obtain⟨u,h5,h6⟩:=h4 p c hcp;refine⟨u,h5,?_⟩;simp only[aA,azk]at hc;have hcc:=hc c (List.mem_of_getElem? hcp);cases hO:bm c with
   |true=>
    cases c<;>simp[bm]at hO;obtain⟨a,cap,us',t',g1,g2,g3,g4,g5,g6,g7⟩:=h6;exact⟨a,cap,us',t',g1,g2,g3,g4,g5,g6,g7.mono hA⟩
   |false=>
    rw[vB hO]at h6⊢;have hca:aZ hs c=true:=by grind[jk]
    refine⟨h6.1.knownA hA hk (TW hca),h6.2.1,?_⟩;have h7:=h6.2.2;cases c<;>try exact h7
    simp_all[aZ,bo,nR]
  |ar k rows=>
   rw[e]at ho;obtain⟨us,t,h1,h2,h3,h4⟩:=ho;exact⟨us,t,h1,h2,h3,h4.mono hA⟩
  |fz k rows=>
   rw[e]at ho;obtain⟨h0,us,t,fr,h1,h2,h3,h4⟩:=ho;exact⟨(hA _ h0).1,us,t,fr,h1,h2,h3,h4.mono hA⟩
 ·rw[not_ id hi];trivial
end
def exo:Ex->Exit
 | .normal=>.normal
 | .exit id=>.exit id
 | .ret=>.ret
def SW(P:Program)(I:Inv)(call:iD)(md:Mode)(N:Nat):Prop:=
 ∀ {id} {ops} {hs cl} {w} {X} {ρ} {h} {s} {a} {t} {ps} {Q},tp P N ops hs ops.toList=some cl->Vq ops.toList cl ps=true->Ok I N w X ρ h s a->sz call md cl ps s h=some t->
  (∀a' w' ρ',Ok I N w' X ρ' t.h t.s a'->Far md.nm w ρ h w' ρ' t.h->Q .normal a' w')->(Code.region id ops true).wp P Q a w
section
variable {P:Program} {X:Nat→Prop} {call:iD} {md:Mode} {N:Nat} {I:Inv} {nm:Bool}
theorem Km(s:ai)(ks)(i):mk .any s ks i=s i\/mk .any s ks i=.any:=by
 grind[LU]
theorem ab2(hs)(a):(gS hs a=a/\knownA hs a=true)\/gS hs a=.any:=by
 grind[gS]
theorem adZ{w}{ρ}{h}{s}{a}(ok:Ok I N w X ρ h s a){ks hs}(hcl:(hs.all fun a=>aA hs (h a))=true):
  Ok I N w X ρ (mk .dead h hs) (mk .any (fun i=>gS hs (s i)) ks) a/\Far nm w ρ h w ρ (mk .dead h hs):=by
 obtain⟨h1,h2,h3⟩:=Vx nm ok.rel (hs:=hs) (fun id hi=>List.all_eq_true.1 hcl id hi);refine⟨⟨h1,fun i=>?_,ok.size,ok.defers,ok.inv⟩,h2⟩;rcases Km (fun i=>gS hs (s i)) ks i with e|e
 ·rw[e];rcases ab2 hs (s i)with⟨e2,e3⟩|e2
  ·rw[e2];exact h3 (ok.rs i) e3
  ·rw[e2];exact .anyv _
 ·rw[e];exact .anyv _
def SX(P:Program)(I:Inv)(nm:Bool)(X:Nat->Prop)(N:Nat)(f:ai->ac->Option (Ex×St))(c:Code):Prop:=
 ∀ {s} {h} {e} {t} {w} {ρ} {a} {Q},f s h=some (e,t)->Ok I N w X ρ h s a->(∀a' w' ρ',Ok I N w' X ρ' t.h t.s a'->Far nm w ρ h w' ρ' t.h->Q (exo e) a' w')->c.wp P Q a w
theorem O3{body}{c}(hb:SX P I nm X N body c){ks hs}:∀n {s} {h} {e} {t} {w} {ρ} {a} {Q},
  uu body ks hs n s h=some (e,t)->Ok I N w X ρ h s a->(∀a' w' ρ',Ok I N w' X ρ' t.h t.s a'->Far nm w ρ h w' ρ' t.h->Q (exo e) a' w')->Code.rounds P c Q n a w
 |0,s,h,e,t,w,ρ,a,Q,hz,_,_=>by grind[uu]
 |n+1,s,h,e,t,w,ρ,a,Q,hz,ok,hQ=>by
  simp only[uu]at hz;split at hz
  ·rename_i hcl;obtain⟨ok1,far1⟩:=adZ ok (ks:=ks) hcl;split at hz
   ·rename_i t1 ht1;exact hb ht1 ok1 fun a' w' ρ' ok2 far2=>O3 hb n hz ok2 fun a'' w'' ρ'' ok3 far3=>hQ _ _ ρ'' ok3 (far1.trans (far2.trans far3))
   ·rename_i r hne;refine hb hz ok1 fun a' w' ρ' ok2 far2=>?_;have:=hQ a' w' ρ' ok2 (far1.trans far2);cases e with
    |normal=>exact absurd hz (hne t)
    |exit id=>exact this
    |ret=>exact this
  ·cases hz
theorem ab3{i}{w}{ρ}{h}{s}{a}{r}(ok:Ok I N w X ρ h s a)(hz:QN i s h (s i)=some r)(hnm:sx nm r.2.2=true):
  Ok I N w X ρ r.2.1 r.1 a/\Far nm w ρ h w ρ r.2.1:=by
 have hv:=ok.rs i;cases hi:s i<;>rw[hi]at hz hv<;>simp only[QN]at hz<;>try (cases hz;done)
 case sl=>cases hz;exact⟨ok,.refl _ _ _ _⟩
 case rsl id sub k lo n=>
  simp only[ay0]at hz;obtain⟨q,e1,rfl⟩:=hz;obtain⟨x,h',ks⟩:=q;have h1:(a.tmps.getD i undef).oneCell'=true:=by
   obtain⟨_,_,e,_⟩:=hv.rsl_inv;rw[e];rfl
  obtain⟨g1,g2,g3,g4⟩:=zX ok.rel hv (fun b hb=>hb) h1 e1;refine⟨⟨g1,fun j=>?_,ok.size,ok.defers,g2.inv ok.rel ok.inv⟩,g2.far hnm⟩;show RV w (aJ w X h' ρ) ρ h' (upd (kP ks s) i x j) _;rw[cj];split
  ·rename_i hj;subst hj;exact .dat g3
  ·exact g2.rs ok.rs j
 case ref id sub k j l=>
  cases sub with
  |some p=>grind
  |none=>
   simp only at hz;cases ho:h id<;>rw[ho]at hz<;>simp only at hz<;>try (cases hz;done)
   cases hz;rename_i cs;obtain⟨g1,g2⟩:=Kh (ds:=cs.map jC) ok.rel ho σ fun p c hc=>by
    grind[bm,ZH]
   exact⟨⟨g1,g2.rs ok.rs,ok.size,ok.defers,g2.inv ok.rel ok.inv⟩,g2.far hnm⟩
theorem YW{w}{ρ}{h}{s}{a}(ok:Ok I N w X ρ h s a)(x):Ok I N w X ρ (Ir h x) s a/\Far nm w ρ h w ρ (Ir h x):=by
 have id':Ok I N w X ρ h s a/\Far nm w ρ h w ρ h:=⟨ok,.refl _ _ _ _⟩;unfold Ir;split
 ·rename_i id k' lo n;split
  ·rename_i k rows e;obtain⟨s1,s2⟩:=adS (m:=lo+n) ok.rel e;exact⟨⟨s1,s2.rs ok.rs,ok.size,ok.defers,s2.inv ok.rel ok.inv⟩,s2.far (qA _)⟩
  omega
 omega
theorem MR{g}{w}{ρ}{h}{s}{a}{t}(ok:Ok I N w X ρ h s a)(hz:uG nm g s h=some t):∃ρ',Ok I N w X ρ' t.h t.s a/\Far nm w ρ h w ρ' t.h:=by
 cases g with
 |zero=>
  cases hz;exact⟨ρ,ok,.refl _ _ _ _⟩
 |succ i=>
  simp only[uG,ayY]at hz;obtain⟨r,e1,e2⟩:=hz;split at e2
  ·rename_i hnm;cases e2;have hv:=ok.rs i;cases hi:s i<;>rw[hi]at e1 hv<;>simp only[SM]at e1<;>try (cases e1;done)
   ·cases e1;exact⟨ρ,ok,.refl _ _ _ _⟩
   ·rename_i id sub k lo n;cases sub with
    |none=>grind
    |some p=>
    simp only at e1;split at e1
    ·rename_i hps;cases eo:h id<;>rw[eo]at e1<;>simp only[ZF]at e1<;>try (cases e1;done)
     rename_i cs;cases ec:cs[p]? with
     |none=>grind[OR]
     |some c=>
      rw[ec]at e1;cases c<;>simp only[OR]at e1<;>try (cases e1;done)
      split at e1
      ·rename_i hc;obtain⟨rfl,rfl,rfl,hd⟩:=hc;have hd':h i=.dead:=by cases hh:h i<;>rw[hh]at hd<;>first|rfl|cases hd
       cases e1;obtain⟨m1,m2⟩:=abS ok.rel eo ec hps hd';obtain⟨ad,cap,e4,q2,q3,q4,q5⟩:=hv.rsl_inv;refine⟨_,⟨m1,fun j=>?_,ok.size,ok.defers,m2.inv ok.rel ok.inv⟩,m2.far hnm⟩;show RV w _ _ _ (upd (kP [(id,true)] s) i _ j) _;rw[cj];split
       ·rename_i hj;subst hj;rw[e4];refine .rsl _ none _ 0 _ cap ad (by simp[cG,aB]) q3 (by grind[bL]) ?_;grind[bL]
       ·exact m2.rs ok.rs j
      grind
    grind
  grind
theorem ab4{i}{w}{ρ}{h}{s}{a}{r}(ok:Ok I N w X ρ h s a)(hz:QO i s h (s i)=some r)(hnm:sx nm r.2.2=true):
  ∃ρ',Ok I N w X ρ' r.2.1 r.1 a/\Far nm w ρ h w ρ' r.2.1:=by
 have hv:=ok.rs i;have key:∀ {id k lo n},(∃ad cap,a.tmps.getD i undef=.slice ad n cap/\n<=cap/\(lo+cap)*k=(ρ id none).2/\(cap=0\/ad=some ⟨(ρ id none).1,lo*k,none⟩))->Kb i s h id k lo n (h id)=some r->
   ∃ρ',Ok I N w X ρ' r.2.1 r.1 a/\Far nm w ρ h w ρ' r.2.1:=by
  intro id k lo n ⟨ad,cap,e4,q3,q4,q5⟩ e1;cases eo:h id<;>rw[eo]at e1<;>simp only[Kb]at e1<;>try (cases e1;done)
  split at e1
  ·rename_i hc;obtain⟨rfl,rfl,hps,hd⟩:=hc;have hd':h i=.dead:=by cases hh:h i<;>rw[hh]at hd<;>first|rfl|cases hd
   cases e1;obtain⟨m1,m2⟩:=amD ok.rel eo hps hd';refine⟨_,⟨m1,fun j=>?_,ok.size,ok.defers,m2.inv ok.rel ok.inv⟩,m2.far hnm⟩;show RV w _ _ _ (upd (kP [(id,false)] s) i _ j) _;rw[cj];split
   ·rename_i hj;subst hj;rw[e4];refine .rsl _ none _ 0 _ cap ad (by simp[cG,aB]) q3 (by grind[bL]) ?_;grind[bL]
   ·exact m2.rs ok.rs j
  grind
 cases hi:s i<;>rw[hi]at hz hv<;>simp only[QO]at hz<;>try (cases hz;done)
 ·cases hz;exact⟨ρ,ok,.refl _ _ _ _⟩
 ·rename_i id sub k lo n;cases sub with
  |some p=>grind
  |none=>
  obtain⟨ad,cap,e4,q2,q3,q4,q5⟩:=hv.rsl_inv;exact key ⟨ad,cap,e4,q3,q4,q5⟩ hz
 ·rename_i id k lo n c;obtain⟨ad,e4,q2,q3,q4,q5⟩:=hv.rsc_inv;exact key ⟨ad,c,e4,q3,q4,q5⟩ hz
theorem zZ:∀is {w} {ρ} {h} {s} {a} {t},Ok I N w X ρ h s a->Bq nm is s h=some t->∃ρ',Ok I N w X ρ' t.h t.s a/\Far nm w ρ h w ρ' t.h
 |[],w,ρ,h,s,a,t,ok,hz=>by cases hz;exact⟨ρ,ok,.refl _ _ _ _⟩
 |i::l,w,ρ,h,s,a,t,ok,hz=>by
  unfold Bq at hz;split at hz
  ·simp only[ayY]at hz;obtain⟨r,e1,e2⟩:=hz;split at e2
   ·rename_i hn;obtain⟨ρ1,g1,g2⟩:=ab4 ok e1 hn;obtain⟨ρ2,f1,f2⟩:=zZ l g1 e2;exact⟨ρ2,f1,g2.trans f2⟩
   grind
  ·split at hz
   ·obtain⟨g1,g2⟩:=YW (nm:=nm) ok (s (i-100000));obtain⟨ρ2,f1,f2⟩:=zZ l g1 hz;exact⟨ρ2,f1,g2.trans f2⟩
   ·simp only[ayY]at hz;obtain⟨r,e1,e2⟩:=hz;split at e2
    ·rename_i hn;obtain⟨g1,g2⟩:=ab3 ok e1 hn;obtain⟨ρ2,f1,f2⟩:=zZ l g1 e2;exact⟨ρ2,f1,g2.trans f2⟩
    grind
theorem ab5(hcall:nc P I call md)(hN:N<=1000)(hD:SW P I call md N)(lf):∀cmd c,iF P N c cmd=some cmd->SX P I md.nm X N (cI call md lf cmd) c:=by
 intro cmd;induction cmd with
 |skip=>
  intro c hc s h e t w ρ a Q hz ok hQ;cases c<;> (try simp only[iF]at hc)<;> (try (cases hc;done))
  ·obtain⟨rfl,rfl⟩:=hz;exact wp_skip (hQ _ _ ρ ok (.refl _ _ _ _))
  all_goals first
   | (obtain⟨rfl,rfl⟩:=hz;exact wp_label (hQ _ _ ρ ok (.refl _ _ _ _)))
   | (exfalso;revert hc;simp[ayY])
 |ops ks l=>
  intro c hc s h e t w ρ a Q hz ok hQ;by_cases hrf:∃m,c=.refuse m
  ·have hl:l=[⟨none,none,.bad⟩]:=by
    unfold iF at hc;grind
   simp_all[cI,aF,mR,dC,step,bq]
  cases c<;> (try (exact absurd ⟨_,rfl⟩ hrf))<;> (try simp only[iF]at hc)<;> (try (cases hc;done));rename_i id ops dr;cases dr<;> (try simp only[iF]at hc)<;> (try (cases hc;done));simp only[ay0]at hc;obtain⟨l',h1,h2⟩:=hc;cases h2;simp only[cI,bq]at hz;split at hz
  ·grind
  ·rename_i t1 ht1;obtain⟨rfl,rfl⟩:=hz;refine wp_region ?_;rw[List.range_eq_range',show ops.size=ops.toList.length from Array.length_toList.symm];exact SV hcall hN ops.toList l 0 (fun j o hj=>by grind) h1 ok ht1 fun a' w' ρ' ok' far=>hQ _ _ ρ' (ok'.some (Km _ _)) far
 |dops ks l ps=>
  intro c hc s h e t w ρ a Q hz ok hQ;cases c<;> (try simp only[iF]at hc)<;> (try (cases hc;done));rename_i id ops dr;cases dr<;> (try simp only[iF]at hc)<;> (try (cases hc;done));simp only[ayY]at hc;obtain⟨l',h1,h2⟩:=hc;split at h2
  ·rename_i hps;cases h2;simp only[cI,bq]at hz;split at hz
   ·grind
   ·rename_i t1 ht1;obtain⟨rfl,rfl⟩:=hz;exact hD h1 hps ok ht1 fun a' w' ρ' ok' far=>hQ _ _ ρ' (ok'.some (Km _ _)) far
  grind
 |seq x y ihx ihy=>
  intro c hc s h e t w ρ a Q hz ok hQ;cases c<;> (try simp only[iF]at hc)<;> (try (cases hc;done));simp only[ayY,ay0]at hc;obtain⟨c1,h1,c2,h2,h3⟩:=hc;cases h3;simp only[cI,cH]at hz;refine wp_seq ?_;split at hz
  ·grind
  ·rename_i t1 ht1;exact ihx _ h1 ht1 ok fun a' w' ρ' ok1 far1=>ihy _ h2 hz ok1 fun a'' w'' ρ'' ok2 far2=>hQ _ _ ρ'' ok2 (far1.trans far2)
  ·rename_i i t1 ht1;cases hz;exact ihx _ h1 ht1 ok fun a' w' ρ' ok1 far1=>hQ a' w' ρ' ok1 far1
  ·rename_i t1 ht1;cases hz;exact ihx _ h1 ht1 ok fun a' w' ρ' ok1 far1=>hQ a' w' ρ' ok1 far1
 |cond b x y ihx ihy=>
  intro c hc s h e t w ρ a Q hz ok hQ;cases c<;> (try simp only[iF]at hc)<;> (try (cases hc;done));simp only[ayY,ay0]at hc;obtain⟨b',h0,c1,h1,c2,h2,h3⟩:=hc;cases h3;simp only[cI]at hz;have hv:=bh h0 ok.rs;unfold sA at hz;split at hz
  ·rename_i tt htt;rw[htt]at hv;refine wp_cond hv.v_inv.1 ?_;cases tt with
   |true=>exact ihx _ h1 hz ok hQ
   |false=>exact ihy _ h2 hz ok hQ
  grind
 |block id ks x ih=>
  intro c hc s h e t w ρ a Q hz ok hQ;cases c<;> (try simp only[iF]at hc)<;> (try (cases hc;done));simp only[ay0]at hc;obtain⟨c1,h1,h3⟩:=hc;cases h3;simp only[cI]at hz;refine wp_block ?_;unfold ah at hz;split at hz
  ·grind
  ·rename_i t1 ht1;cases hz;exact ih _ h1 ht1 ok fun a' w' ρ' ok1 far1=>hQ a' w' ρ' (ok1.some (Km _ _)) far1
  ·rename_i i t1 ht1;refine ih _ h1 ht1 ok fun a' w' ρ' ok1 far1=>?_;split at hz
   ·rename_i hi;cases hz;have:=hQ a' w' ρ' (ok1.some (Km _ _)) far1;grind[exo,Exit.inBlock]
   grind[exo,Exit.inBlock]
  ·rename_i t1 ht1;cases hz;exact ih _ h1 ht1 ok fun a' w' ρ' ok1 far1=>hQ a' w' ρ' ok1 far1
 |loop ks hs x ih=>
  intro c hc s h e t w ρ a Q hz ok hQ;cases c<;> (try simp only[iF]at hc)<;> (try (cases hc;done));simp only[ay0]at hc;obtain⟨c1,h1,h3⟩:=hc;cases h3;exact wp_loop_rounds lf (O3 (ih _ h1) lf hz ok hQ)
 |exit id=>
  intro c hc s h e t w ρ a Q hz ok hQ;cases c<;> (try simp only[iF]at hc)<;> (try (cases hc;done));cases hc;obtain⟨rfl,rfl⟩:=hz;exact wp_exit (hQ _ _ ρ ok (.refl _ _ _ _))
 |ret=>
  intro c hc s h e t w ρ a Q hz ok hQ;cases c<;> (try simp only[iF]at hc)<;> (try (cases hc;done));obtain⟨rfl,rfl⟩:=hz;exact wp_ret (hQ _ _ ρ ok (.refl _ _ _ _))
 |frz is x ih=>
  intro c hc s h e t w ρ a Q hz ok hQ;by_cases hsc:∃d,c=.scope d
  ·obtain⟨d,rfl⟩:=hsc;have hc':(iF P N d x).map (Cmd.frz is)=some (.frz is x):=by
    grind[iF]
   simp only[ay0]at hc';obtain⟨c1,h1,h3⟩:=hc';cases h3;simp only[cI,bq]at hz;split at hz
   ·grind
   ·rename_i t1 ht1;obtain⟨ρ1,ok1,far1⟩:=zZ is ok ht1;refine wp_scope_straight (ih _ h1 hz ok1 fun a' w' ρ' ok2 far2=>?_);have:=hQ a' w' ρ' ok2 (far1.trans far2);cases e<;>exact this
  have hc':(iF P N c x).map (Cmd.frz is)=some (.frz is x):=by
   cases c<;>first|exact absurd ⟨_,rfl⟩ hsc|exact hc| (rename_i b;cases b<;>exact hc)
  simp only[ay0]at hc';obtain⟨c1,h1,h3⟩:=hc';cases h3;simp only[cI,bq]at hz;split at hz
  ·grind
  ·rename_i t1 ht1;obtain⟨ρ1,ok1,far1⟩:=zZ is ok ht1;exact ih _ h1 hz ok1 fun a' w' ρ' ok2 far2=>hQ a' w' ρ' ok2 (far1.trans far2)
end
def qQ(P:Program)(I:Inv)(kp:Bool)(f:FuncId)(g:List AV->List Ob->Option (AV×List Ob)):Prop:=
 ∀ {args} {obs obs'} {res} {w} {X} {ρ} {vals} {n},g args obs=some (res,obs')->2000<=n->I.p w X->Rel w X ρ (am obs)->vals.size=args.length->
  (∀ (i:Nat) c u,args[i]?=some c->vals[i]?=some u->RV w (aJ w X (am obs) ρ) ρ (am obs) c u)->
  Enters P f vals w fun v w'=>∃ρ',Rel w' X ρ' (mat n (am obs') res).2/\Far kp w ρ (am obs) w' ρ' (mat n (am obs') res).2/\RV w' (aJ w' X (mat n (am obs') res).2 ρ') ρ' (mat n (am obs') res).2 (mat n (am obs') res).1 v
def CM(tmps:Array Value):ResultVar->Sem Value
 | .tmp t=>pure (tmps.getD t Go.undef)
 | .cell c t=>do loadVar t (←asAddr (tmps.getD c Go.undef))
section
variable {P:Program} {w w':World} {X:Nat→Prop} {ρ ρ':eu} {h h':ac} {s:ai} {a:Act} {call:iD} {md:Mode} {N:Nat}
theorem MS:∀rs l {h h'} {s} {vs} {ks},Iw P rs=some l->Rel w X ρ h->RS w (aJ w X h ρ) ρ h s a.tmps->Cv s h l=some (vs,h',ks)->
  ∃us,(rs.mapM (CM a.tmps)).run P w=.ok us w/\us.length=vs.length/\Rel w X ρ h'/\Evo w ρ h w ρ h' ks/\
   ∀ (i:Nat) c u,vs[i]?=some c->us[i]?=some u->RV w (aJ w X h' ρ) ρ h' c u
 |[],l,h,h',s,vs,ks,hc,r,hs,hz=>by
  simp only[Iw,Option.some.injEq]at hc;subst hc;obtain⟨rfl,rfl,rfl⟩:=hz;exact⟨[],rfl,rfl,r,.refl _ _ _,fun i c u hc=>by grind⟩
 |x::rs,l,h,h',s,vs,ks,hc,r,hs,hz=>by
  have step1:∃rv l',l=rv::l'/\Iw P rs=some l'/\∀ {z} {h1} {k1},amu s h rv=some (z,h1,k1)->∃v,(CM a.tmps x).run P w=.ok v w/\
    Rel w X ρ h1/\Evo w ρ h w ρ h1 k1/\RV w (aJ w X h1 ρ) ρ h1 z v:=by
   cases x with
   |tmp t=>
    simp only[Iw,ay0]at hc;obtain⟨l',h1,rfl⟩:=hc;refine⟨_,l',rfl,h1,fun{z h1 k1} e=>?_⟩;obtain⟨rfl,rfl,rfl⟩:=e;exact⟨_,rfl,r,.refl _ _ _,hs t⟩
   |cell c t=>
    simp only[Iw,ayY]at hc;obtain⟨g,g1,k,g2,hc⟩:=hc;split at hc
    ·simp only[ay0]at hc;obtain⟨l',h1,rfl⟩:=hc;refine⟨_,l',rfl,h1,fun{z h1 k1} e=>?_⟩;obtain⟨ad,v,q1,q2,q3,q4,q5⟩:=MO (P:=P) r g1 g2 (hs c) e;refine⟨v,?_,q3,q4,q5⟩;simp only[CM];rw[q1];exact q2
    grind
  obtain⟨rv,l',rfl,hc',key⟩:=step1;simp only[Cv,ayY]at hz;obtain⟨⟨z,h1,k1⟩,e1,⟨vs',h2,k2⟩,e2,e3⟩:=hz;cases e3;obtain⟨v,f1,f2,f3,f4⟩:=key e1;obtain⟨us,g1,g2,g3,g4,g5⟩:=MS rs l' hc' f2 (f3.rs hs) e2;refine⟨v::us,by simp_all,by grind,g3,f3.trans g4,fun i c u hc hu=>?_⟩;cases i with
  |zero=>
   simp only[List.getElem?_cons_zero,Option.some.injEq]at hc hu;subst hc hu;cases k2 with
   |nil=>exact g4.rv f4
   |cons p k2=>
    simp only[Vm,uF];split
    ·exact .anyv _
    ·exact g4.rvk f4 (.inr γ)
  |succ i=>grind
end
structure Emb (L:List Nat) (f g:Nat->Nat) (h' h2:ac):Prop where
 back:∀id,L.contains id=true->g (f id)=id/\h2 (f id)=dT f (h' id)
 obj:∀i,h2 i≠ .dead->h2 i=dT f (h' (g i))/\aA L (h' (g i))=true
 inj:∀i j,h2 i≠ .dead->h2 j≠ .dead->g i=g j->i=j
section
variable {w:World} {X:Nat→Prop} {ρ:eu} {h' h2:ac} {A A2:Nat→Prop} {L:List Nat} {f g:Nat→Nat}
theorem Kn{o}:dT f o=.dead↔o=.dead:=by cases o<;>simp[dT]
theorem ZJ(o):bf (dT f o)=bf o:=by cases o<;>rfl
theorem agZ{c}{k}{rows}:dS f c=.osl k rows↔c=.osl k rows:=by cases c<;>simp[dS,kr]
theorem ad0(c):bm (dS f c)=bm c:=by cases c<;>rfl
theorem RV.embL(em:Emb L f g h' h2){c}{u}(hv:RV w A ρ h' c u)(hA:∀b,A b->A2 b)(hm:bo L c=true):RV w A2 (fun i s=>ρ (g i) s) h2 (kr f c) u:=by
 cases hv with
 |anyv u=>exact .anyv u
 |und=>exact .und
 |dat hd=>
  have:kr f c=c:=by cases hd<;>rfl
  rw[this];exact .dat (hd.mono fun b hb=>⟨hA b hb,rfl⟩)
 |ref id sub k i j hp=>
  simp only[bo,ay1]at hm;obtain⟨h1,h3⟩:=em.back id hm.1;cases sub with
  |some p=>grind
  |none=>
   have:=RV.ref (w:=w) (A:=A2) (ρ:=fun i s=>ρ (g i) s) (h:=h2) (f id) none k i j (by simp only[cG,h3,ne_eq,Kn];exact hp);simp only[h1]at this;exact this
 |rsl id sub k lo n cap a hp hn hb ha=>
  simp only[bo,ay1]at hm;obtain⟨h1,h3⟩:=em.back id hm.1;cases sub with
  |some p=>grind
  |none=>exact .rsl (f id) none k lo n cap a (by simp only[cG,h3,ne_eq,Kn];exact hp) hn γ γ
 |rsc id k lo n cap a hp hn hb ha=>simp[bo]at hm
 |ipt cs ad vals hA' hs hv hl hr=>exact .ipt cs ad vals (hA _ hA') hs hv hl (fun j c hc=>(hr j c hc).mono fun b hb=>⟨hA b hb,rfl⟩)
 |agg cs us hs h1 hr=>simp[bo]at hm
 |tup vs us hs hr=>simp[bo]at hm
 |fn ff x y us ts hs ht hx hy=>
  simp[bo]at hm;obtain⟨rfl,rfl⟩:=hm;exact .fn ff [] [] us ts hs ht (fun i c u hc=>by grind) (fun i c u hc=>by grind)
theorem RV.embA(em:Emb L f g h' h2){c}{u}(hv:RV w A ρ h' c u)(hA:∀b,A b->A2 b)(hm:aZ L c=true):RV w A2 (fun i s=>ρ (g i) s) h2 (dS f c) u:=by
 cases c with
 |agg cs=>
  simp only[aZ,azk]at hm;obtain⟨us,rfl,hs,h1,hr⟩:=hv.agg_inv;refine .agg _ us γ h1 fun i c u hc hu=>?_;simp only[List.getElem?_map,ay0]at hc;obtain⟨c',hc',rfl⟩:=hc;exact(hr i c' u hc' hu).embL em hA (hm c' (List.mem_of_getElem? hc'))
 |fn ff x y=>
  simp only[aZ,ay1,azk]at hm;obtain⟨us,ts,rfl,hs,ht,hx,hy⟩:=hv.fn_inv;refine .fn ff _ _ us ts γ γ (fun i c u hc hu=>?_) (fun i c u hc hu=>?_)
  ·simp only[List.getElem?_map,ay0]at hc;obtain⟨c',hc',rfl⟩:=hc;exact(hx i c' u hc' hu).embL em hA (hm.1 c' (List.mem_of_getElem? hc'))
  ·simp only[List.getElem?_map,ay0]at hc;obtain⟨c',hc',rfl⟩:=hc;exact(hy i c' u hc' hu).embL em hA (hm.2 c' (List.mem_of_getElem? hc'))
 |_=>
  exact hv.embL em hA hm
theorem Emb.live(em:Emb L f g h' h2){i}{s}(hl:live h2 i s):live h' (g i) s/\h2 i≠ .dead:=by
 have hd:h2 i≠ .dead:=adD hl|>fun hp=>by
  cases s with
  |none=>exact hp
  |some p=>obtain⟨_,_,_,e,_⟩:=hp;grind
 obtain⟨e,_⟩:=em.obj i hd;refine⟨?_,hd⟩;cases s with
 |none=>
  simp only[Ab.live,e]at hl;simp only[Ab.live];cases e2:h' (g i)<;>rw[e2]at hl<;>simp[dT]at hl⊢
 |some p=>
  obtain⟨cs,k,rows,e1,e2⟩:=hl;rw[e]at e1;cases e3:h' (g i)<;>rw[e3]at e1<;>simp only[dT]at e1<;>try (cases e1;done)
  rename_i cs';cases e1;simp only[List.getElem?_map,ay0]at e2;obtain⟨c,e4,e5⟩:=e2;exact⟨cs',k,rows,e3,by rw[e4,agZ.1 e5]⟩
theorem Rel.emb(em:Emb L f g h' h2)(r:Rel w X ρ h'){X2}(hX:∀b,XZ X2 b->b<w.heap.size)(hnx:∀i s,live h2 i s->¬XZ X2 (ρ (g i) s).1)(hA:∀b,aJ w X h' ρ b->aJ w X2 h2 (fun i s=>ρ (g i) s) b):
  Rel w X2 (fun i s=>ρ (g i) s) h2:=by
 refine⟨fun i s j t h1 h3 h4=>?_,hnx,fun i=>?_,hX⟩
 ·obtain⟨f1,f2⟩:=em.live h1;obtain⟨f3,f4⟩:=em.live h3;obtain⟨e1,e2⟩:=r.inj (g i) s (g j) t f1 f3 h4;exact⟨em.inj i j f2 f4 e1,e2⟩
 ·by_cases hd:h2 i=.dead
  ·rw[hd];trivial
  ·obtain⟨e,hc⟩:=em.obj i hd;have ho:=r.ob (g i);rw[e];cases e2:h' (g i)with
   |dead=>trivial
   |bx cs=>
    rw[e2]at ho hc;obtain⟨us,t,h1,h3,h4,h5⟩:=ho;refine⟨us,t,h1,h3,by grind,fun p c hp=>?_⟩;simp only[List.getElem?_map,ay0]at hp;obtain⟨c',hp',rfl⟩:=hp;obtain⟨u,h6,h7⟩:=h5 p c' hp';refine⟨u,h6,?_⟩;simp only[aA,azk]at hc;have hcc:=hc c' (List.mem_of_getElem? hp');cases hO:bm c' with
    |true=>
     cases c'<;>simp[bm]at hO;obtain⟨a,cap,us',t',g1,g2,g3,g4,g5,g6,g7⟩:=h7;exact⟨a,cap,us',t',g1,g2,g3,g4,g5,g6,g7.mono fun b hb=>⟨hA b hb,rfl⟩⟩
    |false=>
     have hca:=by simpa [jk,hO]using hcc
     rw[vB hO]at h7;rw[vB (by rw[ad0];omega)];refine⟨h7.1.embA em hA hca,h7.2.1,?_⟩;have h8:=h7.2.2;cases c'<;>first|exact h8.elim|trivial|skip
     ·rename_i id sub _ _ _;cases sub with
      |some p=>exact h8.elim
      |none=>
       simp only[aZ,bo,ay1]at hca;obtain⟨_,e3⟩:=em.back id hca.1;simp only[dS,kr,nR]at h8⊢;rw[e3,ZJ];omega
     ·simp only[nR,ay1,azk]at h8;simp only[dS,nR,ay1,azk,azP];have key:∀c,aE c=true->aE (kr f c)=true:=fun c hd=>by cases c<;>simp[aE,kr]at hd⊢ <;>exact hd
      grind
   |ar k rows=>
    rw[e2]at ho;obtain⟨us,t,h1,h3,h4,h5⟩:=ho;exact⟨us,t,h1,h3,h4,h5.mono fun b hb=>⟨hA b hb,rfl⟩⟩
   |fz k rows=>
    rw[e2]at ho;obtain⟨h0,us,t,fr,h1,h3,h4,h5⟩:=ho;exact⟨hA _ h0,us,t,fr,h1,h3,h4,h5.mono fun b hb=>⟨hA b hb,rfl⟩⟩
end
theorem ajP(c):kr (fun i=>i) c=c:=by cases c<;>rfl
theorem Vy{α:Type}{f}(hf:∀a,f a=a)(l:List α):l.map f=l:=by
 rw[show f=id from funext hf,List.map_id]
theorem ajQ(c):dS (fun i=>i) c=c:=by
 cases c<;>simp[dS,kr,Vy ajP]
theorem QR(o):dT (fun i=>i) o=o:=by
 cases o<;>simp[dT,Vy ajQ]
section
variable {L:List Nat} {g:Nat→Nat} {h' h2:ac}
theorem Emb.add(em:Emb L (fun i=>i) g h' h2){m id}(hm:h2 m=.dead)(hL:L.contains m=false)(hid:∀i,h2 i≠ .dead->g i≠id)(hcl:aA L (h' id)=true):Emb L (fun i=>i) (upd g m id) h' (upd h2 m (h' id)):=by
 refine⟨fun i hi=>?_,fun i hi=>?_,fun i j hi hj hg=>?_⟩
 ·have hne:i≠m:=γ
  rw[aM _ _ hne,aM _ _ hne];exact em.back i hi
 ·by_cases e:i=m
  ·subst e;rw[aB,aB,QR];grind
  ·rw[aM _ _ e]at hi⊢;rw[aM _ _ e];exact em.obj i hi
 ·by_cases e:i=m<;>by_cases e':j=m
  ·rw[e,e']
  ·subst e;rw[aB,aM _ _ e']at hg;rw[aM _ _ e']at hj;grind
  ·subst e';rw[aB,aM _ _ e]at hg;rw[aM _ _ e]at hi;grind
  ·rw[aM _ _ e]at hi;rw[aM _ _ e']at hj;rw[aM _ _ e,aM _ _ e']at hg;exact em.inj i j hi hj hg
theorem Bu{n i}:(de n).contains i=true↔1000<=i/\i<1000+n:=by
 grind[de,List.mem_range']
theorem uj(h':ac)(n i):am ((de n).map h') i=if 1000<=i/\i<1000+n then h' i else .dead:=by
 unfold am;by_cases h1:1000<=i
 ·rw[if_pos h1];by_cases h2:i<1000+n
  ·have:(de n)[i-1000]?=some i:=by
    unfold de;grind
   grind
  ·rw[if_neg ω,List.getElem?_map,List.getElem?_eq_none (by grind[de])];rfl
 grind
theorem Emb.base{n}(hcl:((de n).all fun i=>aA (de n) (h' i))=true):Emb (de n) (fun i=>i) (fun i=>i) h' (am ((de n).map h')):=by
 refine⟨fun i hi=>⟨rfl,?_⟩,fun i hi=>?_,fun i j _ _ hg=>hg⟩
 ·rw[uj,if_pos (Bu.1 hi),QR]
 ·rw[uj]at hi⊢;split at hi
  ·rename_i h1;rw[if_pos h1,QR];exact⟨rfl,List.all_eq_true.1 hcl i (by simpa using Bu.2 h1)⟩
  grind
end
section
variable {w:World} {X:Nat→Prop} {ρ:eu} {h' h2:ac} {A A2:Nat→Prop}
theorem LV{b k lo n cap}{us}{e}{fr}{rows}{a}(hb:w.heap[b]?=some (.cells us e fr))(hA2:A2 b)(hA:∀b,A b->A2 b)(hr:cX w A k rows us)
  (hle:lo+n<=rows.length) (hn:n<=cap) (ha:cap=0\/a=some ⟨b,lo*k,none⟩):RD w A2 (qz k lo n rows) (.slice a n cap):=
 pJ hb hA2 (hr.mono fun b hb=>⟨hA b hb,rfl⟩) hle hn ha
def aje(w:World)(A:Nat->Prop)(ρ:eu)(h':ac)(a b:AV)(u:Value):Prop:=
 (∃id k rows,b=.osl k rows/\a=.rsl id none k 0 rows.length/\h' id=.ar k rows/\bk id=false)\/
 (∃id cs,b=.obx cs/\a=.ref id none 0 0 0/\h' id=.bx cs/\cs.all mP=true/\bk id=false)\/
 (b=a/\∃id k i j,a=.ref id none k i j/\bk id=true)\/
 (b=a/\aE a=true)\/
 (aE b=true/\∀A2,(∀b,A b->A2 b)->(∀id sub,fP a=[id]->live h' id sub->A2 (ρ id sub).1)->RD w A2 b u)
theorem DP(r:Rel w X ρ h'){a b}{u}(hv:RV w (aJ w X h' ρ) ρ h' a u)(he:mS h' a=some b):aje w (aJ w X h' ρ) ρ h' a b u:=by
 have dl:aE a=true->mS h' a=some a->aje w (aJ w X h' ρ) ρ h' a b u:=fun hd hq=>by
  rw[hq]at he;cases he;exact .inr (.inr (.inr (.inl ⟨rfl,hd⟩)))
 cases a with
 |rsl id sub k lo n=>
  obtain⟨a,cap,rfl,hp,hn,hb,ha⟩:=hv.rsl_inv;cases sub with
  |none=>
   simp only[mS]at he;split at he
   ·grind
   ·have ho:=r.ob id;cases e:h' id with
    |dead=>rw[e]at he;cases he
    |ar k' rows=>
     rw[e]at he ho;simp only[C7]at he;split at he
     ·rename_i hc;obtain⟨rfl,hle⟩:=hc;split at he
      ·rename_i hw;obtain⟨rfl,rfl⟩:=hw;cases he;exact .inl ⟨id,k',rows,rfl,rfl,e,by grind⟩
      ·cases he;obtain⟨us,t,h1,h3,h4,h5⟩:=ho;exact .inr (.inr (.inr (.inr ⟨rfl,fun A2 hA hl=>LV h1 (hl id none rfl (by grind[live])) hA h5 hle hn ha⟩)))
     grind
    |fz k' rows=>
     rw[e]at he ho;simp only[C7]at he;split at he
     ·rename_i hc;obtain⟨rfl,hle⟩:=hc;cases he;obtain⟨h0,us,t,fr,h1,h3,h4,h5⟩:=ho;exact .inr (.inr (.inr (.inr ⟨rfl,fun A2 hA hl=>LV h1 (hA _ h0) hA h5 hle hn ha⟩)))
     grind
    |bx cs=>
     rw[e]at he;simp only[C7]at he;split at he
     ·rename_i hc;obtain⟨rfl,hle,hd⟩:=hc;cases he;obtain⟨us,t,h1,h3,h4,h5⟩:=r.cell e;refine .inr (.inr (.inr (.inr ⟨rfl,fun A2 hA hl=>pJ h1 (hl id none rfl (by grind[live])) (fun i row hi=>?_) (by grind[ws]) hn ha⟩)));simp only[ws,List.getElem?_map,ay0]at hi;obtain⟨c,hc,rfl⟩:=hi;refine⟨rfl,fun j d hj=>?_⟩;cases j with
      |succ j=>grind
      |zero=>
       simp at hj;subst hj;obtain⟨u,h6,h7⟩:=h5 i c hc;have hdc:=List.all_eq_true.1 hd c (List.mem_of_getElem? hc);exact⟨u,by grind,Nx h7 hdc hA (fun k rows ec=>by subst ec;exact hl id (some i) rfl ⟨cs,k,rows,e,hc⟩),IA hdc⟩
     grind
  |some p=>
   simp only[mS]at he;split at he
   ·grind
   ·cases e:h' id with
    |bx cs=>
     rw[e]at he;simp only[kQ]at he;cases ec:cs[p]? with
     |none=>rw[ec]at he;cases he
     |some c=>
      rw[ec]at he;cases c<;>simp only[yB,amt]at he<;>try (cases he;done)
      split at he
      ·rename_i hc;obtain⟨rfl,hle⟩:=hc;cases he;obtain⟨us,t,h1,h3,h4,h5⟩:=r.cell e;obtain⟨u,_,a',cap',us',t',_,_,_,q4,q5,q6,q7⟩:=h5 p _ ec;exact .inr (.inr (.inr (.inr ⟨rfl,fun A2 hA hl=>LV q4 (hl id (some p) rfl ⟨cs,_,_,e,ec⟩) hA q7 hle hn ha⟩)))
      grind
    |_=>rw[e]at he;cases he
 |ref id sub k i j=>
  cases sub with
  |some p=>grind[mS,aE]
  |none=>
   simp only[mS]at he;split at he
   ·rename_i hps;cases he;exact .inr (.inr (.inl ⟨rfl,id,k,i,j,rfl,hps⟩))
   ·split at he
    ·rename_i hc;obtain⟨rfl,rfl,rfl⟩:=hc;cases e:h' id<;>rw[e]at he<;>simp only[abu]at he<;>try (cases he;done)
     split at he
     ·rename_i hd;cases he;exact .inr (.inl ⟨id,_,rfl,rfl,e,hd,by grind⟩)
     grind
    grind
 |fn f x y=>
  grind[mS]
 |any=>exact dl rfl rfl
 |v x=>exact dl rfl rfl
 |emp=>exact dl rfl rfl
 |sl k rows=>exact dl rfl rfl
 |_=>simp[mS,aE]at he
theorem Vz{b c}(hdl:aE b=true)(hd:C8 b=some c):c=b:=by
 unfold C8 at hd;split at hd
 all_goals simp_all[aE,if_pos]
theorem O4(r:Rel w X ρ h'){a b c}{u}(hv:RV w (aJ w X h' ρ) ρ h' a u)(h1:u.oneCell'=true)(he:mS h' a=some b)(hd:C8 b=some c):
  aE c=true/\∀A2,(∀b,aJ w X h' ρ b->A2 b)->(∀id sub,fP a=[id]->live h' id sub->A2 (ρ id sub).1)->RD w A2 c u:=by
 rcases DP r hv he with⟨id,k,rows,rfl,rfl,e,_⟩| ⟨id,cs,rfl,_⟩| ⟨rfl,id,k,i,j,rfl,_⟩| ⟨rfl,hdl⟩| ⟨hdl,hr⟩
 ·simp only[C8,Option.some.injEq]at hd;subst hd;refine⟨rfl,fun A2 hA hl=>?_⟩;obtain⟨a,cap,rfl,hp,hn,hb,ha⟩:=hv.rsl_inv;have ho:=r.ob id;rw[e]at ho;obtain⟨us,t,g1,g2,g3,g4⟩:=ho;have:=LV (w:=w) (A2:=A2) (lo:=0) g1 (hl id none rfl (by grind[live])) hA g4 ω hn ha;grind[qz]
 ·grind[C8,aE]
 ·grind[C8,aE]
 ·have:=Vz hdl hd;subst this;exact⟨hdl,fun A2 hA _=>(hv.toD hdl h1).mono fun b hb=>⟨hA b hb,rfl⟩⟩
 grind[Vz]
theorem MT(r:Rel w X ρ h'):∀cs ds,mT h' cs=some ds->ds.length=cs.length/\∀ (i:Nat) a c u,cs[i]?=some a->ds[i]?=some c->RV w (aJ w X h' ρ) ρ h' a u->u.oneCell'=true->
  aE c=true/\∀A2,(∀b,aJ w X h' ρ b->A2 b)->(∀id sub,fP a=[id]->live h' id sub->A2 (ρ id sub).1)->RD w A2 c u
 |[],ds,he=>by grind[mT]
 |a::cs,ds,he=>by
  simp only[mT,ayY]at he;obtain⟨b,e1,c,e2,q,e3,e4⟩:=he;obtain⟨g1,g2⟩:=MT r cs q e3;refine⟨by grind,fun i a' c' u hc hd hv h1=>?_⟩;cases i with
  |zero=>
   grind[O4]
  |succ i=>grind
end
def EB(f:ac->Option R3)(p:ac->ac->Fp)(h:ac)(x:AV)(h':ac)(r w:List Nat):Prop:=
 ∀g,(∀i,dF i∈r\/dF i∈w->g i=h i)->∃g',f g=some (x,g',[])/\p g g'=some (r,w)/\(∀i,dF i∈w->g' i=h' i)/\(∀i,dF i∉w->g' i=g i)
section
variable {h h' g:ac} {x:AV} {r w:List Nat}
theorem G2{f:ac->Option R3}{p:ac->ac->Fp}(hw:w=[])(hp:∀g g',p g g'=some (r,w))(hf:∀g,(∀i,dF i∈r->g i=h i)->f g=some (x,g,[])):EB f p h x h' r w:=fun g hg=>by
 simp_all
theorem pN{f:ac->Option R3}{p:ac->ac->Fp}{d}{o}(hd:dF d∈w)(hh:h'=upd h d o)(hp:∀g g',p g g'=some (r,w))(hf:∀g,g d=h d->f g=some (x,upd g d o,[])):EB f p h x h' r w:=fun g hg=>by
 refine⟨upd g d o,hf g (hg d (.inr hd)),hp g _,fun i hi=>?_,fun i hi=>?_⟩
 ·simp_all[upd]
 grind[upd,absurd]
theorem ag0{a}(hd:aE a=true)(h):gg h a=some (a,h,[]):=by
 cases a<;>simp[aE]at hd<;>simp[gg,aE,hd]
theorem ng:∀ {xs},xs.all aE=true->∀h,jy h xs=some (xs,h,[])
 |[],_,h=>rfl
 |a::l,hd,h=>by
  simp only[azm,ay1]at hd;simp only[jy,ag0 hd.1 h,ng hd.2 h,ay2,azb]
theorem DQ{a}{xs}(hd:dat a=true)(hc:iP a=some xs):xs.all aE=true:=by
 cases a<;>simp only[dat,aE,iP,Option.some.injEq]at hd hc<;>first| (cases hc;done)| (cases hd;done)|skip
 all_goals grind[aE]
theorem EC{k}:∀ {ps} {rows rows'} {h h'} {ks},(ps.all fun p=>dat p.2)=true->eU k h rows ps=some (rows',h',ks)->h'=h/\ks=[]/\∀g,eU k g rows ps=some (rows',g,[])
 |[],rows,rows',h,h',ks,_,hz=>by
  grind[eU,Option.some.injEq,Prod.mk.injEq]
 | (i,a)::ps,rows,rows',h,h',ks,hd,hz=>by
  simp only[azm,ay1]at hd;simp only[eU,ayY]at hz;obtain⟨cs,e1,hz⟩:=hz;split at hz
  ·have hcs:=DQ hd.1 e1;simp only[ng hcs h,ay2,ayY]at hz;obtain⟨⟨r1,r2,r3⟩,e2,e3⟩:=hz;obtain⟨q1,q2,q3⟩:=EC hd.2 e2
   simp_all[eU,ay2,if_pos,ng,ay8]
  grind
theorem Ko{k k0 i j}{agg}{o}{ks}(hz:pC h k agg k0 i j o=some (x,h',ks)):h'=h/\ks=[]/\∀g,pC g k agg k0 i j o=some (x,g,[]):=by
 cases o with
 |none=>cases hz
 |some q=>
  simp only[pC]at hz;split at hz
  ·simp only[ayY,ay0]at hz;obtain⟨row,e1,a,e2,e3⟩:=hz
   simp_all[pC,if_pos,ay2,azE]
  grind
theorem ad1{k id k0 i j}{agg}{o}(hz:Cs h k agg id k0 i j o=some (x,h',[])):h'=h/\∀g,Cs g k agg id k0 i j o=some (x,g,[]):=by
 cases o with
 |dead=>cases hz
 |bx cs=>
  simp only[Cs,Ip]at hz⊢;grind
 |ar k' rows=>
  grind[Cs,Ko]
 |fz k' rows=>
  grind[Cs,Ko]
theorem ab6{k}{agg}{a}(hz:jz h k agg a=some (x,h',[]))(hp:vz a=some (r,w)):EB (fun g=>jz g k agg a) (fun _ _=>vz a) h x h' r w:=by
 cases a<;>simp only[vz]at hp<;>try (cases hp;done)
 case ipt cs=>
  cases hp;refine G2 rfl (fun _ _=>rfl) fun g _=>?_;grind[jz,ay0]
 case ref id sub k0 i j=>
  cases hp;refine G2 rfl (fun _ _=>rfl) fun g hg=>?_;cases sub with
  |none=>
   grind[jz,ad1]
  |some p=>
   grind[jz,Ko]
theorem YX{k}{a y}(hz:mB h k a y=some (x,h',[]))(hp:Ct y a=some (r,w)):EB (fun g=>mB g k a y) (fun _ _=>Ct y a) h x h' r w:=by
 cases a<;>simp only[Ct]at hp<;>try (cases hp;done)
 rename_i id sub k0 i j;split at hp
 ·rename_i hd;cases hp;simp only[mB,ayY]at hz;obtain⟨xs,e1,hz⟩:=hz;have hxs:=DQ hd e1;split at hz
  ·cases sub with
   |none=>
    simp only at hz;cases eo:h id with
    |bx cs=>
     rw[eo]at hz;simp only[GV,QH]at hz;split at hz
     ·simp only[Option.some.injEq,Prod.mk.injEq]at hz;obtain⟨rfl,rfl,e3⟩:=hz;refine pN σ rfl (fun _ _=>by simp_all[Ct,if_pos]) fun g hg=>?_
      simp_all[mB,ay2,if_pos,GV,QH,if_true]
     grind
    |ar k' rows=>
     simp only[GV,ng hxs h,ay2,eo,QI,ay0]at hz;obtain⟨q,e2,e3⟩:=hz;cases e3;refine pN σ rfl (fun _ _=>by simp_all[Ct,if_pos]) fun g hg=>?_
     simp_all[mB,ay2,if_pos,GV,ng,QI,azE]
    |_=>rw[eo]at hz;cases hz
   |some p=>
    simp only[ng hxs h,ay2]at hz;cases eo:h id with
    |bx cs=>
     rw[eo]at hz;simp only[F0]at hz;cases ec:cs[p]? with
     |none=>rw[ec]at hz;cases hz
     |some c=>
      rw[ec]at hz;cases c<;>simp only[abr]at hz<;>try (cases hz;done)
      simp only[ay0]at hz;obtain⟨q,e2,e3⟩:=hz;cases e3;refine pN σ rfl (fun _ _=>by simp_all[Ct,if_pos]) fun g hg=>?_
      simp_all[mB,ay2,if_pos,F0,ng,abr,azE]
    |_=>rw[eo]at hz;cases hz
  grind
 grind
end
theorem amF{a b}(h:Vj a b=true):a=b:=by
 cases a<;>cases b<;>simp only[Vj]at h<;>try (cases h;done)
 case string.string x y=>
  obtain⟨⟨x⟩⟩:=x
  simp_all
 all_goals grind
mutual
theorem amG:∀ {a b:AV},Vk a b=true->a=b
 |a,b,h=>by
  cases a<;>cases b<;>simp only[Vk]at h<;>try (first|rfl| (cases h;done))
  case v.v=>rw[amF h]
  case sl.sl=>simp only[ay1,decide_eq_true_eq]at h;rw[h.1,Kp h.2]
  case osl.osl=>simp only[ay1,decide_eq_true_eq]at h;rw[h.1,Kp h.2]
  case obx.obx=>rw[Aa h]
  case agg.agg=>rw[Aa h]
  case ref.ref=>grind
  case rsl.rsl=>grind
  case ipt.ipt=>rw[Aa h]
  case fn.fn=>simp only[ay1,decide_eq_true_eq]at h;rw[h.1,Aa h.2.1,Aa h.2.2]
theorem Aa:∀ {a b:List AV},Be a b=true->a=b
 |[],[],_=>rfl
 |[],_::_,h=>by cases h
 |_::_,[],h=>by cases h
 |a::l,b::r,h=>by
  simp only[Be,ay1]at h;rw[amG h.1,Aa h.2]
theorem Kp:∀ {a b:List (List AV)},Jx a b=true->a=b
 |[],[],_=>rfl
 |[],_::_,h=>by cases h
 |_::_,[],h=>by cases h
 |a::l,b::r,h=>by
  simp only[Jx,ay1]at h;rw[Aa h.1,Kp h.2]
end
theorem ag1{a b}(h:LN a b=true):a=b:=by
 cases a<;>cases b<;>simp only[LN]at h<;>try (first|rfl| (cases h;done))
 case bx.bx=>rw[Aa h]
 case ar.ar=>grind[Kp]
 case fz.fz=>grind[Kp]
theorem ad2{g h g' h'}{ids}(e:∀i,i∈ids->g i=h i)(e':∀i,i∈ids->g' i=h' i):J9 g g' ids=J9 h h' ids:=by
 grind[J9,List.filter_congr]
theorem ag2{h h'}{ids}{i}(hi:i∈ids)(hn:dF i∉ (J9 h h' ids).map dF):h' i=h i:=by
 by_cases hs:LN (h i) (h' i)=true
 ·exact(ag1 hs).symm
 ·refine absurd (List.mem_map.2 ⟨i,?_,rfl⟩) hn;simp only[J9,List.mem_filter];exact⟨hi,by simpa using hs⟩
theorem IE{a}:∀ {r l},a∈l->a∈bA l r
 |[],l,h=>h
 |b::r,l,h=>by
  unfold bA;apply IE;split
  ·exact h
  ·simp[h]
theorem ED:∀ {r l},l.Nodup->(bA l r).Nodup
 |[],l,h=>h
 |b::r,l,h=>by
  unfold bA;apply ED;split
  ·exact h
  ·rename_i hc;rw[List.nodup_append];refine⟨h,by simp,fun a ha c hc'=>?_⟩;simp only[List.mem_singleton]at hc';subst hc'
   rintro rfl
   exact hc (by simpa using ha)
theorem SY{h}{a}:∀ {n} {l} {i},a∈l->a∈ce h n l i
 |0,l,i,hm=>hm
 |n+1,l,i,hm=>by
  unfold ce;split
  ·exact hm
  ·exact SY (IE hm)
theorem MU{h}:∀ {n} {l} {i},l.Nodup->(ce h n l i).Nodup
 |0,l,i,hm=>hm
 |n+1,l,i,hm=>by
  unfold ce;split
  ·exact hm
  ·exact MU (ED hm)
theorem G3{g h}:∀ {n} {l} {i},(∀a,a∈ce h n l i->g a=h a)->ce g n l i=ce h n l i
 |0,l,i,_=>rfl
 |n+1,l,i,hg=>by
  unfold ce at hg⊢;split
  ·rfl
  ·rename_i a ha;rw[ha]at hg;rw[hg a (SY (IE (List.mem_of_getElem? ha)))];exact G3 hg
theorem SZ(h)(n):ce h n [] 0=[]:=by cases n<;>simp[ce]
theorem VA{a}(h:aE a=true):fP a=[]:=by cases a<;>simp[aE]at h<;>rfl
theorem VB{a}(h:dat a=true):cr a=[]:=by
 cases a<;>simp only[dat]at h<;>try exact VA h
 all_goals simp_all[cr,List.flatMap_eq_nil_iff,VA,aE,ay1,List.isEmpty_iff]
theorem S0{a}(h:dat a=true):zU a=true:=by
 have key:∀c,aE c=true->tj c=true:=fun c hc=>by cases c<;>simp[aE]at hc<;>rfl
 cases a<;>simp only[dat]at h<;>try exact key _ h
 all_goals simp_all[aE,ay1,List.isEmpty_iff,zU]
section
variable {h h' g:ac} {x:AV}
theorem MV:∀ {cs} {q},cs.all tj=true->jy h cs=some q->q=(cs,h,[])/\∀g,jy g cs=some (cs,g,[])
 |[],q,_,hz=>by cases hz;exact⟨rfl,fun g=>rfl⟩
 |c::cs,q,hd,hz=>by
  simp only[azm,ay1]at hd;simp only[jy,ayY]at hz;obtain⟨p,e1,q',e2,e3⟩:=hz;have hc:p=(c,h,[])/\∀g,gg g c=some (c,g,[]):=by
   cases c<;>simp only[tj]at hd<;>simp only[gg]at e1⊢ <;>first| (cases hd.1;done)|skip
   all_goals
    split at e1
    ·rename_i hdl;simp only[if_pos hdl];cases e1;exact⟨rfl,fun g=>by first|trivial|rfl⟩
    ·cases e1
  obtain⟨rfl,hc2⟩:=hc;obtain⟨rfl,q2⟩:=MV hd.2 e2;cases e3;refine⟨rfl,fun g=>?_⟩;simp only[jy,hc2 g,ay2,q2 g,azb]
theorem YY{m}{a}{q}(hd:zU a=true)(hz:dE h m a=some q):q=(a,h,[])/\∀g,dE g m a=some (a,g,[]):=by
 have key:∀c,(∀cs,c≠ .agg cs)->tj c=true->xg h c=some q->q=(c,h,[])/\∀g,xg g c=some (c,g,[]):=by
  intro c hna hc hz;have e1:∀g,xg g c=if aE c then some (c,g,[])else none:=by
   intro g;cases c<;>simp only[tj]at hc<;>first| (cases hc;done)| (exact absurd rfl (hna _))|rfl
  grind
 cases a with
 |agg cs=>
  simp only[dE,xg,ayY]at hz⊢;obtain⟨p,e1,e2⟩:=hz;obtain⟨rfl,q2⟩:=MV hd e1;grind
 |rsl=>grind[zU,tj]
 |rsc=>grind[zU,tj]
 |ref id sub k i j=>
  cases sub with
  |none=>
   simp_all[dE,Option.some.injEq,trivial]
  |some p=>exact key _ (fun cs=>by simp) rfl hz
 |ipt cs=>
  simp_all[dE,Option.some.injEq,trivial]
 |fn f u v=>
  simp_all[dE,Option.some.injEq,trivial]
 |_=>exact key _ (fun cs=>by simp) rfl hz
theorem Kq:∀ {l} {ms} {q},l.all zU=true->bS h ms l=some q->q=(l,h,[])/\∀g,bS g ms l=some (l,g,[])
 |[],ms,q,_,hz=>by cases hz;exact⟨rfl,fun g=>rfl⟩
 |a::l,ms,q,hd,hz=>by
  simp only[azm,ay1]at hd;simp only[bS,ayY]at hz;obtain⟨p,e1,q',e2,e3⟩:=hz;obtain⟨rfl,p2⟩:=YY hd.1 e1;obtain⟨rfl,q2⟩:=Kq hd.2 e2;cases e3;refine⟨rfl,fun g=>?_⟩;simp only[bS,p2 g,ay2,q2 g,azb]
theorem VC{ids}{i}:∀ {l} {os} {g h},g i=h i->ej g ids l os i=ej h ids l os i
 |[],os,g,h,e=>by simp_all[ej]
 |a::l,[],g,h,e=>by simp_all[ej]
 |a::l,o::os,g,h,e=>by
  simp only[ej];apply VC;unfold upd;split
  ·rfl
  ·exact e
theorem zi{ids}{i}:∀ {l} {os} {g},i∉l->ej g ids l os i=g i
 |[],os,g,_=>rfl
 |a::l,[],g,_=>rfl
 |a::l,o::os,g,hn=>by
  simp only[List.mem_cons,not_or]at hn;simp only[ej];rw[zi hn.2];exact aM _ _ hn.1
theorem Ny(n)(g h)(c):(dU n g c).1=(dU n h c).1:=by cases c<;>rfl
theorem ZK{n i}{g h}{c}(e:g i=h i):(dU n g c).2 i=(dU n h c).2 i:=by
 cases c<;>simp only[dU]<;>first|exact e| (unfold upd;split;rfl;exact e)
theorem VD{n i}{g}{c}(hn:i≠n):(dU n g c).2 i=g i:=by
 cases c<;>simp only[dU]<;>first|rfl|exact aM _ _ hn
theorem VE:∀l n g h,(cT n g l).1=(cT n h l).1
 |[],n,g,h=>rfl
 |c::l,n,g,h=>by simp only[cT];rw[Ny n g h,VE l (n+1) _ (dU n h c).2]
theorem ZL{i}:∀ {l} {n} {g h},g i=h i->(cT n g l).2 i=(cT n h l).2 i
 |[],n,g,h,e=>e
 |c::l,n,g,h,e=>by simp only[cT];exact ZL (ZK e)
theorem VF{i}:∀ {l} {n} {g},¬ (n<=i/\i<n+l.length)->(cT n g l).2 i=g i
 |[],n,g,hn=>rfl
 |c::l,n,g,hn=>by
  simp only[cT];simp only[azp]at hn;rw[VF ω,VD ω]
theorem ZM(n)(g h)(c):(mat n g c).1=(mat n h c).1:=by
 cases c<;>simp only[mat]<;>first|exact Ny _ _ _ _|rw[VE]
theorem ad3{n i}{g h}{c}(e:g i=h i):(mat n g c).2 i=(mat n h c).2 i:=by
 cases c<;>simp only[mat]<;>first|exact ZK e|exact ZL e
theorem Bv{n i}{g}{c}(hn:¬ (n<=i/\i<n+cF c)):(mat n g c).2 i=g i:=by
 cases c<;>simp only[mat]<;>simp only[cF]at hn<;>first|exact VD ω|exact VF hn
theorem MW{g h}:∀ {m n},(∀i,n<=i->i<n+m->g i=h i)->cB g n m=cB h n m
 |0,n,_=>rfl
 |m+1,n,hg=>by
  simp only[cB];rw[hg n ω ω,MW fun i h1 h2=>hg i ω ω]
theorem Jz{g h}{gv}:∀ {l} {os},(∀a,a∈l->g a=h a)->cU g gv l os=cU h gv l os
 |[],os,_=>rfl
 |a::l,[],_=>rfl
 |a::l,o::os,hg=>by
  simp only[cU];rw[hg a σ,Jz fun b hb=>hg b (by simp[hb])]
theorem F8{d i}(h1:2000+8*d<=i)(h2:i<2000+8*d+8):dF i=2000+8*d:=by
 unfold dF;grind
theorem TY{kp}{d}{ids}{gv}{r}(hz:eG kp h d ids [] gv r=some (x,h',[]))(hg:∀i,dF i∈ids.map dF++[2000+8*d]->g i=h i):
  ∃g',eG kp g d ids [] gv r=some (x,g',[])/\(∀i,dF i∈ids.map dF++[2000+8*d]->g' i=h' i)/\(∀i,dF i∉ids.map dF++[2000+8*d]->g' i=g i)/\∀i,i∉ids->dF i≠2000+8*d->h' i=h i:=by
 unfold eG at hz⊢;split at hz
 ·rename_i hc;simp only[Option.some.injEq,Prod.mk.injEq,ay8,List.append_eq_nil_iff]at hz;obtain⟨rfl,rfl,hk,rfl⟩:=hz;obtain⟨c1,c0,c2,c3,c4,c5⟩:=hc;have hfr:cB g (2000+8*d) (cF r.1)=true:=by
   grind[MW,F8]
  have hst:cU g [] ids r.2=true:=by grind[Jz]
  refine⟨(mat (2000+8*d) (ej g ids ids r.2) r.1).2,?_,fun i hi=>?_,fun i hi=>?_,fun i hi hi2=>?_⟩
  ·rw[if_pos ⟨c1,c0,c2,hfr,hst,c5⟩,hk];simp only[fT,azb];rw[ZM _ (ej g ids ids r.2) (ej h ids ids r.2)]
  ·simp only[fT];grind[ad3,VC]
  ·rw[Bv (fun hh=>hi (by grind[F8])),zi (fun hh=>hi γ)]
  ·simp only[fT];rw[Bv (fun hh=>hi2 (F8 hh.1 ω)),zi hi]
 grind
theorem YZ{call}{md}{d}{f}{zas}{r w}(hz:dV call md h d zas f=some (x,h',[]))(hp:jL h d (pE zas f) h'=some (r,w)):
  EB (fun g=>dV call md g d zas f) (fun g=>jL g d (pE zas f)) h x h' r w:=by
 cases f<;>simp only[dV]at hz<;>try (cases hz;done)
 rename_i fid a b;simp only[pE]at hp;simp only[ayY]at hz;obtain⟨p,e1,e2⟩:=hz;have hno:(a++zas++b).all zU=true:=by
  grind[jL,azk,S0]
 obtain⟨rfl,e3⟩:=Kq hno e1;generalize hI:ce h 40 (bA [] ((a++zas++b).flatMap cr)) 0=ids at*
 have hids:(∀i,i∈ids->dF i∈r)/\w=(J9 h h' ids).map dF++[2000+8*d]/\
   (∀g g',(∀i,i∈ids->g i=h i)->(∀i,i∈ids->g' i=h' i)->jL g d (a++zas++b) g'=some (r,w)):=by
  unfold jL at hp;split at hp
  ·cases hp;have:(a++zas++b).flatMap cr=[]:=by
    grind[List.flatMap_eq_nil_iff,VB]
   rw[this]at hI;simp only[bA,SZ]at hI;subst hI;refine⟨fun i hi=>by grind,rfl,fun g g' _ _=>?_⟩
   simp_all[jL,if_pos]
  ·rename_i hd;rw[hI]at hp;cases hp;refine⟨fun i hi=>List.mem_map.2 ⟨i,hi,rfl⟩,rfl,fun g g' hg hg'=>?_⟩;unfold jL;have hre:ce g 40 (bA [] ((a++zas++b).flatMap cr)) 0=ids:=by
    grind[G3]
   rw[if_neg hd,if_pos hno,hre,ad2 hg hg']
 obtain⟨hi1,hi2,hi3⟩:=hids;intro g hg;have hat:=fun i hi=>hg i (.inl (hi1 i hi));have hre:ce g 40 (bA [] ((a++zas++b).flatMap cr)) 0=ids:=by
  grind[G3]
 unfold jK at e2;split at e2
 ·simp only[ayY]at e2;obtain⟨res,e4,e5⟩:=e2;have hgl:∀i,dF i∈ids.map dF++[2000+8*d]->g i=h i:=fun i hi=>by
   grind
  obtain⟨g',g1,g2,g3,g4⟩:=TY e5 (g:=g) hgl;have hat':=fun i hi=>g2 i (List.mem_append_left _ (List.mem_map.2 ⟨i,hi,rfl⟩));refine⟨g',?_,hi3 g g' hat hat',fun i hi=>g2 i ?_,fun i hi=>?_⟩
  ·simp only[dV,e3 g,ay2,hre];unfold jK;have hmap:ids.map (fun a=>dT (bj ids) (g a))=ids.map fun a=>dT (bj ids) (h a):=azy fun i hi=>by rw[hat i hi]
   grind
  ·rw[hi2]at hi;rcases List.mem_append.1 hi with hi|hi
   ·refine List.mem_append_left _ ?_;obtain⟨a,ha,hae⟩:=List.mem_map.1 hi;exact List.mem_map.2 ⟨a,(List.mem_filter.1 ha).1,hae⟩
   grind
  grind[dF,ag2,List.mem_append_left]
 grind
theorem O5{call}{md}{d}{f}{zas}{r w}(hz:bE call md h d zas f=some (x,h',[]))(hp:jL h d (pE zas f) h'=some (r,w)):
  EB (fun g=>bE call md g d zas f) (fun g=>jL g d (pE zas f)) h x h' r w:=by
 have hb:¬kt md zas f=true:=by
  intro hb;have hno:∀l:List AV,l.all zU=true->l.any (fun x=>!OM x)=false:=fun l hl=>by
   rw[List.any_eq_false];intro c hc;have:=List.all_eq_true.1 hl c hc;cases c<;>simp[zU,tj,OM]at this⊢
  cases f<;>simp only[kt,ay1]at hb<;>try (cases hb;done)
  simp only[pE]at hp;unfold jL at hp;split at hp
  ·rename_i hd;rw[hno _ (List.all_eq_true.2 fun c hc=>S0 (List.all_eq_true.1 hd c hc))]at hb;grind
  grind
 simp_all[bE,if_neg,YZ]
theorem MX{d}{x0 x}{h0 g0 h'}{k0}(hz:zT d (x0,h0,k0)=some (x,h',[]))(hg:∀i,dF i=2000+8*d->g0 i=h0 i):
  k0=[]/\∃g',zT d (x0,g0,[])=some (x,g',[])/\(∀i,dF i=2000+8*d->g' i=h' i)/\(∀i,dF i≠2000+8*d->g' i=g0 i):=by
 unfold zT at hz⊢;simp only at hz⊢;split at hz
 ·rename_i id k lo n;split at hz
  ·rename_i hid;subst hid;have hgd:dF (2000+8*d)=2000+8*d:=F8 (ayZ _) ω;have he:=hg _ hgd;simp only[gg]at hz⊢;rw[he];cases eo:h0 (2000+8*d)<;>rw[eo]at hz<;>simp only[nP]at hz⊢ <;>try (cases hz;done)
   ·simp_all
   ·split at hz
    ·rename_i hc;rw[if_pos hc];simp only[azE,Option.some.injEq,Prod.mk.injEq,azb]at hz;obtain⟨rfl,rfl,rfl⟩:=hz;refine⟨rfl,upd g0 (2000+8*d) (.fz k _),rfl,fun i hi=>?_,fun i hi=>?_⟩
     all_goals grind[upd,absurd]
    grind
   grind
  grind
 grind
theorem IF{call}{md}{d}{op}{s}{r w}(hz:step call md d op s h=some (x,h',[]))(hp:gR d op s h h'=some (r,w)):
  EB (fun g=>step call md d op s g) (fun g=>gR d op s g) h x h' r w:=by
 cases op with
 |p op=>
  obtain⟨rfl,rfl⟩:=hp;simp only[step,Et,ay0]at hz;obtain⟨a,e1,e2⟩:=hz;cases e2;exact G2 rfl (fun _ _=>rfl) fun g _=>by simp only[step,Et,e1,azE]
 |alloc z=>
  obtain⟨rfl,rfl⟩:=hp;obtain⟨h1,rfl,rfl,_⟩:=l8 hz;exact pN σ rfl (fun _ _=>rfl) fun g hg=>by grind[step,nQ,C5]
 |box k y=>
  simp only[gR]at hp;split at hp
  ·rename_i hd;cases hp;simp only[step,Es,ayY]at hz;obtain⟨xs,e1,hz⟩:=hz;split at hz
   ·rename_i hk;simp only[DQ hd e1,if_true,nQ]at hz;obtain⟨h1,rfl,rfl,_⟩:=l8 hz;refine pN σ rfl (fun _ _=>by simp_all[gR,if_pos]) fun g hg=>?_;simp only[step,Es,ay2,if_pos hk,DQ hd e1,if_true,nQ,C5, *]
   grind
  grind
 |buildSl k z n ps=>
  simp only[gR]at hp;split at hp
  ·rename_i hd;cases hp;simp only[step,ayY]at hz;obtain⟨q,e1,hz⟩:=hz;have hd':((ps.map fun p=>(p.1,ev s p.2)).all fun p=>dat p.2)=true:=by
    grind
   obtain⟨e2,e3,e4⟩:=EC hd' e1;obtain⟨q1,q2,q3⟩:=q;simp only at e2 e3 e4 hz;subst e2 e3;obtain⟨h1,rfl,rfl,_⟩:=l8 hz;refine pN σ rfl (fun _ _=>by simp only[gR,if_pos hd]) fun g hg=>?_;simp only[step,e4 g,ay2,cR,C5, *]
  grind
 |buildC k z n ps=>
  simp only[gR]at hp;split at hp
  ·rename_i hd;cases hp;simp only[step,ayY]at hz;obtain⟨x0,⟨q,e1,hz⟩,hco⟩:=hz;have hd':((ps.map fun p=>(p.1,ev s p.2)).all fun p=>dat p.2)=true:=by
    grind
   obtain⟨e2,e3,e4⟩:=EC hd' e1;obtain⟨q1,q2,q3⟩:=q;simp only at e2 e3 e4 hz;subst e2 e3;obtain⟨x1,x2,x3⟩:=x0;obtain⟨h1,rfl,rfl,rfl⟩:=l8 hz;have hu:∀g (a b:Ob),upd (upd g d a) d b=upd g d b:=fun g a b=>by funext i;simp only[cj];split<;>rfl
   have key:∀g,g d=.dead->step call md d (.buildC k z n ps) s g=if 0+n<=q1.length then some (qz k 0 n q1,upd g d (.fz k q1),[])else none:=fun g hg=>by
    simp only[step,e4 g,ay2,cR,C5,F4,gg,nP,cj,if_true,true_and, *];split<;>simp
   simp only[F4,gg,nP,cj,if_true,true_and,hu]at hco;split at hco
   ·rename_i hle;cases hco;refine pN σ rfl (fun _ _=>by simp only[gR,if_pos hd]) fun g hg=>?_;rw[key g (by rw[hg];exact h1),if_pos hle]
   ·cases hco
  grind
 |mkSl k z b l c=>
  obtain⟨rfl,rfl⟩:=hp;simp only[step,ayY]at hz;obtain⟨q,e1,hz⟩:=hz;split at hz
  ·obtain⟨h1,rfl,rfl,_⟩:=l8 hz;refine pN σ rfl (fun _ _=>rfl) fun g hg=>?_
   simp_all[step,ay2,if_pos,cR,C5]
  grind
 |load k g y=>exact ab6 hz hp
 |store k a y=>exact YX hz hp
 |app k b a y=>cases hp
 |cpy k x y=>cases hp
 |slcM k x lo hi=>cases hp
 |clr k z x=>cases hp
 |appz k b z x n=>cases hp
 |take x=>cases hp
 |call f zas=>exact O5 hz hp
 |callC f zas=>
  simp only[step,ayY]at hz;obtain⟨⟨x0,h0,k0⟩,e1,e2⟩:=hz;simp only[gR,Ka]at hp;split at hp
  ·cases hp;obtain⟨rfl,_⟩:=MX (g0:=h0) e2 (fun _ _=>rfl);have hp1:jL h d (pE (zas.map (ev s)) (ev s f)) h0=some ([],[2000+8*d]):=by simp_all[jL,if_pos]
   intro g hg;obtain⟨g0,a1,a2,a3,a4⟩:=O5 e1 hp1 g hg;obtain⟨_,g',b1,b2,b3⟩:=MX e2 (g0:=g0) (fun i hi=>a3 i γ)
   simp_all[bE,ev,step,gR,Ka,if_pos]
  grind
 |bad=>cases hz
end
section
variable {call:iD} {md:Mode} {s:ai} {h:ac}
theorem il{s s'}{o}(hs:∀i,i∈ig o->s' i=s i):ev s' o=ev s o:=by
 cases o with
 |t n=>exact hs n (by simp[ig])
 |c a=>rfl
theorem zj{s s'}{o}(hs:∀i,i∈qO o.toList->s' i=s i):evo s' o=evo s o:=by
 cases o with
 |none=>rfl
 |some o=>grind[evo,il,qO]
theorem F9{s s'}{l}(hs:∀i,i∈qO l->s' i=s i):l.map (ev s')=l.map (ev s):=
 azy fun o ho=>il fun i hi=>hs i (by simp only[qO,List.mem_flatMap];exact⟨o,ho,hi⟩)
theorem ad4{s s'}{op}(hs:∀i,i∈OP op->s' i=s i):gY s' op=gY s op:=by
 cases op<;>simp only[OP,List.mem_append]at hs<;>simp only[gY]
 case build z ps=>
  have:(ps.map fun p=>(p.1,p.2.1,ev s' p.2.2))=ps.map fun p=>(p.1,p.2.1,ev s p.2.2):=
   azy fun p hp=>by rw[il fun i hi=>hs i (by rw[List.mem_flatMap];exact⟨p,hp,hi⟩)]
  rw[this]
 case mnx m x ys=>rw[il fun i hi=>hs i (.inl hi),F9 fun i hi=>hs i (.inr hi)]
 case mkF f a b=>rw[F9 fun i hi=>hs i (.inl hi),F9 fun i hi=>hs i (.inr hi)]
 case pick c a b=>rw[il fun i hi=>hs i (.inl hi),il fun i hi=>hs i (.inr (.inl hi)),il fun i hi=>hs i (.inr (.inr hi))]
 case slc k x lo hi mx=>rw[il fun i hi=>hs i (.inl hi),zj fun i hi=>hs i (.inr (.inl hi)),zj fun i hi=>hs i (.inr (.inr (.inl hi))),zj fun i hi=>hs i (.inr (.inr (.inr hi)))]
 case slcS x lo hi=>rw[il fun i hi=>hs i (.inl hi),zj fun i hi=>hs i (.inr (.inl hi)),zj fun i hi=>hs i (.inr (.inr hi))]
 all_goals first
  |rw[il hs]
  |rw[il fun i hi=>hs i (.inl hi),il fun i hi=>hs i (.inr hi)]
theorem Ac{s s'}{d}{op}(hs:∀i,i∈OQ op->s' i=s i):step call md d op s' h=step call md d op s h/\∀h',gR d op s' h h'=gR d op s h h':=by
 cases op<;>simp only[OQ,List.mem_append]at hs<;>simp only[step,gR]
 case p op=>simp_all[ad4,trivial]
 case buildSl k z n ps=>
  have:(ps.map fun p=>(p.1,ev s' p.2))=ps.map fun p=>(p.1,ev s p.2):=
   azy fun p hp=>by rw[il fun i hi=>hs i (by rw[List.mem_flatMap];exact⟨p,hp,hi⟩)]
  rw[this];have h2:(ps.all fun p=>dat (ev s' p.2))=ps.all fun p=>dat (ev s p.2):=by
   rw[show(ps.all fun p=>dat (ev s' p.2))=((ps.map fun p=>(p.1,ev s' p.2)).all fun p=>dat p.2)from by rw[List.all_map];rfl,this,List.all_map];rfl
  rw[h2];exact⟨rfl,fun _=>rfl⟩
 case buildC k z n ps=>
  have:(ps.map fun p=>(p.1,ev s' p.2))=ps.map fun p=>(p.1,ev s p.2):=
   azy fun p hp=>by rw[il fun i hi=>hs i (by rw[List.mem_flatMap];exact⟨p,hp,hi⟩)]
  rw[this];have h2:(ps.all fun p=>dat (ev s' p.2))=ps.all fun p=>dat (ev s p.2):=by
   rw[show(ps.all fun p=>dat (ev s' p.2))=((ps.map fun p=>(p.1,ev s' p.2)).all fun p=>dat p.2)from by rw[List.all_map];rfl,this,List.all_map];rfl
  rw[h2];exact⟨rfl,fun _=>rfl⟩
 case slcM k x lo hi=>simp_all[il,zj,trivial]
 all_goals simp_all[il,F9,trivial]
theorem Kr{d}{f}{f'}{r}{t}(hz:oL s d f r=some (t,f')):∃x h',r=some (x,h',[])/\t=⟨gh s d x,h'⟩/\f'=f h':=by
 unfold oL at hz;grind
theorem Ga{o}{t}{f}(hz:eN call md o s h=some (t,f)):
  ∃x h',t=⟨gh s o.d x,h'⟩/\((∀s',∀g,(∀i,i∈mC o->s' i=s i)->eN call md o s' g=some (⟨gh s' o.d x,g⟩,some ([],[])))/\h'=h/\f=some ([],[])\/
   (step call md (o.d.getD 0) o.op s h=some (x,h',[])/\f=gR (o.d.getD 0) o.op s h h'/\
    ∀s',∀g,(∀i,i∈mC o->s' i=s i)->eN call md o s' g=oL s' o.d (gR (o.d.getD 0) o.op s g) (step call md (o.d.getD 0) o.op s g))):=by
 unfold eN at hz;cases hg:o.g with
 |none=>
  rw[hg]at hz;obtain⟨x,h',e1,e2,e3⟩:=Kr hz;refine⟨x,h',e2,.inr ⟨e1,e3,fun s' g hs=>?_⟩⟩;simp only[mC,hg,ay8]at hs;unfold eN;rw[hg];rw[(Ac (h:=g) hs).1,funext (Ac (call:=call) (md:=md) (h:=g) hs).2]
 |some jb=>
  obtain⟨j,b⟩:=jb;rw[hg]at hz;simp only at hz;have hj:∀s':ai,(∀i,i∈mC o->s' i=s i)->s' j=s j:=fun s' hs=>hs j (by grind[mC]);unfold sy at hz;split at hz
  ·rename_i bb hb;split at hz
   ·rename_i hbb;obtain⟨x,h',e1,e2,e3⟩:=Kr hz;refine⟨x,h',e2,.inr ⟨e1,e3,fun s' g hs=>?_⟩⟩;unfold eN;rw[hg];simp only;rw[hj s' hs,hb];simp only[sy,if_pos hbb];simp only[mC,hg,List.mem_append]at hs;rw[(Ac (h:=g) fun i hi=>hs i (.inr hi)).1,funext (Ac (call:=call) (md:=md) (h:=g) fun i hi=>hs i (.inr hi)).2]
   ·cases hz;refine⟨.und,h,rfl,.inl ⟨fun s' g hs=>?_,rfl,rfl⟩⟩
    simp_all[eN,sy,if_neg]
  ·cases hz;refine⟨.und,h,rfl,.inl ⟨fun s' g hs=>?_,rfl,rfl⟩⟩
   simp_all[eN,sy]
  grind
theorem LW{d}{x}{i}(hn:∀e,d=some e->i≠e):gh s d x i=s i:=by
 cases d with
 |none=>rfl
 |some e=>exact aM _ _ (hn e rfl)
theorem S1{a b}(x y)(hn:∀i j,a=some i->b=some j->i≠j):gh (gh s a x) b y=gh (gh s b y) a x:=by
 cases a with
 |none=>rfl
 |some i=>
  cases b with
  |none=>rfl
  |some j=>
   funext k;simp only[gh,upd];grind
theorem O6{a b}(hi:DN a b=true):(∀i d,i∈mC b->a.d=some d->i≠d)/\(∀i d,i∈mC a->b.d=some d->i≠d)/\∀i j,a.d=some i->b.d=some j->i≠j:=by
 simp only[DN,ay1]at hi;grind
def vD(f g:Fp):Prop:=pn f g=true
theorem S6{a b}(h:C6 a b=true){i}(ha:i∈a):i∉b:=by
 simp only[C6,azk,Bool.not_eq_true',List.contains_eq_mem,decide_eq_false_iff_not]at h;exact h i ha
theorem DR{α:Type}{l:List α}(h:l.isEmpty=true):l=[]:=by cases l<;>simp at h⊢
theorem ape{a b}{t1 t2}{fa fb}(ha:eN call md a s h=some (t1,fa))(hb:eN call md b t1.s t1.h=some (t2,fb))(hi:DN a b=true)(hf:vD fa fb):
  ∃t,eN call md b s h=some (t,fb)/\eN call md a t.s t.h=some (t2,fa):=by
 obtain⟨i1,i2,i3⟩:=O6 hi;obtain⟨xa,ha',rfl,ca⟩:=Ga ha;obtain⟨xb,hb',rfl,cb⟩:=Ga hb;have sb:∀i,i∈mC b->s i=gh s a.d xa i:=fun i hm=>(LW fun e he=>i1 i e hm he).symm;have sa:∀i,i∈mC a->gh s b.d xb i=s i:=fun i hm=>LW fun e he=>i2 i e hm he;have sc:=S1 (s:=s) xa xb i3;rcases ca with⟨ca,rfl,rfl⟩| ⟨ea,rfl,ca⟩
 ·
  rcases cb with⟨cb,rfl,rfl⟩| ⟨eb,rfl,cb⟩
  ·grind
  ·refine⟨⟨gh s b.d xb,hb'⟩,?_,by rw[ca _ _ sa,←sc]⟩;rw[cb s _ sb,eb];rfl
 ·rcases cb with⟨cb,rfl,rfl⟩| ⟨eb,rfl,cb⟩
  ·grind[oL]
  ·
   unfold vD at hf;cases efa:gR (a.d.getD 0) a.op s h ha' with
   |none=>
    rw[efa]at hf;cases efb:gR (b.d.getD 0) b.op (gh s a.d xa) ha' hb' with
    |none=>rw[efb]at hf;cases hf
    |some q=>
     obtain⟨r,w⟩:=q;rw[efb]at hf;simp only[pn,ay1]at hf;have hr:=DR hf.1;have hw:=DR hf.2;subst hr hw;have fb:=IF eb efb;obtain⟨g1,p1,p2,p3,p4⟩:=fb h (fun i hi=>by grind);obtain⟨g2,q1,q2,q3,q4⟩:=fb ha' (fun i hi=>rfl);have e1:=funext fun i=>p4 i σ;have e2:hb'=ha':=by
      grind
     grind[oL]
   |some p=>
    obtain⟨ra,wa⟩:=p;rw[efa]at hf;have fra:=IF ea efa;cases efb:gR (b.d.getD 0) b.op (gh s a.d xa) ha' hb' with
    |none=>
     rw[efb]at hf;simp only[pn,ay1]at hf;have hr:=DR hf.1;have hw:=DR hf.2;subst hr hw;obtain⟨g1,p1,p2,p3,p4⟩:=fra h (fun i hi=>rfl);have e1:ha'=h:=by
      grind
     obtain⟨g2,q1,q2,q3,q4⟩:=fra hb' (fun i hi=>by grind);have e2:=funext fun i=>q4 i σ;grind[oL]
    |some q=>
     obtain⟨rb,wb⟩:=q;rw[efb]at hf;simp only[pn,ay1]at hf;obtain⟨d1,d2⟩:=hf;have frb:=IF eb efb;have hout:∀i,dF i∉wa->ha' i=h i:=by
      obtain⟨g1,p1,p2,p3,p4⟩:=fra h (fun i hi=>rfl);grind
     have hout2:∀i,dF i∉wb->hb' i=ha' i:=by
      obtain⟨g1,p1,p2,p3,p4⟩:=frb ha' (fun i hi=>rfl);grind
     have nwa:∀i,dF i∈rb\/dF i∈wb->dF i∉wa:=fun i hi hw=>S6 d1 hw γ;obtain⟨g1,p1,p2,p3,p4⟩:=frb h (fun i hi=>(hout i (nwa i hi)).symm);have agr:∀i,dF i∈ra\/dF i∈wa->g1 i=h i:=fun i hi=>p4 i fun hw=>by
      grind[S6]
     obtain⟨g2,q1,q2,q3,q4⟩:=fra g1 agr;have e2:g2=hb':=funext fun i=>by
      by_cases hwa:dF i∈wa
      all_goals grind
     grind[oL]
theorem VG{o}{post}:∀ {pre} {s} {h} {t} {Fs},iQ call md (pre++o::post) s h=some (t,Fs)->
  ∃Fpre f Fpost,Fs=Fpre++f::Fpost/\Fpre.length=pre.length/\((∀ (j:Nat) a fa,pre[j]?=some a->Fpre[j]?=some fa->DN a o=true/\vD fa f)->
   ∃t1,eN call md o s h=some (t1,f)/\iQ call md (pre++post) t1.s t1.h=some (t,Fpre++Fpost))
 |[],s,h,t,Fs,hz=>by
  simp only[ay8,iQ,ayY]at hz;obtain⟨⟨t1,f⟩,e1,⟨t2,F2⟩,e2,e3⟩:=hz;cases e3;exact⟨[],f,F2,rfl,rfl,fun _=>⟨t1,e1,e2⟩⟩
 |a::pre,s,h,t,Fs,hz=>by
  simp only[azM,iQ,ayY]at hz;obtain⟨⟨t1,fa⟩,e1,⟨t2,F2⟩,e2,e3⟩:=hz;cases e3;obtain⟨Fpre,f,Fpost,rfl,hl,hh⟩:=VG e2;refine⟨fa::Fpre,f,Fpost,rfl,by grind,fun hc=>?_⟩;obtain⟨t3,g1,g2⟩:=hh fun j a' fa' h1 h2=>hc (j+1) a' fa' γ γ;obtain⟨c1,c2⟩:=hc 0 a fa rfl rfl;obtain⟨t4,k1,k2⟩:=ape e1 g1 c1 c2;refine⟨t4,k1,?_⟩;simp only[azM,iQ,ay2, *]
end
section
variable {P:Program} {I:Inv} {call:iD} {md:Mode} {N:Nat} {ops:Array Oper}
theorem Y0{o}{s}{h}{t}{f}(hz:eN call md o s h=some (t,f)):mR call md o s h=some t:=by
 have fin:∀F r,oL s o.d F r=some (t,f)->dC md.nm s o.d r=some t:=by
  intro F r hz;obtain⟨x,h',e1,e2,_⟩:=Kr hz;subst e1 e2;simp only[dC,qA,if_true];rfl
 unfold eN at hz;unfold mR;cases hg:o.g with
 |none=>
  grind
 |some jb=>
  unfold sy at hz;unfold lJ;grind
theorem Ad:∀ {l} {hs cl},tp P N ops hs l=some cl->cl.length=l.length/\∀ (j:Nat) o c,l[j]?=some o->cl[j]?=some c->∃hint,It P N ops hint o=some c
 |[],hs,cl,hc=>by grind[tp,Option.some.injEq]
 |o::l,hs,cl,hc=>by
  simp only[tp,ayY]at hc;obtain⟨c,e1,q,e2,e3⟩:=hc;cases e3;obtain⟨g1,g2⟩:=Ad e2;refine⟨by simp[g1],fun j o' c' h1 h2=>?_⟩;cases j with
  |zero=>simp at h1 h2;subst h1 h2;exact⟨_,e1⟩
  |succ j=>exact g2 j o' c' (by simpa using h1) (by simpa using h2)
theorem VH:∀ {l} {s} {h} {t} {Fs},iQ call md l s h=some (t,Fs)->Fs.length=l.length/\∀ (j:Nat) a f,l[j]?=some a->Fs[j]?=some f->∃s' h' t',eN call md a s' h'=some (t',f)
 |[],s,h,t,Fs,hz=>by grind[iQ,Option.some.injEq,Prod.mk.injEq]
 |o::l,s,h,t,Fs,hz=>by
  simp only[iQ,ayY]at hz;obtain⟨⟨t1,f1⟩,e1,⟨t2,F2⟩,e2,e3⟩:=hz;cases e3;obtain⟨g1,g2⟩:=VH e2;refine⟨by simp[g1],fun j a f h1 h2=>?_⟩;cases j with
  |zero=>simp at h1 h2;subst h1 h2;exact⟨s,h,t1,e1⟩
  |succ j=>exact g2 j a f (by simpa using h1) (by simpa using h2)
theorem QS{i}:∀ {l acc},i∈ZG acc l↔i∈acc\/i∈l
 |[],acc=>by simp[ZG]
 |a::l,acc=>by
  unfold ZG;cases h:acc.contains a with
  |true=>
   rw[QS];have ha:=by simpa using h
   constructor
   ·rintro(h1|h1)
    ·exact .inl h1
    ·exact .inr (List.mem_cons_of_mem _ h1)
   ·rintro(h1|h1)
    ·exact .inl h1
    ·rcases List.mem_cons.1 h1 with rfl|h1
     ·exact .inl ha
     ·exact .inr h1
  |false=>
   rw[QS];simp only[List.mem_cons];constructor
   ·rintro((h1|h1)|h1)
    ·exact .inr (.inl h1)
    ·exact .inl h1
    ·exact .inr (.inr h1)
   ·rintro(h1|h1|h1)
    ·exact .inl (.inr h1)
    ·exact .inl (.inl h1)
    ·exact .inr h1
theorem Nz{o}{acc}{i}:i∈Iu o acc↔i∈sD o\/∃d∈sD o,i∈acc.getD d []:=by
 unfold Iu;rw[QS,List.mem_append,List.mem_flatMap];simp
theorem NA:∀l acc,∃r,ri l acc=acc++r/\r.length=l.length
 |[],acc=>⟨[],by simp[ri],rfl⟩
 |o::l,acc=>by
  obtain⟨r,e1,e2⟩:=NA l (acc++[Iu o acc]);grind[Iu,ri,azB]
theorem VJ:∀l acc j o,l[j]?=some o->∃pre,(ri l acc)[acc.length+j]?=some (Iu o pre)/\
  pre.length=acc.length+j/\∃r,ri l acc=pre++r
 |[],acc,j,o,h=>by grind
 |o::l,acc,0,o',h=>by
  obtain⟨r,e1,e2⟩:=NA l (acc++[Iu o acc]);grind[ri,azB]
 |o::l,acc,j+1,o',h=>by
  obtain⟨pre,e1,e2,e3⟩:=VJ l (acc++[Iu o acc]) j o' γ;refine⟨pre,?_,by grind,e3⟩;rw[ri,←e1];grind
theorem Ks{C}{j}{b}{bf}:∀ {l} {i0},LR C j b bf i0 l=true->∀i a,l[i]?=some a->(i0+i)∈bf\/C (i0+i) j a b=true
 |[],i0,_,i,a,h=>by grind
 |c::l,i0,hd,i,a,h=>by
  simp only[LR,ay1,Bool.or_eq_true]at hd;cases i with
  |zero=>grind
  |succ i=>
   have:=Ks hd.2 i a γ;grind
theorem Dc{C}:∀ {l} {bs} {j0} {done},done.length=j0->Iv C j0 done l bs=true->∀j b bf,l[j]?=some b->bs[j]?=some bf->
  (∀i∈bf,i<j0+j)/\∀i a,i<j0+j->(done++l)[i]?=some a->i∈bf\/C i (j0+j) a b=true
 |[],bs,j0,done,hl,hd,j,b,bf,h1,h2=>by grind
 |c::l,[],j0,done,hl,hd,j,b,bf,h1,h2=>by grind
 |c::l,b0::bs,j0,done,hl,hd,j,b,bf,h1,h2=>by
  simp only[Iv,ay1,azk,decide_eq_true_eq]at hd;cases j with
  |zero=>
   simp at h1 h2;subst h1 h2;refine⟨hd.1,fun i a hi ha=>?_⟩;rw[List.getElem?_append_left ω]at ha;simpa using Ks hd.2.1 i a ha
  |succ j=>
   obtain⟨g1,g2⟩:=Dc γ hd.2.2 j b bf γ γ;grind
theorem S7(f):vD (some ([],[])) f:=by
 unfold vD;cases f<;>simp[pn,C6]
theorem vD.symm{f g}(h:vD f g):vD g f:=by
 unfold vD at*
 cases f<;>cases g<;>simp only[pn]at h⊢ <;>try exact h
 simp only[ay1,C6,azk,Bool.not_eq_true',List.contains_eq_mem,decide_eq_false_iff_not,List.mem_append]at h⊢;grind
theorem ZN{o}{s}{h}{t}{f}(hz:eN call md o s h=some (t,f))(hp:isP o.op=true):f=some ([],[]):=by
 obtain⟨x,h',e,⟨_,_,rfl⟩| ⟨_,rfl,_⟩⟩:=Ga hz
 ·rfl
 ·cases ho:o.op<;>rw[ho]at hp<;>first|rfl|cases hp
theorem O7{o}{s}{h}{t}{f}(hz:eN call md o s h=some (t,f))(hp:Vl o.op=true):∃r,f=some (r,[]):=by
 obtain⟨x,h',e,⟨_,_,rfl⟩| ⟨e2,rfl,_⟩⟩:=Ga hz
 ·grind
 ·cases ho:o.op<;>rw[ho]at hp<;>try (cases hp;done)
  rename_i k g y;rw[ho]at e2;simp only[step]at e2;simp only[gR];cases hy:ev s y<;>rw[hy]at e2<;>simp only[jz]at e2<;>first| (cases e2;done)|exact⟨_,rfl⟩
abbrev apf:=List (Nat×COp×Fp)
theorem Ok.draws{w}{X}{ρ}{h}{s}{a}(ok:Ok I N w X ρ h s a):Ok I N {w with drawn:=w.drawn+1} X ρ h s a/\Far md.nm w ρ h {w with drawn:=w.drawn+1} ρ h:=by
 have e:Evo w ρ h {w with drawn:=w.drawn+1} ρ h []:=⟨rfl,rfl,rfl,ayZ _,fun _ _ _=>rfl,fun _ _ hp _=>⟨hp,rfl⟩,fun _ ho=>.inl ho,fun _ hb=>⟨hb,rfl⟩,fun _ _ hd=>⟨hd,rfl⟩⟩;exact⟨⟨ok.rel.step e (fun _=>False) (fun _ _=>⟨rfl,fun _=>rfl,fun _ _=>rfl⟩) ok.rel.inj ok.rel.nx (fun _ hf=>hf.elim),e.rs ok.rs,ok.size,ok.defers,e.inv ok.rel ok.inv⟩,e.far (qA _)⟩
def Kt(g:Nat)(a b:COp):Prop:=∃e n,a=⟨some e,none,.p (.mv (.t n))⟩/\DN a b=true/\(g=0\/(g≠e+1/\g≠n+1))
theorem ab7{g}{a b}(h:aby g a b=true):Kt g a b:=by
 unfold aby at h;split at h
 ·rename_i e n;simp only[ay1,Bool.or_eq_true,beq_iff_eq,bne_iff_ne]at h;exact⟨e,n,rfl,h.1,h.2⟩
 grind
theorem Kt.zero{g}{a b}(h:Kt g a b):Kt 0 a b:=by
 obtain⟨e,n,h1,h2,_⟩:=h;exact⟨e,n,h1,h2,.inl rfl⟩
theorem VK(ks:K)(s:ai)(e n):kP ks (upd s e (s n))=upd (kP ks s) e (kP ks s n):=by
 cases ks with
 |nil=>rfl
 |cons p l=>
  grind[kP,upd]
theorem VL{d}{e}{x y}{s:ai}(hd:d≠some e):gh (upd s e y) d x=upd (gh s d x) e y:=by
 have:=S1 (s:=s) (a:=some e) (b:=d) y x fun i j h1 h2=>by
  grind
 exact this
theorem S8{nm}{s:ai}{d}{e n}{r}{t}(h1:d≠some e)(h2:d≠some n)(hz:dC nm (upd s e (s n)) d r=some t):∃t2,dC nm s d r=some t2/\t=⟨upd t2.s e (t2.s n),t2.h⟩:=by
 unfold dC at hz⊢;split at hz
 ·split at hz
  ·grind[gh,kP,LW,VK,VL]
  grind
 grind
theorem ab8{b}{s:ai}{h}{e n}{t}(hi:DN ⟨some e,none,.p (.mv (.t n))⟩ b=true)(hz:mR call md b (upd s e (s n)) h=some t):∃t2,mR call md b s h=some t2/\t=⟨upd t2.s e (t2.s n),t2.h⟩:=by
 obtain⟨i1,i2,i3⟩:=O6 hi;have h1:=fun hh=>i3 e e rfl hh rfl;have h2:=fun hh=>i2 n n (by simp[mC,OQ,OP,ig]) hh rfl;have hr:∀i,i∈mC b->upd s e (s n) i=s i:=fun i hm=>aM _ _ (i1 i e hm rfl);have hs:step call md (b.d.getD 0) b.op (upd s e (s n)) h=step call md (b.d.getD 0) b.op s h:=(Ac fun i hm=>hr i (by grind[mC])).1;have hu:∀x,gh (upd s e (s n)) b.d x=upd (gh s b.d x) e (gh s b.d x n):=fun x=>by
  rw[VL h1];grind[LW]
 unfold mR at hz⊢;cases hg:b.g with
 |none=>
  grind[S8]
 |some jb=>
  obtain⟨j,w⟩:=jb;rw[hg]at hz;simp only at hz⊢;rw[hs,hr j (by grind[mC])]at hz;unfold lJ at hz⊢;split at hz
  ·split at hz
   all_goals simp_all[if_pos,S8,if_neg]
  all_goals grind
theorem ag3{s:ai}{i e}{x y}(hn:i≠e):upd (upd s e y) i x=upd (upd s i x) e y:=by
 grind[upd]
theorem ab9{nm}{g}{s:ai}{h}{e n}{t}(hg:g=0\/(g≠e+1/\g≠n+1))(hz:uG nm g (upd s e (s n)) h=some t):∃t2,uG nm g s h=some t2/\t=⟨upd t2.s e (t2.s n),t2.h⟩:=by
 cases g with
 |zero=>cases hz;exact⟨_,rfl,rfl⟩
 |succ i=>
  have h1:i≠e:=ω
  simp only[uG]at hz⊢;rw[aM _ _ h1]at hz;simp only[ayY]at hz;obtain⟨r,e1,e2⟩:=hz;split at e2
  ·cases hi:s i<;>rw[hi]at e1<;>simp only[SM]at e1<;>try (cases e1;done)
   ·cases e1
    simp_all[SM,qA]
   ·rename_i id sub k lo m;cases sub with
    |none=>grind
    |some p=>
    simp only at e1;split at e1
    ·cases eo:h id<;>rw[eo]at e1<;>simp only[ZF]at e1<;>try (cases e1;done)
     rename_i cs;cases ec:cs[p]? with
     |none=>grind[OR]
     |some c=>
      rw[ec]at e1;cases c<;>simp only[OR]at e1<;>try (cases e1;done)
      split at e1
      ·cases e1
       simp_all[SM,if_pos,ZF,OR,ay2,VK,ag3,aM,Ne.symm]
      grind
    grind
  grind
theorem VN{g}{y}:∀ {L} {s} {h} {t0 t1 t2} {Fs},(∀x∈L,Kt g x y)->iQ call md L s h=some (t0,Fs)->uG md.nm g t0.s t0.h=some t1->mR call md y t1.s t1.h=some t2->
  ∃r1 r2,uG md.nm g s h=some r1/\mR call md y r1.s r1.h=some r2/\iQ call md L r2.s r2.h=some (t2,Fs)
 |[],s,h,t0,t1,t2,Fs,_,h1,h2,h3=>by
  grind[iQ,Option.some.injEq,Prod.mk.injEq]
 |a::L,s,h,t0,t1,t2,Fs,hl,h1,h2,h3=>by
  obtain⟨e,n,rfl,hi,hg⟩:=hl a σ;simp only[iQ,ayY]at h1;obtain⟨⟨t',f⟩,e1,⟨t'',F2⟩,e2,e3⟩:=h1;cases e3;have e1':t'=⟨upd s e (s n),h⟩/\f=some ([],[]):=by
   simp only[eN,step,gY,ev,Et,azE,oL,gR,Option.some.injEq,Prod.mk.injEq]at e1;exact⟨e1.1.symm,e1.2.symm⟩
  obtain⟨rfl,rfl⟩:=e1';obtain⟨r1,r2,g1,g2,g3⟩:=VN (fun x hx=>hl x γ) e2 h2 h3;obtain⟨q1,k1,rfl⟩:=ab9 hg g1;obtain⟨q2,k2,rfl⟩:=ab8 hi g2
  simp_all[iQ,eN,step,gY,ev,Et,azE,oL,gR,ay2,gh]
abbrev apg:=List (Nat×COp)
structure RestB (ops:Array Oper) (cl:List COp) (bf:Nat->List Nat) (listed:Array Bool) (g:Nat) (L:apf) (T:apg):Prop where
 size:listed.size=ops.size
 op:∀x∈L,cl[x.1]?=some x.2.1/\listed.getD x.1 true=false
 opT:∀y∈T,cl[y.1]?=some y.2/\listed.getD y.1 true=false
 all:∀j,j<ops.size->listed.getD j true=false->(∃x∈L,x.1=j)\/∃y∈T,y.1=j
 pw:L.Pairwise fun x y=>x.1<y.1/\(x.1∈bf y.1\/(DN x.2.1 y.2.1=true/\vD x.2.2 y.2.2))
 lt:∀x∈L,∀y∈T,x.1<y.1/\(x.1∈bf y.1\/Kt g x.2.1 y.2)
 pwT:T.Pairwise fun x y=>x.1<y.1/\x.1∈bf y.1
 cls:∀k,k<ops.size->listed.getD k true=true->∀i∈bf k,listed.getD i true=true
theorem Ku(hcall:nc P I call md)(hN:N<=1000){hs cl}(hc:tp P N ops hs ops.toList=some cl){bf}
  (hlt:∀j,j<ops.size->∀i∈bf j,i<j) (hdep:∀j o,ops[j]?=some o->(∀d∈sD o,d∈bf j)/\∀i∈bf j,i∈sD o\/∃d∈sD o,i∈bf d):
  ∀fuel {g} {L} {T} {listed} {w} {X} {ρ} {h} {s} {a} {t0 tg t} {Q},L.length+T.length=fuel->RestB ops cl bf listed g L T->
   iQ call md (L.map (·.2.1)) s h=some (t0,L.map (·.2.2))->uG md.nm g t0.s t0.h=some tg->aF call md (T.map (·.2)) tg.s tg.h=some t->Ok I N w X ρ h s a->(∀a' w' ρ',Ok I N w' X ρ' t.h t.s a'->Far md.nm w ρ h w' ρ' t.h->Q .normal a' w')->wpAny P .any ops Q fuel listed a w
 |0,g,L,T,listed,w,X,ρ,h,s,a,t0,tg,t,Q,hl,hr,hz,hgh,hT,ok,hQ=>by
  have:L=[]:=by simp_all
  subst this;have:T=[]:=by simp_all
  subst this;simp only[azF,iQ,Option.some.injEq,Prod.mk.injEq]at hz;obtain⟨rfl,_⟩:=hz;simp only[azF,aF,Option.some.injEq]at hT;subst hT;obtain⟨ρ',ok',far'⟩:=MR ok hgh;refine⟨?_,hQ _ _ ρ' ok' far'⟩;rw[List.eq_nil_iff_forall_not_mem];intro j hj;obtain⟨h1,o,h2,_⟩:=mem_ready.1 hj;rcases hr.all j (Array.getElem?_eq_some_iff.1 h2).1 h1 with⟨x,hx,_⟩| ⟨x,hx,_⟩<;>simp at hx
 |fuel+1,g,L,T,listed,w,X,ρ,h,s,a,t0,tg,t,Q,hl,hr,hz,hgh,hT,ok,hQ=>by
  have tf:∀d,d<ops.size->listed.getD d true=listed.getD d false:=fun d hd=>by
   have:d<listed.size:=by rw[hr.size];omega
   grind
  have lenc:=(Ad hc).1;have cllt:∀ {j:Nat} {c:COp},cl[j]?=some c->j<ops.size:=fun h1=>by
   grind
  have first:∀j,j<ops.size->listed.getD j true=false->(∀k,k<j->listed.getD k true=true)->j∈Region.ready .any ops listed:=by
   intro j hj h1 h2;have hox:ops[j]?=some ops[j]:=γ
   refine mem_ready.2 ⟨h1,ops[j],hox,fun e he hb=>?_⟩;have hd:e.on∈sD ops[j]:=by
    simp only[sD,azP,List.mem_filter];exact⟨e,⟨by simpa using he,hb⟩,rfl⟩
   have hlt':=hlt j hj _ ((hdep j _ hox).1 _ hd);rw[←tf e.on ω];exact h2 _ hlt'
  have isT:∀k,listed.getD k true=true\/listed.getD k true=false:=fun k=>by cases listed.getD k true<;>simp
  refine⟨fun hnil=>?_,fun i hi=>?_⟩
  ·exfalso;have key:∃j,j<ops.size/\listed.getD j true=false/\∀k,k<j->listed.getD k true=true:=by
    cases L with
    |cons x L'=>
     obtain⟨h1,h2⟩:=hr.op x σ;refine⟨x.1,cllt h1,h2,fun k hk=>?_⟩;rcases isT k with h3|h3
     ·omega
     ·rcases hr.all k (Nat.lt_trans hk (cllt h1)) h3 with⟨y,hy,rfl⟩| ⟨y,hy,rfl⟩
      ·rcases List.mem_cons.1 hy with rfl|hy'
       ·omega
       ·have:=(List.pairwise_cons.1 hr.pw).1 y hy';omega
      ·have:=(hr.lt x σ y hy).1;omega
    |nil=>
     cases T with
     |nil=>grind
     |cons x T'=>
      obtain⟨h1,h2⟩:=hr.opT x σ;refine⟨x.1,cllt h1,h2,fun k hk=>?_⟩;rcases isT k with h3|h3
      ·omega
      ·rcases hr.all k (Nat.lt_trans hk (cllt h1)) h3 with⟨y,hy,rfl⟩| ⟨y,hy,rfl⟩
       ·grind
       ·rcases List.mem_cons.1 hy with rfl|hy'
        ·omega
        ·have:=(List.pairwise_cons.1 hr.pwT).1 y hy';omega
   grind
  ·obtain⟨h1,o,h2,h3⟩:=mem_ready.1 hi;have hisz:=(Array.getElem?_eq_some_iff.1 h2).1;have hbl:∀k∈bf i,listed.getD k true=true:=by
    intro k hk;have dl:∀d∈sD o,listed.getD d true=true:=by
     intro d hd;have hdl:d<ops.size:=Nat.lt_trans (hlt i hisz d ((hdep i o h2).1 d hd)) hisz;simp only[sD,azP,List.mem_filter]at hd;obtain⟨e,⟨he,hb⟩,rfl⟩:=hd;rw[tf _ hdl];exact h3 e (by simpa using he) hb
    rcases(hdep i o h2).2 k hk with hd| ⟨d,hd,hkd⟩
    ·grind
    ·exact hr.cls d (Nat.lt_trans (hlt i hisz d ((hdep i o h2).1 d hd)) hisz) (dl d hd) k hkd
   have set_ne:∀k,k≠i->(listed.setIfInBounds i true).getD k true=listed.getD k true:=fun k hk=>getD_set_ne true (Ne.symm hk);have set_same:(listed.setIfInBounds i true).getD i true=true:=by
    simp_all
   have cls':∀k,k<ops.size->(listed.setIfInBounds i true).getD k true=true->∀k'∈bf k,(listed.setIfInBounds i true).getD k' true=true:=fun k hk hkl k' hk'=>by
    have old:listed.getD k' true=true:=by
     by_cases hkx:k=i
     ·grind
     ·rw[set_ne _ hkx]at hkl;exact hr.cls k hk hkl k' hk'
    grind
   rcases hr.all i hisz h1 with⟨x,hx,rfl⟩| ⟨y,hy,rfl⟩
   ·obtain⟨L1,L2,rfl⟩:=List.append_of_mem hx;have hpw:=hr.pw;rw[List.pairwise_append]at hpw;obtain⟨pw1,pw2,pw3⟩:=hpw;rw[List.pairwise_cons]at pw2;simp only[List.map_append,azv]at hz;obtain⟨Fpre,f,Fpost,e1,e2,e3⟩:=VG hz;have e4:Fpre=L1.map (·.2.2)/\f=x.2.2/\Fpost=L2.map (·.2.2):=by
     grind[List.append_inj,List.cons.injEq]
    obtain⟨rfl,rfl,rfl⟩:=e4;obtain⟨t1,g1,g2⟩:=e3 fun j c fc hj1 hj2=>by
     simp only[List.getElem?_map,ay0]at hj1 hj2;obtain⟨y,hy,rfl⟩:=hj1;obtain⟨y',hy',rfl⟩:=hj2;rw[hy]at hy';cases hy';have hyL:=List.mem_of_getElem? hy;rcases(pw3 y hyL x σ).2 with hin|hh
     ·have:=hbl _ hin;rw[(hr.op y γ).2]at this;grind
     omega
    obtain⟨c1,_⟩:=hr.op x σ;obtain⟨hint,hco⟩:=(Ad hc).2 x.1 o x.2.1 (by simpa using h2) c1;have nx:∀y,y∈L1++L2->y.1≠x.1:=by
     intro y hy;rcases List.mem_append.1 hy with hy|hy
     ·have:=(pw3 y hy x σ).1;omega
     ·have:=(pw2.1 y hy).1;omega
    refine ID hcall hN h2 hco ok (Y0 g1) fun a' w' ρ' ok' far=>?_;refine Ku hcall hN hc hlt hdep fuel (L:=L1++L2) (T:=T) (by simp at hl⊢;omega) ⟨by simpa using hr.size,fun y hy=>?_,fun y hy=>?_,fun j hj hjl=>?_,?_,fun y hy=>hr.lt y (by rcases List.mem_append.1 hy with hy|hy<;>simp[hy]),hr.pwT,cls'⟩ (by simpa [List.map_append]using g2) hgh hT ok' fun a'' w'' ρ'' ok'' far'=>hQ _ _ ρ'' ok'' (far.trans far')
    ·obtain⟨q1,q2⟩:=hr.op y (by rcases List.mem_append.1 hy with hy|hy<;>simp[hy]);exact⟨q1,by rw[set_ne _ (nx y hy)];exact q2⟩
    ·obtain⟨q1,q2⟩:=hr.opT y hy;have:=(hr.lt x σ y hy).1;exact⟨q1,by rw[set_ne _ ω];exact q2⟩
    ·have hne:j≠x.1:=by rintro rfl;rw[set_same]at hjl;cases hjl
     rw[set_ne _ hne]at hjl;rcases hr.all j hj hjl with⟨y,hy,rfl⟩|hyT
     ·refine .inl ⟨y,?_,rfl⟩;simp only[List.mem_append,List.mem_cons]at hy⊢;rcases hy with hy|rfl|hy
      ·exact .inl hy
      ·exact absurd rfl hne
      ·exact .inr hy
     ·exact .inr hyT
    grind
   ·
    cases T with
    |nil=>simp at hy
    |cons z T'=>
    have hzy:z=y:=by
     rcases List.mem_cons.1 hy with rfl|hy'
     ·rfl
     ·have h5:=((List.pairwise_cons.1 hr.pwT).1 y hy').2;have:=hbl _ h5;rw[(hr.opT z σ).2]at this;cases this
    subst hzy;have hlate:∀x∈L,Kt g x.2.1 z.2:=fun x hx=>by
     rcases(hr.lt x hx z σ).2 with h5|h5
     ·have:=hbl _ h5;rw[(hr.op x hx).2]at this;cases this
     ·exact h5
    simp only[azv,aF,bq]at hT;split at hT
    ·cases hT
    ·rename_i t2 ht2;obtain⟨r1,r2,g1,g2,g3⟩:=VN (L:=L.map (·.2.1)) (fun x hx=>by
      obtain⟨q,hq,rfl⟩:=List.mem_map.1 hx;exact hlate q hq) hz hgh ht2
     obtain⟨ρg,okg,farg⟩:=MR ok g1;obtain⟨c1,_⟩:=hr.opT z σ;obtain⟨hint,hco⟩:=(Ad hc).2 z.1 o z.2 (by simpa using h2) c1;refine ID hcall hN h2 hco okg g2 fun a' w' ρ' ok' far=>?_;refine Ku hcall hN hc hlt hdep fuel (g:=0) (L:=L) (T:=T') (by simp at hl⊢;omega) ⟨by simpa using hr.size,fun x hx=>?_,fun y hy=>?_,fun j hj hjl=>?_,hr.pw,fun x hx y hy=>?_,(List.pairwise_cons.1 hr.pwT).2,cls'⟩ g3 rfl hT ok' fun a'' w'' ρ'' ok'' far'=>hQ _ _ ρ'' ok'' ((farg.trans far).trans far')
     ·obtain⟨q1,q2⟩:=hr.op x hx;have:=(hr.lt x hx z σ).1;exact⟨q1,by rw[set_ne _ ω];exact q2⟩
     ·obtain⟨q1,q2⟩:=hr.opT y (by simp[hy]);have:=((List.pairwise_cons.1 hr.pwT).1 y hy).1;exact⟨q1,by rw[set_ne _ ω];exact q2⟩
     ·have hne:j≠z.1:=by rintro rfl;rw[set_same]at hjl;cases hjl
      rw[set_ne _ hne]at hjl;rcases hr.all j hj hjl with hx| ⟨y,hy,rfl⟩
      ·exact .inl hx
      ·rcases List.mem_cons.1 hy with rfl|hy'
       ·exact absurd rfl hne
       ·exact .inr ⟨y,hy',rfl⟩
     ·obtain⟨q1,q2⟩:=hr.lt x hx y (by simp[hy]);exact⟨q1,q2.imp_right Kt.zero⟩
theorem VO(hm:P.follows .mixedOrders=true)(hcall:nc P I call md)(hN:N<=1000){id}{hs0 cl}{w}{X}{ρ}{h}{s}{a}{t0 tg t}{m g}{qs}{Fs}{Q}
  (hc:tp P N ops hs0 ops.toList=some cl)
  (hsp:∀j b bf,cl[j]?=some b->(ri ops.toList [])[j]?=some bf->(∀i∈bf,i<j)/\∀i a,i<j->cl[i]?=some a->i∈bf\/LQ m g qs i j a b=true)
  (ok:Ok I N w X ρ h s a) (e1:iQ call md (cl.take m) s h=some (t0,Fs)) (hps:qs.all (zf Fs)=true) (hgh:uG md.nm g t0.s t0.h=some tg) (hT:aF call md (cl.drop m) tg.s tg.h=some t)
  (hQ:∀a' w' ρ',Ok I N w' X ρ' t.h t.s a'->Far md.nm w ρ h w' ρ' t.h->Q .normal a' w'):(Code.region id ops true).wp P Q a w:=by
 refine wp_region_any hm ?_;obtain⟨ok',far'⟩:=ok.draws (md:=md);obtain⟨lf,gf⟩:=VH e1;obtain⟨lc,gc⟩:=Ad hc;have lc':cl.length=ops.size:=ω
 have ltm:(cl.take m).length=min m ops.size:=γ
 have lb:(ri ops.toList []).length=ops.size:=by
  obtain⟨r,q1,q2⟩:=NA ops.toList [];grind
 have bget:∀j,j<ops.size->(ri ops.toList [])[j]?=some ((ri ops.toList []).getD j []):=fun j hj=>by
  grind
 have hlt:∀j,j<ops.size->∀i∈ (ri ops.toList []).getD j [],i<j:=fun j hj i hi=>by
  simp_all
 have hdep:∀ (j:Nat) (o:Oper),ops[j]?=some o->(∀d∈sD o,d∈ (ri ops.toList []).getD j [])/\∀i∈ (ri ops.toList []).getD j [],i∈sD o\/∃d∈sD o,i∈ (ri ops.toList []).getD d []:=fun j o hj=>by
  have hjs:j<ops.size:=(Array.getElem?_eq_some_iff.1 hj).1;obtain⟨pre,q1,q2,r,q3⟩:=VJ ops.toList [] j o γ;simp only[azx,ayX]at q1 q2;have hrow:(ri ops.toList []).getD j []=Iu o pre:=by
   grind
  have hpre:∀d∈sD o,pre.getD d []=(ri ops.toList []).getD d []:=fun d hd=>by
   have hdj:d<j:=hlt j hjs d (by rw[hrow];exact Nz.2 (.inl hd));grind
  refine⟨fun d hd=>by rw[hrow];exact Nz.2 (.inl hd),fun i hi=>?_⟩;rw[hrow]at hi;rcases Nz.1 hi with hi| ⟨d,hd,hid⟩
  all_goals grind
 have getL:∀x∈ (List.range ops.size).zip ((cl.take m).zip Fs),x.1<m/\x.1<ops.size/\cl[x.1]?=some x.2.1/\Fs[x.1]?=some x.2.2:=fun x hx=>by
  obtain⟨n,hn⟩:=List.getElem?_of_mem hx;grind
 have getT:∀y∈ (List.range' (min m ops.size) (ops.size-m)).zip (cl.drop m),m<=y.1/\y.1<ops.size/\cl[y.1]?=some y.2:=fun y hy=>by
  obtain⟨n,hn⟩:=List.getElem?_of_mem hy;rw[List.getElem?_zip_eq_some]at hn;grind
 refine Ku hcall hN hc (bf:=fun j=>(ri ops.toList []).getD j []) hlt hdep ops.size (g:=g) (L:=(List.range ops.size).zip ((cl.take m).zip Fs)) (T:=(List.range' (min m ops.size) (ops.size-m)).zip (cl.drop m)) ?_ ⟨by simp,fun x hx=>?_,fun y hy=>?_,fun j hj _=>?_,?_,fun x hx y hy=>?_,?_,fun k hk hkl=>?_⟩ (t0:=t0) (tg:=tg) (t:=t) ?_ hgh ?_ ok' fun a'' w'' ρ'' ok'' far''=>hQ _ _ ρ'' ok'' (far'.trans far'')
 ·grind
 ·obtain⟨q0,q1,q2,q3⟩:=getL x hx;exact⟨q2,by simp[q1]⟩
 ·obtain⟨q0,q1,q2⟩:=getT y hy;exact⟨q2,by simp[q1]⟩
 ·by_cases hjm:j<m
  ·have hjt:j< (cl.take m).length:=ω
   refine .inl ⟨(j,(cl.take m)[j],Fs[j]'(by omega)),?_,rfl⟩;refine List.mem_of_getElem? (i:=j) ?_;grind
  ·have hjt:j-m< (cl.drop m).length:=by rw[azQ,lc'];omega
   refine .inr ⟨(j,(cl.drop m)[j-m]),?_,rfl⟩;refine List.mem_of_getElem? (i:=j-m) ?_;rw[List.getElem?_zip_eq_some];refine⟨?_,by rw[List.getElem?_eq_getElem hjt]⟩;rw[List.getElem?_range' ω];simp only[Option.some.injEq];omega
 ·rw[List.pairwise_iff_getElem];intro i j hi hj hij;have hj':j< (cl.take m).length/\j<Fs.length:=by simp only[List.length_zip,List.length_range,lf]at hj;omega
  have hjs:j<ops.size:=ω
  have hjm:j<m:=ω
  simp only[List.getElem_zip,List.getElem_range,List.getElem_take];refine⟨hij,?_⟩;rcases(hsp j cl[j] _ σ (bget j hjs)).2 i cl[i] ω σ with hb|hb
  ·grind
  ·refine .inr ?_;simp only[LQ,if_pos hjm,abx,ay1,Bool.or_eq_true]at hb;obtain⟨hb1,hb2⟩:=hb;refine⟨hb1,?_⟩;have gi:∀q (hq:q< (cl.take m).length) (hq':q<Fs.length),∃s' h' t',eN call md (cl[q]'(by omega)) s' h'=some (t',Fs[q]):=fun q hq hq'=>by
    refine gf q _ _ ?_ (by rw[List.getElem?_eq_getElem hq']);rw[List.getElem?_eq_getElem hq,List.getElem_take]
   obtain⟨s1,h1,t1,st1⟩:=gi i ω ω;obtain⟨s2,h2,t2,st2⟩:=gi j hj'.1 hj'.2;rcases hb2 with((hb2|hb2)|hb2)|hb2
   ·rw[ZN st1 hb2];exact S7 _
   ·rw[ZN st2 hb2];exact(S7 _).symm
   ·obtain⟨r1,k1⟩:=O7 st1 hb2.1;obtain⟨r2,k2⟩:=O7 st2 hb2.2;rw[k1,k2];simp[vD,pn,C6]
   ·have:=List.all_eq_true.1 hps (i,j) (by simpa using hb2);simp only[zf]at this;rw[List.getElem?_eq_getElem (show i<Fs.length from by omega),List.getElem?_eq_getElem hj'.2]at this;exact this
 ·obtain⟨q0,q1,q2,q3⟩:=getL x hx;obtain⟨p0,p1,p2⟩:=getT y hy;refine⟨by omega,?_⟩;rcases(hsp y.1 y.2 _ p2 (bget y.1 p1)).2 x.1 x.2.1 ω q2 with hb|hb
  ·exact .inl hb
  ·simp only[LQ,if_neg (show¬y.1<m by omega),ay1]at hb;exact .inr (ab7 hb.2)
 ·rw[List.pairwise_iff_getElem];intro i j hi hj hij;have hi':=getT _ (azo hi);have hj':=getT _ (azo hj);have hlt2:((List.range' (min m ops.size) (ops.size-m)).zip (cl.drop m))[i].1< ((List.range' (min m ops.size) (ops.size-m)).zip (cl.drop m))[j].1:=by
   simp only[List.getElem_zip,List.getElem_range'];omega
  refine⟨hlt2,?_⟩;rcases(hsp _ _ _ hj'.2.2 (bget _ hj'.2.1)).2 _ _ hlt2 hi'.2.2 with hb|hb
  ·omega
  ·simp only[LQ,if_neg (Nat.not_lt.2 hj'.1),ay1,decide_eq_true_eq]at hb;have:=hb.1;have:=hi'.1;omega
 ·simp[hk]at hkl
 ·have m1:((List.range ops.size).zip ((cl.take m).zip Fs)).map (·.2.1)=cl.take m:=by
   rw[show(fun x:Nat×COp×Fp=>x.2.1)=Prod.fst∘Prod.snd from rfl,←List.map_map,List.map_snd_zip (by simp[lc',lf,azd];omega),List.map_fst_zip ω]
  have m2:((List.range ops.size).zip ((cl.take m).zip Fs)).map (·.2.2)=Fs:=by
   rw[show(fun x:Nat×COp×Fp=>x.2.2)=Prod.snd∘Prod.snd from rfl,←List.map_map,List.map_snd_zip (by simp[lc',lf,azd];omega),List.map_snd_zip ω]
  rw[m1,m2];exact e1
 grind[List.range',List.map_snd_zip]
theorem aca(hm:P.follows .mixedOrders=true)(hcall:nc P I call md)(hN:N<=1000):SW P I call md N:=by
 intro id ops hs0 cl w X ρ h s a t ps Q hc hd ok hz hQ;unfold Vq ajc at hd;unfold sz at hz;cases hb:Cu ps with
 |none=>
  rw[hb]at hd hz;simp only[CH,ayY]at hz;obtain⟨⟨t0,Fs⟩,e1,e2⟩:=hz;split at e2
  ·rename_i hps;cases e2;have hsp:=Dc (done:=[]) (j0:=0) rfl hd;refine VO hm hcall hN (m:=cl.length) (g:=0) (qs:=ps) hc (fun j b bf h1 h2=>?_) ok (by rw[List.take_length];omega) hps rfl (by rw[List.drop_length];rfl) hQ;have hj:=(List.getElem?_eq_some_iff.1 h1).1
   simp_all[LQ,if_pos,ayX]
  grind
 |some q=>
  rw[hb]at hd hz;simp only[Iq,ayY]at hz;obtain⟨⟨t0,Fs⟩,e1,e2⟩:=hz;split at e2
  ·rename_i hps;simp only[bq]at e2;split at e2
   ·grind
   ·rename_i tg htg;have hsp:=Dc (done:=[]) (j0:=0) rfl hd;refine VO hm hcall hN (m:=q.1) (g:=q.2) (qs:=ps.tail) hc (fun j b bf h1 h2=>?_) ok e1 hps htg e2 hQ;grind
  grind
end
theorem Cx:∀ss l,(dY ss l).length=l.length
 |[],l=>by cases l<;>simp[dY]
 |s::ss,[]=>by simp[dY]
 |s::ss,a::l=>by simp[dY,Cx ss l]
theorem EE:∀ss l (j:Nat) c,(dY ss l)[j]?=some c->∃c0,l[j]?=some c0/\(c=c0\/∃s,c=nrmL s c0)
 |[],l,j,c,h=>⟨c,by grind[dY],.inl rfl⟩
 |s::ss,[],j,c,h=>by grind[dY]
 |s::ss,a::l,0,c,h=>by grind[dY]
 |s::ss,a::l,j+1,c,h=>by
  simpa using EE ss l j c h
theorem EF{s}{c}(hd:aE c=true):aE (nrmL s c)=true:=by
 obtain⟨k,cs⟩:=s;cases k with
 |zero=>grind[nrmL]
 |succ k=>cases c<;>simp[aE]at hd<;>simp[nrmL,aE,hd]
theorem io(s){c}(h1:∀k r,c≠ .sl k r)(h2:c≠ .emp)(h3:∀k r,c≠ .osl k r):nrmL s c=c:=by
 obtain⟨k,cs⟩:=s;cases k with
 |zero=>simp[nrmL]
 |succ k=>cases c<;>first|rfl|exact absurd rfl (h1 _ _)|exact absurd rfl h2|exact absurd rfl (h3 _ _)
section
variable {w:World} {A:Nat→Prop} {ρ:eu} {h:ac}
theorem RD.nrmL{c}{u}(hd:RD w A c u):∀s,RD w A (nrmL s c) u:=by
 induction hd with
 |any u h=>intro s;rw[io s σ σ σ];exact .any u h
 |v x h=>intro s;rw[io s σ σ σ];exact .v x h
 |emp a=>
  intro s;obtain⟨k,cs⟩:=s;cases k with
  |zero=>exact .emp a
  |succ k=>
   exact .sl k [] a 0 ⟨0,0,none⟩ (fun _ _=>undef) (ayZ 0) (fun h=>absurd rfl h) (fun _ h=>by grind) (fun i row j c h=>by grind) (fun _ h=>by grind) (fun i row j c h=>by grind)
 |sl k rows a cap ad vals hc ha hk hv hl hr ih=>
  intro s;obtain⟨k',cs⟩:=s;cases k' with
  |zero=>exact .sl k rows a cap ad vals hc ha hk hv hl hr
  |succ k'=>
   simp only[Ab.nrmL];have key:∀ (i:Nat) row (j:Nat) c,(rows.map (dY cs))[i]?=some row->row[j]?=some c->∃row0 c0,rows[i]?=some row0/\row0[j]?=some c0/\(c=c0\/∃s,c=Ab.nrmL s c0):=by
    intro i row j c h1 h2;simp only[List.getElem?_map,ay0]at h1;obtain⟨row0,h3,rfl⟩:=h1;obtain⟨c0,h4,h5⟩:=EE cs row0 j c h2;grind
   have:=RD.sl (w:=w) (A:=A) k (rows.map (dY cs)) a cap ad vals γ (fun hne=>ha γ) (fun row hm=>by
     simp only[azP]at hm;obtain⟨row0,hm,rfl⟩:=hm;rw[Cx];grind) (fun i row j c h1 h2=>by
     grind) (fun row hm c hc=>by
     obtain⟨i,hi⟩:=List.getElem?_of_mem hm;obtain⟨j,hj⟩:=List.getElem?_of_mem hc;obtain⟨row0,c0,h3,h4,h5⟩:=key i row j c hi hj;have hd:=hl row0 (List.mem_of_getElem? h3) c0 (List.mem_of_getElem? h4);rcases h5 with rfl| ⟨s,rfl⟩
     ·omega
     ·exact EF hd) (fun i row j c h1 h2=>by
     grind)
   grind
 |agg cs us hs h1 hr ih=>intro s;rw[io s σ σ σ];exact .agg cs us hs h1 hr
 |fn f=>intro s;rw[io s σ σ σ];exact .fn f
theorem RV.nrmL{c}{u}(hv:RV w A ρ h c u)(s):RV w A ρ h (nrmL s c) u:=by
 cases hv with
 |dat hd=>exact .dat (hd.nrmL s)
 |anyv u=>rw[io s σ σ σ];exact .anyv u
 |und=>rw[io s σ σ σ];exact .und
 |ref id sub k i j hp=>rw[io s σ σ σ];exact .ref id sub k i j hp
 |rsl id sub k lo n cap a hp hn hb ha=>rw[io s σ σ σ];exact .rsl id sub k lo n cap a hp hn hb ha
 |rsc id k lo n cap a hp hn hb ha=>rw[io s σ σ σ];exact .rsc id k lo n cap a hp hn hb ha
 |ipt cs ad vals hA hs hv hl hr=>rw[io s σ σ σ];exact .ipt cs ad vals hA hs hv hl hr
 |agg cs us hs h1 hr=>rw[io s σ σ σ];exact .agg cs us hs h1 hr
 |tup vs us hs hr=>rw[io s σ σ σ];exact .tup vs us hs hr
 |fn f x y us ts hs ht hx hy=>rw[io s σ σ σ];exact .fn f x y us ts hs ht hx hy
theorem RV.nrmV{c}{u}(hv:RV w A ρ h c u)(ss):RV w A ρ h (nrmV ss c) u:=by
 cases c with
 |agg cs=>
  obtain⟨us,rfl,hs,h1,hr⟩:=hv.agg_inv;refine .agg _ us (by rw[Cx];omega) h1 fun i c u hc hu=>?_;obtain⟨c0,h2,h3⟩:=EE ss cs i c hc;rcases h3 with rfl| ⟨s,rfl⟩
  ·grind
  ·exact(hr i c0 u h2 hu).nrmL s
 |_=>exact hv.nrmL _
theorem Ae:∀ss l,(bp ss l).length=l.length
 |[],l=>by cases l<;>simp[bp]
 |s::ss,[]=>by simp[bp]
 |s::ss,a::l=>by simp[bp,Ae ss l]
theorem zk:∀ss l (j:Nat) c,(bp ss l)[j]?=some c->∃c0,l[j]?=some c0/\(c=c0\/∃s,c=Ab.nrmV s c0)
 |[],l,j,c,h=>⟨c,by grind[bp],.inl rfl⟩
 |s::ss,[],j,c,h=>by grind[bp]
 |s::ss,a::l,0,c,h=>by grind[bp]
 |s::ss,a::l,j+1,c,h=>by
  simpa using zk ss l j c h
end
def vE:AV->Bool
 | .osl _ _| .obx _=>true
 |_=>false
def VP(L:List Nat)(h':ac)(a c:AV):Prop:=
 ∃id,cr a=[id]/\bk id=false/\aA L (h' id)=true/\
  ((∃k rows,c=.osl k rows/\a=.rsl id none k 0 rows.length/\h' id=.ar k rows)\/(∃xs,c=.obx xs/\a=.ref id none 0 0 0/\h' id=.bx xs))
theorem S9{m}{h}{c}(hc:vE c=false):dU m h c=(c,h):=by
 cases c<;>simp[vE]at hc<;>rfl
theorem VP.mat{L}{h'}{a c}(hm:VP L h' a c)(m)(h2):∃id,cr a=[id]/\bk id=false/\aA L (h' id)=true/\h' id≠ .dead/\(dU m h2 c).2=upd h2 m (h' id):=by
 obtain⟨id,h1,h3,h4,⟨k,rows,rfl,rfl,h5⟩| ⟨xs,rfl,rfl,h5⟩⟩:=hm
 ·exact⟨id,h1,h3,h4,by grind,by rw[h5];rfl⟩
 ·exact⟨id,h1,h3,h4,by grind,by rw[h5];rfl⟩
theorem Y3{x}{l}(h:kH (x::l)=true):x∉l/\kH l=true:=by
 simp_all[kH,ay1,Bool.not_eq_true',List.contains_eq_mem,decide_eq_false_iff_not]
theorem O8{l l'}:kH (l++l')=true->kH l'=true/\∀x,x∈l->x∉l':=by
 induction l with
 |nil=>grind
 |cons y l ih=>
  intro h;obtain⟨h1,h2⟩:=Y3 h
  simp_all
section
variable {h':ac} {L:List Nat}
theorem IG(hL:∀i,2000<=i->L.contains i=false):∀ (zas cs:List AV) m h2 g,2000<=m->zas.length=cs.length->
  (∀ (j:Nat) a c,zas[j]?=some a->cs[j]?=some c->vE c=true->VP L h' a c)->kH ((zas.flatMap cr).filter fun i=>!bk i)=true->Emb L (fun i=>i) g h' h2->(∀i,m<=i->h2 i=.dead)->
  (∀i,h2 i≠ .dead->∀id,id∈zas.flatMap cr->bk id=false->g i≠id)->
  ∃gm,Emb L (fun i=>i) gm h' (cT m h2 cs).2/\(∀i,i<m->(cT m h2 cs).2 i=h2 i/\gm i=g i)/\
   (∀i,(cT m h2 cs).2 i≠ .dead->(h2 i≠ .dead/\gm i=g i)\/∃ (j:Nat) (a c:AV),zas[j]?=some a/\cs[j]?=some c/\vE c=true/\cr a=[gm i])/\
   (∀j a c id,zas[j]?=some a->cs[j]?=some c->vE c=true->cr a=[id]->gm (m+j)=id/\(cT m h2 cs).2 (m+j)=h' id/\h' id≠ .dead)
 |[],[],m,h2,g,hm,_,_,_,em,_,_=>⟨g,em,fun _ _=>⟨rfl,rfl⟩,fun _ hi=>.inl ⟨hi,rfl⟩,fun j a c id h1=>by grind⟩
 |[],c::cs,m,h2,g,_,hl,_,_,_,_,_=>by grind
 |a::zas,[],m,h2,g,_,hl,_,_,_,_,_=>by grind
 |a::zas,c::cs,m,h2,g,hm,hl,hmv,hnd,em,hfree,hid=>by
  simp only[List.flatMap_cons,List.filter_append]at hnd;obtain⟨nd2,nd3⟩:=O8 hnd;have hmv':∀j a c,zas[j]?=some a->cs[j]?=some c->vE c=true->VP L h' a c:=fun j a' c' h1 h3=>hmv (j+1) a' c' γ γ;have hl':zas.length=cs.length:=γ
  cases hc:vE c with
  |false=>
   simp only[cT,S9 hc];obtain⟨gm,e1,e2,e3,e4⟩:=IG hL zas cs (m+1) h2 g ω hl' hmv' nd2 em (fun i hi=>hfree i ω) (fun i hi id hm'=>hid i hi id γ);refine⟨gm,e1,fun i hi=>e2 i ω,fun i hi=>?_,fun j a' c' id h1 h3 h4 h5=>?_⟩
   ·rcases e3 i hi with hh| ⟨j,a',c',h1,h3,h4,h5⟩
    ·grind
    ·exact .inr ⟨j+1,a',c',by grind,by grind,h4,h5⟩
   ·cases j with
    |zero=>
     grind
    |succ j=>
     grind
  |true=>
   obtain⟨id,i1,i2,i3,i4,i5⟩:=(hmv 0 a c rfl rfl hc).mat m h2;simp only[cT,i5];have hida:id∈ (a::zas).flatMap cr:=γ
   have em1:=em.add (m:=m) (id:=id) (hfree m (ayZ _)) (hL m hm) (fun i hi=>hid i hi id hida i2) i3;have nin:∀id',id'∈zas.flatMap cr->bk id'=false->id'≠id:=by
    grind
   obtain⟨gm,e1,e2,e3,e4⟩:=IG hL zas cs (m+1) (upd h2 m (h' id)) (upd g m id) ω hl' hmv' nd2 em1 (fun i hi=>by grind[aM]) (fun i hi id' hm' hp'=>by
    by_cases e:i=m
    ·subst e;rw[aB];exact fun ee=>nin id' hm' hp' ee.symm
    ·rw[aM _ _ e]at hi⊢;exact hid i hi id' (by simp only[List.flatMap_cons,List.mem_append];exact .inr hm') hp')
   have atm:=e2 m ω;rw[aB,aB]at atm;refine⟨gm,e1,fun i hi=>?_,fun i hi=>?_,fun j a' c' id' h1 h3 h4 h5=>?_⟩
   ·grind[aM]
   ·rcases e3 i hi with⟨h1,h3⟩| ⟨j,a',c',h1,h3,h4,h5⟩
    ·by_cases e:i=m
     ·subst e;exact .inr ⟨0,a,c,rfl,rfl,hc,by grind⟩
     grind[aM]
    ·exact .inr ⟨j+1,a',c',by grind,by grind,h4,h5⟩
   ·cases j with
    |zero=>
     grind
    |succ j=>
     grind
theorem VQ:∀l m h j z,(cT m h l).1[j]?=some z->∃c,l[j]?=some c/\z=(dU (m+j) h c).1
 |[],m,h,j,z,hz=>by grind[cT]
 |c::l,m,h,0,z,hz=>by
  grind[cT]
 |c::l,m,h,j+1,z,hz=>by
  obtain⟨c',h1,h2⟩:=VQ l (m+1) _ j z hz;refine⟨c',by simpa using h1,?_⟩;rw[h2,Ny _ _ h,show m+1+j=m+(j+1)from by omega]
theorem MY:∀l m h,(cT m h l).1.length=l.length
 |[],m,h=>rfl
 |c::l,m,h=>by simp[cT,MY l]
end
section
variable {w:World} {X:Nat→Prop} {ρ:eu} {h':ac} {L:List Nat}
structure Seen (w:World) (X:Nat->Prop) (ρ:eu) (h':ac) (a:AV) (A2:Nat->Prop) (ρ2:eu) (h2:ac):Prop where
 mono:∀b,aJ w X h' ρ b->A2 b
 ids:∀id,id∈cr a->bk id=false->∀sub,live h' id sub->A2 (ρ id sub).1
 pas:∀id,bk id=true->h' id≠ .dead->h2 id≠ .dead/\ρ2 id none=ρ id none
def ag4(w:World)(X:Nat->Prop)(ρ:eu)(h':ac)(L:List Nat)(a c:AV)(u:Value):Prop:=
 (vE c=true->VP L h' a c)/\(vE c=false->∀A2 ρ2 h2,Seen w X ρ h' a A2 ρ2 h2->RV w A2 ρ2 h2 c u)
theorem MZ{c}(hd:mP c=true):jk L c=true:=by
 simp only[mP,Bool.or_eq_true]at hd;simp only[jk,Bool.or_eq_true];rcases hd with hd|hd
 ·grind
 ·cases c<;>simp[aE]at hd<;>simp[aZ,bo,hd]
theorem M0{a b}(he:mS h' a=some b)(hd:aE b=true\/∃k r,b=.osl k r){id}(hi:fP a=[id]):bk id=false:=by
 cases a<;>simp only[fP]at hi<;>try (cases hi;done)
 case ref i sub k x y=>
  cases sub with
  |some p=>grind[mS,aE]
  |none=>
   grind[mS,aE,abu]
 case rsl i sub k x y=>
  have hi':i=id:=γ
  subst hi';cases hp:bk i with
  |false=>rfl
  |true=>cases sub<;>simp[mS,hp]at he
theorem ajR{b c}(hd:C8 b=some c):aE b=true\/∃k r,b=.osl k r:=by
 unfold C8 at hd;grind
theorem VR:∀ {cs ds},mT h' cs=some ds->∀ (i:Nat) a id,cs[i]?=some a->fP a=[id]->bk id=false
 |[],ds,_,i,a,id,h1,_=>by grind
 |c::cs,ds,he,i,a,id,h1,h2=>by
  simp only[mT,ayY]at he;obtain⟨b,e1,c',e2,q,e3,e4⟩:=he;cases i with
  |zero=>simp at h1;subst h1;exact M0 e1 (ajR e2) h2
  |succ i=>exact VR e3 i a id (by simpa using h1) h2
theorem Ta{s}{b}(h:vE (nrmL s b)=true):nrmL s b=b:=by
 obtain⟨k,cs⟩:=s;cases k with
 |zero=>simp[nrmL]
 |succ k=>cases b<;>simp[nrmL,vE]at h⊢
theorem ad5(ss){b}(h:∀cs,b≠ .agg cs):nrmV ss b=nrmL (ss.headD (.o 0 [])) b:=by
 cases b<;>first|rfl|exact absurd rfl (h _)
theorem ag5(r:Rel w X ρ h'){a b}{u}(hv:RV w (aJ w X h' ρ) ρ h' a u)(he:mS h' a=some b)(s):ag4 w X ρ h' L a (nrmL s b) u:=by
 have data:∀ {b},mS h' a=some b->aE b=true->(∀A2,(∀b,aJ w X h' ρ b->A2 b)->(∀id sub,fP a=[id]->live h' id sub->A2 (ρ id sub).1)->RD w A2 b u)->
   ∀A2 ρ2 h2,Seen w X ρ h' a A2 ρ2 h2->RV w A2 ρ2 h2 (nrmL s b) u:=by
  intro b he hd hr A2 ρ2 h2 hs;exact .dat ((hr A2 hs.mono fun id sub hi hl=>hs.ids id (by
   have:cr a=fP a:=by cases a<;>first|rfl|simp[fP]at hi
   grind) (M0 he (.inl hd) hi) sub hl).nrmL s)
 rcases DP r hv he with⟨id,k,rows,rfl,rfl,e,hp⟩| ⟨id,cs,rfl,rfl,e,hd,hp⟩| ⟨rfl,id,k,i,j,rfl,hp⟩| ⟨rfl,hd⟩| ⟨hd,hr⟩
 ·refine⟨fun hm=>?_,fun hm A2 ρ2 h2 hs=>?_⟩
  ·rw[Ta hm];exact⟨id,rfl,hp,by rw[e];rfl,.inl ⟨k,rows,rfl,rfl,e⟩⟩
  ·have hsl:nrmL s (.osl k rows)=nrmL s (.sl k rows):=by
    obtain⟨k',cs⟩:=s;cases k' with
    |zero=>grind[nrmL,vE]
    |succ k'=>simp[nrmL]
   rw[hsl];obtain⟨a',cap,rfl,_⟩:=hv.rsl_inv;exact .dat (((O4 r hv rfl he rfl).2 A2 hs.mono fun id' sub hi hl=>hs.ids id' (by
    grind[cr,fP]) (by grind[fP]) sub hl).nrmL s)
 ·refine⟨fun hm=>?_,fun hm=>?_⟩
  ·rw[Ta hm];refine⟨id,rfl,hp,?_,.inr ⟨cs,rfl,rfl,e⟩⟩;grind[aA,azk,MZ]
  ·rw[io s σ σ σ]at hm;cases hm
 ·refine⟨fun hm=>?_,fun hm A2 ρ2 h2 hs=>?_⟩
  ·rw[io s σ σ σ]at hm;cases hm
  ·rw[io s σ σ σ];obtain⟨rfl,hpr⟩:=hv.ref_inv;obtain⟨h1,h3⟩:=hs.pas id hp hpr;have:=RV.ref (w:=w) (A:=A2) (ρ:=ρ2) (h:=h2) id none k i j h1;grind
 ·refine⟨fun hm=>?_,fun hm A2 ρ2 h2 hs=>?_⟩
  ·have:=EF (s:=s) hd;cases hq:nrmL s b<;>rw[hq]at hm this<;>simp[vE,aE]at hm this
  ·exact(hv.keepD hd fun b hb=>⟨hs.mono b hb,rfl⟩).nrmL s
 ·refine⟨fun hm=>?_,fun hm=>data he hd hr⟩;have:=EF (s:=s) hd;cases hq:nrmL s b<;>rw[hq]at hm this<;>simp[vE,aE]at hm this
theorem ajS(r:Rel w X ρ h'){a b}{u}(hv:RV w (aJ w X h' ρ) ρ h' a u)(he:sB h' a=some b){c}(hc:c=b\/∃ss,c=nrmV ss b):ag4 w X ρ h' L a c u:=by
 have hc':∃ss,c=nrmV ss b:=by
  rcases hc with rfl|hc
  ·refine⟨[],?_⟩;cases c<;>simp[nrmV,nrmL,dY]
  omega
 obtain⟨ss,rfl⟩:=hc';by_cases hagg:∃cs,a=.agg cs
 ·obtain⟨cs,rfl⟩:=hagg;simp only[sB,ay0]at he;obtain⟨ds,e1,rfl⟩:=he;refine⟨fun hm=>by grind[nrmV,vE],fun _ A2 ρ2 h2 hs=>?_⟩;obtain⟨us,rfl,q1,q2,q3⟩:=hv.agg_inv;obtain⟨l1,l2⟩:=MT r cs ds e1;refine .agg _ us (by grind[Cx]) q2 fun i c u hc hu=>?_;obtain⟨c0,h1,h3⟩:=EE ss ds i c hc;have hi:i<cs.length:=γ
  have hci:cs[i]?=some cs[i]:=γ
  obtain⟨d1,d2⟩:=l2 i cs[i] c0 u hci h1 (q3 i _ u hci hu) (q2 i u hu);have hrd:=d2 A2 hs.mono fun id sub hii hl=>hs.ids id (by
   simp only[cr,List.mem_flatMap];exact⟨cs[i],by simp,by rw[hii];simp⟩) (VR e1 i _ id hci hii) sub hl
  rcases h3 with rfl| ⟨s,rfl⟩
  ·exact .dat hrd
  ·exact .dat (hrd.nrmL s)
 ·have hl:sB h' a=mS h' a:=by cases a<;>first|rfl|exact absurd ⟨_,rfl⟩ hagg
  rw[hl]at he;have hb:∀cs,b≠ .agg cs:=by
   rcases DP r hv he with⟨id,k,rows,h1,_⟩| ⟨id,cs',h1,_⟩| ⟨h1,id,k,i,j,h2,_⟩| ⟨h1,hd⟩| ⟨hd,hr⟩
   all_goals grind[aE]
  grind[ad5,ag5]
theorem Tb:∀ {zas bs},uH h' zas=some bs->bs.length=zas.length/\∀ (j:Nat) a b,zas[j]?=some a->bs[j]?=some b->sB h' a=some b
 |[],bs,he=>by grind[uH,Option.some.injEq]
 |a::zas,bs,he=>by
  simp only[uH,ayY]at he;obtain⟨b,e1,q,e2,e3⟩:=he;cases e3;obtain⟨g1,g2⟩:=Tb e2;refine⟨by simp[g1],fun j a' b' h1 h2=>?_⟩;cases j with
  |zero=>simp at h1 h2;subst h1 h2;exact e1
  |succ j=>exact g2 j a' b' (by simpa using h1) (by simpa using h2)
def UT(us:Array Value):Value:=if h:us.size=1 then us[0]else .tuple us
theorem ad6{l}(hl:∀c∈l,∀vs,c≠ .tup vs)(n)(h):mat n h (uI l)=(uI (cT n h l).1,(cT n h l).2):=by
 match l with
 |[]=>rfl
 |[c]=>
  have:=hl c σ;cases c<;>first|rfl|exact absurd rfl (this _)
 |a::b::l=>rfl
end
section
variable {w:World} {X:Nat→Prop} {ρ:eu} {h':ac}
theorem ZO{L}{g}{h2}(em:Emb L (fun i=>i) g h' h2){b}(ho:tq h2 (fun i s=>ρ (g i) s) b):tq h' ρ b:=by
 obtain⟨i,s,h1,h3⟩:=ho;exact⟨g i,s,(em.live h1).1,h3⟩
theorem ag6{ss}{b}{vs}(h:nrmV ss b=.tup vs):∃vs',b=.tup vs':=by
 cases b with
 |tup vs'=>grind
 |agg cs=>grind[nrmV]
 |_=>
  simp only[nrmV]at h;generalize ss.headD (.o 0 [])=s at h;obtain⟨k,cs⟩:=s;cases k<;>simp[nrmL]at h
theorem acb(r:Rel w X ρ h'){a}{u}{vs}(hv:RV w (aJ w X h' ρ) ρ h' a u)(he:sB h' a=some (.tup vs)):False:=by
 by_cases hagg:∃cs,a=.agg cs
 ·obtain⟨cs,rfl⟩:=hagg
  simp_all[sB]
 ·have hl:sB h' a=mS h' a:=by cases a<;>first|rfl|exact absurd ⟨_,rfl⟩ hagg
  rw[hl]at he;rcases DP r hv he with⟨id,k,rows,h1,_⟩| ⟨id,cs',h1,_⟩| ⟨h1,id,k,i,j,h2,_⟩| ⟨h1,hd⟩| ⟨hd,hr⟩
  all_goals grind[aE]
theorem ad7(r:Rel w X ρ h'){n0 n}(hn0:n0<=1000)(hn:2000<=n)(hpass:∀id,bk id=true->h' id≠ .dead->(de n0).contains id=true){zas}{us}(hs:us.size=zas.length)
  (hv:∀ (i:Nat) c u,zas[i]?=some c->us[i]?=some u->RV w (aJ w X h' ρ) ρ h' c u) {rs} {res} {obs} (hz:uv rs n0 h' zas=some (res,obs)):
  ∃ρ2,Rel w X ρ2 (mat n (am obs) res).2/\(∀nm,Far nm w ρ h' w ρ2 (mat n (am obs) res).2)/\RV w (aJ w X (mat n (am obs) res).2 ρ2) ρ2 (mat n (am obs) res).2 (mat n (am obs) res).1 (UT us):=by
 unfold uv at hz;split at hz
 ·rename_i hc;simp only[ay1]at hc;obtain⟨hc1,hc2⟩:=hc;simp only[ay0]at hz;obtain⟨bs,e1,e2⟩:=hz;cases e2;obtain⟨l1,l2⟩:=Tb e1;have hLm:∀i,(de n0).contains i=true->bk i=true:=fun i hi=>by
   have:=Bu.1 hi;simp only[bk,decide_eq_true_eq];omega
  have hL:∀i,2000<=i->(de n0).contains i=false:=fun i hi=>by
   grind[de]
  have hcl:(bp rs bs).length=zas.length:=by rw[Ae,l1]
  have out:∀ (j:Nat) (a c:AV) (u:Value),zas[j]?=some a->(bp rs bs)[j]?=some c->us[j]?=some u->ag4 w X ρ h' (de n0) a c u:=fun j a c u h1 h3 h4=>by
   grind[zk,ajS]
  have uget:∀ (j:Nat) (a:AV),zas[j]?=some a->∃u,us[j]?=some u:=fun j a h1=>by
   have:j<us.size:=γ
   simp_all
  have em:=Emb.base (h':=h') hc2;have hlow:∀i,am ((de n0).map h') i≠ .dead->(de n0).contains i=true:=fun i hi=>by
   rw[uj]at hi;split at hi
   ·rename_i h1;exact Bu.2 h1
   grind
  obtain⟨gm,m1,m2,m3,m4⟩:=IG hL zas (bp rs bs) n (am ((de n0).map h')) (fun i=>i) hn hcl.symm (fun j a c h1 h3 h4=>by
    obtain⟨u,hu⟩:=uget j a h1;exact(out j a c u h1 h3 hu).1 h4) hc1 em (fun i hi=>by
    rw[uj,if_neg ω]) (fun i hi id _ hp e=>by
    grind)
  have notup:∀c∈bp rs bs,∀vs,c≠ .tup vs:=by
   rintro c hcm vs rfl
   obtain⟨j,hj⟩:=List.getElem?_of_mem hcm;have hja:j<zas.length:=γ
   obtain⟨u,hu⟩:=uget j zas[j] γ;obtain⟨b,h5,h6⟩:=zk rs bs j _ hj;have he:=l2 j zas[j] b γ h5;grind[ag6,acb]
  rw[ad6 notup];simp only;have hfar:∀b,aJ w X h' ρ b->aJ w X (cT n (am ((de n0).map h')) (bp rs bs)).2 (fun i s=>ρ (gm i) s) b:=fun b hb=>⟨hb.1,hb.2.1,fun ho=>hb.2.2 (ZO m1 ho)⟩;have hps:∀id,bk id=true->(cT n (am ((de n0).map h')) (bp rs bs)).2 id=am ((de n0).map h') id/\gm id=id:=fun id hp=>m2 id (by
   simp only[bk,decide_eq_true_eq]at hp;omega)
  have hpd:∀id,bk id=true->h' id≠ .dead->(cT n (am ((de n0).map h')) (bp rs bs)).2 id=h' id:=fun id hp hd=>by
   rw[(hps id hp).1,uj,if_pos (Bu.1 (hpass id hp hd))]
  have rel2:=Rel.emb m1 r r.xl (fun i s hl=>r.nx _ _ (m1.live hl).1) hfar;refine⟨fun i s=>ρ (gm i) s,rel2,fun nm=>⟨rfl,rfl,rfl,ayZ _,fun _ _ _=>rfl,fun b ho=>.inl (ZO m1 ho),fun id hp hd=>?_,fun _ id p hp hd hpr=>?_⟩,?_⟩
  ·grind[uj]
  ·have h1:h' id≠ .dead:=by obtain⟨_,_,_,e,_⟩:=hpr;grind
   grind[fV]
  ·
   have seen:∀ (j:Nat) (a c:AV),zas[j]?=some a->(bp rs bs)[j]?=some c->vE c=false->
     Seen w X ρ h' a (aJ w X (cT n (am ((de n0).map h')) (bp rs bs)).2 (fun i s=>ρ (gm i) s)) (fun i s=>ρ (gm i) s) (cT n (am ((de n0).map h')) (bp rs bs)).2:=by
    intro j a c h1 h3 h4;refine⟨hfar,fun id hid hp sub hl=>⟨?_,fun hx=>r.nx _ _ hl (.inl hx),fun⟨i,s,ho1,ho2⟩=>?_⟩,fun id hp hd=>⟨by grind,by grind⟩⟩
    ·cases sub with
     |none=>
      have ho:=r.ob id;cases e:h' id with
      |bx cs=>rw[e]at ho;obtain⟨us,t,g1,_⟩:=ho;grind
      |ar k rows=>rw[e]at ho;obtain⟨us,t,g1,_⟩:=ho;grind
      |_=>simp[live,e]at hl
     |some p=>
      obtain⟨cs,k,rows,e,ec⟩:=hl;have ho:=r.ob id;rw[e]at ho;obtain⟨us,t,g1,g2,g3,g4⟩:=ho;obtain⟨u,_,a',cap,us',t',_,_,_,q4,_⟩:=g4 p _ ec;grind
    ·obtain⟨hl1,hdd⟩:=m1.live ho1;obtain⟨e1,_⟩:=r.inj _ _ _ _ hl1 hl ho2;rcases m3 i hdd with⟨q1,q2⟩| ⟨j',a',c',q1,q2,q3,q4⟩
     ·grind
     ·rw[e1]at q4;have hne:j'≠j:=by
       grind
      exact two_names zas j' j a' a id hne q1 h1 γ hid hp hc1
   have vals:∀ (j:Nat) (z:AV) (u:Value),(cT n (am ((de n0).map h')) (bp rs bs)).1[j]?=some z->us[j]?=some u->
     RV w (aJ w X (cT n (am ((de n0).map h')) (bp rs bs)).2 (fun i s=>ρ (gm i) s)) (fun i s=>ρ (gm i) s) (cT n (am ((de n0).map h')) (bp rs bs)).2 z u:=by
    intro j z u hz hu;obtain⟨c,h1,rfl⟩:=VQ _ _ _ _ _ hz;have hja:j<zas.length:=γ
    have ha:zas[j]?=some zas[j]:=γ
    have o:=out j zas[j] c u ha h1 hu;cases hm:vE c with
    |false=>
     rw[S9 hm];exact o.2 hm _ _ _ (seen j zas[j] c ha h1 hm)
    |true=>
     obtain⟨id,i1,i2,i3,⟨k,rows,rfl,i4,i5⟩| ⟨xs,rfl,i4,i5⟩⟩:=o.1 hm
     ·obtain⟨q1,q2,q3⟩:=m4 j zas[j] _ id ha h1 hm i1;have hva:=hv j zas[j] u ha hu;rw[i4]at hva;obtain⟨a',cap,rfl,hp,hnn,hb,hab⟩:=hva.rsl_inv;simp only[dU];exact .rsl (n+j) none k 0 rows.length cap a' (by show _≠_;grind) hnn γ (by simp only[q1];exact hab)
     ·obtain⟨q1,q2,q3⟩:=m4 j zas[j] _ id ha h1 hm i1;have hva:=hv j zas[j] u ha hu;rw[i4]at hva;obtain⟨rfl,hp⟩:=hva.ref_inv;simp only[dU];have:=RV.ref (w:=w) (A:=aJ w X (cT n (am ((de n0).map h')) (bp rs bs)).2 (fun i s=>ρ (gm i) s)) (ρ:=fun i s=>ρ (gm i) s) (h:=(cT n (am ((de n0).map h')) (bp rs bs)).2) (n+j) none 0 0 0 (by show _≠_;rw[q2];exact q3);simp only[q1]at this;exact this
   have hzl:(cT n (am ((de n0).map h')) (bp rs bs)).1.length=us.size:=by rw[MY,hcl,hs]
   unfold UT;split
   ·rename_i h1
    match hq:(cT n (am ((de n0).map h')) (bp rs bs)).1 with
    |[]=>rw[hq]at hzl;simp at hzl;omega
    |[z]=>exact vals 0 z us[0] (by rw[hq];rfl) (by simp[h1])
    |a::b::l=>rw[hq]at hzl;simp at hzl;omega
   ·rename_i h1
    match hq:(cT n (am ((de n0).map h')) (bp rs bs)).1 with
    |[]=>exact .tup [] us (by rw[hq]at hzl;simpa using hzl.symm) fun i c u hc=>by simp at hc
    |[z]=>rw[hq]at hzl;simp at hzl;omega
    |a::b::l=>
     rw[hq]at hzl;exact .tup _ us hzl.symm fun i c u hc hu=>vals i c u (by rw[hq];exact hc) hu
 grind
where
 two_names:∀ (zas:List AV) (i j:Nat) (a b:AV) (id:Nat),i≠j->zas[i]?=some a->zas[j]?=some b->id∈cr a->id∈cr b->bk id=false->kH ((zas.flatMap cr).filter fun i=>!bk i)=true->False
 |[],i,j,a,b,id,_,h1,_,_,_,_,_=>by simp at h1
 |c::zas,i,j,a,b,id,hne,h1,h2,h3,h4,hp,hnd=>by
  simp only[List.flatMap_cons,List.filter_append]at hnd;obtain⟨nd2,nd3⟩:=O8 hnd;have mem:∀ (j:Nat) (b:AV),zas[j]?=some b->id∈cr b->id∈ (zas.flatMap cr).filter fun i=>!bk i:=fun j b hb hi=>
   List.mem_filter.2 ⟨List.mem_flatMap.2 ⟨b,List.mem_of_getElem? hb,hi⟩,by grind⟩
  cases i with
  |zero=>
   simp at h1;subst h1;cases j with
   |zero=>exact hne rfl
   |succ j=>exact nd3 id (List.mem_filter.2 ⟨h3,by simp[hp]⟩) (mem j b (by simpa using h2) h4)
  |succ i=>
   cases j with
   |zero=>
    simp at h2;subst h2;exact nd3 id (List.mem_filter.2 ⟨h4,by simp[hp]⟩) (mem i a (by simpa using h1) h3)
   |succ j=>exact two_names zas i j a b id ω γ (by simpa using h2) h3 h4 hp nd2
end
structure Text (P:Program) (f:FuncId) (fd:FD):Prop where
 text: ∃fn code N,P.funcs[f]?=some fn/\fn.body=some code/\fn.ntmps=N/\N<=1000/\iF P N code fd.body=some fd.body/\Iw P fn.results.toList=some fd.res/\ (fn.name== "runtime.NumGoroutine")=false
theorem VU(fn:Func)(tmps):fn.results.mapM (CM tmps)=(fun l=>l.toArray)<$>fn.results.toList.mapM (CM tmps):=by
 rw[Array.mapM_eq_mapM_toList]
theorem Y4{P}{fn}{tmps}{w}{us}(h:(fn.results.toList.mapM (CM tmps)).run P w=.ok us w):(results fn tmps).run P w=.ok (UT us.toArray) w:=by
 have h1:(fn.results.mapM (CM tmps)).run P w=.ok us.toArray w:=by
  simp_all[VU,Sem.run_map]
 have h2:results fn tmps=(fn.results.mapM (CM tmps)>>=fun vs=>pure (UT vs)):=by
  congr 1
 simp_all
section
variable {P:Program} {I:Inv} {call:iD} {md:Mode}
theorem ajT(hm:P.follows .mixedOrders=true)(hcall:nc P I call md){f}{fd}{lf}(ht:Text P f fd):qQ P I md.nm f (Kc call md lf fd):=by
 obtain⟨fn,code,N,t1,t2,t3,t4,t5,t6,t7⟩:=ht.text;intro args obs obs' res w X ρ vals n hz hn hi r hsz hv;unfold Kc at hz;split at hz
 ·rename_i hc;obtain⟨c1,c2⟩:=hc;have he:(callFunc f vals).run P w=.ok (.enter f vals) w:=by
   simp_all[callFunc,Sem.run_bind,Result.andThen]
  unfold Enters;rw[he];refine calls_of_wp t1 t2 ?_;have hget:∀i,(vals++Array.replicate (fn.ntmps-vals.size) undef).getD i undef=vals.getD i undef:=fun i=>by
   simp only[Array.getD_eq_getD_getElem?,Array.getElem?_append];grind
  have ok:Ok I N w X ρ (am obs) (uw args) {tmps:=vals++Array.replicate (fn.ntmps-vals.size) undef,defers:=[]}:=by
   refine⟨r,fun i=>?_,by grind,rfl,hi⟩;simp only[hget,uw];by_cases h:i<args.length
   ·rw[Array.getD_eq_getD_getElem?];grind
   ·rw[List.getElem?_eq_none ω];exact .anyv _
  have fin:∀ {t:St} {a} {w'} {ρ'},Ok I N w' X ρ' t.h t.s a->Far md.nm w ρ (am obs) w' ρ' t.h->Eu md.nm fd.rs fd.res obs.length t.s t.h=some (res,obs')->
    a.defers=[]/\∃v,(results fn a.tmps).run P w'=.ok v w'/\∃ρ'',Rel w' X ρ'' (mat n (am obs') res).2/\Far md.nm w ρ (am obs) w' ρ'' (mat n (am obs') res).2/\
     RV w' (aJ w' X (mat n (am obs') res).2 ρ'') ρ'' (mat n (am obs') res).2 (mat n (am obs') res).1 v:=by
   intro t a w' ρ' ok' far hf;refine⟨ok'.defers,?_⟩;simp only[Eu,ayY]at hf;obtain⟨⟨vs,h',ks⟩,e1,e2⟩:=hf;split at e2
   ·rename_i hnm;obtain⟨us,g1,g2,g3,g4,g5⟩:=MS (a:=a) fn.results.toList fd.res t6 ok'.rel ok'.rs e1;refine⟨_,Y4 g1,?_⟩;have far2:=far.trans (g4.far hnm);obtain⟨ρ2,q1,q2,q3⟩:=ad7 (us:=us.toArray) g3 c2 hn (fun id hp hd=>by
     have:=(far2.stay id hp hd).1;unfold am at this;refine Bu.2 ?_;grind) ω (fun i c u hc hu=>g5 i c u hc γ) e2
    exact⟨ρ2,q1,far2.trans (q2 md.nm),q3⟩
   grind
  cases hx:cI call md lf fd.body (uw args) (am obs)with
  |none=>rw[hx]at hz;cases hz
  |some q=>
   obtain⟨e,t⟩:=q;rw[hx]at hz;refine ab5 (N:=N) hcall t4 (aca hm hcall t4) lf fd.body code t5 hx ok fun a' w' ρ' ok' far=>?_;cases e with
   |normal=>
    obtain⟨d1,v,d2,d3⟩:=fin ok' far hz;exact⟨d1,v,d2,d3⟩
   |ret=>
    obtain⟨d1,v,d2,d3⟩:=fin ok' far hz;exact⟨d1,v,d2,d3⟩
   |exit id=>cases hz
 grind
end
section
variable {w:World} {X:Nat→Prop} {ρ:eu} {h h':ac}
theorem Tc{a c}{ks}(hz:gg h a=some (c,h',ks)):∀p∈ks,p.2=true:=by
 unfold gg at hz;split at hz
 ·unfold nP at hz;grind
 ·unfold J7 agO at hz;grind
 grind
theorem O9:∀ {l cs} {h h'} {ks},jy h l=some (cs,h',ks)->∀p∈ks,p.2=true
 |[],cs,h,h',ks,hz=>by grind[jy,Option.some.injEq,Prod.mk.injEq]
 |a::l,cs,h,h',ks,hz=>by
  simp only[jy,ayY]at hz;obtain⟨⟨c,h1,k1⟩,e1,⟨q,h2,k2⟩,e2,e3⟩:=hz;cases e3;intro p hp;rcases List.mem_append.1 hp with hp|hp
  ·exact Tc e1 p hp
  ·exact O9 e2 p hp
theorem ag7{a c}{ks}(hz:xg h a=some (c,h',ks)):∀p∈ks,p.2=true:=by
 unfold xg at hz;split at hz
 ·simp only[ayY]at hz;obtain⟨⟨q,h1,k1⟩,e1,e2⟩:=hz;cases e2;exact O9 e1
 ·exact Tc hz
theorem ad8{ks:K}(hk:∀p∈ks,p.2=true)(id):jI ks id none=false:=by
 grind[jI,List.any_eq_false]
theorem RV.clo{w'}{A A'}{ρ'}{l}{c}{u}(hv:RV w A ρ h c u)(hA:∀b,A b->A' b/\w'.heap[b]?=w.heap[b]?)(hk:∀id,cG h id none->cG h' id none/\ρ' id none=ρ id none)(hm:aZ l c=true):RV w' A' ρ' h' c u:=by
 have leaf:∀ {c} {u},RV w A ρ h c u->bo l c=true->RV w' A' ρ' h' c u:=by
  intro c u hv hm;cases hv with
  |anyv u=>exact .anyv u
  |und=>exact .und
  |dat hd=>exact .dat (hd.mono hA)
  |ref id sub k i j hp=>
   cases sub with
   |some p=>simp[bo]at hm
   |none=>
    obtain⟨h1,h2⟩:=hk id hp;rw[←h2];exact .ref id none k i j h1
  |rsl id sub k lo n cap a hp hn hb ha=>
   cases sub with
   |some p=>simp[bo]at hm
   |none=>
    obtain⟨h1,h2⟩:=hk id hp;exact .rsl id none k lo n cap a h1 hn γ γ
  |rsc id k lo n cap a hp hn hb ha=>simp[bo]at hm
  |ipt cs ad vals hA' hs hv hl hr=>
   exact .ipt cs ad vals (hA _ hA').1 hs (fun j c hc=>by rw[pH (w:=w) (w':=w') (by rw[pF];grind)];grind) hl (fun j c hc=>(hr j c hc).mono hA)
  |agg cs us hs h1 hr=>simp[bo]at hm
  |tup vs us hs hr=>simp[bo]at hm
  |fn f x y us ts hs ht hx hy=>
   simp[bo]at hm;obtain⟨rfl,rfl⟩:=hm;exact .fn f [] [] us ts hs ht (fun i c u hc=>by grind) (fun i c u hc=>by grind)
 cases c with
 |agg cs=>
  simp only[aZ,azk]at hm;obtain⟨us,rfl,hs,h1,hr⟩:=hv.agg_inv;exact .agg cs us hs h1 fun i c u hc hu=>leaf (hr i c u hc hu) (hm c (List.mem_of_getElem? hc))
 |fn f x y=>
  simp only[aZ,ay1,azk]at hm;obtain⟨us,ts,rfl,hs,ht,hx,hy⟩:=hv.fn_inv;exact .fn f x y us ts hs ht (fun i c u hc hu=>leaf (hx i c u hc hu) (hm.1 c (List.mem_of_getElem? hc))) (fun i c u hc hu=>leaf (hy i c u hc hu) (hm.2 c (List.mem_of_getElem? hc)))
 |_=>exact leaf hv hm
structure Way (w:World) (X:Nat->Prop) (ρ:eu) (h0 h:ac):Prop where
 evo:∃ks:K,Evo w ρ h0 w ρ h ks/\∀p∈ks,p.2=true
theorem Way.refl:Way w X ρ h h:=⟨[],.refl _ _ _,by simp⟩
theorem Way.trans{h1 h2}(a:Way w X ρ h h1)(b:Way w X ρ h1 h2):Way w X ρ h h2:=by
 obtain⟨k1,e1,f1⟩:=a.evo;obtain⟨k2,e2,f2⟩:=b.evo;exact⟨k1++k2,e1.trans e2,fun p hp=>by grind⟩
theorem Way.al{h0}(a:Way w X ρ h0 h):∀b,aJ w X h0 ρ b->aJ w X h ρ b:=by
 obtain⟨k1,e1,_⟩:=a.evo;exact fun b hb=>(e1.al hb).1
theorem Y5{h0}{m}{a z}{u}{ks}(r:Rel w X ρ h)(wy:Way w X ρ h0 h)(hv:RV w (aJ w X h0 ρ) ρ h0 a u)(hz:dE h m a=some (z,h',ks)):
  Rel w X ρ h'/\Evo w ρ h w ρ h' ks/\(∀p∈ks,p.2=true)/\∃h1,Way w X ρ h1 h'/\RV w (aJ w X h1 ρ) ρ h1 z u:=by
 have same:some (a,h,[])=some (z,h',ks)->Rel w X ρ h'/\Evo w ρ h w ρ h' ks/\(∀p∈ks,p.2=true)/\∃h1,Way w X ρ h1 h'/\RV w (aJ w X h1 ρ) ρ h1 z u:=by
  intro e;cases e;exact⟨r,.refl _ _ _,by simp,h0,wy,hv⟩
 have data:xg h a=some (z,h',ks)->((∀cs,a≠ .agg cs)->u.oneCell'=true)->Rel w X ρ h'/\Evo w ρ h w ρ h' ks/\(∀p∈ks,p.2=true)/\∃h1,Way w X ρ h1 h'/\RV w (aJ w X h1 ρ) ρ h1 z u:=by
  intro hz h1;obtain⟨g1,g2,g3,g4⟩:=adO r hv wy.al hz h1;exact⟨g1,g2,ag7 hz,h',.refl,.dat g3⟩
 cases a with
 |any=>
  grind[dE,xg,gg,aE]
 |rsl id sub k lo n=>
  obtain⟨ad,cap,rfl,_⟩:=hv.rsl_inv;cases sub with
  |none=>
   simp only[dE]at hz;split at hz
   ·exact data hz fun _=>rfl
   grind
  |some p=>exact data hz fun _=>rfl
 |ref id sub k i j=>
  cases sub with
  |none=>exact same hz
  |some p=>grind[dE,xg,gg,aE]
 |ipt cs=>exact same hz
 |fn f x y=>exact same hz
 |agg cs=>exact data hz fun hh=>absurd rfl (hh cs)
 |v x=>exact data hz fun _=>by obtain⟨rfl,hp⟩:=hv.v_inv;exact Ix hp
 |emp=>
  refine data hz fun _=>?_;cases hv with
  |dat hd=>exact hd.one rfl
 |sl k rows=>
  refine data hz fun _=>?_;cases hv with
  |dat hd=>exact hd.one rfl
 |_=>simp[dE,xg,gg,aE]at hz
theorem Kv{h0}:∀l ms (vals:List Value) {h h'} {zs} {ks},Rel w X ρ h->Way w X ρ h0 h->vals.length=l.length->
  (∀ (i:Nat) c u,l[i]?=some c->vals[i]?=some u->RV w (aJ w X h0 ρ) ρ h0 c u)->bS h ms l=some (zs,h',ks)->
  Rel w X ρ h'/\Evo w ρ h w ρ h' ks/\(∀p∈ks,p.2=true)/\zs.length=l.length/\∀ (i:Nat) z u,zs[i]?=some z->vals[i]?=some u->∃h1,Way w X ρ h1 h'/\RV w (aJ w X h1 ρ) ρ h1 z u
 |[],ms,vals,h,h',zs,ks,r,wy,hl,hv,hz=>by
  obtain⟨rfl,rfl,rfl⟩:=hz;exact⟨r,.refl _ _ _,by simp,rfl,fun i z u h1=>by grind⟩
 |a::l,ms,vals,h,h',zs,ks,r,wy,hl,hv,hz=>by
  simp only[bS,ayY]at hz;obtain⟨⟨z,h1,k1⟩,e1,⟨q,h2,k2⟩,e2,e3⟩:=hz;cases e3;cases vals with
  |nil=>grind
  |cons u vals=>
   obtain⟨g1,g2,g3,h3,g4,g5⟩:=Y5 r wy (hv 0 a u rfl rfl) e1;obtain⟨f1,f2,f3,f4,f5⟩:=Kv l ms.tail vals g1 (wy.trans ⟨k1,g2,g3⟩) γ (fun i c u' h4 h5=>hv (i+1) c u' γ γ) e2;refine⟨f1,g2.trans f2,fun p hp=>?_,by grind,fun i z' u' h4 h5=>?_⟩
   ·grind
   ·cases i with
    |zero=>
     simp at h4 h5;subst h4 h5;exact⟨h3,g4.trans ⟨k2,f2,f3⟩,g5⟩
    |succ i=>grind
theorem ad9{L}{h1}{z}{u}(wy:Way w X ρ h1 h)(hv:RV w (aJ w X h1 ρ) ρ h1 z u)(hc:aZ L z=true):RV w (aJ w X h ρ) ρ h z u:=by
 obtain⟨ks,e,f⟩:=wy.evo;exact hv.clo (fun b hb=>e.al hb) (fun id hp=>e.keep id none hp (ad8 f id)) hc
theorem Kw(r:Rel w X ρ h){b}(ho:tq h ρ b):b<w.heap.size:=by
 obtain⟨id,sub,hl,rfl⟩:=ho;cases sub with
 |none=>
  have ho:=r.ob id;cases e:h id with
  |bx cs=>rw[e]at ho;obtain⟨us,t,g1,_⟩:=ho;grind
  |ar k rows=>rw[e]at ho;obtain⟨us,t,g1,_⟩:=ho;grind
  |_=>simp[live,e]at hl
 |some p=>
  obtain⟨cs,k,rows,e,ec⟩:=hl;have ho:=r.ob id;rw[e]at ho;obtain⟨us,t,g1,g2,g3,g4⟩:=ho;obtain⟨u,_,a',cap,us',t',_,_,_,q4,_⟩:=g4 p _ ec;grind
section
variable {ids:List Nat}
theorem EG{a}(ha:a∈ids):1000<=bj ids a/\bj ids a<1000+ids.length:=by
 grind[bj,List.idxOf_lt_length_of_mem]
theorem CN(hl:ids.length<=1000){a}(ha:a∈ids):dL ids (bj ids a)=a:=by
 have:=EG ha;unfold dL;rw[if_pos ω]
 simp_all[bj,List.idxOf_lt_length_of_mem]
theorem EH(hl:ids.length<=1000)(hnd:ids.Nodup){i}(h1:1000<=i)(h2:i<1000+ids.length):dL ids i∈ids/\bj ids (dL ids i)=i:=by
 have hj:i-1000<ids.length:=ω
 have e:dL ids i=ids[i-1000]:=by
  unfold dL;grind
 grind[bj]
theorem Pa{os}{j}{o}(h:os[j]?=some o):am os (1000+j)=o:=by
 simp_all[am,if_pos]
theorem Af{os}{i}(h:i<1000\/1000+os.length<=i):am os i=.dead:=by
 grind[am]
theorem Emb.enter(hl:ids.length<=1000)(hnd:ids.Nodup)(hcl:∀a∈ids,aA ids (h a)=true):Emb ids (bj ids) (dL ids) h (am (ids.map fun a=>dT (bj ids) (h a))):=by
 have at_:∀a∈ids,am (ids.map fun a=>dT (bj ids) (h a)) (bj ids a)=dT (bj ids) (h a):=fun a ha=>by
  refine Pa ?_;grind
 have low:∀i,am (ids.map fun a=>dT (bj ids) (h a)) i≠ .dead->1000<=i/\i<1000+ids.length:=fun i hi=>by
  by_cases h1:1000<=i/\i<1000+ids.length
  ·omega
  ·exact absurd (Af γ) hi
 refine⟨fun a ha=>?_,fun i hi=>?_,fun i j hi hj e=>?_⟩
 ·have ha':a∈ids:=γ
  exact⟨CN hl ha',at_ a ha'⟩
 ·obtain⟨h1,h2⟩:=low i hi;obtain⟨h3,h4⟩:=EH hl hnd h1 h2;grind
 ·obtain⟨h1,h2⟩:=low i hi;obtain⟨h3,h4⟩:=low j hj;rw[← (EH hl hnd h1 h2).2,← (EH hl hnd h3 h4).2,e]
end
end
theorem Td{gv}{id}:∀ {h},(∀p∈gv,p.1≠id)->fT h gv id=h id:=by
 induction gv with
 |nil=>intro h _;rfl
 |cons p l ih=>
  simp_all[fT,aM,Ne.symm]
theorem VV{gv}{id}:∀ {h},((∃p∈gv,p.1=id)\/h id=.dead)->fT h gv id=.dead:=by
 induction gv with
 |nil=>
  intro h hi;rcases hi with⟨p,hp,_⟩|hi
  ·grind
  ·exact hi
 |cons p l ih=>
  simp only[fT];grind[aB,absurd,upd]
theorem VW{ids}:∀ {l} {os} {g} {j a:Nat} {o},l.Nodup->l[j]?=some a->os[j]?=some o->ej g ids l os a=dT (dL ids) o
 |[],os,g,j,a,o,_,h1,_=>by grind
 |b::l,[],g,j,a,o,_,_,h2=>by grind
 |b::l,o'::os,g,j,a,o,hnd,h1,h2=>by
  obtain⟨n1,n2⟩:=List.nodup_cons.1 hnd;simp only[ej];cases j with
  |zero=>
   simp at h1 h2;subst h1 h2;rw[zi n1,aB]
  |succ j=>exact VW n2 (by simpa using h1) (by simpa using h2)
theorem Pb{h}:∀ {m n},cB h n m=true->∀i,n<=i->i<n+m->h i=.dead
 |0,n,_,i,h1,h2=>by omega
 |m+1,n,hf,i,h1,h2=>by
  simp only[cB,ay1]at hf;by_cases e:i=n
  ·grind[bY]
  ·exact Pb hf.2 i ω ω
theorem EI{h}{gv}:∀ {l} {os},cU h gv l os=true->∀ (j a:Nat) o,l[j]?=some a->os[j]?=some o->(bf (h a)=true->bf o=true)/\((∀p∈gv,p.1≠a)->o≠ .dead)
 |[],os,_,j,a,o,h1,_=>by grind
 |b::l,[],_,j,a,o,_,h2=>by grind
 |b::l,o'::os,hs,j,a,o,h1,h2=>by
  simp only[cU,ay1,Bool.or_eq_true,Bool.not_eq_true']at hs;obtain⟨⟨s1,s2⟩,s3⟩:=hs;cases j with
  |zero=>
   refine⟨fun hb=>?_,fun hn e=>?_⟩
   ·grind
   ·grind[bY]
  |succ j=>exact EI s3 j a o (by simpa using h1) (by simpa using h2)
theorem EJ{l l'}{c}(hl:∀i,l.contains i=true->l'.contains i=true)(hc:bo l c=true):bo l' c=true:=by
 cases c<;>simp only[bo]at hc⊢ <;>first|exact hc|skip
 all_goals grind
theorem Kx{l l'}{c}(hl:∀i,l.contains i=true->l'.contains i=true)(hc:aZ l c=true):aZ l' c=true:=by
 cases c with
 |agg cs=>
  grind[aZ,azk,EJ]
 |fn f x y=>
  simp only[aZ,ay1,azk]at hc⊢;grind[EJ]
 |_=>
  simp only[aZ]at hc⊢;exact EJ hl hc
theorem VX{l l'}{o}(hl:∀i,l.contains i=true->l'.contains i=true)(hc:aA l o=true):aA l' o=true:=by
 cases o<;>simp only[aA]at hc⊢;simp only[azk,jk,Bool.or_eq_true]at hc⊢;grind[Kx]
theorem VY{f}{c}(hd:mP c=true):dS f c=c:=by
 cases c<;>simp[mP,bm,aE]at hd<;>first|rfl|skip
 obtain⟨rfl,rfl⟩:=hd;rfl
theorem VZ{l}{n}{g}{c}(hr:fC l c=true){i}(h:(dU n g c).2 i≠g i):(∃k rows,(dU n g c).2 i=.ar k rows)\/∃cs,(dU n g c).2 i=.bx cs/\cs.all mP=true:=by
 cases c<;>simp only[dU]at h⊢ <;>first|exact absurd rfl h|skip
 case osl k rows=>
  simp_all[upd,if_neg,absurd]
 case obx cs=>
  unfold upd at h⊢;split
  ·exact .inr ⟨_,rfl,hr⟩
  grind
theorem V0{l}{i}:∀ {vs} {n} {g},vs.all (fC l)=true->(cT n g vs).2 i≠g i->(∃k rows,(cT n g vs).2 i=.ar k rows)\/∃cs,(cT n g vs).2 i=.bx cs/\cs.all mP=true
 |[],n,g,_,h=>absurd rfl h
 |c::vs,n,g,hr,h=>by
  simp only[azm,ay1]at hr;simp only[cT]at h⊢;by_cases e:(cT (n+1) (dU n g c).2 vs).2 i=(dU n g c).2 i
  ·rw[e]at h⊢;exact VZ hr.1 h
  ·exact V0 hr.2 e
theorem ajU{l}{n}{g}{c}(hr:jJ l c=true){i}(h:(mat n g c).2 i≠g i):(∃k rows,(mat n g c).2 i=.ar k rows)\/∃cs,(mat n g c).2 i=.bx cs/\cs.all mP=true:=by
 cases c<;>simp only[mat]at h⊢ <;>simp only[jJ]at hr<;>first|exact V0 hr h|exact VZ hr h
theorem M1{l l'}{n}{g}{c}(hr:fC l c=true)(hl:∀i,l.contains i=true->l'.contains i=true)(hn:l'.contains n=true):aZ l' (dU n g c).1=true:=by
 cases c<;>simp only[dU]<;>simp only[fC]at hr<;>first|exact Kx hl hr| (simp only[aZ,bo,hn];rfl)
theorem M2{l l'}(hl:∀i,l.contains i=true->l'.contains i=true):∀ {vs} {n} {g},vs.all (fC l)=true->(∀i,n<=i->i<n+vs.length->l'.contains i=true)->∀z∈ (cT n g vs).1,aZ l' z=true
 |[],n,g,_,_,z,hz=>by grind[cT]
 |c::vs,n,g,hr,hn,z,hz=>by
  simp only[azm,ay1]at hr;simp only[cT,List.mem_cons]at hz;rcases hz with rfl|hz
  ·exact M1 hr.1 hl (hn n (ayZ _) σ)
  ·exact M2 hl hr.2 (fun i h1 h2=>hn i ω (by simp at h2⊢;omega)) z hz
def acd(l:List Nat):AV->Prop
 | .tup vs=>∀c∈vs,aZ l c=true
 |c=>aZ l c=true
theorem ace{l l'}{n}{g}{c}(hr:fC l c=true)(hl:∀i,l.contains i=true->l'.contains i=true)(hn:l'.contains n=true):acd l' (dU n g c).1:=by
 have:=M1 (n:=n) (g:=g) hr hl hn;cases hq:(dU n g c).1<;>rw[hq]at this<;>first|exact this|simp[aZ,bo]at this
theorem aea{l l'}{n}{g}{c}(hr:jJ l c=true)(hl:∀i,l.contains i=true->l'.contains i=true)(hn:∀i,n<=i->i<n+cF c->l'.contains i=true):acd l' (mat n g c).1:=by
 cases c with
 |tup vs=>
  exact M2 hl hr hn
 |_=>exact ace hr hl (hn n (ayZ _) (by simp[cF]))
section
variable {w:World} {X:Nat→Prop} {ρ:eu} {hc:ac} {ids:List Nat}
def M3(X:Nat->Prop)(hc:ac)(ρ:eu)(ids:List Nat)(b:Nat):Prop:=
 X b\/(tq hc ρ b/\¬tq (am (ids.map fun a=>dT (bj ids) (hc a))) (fun i s=>ρ (dL ids i) s) b)
theorem aeb(r:Rel w X ρ hc)(hl:ids.length<=1000)(hnd:ids.Nodup)(hcl:∀a∈ids,aA ids (hc a)=true):
  Rel w (M3 X hc ρ ids) (fun i s=>ρ (dL ids i) s) (am (ids.map fun a=>dT (bj ids) (hc a)))/\
  (∀b,aJ w X hc ρ b->aJ w (M3 X hc ρ ids) (am (ids.map fun a=>dT (bj ids) (hc a))) (fun i s=>ρ (dL ids i) s) b):=by
 have em:=Emb.enter (h:=hc) hl hnd hcl;have hA:∀b,aJ w X hc ρ b->aJ w (M3 X hc ρ ids) (am (ids.map fun a=>dT (bj ids) (hc a))) (fun i s=>ρ (dL ids i) s) b:=fun b hb=>
  ⟨hb.1,fun hx=>by rcases hx with hx| ⟨hx,_⟩;exact hb.2.1 hx;exact hb.2.2 hx,fun⟨i,s,h1,h2⟩=>hb.2.2 ⟨_,s,(em.live h1).1,h2⟩⟩
 exact⟨Rel.emb em r (fun b hb=>by rcases hb with(hb| ⟨hb,_⟩)|hb;exact r.xl b (.inl hb);exact Kw r hb;exact r.xl b (.inr hb)) (fun i s hl hx=>by
  rcases hx with(hx| ⟨_,hx⟩)|hx
  ·exact r.nx _ _ (em.live hl).1 (.inl hx)
  ·exact hx ⟨i,s,hl,rfl⟩
  ·exact r.nx _ _ (em.live hl).1 (.inr hx)) hA,hA⟩
theorem Ky(hl:ids.length<=1000)(hnd:ids.Nodup)(hcl:∀a∈ids,aA ids (hc a)=true){b}(ho:tq (am (ids.map fun a=>dT (bj ids) (hc a))) (fun i s=>ρ (dL ids i) s) b):
  ∃id sub,id∈ids/\live hc id sub/\(ρ id sub).1=b:=by
 obtain⟨i,s,h1,h2⟩:=ho;obtain⟨h3,h4⟩:=(Emb.enter (h:=hc) hl hnd hcl).live h1;grind[absurd,Af,EH]
theorem acf{w'}{ρ'}{kp}{d}{gv ks0 ks}{res}{os}{z}{h'}{v}(r:Rel w X ρ hc)(hnd:ids.Nodup)(hcl:∀a∈ids,aA ids (hc a)=true)(hdead:∀a∈ids,hc a≠ .dead)(gvflag:∀p∈gv,p.2=false)
  (hz:eG kp hc d ids ks0 gv (res,os)=some (z,h',ks)) (r':Rel w' (M3 X hc ρ ids) ρ' (mat (2000+8*d) (am os) res).2)
  (far:Far kp w (fun i s=>ρ (dL ids i) s) (am (ids.map fun a=>dT (bj ids) (hc a))) w' ρ' (mat (2000+8*d) (am os) res).2)
  (hv:RV w' (aJ w' (M3 X hc ρ ids) (mat (2000+8*d) (am os) res).2 ρ') ρ' (mat (2000+8*d) (am os) res).2 (mat (2000+8*d) (am os) res).1 v):
  ∃ρ3 k1,ks=ks0++k1/\Rel w' X ρ3 h'/\Evo w ρ hc w' ρ3 h' k1/\RV w' (aJ w' X h' ρ3) ρ3 h' z v:=by
 unfold eG at hz;split at hz
 ·rename_i hcond;obtain⟨c1,hl,c2,c3,c4,c5⟩:=hcond;simp only at c1 c2 c4;simp only[Option.some.injEq,Prod.mk.injEq]at hz;obtain⟨rfl,rfl,rfl⟩:=hz;simp only[mQ,ay1]at c5;obtain⟨c5,c6,c7⟩:=c5;generalize hn:2000+8*d=n at*
  have n2:=ω
  have em:=Emb.enter (h:=hc) hl hnd hcl;have gdead:=Pb c3;have gids:=fun i h1 h2 hi=>hdead i hi (gdead i h1 h2);have oget:∀a∈ids,os[ids.idxOf a]?=some (am os (bj ids a)):=fun a ha=>by
   simp_all[List.idxOf_lt_length_of_mem,bj,congrArg,Pa]
  have hm_ids:∀a∈ids,(mat n (am os) res).2 (bj ids a)=am os (bj ids a):=fun a ha=>Bv (by grind[EG]);have hm_out:∀i,¬ (1000<=i/\i<1000+ids.length)->¬ (n<=i/\i<n+cF res)->(mat n (am os) res).2 i=.dead:=fun i h1 h2=>by
   grind[Bv,Af]
  have w_ids:∀a∈ids,ej hc ids ids os a=dT (dL ids) (am os (bj ids a)):=fun a ha=>VW hnd (by
   grind) (oget a ha)
  have h_grp:∀i,n<=i->i<n+cF res->(mat n (fT (ej hc ids ids os) gv) res).2 i=(mat n (am os) res).2 i:=fun i h1 h2=>ad3 (by
   grind[VV,zi,Af])
  have h_ids:∀a∈ids,(∀p∈gv,p.1≠a)->(mat n (fT (ej hc ids ids os) gv) res).2 a=dT (dL ids) ((mat n (am os) res).2 (bj ids a)):=fun a ha hg=>by
   rw[Bv (fun hh=>gids a hh.1 hh.2 ha),Td hg,w_ids a ha,hm_ids a ha]
  have h_gv:∀a,¬ (n<=a/\a<n+cF res)->(∃p∈gv,p.1=a)->(mat n (fT (ej hc ids ids os) gv) res).2 a=.dead:=fun a h1 hg=>by
   rw[Bv ω,VV (.inl hg)]
  have h_out:∀a,a∉ids->¬ (n<=a/\a<n+cF res)->(∀p∈gv,p.1≠a)->(mat n (fT (ej hc ids ids os) gv) res).2 a=hc a:=fun a h1 h2 hg=>by
   rw[Bv ω,Td hg,zi h1]
  generalize hh':(mat n (fT (ej hc ids ids os) gv) res).2=h' at*
  have hzr':(mat n (am os) res).1=(mat n (fT (ej hc ids ids os) gv) res).1:=ZM _ _ _ _;generalize(mat n (fT (ej hc ids ids os) gv) res).1=zr at*
  have grp_obj:∀i,n<=i->i<n+cF res->(mat n (am os) res).2 i≠ .dead->(∃k rows,(mat n (am os) res).2 i=.ar k rows)\/∃cs,(mat n (am os) res).2 i=.bx cs/\cs.all mP=true:=fun i h1 h2 hd=>
   ajU c6 (by grind[Af])
  rw[hzr']at hv;have zcl:∀ {l':List Nat},(∀i,(F3 ids gv).contains i=true->l'.contains i=true)->(∀i,n<=i->i<n+cF res->l'.contains i=true)->acd l' zr:=fun{l'} hl1 hl2=>hzr'▸aea c6 hl1 hl2;generalize hhm:(mat n (am os) res).2=hm at*
  have ok_spec:∀i,(F3 ids gv).contains i=true->1000<=i/\i<1000+ids.length/\∀p∈gv,p.1≠dL ids i:=fun i hi=>by
   unfold F3 at hi;split at hi
   all_goals simp_all[List.contains_eq_mem,List.mem_filter,decide_eq_true_eq,Bool.not_eq_true',List.any_eq_false,beq_iff_eq,de]
  let L3:=F3 ids gv++List.range' n (cF res)
  have l3a:∀i,(F3 ids gv).contains i=true->L3.contains i=true:=fun i hi=>by
   grind
  have l3b:∀i,n<=i->i<n+cF res->L3.contains i=true:=fun i h1 h2=>by
   grind
  let Cal:=fun i=>(i∈ids/\∀p∈gv,p.1≠i)\/(n<=i/\i<n+cF res)
  let nm:Nat->Nat:=fun i=>if i∈ids then bj ids i else i
  let h3:ac:=fun i=>open Classical in if Cal i then h' i else .dead
  have h3c:∀i,Cal i->h3 i=h' i:=fun i hi=>by grind
  have h3n:∀i,h3 i≠ .dead->Cal i:=fun i hi=>by
   grind
  have nmi:∀i∈ids,nm i=bj ids i:=fun i hi=>by grind
  have nmg:∀i,n<=i->i<n+cF res->nm i=i:=fun i h1 h2=>by grind
  have em3:Emb L3 (dL ids) nm hm h3:=by
   refine⟨fun i hi=>?_,fun i hi=>?_,fun i j hi hj e=>?_⟩
   ·simp only[L3,List.contains_eq_mem,List.mem_append,decide_eq_true_eq,List.mem_range'_1]at hi;rcases hi with hi|hi
    ·grind[EH]
    ·have e1:dL ids i=i:=by unfold dL;rw[if_neg ω]
     rw[e1];refine⟨nmg i hi.1 hi.2,?_⟩;rw[h3c _ (.inr hi),h_grp i hi.1 hi.2];by_cases hd:hm i=.dead
     ·rw[hd];rfl
     ·rcases grp_obj i hi.1 hi.2 hd with⟨k,rows,e2⟩| ⟨cs,e2,e3⟩
      ·rw[e2];rfl
      ·rw[e2];simp only[dT,Ob.bx.injEq];exact((azy (g:=fun c=>c) fun c hc=>VY (List.all_eq_true.1 e3 c hc)).trans (azN cs)).symm
   ·rcases h3n i hi with⟨q1,q2⟩| ⟨q1,q2⟩
    ·rw[h3c _ (.inl ⟨q1,q2⟩),nmi i q1];refine⟨h_ids i q1 q2,?_⟩;rw[hm_ids i q1];exact VX l3a (List.all_eq_true.1 c7 _ (List.mem_of_getElem? (oget i q1)))
    ·rw[nmg i q1 q2];have hd:hm i≠ .dead:=by rw[h3c _ (.inr ⟨q1,q2⟩),h_grp i q1 q2]at hi;exact hi
     rw[h3c _ (.inr ⟨q1,q2⟩),h_grp i q1 q2];rcases grp_obj i q1 q2 hd with⟨k,rows,e2⟩| ⟨cs,e2,e3⟩
     ·rw[e2];exact⟨rfl,rfl⟩
     ·rw[e2];refine⟨?_,?_⟩
      ·simp only[dT,Ob.bx.injEq];exact((azy (g:=fun c=>c) fun c hc=>VY (List.all_eq_true.1 e3 c hc)).trans (azN cs)).symm
      ·simp only[aA,azk];exact fun c hc=>MZ (List.all_eq_true.1 e3 c hc)
   ·rcases h3n i hi with⟨q1,q2⟩| ⟨q1,q2⟩<;>rcases h3n j hj with⟨q3,q4⟩| ⟨q3,q4⟩
    ·rw[nmi i q1,nmi j q3]at e;rw[←CN hl q1,←CN hl q3,e]
    ·rw[nmi i q1,nmg j q3 q4]at e;have:=EG q1;omega
    ·rw[nmg i q1 q2,nmi j q3]at e;have:=EG q3;omega
    ·rwa[nmg i q1 q2,nmg j q3 q4]at e
  have own3:∀ {b},tq h3 (fun i s=>ρ' (nm i) s) b->tq hm ρ' b:=fun⟨i,s,h1,h2⟩=>⟨nm i,s,(em3.live h1).1,h2⟩;have r3:Rel w' (M3 X hc ρ ids) (fun i s=>ρ' (nm i) s) h3:=Rel.emb em3 r' r'.xl (fun i s hl=>r'.nx _ _ (em3.live hl).1) fun b hb=>⟨hb.1,hb.2.1,fun ho=>hb.2.2 (own3 ho)⟩
  let ρ3:eu:=fun i s=>open Classical in if Cal i then ρ' (nm i) s else ρ i s
  have r3c:∀i,Cal i->∀s,ρ3 i s=ρ' (nm i) s:=fun i hi s=>by simp only[ρ3,if_pos hi]
  have r3n:∀i,¬Cal i->∀s,ρ3 i s=ρ i s:=fun i hi s=>by simp only[ρ3,if_neg hi]
  have rest:∀i,¬Cal i->h' i≠ .dead->i∉ids/\h' i=hc i:=fun i hi hd=>by
   have h1:¬ (n<=i/\i<n+cF res):=fun hh=>hi (.inr hh);have h2:∀p∈gv,p.1≠i:=fun p hp e=>hd (h_gv i h1 ⟨p,hp,e⟩);have h4:i∉ids:=fun hh=>hi (.inl ⟨hh,h2⟩);exact⟨h4,h_out i h4 h1 h2⟩
  have xin:∀ {i s},i∉ids->live hc i s->¬tq (am (ids.map fun a=>dT (bj ids) (hc a))) (fun i s=>ρ (dL ids i) s) (ρ i s).1:=fun{i s} hi hl' ho=>by
   obtain⟨id,sub,q1,q2,q3⟩:=Ky hl hnd hcl ho;obtain⟨e,_⟩:=r.inj _ _ _ _ q2 hl' q3;exact hi (e▸q1)
  have lcal:∀ {i s},live h' i s->Cal i->live h3 i s:=fun{i s} hl' hC=>(dw (h3c i hC)).2 hl';have lrest:∀ {i s},live h' i s->¬Cal i->i∉ids/\live hc i s:=fun{i s} hl' hC=>by
   have hd:h' i≠ .dead:=by
    cases s with
    |none=>intro e;simp[live,e]at hl'
    |some p=>obtain⟨_,_,_,e,_⟩:=hl';rw[e];simp
   obtain⟨h1,h2⟩:=rest i hC hd;exact⟨h1,(dw h2).1 hl'⟩
  have fr3:∀ {b},tq hm ρ' b->tq (am (ids.map fun a=>dT (bj ids) (hc a))) (fun i s=>ρ (dL ids i) s) b\/w.heap.size<=b:=fun ho=>far.fresh _ ho;have parts:∀ {i s j t},live h3 i s->j∉ids->live hc j t->(ρ' (nm i) s).1≠ (ρ j t).1:=fun{i s j t} h1 h2 h4 e=>by
   rcases fr3 ⟨nm i,s,(em3.live h1).1,e⟩with ho|ho
   ·exact xin h2 h4 ho
   ·have:=Kw r ⟨j,t,h4,rfl⟩;omega
  have ownc:∀ {b},tq h' ρ3 b->tq h3 (fun i s=>ρ' (nm i) s) b\/∃id sub,id∉ids/\live hc id sub/\(ρ id sub).1=b:=fun{b} ⟨i,s,h1,h2⟩=>by
   by_cases hC:Cal i
   ·exact .inl ⟨i,s,lcal h1 hC,by rw[←h2,r3c i hC]⟩
   ·obtain⟨h4,h5⟩:=lrest h1 hC;exact .inr ⟨i,s,h4,h5,by rw[←h2,r3n i hC]⟩
  have hA3:∀b,aJ w' (M3 X hc ρ ids) h3 (fun i s=>ρ' (nm i) s) b->aJ w' X h' ρ3 b:=fun b hb=>⟨hb.1,fun hx=>hb.2.1 (.inl hx),fun ho=>by
   rcases ownc ho with ho| ⟨i,s,h1,h2,rfl⟩
   ·exact hb.2.2 ho
   ·exact hb.2.1 (.inr ⟨⟨i,s,h2,rfl⟩,xin h1 h2⟩)⟩
  have noE:∀ {b},¬tq hc ρ b->¬tq (am (ids.map fun a=>dT (bj ids) (hc a))) (fun i s=>ρ (dL ids i) s) b:=fun{b} hb ho=>by
   obtain⟨id,sub,_,q2,q3⟩:=Ky hl hnd hcl ho;exact hb ⟨id,sub,q2,q3⟩
  have hAc:∀b,aJ w X hc ρ b->aJ w' X h' ρ3 b/\w'.heap[b]?=w.heap[b]?:=fun b hb=>by
   refine⟨⟨azY hb.1 far.size,hb.2.1,fun ho=>?_⟩,far.old b hb.1 (noE hb.2.2)⟩;rcases ownc ho with ho| ⟨i,s,h1,h2,rfl⟩
   ·rcases fr3 (own3 ho)with ho|ho
    ·exact noE hb.2.2 ho
    ·have:=hb.1;omega
   ·exact hb.2.2 ⟨i,s,h2,rfl⟩
  have pas:∀a∈ids,bk (bj ids a)=true:=fun a ha=>by
   have:=EG ha;simp only[bk,decide_eq_true_eq];omega
  have stayI:∀a∈ids,(∀p∈gv,p.1≠a)->h' a≠ .dead/\ρ3 a none=ρ a none/\hm (bj ids a)≠ .dead:=fun a ha hg=>by
   have h1:=(EI c4 _ a _ (by have h1:=List.idxOf_lt_length_of_mem ha;rw[List.getElem?_eq_getElem h1];simp) (oget a ha)).2 hg;have h2:hm (bj ids a)≠ .dead:=by rw[hm_ids a ha];exact h1
   refine⟨by rw[h_ids a ha hg,ne_eq,Kn];exact h2,?_,h2⟩;rw[r3c a (.inl ⟨ha,hg⟩),nmi a ha,(far.stay _ (pas a ha) h2).2,CN hl ha]
  have bfB:∀id,bf (hc id)=true->bf (h' id)=true/\ρ3 id none=ρ id none:=fun id hb=>by
   have h1:¬ (n<=id/\id<n+cF res):=fun hh=>by rw[gdead id hh.1 hh.2]at hb;cases hb
   have h2:∀p∈gv,p.1≠id:=fun p hp e=>by
    have:=List.all_eq_true.1 c5 p hp;rw[e,hb]at this;cases this
   by_cases hi:id∈ids
   ·have h4:=(EI c4 _ id _ (by have h1:=List.idxOf_lt_length_of_mem hi;rw[List.getElem?_eq_getElem h1];simp) (oget id hi)).1 hb;exact⟨by rw[h_ids id hi h2,ZJ,hm_ids id hi];exact h4,(stayI id hi h2).2.1⟩
   ·exact⟨by rw[h_out id hi h1 h2];exact hb,r3n id (fun hC=>by rcases hC with hC|hC;exact hi hC.1;exact h1 hC) none⟩
  have rel:Rel w' X ρ3 h':=by
   refine⟨fun i s j t h1 h2 e=>?_,fun i s h1 hx=>?_,fun id=>?_,fun b hb=>azY (r.xl b hb) far.size⟩
   ·by_cases hi:Cal i<;>by_cases hj:Cal j
    ·rw[r3c i hi,r3c j hj]at e;exact r3.inj _ _ _ _ (lcal h1 hi) (lcal h2 hj) e
    ·rw[r3c i hi,r3n j hj]at e;obtain⟨q1,q2⟩:=lrest h2 hj;exact absurd e (parts (lcal h1 hi) q1 q2)
    ·rw[r3n i hi,r3c j hj]at e;obtain⟨q1,q2⟩:=lrest h1 hi;exact absurd e.symm (parts (lcal h2 hj) q1 q2)
    ·rw[r3n i hi,r3n j hj]at e;exact r.inj _ _ _ _ (lrest h1 hi).2 (lrest h2 hj).2 e
   ·by_cases hi:Cal i
    ·rw[r3c i hi]at hx;exact r3.nx _ _ (lcal h1 hi) (hx.imp .inl id)
    ·rw[r3n i hi]at hx;exact r.nx _ _ (lrest h1 hi).2 hx
   ·by_cases hi:Cal id
    ·have:=(r3.ob id).keep (w':=w') (A':=aJ w' X h' ρ3) (ρ':=ρ3) (h':=h') (fun b hb=>⟨hA3 b hb,rfl⟩) (fun i hb=>by
      have hC:=h3n i (fun e=>by rw[e]at hb;cases hb);rw[h3c i hC]at hb;exact⟨hb,r3c i hC none⟩) (fun s=>r3c id hi s) (fun _ _=>rfl)
     rwa[h3c id hi]at this
    ·by_cases hd:h' id=.dead
     ·rw[hd];trivial
     ·obtain⟨q1,q2⟩:=rest id hi hd;have:=(r.ob id).keep (w':=w') (A':=aJ w' X h' ρ3) (ρ':=ρ3) (h':=h') hAc bfB (fun s=>r3n id hi s) (fun s hl'=>far.old _ (Kw r ⟨id,s,hl',rfl⟩) (xin q1 hl'));rwa[←q2]at this
  have evo:Evo w ρ hc w' ρ3 h' ((if kp then []else ids.map (·,true))++gv):=by
   refine⟨far.os,far.tape,far.output,far.size,fun b hb ho=>far.old b hb (noE ho),fun id sub hp hk=>?_,fun b ho=>?_,bfB,fun id hp hd=>?_⟩
   ·rw[Iy,Bool.or_eq_false_iff]at hk;have h2:∀p∈gv,p.1≠id:=fun p hp' e=>by
     have hk2:=hk.2;simp only[jI,List.any_eq_false,ay1,beq_iff_eq,Bool.or_eq_true,Bool.not_eq_true',not_and]at hk2;exact hk2 p hp' e (.inl (gvflag p hp'))
    have hnd':hc id≠ .dead:=by
     cases sub with
     |none=>exact hp
     |some p=>obtain⟨_,_,_,e,_⟩:=hp;rw[e];simp
    have h1:¬ (n<=id/\id<n+cF res):=fun hh=>hnd' (gdead id hh.1 hh.2);by_cases hi:id∈ids
    ·cases sub with
     |none=>exact⟨(stayI id hi h2).1,(stayI id hi h2).2.1⟩
     |some p=>
      cases kp with
      |false=>
       have hk1:=hk.1;simp only[azK,if_false,jI,List.any_map,List.any_eq_false,Function.comp,ay1,beq_iff_eq]at hk1;exact absurd ⟨rfl,rfl⟩ (hk1 id hi)
      |true=>
       have hpe:cG (am (ids.map fun a=>dT (bj ids) (hc a))) (bj ids id) (some p):=by
        obtain⟨cs,k,rows,e1,e2⟩:=hp;have:=(em.back id (by simpa using hi)).2;rw[e1]at this;refine⟨cs.map (dS (bj ids)),k,rows,this,?_⟩;rw[List.getElem?_map,e2];rfl
       obtain⟨q1,q2⟩:=far.keep rfl (bj ids id) p (pas id hi) (stayI id hi h2).2.2 hpe;refine⟨?_,?_⟩
       ·obtain⟨cs,k,rows,e1,e2⟩:=q1;refine⟨cs.map (dS (dL ids)),k,rows,?_,?_⟩
        ·rw[h_ids id hi h2,e1];rfl
        ·rw[List.getElem?_map,e2];rfl
       ·rw[r3c id (.inl ⟨hi,h2⟩),nmi id hi,q2,CN hl hi]
    ·have hC:¬Cal id:=fun hC=>by rcases hC with hC|hC;exact hi hC.1;exact h1 hC
     exact⟨(fV (h_out id hi h1 h2)).2 hp,r3n id hC sub⟩
   ·rcases ownc ho with ho| ⟨i,s,h1,h2,rfl⟩
    ·rcases fr3 (own3 ho)with ho|ho
     ·obtain⟨id,sub,_,q2,q3⟩:=Ky hl hnd hcl ho;exact .inl ⟨id,sub,q2,q3⟩
     ·exact .inr ho
    ·exact .inl ⟨i,s,h2,rfl⟩
   ·simp only[bk,decide_eq_true_eq]at hp;by_cases hi:id∈ids
    ·refine⟨hdead id hi,?_⟩;by_cases hg:∀p∈gv,p.1≠id
     ·exact(stayI id hi hg).2.1
     ·exfalso;refine hd (h_gv id ω ?_);have:=Classical.not_forall.1 hg;obtain⟨p,hp'⟩:=this;obtain⟨hp1,hp2⟩:=Classical.not_imp.1 hp';exact⟨p,hp1,Classical.not_not.1 hp2⟩
    ·have hC:¬Cal id:=fun hC=>by rcases hC with hC|hC;exact hi hC.1;omega
     obtain⟨_,q2⟩:=rest id hC hd;exact⟨q2▸hd,r3n id hC none⟩
  refine⟨ρ3,_,rfl,rel,evo,?_⟩;have toV:∀ {c:AV} {u:Value},RV w' (aJ w' (M3 X hc ρ ids) hm ρ') ρ' hm c u->aZ L3 c=true->RV w' (aJ w' X h' ρ3) ρ3 h' (dS (dL ids) c) u:=fun{c u} hv hcl'=>by
   have h1:=hv.embA (A2:=aJ w' (M3 X hc ρ ids) h3 (fun i s=>ρ' (nm i) s)) em3 (fun b hb=>⟨hb.1,hb.2.1,fun ho=>hb.2.2 (own3 ho)⟩) hcl';exact h1.keep (fun b hb=>⟨hA3 b hb,rfl⟩) fun i s hp=>by
    have hC:=h3n i (by
     cases s with
     |none=>exact hp
     |some p=>obtain⟨_,_,_,e,_⟩:=hp;rw[e];simp)
    exact⟨(fV (h3c i hC)).1 hp,r3c i hC s⟩
  have zc:=zcl l3a l3b;cases zr with
  |tup vs=>
   cases hv with
   |dat hd=>cases hd
   |tup _ us hs hr=>
    refine .tup _ us (by simpa using hs) fun i c u hc' hu=>?_;simp only[List.getElem?_map,ay0]at hc';obtain⟨c0,h1,rfl⟩:=hc';exact toV (hr i c0 u h1 hu) (zc c0 (List.mem_of_getElem? h1))
  |_=>exact toV hv zc
 grind
end
theorem Pc:∀ {l} {ms},∀p∈sv ms l,p.2=false
 |[],ms,p,hp=>by grind[sv]
 |a::l,ms,p,hp=>by
  simp only[sv,List.mem_append]at hp;rcases hp with hp|hp
  ·split at hp
   ·simp only[azP]at hp;obtain⟨i,_,rfl⟩:=hp;rfl
   ·simp at hp
  ·exact Pc p hp
section
variable {P:Program} {I:Inv} {call:iD} {md:Mode}
def acg(P:Program)(I:Inv)(call:iD)(md:Mode):Prop:=
 ∀ {w} {X} {ρ} {h h'} {d} {f z} {zas} {ks} {uf} {us},d<1000->I.p w X->Rel w X ρ h->RV w (aJ w X h ρ) ρ h f uf->us.size=zas.length->
  (∀ (i:Nat) c u,zas[i]?=some c->us[i]?=some u->RV w (aJ w X h ρ) ρ h c u)->dV call md h d zas f=some (z,h',ks)->
  ∃g first cap,uf=.func (.func g) first cap/\Enters P g (first++us++cap) w fun v w'=>Got w X ρ h w' h' ks z v
theorem Y6(hf:∀f,qQ P I (md.keep f) f (call f)):acg P I call md:=by
 intro w X ρ h h' d f z zas ks uf us hd hi r hvf hus hva hz;cases f<;>simp only[dV]at hz<;>try (cases hz;done)
 rename_i fid a b;obtain⟨first,cap,rfl,s1,s2,va,vb⟩:=hvf.fn_inv;refine⟨fid,first,cap,rfl,?_⟩;simp only[ayY]at hz;obtain⟨⟨zs,hc,ks0⟩,e1,e2⟩:=hz;obtain⟨r1,ev1,fl1,ln1,vv⟩:=Kv (h0:=h) (a++zas++b) (md.m fid) (first++us++cap).toList r .refl γ (fun i c u h1 h2=>by
  grind) e1
 have hnd:(ce hc 40 (bA [] (zs.flatMap cr)) 0).Nodup:=MU (ED List.nodup_nil);generalize ce hc 40 (bA [] (zs.flatMap cr)) 0=ids at*
 unfold jK at e2;split at e2
 ·rename_i hck;simp only[ay1,azk,Bool.not_eq_true']at hck;obtain⟨k1,k2⟩:=hck;simp only[ayY]at e2;obtain⟨⟨res,os⟩,e3,e4⟩:=e2;have hl:ids.length<=1000:=by
   grind[eG]
  have hcl:=fun a ha=>(k2 a ha).1;have hdead:∀a∈ids,hc a≠ .dead:=fun a ha e=>by
   have:=(k2 a ha).2;rw[e]at this;cases this
  have em:=Emb.enter (h:=hc) hl hnd hcl;obtain⟨rE,hA⟩:=aeb r1 hl hnd hcl;have hi1:I.p w (M3 X hc ρ ids):=I.more hi fun b hb=>.inl hb;refine(hf fid e3 (n:=2000+8*d) ω hi1 rE (by grind[azW,Ae]) fun i c u hc' hu=>?_).mono fun v w' ⟨ρ',q1,q2,q3⟩=>?_
  ·simp only[List.getElem?_map,ay0]at hc';obtain⟨c0,h1,rfl⟩:=hc';obtain⟨c1,h2,h3⟩:=zk _ _ _ _ h1;obtain⟨h4,wy,hv⟩:=vv i c1 u h2 γ;have hv':RV w (aJ w X h4 ρ) ρ h4 c0 u:=by
    rcases h3 with rfl| ⟨ss,rfl⟩
    ·omega
    ·exact hv.nrmV ss
   have hcc:=k1 c0 (List.mem_of_getElem? h1);exact(ad9 wy hv' hcc).embA em hA hcc
  ·obtain⟨ρ3,k3,rfl,g1,g2,g3⟩:=acf r1 hnd hcl hdead Pc e4 q1 q2 q3;exact⟨ρ3,g1,ev1.trans g2,g3⟩
 grind
theorem Kz{w}{X}{ρ}{h}{b}(hb:aJ w X h ρ b):aJ w X (am []) ρ b:=⟨hb.1,hb.2.1,fun⟨id,sub,hl,_⟩=>by
 have hd:am [] id=.dead:=by grind[am]
 cases sub with
 |none=>grind[live]
 |some p=>grind[live]⟩
theorem ZP{w}{X}{ρ}{h}(r:Rel w X ρ h){id}{sub}(hl:live h id sub):aJ w X (am []) ρ (ρ id sub).1:=
 ⟨Kw r ⟨id,sub,hl,rfl⟩,fun hx=>r.nx id sub hl (.inl hx),fun⟨id',sub',hl',_⟩=>by
  have hd:am [] id'=.dead:=by grind[am]
  cases sub' with
  |none=>grind[live]
  |some p=>grind[live]⟩
theorem ach{w}{X}{ρ}{h}(r:Rel w X ρ h){a c}{u}(hv:RV w (aJ w X h ρ) ρ h a u)(hz:abt h a=some c):RV w (aJ w X (am []) ρ) ρ (am []) c u:=by
 have dd:∀ {a},RD w (aJ w X h ρ) a u->RV w (aJ w X (am []) ρ) ρ (am []) a u:=fun hd=>.dat (hd.mono fun b hb=>⟨Kz hb,rfl⟩);cases a<;>simp only[abt]at hz<;>try (cases hz;done)
 case v x=>cases hz;exact .dat (by obtain⟨rfl,hp⟩:=hv.v_inv;exact .v _ hp)
 case emp=>cases hz;obtain⟨a,rfl⟩:=hv.emp_inv;exact .dat (.emp a)
 case sl k rows=>cases hz;exact dd hv.sl_inv
 case rsl id sub k lo n=>
  simp only[ay0]at hz;obtain⟨rs,h1,rfl⟩:=hz;obtain⟨a,cap,rfl,hp,hn,hb,ha⟩:=hv.rsl_inv;cases sub with
  |none=>
   simp only[zQ]at h1;have ho:=r.ob id;cases eo:h id with
   |dead=>grind[CG,jj]
   |bx cs=>grind[CG,jj]
   |ar k' rows=>
    rw[eo]at h1 ho;simp only[CG,jj]at h1;split at h1
    ·rename_i hc;obtain⟨rfl,hle⟩:=hc;cases h1;obtain⟨us,t0,g1,g2,g3,g4⟩:=ho;exact .dat (pJ g1 (ZP r (by grind[live])) (g4.mono fun b hb=>⟨Kz hb,rfl⟩) hle hn ha)
    grind
   |fz k' rows=>
    rw[eo]at h1 ho;simp only[CG,jj]at h1;split at h1
    ·rename_i hc;obtain⟨rfl,hle⟩:=hc;cases h1;obtain⟨ga,us,t0,fr,g1,g2,g3,g4⟩:=ho;exact .dat (pJ g1 (Kz ga) (g4.mono fun b hb=>⟨Kz hb,rfl⟩) hle hn ha)
    grind
  |some p=>
   simp only[zQ]at h1;cases eo:h id with
   |bx cs=>
    rw[eo]at h1;simp only[kQ]at h1;cases ec:cs[p]? with
    |none=>grind[yB,jj]
    |some c=>
     rw[ec]at h1;cases c<;>simp[yB,jj]at h1;rename_i k' rows;obtain⟨⟨rfl,hle⟩,rfl⟩:=h1;obtain⟨us,t0,g1,g2,g3,g4⟩:=r.cell eo;obtain⟨u,f1,a',cap',us1,t1,q1,q2,q3,q4,q5,q6,q7⟩:=g4 p _ ec;exact .dat (pJ q4 (ZP r ⟨cs,_,rows,eo,ec⟩) (q7.mono fun b hb=>⟨Kz hb,rfl⟩) hle hn ha)
   |dead=>grind[kQ,jj]
   |ar k' rows=>grind[kQ,jj]
   |fz k' rows=>grind[kQ,jj]
 case fn f x y=>
  cases x with
  |cons a l=>grind
  |nil=>
   cases y with
   |cons a l=>grind
   |nil=>
    simp only[Option.some.injEq]at hz;subst hz;obtain⟨us,ts,rfl,s1,s2,_,_⟩:=hv.fn_inv;exact .fn f [] [] us ts s1 s2 (fun i c u hc=>by grind) (fun i c u hc=>by grind)
theorem Pd{w}{X}{ρ}{h}(r:Rel w X ρ h):∀l (vals:List Value) {cs},vals.length=l.length->(∀ (i:Nat) c u,l[i]?=some c->vals[i]?=some u->RV w (aJ w X h ρ) ρ h c u)->QM h l=some cs->
  cs.length=l.length/\∀ (i:Nat) c u,cs[i]?=some c->vals[i]?=some u->RV w (aJ w X (am []) ρ) ρ (am []) c u
 |[],vals,cs,hl,hv,hz=>by
  grind[QM,Option.some.injEq]
 |a::l,[],cs,hl,hv,hz=>by grind
 |a::l,v::vals,cs,hl,hv,hz=>by
  simp only[QM,ayY]at hz;obtain⟨b,e1,q,e2,e3⟩:=hz;cases e3;obtain⟨g1,g2⟩:=Pd r l vals γ (fun i c u hc hu=>hv (i+1) c u γ γ) e2;refine⟨by grind,fun i c u hc hu=>?_⟩;cases i with
  |zero=>simp at hc hu;subst hc hu;exact ach r (hv 0 a v rfl rfl) e1
  |succ i=>grind
theorem aci{kp}{w w'}{X}{ρ ρ'}{h}(r:Rel w X ρ h)(far:Far kp w ρ (am []) w' ρ' (am [])):Rel w' X ρ h/\Evo w ρ h w' ρ h []:=by
 have no:∀b,¬tq (am []) ρ b:=fun b ⟨id',sub',hl',_⟩=>by
  have hd:am [] id'=.dead:=by grind[am]
  cases sub' with
  |none=>grind[live]
  |some p=>grind[live]
 have e:Evo w ρ h w' ρ h []:=⟨far.os,far.tape,far.output,far.size,fun b hb _=>far.old b hb (no b),fun _ _ hp _=>⟨hp,rfl⟩,fun _ ho=>.inl ho,fun _ hb=>⟨hb,rfl⟩,fun _ _ hd=>⟨hd,rfl⟩⟩;exact⟨r.step e (fun _=>False) (fun _ _=>⟨rfl,fun _=>rfl,fun sub hl=>far.old _ (Kw r ⟨_,sub,hl,rfl⟩) (no _)⟩) r.inj r.nx (fun _ hf=>hf.elim),e⟩
theorem acj{c}(hp:zS c=true)(n)(h):dU n h c=(c,h):=by
 cases c<;>simp[zS]at hp;rfl
theorem Pe:∀ {vs} n h,vs.all zS=true->cT n h vs=(vs,h)
 |[],n,h,_=>rfl
 |a::l,n,h,hp=>by
  simp only[azm,ay1]at hp;simp only[cT,acj hp.1,Pe (n+1) h hp.2]
theorem aec{c}(hp:J8 c=true)(n)(h):mat n h c=(c,h):=by
 cases c<;>simp only[J8]at hp<;>try (simp[zS]at hp;done)
 case v x=>rfl
 grind[mat,Pe]
theorem Te{w w'}{A A'}{ρ ρ'}{h h'}{c}{u}(hp:zS c=true)(hv:RV w A ρ h c u):RV w' A' ρ' h' c u:=by
 cases c<;>simp[zS]at hp;obtain⟨rfl,hp⟩:=hv.v_inv;exact .dat (.v _ hp)
theorem ag8{w w'}{A A'}{ρ ρ'}{h h'}{c}{u}(hp:J8 c=true)(hv:RV w A ρ h c u):RV w' A' ρ' h' c u:=by
 cases c<;>simp only[J8]at hp<;>try (simp[zS]at hp;done)
 case v x=>grind[Te]
 case tup vs=>
  cases hv with
  |dat hd=>cases hd
  |tup _ us hs hr=>exact .tup vs us hs fun i c u hc hu=>Te (List.all_eq_true.1 hp c (List.mem_of_getElem? hc)) (hr i c u hc hu)
theorem ack(hf:∀f,qQ P I (md.keep f) f (call f)):nc P I call md:=by
 intro w X ρ h h' d f z zas ks uf us hd hi r hvf hus hva hz;unfold bE at hz;split at hz
 ·cases f<;>simp only[ON]at hz<;>try (cases hz;done)
  rename_i fid a b _;obtain⟨first,cap,rfl,s1,s2,va,vb⟩:=hvf.fn_inv;refine⟨fid,first,cap,rfl,?_⟩;simp only[ayY]at hz;obtain⟨cs,e1,⟨res,os⟩,e2,e3⟩:=hz;obtain⟨l1,l2⟩:=Pd r (a++zas++b) (first++us++cap).toList γ (fun i c u h1 h2=>by
   grind) e1
  cases os with
  |cons o os=>grind[Vi]
  |nil=>
   simp only[Vi]at e3;split at e3
   ·rename_i hp;cases e3;have rE:Rel w X ρ (am []):=by
     have hd:∀id,am [] id=.dead:=fun id=>by grind[am]
     have no:∀id sub,¬live (am []) id sub:=fun id sub hl=>by
      cases sub with
      |none=>grind[live]
      |some p=>grind[live]
     exact⟨fun id sub _ _ h=>(no id sub h).elim,fun id sub h=>(no id sub h).elim,fun id=>by rw[hd];trivial,r.xl⟩
    refine(hf fid e2 (n:=2000) (ayZ _) hi rE (by grind[Ae]) fun i c u hc' hu=>?_).mono fun v w' ⟨ρ',q1,q2,q3⟩=>?_
    ·obtain⟨c1,h2,h3⟩:=zk _ _ _ _ hc';have hv:=l2 i c1 u h2 γ;rcases h3 with rfl| ⟨ss,rfl⟩
     ·omega
     ·exact hv.nrmV ss
    ·rw[aec hp]at q1 q2 q3;obtain⟨g1,g2⟩:=aci r q2;exact⟨ρ,g1,g2,ag8 hp q3⟩
   grind
 ·exact Y6 hf hd hi r hvf hus hva hz
end
section
variable {P:Program} {I:Inv} {call:iD} {md:Mode}
structure EnvOK (P:Program) (I:Inv) (e:Env):Prop where
 mixed:P.follows .mixedOrders=true
 ext:∀f g,e.E f=some g->qQ P I (e.md.keep f) f g
 text:∀f fd,e.E f=none->e.C f=some fd->Text P f fd
theorem acl(kp)(f):qQ P I kp f (fun _ _=>none):=by
 intro args obs obs' res w X ρ vals n hz;grind
theorem aed{e}(he:EnvOK P I e):∀n f,qQ P I (e.md.keep f) f (l7 e n f)
 |0,f=>acl _ f
 |n+1,f=>by
  cases hE:e.E f with
  |some g=>
   have:l7 e (n+1) f=g:=by grind[l7]
   rw[this];exact he.ext f g hE
  |none=>
   cases hC:e.C f with
   |none=>
    have:l7 e (n+1) f=fun _ _=>none:=by grind[l7]
    grind
   |some fd=>
    have:l7 e (n+1) f=Kc (l7 e n) {e.md with nm:=e.md.keep f} n fd:=by grind[l7]
    rw[this];exact ajT (md:={e.md with nm:=e.md.keep f}) he.mixed (ack (md:={e.md with nm:=e.md.keep f}) fun g=>aed he n g) (he.text f fd hE hC)
end
def Ev(p:Nat->Prop):Prop:=∃n,∀k,n<=k->p k
theorem Ev.and{p q}(a:Ev p)(b:Ev q):Ev fun k=>p k/\q k:=by
 obtain⟨n,hn⟩:=a;obtain⟨m,hm⟩:=b;exact⟨max n m,fun k hk=>⟨hn k ω,hm k ω⟩⟩
theorem Ev.mono{p q}(a:Ev p)(h:∀k,p k->q k):Ev q:=by
 obtain⟨n,hn⟩:=a;exact⟨n,fun k hk=>h k (hn k hk)⟩
theorem Ev.all{p}(h:∀k,p k):Ev p:=⟨0,fun k _=>h k⟩
open Classical in
noncomputable def Gb {α:Type} (f:Nat->Option α):Option α:=if h:∃a,Ev fun k=>f k=some a then some (Classical.choose h)else none
theorem qB{α}{f}{a:α}:Gb f=some a↔Ev fun k=>f k=some a:=by
 unfold Gb;constructor
 ·intro h;split at h
  all_goals grind
 ·intro h;have hh:∃a,Ev fun k=>f k=some a:=⟨a,h⟩;obtain⟨n,hn⟩:=Classical.choose_spec hh;obtain⟨m,hm⟩:=h;have h1:=hn (max n m) ω;grind
theorem ajV{α}{f g:Nat->Option α}(h:∀a,Gb f=some a↔Gb g=some a):Gb f=Gb g:=by
 cases hf:Gb f with
 |none=>
  cases hg:Gb g with
  |none=>rfl
  |some a=>grind
 |some a=>grind
theorem CO{α}(a:Option α):Gb (fun _=>a)=a:=by
 cases a with
 |none=>
  cases h:Gb (fun _:Nat=>none)with
  |none=>rfl
  |some a=>
   obtain⟨n,hn⟩:=qB.1 h;exact absurd (hn n (ayZ _)) σ
 |some a=>exact qB.2 (Ev.all fun _=>rfl)
theorem V1{α}(f:Nat->Option α):Gb (fun n=>f (n+1))=Gb f:=ajV fun a=>by
 rw[qB,qB];constructor
 ·rintro⟨n,hn⟩
  refine⟨n+1,fun k hk=>?_⟩;have:=hn (k-1) ω;grind
 ·rintro⟨n,hn⟩
  exact⟨n,fun k hk=>hn (k+1) ω⟩
noncomputable def aq (body:ai->ac->Option (Ex×St)) (ks hs:List Nat) (s:ai) (h:ac):Option (Ex×St):=Gb fun n=>uu body ks hs n s h
def UU(g:ai->ac->Option (Ex×St)):Option (Ex×St)->Option (Ex×St)
 |some (.normal,t)=>g t.s t.h
 |r=>r
theorem ag(body)(ks hs)(s)(h):
  aq body ks hs s h=if(hs.all fun a=>aA hs (h a))=true then UU (aq body ks hs) (body (mk .any (fun i=>gS hs (s i)) ks) (mk .dead h hs))else none:=by
 unfold aq;rw[←V1];simp only[uu];split
 ·cases hb:body (mk .any (fun i=>gS hs (s i)) ks) (mk .dead h hs)with
  |none=>exact CO _
  |some r=>
   obtain⟨e,t⟩:=r;cases e with
   |normal=>rfl
   |exit id=>exact CO _
   |ret=>exact CO _
 ·exact CO _
noncomputable def aj (call:iD) (md:Mode):Cmd->ai->ac->Option (Ex×St)
 | .skip,s,h=>some (.normal,⟨s,h⟩)
 | .ops ks l,s,h=>bq (aF call md l s h) fun s h=>some (.normal,⟨mk .any s ks,h⟩)
 | .dops ks l ps,s,h=>bq (sz call md l ps s h) fun s h=>some (.normal,⟨mk .any s ks,h⟩)
 | .seq a b,s,h=>cH (aj call md a s h) (aj call md b)
 | .cond c a b,s,h=>sA (aj call md a s h) (aj call md b s h) (ev s c)
 | .block id ks a,s,h=>ah id ks (aj call md a s h)
 | .loop ks hs a,s,h=>aq (aj call md a) ks hs s h
 | .exit id,s,h=>some (.exit id,⟨s,h⟩)
 | .ret,s,h=>some (.ret,⟨s,h⟩)
 | .frz is a,s,h=>bq (Bq md.nm is s h) (aj call md a)
noncomputable def gj (e:Env):iD:=fun f args hs=>Gb fun n=>l7 e n f args hs
noncomputable def V3 (call:iD) (md:Mode) (fd:FD) (args:List AV) (hs:List Ob):Option (AV×List Ob):=
 if args.length=fd.np/\hs.length<=1000 then je md.nm fd.rs fd.res hs.length (aj call md fd.body (uw args) (am hs))else none
section
variable {e:Env} {md:Mode}
theorem aee{h}{d}{zas}{f}{r}(hz:dV (gj e) md h d zas f=some r):Ev fun k=>dV (l7 e k) md h d zas f=some r:=by
 cases f<;>simp only[dV]at hz⊢ <;>try (cases hz;done)
 simp only[ayY]at hz⊢;obtain⟨p,e1,e2⟩:=hz;unfold jK at e2⊢;split at e2
 ·simp only[ayY]at e2;obtain⟨q,e3,e4⟩:=e2;refine(qB.1 e3).mono fun k hk=>⟨p,e1,?_⟩;grind
 grind
theorem V4{h}{d}{zas}{f}{r}(hz:bE (gj e) md h d zas f=some r):Ev fun k=>bE (l7 e k) md h d zas f=some r:=by
 unfold bE at hz⊢;by_cases hb:kt md zas f=true
 ·rw[if_pos hb]at hz;simp only[if_pos hb];cases f<;>simp only[ON]at hz⊢ <;>try (cases hz;done)
  simp only[ayY]at hz⊢;obtain⟨p,e1,q,e3,e4⟩:=hz;exact(qB.1 e3).mono fun k hk=>⟨p,e1,q,hk,e4⟩
 simp_all[if_neg,aee]
theorem ZQ{d}{op}{s}{h}{r}(hz:step (gj e) md d op s h=some r):Ev fun k=>step (l7 e k) md d op s h=some r:=by
 cases op with
 |call f zas=>exact V4 hz
 |callC f zas=>
  simp only[step,ayY]at hz⊢;obtain⟨q,e1,e2⟩:=hz;exact(V4 e1).mono fun k hk=>⟨q,hk,e2⟩
 |_=>exact Ev.all fun k=>hz
theorem ZR{d}{op}{s}{h}{t}(hz:dC md.nm s d (step (gj e) md (d.getD 0) op s h)=some t):Ev fun k=>dC md.nm s d (step (l7 e k) md (d.getD 0) op s h)=some t:=by
 cases hs:step (gj e) md (d.getD 0) op s h with
 |none=>rw[hs]at hz;cases hz
 |some r=>
  exact(ZQ hs).mono fun k hk=>by grind
theorem ag9{o}{s}{h}{t}(hz:mR (gj e) md o s h=some t):Ev fun k=>mR (l7 e k) md o s h=some t:=by
 unfold mR at hz⊢;cases hg:o.g with
 |none=>grind[ZR]
 |some g=>
  rw[hg]at hz;simp only at hz⊢;unfold lJ at hz⊢;split at hz
  ·split at hz
   all_goals simp_all[if_pos,ZR,if_neg,Ev.all]
  all_goals grind[Ev.all]
theorem IH:∀ {l} {s} {h} {t},aF (gj e) md l s h=some t->Ev fun k=>aF (l7 e k) md l s h=some t
 |[],s,h,t,hz=>Ev.all fun k=>hz
 |o::l,s,h,t,hz=>by
  simp only[aF,bq]at hz;split at hz
  ·grind
  ·rename_i t1 ht1;refine((ag9 ht1).and (IH hz)).mono fun k hk=>?_;grind[aF,bq]
theorem V5{d}{op}{s}{h}{f}{t}(hz:oL s d f (step (gj e) md (d.getD 0) op s h)=some t):Ev fun k=>oL s d f (step (l7 e k) md (d.getD 0) op s h)=some t:=by
 cases hs:step (gj e) md (d.getD 0) op s h with
 |none=>rw[hs]at hz;cases hz
 |some r=>
  exact(ZQ hs).mono fun k hk=>by grind
theorem aha{o}{s}{h}{t}(hz:eN (gj e) md o s h=some t):Ev fun k=>eN (l7 e k) md o s h=some t:=by
 unfold eN at hz⊢;cases hg:o.g with
 |none=>grind[V5]
 |some g=>
  rw[hg]at hz;simp only at hz⊢;unfold sy at hz⊢;split at hz
  ·split at hz
   all_goals simp_all[if_pos,V5,if_neg,Ev.all]
  all_goals grind[Ev.all]
theorem QT:∀ {l} {s} {h} {t},iQ (gj e) md l s h=some t->Ev fun k=>iQ (l7 e k) md l s h=some t
 |[],s,h,t,hz=>Ev.all fun k=>hz
 |o::l,s,h,t,hz=>by
  simp only[iQ,ayY]at hz;obtain⟨r,e1,q,e2,e3⟩:=hz;refine((aha e1).and (QT e2)).mono fun k hk=>?_;simp only[iQ,hk.1,hk.2,ay2,e3]
theorem ahb{l}{ps}{s}{h}{t}(hz:sz (gj e) md l ps s h=some t):Ev fun k=>sz (l7 e k) md l ps s h=some t:=by
 unfold sz at hz⊢;cases hb:Cu ps with
 |none=>
  rw[hb]at hz;simp only[CH,ayY]at hz;obtain⟨q,e1,e2⟩:=hz;exact(QT e1).mono fun k hk=>by simp only[CH,ay2, *]
 |some b=>
  rw[hb]at hz;simp only[Iq,ayY]at hz;obtain⟨q,e1,e2⟩:=hz;split at e2
  ·simp only[bq]at e2;split at e2
   ·grind
   ·exact((QT e1).and (IH e2)).mono fun k hk=>by simp_all[Iq,ay2,if_pos,bq]
  grind
theorem ZS{c}{ks hs}(ih:∀ {s} {h} {r},aj (gj e) md c s h=some r->Ev fun k=>cI (l7 e k) md k c s h=some r):
  ∀m {s} {h} {r},uu (aj (gj e) md c) ks hs m s h=some r->∃n,∀k,n<=k->∀j,n<=j->uu (cI (l7 e k) md k c) ks hs j s h=some r
 |0,s,h,r,hz=>by grind[uu]
 |m+1,s,h,r,hz=>by
  simp only[uu]at hz;split at hz
  ·rename_i hc;cases hb:aj (gj e) md c (mk .any (fun i=>gS hs (s i)) ks) (mk .dead h hs)with
   |none=>grind
   |some q=>
    rw[hb]at hz;obtain⟨n1,h1⟩:=ih hb;obtain⟨ex,t⟩:=q;cases ex with
    |normal=>
     obtain⟨n2,h2⟩:=ZS ih m hz;refine⟨max n1 n2+1,fun k hk j hj=>?_⟩;obtain⟨j,rfl⟩:∃j',j=j'+1:=⟨j-1,by omega⟩;simp only[uu,if_pos hc,h1 k ω];grind
    |exit id=>
     refine⟨n1+1,fun k hk j hj=>?_⟩;obtain⟨j,rfl⟩:∃j',j=j'+1:=⟨j-1,by omega⟩;simp only[uu,if_pos hc,h1 k ω];omega
    |ret=>
     refine⟨n1+1,fun k hk j hj=>?_⟩;obtain⟨j,rfl⟩:∃j',j=j'+1:=⟨j-1,by omega⟩;simp only[uu,if_pos hc,h1 k ω];omega
  grind
theorem me:∀c {s} {h} {r},aj (gj e) md c s h=some r->Ev fun k=>cI (l7 e k) md k c s h=some r
 | .skip,s,h,r,hz=>Ev.all fun k=>hz
 | .ops ks l,s,h,r,hz=>by
  simp only[aj,bq]at hz;split at hz
  ·grind
  ·rename_i t1 ht1;exact(IH ht1).mono fun k hk=>by grind[cI,bq]
 | .dops ks l ps,s,h,r,hz=>by
  simp only[aj,bq]at hz;split at hz
  ·grind
  ·rename_i t1 ht1;exact(ahb ht1).mono fun k hk=>by grind[cI,bq]
 | .seq a b,s,h,r,hz=>by
  simp only[aj,cH]at hz;split at hz
  ·grind
  ·rename_i t1 ht1;exact((me a ht1).and (me b hz)).mono fun k hk=>by grind[cI,cH]
  ·rename_i i t1 ht1;exact(me a ht1).mono fun k hk=>by grind[cI,cH]
  ·rename_i t1 ht1;exact(me a ht1).mono fun k hk=>by grind[cI,cH]
 | .cond c a b,s,h,r,hz=>by
  simp only[aj,sA]at hz;split at hz
  ·rename_i t ht;cases t with
   |true=>simp_all[me,cI,sA,if_true]
   |false=>simp_all[me,cI,sA,azK,if_false]
  grind
 | .block id ks a,s,h,r,hz=>by
  simp only[aj,ah]at hz;split at hz
  ·grind
  ·rename_i t1 ht1;exact(me a ht1).mono fun k hk=>by grind[cI,ah]
  ·rename_i i t1 ht1;exact(me a ht1).mono fun k hk=>by grind[cI,ah]
  ·rename_i t1 ht1;exact(me a ht1).mono fun k hk=>by grind[cI,ah]
 | .loop ks hs a,s,h,r,hz=>by
  obtain⟨m,hm⟩:=qB.1 hz;obtain⟨n,hn⟩:=ZS (fun hh=>me a hh) m (hm m (ayZ _));exact⟨n,fun k hk=>by grind[cI]⟩
 | .exit id,s,h,r,hz=>Ev.all fun k=>hz
 | .ret,s,h,r,hz=>Ev.all fun k=>hz
 | .frz is a,s,h,r,hz=>by
  simp only[aj,bq]at hz;split at hz
  ·cases hz
  ·rename_i t1 ht1;exact(me a hz).mono fun k hk=>by simp only[cI,bq, *]
theorem KA{f}{fd}{args}{hs}{r}(hE:e.E f=none)(hC:e.C f=some fd)(hz:V3 (gj e) {e.md with nm:=e.md.keep f} fd args hs=some r):gj e f args hs=some r:=by
 unfold gj;rw[qB];unfold V3 at hz;split at hz
 ·cases hx:aj (gj e) {e.md with nm:=e.md.keep f} fd.body (uw args) (am hs)with
  |none=>rw[hx]at hz;cases hz
  |some q=>
   obtain⟨n,hn⟩:=me fd.body hx;refine⟨n+1,fun k hk=>?_⟩;obtain⟨k,rfl⟩:∃k',k=k'+1:=⟨k-1,by omega⟩
   simp_all[l7,ay2,Kc,if_pos]
 grind
theorem II{f}{g}{args}{hs}(hE:e.E f=some g):gj e f args hs=g args hs:=by
 unfold gj;rw[←V1]
 simp_all[l7,funext,CO]
theorem ZT{P}{I}(he:EnvOK P I e)(f):qQ P I (e.md.keep f) f (gj e f):=by
 intro args obs obs' res w X ρ vals n hz;obtain⟨m,hm⟩:=qB.1 hz;exact aed he m f (hm m (ayZ _))
end
section
variable {call:iD} {md:Mode} {s:ai} {h:ac}
@[go_sem] theorem axc:aj call md .skip s h=some (.normal,⟨s,h⟩):=θ _
@[go_sem] theorem ayu(ks l):aj call md (.ops ks l) s h=bq (aF call md l s h) fun s h=>some (.normal,⟨mk .any s ks,h⟩):=θ _
@[go_sem] theorem ayv(is a):aj call md (.frz is a) s h=bq (Bq md.nm is s h) (aj call md a):=θ _
@[go_sem] theorem axd(ks l ps):aj call md (.dops ks l ps) s h=bq (sz call md l ps s h) fun s h=>some (.normal,⟨mk .any s ks,h⟩):=θ _
@[go_sem] theorem ajf(a b):aj call md (.seq a b) s h=cH (aj call md a s h) (aj call md b):=θ _
@[go_sem] theorem axe(c a b):aj call md (.cond c a b) s h=sA (aj call md a s h) (aj call md b s h) (ev s c):=θ _
@[go_sem] theorem auM(id ks a):aj call md (.block id ks a) s h=ah id ks (aj call md a s h):=θ _
@[go_sem] theorem axf(ks hs a):aj call md (.loop ks hs a) s h=aq (aj call md a) ks hs s h:=θ _
@[go_sem] theorem axg(i):aj call md (.exit i) s h=some (.exit i,⟨s,h⟩):=θ _
@[go_sem] theorem ayw:aj call md .ret s h=some (.ret,⟨s,h⟩):=θ _
@[go_sem] theorem amH(s h f):cH (some (.normal,⟨s,h⟩)) f=f s h:=θ _
@[go_sem] theorem aph(i t f):cH (some (.exit i,t)) f=some (.exit i,t):=θ _
@[go_sem] theorem aqV(t f):cH (some (.ret,t)) f=some (.ret,t):=θ _
@[go_sem] theorem aoL(id ks i t):ah id ks (some (.exit i,t))=if i=id then some (.normal,⟨mk .any t.s ks,t.h⟩)else some (.exit i,t):=θ _
@[go_sem] theorem amn(id ks t):ah id ks (some (.normal,t))=some (.normal,⟨mk .any t.s ks,t.h⟩):=θ _
@[go_sem] theorem api(id ks t):ah id ks (some (.ret,t))=some (.ret,t):=θ _
@[go_sem] theorem apj(a b):sA a b (.v (.bool true))=a:=θ _
@[go_sem] theorem aoM(a b):sA a b (.v (.bool false))=b:=θ _
@[go_sem] theorem amI(g t):UU g (some (.normal,t))=g t.s t.h:=θ _
@[go_sem] theorem apk(g i t):UU g (some (.exit i,t))=some (.exit i,t):=θ _
@[go_sem] theorem aqW(g t):UU g (some (.ret,t))=some (.ret,t):=θ _
@[go_sem] theorem apl{β}(s h)(f:ai->ac->Option β):bq (some ⟨s,h⟩) f=f s h:=θ _
@[go_sem] theorem aqX{β}(c) [Decidable c](x y)(f:ai->ac->Option β):bq (if c then x else y) f=if c then bq x f else bq y f:=by split<;>rfl
@[go_sem] theorem aqY(c) [Decidable c](x y)(f):cH (if c then x else y) f=if c then cH x f else cH y f:=by split<;>rfl
@[go_sem] theorem auN:aF call md [] s h=some ⟨s,h⟩:=θ _
@[go_sem] theorem Pf(d op rest):aF call md (⟨some d,none,.p op⟩::rest) s h=(gY s op).bind fun a=>aF call md rest (upd s d a) h:=by
 simp only[aF,mR,step,Et];cases gY s op with
 |none=>rfl
 |some a=>simp only[azE,dC,qA,if_true];rfl
def cm(d n:Nat):COp:=⟨some d,none,.p (.mv (.t n))⟩
def co(d:Nat)(op:POp):COp:=⟨some d,none,.p op⟩
def cg(d j:Nat)(w:Bool)(op:POp):COp:=⟨some d,some (j,w),.p op⟩
@[go_sem] theorem axh(d n rest):aF call md (cm d n::rest) s h=aF call md rest (upd s d (s n)) h:=Pf d (.mv (.t n)) rest
@[go_sem] theorem axi(d op rest):aF call md (co d op::rest) s h=(gY s op).bind fun a=>aF call md rest (upd s d a) h:=Pf d op rest
@[go_sem] theorem axj(d j w op rest):aF call md (cg d j w op::rest) s h=bq (lJ (some d) w ((gY s op).map fun a=>⟨upd s d a,h⟩) s h (s j)) (aF call md rest):=by
 have:dC md.nm s (some d) (step call md d (.p op) s h)=(gY s op).map fun a=>⟨upd s d a,h⟩:=by
  simp only[step,Et];cases gY s op with
  |none=>rfl
  |some a=>simp only[azE,dC,qA,if_true];rfl
 show bq (lJ (some d) w (dC md.nm s (some d) (step call md d (.p op) s h)) s h (s j)) _=_;rw[this]
def b2(d:Nat)(op:BinOp)(a b:Nat):COp:=⟨some d,none,.p (.bin op (.t a) (.t b))⟩
def fa(d k a:Nat):COp:=⟨some d,none,.p (.fadr k (.t a))⟩
def nk(d a:Nat):COp:=⟨some d,none,.p (.nilck (.t a))⟩
def ld(d k a:Nat):COp:=⟨some d,none,.load k false (.t a)⟩
def la(d k a:Nat):COp:=⟨some d,none,.load k true (.t a)⟩
def ca(d f:Nat)(zas:List Opd):COp:=⟨some d,none,.call (.c (.fn f [] [])) zas⟩
def sr(k:Nat)(x y:Opd):COp:=⟨none,none,.store k x y⟩
def al(d:Nat)(z:List AV):COp:=⟨some d,none,.alloc z⟩
def bx(d k:Nat)(x:Opd):COp:=⟨some d,none,.box k x⟩
@[go_sem] theorem axk(d op a b rest):aF call md (b2 d op a b::rest) s h=(dq op (s a) (s b)).bind fun a=>aF call md rest (upd s d a) h:=Pf d (.bin op (.t a) (.t b)) rest
@[go_sem] theorem axl(d k a rest):aF call md (fa d k a::rest) s h=(Cq k (s a)).bind fun a=>aF call md rest (upd s d a) h:=Pf d (.fadr k (.t a)) rest
@[go_sem] theorem axm(d a rest):aF call md (nk d a::rest) s h=(J6 (s a)).bind fun a=>aF call md rest (upd s d a) h:=Pf d (.nilck (.t a)) rest
@[go_sem] theorem axn(d k a rest):aF call md (ld d k a::rest) s h=bq (dC md.nm s (some d) (jz h k false (s a))) (aF call md rest):=θ _
@[go_sem] theorem axo(d k a rest):aF call md (la d k a::rest) s h=bq (dC md.nm s (some d) (jz h k true (s a))) (aF call md rest):=θ _
@[go_sem] theorem axp(d f zas rest):aF call md (ca d f zas::rest) s h=bq (dC md.nm s (some d) (bE call md h d (zas.map (ev s)) (.fn f [] []))) (aF call md rest):=θ _
@[go_sem] theorem axq(k x y rest):aF call md (sr k x y::rest) s h=bq (dC md.nm s none (mB h k (ev s x) (ev s y))) (aF call md rest):=θ _
@[go_sem] theorem axr(d z rest):aF call md (al d z::rest) s h=bq (dC md.nm s (some d) (nQ h d z [])) (aF call md rest):=θ _
@[go_sem] theorem axs(d k x rest):aF call md (bx d k x::rest) s h=bq (dC md.nm s (some d) (Es h d k (ev s x))) (aF call md rest):=θ _
@[go_sem] theorem ayx(d j w op rest):aF call md (⟨d,some (j,w),op⟩::rest) s h=bq (lJ d w (dC md.nm s d (step call md (d.getD 0) op s h)) s h (s j)) (aF call md rest):=θ _
@[go_sem] theorem aqZ(d z rest):aF call md (⟨some d,none,.alloc z⟩::rest) s h=bq (dC md.nm s (some d) (nQ h d z [])) (aF call md rest):=θ _
@[go_sem] theorem auO(d k x rest):aF call md (⟨some d,none,.box k x⟩::rest) s h=bq (dC md.nm s (some d) (Es h d k (ev s x))) (aF call md rest):=θ _
@[go_sem] theorem aoN(d k z n ps rest):aF call md (⟨some d,none,.buildSl k z n ps⟩::rest) s h=bq (dC md.nm s (some d) ((eU k h (ayW n z) (ps.map fun p=>(p.1,ev s p.2))).bind fun q=>cR q.2.1 d k q.1 n q.2.2)) (aF call md rest):=θ _
@[go_sem] theorem asz(d k z b l c rest):aF call md (⟨some d,none,.mkSl k z b l c⟩::rest) s h=bq (dC md.nm s (some d) ((lI (ev s l) (ev s c)).bind fun p=>if p.2*b<=140737488355328 then cR h d k (ayW p.1 z) p.1 []else none)) (aF call md rest):=θ _
@[go_sem] theorem asA(d k g x rest):aF call md (⟨some d,none,.load k g x⟩::rest) s h=bq (dC md.nm s (some d) (jz h k g (ev s x))) (aF call md rest):=θ _
@[go_sem] theorem aq0(d k x y rest):aF call md (⟨d,none,.store k x y⟩::rest) s h=bq (dC md.nm s d (mB h k (ev s x) (ev s y))) (aF call md rest):=θ _
@[go_sem] theorem auP(d k b x y rest):aF call md (⟨some d,none,.app k b x y⟩::rest) s h=bq (dC md.nm s (some d) (Nv h d k b (ev s x) (ev s y))) (aF call md rest):=θ _
@[go_sem] theorem asB(d f zas rest):aF call md (⟨some d,none,.call f zas⟩::rest) s h=bq (dC md.nm s (some d) (bE call md h d (zas.map (ev s)) (ev s f))) (aF call md rest):=θ _
@[go_sem] theorem aq1(f zas rest):aF call md (⟨none,none,.call f zas⟩::rest) s h=bq (dC md.nm s none (bE call md h 0 (zas.map (ev s)) (ev s f))) (aF call md rest):=θ _
@[go_sem] theorem asC(nm)(s d x h):dC nm s (some d) (some (x,h,[]))=some ⟨upd s d x,h⟩:=by simp only[dC,qA,if_true];rfl
@[go_sem] theorem aq2(nm)(s x h):dC nm s none (some (x,h,[]))=some ⟨s,h⟩:=by simp only[dC,qA,if_true];rfl
@[go_sem] theorem axt(d op):step call md d (.p op) s h=Et h (gY s op):=θ _
@[go_sem] theorem aq3(d k g x):step call md d (.load k g x) s h=jz h k g (ev s x):=θ _
@[go_sem] theorem aq4(d f zas):step call md d (.call f zas) s h=bE call md h d (zas.map (ev s)) (ev s f):=θ _
@[go_sem] theorem apm(d k x y):step call md d (.store k x y) s h=mB h k (ev s x) (ev s y):=θ _
@[go_sem] theorem apn(d z):step call md d (.alloc z) s h=nQ h d z []:=θ _
@[go_sem] theorem asD(d k x):step call md d (.box k x) s h=Es h d k (ev s x):=θ _
@[go_sem] theorem amJ(d k z n ps):step call md d (.buildSl k z n ps) s h=(eU k h (ayW n z) (ps.map fun p=>(p.1,ev s p.2))).bind fun q=>cR q.2.1 d k q.1 n q.2.2:=θ _
@[go_sem] theorem aq5(d k z b l c):step call md d (.mkSl k z b l c) s h=(lI (ev s l) (ev s c)).bind fun p=>if p.2*b<=140737488355328 then cR h d k (ayW p.1 z) p.1 []else none:=θ _
@[go_sem] theorem aq6(h a):Et h (some a)=some (a,h,[]):=θ _
@[go_sem] theorem apo(d st s h):lJ d true st s h (.v (.bool true))=st:=θ _
@[go_sem] theorem apq(d st s h):lJ d false st s h (.v (.bool false))=st:=θ _
@[go_sem] theorem apr(d st s h):lJ (some d) true st s h (.v (.bool false))=some ⟨upd s d .und,h⟩:=θ _
@[go_sem] theorem aps(d st s h):lJ (some d) false st s h (.v (.bool true))=some ⟨upd s d .und,h⟩:=θ _
@[go_sem] theorem aoO(d w st s h):lJ (some d) w st s h .und=some ⟨upd s d .und,h⟩:=θ _
@[go_sem] theorem ayN(s n):ev s (.t n)=s n:=θ _
@[go_sem] theorem ayO(s a):ev s (.c a)=a:=θ _
@[go_sem] theorem asE(s):evo s none=none:=θ _
@[go_sem] theorem asF(s x):evo s (some x)=some (ev s x):=θ _
@[go_sem] theorem axu{α}(s)(d)(x:α)(i):upd s d x i=if i=d then x else s i:=θ _
@[go_sem] theorem axv{α}(d)(f:Nat->α):mk d f []=fun _=>d:=θ _
@[go_sem] theorem auQ{α}(d)(f:Nat->α)(i l):mk d f (i::l)=upd (mk d f l) i (f i):=θ _
@[go_sem] theorem ayP(x):gY s (.mv x)=some (ev s x):=θ _
@[go_sem] theorem axw(c a b):gY s (.pick c a b)=LI (ev s c) (ev s a) (ev s b):=θ _
@[go_sem] theorem auR(x):gY s (.nilck x)=J6 (ev s x):=θ _
@[go_sem] theorem axx(n x):gY s (.nilq n x)=Io n (ev s x):=θ _
@[go_sem] theorem ayy(op x y):gY s (.bin op x y)=dq op (ev s x) (ev s y):=θ _
@[go_sem] theorem ayQ(op x):gY s (.un op x)=U7 op (ev s x):=θ _
@[go_sem] theorem ayR(k x):gY s (.cv k x)=cvA k (ev s x):=θ _
@[go_sem] theorem ayz(x):gY s (.cv0 x)=abq (ev s x):=θ _
@[go_sem] theorem ayA(k x lo hi mx):gY s (.slc k x lo hi mx)=dH k (ev s x) (evo s lo) (evo s hi) (evo s mx):=θ _
@[go_sem] theorem axy(x lo hi):gY s (.slcS x lo hi)=UN (ev s x) (evo s lo) (evo s hi):=θ _
@[go_sem] theorem axz(o x):gY s (.fadr o x)=Cq o (ev s x):=θ _
@[go_sem] theorem ayB(o k g x):gY s (.fld o k g x)=U9 o k g (ev s x):=θ _
@[go_sem] theorem auS(k x i):gY s (.iadrS k x i)=xR k (ev s x) (ev s i):=θ _
@[go_sem] theorem auT(n k x i):gY s (.iadrA n k x i)=Ho n k (ev s x) (ev s i):=θ _
@[go_sem] theorem axA(x i):gY s (.idxS x i)=LJ (ev s x) (ev s i):=θ _
@[go_sem] theorem axB(n k g x i):gY s (.idxA n k g x i)=LK n k g (ev s x) (ev s i):=θ _
@[go_sem] theorem ayC(i x):gY s (.ext i x)=Va i (ev s x):=θ _
@[go_sem] theorem ayD(m x):gY s (.len m x)=rh m (ev s x):=θ _
@[go_sem] theorem ayE(m t x y):gY s (.eqc m t x y)=QD m t (ev s x) (ev s y):=θ _
@[go_sem] theorem axC(x):gY s (.capp x)=QF (ev s x):=θ _
@[go_sem] theorem ayF(m x ys):gY s (.mnx m x ys)=GT m (ev s x) (ys.map (ev s)):=θ _
@[go_sem] theorem auU(z ps):gY s (.build z ps)=(zP z (ps.map fun p=>(p.1,p.2.1,ev s p.2.2))).map .agg:=θ _
@[go_sem] theorem ayG(f a b):gY s (.mkF f a b)=some (.fn f (a.map (ev s)) (b.map (ev s))):=θ _
@[go_sem] theorem aq7(a b):LI (.v (.bool true)) a b=some a:=θ _
@[go_sem] theorem apt(a b):LI (.v (.bool false)) a b=some b:=θ _
@[go_sem] theorem asG(id sub k i j):J6 (.ref id sub k i j)=some (.ref id sub k i j):=θ _
@[go_sem] theorem asH(cs):J6 (.ipt cs)=some (.ipt cs):=θ _
@[go_sem] theorem auV(f a b):J6 (.fn f a b)=some (.fn f a b):=θ _
theorem qR(op a b):dq op (.v a) (.v b)=(lB op a b).map .v:=θ _
@[go_sem] theorem auW(k a b):dq .add (.v (.int k a)) (.v (.int k b))=some (.v (.int k (k.wrap (a+b)))):=by simp[qR,lB,vo]
@[go_sem] theorem auX(k a b):dq .sub (.v (.int k a)) (.v (.int k b))=some (.v (.int k (k.wrap (a-b)))):=by simp[qR,lB,vo]
@[go_sem] theorem auY(k a b):dq .mul (.v (.int k a)) (.v (.int k b))=some (.v (.int k (k.wrap (a*b)))):=by simp[qR,lB,vo]
@[go_sem] theorem LX(k a b):dq .quo (.v (.int k a)) (.v (.int k b))=if b=0 then none else some (.v (.int k (k.wrap (a.tdiv b)))):=by simp only[qR,lB,vo,if_true];split<;>rfl
@[go_sem] theorem ww(k a b):dq .rem (.v (.int k a)) (.v (.int k b))=if b=0 then none else some (.v (.int k (a.tmod b))):=by simp only[qR,lB,vo,if_true];split<;>rfl
@[go_sem] theorem QU(k a b):dq .and (.v (.int k a)) (.v (.int k b))=some (.v (.int k (k.wrap ((BitVec.ofInt k.bits a&&&BitVec.ofInt k.bits b).toNat)))):=by simp[qR,lB,vo]
@[go_sem] theorem Pg(k a b):dq .or (.v (.int k a)) (.v (.int k b))=some (.v (.int k (k.wrap ((BitVec.ofInt k.bits a|||BitVec.ofInt k.bits b).toNat)))):=by simp[qR,lB,vo]
@[go_sem] theorem LY(k k' a b):dq .shl (.v (.int k a)) (.v (.int k' b))=if b<0 then none else some (.v (.int k (k.wrap (a*2^ (min b.toNat k.bits))))):=by simp only[qR,lB,agM];split<;>rfl
@[go_sem] theorem Hv(k k' a b):dq .shr (.v (.int k a)) (.v (.int k' b))=if b<0 then none else some (.v (.int k (a.fdiv (2^ (min b.toNat k.bits))))):=by simp only[qR,lB,agN];split<;>rfl
@[go_sem] theorem auZ(k a b):dq .lss (.v (.int k a)) (.v (.int k b))=some (B (decide (a<b))):=by simp[qR,lB,vo]
@[go_sem] theorem au0(k a b):dq .leq (.v (.int k a)) (.v (.int k b))=some (B (decide (a<=b))):=by simp[qR,lB,vo]
@[go_sem] theorem au1(k a b):dq .gtr (.v (.int k a)) (.v (.int k b))=some (B (decide (b<a))):=by simp[qR,lB,vo]
@[go_sem] theorem au2(k a b):dq .geq (.v (.int k a)) (.v (.int k b))=some (B (decide (b<=a))):=by simp[qR,lB,vo]
@[go_sem] theorem au3(k a b):dq .eql (.v (.int k a)) (.v (.int k b))=some (B (decide (a=b))):=by simp[qR,lB,vo];rfl
@[go_sem] theorem au4(k a b):dq .neq (.v (.int k a)) (.v (.int k b))=some (B (!decide (a=b))):=by simp[qR,lB,vo,bne];rfl
@[go_sem] theorem axD(k a):U7 .neg (.v (.int k a))=some (.v (.int k (k.wrap (0-a)))):=θ _
@[go_sem] theorem axE(k a):U7 .xor (.v (.int k a))=some (.v (.int k (k.wrap ((BitVec.ofInt k.bits (if k.signed then-1 else k.max)^^^BitVec.ofInt k.bits a).toNat)))):=θ _
@[go_sem] theorem au5(k a b):dq .xor (.v (.int k a)) (.v (.int k b))=some (.v (.int k (k.wrap ((BitVec.ofInt k.bits a^^^BitVec.ofInt k.bits b).toNat)))):=by simp[qR,lB,vo]
@[go_sem] theorem axF(b):U7 .not (.v (.bool b))=some (B (!b)):=θ _
@[go_sem] theorem axG(k k' n):cvA k (.v (.int k' n))=some (.v (.int k (k.wrap n))):=θ _
@[go_sem] theorem asI(o id sub k i j):Cq o (.ref id sub k i j)=some (.ref id sub k i (j+o)):=θ _
@[go_sem] theorem asJ(o cs):Cq o (.ipt cs)=some (.ipt (cs.drop o)):=θ _
@[go_sem] theorem au6(o k g cs):U9 o k g (.agg cs)=lj k g cs o:=θ _
@[go_sem] theorem aq8(k cs o):lj k false cs o=cs[o]?:=θ _
@[go_sem] theorem asK(k cs o):lj k true cs o=if o+k<=cs.length then some (.agg ((cs.drop o).take k))else none:=θ _
@[go_sem] theorem au7(k rows k' i):xR k (.sl k rows) (.v (.int k' i))=aU rows i:=by simp[xR]
@[go_sem] theorem asL(k id sub lo n k' i):xR k (.rsl id sub k lo n) (.v (.int k' i))=if 0<=i/\i<n then some (.ref id sub k (lo+i.toNat) 0)else none:=by simp[xR]
@[go_sem] theorem aq9(n k id sub k' a j kk i):Ho n k (.ref id sub k' a j) (.v (.int kk i))=if 0<=i/\i<n then some (.ref id sub k' a (j+i.toNat*k))else none:=θ _
@[go_sem] theorem ara(n k cs kk i):Ho n k (.ipt cs) (.v (.int kk i))=if 0<=i/\i<n then some (.ipt (cs.drop (i.toNat*k)))else none:=θ _
@[go_sem] theorem au8(i vs):Va i (.tup vs)=vs[i]?:=θ _
@[go_sem] theorem axH(k rows):rh false (.sl k rows)=some (I rows.length):=θ _
@[go_sem] theorem au9:rh false .emp=some (I 0):=θ _
@[go_sem] theorem ava(a b c d n):rh false (.rsl a b c d n)=some (I n):=θ _
@[go_sem] theorem avb(x):rh true (.v (.string x))=some (I x.size):=θ _
@[go_sem] theorem asM(m a):GT m a []=some a:=θ _
@[go_sem] theorem arb(m a b l):GT m a (b::l)=(QG m a b).bind fun c=>GT m c l:=θ _
@[go_sem] theorem avc(k k' x y):QG true (.v (.int k x)) (.v (.int k' y))=some (.v (.int k (if y<x then y else x))):=θ _
@[go_sem] theorem avd(k k' x y):QG false (.v (.int k x)) (.v (.int k' y))=some (.v (.int k (if x<y then y else x))):=θ _
@[go_sem] theorem asN(m a b):QD m 0 (.v (.bool a)) (.v (.bool b))=some (B (m != (a==b))):=θ _
@[go_sem] theorem arc(z):zP z []=some z:=θ _
@[go_sem] theorem apu(z o k a ps):zP z ((o,k,a)::ps)=(iP a).bind fun cs=>if cs.length=k/\o+k<=z.length then zP (setRow z o cs) ps else none:=θ _
@[go_sem] theorem ard(cs):iP (.agg cs)=some cs:=θ _
@[go_sem] theorem ave(x):iP (.v x)=some [.v x]:=θ _
@[go_sem] theorem are:iP .emp=some [.emp]:=θ _
@[go_sem] theorem asO(k r):iP (.sl k r)=some [.sl k r]:=θ _
@[go_sem] theorem arf(a b c d e):iP (.rsl a b c d e)=some [.rsl a b c d e]:=θ _
@[go_sem] theorem arg(a b c d e):iP (.ref a b c d e)=some [.ref a b c d e]:=θ _
@[go_sem] theorem asQ(f a b):iP (.fn f a b)=some [.fn f a b]:=θ _
@[go_sem] theorem apv(r j):setRow r j []=r:=θ _
@[go_sem] theorem aoP(r j c cs):setRow r j (c::cs)=setRow (r.set j c) (j+1) cs:=θ _
@[go_sem] theorem asR(h k g cs):jz h k g (.ipt cs)=(lj k g cs 0).map fun a=>(a,h,[]):=θ _
@[go_sem] theorem asS(h k g id k0 i j):jz h k g (.ref id none k0 i j)=Cs h k g id k0 i j (h id):=θ _
@[go_sem] theorem asT(h k g id p k0 i j):jz h k g (.ref id (some p) k0 i j)=pC h k g k0 i j (kQ p (h id)):=θ _
@[go_sem] theorem asU(h k g id k0 i j cs):Cs h k g id k0 i j (.bx cs)=Ip h id (i*k0+j) k g cs:=θ _
@[go_sem] theorem asV(h k g id k0 i j k' rows):Cs h k g id k0 i j (.ar k' rows)=pC h k g k0 i j (some (k',rows)):=θ _
@[go_sem] theorem asW(h k g id k0 i j k' rows):Cs h k g id k0 i j (.fz k' rows)=pC h k g k0 i j (some (k',rows)):=θ _
@[go_sem] theorem apw(h id p k cs):Ip h id p k false cs=(cs[p]?).map fun c=>(Cr id p c,h,[]):=θ _
@[go_sem] theorem arh(h id p k cs):Ip h id p k true cs=if p+k<=cs.length then(if((cs.drop p).take k).any bm then some (.agg (((cs.map jC).drop p).take k),upd h id (.bx (cs.map jC)),[(id,true)])else some (.agg ((cs.drop p).take k),h,[]))else none:=θ _
@[go_sem] theorem avf(id p x):Cr id p (.v x)=.v x:=θ _
@[go_sem] theorem ari(id p):Cr id p .emp=.emp:=θ _
@[go_sem] theorem asX(id p k r):Cr id p (.sl k r)=.sl k r:=θ _
@[go_sem] theorem arj(id p a b c d e):Cr id p (.ref a b c d e)=.ref a b c d e:=θ _
@[go_sem] theorem asY(id p f a b):Cr id p (.fn f a b)=.fn f a b:=θ _
@[go_sem] theorem ark(id p k r):Cr id p (.osl k r)=.rsl id (some p) k 0 r.length:=θ _
@[go_sem] theorem apx(h k g i j k' rows):pC h k g k' i j (some (k',rows))=(rows[i]?).bind fun row=>(lj k g row j).map fun a=>(a,h,[]):=by simp[pC]
@[go_sem] theorem avg(x):bm (.v x)=false:=θ _
@[go_sem] theorem arl:bm .emp=false:=θ _
@[go_sem] theorem asZ(k r):bm (.sl k r)=false:=θ _
@[go_sem] theorem arm(k r):bm (.osl k r)=true:=θ _
@[go_sem] theorem arn(a b c d e):bm (.ref a b c d e)=false:=θ _
@[go_sem] theorem as0(f a b):bm (.fn f a b)=false:=θ _
@[go_sem] theorem axI(x):aE (.v x)=true:=θ _
@[go_sem] theorem as1:aE .emp=true:=θ _
@[go_sem] theorem avh(k r):aE (.sl k r)=true:=θ _
@[go_sem] theorem as2(a b c d e):aE (.rsl a b c d e)=false:=θ _
@[go_sem] theorem as3(a b c d e):aE (.ref a b c d e)=false:=θ _
@[go_sem] theorem as4(f):aE (.fn f [] [])=true:=θ _
@[go_sem] theorem avi(cs):dat (.agg cs)=cs.all aE:=θ _
@[go_sem] theorem ayH(x):dat (.v x)=true:=θ _
@[go_sem] theorem avj:dat .emp=true:=θ _
@[go_sem] theorem axJ(k r):dat (.sl k r)=true:=θ _
@[go_sem] theorem avk(a b c d e):dat (.rsl a b c d e)=false:=θ _
@[go_sem] theorem avl(a b c d e):dat (.ref a b c d e)=false:=θ _
@[go_sem] theorem avm(f):dat (.fn f [] [])=true:=θ _
@[go_sem] theorem as5(h d cs ks):nQ h d cs ks=C5 h d (.ref d none 0 0 0) (.bx cs) ks (h d):=θ _
@[go_sem] theorem aro(h d a o ks):C5 h d a o ks .dead=some (a,upd h d o,ks):=θ _
@[go_sem] theorem apy(h d k rows n ks):cR h d k rows n ks=C5 h d (.rsl d none k 0 n) (.ar k rows) ks (h d):=θ _
@[go_sem] theorem axK(h d k x):Es h d k x=(iP x).bind fun xs=>if xs.length=k then(if xs.all aE then nQ h d xs []else(nQ h d (ayW k .any) []).bind (Ns d 0 xs))else none:=θ _
@[go_sem] theorem amK(k h rows):eU k h rows []=some (rows,h,[]):=θ _
@[go_sem] theorem amo(k h rows i a ps):eU k h rows ((i,a)::ps)=(iP a).bind fun cs=>if cs.length=k/\i<rows.length then(jy h cs).bind fun q=>(eU k q.2.1 (rows.set i q.1) ps).bind fun r=>some (r.1,r.2.1,q.2.2++r.2.2)else none:=θ _
@[go_sem] theorem arp(h):jy h []=some ([],h,[]):=θ _
@[go_sem] theorem apz(h a l):jy h (a::l)=(gg h a).bind fun p=>(jy p.2.1 l).bind fun q=>some (p.1::q.1,q.2.1,p.2.2++q.2.2):=θ _
@[go_sem] theorem axL(h x):gg h (.v x)=some (.v x,h,[]):=θ _
@[go_sem] theorem as6(h):gg h .emp=some (.emp,h,[]):=θ _
@[go_sem] theorem avn(h k r):gg h (.sl k r)=some (.sl k r,h,[]):=θ _
@[go_sem] theorem avo(h f):gg h (.fn f [] [])=some (.fn f [] [],h,[]):=θ _
@[go_sem] theorem as7(h id k lo n):gg h (.rsl id none k lo n)=nP h id k lo n (h id):=θ _
@[go_sem] theorem arq(h id p k lo n):gg h (.rsl id (some p) k lo n)=J7 h id p k lo n (h id):=θ _
@[go_sem] theorem avp(h id k lo n rows):nP h id k lo n (.ar k rows)=if lo+n<=rows.length then some (qz k lo n rows,upd h id (.fz k rows),[])else none:=by simp[nP]
@[go_sem] theorem avq(h id k lo n rows):nP h id k lo n (.fz k rows)=if lo+n<=rows.length then some (qz k lo n rows,h,[])else none:=by simp[nP]
@[go_sem] theorem avr(k lo n rows):qz k lo n rows=.sl k ((rows.drop lo).take n):=θ _
@[go_sem] theorem arr(h k id k0 i j x):mB h k (.ref id none k0 i j) x=(iP x).bind fun xs=>if xs.length=k then GV h k id k0 i j xs (h id)else none:=θ _
@[go_sem] theorem ars(h k id p k0 i j x):mB h k (.ref id (some p) k0 i j) x=(iP x).bind fun xs=>if xs.length=k then(jy h xs).bind fun q=>F0 q.2.1 k id p k0 i j q.1 q.2.2 (q.2.1 id)else none:=θ _
@[go_sem] theorem avs(h k id k0 i j xs cs):GV h k id k0 i j xs (.bx cs)=QH h id (i*k0+j) k xs cs:=θ _
@[go_sem] theorem avt(h k id k0 i j xs k' rows):GV h k id k0 i j xs (.ar k' rows)=(jy h xs).bind fun q=>QI q.2.1 id k k0 i j q.1 q.2.2 (q.2.1 id):=θ _
@[go_sem] theorem avu(h id k k0 i j xs ks k' rows):QI h id k k0 i j xs ks (.ar k' rows)=(su k k0 i j xs k' rows).map fun q=>(.und,upd h id (.ar k' q),ks):=θ _
@[go_sem] theorem avv(k k0 i j cs rows):su k k0 i j cs k0 rows=(rows[i]?).bind fun row=>if j+k<=row.length then some (rows.set i (setRow row j cs))else none:=by simp[su]
@[go_sem] theorem avw(h id p k xs cs):QH h id p k xs cs=if p+k<=cs.length then(if xs.all aE then some (.und,upd h id (.bx (setRow cs p xs)),if((cs.drop p).take k).any bm then [(id,true)]else [])else(th h id p xs.length xs).map fun q=>(.und,q.1,q.2))else none:=θ _
@[go_sem] theorem avx(hs x):gS hs (.v x)=.v x:=θ _
@[go_sem] theorem art(hs):gS hs .emp=.emp:=θ _
@[go_sem] theorem as8(hs k r):gS hs (.sl k r)=.sl k r:=θ _
@[go_sem] theorem aru(hs):gS hs .any=.any:=θ _
@[go_sem] theorem arv(hs cs):gS hs (.ipt cs)=.ipt cs:=θ _
@[go_sem] theorem arw(hs id sub k lo n):gS hs (.rsl id sub k lo n)=if hs.contains id then .rsl id sub k lo n else .any:=θ _
@[go_sem] theorem arx(hs id sub k lo n):gS hs (.ref id sub k lo n)=if hs.contains id then .ref id sub k lo n else .any:=θ _
@[go_sem] theorem ary(hs cs):gS hs (.agg cs)=if cs.all (knownL hs)then .agg cs else .any:=θ _
@[go_sem] theorem arz(hs f):gS hs (.fn f [] [])=.fn f [] []:=θ _
@[go_sem] theorem as9(hs f a b):gS hs (.fn f a b)=if a.all (knownL hs)&&b.all (knownL hs)then .fn f a b else .any:=θ _
@[go_sem] theorem ata(hs x):knownL hs (.v x)=true:=θ _
@[go_sem] theorem apA(hs):knownL hs .emp=true:=θ _
@[go_sem] theorem arA(hs k r):knownL hs (.sl k r)=true:=θ _
@[go_sem] theorem apB(hs id a b c d):knownL hs (.ref id a b c d)=hs.contains id:=θ _
@[go_sem] theorem amL(hs):aA hs .dead=true:=θ _
@[go_sem] theorem apC(hs k r):aA hs (.ar k r)=true:=θ _
@[go_sem] theorem apD(hs k r):aA hs (.fz k r)=true:=θ _
@[go_sem] theorem apE(hs cs):aA hs (.bx cs)=cs.all (jk hs):=θ _
@[go_sem] theorem arB(hs x):jk hs (.v x)=true:=θ _
@[go_sem] theorem aoQ(hs):jk hs .emp=true:=θ _
@[go_sem] theorem apF(hs k r):jk hs (.sl k r)=true:=θ _
@[go_sem] theorem aoR(hs k r):jk hs (.osl k r)=true:=θ _
@[go_sem] theorem aoS(hs id a b c):jk hs (.ref id none a b c)=hs.contains id:=by simp[jk,bm,aZ,bo]
@[go_sem] theorem aoT(hs f):jk hs (.fn f [] [])=true:=θ _
@[go_sem] theorem apG{α β:Type}(f:α->β)(a):Option.map f (some a)=some (f a):=θ _
@[go_sem] theorem apH{α β:Type}(f:α->β):Option.map f none=none:=θ _
@[go_sem] theorem aoU{α β:Type}(f:α->Option β)(a):(some a).bind f=f a:=θ _
@[go_sem] theorem aoV{α β:Type}(f:α->Option β):none.bind f=none:=θ _
@[go_sem] theorem aoW{α:Type}(a b:α):(some a).getD b=a:=θ _
@[go_sem] theorem arC{α:Type}(p:α->Bool):[].all p=true:=θ _
@[go_sem] theorem apI{α:Type}(p:α->Bool)(a l):(a::l).all p=(p a&&l.all p):=θ _
@[go_sem] theorem arD{α:Type}(p:α->Bool):[].any p=false:=θ _
@[go_sem] theorem apJ{α:Type}(p:α->Bool)(a l):(a::l).any p=(p a||l.any p):=θ _
@[go_sem] theorem apK{α:Type}(a:α)(l):(a::l)[0]?=some a:=θ _
@[go_sem] theorem apL{α:Type}(a:α)(l)(n):(a::l)[n+1]?=l[n]?:=θ _
@[go_sem] theorem arE{α β:Type}(f:α->β):[].map f=[]:=θ _
@[go_sem] theorem apM{α β:Type}(f:α->β)(a l):(a::l).map f=f a::l.map f:=θ _
@[go_sem] theorem atb{α β:Type}(f:α->List β):[].flatMap f=[]:=θ _
@[go_sem] theorem arF{α β:Type}(f:α->List β)(a l):(a::l).flatMap f=f a++l.flatMap f:=θ _
@[go_sem] theorem arG{α:Type}(l:List α):l++[]=l:=azb l
@[go_sem] theorem arH{α:Type}(l:List α):[]++l=l:=θ _
@[go_sem] theorem apN{α:Type}(a:α)(l r):(a::l)++r=a::(l++r):=θ _
@[go_sem] theorem arI{α:Type}:([]:List α).length=0:=θ _
@[go_sem] theorem apO{α:Type}(a:α)(l):(a::l).length=l.length+1:=θ _
@[go_sem] theorem aoX{α:Type}(l:List α):l.drop 0=l:=θ _
@[go_sem] theorem aoY{α:Type}(a:α)(l)(n):(a::l).drop (n+1)=l.drop n:=θ _
@[go_sem] theorem aoZ{α:Type}(l:List α):l.take 0=[]:=θ _
@[go_sem] theorem ao0{α:Type}(a:α)(l)(n):(a::l).take (n+1)=a::l.take n:=θ _
@[go_sem] theorem amM{α:Type}(p:α->Bool):[].filter p=[]:=θ _
@[go_sem] theorem apP{α:Type}(a b:α)(l):(a::l).set 0 b=b::l:=θ _
@[go_sem] theorem apQ{α:Type}(a b:α)(l)(n):(a::l).set (n+1) b=a::l.set n b:=θ _
@[go_sem] theorem axM{α:Type}(a:α):ayW 0 a=[]:=θ _
@[go_sem] theorem axN{α:Type}(a:α):ayW 1 a=[a]:=θ _
@[go_sem] theorem axO{α:Type}(a:α):ayW 2 a=[a,a]:=θ _
@[go_sem] theorem axP{α:Type}(a:α):ayW 3 a=[a,a,a]:=θ _
@[go_sem] theorem axQ{α:Type}(a:α):ayW 4 a=[a,a,a,a]:=θ _
@[go_sem] theorem axR{α:Type}(a:α):ayW 5 a=[a,a,a,a,a]:=θ _
@[go_sem] theorem ayS:decide True=true:=θ _
@[go_sem] theorem ayT:decide False=false:=θ _
@[go_sem] theorem avy(b):(true&&b)=b:=θ _
@[go_sem] theorem avz(b):(false&&b)=false:=θ _
@[go_sem] theorem axS(b):(true||b)=true:=θ _
@[go_sem] theorem axT(b):(false||b)=b:=θ _
@[go_sem] theorem avA:(!true)=false:=θ _
@[go_sem] theorem avB:(!false)=true:=θ _
@[go_sem] theorem avC(b):(b&&true)=b:=az1 b
@[go_sem] theorem ayU:(false=true)=False:=σ
@[go_sem] theorem ayI{α:Type}(a:α):(a=a)=True:=σ
@[go_sem] theorem axU(p):(True/\p)=p:=σ
@[go_sem] theorem avD(p):(p/\True)=p:=σ
@[go_sem] theorem axV(p):(False/\p)=False:=σ
@[go_sem] theorem axW:(¬False)=True:=σ
@[go_sem] theorem axX:(¬True)=False:=σ
@[go_sem] theorem atc(nm rs res n t):je nm rs res n (some (.ret,t))=Eu nm rs res n t.s t.h:=θ _
@[go_sem] theorem ao1(nm rs res n t):je nm rs res n (some (.normal,t))=Eu nm rs res n t.s t.h:=θ _
@[go_sem] theorem arJ(nm rs res n s h):Eu nm rs res n s h=(Cv s h res).bind fun q=>if sx nm q.2.2 then uv rs n q.2.1 q.1 else none:=θ _
@[go_sem] theorem axY(nm):sx nm []=true:=qA nm
@[go_sem] theorem arK(s h):Cv s h []=some ([],h,[]):=θ _
@[go_sem] theorem avE(s h n l):Cv s h (.t n::l)=(Cv s h l).bind fun q=>some (Vm q.2.2 (s n)::q.1,q.2.1,q.2.2):=θ _
@[go_sem] theorem apR(s h n k g l):Cv s h (.cell n k g::l)=(jz h k g (s n)).bind fun p=>(Cv (kP p.2.2 s) p.2.1 l).bind fun q=>some (Vm q.2.2 p.1::q.1,q.2.1,p.2.2++q.2.2):=θ _
@[go_sem] theorem atd(a):Vm [] a=a:=θ _
@[go_sem] theorem arL(s):kP [] s=s:=θ _
@[go_sem] theorem axZ(rs h vs):uv rs 0 h vs=if kH ((vs.flatMap cr).filter fun i=>!bk i)then(uH h vs).map fun us=>(uI (bp rs us),[])else none:=by simp[uv,de]
@[go_sem] theorem arM(h):uH h []=some []:=θ _
@[go_sem] theorem apS(h a l):uH h (a::l)=(sB h a).bind fun b=>(uH h l).bind fun q=>some (b::q):=θ _
@[go_sem] theorem ax0(h x):sB h (.v x)=some (.v x):=θ _
@[go_sem] theorem ate(h):sB h .emp=some .emp:=θ _
@[go_sem] theorem avF(h k r):sB h (.sl k r)=some (.sl k r):=θ _
@[go_sem] theorem atf(h cs):sB h (.agg cs)=(mT h cs).map .agg:=θ _
@[go_sem] theorem atg(h id k lo n):sB h (.rsl id none k lo n)=if bk id then none else C7 k lo n (h id):=θ _
@[go_sem] theorem avG(k lo n rows):C7 k lo n (.ar k rows)=if lo+n<=rows.length then(if lo=0/\n=rows.length then some (.osl k rows)else some (qz k lo n rows))else none:=by simp[C7]
@[go_sem] theorem avH(k lo n rows):C7 k lo n (.fz k rows)=if lo+n<=rows.length then some (qz k lo n rows)else none:=by simp[C7]
@[go_sem] theorem arN(h):mT h []=some []:=θ _
@[go_sem] theorem avI(h x l):mT h (.v x::l)=(mT h l).bind fun q=>some (.v x::q):=θ _
@[go_sem] theorem arO(h l):mT h (.emp::l)=(mT h l).bind fun q=>some (.emp::q):=θ _
@[go_sem] theorem ath(h k r l):mT h (.sl k r::l)=(mT h l).bind fun q=>some (.sl k r::q):=θ _
@[go_sem] theorem arP(h id k lo n l):mT h (.rsl id none k lo n::l)=(mS h (.rsl id none k lo n)).bind fun b=>(C8 b).bind fun c=>(mT h l).bind fun q=>some (c::q):=θ _
@[go_sem] theorem ati(h id k lo n):mS h (.rsl id none k lo n)=if bk id then none else C7 k lo n (h id):=θ _
@[go_sem] theorem atj(k r):C8 (.osl k r)=some (.sl k r):=θ _
@[go_sem] theorem avJ(k r):C8 (.sl k r)=some (.sl k r):=θ _
@[go_sem] theorem avK(a):uI [a]=a:=θ _
@[go_sem] theorem avL(a b l):uI (a::b::l)=.tup (a::b::l):=θ _
@[go_sem] theorem avM:uI []=.tup []:=θ _
@[go_sem] theorem arQ(l):bp [] l=l:=by cases l<;>simp[bp]
@[go_sem] theorem apT(s):bp s []=[]:=by cases s<;>simp[bp]
@[go_sem] theorem apU(s ss a l):bp (s::ss) (a::l)=nrmV s a::bp ss l:=θ _
@[go_sem] theorem ahc(a):nrmV [] a=a:=by cases a<;>simp[nrmV,nrmL,dY]
@[go_sem] theorem atk(ss cs):nrmV ss (.agg cs)=.agg (dY ss cs):=θ _
@[go_sem] theorem ax1(ss x):nrmV ss (.v x)=.v x:=by
 show nrmL _ _=_;generalize ss.headD (.o 0 [])=s;obtain⟨k,cs⟩:=s;cases k<;>simp[nrmL]
@[go_sem] theorem atl(k cs ss):nrmV (.o (k+1) cs::ss) .emp=.sl k []:=by simp[nrmV,nrmL]
@[go_sem] theorem avN(k cs ss k' rows):nrmV (.o (k+1) cs::ss) (.sl k' rows)=.sl k' (rows.map (dY cs)):=by simp[nrmV,nrmL]
@[go_sem] theorem atn(k cs ss k' rows):nrmV (.o (k+1) cs::ss) (.osl k' rows)=.sl k' (rows.map (dY cs)):=by simp[nrmV,nrmL]
@[go_sem] theorem V6(l):dY [] l=l:=by cases l<;>simp[dY]
@[go_sem] theorem arR(l):dY l []=[]:=by cases l<;>simp[dY]
@[go_sem] theorem arS(s ss a l):dY (s::ss) (a::l)=nrmL s a::dY ss l:=by simp[dY]
@[go_sem] theorem ax2(cs a):nrmL (.o 0 cs) a=a:=by simp[nrmL]
@[go_sem] theorem ato(k cs):nrmL (.o (k+1) cs) .emp=.sl k []:=by simp[nrmL]
@[go_sem] theorem avO(k cs k' rows):nrmL (.o (k+1) cs) (.sl k' rows)=.sl k' (rows.map (dY cs)):=by simp[nrmL]
@[go_sem] theorem ax3(k cs x):nrmL (.o k cs) (.v x)=.v x:=by cases k<;>simp[nrmL]
@[go_sem] theorem ax4(x):cr (.v x)=[]:=θ _
@[go_sem] theorem atp:cr .emp=[]:=θ _
@[go_sem] theorem avP(k r):cr (.sl k r)=[]:=θ _
@[go_sem] theorem atq(cs):cr (.agg cs)=cs.flatMap fP:=θ _
@[go_sem] theorem atr(a b c d e):cr (.rsl a b c d e)=[a]:=θ _
@[go_sem] theorem ax5(x):fP (.v x)=[]:=θ _
@[go_sem] theorem ats:fP .emp=[]:=θ _
@[go_sem] theorem avQ(k r):fP (.sl k r)=[]:=θ _
@[go_sem] theorem att(a b c d e):fP (.rsl a b c d e)=[a]:=θ _
@[go_sem] theorem apV:kH []=true:=θ _
@[go_sem] theorem apW(a):kH [a]=true:=θ _
@[go_sem] theorem avR(args i):uw args i=(args[i]?).getD .any:=θ _
@[go_sem] theorem acm:am []=fun _=>.dead:=by funext i;simp[am]
@[go_sem] theorem arT(i):bk i=decide (1000<=i/\i<2000):=θ _
def lM(h:ac)(d:Nat):Option (AV×List Ob)->Option R3
 |some (r,[])=>if cF r<=8/\cB h (2000+8*d) (cF r)=true/\jJ [] r=true then some ((mat (2000+8*d) h r).1,(mat (2000+8*d) h r).2,[])else none
 |_=>none
theorem lP{c}{ids}{n}(hn:2000<=n)(hc:bo [] c=true\/(∃k lo m,c=.rsl n none k lo m)\/∃k i j,c=.ref n none k i j):kr (dL ids) c=c:=by
 have hb:dL ids n=n:=by unfold dL;rw[if_neg ω]
 rcases hc with hc| ⟨k,lo,m,rfl⟩| ⟨k,i,j,rfl⟩
 ·cases c<;>simp[bo]at hc<;>rfl
 ·simp[kr,hb]
 ·simp[kr,hb]
theorem Tf{r}{n}(hn:2000<=n)(h)(ids)(hr:fC [] r=true):dS (dL ids) (dU n h r).1=(dU n h r).1:=by
 cases r<;>simp only[fC]at hr<;>simp only[dU]
 case osl=>simp only[dS];exact lP hn (.inr (.inl ⟨_,_,_,rfl⟩))
 case obx=>simp only[dS];exact lP hn (.inr (.inr ⟨_,_,_,rfl⟩))
 case agg cs=>
  simp only[aZ,azk]at hr;simp only[dS,AV.agg.injEq];exact(azy (g:=fun c=>c) fun c hc=>lP hn (.inl (hr c hc))).trans (azN cs)
 case fn f x y=>
  simp only[aZ,ay1,azk]at hr;simp only[dS,AV.fn.injEq,true_and];exact⟨(azy (g:=fun c=>c) fun c hc=>lP hn (.inl (hr.1 c hc))).trans (azN x),(azy (g:=fun c=>c) fun c hc=>lP hn (.inl (hr.2 c hc))).trans (azN y)⟩
 all_goals
  simp only[dS];exact lP hn (.inl hr)
theorem Tg(ids):∀ {l} {n} {h},2000<=n->l.all (fC [])=true->(cT n h l).1.map (dS (dL ids))=(cT n h l).1
 |[],n,h,_,_=>rfl
 |c::l,n,h,hn,hr=>by
  simp only[azm,ay1]at hr;simp only[cT,azv];rw[Tf hn h ids hr.1,Tg ids ω hr.2]
theorem ahd{r}{n}(hn:2000<=n)(h)(ids)(hr:jJ [] r=true):GW (dL ids) (mat n h r).1=(mat n h r).1:=by
 cases r with
 |tup vs=>
  simp only[jJ]at hr;simp only[mat,GW,AV.tup.injEq];exact Tg ids hn hr
 |_=>
  simp only[jJ]at hr;have:=Tf hn h ids hr;simp only[mat];simp only[dU]at this⊢;exact this
theorem Th:∀l,sv [] l=[]
 |[]=>rfl
 |a::l=>by simp[sv,Th l]
theorem CP{f}{args}(d)(hm:md.m f=[])(hd:args.all dat=true):bE call md h d args (.fn f [] [])=lM h d (call f (bp (md.sh f) args) []):=by
 have hin:=by
  have:∀l,l.all dat=true->bS h [] l=some (l,h,[]):=by
   intro l;induction l with
   |nil=>intro _;rfl
   |cons a l ih=>
    intro hd;simp only[azm,ay1]at hd;have ha:dE h 0 a=some (a,h,[]):=by
     have h1:=hd.1;by_cases hagg:∃cs,a=.agg cs
     ·obtain⟨cs,rfl⟩:=hagg;simp only[dat]at h1;simp only[dE,xg];rw[ng h1 h];rfl
     ·have h2:aE a=true:=by cases a<;>first|exact h1|exact absurd ⟨_,rfl⟩ hagg
      cases a<;>first| (simp[aE]at h2;done)|rfl|skip
    simp only[bS,List.headD_nil,ha,ay2,List.tail_nil,ih hd.2,azb]
  exact this args hd
 have hids:args.flatMap cr=[]:=by
  rw[List.flatMap_eq_nil_iff];exact fun c hc=>VB (List.all_eq_true.1 hd c hc)
 have hren:(bp (md.sh f) args).map (dS (bj []))=bp (md.sh f) args/\(bp (md.sh f) args).all (aZ [])=true:=by
  have key:∀c∈bp (md.sh f) args,dat c=true:=by
   intro c hc;obtain⟨i,hi⟩:=List.getElem?_of_mem hc;obtain⟨c0,h1,h2⟩:=zk _ _ _ _ hi;have h0:=List.all_eq_true.1 hd c0 (List.mem_of_getElem? h1);rcases h2 with rfl| ⟨ss,rfl⟩
   ·exact h0
   ·cases c0<;>simp only[dat]at h0<;>simp only[nrmV,dat]<;>try (have:=EF (s:=ss.headD (.o 0 [])) h0;revert this;generalize nrmL _ _=q;intro this;cases q<;>first|exact this|simp[aE]at this)
    rename_i cs;rw[azk];intro c hc;obtain⟨i,hi⟩:=List.getElem?_of_mem hc;obtain⟨c0,h1,h2⟩:=EE _ _ _ _ hi;have h3:=List.all_eq_true.1 h0 c0 (List.mem_of_getElem? h1);rcases h2 with rfl| ⟨s,rfl⟩
    ·exact h3
    ·exact EF h3
  refine⟨(azy (g:=fun c=>c) fun c hc=>?_).trans (azN _),?_⟩
  ·have:=key c hc;cases c<;>simp only[dat]at this<;>first|rfl|skip
   all_goals first
    | (simp[aE]at this;done)
    |skip
   ·rename_i cs;simp only[dS,AV.agg.injEq];refine(azy (g:=fun c=>c) fun c hc=>?_).trans (azN cs);have h3:=List.all_eq_true.1 this c hc;cases c<;>simp[aE]at h3<;>rfl
   ·rename_i g x y;simp[aE]at this;obtain⟨rfl,rfl⟩:=this;rfl
  ·rw[azk];intro c hc;have:=key c hc;cases c<;>simp only[dat]at this<;>first|rfl|skip
   all_goals first
    | (simp[aE]at this;done)
    |skip
   ·rename_i cs;simp only[aZ,azk];intro c hc;have h3:=List.all_eq_true.1 this c hc;cases c<;>simp[aE]at h3<;>simp[bo,h3]
   ·rename_i g x y;simp[aE]at this;obtain⟨rfl,rfl⟩:=this;rfl
 unfold bE;rw[if_neg (by simp[kt,hm])];simp only[dV,ay8,azb,ay2,bA,SZ,jK,hren.2,azX,azs,if_true,hren.1,azF,Th, *];cases hr:call f (bp (md.sh f) args) []with
 |none=>rfl
 |some q=>
  obtain⟨r,os⟩:=q;cases os with
  |cons o os=>simp only[ay2,eG,lM];simp
  |nil=>
   simp only[ay2,eG,lM,azx,azH,true_and,cU,mQ,Bp,azX,ay5,az1,F3,de,List.range'_zero,ej,fT];by_cases hc:cF r<=8/\cB h (2000+8*d) (cF r)=true/\jJ [] r=true
   ·rw[if_pos hc,if_pos hc,ahd ω h [] hc.2.2];simp
   ·rw[if_neg hc,if_neg hc]
def IJ(call:iD)(md:Mode)(d:Nat)(f:FuncId)(p:List AV×ac×K):Option R3:=
 jK call md p.2.1 d f (ce p.2.1 40 (bA [] (p.1.flatMap cr)) 0) (bp (md.sh f) p.1) p.2.2
theorem IK{f}{args}(d)(hm:md.m f=[]):bE call md h d args (.fn f [] [])=(bS h [] args).bind (IJ call md d f):=by
 unfold bE;rw[if_neg (by simp[kt,hm])];simp only[dV,hm,ay8,azb];rfl
@[go_sem] theorem arU{f}{zs}(d)(hm:md.m f=[])(hd:zs.all dat=true):IJ call md d f (zs,h,[])=lM h d (call f (bp (md.sh f) zs) []):=by
 rw[←CP d hm hd,IK d hm];have hin:∀l,l.all dat=true->bS h [] l=some (l,h,[]):=by
  intro l;induction l with
  |nil=>intro _;rfl
  |cons a l ih=>
   intro hd;simp only[azm,ay1]at hd;have ha:dE h 0 a=some (a,h,[]):=by
    have h1:=hd.1;by_cases hagg:∃cs,a=.agg cs
    ·obtain⟨cs,rfl⟩:=hagg;simp only[dat]at h1;simp only[dE,xg];rw[ng h1 h];rfl
    ·have h2:aE a=true:=by cases a<;>first|exact h1|exact absurd ⟨_,rfl⟩ hagg
     cases a<;>first| (simp[aE]at h2;done)|rfl|skip
   simp only[bS,List.headD_nil,ha,ay2,List.tail_nil,ih hd.2,azb]
 rw[hin zs hd];rfl
@[go_sem] theorem apX(h):bS h [] []=some ([],h,[]):=θ _
@[go_sem] theorem ao2(h a l):bS h [] (a::l)=(dE h 0 a).bind fun p=>(bS p.2.1 [] l).bind fun q=>some (p.1::q.1,q.2.1,p.2.2++q.2.2):=θ _
@[go_sem] theorem avS(h x):dE h 0 (.v x)=some (.v x,h,[]):=θ _
@[go_sem] theorem arV(h):dE h 0 .emp=some (.emp,h,[]):=θ _
@[go_sem] theorem atu(h k r):dE h 0 (.sl k r)=some (.sl k r,h,[]):=θ _
@[go_sem] theorem atv(h f a b):dE h 0 (.fn f a b)=some (.fn f a b,h,[]):=θ _
@[go_sem] theorem arW(h a b c d):dE h 0 (.ref a none b c d)=some (.ref a none b c d,h,[]):=θ _
@[go_sem] theorem arX(h cs):dE h 0 (.ipt cs)=some (.ipt cs,h,[]):=θ _
@[go_sem] theorem arY(h id k lo n):dE h 0 (.rsl id none k lo n)=nP h id k lo n (h id):=θ _
@[go_sem] theorem apY(h id p k lo n):dE h 0 (.rsl id (some p) k lo n)=J7 h id p k lo n (h id):=θ _
@[go_sem] theorem arZ(h cs):dE h 0 (.agg cs)=(jy h cs).bind fun p=>some (.agg p.1,p.2):=θ _
@[go_sem] theorem avT(h d x):lM h d (some (.v x,[]))=if cB h (2000+8*d) 1=true then some (.v x,h,[])else none:=by
 simp[lM,cF,jJ,fC,aZ,bo,mat,dU]
@[go_sem] theorem ahe(h d k r):lM h d (some (.sl k r,[]))=if cB h (2000+8*d) 1=true then some (.sl k r,h,[])else none:=by
 simp[lM,cF,jJ,fC,aZ,bo,mat,dU]
@[go_sem] theorem ar0(h d cs)(hd:cs.all aE=true):lM h d (some (.agg cs,[]))=if cB h (2000+8*d) 1=true then some (.agg cs,h,[])else none:=by
 have:cs.all (bo [])=true:=by
  rw[azk]at hd⊢;intro c hc;have:=hd c hc;cases c<;>simp[aE]at this<;>simp[bo,this]
 simp only[lM,cF,jJ,fC,aZ,mat,dU,this,and_true];simp
@[go_sem] theorem ar1(h d vs)(h8:vs.length<=8)(hd:vs.all dat=true):lM h d (some (.tup vs,[]))=if cB h (2000+8*d) vs.length=true then some (.tup vs,h,[])else none:=by
 have h1:vs.all (fC [])=true:=by
  rw[azk]at hd⊢;intro c hc;have:=hd c hc;cases c<;>simp only[dat]at this<;>simp only[fC,aZ]<;>try (simp[aE]at this<;>simp[bo,this];done)
  rename_i cs;rw[azk]at this⊢;intro c hc;have:=this c hc;cases c<;>simp[aE]at this<;>simp[bo,this]
 have h2:∀l n g,l.all dat=true->cT n g l=(l,g):=by
  intro l;induction l with
  |nil=>intro n g _;rfl
  |cons c l ih=>
   intro n g hd;simp only[azm,ay1]at hd;have hc:dU n g c=(c,g):=by
    have:=hd.1;cases c<;>simp only[dat,aE]at this<;>first|rfl| (cases this;done)
   simp only[cT,hc,ih _ _ hd.2]
 simp only[lM,cF,jJ,mat,h2 vs _ _ hd,true_and,and_true, *]
@[go_sem] theorem ar2(h d k r):lM h d (some (.osl k r,[]))=if cB h (2000+8*d) 1=true then some (.rsl (2000+8*d) none k 0 r.length,upd h (2000+8*d) (.ar k r),[])else none:=by
 simp[lM,cF,jJ,fC,mat,dU]
@[go_sem] theorem apZ(h n):cB h n 0=true:=θ _
@[go_sem] theorem ap0(h n m):cB h n (m+1)=(bY (h n)&&cB h (n+1) m):=θ _
@[go_sem] theorem ao3:bY .dead=true:=θ _
def df(call:iD)(md:Mode)(ps:List (Nat×Nat)):List Fp->List COp->ai->ac->Option St
 |acc,[],s,h=>if ps.all (zf acc)=true then some ⟨s,h⟩else none
 |acc,o::rest,s,h=>(eN call md o s h).bind fun r=>df call md ps (acc++[r.2]) rest r.1.s r.1.h
theorem ZU(ps):∀l acc s h,df call md ps acc l s h=(iQ call md l s h).bind fun r=>if ps.all (zf (acc++r.2))=true then some r.1 else none
 |[],acc,s,h=>by simp only[df,iQ,ay2,azb]
 |o::l,acc,s,h=>by
  simp only[df,iQ];cases eN call md o s h with
  |none=>rfl
  |some r=>
   simp only[ay2];rw[ZU ps l];cases iQ call md l r.1.s r.1.h with
   |none=>rfl
   |some q=>simp only[ay2,azB,List.singleton_append]
@[go_sem] theorem ar3:Cu []=none:=θ _
@[go_sem] theorem ap1(p g l):Cu ((p,g)::l)=if 1000000<=p then some (p-1000000,g)else none:=θ _
theorem V7(l ps):CH call md l ps s h=df call md ps [] l s h:=by
 rw[ZU];rfl
theorem ajW(ps)(l)(h0:Cu ps=none):sz call md l ps s h=df call md ps [] l s h:=by
 unfold sz;rw[h0];exact V7 l ps
def ahf(call:iD)(md:Mode)(m g:Nat)(ps:List (Nat×Nat))(l:List COp)(s:ai)(h:ac):Option St:=
 bq (df call md ps [] (l.take m) s h) fun s h=>bq (uG md.nm g s h) (aF call md (l.drop m))
@[go_sem] theorem atw(l ps):sz call md l ps s h=match Cu ps with
  |some q=>ahf call md q.1 q.2 ps.tail l s h
  |none=>df call md ps [] l s h:=by
 cases hb:Cu ps with
 |none=>exact ajW ps l hb
 |some q=>
  unfold sz;rw[hb];simp only[ahf,Iq];rw[←V7 _ _,CH];cases iQ call md (l.take q.1) s h with
  |none=>rfl
  |some r=>
   simp only[ay2];split<;>rfl
def jA(call:iD)(md:Mode)(ps:List (Nat×Nat))(acc:List Fp)(rest:List COp)(s:ai)(d:Option Nat)(f:ac->Fp):Option R3->Option St
 |some (x,h,[])=>df call md ps (acc++[f h]) rest (gh s d x) h
 |_=>none
theorem eK(ps acc)(o)(rest)(hg:o.g=none):df call md ps acc (o::rest) s h=jA call md ps acc rest s o.d (gR (o.d.getD 0) o.op s h) (step call md (o.d.getD 0) o.op s h):=by
 simp only[df,eN,hg,oL];cases step call md (o.d.getD 0) o.op s h with
 |none=>rfl
 |some r=>
  obtain⟨x,h',ks⟩:=r;cases ks<;>rfl
@[go_sem] theorem atx(ps acc):df call md ps acc [] s h=if ps.all (zf acc)=true then some ⟨s,h⟩else none:=θ _
@[go_sem] theorem LZ(ps acc d op rest):df call md ps acc (co d op::rest) s h=(gY s op).bind fun a=>df call md ps (acc++[some ([],[])]) rest (upd s d a) h:=by
 rw[eK _ _ _ _ rfl];simp only[co,step,Et];cases gY s op<;>rfl
@[go_sem] theorem avU(ps acc d n rest):df call md ps acc (cm d n::rest) s h=df call md ps (acc++[some ([],[])]) rest (upd s d (s n)) h:=LZ ps acc d (.mv (.t n)) rest
@[go_sem] theorem ar4(ps acc d k g x rest):df call md ps acc (⟨some d,none,.load k g x⟩::rest) s h=jA call md ps acc rest s (some d) (fun _=>vz (ev s x)) (jz h k g (ev s x)):=eK _ _ _ _ rfl
@[go_sem] theorem ap2(ps acc d k x y rest):df call md ps acc (⟨d,none,.store k x y⟩::rest) s h=jA call md ps acc rest s d (fun _=>Ct (ev s y) (ev s x)) (mB h k (ev s x) (ev s y)):=eK _ _ _ _ rfl
@[go_sem] theorem ar5(ps acc d f zas rest):df call md ps acc (⟨some d,none,.call f zas⟩::rest) s h=jA call md ps acc rest s (some d) (jL h d (pE (zas.map (ev s)) (ev s f))) (bE call md h d (zas.map (ev s)) (ev s f)):=eK _ _ _ _ rfl
@[go_sem] theorem ap3(ps acc d z rest):df call md ps acc (⟨some d,none,.alloc z⟩::rest) s h=jA call md ps acc rest s (some d) (fun _=>some ([],[dF d])) (nQ h d z []):=eK _ _ _ _ rfl
@[go_sem] theorem aty(ps acc d k x rest):df call md ps acc (⟨some d,none,.box k x⟩::rest) s h=jA call md ps acc rest s (some d) (fun _=>if dat (ev s x)=true then some ([],[dF d])else none) (Es h d k (ev s x)):=eK _ _ _ _ rfl
@[go_sem] theorem amN(ps acc d k z n qs rest):df call md ps acc (⟨some d,none,.buildSl k z n qs⟩::rest) s h=jA call md ps acc rest s (some d) (fun _=>if(qs.all fun p=>dat (ev s p.2))=true then some ([],[dF d])else none) ((eU k h (ayW n z) (qs.map fun p=>(p.1,ev s p.2))).bind fun q=>cR q.2.1 d k q.1 n q.2.2):=eK _ _ _ _ rfl
@[go_sem] theorem avV(ps acc d op a b rest):df call md ps acc (b2 d op a b::rest) s h=(dq op (s a) (s b)).bind fun a=>df call md ps (acc++[some ([],[])]) rest (upd s d a) h:=LZ ps acc d (.bin op (.t a) (.t b)) rest
@[go_sem] theorem avW(ps acc d k a rest):df call md ps acc (fa d k a::rest) s h=(Cq k (s a)).bind fun a=>df call md ps (acc++[some ([],[])]) rest (upd s d a) h:=LZ ps acc d (.fadr k (.t a)) rest
@[go_sem] theorem avX(ps acc d a rest):df call md ps acc (nk d a::rest) s h=(J6 (s a)).bind fun a=>df call md ps (acc++[some ([],[])]) rest (upd s d a) h:=LZ ps acc d (.nilck (.t a)) rest
@[go_sem] theorem avY(ps acc d k a rest):df call md ps acc (ld d k a::rest) s h=jA call md ps acc rest s (some d) (fun _=>vz (s a)) (jz h k false (s a)):=eK _ _ _ _ rfl
@[go_sem] theorem avZ(ps acc d k a rest):df call md ps acc (la d k a::rest) s h=jA call md ps acc rest s (some d) (fun _=>vz (s a)) (jz h k true (s a)):=eK _ _ _ _ rfl
@[go_sem] theorem av0(ps acc d f zas rest):df call md ps acc (ca d f zas::rest) s h=jA call md ps acc rest s (some d) (jL h d (pE (zas.map (ev s)) (.fn f [] []))) (bE call md h d (zas.map (ev s)) (.fn f [] [])):=eK _ _ _ _ rfl
@[go_sem] theorem av1(ps acc k x y rest):df call md ps acc (sr k x y::rest) s h=jA call md ps acc rest s none (fun _=>Ct (ev s y) (ev s x)) (mB h k (ev s x) (ev s y)):=eK _ _ _ _ rfl
@[go_sem] theorem av2(ps acc d z rest):df call md ps acc (al d z::rest) s h=jA call md ps acc rest s (some d) (fun _=>some ([],[dF d])) (nQ h d z []):=eK _ _ _ _ rfl
@[go_sem] theorem av3(ps acc d k x rest):df call md ps acc (bx d k x::rest) s h=jA call md ps acc rest s (some d) (fun _=>if dat (ev s x)=true then some ([],[dF d])else none) (Es h d k (ev s x)):=eK _ _ _ _ rfl
@[go_sem] theorem ar6(ps acc rest s d f x h):jA call md ps acc rest s (some d) f (some (x,h,[]))=df call md ps (acc++[f h]) rest (upd s d x) h:=θ _
@[go_sem] theorem ap4(ps acc rest s f x h):jA call md ps acc rest s none f (some (x,h,[]))=df call md ps (acc++[f h]) rest s h:=θ _
theorem amO(ps acc)(o)(j w rest)(hg:o.g=some (j,w)){b}(hb:s j=.v (.bool b)):df call md ps acc (o::rest) s h=
  if b=w then jA call md ps acc rest s o.d (gR (o.d.getD 0) o.op s h) (step call md (o.d.getD 0) o.op s h)else df call md ps (acc++[some ([],[])]) rest (gh s o.d .und) h:=by
 simp only[df,eN,sy, *];split
 ·simp only[oL];cases step call md (o.d.getD 0) o.op s h with
  |none=>rfl
  |some r=>
   obtain⟨x,h',ks⟩:=r;cases ks<;>rfl
 ·rfl
def V8(call:iD)(md:Mode)(ps:List (Nat×Nat))(acc:List Fp)(rest:List COp)(s:ai)(h:ac)(d:Option Nat)(w:Bool)(op:AOp):AV->Option St
 | .v (.bool b)=>if b=w then jA call md ps acc rest s d (gR (d.getD 0) op s h) (step call md (d.getD 0) op s h)else df call md ps (acc++[some ([],[])]) rest (gh s d .und) h
 | .und=>df call md ps (acc++[some ([],[])]) rest (gh s d .und) h
 |_=>none
@[go_sem] theorem ajX(ps acc d j w op rest):df call md ps acc (⟨d,some (j,w),op⟩::rest) s h=V8 call md ps acc rest s h d w op (s j):=by
 by_cases hb:∃b,s j=.v (.bool b)
 ·obtain⟨b,hb⟩:=hb;rw[amO ps acc ⟨d,some (j,w),op⟩ j w rest rfl hb,hb];rfl
 ·simp only[df,eN];cases hq:s j<;>first|rfl|skip
  rename_i x;cases x<;>first|rfl|exact absurd ⟨_,hq⟩ hb
@[go_sem] theorem av4(ps acc d j w op rest):df call md ps acc (cg d j w op::rest) s h=V8 call md ps acc rest s h (some d) w (.p op) (s j):=ajX ps acc (some d) j w (.p op) rest
@[go_sem] theorem ax6(ps acc rest s h d op):V8 call md ps acc rest s h (some d) true op (.v (.bool true))=jA call md ps acc rest s (some d) (gR d op s h) (step call md d op s h):=θ _
@[go_sem] theorem ax7(ps acc rest s h d op):V8 call md ps acc rest s h (some d) false op (.v (.bool false))=jA call md ps acc rest s (some d) (gR d op s h) (step call md d op s h):=θ _
@[go_sem] theorem ax8(ps acc rest s h d op):V8 call md ps acc rest s h (some d) true op (.v (.bool false))=df call md ps (acc++[some ([],[])]) rest (upd s d .und) h:=θ _
@[go_sem] theorem ax9(ps acc rest s h d op):V8 call md ps acc rest s h (some d) false op (.v (.bool true))=df call md ps (acc++[some ([],[])]) rest (upd s d .und) h:=θ _
@[go_sem] theorem av5(ps acc rest s h d w op):V8 call md ps acc rest s h (some d) w op .und=df call md ps (acc++[some ([],[])]) rest (upd s d .und) h:=θ _
@[go_sem] theorem ayV(d op h'):gR d (.p op) s h h'=some ([],[]):=θ _
@[go_sem] theorem av6(d k g x h'):gR d (.load k g x) s h h'=vz (ev s x):=θ _
@[go_sem] theorem av7(d f zas h'):gR d (.call f zas) s h h'=jL h d (pE (zas.map (ev s)) (ev s f)) h':=θ _
@[go_sem] theorem atz(d z h'):gR d (.alloc z) s h h'=some ([],[dF d]):=θ _
@[go_sem] theorem aya(d k x h'):gR d (.box k x) s h h'=if dat (ev s x)=true then some ([],[dF d])else none:=θ _
@[go_sem] theorem ap5(cs):vz (.ipt cs)=some ([],[]):=θ _
@[go_sem] theorem ao4(id k i j):vz (.ref id none k i j)=some ([dF id],[]):=θ _
@[go_sem] theorem ao5(id p k i j):vz (.ref id (some p) k i j)=some ([dF id],[]):=θ _
@[go_sem] theorem ar7(y id sub k i j):Ct y (.ref id sub k i j)=if dat y=true then some ([dF id],[dF id])else none:=θ _
@[go_sem] theorem ayb(i):dF i=if i<2000 then i else i-i%8:=θ _
@[go_sem] theorem ar8(l f a b):pE l (.fn f a b)=a++l++b:=θ _
@[go_sem] theorem CQ(h d l h'):jL h d l h'=if l.all dat=true then some ([],[2000+8*d])else if l.all zU=true then some ((ce h 40 (bA [] (l.flatMap cr)) 0).map dF,(J9 h h' (ce h 40 (bA [] (l.flatMap cr)) 0)).map dF++[2000+8*d])else none:=θ _
@[go_sem] theorem ap6(l i j):zf l (i,j)=(match l[i]?,l[j]? with|some a,some b=>pn a b|_,_=>false):=θ _
@[go_sem] theorem atA(a b):pn (some a) (some b)=(C6 a.2 (b.1++b.2)&&C6 b.2 a.1):=θ _
@[go_sem] theorem atB(b):pn none (some b)=(b.1.isEmpty&&b.2.isEmpty):=θ _
@[go_sem] theorem atC(a):pn (some a) none=(a.1.isEmpty&&a.2.isEmpty):=θ _
@[go_sem] theorem atD(b):C6 [] b=true:=θ _
@[go_sem] theorem ar9(a l b):C6 (a::l) b=(!b.contains a&&C6 l b):=θ _
@[go_sem] theorem ap7(a:Nat):[].contains a=false:=θ _
@[go_sem] theorem ao6(a b)(l:List Nat):(b::l).contains a=(a==b||l.contains a):=by rw[List.contains_cons]
@[go_sem] theorem atE(s d x h p l):dC false s (some d) (some (x,h,p::l))=some ⟨upd (kP (p::l) s) d x,h⟩:=θ _
@[go_sem] theorem asa(s x h p l):dC false s none (some (x,h,p::l))=some ⟨kP (p::l) s,h⟩:=θ _
@[go_sem] theorem av8(p l s)(i):kP (p::l) s i=uF (p::l) (s i):=θ _
@[go_sem] theorem ayJ(ks x):uF ks (.v x)=.v x:=θ _
@[go_sem] theorem av9(ks):uF ks .any=.any:=θ _
@[go_sem] theorem awa(ks):uF ks .und=.und:=θ _
@[go_sem] theorem awb(ks):uF ks .emp=.emp:=θ _
@[go_sem] theorem ayc(ks k r):uF ks (.sl k r)=.sl k r:=θ _
@[go_sem] theorem awc(ks cs):uF ks (.ipt cs)=.ipt cs:=θ _
@[go_sem] theorem awd(ks f):uF ks (.fn f [] [])=.fn f [] []:=θ _
@[go_sem] theorem awe(ks id sub k lo n):uF ks (.rsl id sub k lo n)=if jI ks id sub=true then .any else .rsl id sub k lo n:=θ _
@[go_sem] theorem awf(ks id sub k lo n):uF ks (.ref id sub k lo n)=if jI ks id sub=true then .any else .ref id sub k lo n:=θ _
@[go_sem] theorem awg(ks cs):uF ks (.agg cs)=if cs.any (so ks)=true then .any else .agg cs:=θ _
@[go_sem] theorem ayd(ks f a b):uF ks (.fn f a b)=if(a.any (so ks)||b.any (so ks))=true then .any else .fn f a b:=θ _
@[go_sem] theorem awh(ks vs):uF ks (.tup vs)=if vs.any (GU ks)=true then .any else .tup vs:=θ _
@[go_sem] theorem aye(ks x):GU ks (.v x)=false:=θ _
@[go_sem] theorem awi(ks k r):GU ks (.sl k r)=false:=θ _
@[go_sem] theorem ayf(ks x):so ks (.v x)=false:=θ _
@[go_sem] theorem atF(ks):so ks .emp=false:=θ _
@[go_sem] theorem awj(ks k r):so ks (.sl k r)=false:=θ _
@[go_sem] theorem atG(ks id sub k i j):so ks (.ref id sub k i j)=jI ks id sub:=θ _
@[go_sem] theorem atH(id sub):jI [] id sub=false:=θ _
@[go_sem] theorem atI(a)(b)(l:K)(id)(sub):jI ((a,b)::l) id sub=((a==id&& (!b||sub.isSome))||jI l id sub):=by simp[jI]
@[go_sem] theorem amP{α:Type}:(none:Option α).isSome=false:=θ _
@[go_sem] theorem amQ{α:Type}(a:α):(some a).isSome=true:=θ _
@[go_sem] theorem ayg(h d k b x y):Nv h d k b x y=(wt h k y).bind fun ys=>match x with
 | .emp=>if ys.length*b<=140737488355328 then Vd h d k ys else none
 | .rsl id none k' lo n=>Vb h d k b id k' lo n ys (h id)
 | .rsl id (some p) k' lo n=>Vc h d k b id p k' lo n ys (h id)
 |_=>none:=θ _
@[go_sem] theorem asb(h k):wt h k .emp=some []:=θ _
@[go_sem] theorem ahg(h k r):wt h k (.sl k r)=some r:=by simp[wt]
@[go_sem] theorem asc(h k id sub lo n):wt h k (.rsl id sub k lo n)=jj k lo n (zQ h id sub):=by simp[wt]
@[go_sem] theorem ao7(h id):zQ h id none=CG (h id):=θ _
@[go_sem] theorem asd(k r):CG (.ar k r)=some (k,r):=θ _
@[go_sem] theorem ase(k r):CG (.fz k r)=some (k,r):=θ _
@[go_sem] theorem amR(k lo n r):jj k lo n (some (k,r))=if lo+n<=r.length then some ((r.drop lo).take n)else none:=by simp[jj]
@[go_sem] theorem awk(h d k b id lo n ys r):Vb h d k b id k lo n ys (.ar k r)=if lo=0/\n=r.length/\(id<1000\/2000<=id)/\(n+ys.length)*b<=140737488355328 then
   some (.rsl id none k 0 (n+ys.length),upd h id (.ar k (r++ys)),[(id,false)])else Nu h d k b id k lo n ys k r:=by simp[Vb]
@[go_sem] theorem atJ(h d k):Vd h d k []=some (.emp,h,[]):=θ _
@[go_sem] theorem asf(h d k y ys):Vd h d k (y::ys)=cR h d k (y::ys) (ys.length+1) []:=θ _
end
noncomputable section
def ajg:List (Nat×Nat)->Option Nat->AOp
 | (d,k)::l,x=>if x=some d then(match k with|0=>.callC (.c .any) []|1=>.take (.c .any)|_=>.slcM 0 (.c .any) none none)else ajg l x
 |[],_=>.bad
def ap8(P:Program)(N:Nat)(ops:Array Oper)(h:AOp)(o:Oper):Option COp:=match o.op with
 | .build t ps=>(Kf ops o.guard).bind fun g=>(lK P t).bind fun z=>match P.underlying t with
  |some (.struct fs)=>(Ew P (LP P fs) ps.toList).map fun q=>⟨o.dst,g,.p (.build z q)⟩
  |_=>It P N ops h o
 | .binOp op t x y _=>match P.underlying t with
  |some (.struct _)=>(Kf ops o.guard).bind fun g=>(cJ x).bind fun x=>(cJ y).bind fun y=>(zV P false 3 t).bind fun k=>(GX op).map fun n=>⟨o.dst,g,.p (.eqc n (3+k) x y)⟩
  |_=>It P N ops h o
 |_=>It P N ops h o
def ahh(P:Program)(N:Nat)(H:List (Nat×Nat))(ops:Array Oper):List Oper->Option (List COp)
 |[]=>some []
 |o::l=>(ap8 P N ops (ajg H o.dst) o).bind fun a=>(ahh P N H ops l).bind fun q=>some (a::q)
def prs:List Nat->List (Nat×Nat)
 |a::b::l=>(a,b)::prs l
 |_=>[]
abbrev dm:=List (List Nat)
def amS(P:Program)(N:Nat)(H:List (Nat×Nat))(ops:Array Oper):Bool->dm->Option (Cmd×dm)
 |dr,(7777777::is)::l=>(amS P N H ops dr l).map fun r=>(.frz is r.1,r.2)
 |true,ks::ps::l=>(ahh P N H ops ops.toList).map fun q=>(.dops ks q (prs ps),l)
 |false,ks::l=>(ahh P N H ops ops.toList).map fun q=>(.ops ks q,l)
 |_,_=>none
def nL:Code->Nat
 | .seq a b=>nL a+nL b
 | .cond _ a b=>nL a+nL b
 | .block _ a=>nL a
 | .loop a=>nL a+1
 | .scope a=>nL a
 |_=>0
abbrev GS:=dm×List (Nat×Cmd)
noncomputable def gC (P:Program) (N:Nat) (H:List (Nat×Nat)) (L:List Cmd):Nat->Code->GS->Option (Cmd×GS)
 |_,.skip,s=>some (.skip,s)
 |_,.ret,s=>some (.ret,s)
 |_,.exit i,s=>some (.exit i,s)
 |_,.refuse _,s=>some (.ops [] [⟨none,none,.bad⟩],s)
 |_,.region _ ops dr,s=>(amS P N H ops dr s.1).map fun r=>(r.1,r.2,s.2)
 |n,.seq a b,s=>(gC P N H L (n+nL b) a s).bind fun r=>(gC P N H L n b r.2).map fun q=>(.seq r.1 q.1,q.2)
 |n,.cond x a b,s=>(cJ x).bind fun x=>(gC P N H L n a s).bind fun r=>(gC P N H L (n+nL a) b r.2).map fun q=>(.cond x r.1 q.1,q.2)
 |_,.label _,s=>some (.skip,s)
 |n,.scope a,s=>(gC P N H L n a s).map fun r=>(.frz [] r.1,r.2)
 |n,.block i a,(ks::l,bs)=>(gC P N H L n a (l,bs)).map fun r=>(.block i ks r.1,r.2)
 |n,.loop a,(ks::hs::l,bs)=>(gC P N H L n a (l,bs)).map fun r=>(.loop ks hs (L.getD (n+nL a) .skip),r.2.1,(n+nL a+1,r.1)::r.2.2)
 |_,_,_=>none
noncomputable def gK (P:Program) (H:List (Nat×Nat)) (f:Func) (l:dm) (k:Nat) (L:List Cmd):Cmd:=
 ((f.body.bind fun c=>gC P f.ntmps H L 0 c (l,[])).bind fun r=>((0,r.1)::r.2.2).lookup k).getD .skip
section
variable (d k n a b f:Nat) (op:POp) (x y:Opd) (l:List Opd) (w:Bool) (o:BinOp) (z:List AV)
theorem atK:(⟨some d,none,.p op⟩:COp)=co d op:=rfl
theorem atL:co d (.mv (.t n))=cm d n:=rfl
theorem atM:co d (.bin o (.t a) (.t b))=b2 d o a b:=rfl
theorem atN:co d (.fadr k (.t a))=fa d k a:=rfl
theorem atO:co d (.nilck (.t a))=nk d a:=rfl
theorem atP:(⟨some d,some (n,w),.p op⟩:COp)=cg d n w op:=rfl
theorem atQ:(⟨some d,none,.load k false (.t a)⟩:COp)=ld d k a:=rfl
theorem atS:(⟨some d,none,.load k true (.t a)⟩:COp)=la d k a:=rfl
theorem atT:(⟨some d,none,.call (.c (.fn f [] [])) l⟩:COp)=ca d f l:=rfl
theorem atU:(⟨none,none,.store k x y⟩:COp)=sr k x y:=rfl
theorem atV:(⟨some d,none,.alloc z⟩:COp)=al d z:=rfl
theorem atW:(⟨some d,none,.box k x⟩:COp)=bx d k x:=rfl
end
noncomputable def ao {α:Type} (b:α) {a:α} (_:a=b:=by conv=>rhs;reduce;(try simp only[Int.reduceOfNat,Int.reduceNegSucc,atK,atL,atM,atN,atO,atP,atQ,atS,atT,atU,atV,atW])):α:=a
@[go_sem] theorem ayK{α:Type}(b:α){a:α}(h:a=b):@ao α b a h=a:=θ _
end
end Go.Ab
