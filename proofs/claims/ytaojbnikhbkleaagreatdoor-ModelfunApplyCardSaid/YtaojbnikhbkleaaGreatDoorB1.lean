/-
  ModelfunApply holds at every input of its card. Part B1.
-/
import Derived.Scope
import Derived.Test.YtaojbnikhbkleaaGreatDoorA1
open Nat renaming le_refl → aET, lt_of_lt_of_le → aFQ, zero_add → aES, zero_le → aE9
open Bool renaming and_eq_true → aEV, and_self → aFI, and_true → aFE, false_eq_true → aFv, not_eq_true' → aFS, or_eq_true → aF0, true_and → aEW
open List renaming length → O, all_cons → aFa, all_eq_true → aFc, all_nil → aFF, append_assoc → aFO, append_nil → aE8, cons_append → aFb, getElem?_eq_getElem → aE1, getElem?_map → aFw, getElem?_of_mem → aFL, getElem_mem → aFg, length_cons → aFk, length_map → aFh, length_nil → aFs, length_take → aFm, map_congr_left → aFn, map_cons → aFr, map_id' → aFH, map_nil → aFB, mem_map → aFN, mem_of_getElem? → aE6, nil_append → aE5, replicate → aER
open Option renaming bind_eq_some_iff → aEQ, bind_some → aEZ, map_eq_some_iff → aEU, map_some → aFK
set_option linter.all false
namespace Go.Ab
open Go
variable{α β:Type}
section
variable {P:Program} {w w':World} {X:Nat→Prop} {ρ ρ':fL} {h h':aj} {s:aM} {a:Act} {call:j8} {md:Mode} {N:Nat} {ops:Array Oper} {Q:Exit→Act→World→Prop} {A A':Nat→Prop} {I:Inv}
theorem Ok.undef(ok:Ok I N w X ρ h s a){d}(hd:d.getD 0<N):Ok I N w X ρ h (iK s d .und) (a.put d undef):=
 ok.put (ks:=[]) ok.rel (.refl _ _ _) .und hd
def apr{u}(hv:RV w A ρ h .und u):u=undef:=by
 cases hv with
 |und=>rfl
 |dat hd=>cases hd
theorem al1{nm}{d}{r}{t}(hz:eH nm s d r=some t):∃z h' ks,r=some (z,h',ks)/\vZ nm ks=true/\t=⟨iK (ng ks s) d z,h'⟩:=by
 unfold eH at hz;grind
def KO(hcall:qG P I call md)(hN:N<=1000){i}{o}{co}{hint}(hget:ops[i]?=some o)(hc:KD P N ops hint o=some co)(ok:Ok I N w X ρ h s a){t}(hz:qi call md co s h=some t)
  {K'} (hK:∀a' w' ρ',Ok I N w' X ρ' t.h t.s a'->Far md.nm w ρ h w' ρ' t.h->K' a' w'):wpOp P ops Q i K' a w:=by
 simp only[KD,aEQ]at hc;obtain⟨g,e1,op,e2,hc⟩:=hc;split at hc
 ·rename_i hcond;cases hc;simp only[aEV,decide_eq_true_eq]at hcond;have hd:=hcond.2;have run:eH md.nm s o.dst (step call md (o.dst.getD 0) op s h)=some t->o.wp P a w K' Q:=by
   grind[al1,auT]
  have skip:some ⟨iK s o.dst .und,h⟩=some t->K' (a.put o.dst undef) w:=by
   intro hf;cases hf;exact hK _ _ ρ (ok.undef hd) (.refl _ _ _ _)
  unfold wpOp;rw[hget];cases hg:o.guard with
  |none=>
   rw[hg]at e1;simp only[MG,Option.some.injEq]at e1;subst e1
   simp_all[qi,Region.wanted,if_true]
  |some jb=>
   rw[hg]at e1;simp only[MG,aEU]at e1;obtain⟨d,e3,rfl⟩:=e1;simp only[qi,oI]at hz;have hv:=ok.rs d;simp only[Region.wanted,yielded,aEZ, *];have cell:∀v,a.tmps.getD d Go.undef=v->v≠Go.undef->a.tmps[d]?=some v:=by
    intro v hv hne;rw[Array.getD_eq_getD_getElem?]at hv;grind
   split at hz
   ·rename_i b' hb';rw[hb']at hv;rw[cell _ hv.v_inv.1 (by simp[Go.undef])];grind
   ·rename_i hb';rw[hb']at hv;have hu:=apr hv;rw[Array.getD_eq_getD_getElem?]at hu;grind[Go.undef]
   grind
 grind
def Wj(hcall:qG P I call md)(hN:N<=1000):∀rest cl i {hs} {w} {ρ} {h} {s} {a} {t},(∀j o,rest[j]?=some o->ops[i+j]?=some o)->wR P N ops hs rest=some cl->Ok I N w X ρ h s a->
  aK call md cl s h=some t->(∀a' w' ρ',Ok I N w' X ρ' t.h t.s a'->Far md.nm w ρ h w' ρ' t.h->Q .normal a' w')->wpOps P ops Q (List.range' i (O rest)) a w
 |[],cl,i,hs,w,ρ,h,s,a,t,_,hc,ok,hz,hQ=>by
  simp only[wR,Option.some.injEq]at hc;subst hc;cases hz;exact hQ _ _ ρ ok (.refl _ _ _ _)
 |o::rest,cl,i,hs,w,ρ,h,s,a,t,hg,hc,ok,hz,hQ=>by
  simp only[wR,aEQ]at hc;obtain⟨co,e1,q,e2,e3⟩:=hc;cases e3;simp only[aK,bG]at hz;split at hz
  ·grind
  ·rename_i t1 ht1;exact KO hcall hN (by simpa using hg 0 o rfl) e1 ok ht1 fun a' w' ρ' ok' far=>
    Wj hcall hN rest q (i+1) (fun j o' hj=>by rw[show i+1+j=i+(j+1)from by omega];simp_all) e2 ok' hz fun a'' w'' ρ'' ok'' far'=>hQ _ _ ρ'' ok'' (far.trans far')
theorem Oq{α}(d)(f:Nat->α):∀l i,mk d f l i=if i∈l then f i else d
 |[],i=>by simp[mk]
 |j::l,i=>by
  simp only[mk,upd,Oq d f l i,List.mem_cons];by_cases e:i=j
  ·subst e;simp
  ·simp[e]
theorem RS.some(hs:RS w A ρ h s a.tmps){s'}(he:∀i,s' i=s i\/s' i=.any):RS w A ρ h s' a.tmps:=fun i=>by
 rcases he i with e|e
 ·rw[e];exact hs i
 ·rw[e];exact .anyv _
theorem Ok.some(ok:Ok I N w X ρ h s a){s'}(he:∀i,s' i=s i\/s' i=.any):Ok I N w X ρ h s' a:=⟨ok.rel,ok.rs.some he,ok.size,ok.defers,ok.inv⟩
theorem RV.knownL{l}{c}{u}(hv:RV w A ρ h c u)(hA:∀b,A b->A' b/\w'.heap[b]?=w.heap[b]?)(hk:∀id sub,cZ h id sub->l.contains id=true->cZ h' id sub/\ρ' id sub=ρ id sub)(hm:knownL l c=true):RV w' A' ρ' h' c u:=by
 cases hv with
 |anyv u=>exact .anyv u
 |und=>exact .und
 |dat hd=>exact .dat (hd.mono hA)
 |ref id sub k i j hp=>
  obtain⟨h1,h2⟩:=hk id sub hp hm;rw[←h2];exact .ref id sub k i j h1
 |rsl id sub k lo n cap a hp hn hb ha=>
  obtain⟨h1,h2⟩:=hk id sub hp hm;exact .rsl id sub k lo n cap a h1 hn γ γ
 |rsc id k lo n cap a hp hn hb ha=>grind[Ab.knownL]
 |ipt cs ad vals hA' hs hv hl hr=>
  exact .ipt cs ad vals (hA _ hA').1 hs (fun j c hc=>by rw[sH (w:=w) (w':=w') (by rw[vH];grind)];grind) hl (fun j c hc=>(hr j c hc).mono hA)
 |agg cs us hs h1 hr=>grind[Ab.knownL]
 |tup vs us hs hr=>grind[Ab.knownL]
 |fn f x y us ts hs ht hx hy=>
  simp[Ab.knownL]at hm;obtain⟨rfl,rfl⟩:=hm;exact .fn f [] [] us ts hs ht (fun i c u hc=>by grind) (fun i c u hc=>by grind)
theorem RV.knownA{l}{c}{u}(hv:RV w A ρ h c u)(hA:∀b,A b->A' b/\w'.heap[b]?=w.heap[b]?)(hk:∀id sub,cZ h id sub->l.contains id=true->cZ h' id sub/\ρ' id sub=ρ id sub)(hm:knownA l c=true):RV w' A' ρ' h' c u:=by
 cases c with
 |agg cs=>
  simp only[Ab.knownA,aFc]at hm;cases hv with
  |dat hd=>exact .dat (hd.mono hA)
  |agg _ us hs h1 hr=>exact .agg cs us hs h1 fun i c u hc hu=>(hr i c u hc hu).knownL hA hk (hm c (aE6 hc))
 |fn f x y=>
  simp only[Ab.knownA,aEV,aFc]at hm;cases hv with
  |dat hd=>exact .dat (hd.mono hA)
  |fn _ _ _ us ts hs ht hx hy=>exact .fn f x y us ts hs ht (fun i c u hc hu=>(hx i c u hc hu).knownL hA hk (hm.1 c (aE6 hc))) (fun i c u hc hu=>(hy i c u hc hu).knownL hA hk (hm.2 c (aE6 hc)))
 |_=>exact hv.knownL hA hk hm
theorem FY{l}{c}(hc:bA l c=true):knownL l c=true:=by
 cases c<;>simp[bA,knownL]at hc⊢ <;>first|exact hc.1|exact hc
def Xw{l}{c}(hc:be l c=true):knownA l c=true:=by
 cases c with
 |agg cs=>
  grind[be,knownA,aFc,FY]
 |fn f x y=>
  simp_all[be,knownA,aEV,aFc,FY]
 |_=>
  simp only[be,knownA]at hc⊢;exact FY hc
def Ze(nm)(r:Rel w X ρ h){hs}(hcl:∀id,id∈hs->aE hs (h id)=true):Rel w X ρ (mk .dead h hs)/\Far nm w ρ h w ρ (mk .dead h hs)/\
  ∀ {c} {u},RV w (aN w X h ρ) ρ h c u->knownA hs c=true->RV w (aN w X (mk .dead h hs) ρ) ρ (mk .dead h hs) c u:=by
 have at_:∀id,id∈hs->mk .dead h hs id=h id:=fun id hi=>by rw[Oq,if_pos hi]
 have not_:∀id,id∉hs->mk .dead h hs id=.dead:=fun id hi=>by rw[Oq,if_neg hi]
 have hl:∀id sub,live (mk .dead h hs) id sub->id∈hs/\live h id sub:=by
  intro id sub h1;by_cases hi:id∈hs
  ·grind[eu]
  ·have:=not_ id hi;cases sub<;>simp[live,this]at h1
 have hA:∀b,aN w X h ρ b->aN w X (mk .dead h hs) ρ b/\w.heap[b]?=w.heap[b]?:=fun b hb=>⟨⟨hb.1,hb.2.1,fun⟨id,sub,h1,h2⟩=>hb.2.2 ⟨id,sub,(hl id sub h1).2,h2⟩⟩,rfl⟩;have hk:∀id sub,cZ h id sub->hs.contains id=true->cZ (mk .dead h hs) id sub/\ρ id sub=ρ id sub:=fun id sub hp hi=>⟨(iu (at_ id γ)).2 hp,rfl⟩;have far:Far nm w ρ h w ρ (mk .dead h hs):=by
  refine⟨rfl,rfl,rfl,aET _,fun _ _ _=>rfl,fun b ⟨id,sub,h1,h2⟩=>.inl ⟨id,sub,(hl id sub h1).2,h2⟩,fun id _ hd=>⟨fun e=>?_,rfl⟩,fun _ id p _ hd hp=>⟨?_,rfl⟩⟩
  all_goals grind
 refine⟨⟨fun a b c d h1 h2=>r.inj a b c d (hl a b h1).2 (hl c d h2).2,fun a b h1=>r.nx a b (hl a b h1).2,fun id=>?_,r.xl⟩,far,fun hv hc=>hv.knownA hA hk hc⟩;by_cases hi:id∈hs
 ·have ho:=r.ob id;have hc:=hcl id hi;rw[at_ id hi];cases e:h id with
  |dead=>trivial
  |bx cs=>
   rw[e]at ho hc;obtain⟨us,t,h1,h2,h3,h4⟩:=ho;refine⟨us,t,h1,h2,h3,fun p c hcp=>?_⟩;obtain⟨u,h5,h6⟩:=h4 p c hcp;refine⟨u,h5,?_⟩;simp only[aE,aFc]at hc;have hcc:=hc c (aE6 hcp);cases hO:bI c with
   |true=>
    cases c<;>simp[bI]at hO;obtain⟨a,cap,us',t',g1,g2,g3,g4,g5,g6,g7⟩:=h6;exact⟨a,cap,us',t',g1,g2,g3,g4,g5,g6,g7.mono hA⟩
   |false=>
    rw[yK hO]at h6⊢;have hca:be hs c=true:=by grind[mh]
    refine⟨h6.1.knownA hA hk (Xw hca),h6.2.1,?_⟩;have h7:=h6.2.2;cases c<;>try exact h7
    simp_all[be,bA,qZ]
  |ar k rows=>
   rw[e]at ho;obtain⟨us,t,h1,h2,h3,h4⟩:=ho;exact⟨us,t,h1,h2,h3,h4.mono hA⟩
  |fz k rows=>
   rw[e]at ho;obtain⟨h0,us,t,fr,h1,h2,h3,h4⟩:=ho;exact⟨(hA _ h0).1,us,t,fr,h1,h2,h3,h4.mono hA⟩
 ·rw[not_ id hi];trivial
end
def exo:Ex->Exit
 | .normal=>.normal
 | .exit id=>.exit id
 | .ret=>.ret
def Wk(P:Program)(I:Inv)(call:j8)(md:Mode)(N:Nat):Prop:=
 ∀ {id} {ops} {hs cl} {w} {X} {ρ} {h} {s} {a} {t} {ps} {Q},wR P N ops hs ops.toList=some cl->Y7 ops.toList cl ps=true->Ok I N w X ρ h s a->we call md cl ps s h=some t->
  (∀a' w' ρ',Ok I N w' X ρ' t.h t.s a'->Far md.nm w ρ h w' ρ' t.h->Q .normal a' w')->(Code.region id ops true).wp P Q a w
section
variable {P:Program} {X:Nat→Prop} {call:j8} {md:Mode} {N:Nat} {I:Inv} {nm:Bool}
def MO(s:aM)(ks)(i):mk .any s ks i=s i\/mk .any s ks i=.any:=by
 grind[Oq]
def agp(hs)(a):(jn hs a=a/\knownA hs a=true)\/jn hs a=.any:=by
 grind[jn]
def aiJ{w}{ρ}{h}{s}{a}(ok:Ok I N w X ρ h s a){ks hs}(hcl:(hs.all fun a=>aE hs (h a))=true):
  Ok I N w X ρ (mk .dead h hs) (mk .any (fun i=>jn hs (s i)) ks) a/\Far nm w ρ h w ρ (mk .dead h hs):=by
 obtain⟨h1,h2,h3⟩:=Ze nm ok.rel (hs:=hs) (fun id hi=>List.all_eq_true.1 hcl id hi);refine⟨⟨h1,fun i=>?_,ok.size,ok.defers,ok.inv⟩,h2⟩;rcases MO (fun i=>jn hs (s i)) ks i with e|e
 ·rw[e];rcases agp hs (s i)with⟨e2,e3⟩|e2
  ·rw[e2];exact h3 (ok.rs i) e3
  ·rw[e2];exact .anyv _
 ·rw[e];exact .anyv _
def Wl(P:Program)(I:Inv)(nm:Bool)(X:Nat->Prop)(N:Nat)(f:aM->aj->Option (Ex×St))(c:Code):Prop:=
 ∀ {s} {h} {e} {t} {w} {ρ} {a} {Q},f s h=some (e,t)->Ok I N w X ρ h s a->(∀a' w' ρ',Ok I N w' X ρ' t.h t.s a'->Far nm w ρ h w' ρ' t.h->Q (exo e) a' w')->c.wp P Q a w
def Sl{body}{c}(hb:Wl P I nm X N body c){ks hs}:∀n {s} {h} {e} {t} {w} {ρ} {a} {Q},
  xS body ks hs n s h=some (e,t)->Ok I N w X ρ h s a->(∀a' w' ρ',Ok I N w' X ρ' t.h t.s a'->Far nm w ρ h w' ρ' t.h->Q (exo e) a' w')->Code.rounds P c Q n a w
 |0,s,h,e,t,w,ρ,a,Q,hz,_,_=>by grind[xS]
 |n+1,s,h,e,t,w,ρ,a,Q,hz,ok,hQ=>by
  simp only[xS]at hz;split at hz
  ·rename_i hcl;obtain⟨ok1,far1⟩:=aiJ ok (ks:=ks) hcl;split at hz
   ·rename_i t1 ht1;exact hb ht1 ok1 fun a' w' ρ' ok2 far2=>Sl hb n hz ok2 fun a'' w'' ρ'' ok3 far3=>hQ _ _ ρ'' ok3 (far1.trans (far2.trans far3))
   ·rename_i r hne;refine hb hz ok1 fun a' w' ρ' ok2 far2=>?_;have:=hQ a' w' ρ' ok2 (far1.trans far2);cases e with
    |normal=>exact absurd hz (hne t)
    |exit id=>exact this
    |ret=>exact this
  ·cases hz
def agq{i}{w}{ρ}{h}{s}{a}{r}(ok:Ok I N w X ρ h s a)(hz:Uo i s h (s i)=some r)(hnm:vZ nm r.2.2=true):
  Ok I N w X ρ r.2.1 r.1 a/\Far nm w ρ h w ρ r.2.1:=by
 have hv:=ok.rs i;cases hi:s i<;>rw[hi]at hz hv<;>simp only[Uo]at hz<;>try (cases hz;done)
 case sl=>cases hz;exact⟨ok,.refl _ _ _ _⟩
 case rsl id sub k lo n=>
  simp only[aEU]at hz;obtain⟨q,e1,rfl⟩:=hz;obtain⟨x,h',ks⟩:=q;have h1:(a.tmps.getD i undef).oneCell'=true:=by
   obtain⟨_,_,e,_⟩:=hv.rsl_inv;rw[e];rfl
  obtain⟨g1,g2,g3,g4⟩:=CV ok.rel hv (fun b hb=>hb) h1 e1;refine⟨⟨g1,fun j=>?_,ok.size,ok.defers,g2.inv ok.rel ok.inv⟩,g2.far hnm⟩;show RV w (aN w X h' ρ) ρ h' (upd (ng ks s) i x j) _;rw[cz];split
  ·rename_i hj;subst hj;exact .dat g3
  ·exact g2.rs ok.rs j
 case ref id sub k j l=>
  cases sub with
  |some p=>grind
  |none=>
   simp only at hz;cases ho:h id<;>rw[ho]at hz<;>simp only at hz<;>try (cases hz;done)
   cases hz;rename_i cs;obtain⟨g1,g2⟩:=MI (ds:=cs.map pe) ok.rel ho σ fun p c hc=>by
    grind[bI,adp]
   exact⟨⟨g1,g2.rs ok.rs,ok.size,ok.defers,g2.inv ok.rel ok.inv⟩,g2.far hnm⟩
def acE{w}{ρ}{h}{s}{a}(ok:Ok I N w X ρ h s a)(x):Ok I N w X ρ (KB h x) s a/\Far nm w ρ h w ρ (KB h x):=by
 have id':Ok I N w X ρ h s a/\Far nm w ρ h w ρ h:=⟨ok,.refl _ _ _ _⟩;unfold KB;split
 ·rename_i id k' lo n;split
  ·rename_i k rows e;obtain⟨s1,s2⟩:=aiC (m:=lo+n) ok.rel e;exact⟨⟨s1,s2.rs ok.rs,ok.size,ok.defers,s2.inv ok.rel ok.inv⟩,s2.far (tK _)⟩
  omega
 omega
def PK{g}{w}{ρ}{h}{s}{a}{t}(ok:Ok I N w X ρ h s a)(hz:ye nm g s h=some t):∃ρ',Ok I N w X ρ' t.h t.s a/\Far nm w ρ h w ρ' t.h:=by
 cases g with
 |zero=>
  cases hz;exact⟨ρ,ok,.refl _ _ _ _⟩
 |succ i=>
  simp only[ye,aEQ]at hz;obtain⟨r,e1,e2⟩:=hz;split at e2
  ·rename_i hnm;cases e2;have hv:=ok.rs i;cases hi:s i<;>rw[hi]at e1 hv<;>simp only[Wa]at e1<;>try (cases e1;done)
   ·cases e1;exact⟨ρ,ok,.refl _ _ _ _⟩
   ·rename_i id sub k lo n;cases sub with
    |none=>grind
    |some p=>
    simp only at e1;split at e1
    ·rename_i hps;cases eo:h id<;>rw[eo]at e1<;>simp only[ghO]at e1<;>try (cases e1;done)
     rename_i cs;cases ec:cs[p]? with
     |none=>grind[R8]
     |some c=>
      rw[ec]at e1;cases c<;>simp only[R8]at e1<;>try (cases e1;done)
      split at e1
      ·rename_i hc;obtain⟨rfl,rfl,rfl,hd⟩:=hc;have hd':h i=.dead:=by cases hh:h i<;>rw[hh]at hd<;>first|rfl|cases hd
       cases e1;obtain⟨m1,m2⟩:=age ok.rel eo ec hps hd';obtain⟨ad,cap,e4,q2,q3,q4,q5⟩:=hv.rsl_inv;refine⟨_,⟨m1,fun j=>?_,ok.size,ok.defers,m2.inv ok.rel ok.inv⟩,m2.far hnm⟩;show RV w _ _ _ (upd (ng [(id,true)] s) i _ j) _;rw[cz];split
       ·rename_i hj;subst hj;rw[e4];refine .rsl _ none _ 0 _ cap ad (by simp[cZ,aD]) q3 (by grind[bZ]) ?_;grind[bZ]
       ·exact m2.rs ok.rs j
      grind
    grind
  grind
def ags{i}{w}{ρ}{h}{s}{a}{r}(ok:Ok I N w X ρ h s a)(hz:Up i s h (s i)=some r)(hnm:vZ nm r.2.2=true):
  ∃ρ',Ok I N w X ρ' r.2.1 r.1 a/\Far nm w ρ h w ρ' r.2.1:=by
 have hv:=ok.rs i;have key:∀ {id k lo n},(∃ad cap,a.tmps.getD i undef=.slice ad n cap/\n<=cap/\(lo+cap)*k=(ρ id none).2/\(cap=0\/ad=some ⟨(ρ id none).1,lo*k,none⟩))->MC i s h id k lo n (h id)=some r->
   ∃ρ',Ok I N w X ρ' r.2.1 r.1 a/\Far nm w ρ h w ρ' r.2.1:=by
  intro id k lo n ⟨ad,cap,e4,q3,q4,q5⟩ e1;cases eo:h id<;>rw[eo]at e1<;>simp only[MC]at e1<;>try (cases e1;done)
  split at e1
  ·rename_i hc;obtain⟨rfl,rfl,hps,hd⟩:=hc;have hd':h i=.dead:=by cases hh:h i<;>rw[hh]at hd<;>first|rfl|cases hd
   cases e1;obtain⟨m1,m2⟩:=asg ok.rel eo hps hd';refine⟨_,⟨m1,fun j=>?_,ok.size,ok.defers,m2.inv ok.rel ok.inv⟩,m2.far hnm⟩;show RV w _ _ _ (upd (ng [(id,false)] s) i _ j) _;rw[cz];split
   ·rename_i hj;subst hj;rw[e4];refine .rsl _ none _ 0 _ cap ad (by simp[cZ,aD]) q3 (by grind[bZ]) ?_;grind[bZ]
   ·exact m2.rs ok.rs j
  grind
 cases hi:s i<;>rw[hi]at hz hv<;>simp only[Up]at hz<;>try (cases hz;done)
 ·cases hz;exact⟨ρ,ok,.refl _ _ _ _⟩
 ·rename_i id sub k lo n;cases sub with
  |some p=>grind
  |none=>
  obtain⟨ad,cap,e4,q2,q3,q4,q5⟩:=hv.rsl_inv;exact key ⟨ad,cap,e4,q3,q4,q5⟩ hz
 ·rename_i id k lo n c;obtain⟨ad,e4,q2,q3,q4,q5⟩:=hv.rsc_inv;exact key ⟨ad,c,e4,q3,q4,q5⟩ hz
def CX:∀is {w} {ρ} {h} {s} {a} {t},Ok I N w X ρ h s a->D4 nm is s h=some t->∃ρ',Ok I N w X ρ' t.h t.s a/\Far nm w ρ h w ρ' t.h
 |[],w,ρ,h,s,a,t,ok,hz=>by cases hz;exact⟨ρ,ok,.refl _ _ _ _⟩
 |i::l,w,ρ,h,s,a,t,ok,hz=>by
  unfold D4 at hz;split at hz
  ·simp only[aEQ]at hz;obtain⟨r,e1,e2⟩:=hz;split at e2
   ·rename_i hn;obtain⟨ρ1,g1,g2⟩:=ags ok e1 hn;obtain⟨ρ2,f1,f2⟩:=CX l g1 e2;exact⟨ρ2,f1,g2.trans f2⟩
   grind
  ·split at hz
   ·obtain⟨g1,g2⟩:=acE (nm:=nm) ok (s (i-100000));obtain⟨ρ2,f1,f2⟩:=CX l g1 hz;exact⟨ρ2,f1,g2.trans f2⟩
   ·simp only[aEQ]at hz;obtain⟨r,e1,e2⟩:=hz;split at e2
    ·rename_i hn;obtain⟨g1,g2⟩:=agq ok e1 hn;obtain⟨ρ2,f1,f2⟩:=CX l g1 e2;exact⟨ρ2,f1,g2.trans f2⟩
    grind
def agt(hcall:qG P I call md)(hN:N<=1000)(hD:Wk P I call md N)(lf):∀cmd c,jR P N c cmd=some cmd->Wl P I md.nm X N (df call md lf cmd) c:=by
 intro cmd;induction cmd with
 |skip=>
  intro c hc s h e t w ρ a Q hz ok hQ;cases c<;> (try simp only[jR]at hc)<;> (try (cases hc;done))
  ·obtain⟨rfl,rfl⟩:=hz;exact wp_skip (hQ _ _ ρ ok (.refl _ _ _ _))
  all_goals first
   | (obtain⟨rfl,rfl⟩:=hz;exact wp_label (hQ _ _ ρ ok (.refl _ _ _ _)))
   | (exfalso;revert hc;simp[aEQ])
 |ops ks l=>
  intro c hc s h e t w ρ a Q hz ok hQ;by_cases hrf:∃m,c=.refuse m
  ·have hl:l=[⟨none,none,.bad⟩]:=by
    unfold jR at hc;grind
   simp_all[df,aK,qi,eH,step,bG]
  cases c<;> (try (exact absurd ⟨_,rfl⟩ hrf))<;> (try simp only[jR]at hc)<;> (try (cases hc;done));rename_i id ops dr;cases dr<;> (try simp only[jR]at hc)<;> (try (cases hc;done));simp only[aEU]at hc;obtain⟨l',h1,h2⟩:=hc;cases h2;simp only[df,bG]at hz;split at hz
  ·grind
  ·rename_i t1 ht1;obtain⟨rfl,rfl⟩:=hz;refine wp_region ?_;rw[List.range_eq_range',show ops.size=O ops.toList from Array.length_toList.symm];exact Wj hcall hN ops.toList l 0 (fun j o hj=>by grind) h1 ok ht1 fun a' w' ρ' ok' far=>hQ _ _ ρ' (ok'.some (MO _ _)) far
 |dops ks l ps=>
  intro c hc s h e t w ρ a Q hz ok hQ;cases c<;> (try simp only[jR]at hc)<;> (try (cases hc;done));rename_i id ops dr;cases dr<;> (try simp only[jR]at hc)<;> (try (cases hc;done));simp only[aEQ]at hc;obtain⟨l',h1,h2⟩:=hc;split at h2
  ·rename_i hps;cases h2;simp only[df,bG]at hz;split at hz
   ·grind
   ·rename_i t1 ht1;obtain⟨rfl,rfl⟩:=hz;exact hD h1 hps ok ht1 fun a' w' ρ' ok' far=>hQ _ _ ρ' (ok'.some (MO _ _)) far
  grind
 |seq x y ihx ihy=>
  intro c hc s h e t w ρ a Q hz ok hQ;cases c<;> (try simp only[jR]at hc)<;> (try (cases hc;done));simp only[aEQ,aEU]at hc;obtain⟨c1,h1,c2,h2,h3⟩:=hc;cases h3;simp only[df,dx]at hz;refine wp_seq ?_;split at hz
  ·grind
  ·rename_i t1 ht1;exact ihx _ h1 ht1 ok fun a' w' ρ' ok1 far1=>ihy _ h2 hz ok1 fun a'' w'' ρ'' ok2 far2=>hQ _ _ ρ'' ok2 (far1.trans far2)
  ·rename_i i t1 ht1;cases hz;exact ihx _ h1 ht1 ok fun a' w' ρ' ok1 far1=>hQ a' w' ρ' ok1 far1
  ·rename_i t1 ht1;cases hz;exact ihx _ h1 ht1 ok fun a' w' ρ' ok1 far1=>hQ a' w' ρ' ok1 far1
 |cond b x y ihx ihy=>
  intro c hc s h e t w ρ a Q hz ok hQ;cases c<;> (try simp only[jR]at hc)<;> (try (cases hc;done));simp only[aEQ,aEU]at hc;obtain⟨b',h0,c1,h1,c2,h2,h3⟩:=hc;cases h3;simp only[df]at hz;have hv:=bp h0 ok.rs;unfold wh at hz;split at hz
  ·rename_i tt htt;rw[htt]at hv;refine wp_cond hv.v_inv.1 ?_;cases tt with
   |true=>exact ihx _ h1 hz ok hQ
   |false=>exact ihy _ h2 hz ok hQ
  grind
 |block id ks x ih=>
  intro c hc s h e t w ρ a Q hz ok hQ;cases c<;> (try simp only[jR]at hc)<;> (try (cases hc;done));simp only[aEU]at hc;obtain⟨c1,h1,h3⟩:=hc;cases h3;simp only[df]at hz;refine wp_block ?_;unfold ao at hz;split at hz
  ·grind
  ·rename_i t1 ht1;cases hz;exact ih _ h1 ht1 ok fun a' w' ρ' ok1 far1=>hQ a' w' ρ' (ok1.some (MO _ _)) far1
  ·rename_i i t1 ht1;refine ih _ h1 ht1 ok fun a' w' ρ' ok1 far1=>?_;split at hz
   ·rename_i hi;cases hz;have:=hQ a' w' ρ' (ok1.some (MO _ _)) far1;grind[exo,Exit.inBlock]
   grind[exo,Exit.inBlock]
  ·rename_i t1 ht1;cases hz;exact ih _ h1 ht1 ok fun a' w' ρ' ok1 far1=>hQ a' w' ρ' ok1 far1
 |loop ks hs x ih=>
  intro c hc s h e t w ρ a Q hz ok hQ;cases c<;> (try simp only[jR]at hc)<;> (try (cases hc;done));simp only[aEU]at hc;obtain⟨c1,h1,h3⟩:=hc;cases h3;exact wp_loop_rounds lf (Sl (ih _ h1) lf hz ok hQ)
 |exit id=>
  intro c hc s h e t w ρ a Q hz ok hQ;cases c<;> (try simp only[jR]at hc)<;> (try (cases hc;done));cases hc;obtain⟨rfl,rfl⟩:=hz;exact wp_exit (hQ _ _ ρ ok (.refl _ _ _ _))
 |ret=>
  intro c hc s h e t w ρ a Q hz ok hQ;cases c<;> (try simp only[jR]at hc)<;> (try (cases hc;done));obtain⟨rfl,rfl⟩:=hz;exact wp_ret (hQ _ _ ρ ok (.refl _ _ _ _))
 |frz is x ih=>
  intro c hc s h e t w ρ a Q hz ok hQ;by_cases hsc:∃d,c=.scope d
  ·obtain⟨d,rfl⟩:=hsc;have hc':(jR P N d x).map (Cmd.frz is)=some (.frz is x):=by
    grind[jR]
   simp only[aEU]at hc';obtain⟨c1,h1,h3⟩:=hc';cases h3;simp only[df,bG]at hz;split at hz
   ·grind
   ·rename_i t1 ht1;obtain⟨ρ1,ok1,far1⟩:=CX is ok ht1;refine wp_scope_straight (ih _ h1 hz ok1 fun a' w' ρ' ok2 far2=>?_);have:=hQ a' w' ρ' ok2 (far1.trans far2);cases e<;>exact this
  have hc':(jR P N c x).map (Cmd.frz is)=some (.frz is x):=by
   cases c<;>first|exact absurd ⟨_,rfl⟩ hsc|exact hc| (rename_i b;cases b<;>exact hc)
  simp only[aEU]at hc';obtain⟨c1,h1,h3⟩:=hc';cases h3;simp only[df,bG]at hz;split at hz
  ·grind
  ·rename_i t1 ht1;obtain⟨ρ1,ok1,far1⟩:=CX is ok ht1;exact ih _ h1 hz ok1 fun a' w' ρ' ok2 far2=>hQ a' w' ρ' ok2 (far1.trans far2)
end
def rK(P:Program)(I:Inv)(kp:Bool)(f:FuncId)(g:List AV->List Ob->Option (AV×List Ob)):Prop:=
 ∀ {args} {obs obs'} {res} {w} {X} {ρ} {vals} {n},g args obs=some (res,obs')->2000<=n->I.p w X->Rel w X ρ (az obs)->vals.size=O args->
  (∀ (i:Nat) c u,args[i]?=some c->vals[i]?=some u->RV w (aN w X (az obs) ρ) ρ (az obs) c u)->
  Enters P f vals w fun v w'=>∃ρ',Rel w' X ρ' (mat n (az obs') res).2/\Far kp w ρ (az obs) w' ρ' (mat n (az obs') res).2/\RV w' (aN w' X (mat n (az obs') res).2 ρ') ρ' (mat n (az obs') res).2 (mat n (az obs') res).1 v
def Fl(tmps:Array Value):ResultVar->Sem Value
 | .tmp t=>pure (tmps.getD t Go.undef)
 | .cell c t=>do loadVar t (←asAddr (tmps.getD c Go.undef))
section
variable {P:Program} {w w':World} {X:Nat→Prop} {ρ ρ':fL} {h h':aj} {s:aM} {a:Act} {call:j8} {md:Mode} {N:Nat}
def PL:∀rs l {h h'} {s} {vs} {ks},KG P rs=some l->Rel w X ρ h->RS w (aN w X h ρ) ρ h s a.tmps->E3 s h l=some (vs,h',ks)->
  ∃us,(rs.mapM (Fl a.tmps)).run P w=.ok us w/\O us=O vs/\Rel w X ρ h'/\Evo w ρ h w ρ h' ks/\
   ∀ (i:Nat) c u,vs[i]?=some c->us[i]?=some u->RV w (aN w X h' ρ) ρ h' c u
 |[],l,h,h',s,vs,ks,hc,r,hs,hz=>by
  simp only[KG,Option.some.injEq]at hc;subst hc;obtain⟨rfl,rfl,rfl⟩:=hz;exact⟨[],rfl,rfl,r,.refl _ _ _,fun i c u hc=>by grind⟩
 |x::rs,l,h,h',s,vs,ks,hc,r,hs,hz=>by
  have step1:∃rv l',l=rv::l'/\KG P rs=some l'/\∀ {z} {h1} {k1},ar7 s h rv=some (z,h1,k1)->∃v,(Fl a.tmps x).run P w=.ok v w/\
    Rel w X ρ h1/\Evo w ρ h w ρ h1 k1/\RV w (aN w X h1 ρ) ρ h1 z v:=by
   cases x with
   |tmp t=>
    simp only[KG,aEU]at hc;obtain⟨l',h1,rfl⟩:=hc;refine⟨_,l',rfl,h1,fun{z h1 k1} e=>?_⟩;obtain⟨rfl,rfl,rfl⟩:=e;exact⟨_,rfl,r,.refl _ _ _,hs t⟩
   |cell c t=>
    simp only[KG,aEQ]at hc;obtain⟨g,g1,k,g2,hc⟩:=hc;split at hc
    ·simp only[aEU]at hc;obtain⟨l',h1,rfl⟩:=hc;refine⟨_,l',rfl,h1,fun{z h1 k1} e=>?_⟩;obtain⟨ad,v,q1,q2,q3,q4,q5⟩:=PH (P:=P) r g1 g2 (hs c) e;refine⟨v,?_,q3,q4,q5⟩;simp only[Fl];rw[q1];exact q2
    grind
  obtain⟨rv,l',rfl,hc',key⟩:=step1;simp only[E3,aEQ]at hz;obtain⟨⟨z,h1,k1⟩,e1,⟨vs',h2,k2⟩,e2,e3⟩:=hz;cases e3;obtain⟨v,f1,f2,f3,f4⟩:=key e1;obtain⟨us,g1,g2,g3,g4,g5⟩:=PL rs l' hc' f2 (f3.rs hs) e2;refine⟨v::us,by simp_all,by grind,g3,f3.trans g4,fun i c u hc hu=>?_⟩;cases i with
  |zero=>
   simp only[List.getElem?_cons_zero,Option.some.injEq]at hc hu;subst hc hu;cases k2 with
   |nil=>exact g4.rv f4
   |cons p k2=>
    simp only[Y3,yc];split
    ·exact .anyv _
    ·exact g4.rvk f4 (.inr γ)
  |succ i=>grind
end
structure Emb (L:List Nat) (f g:Nat->Nat) (h' h2:aj):Prop where
 back:∀id,L.contains id=true->g (f id)=id/\h2 (f id)=eP f (h' id)
 obj:∀i,h2 i≠ .dead->h2 i=eP f (h' (g i))/\aE L (h' (g i))=true
 inj:∀i j,h2 i≠ .dead->h2 j≠ .dead->g i=g j->i=j
section
variable {w:World} {X:Nat→Prop} {ρ:fL} {h' h2:aj} {A A2:Nat→Prop} {L:List Nat} {f g:Nat→Nat}
theorem MP{o}:eP f o=.dead↔o=.dead:=by cases o<;>simp[eP]
theorem adr(o):bf (eP f o)=bf o:=by cases o<;>rfl
def al2{c}{k}{rows}:eG f c=.osl k rows↔c=.osl k rows:=by cases c<;>simp[eG,lG]
theorem aiK(c):bI (eG f c)=bI c:=by cases c<;>rfl
def RV.embL(em:Emb L f g h' h2){c}{u}(hv:RV w A ρ h' c u)(hA:∀b,A b->A2 b)(hm:bA L c=true):RV w A2 (fun i s=>ρ (g i) s) h2 (lG f c) u:=by
 cases hv with
 |anyv u=>exact .anyv u
 |und=>exact .und
 |dat hd=>
  have:lG f c=c:=by cases hd<;>rfl
  rw[this];exact .dat (hd.mono fun b hb=>⟨hA b hb,rfl⟩)
 |ref id sub k i j hp=>
  simp only[bA,aEV]at hm;obtain⟨h1,h3⟩:=em.back id hm.1;cases sub with
  |some p=>grind
  |none=>
   have:=RV.ref (w:=w) (A:=A2) (ρ:=fun i s=>ρ (g i) s) (h:=h2) (f id) none k i j (by simp only[cZ,h3,ne_eq,MP];exact hp);simp only[h1]at this;exact this
 |rsl id sub k lo n cap a hp hn hb ha=>
  simp only[bA,aEV]at hm;obtain⟨h1,h3⟩:=em.back id hm.1;cases sub with
  |some p=>grind
  |none=>exact .rsl (f id) none k lo n cap a (by simp only[cZ,h3,ne_eq,MP];exact hp) hn γ γ
 |rsc id k lo n cap a hp hn hb ha=>simp[bA]at hm
 |ipt cs ad vals hA' hs hv hl hr=>exact .ipt cs ad vals (hA _ hA') hs hv hl (fun j c hc=>(hr j c hc).mono fun b hb=>⟨hA b hb,rfl⟩)
 |agg cs us hs h1 hr=>simp[bA]at hm
 |tup vs us hs hr=>simp[bA]at hm
 |fn ff x y us ts hs ht hx hy=>
  simp[bA]at hm;obtain⟨rfl,rfl⟩:=hm;exact .fn ff [] [] us ts hs ht (fun i c u hc=>by grind) (fun i c u hc=>by grind)
def RV.embA(em:Emb L f g h' h2){c}{u}(hv:RV w A ρ h' c u)(hA:∀b,A b->A2 b)(hm:be L c=true):RV w A2 (fun i s=>ρ (g i) s) h2 (eG f c) u:=by
 cases c with
 |agg cs=>
  simp only[be,aFc]at hm;obtain⟨us,rfl,hs,h1,hr⟩:=hv.agg_inv;refine .agg _ us γ h1 fun i c u hc hu=>?_;simp only[aFw,aEU]at hc;obtain⟨c',hc',rfl⟩:=hc;exact(hr i c' u hc' hu).embL em hA (hm c' (aE6 hc'))
 |fn ff x y=>
  simp only[be,aEV,aFc]at hm;obtain⟨us,ts,rfl,hs,ht,hx,hy⟩:=hv.fn_inv;refine .fn ff _ _ us ts γ γ (fun i c u hc hu=>?_) (fun i c u hc hu=>?_)
  ·simp only[aFw,aEU]at hc;obtain⟨c',hc',rfl⟩:=hc;exact(hx i c' u hc' hu).embL em hA (hm.1 c' (aE6 hc'))
  ·simp only[aFw,aEU]at hc;obtain⟨c',hc',rfl⟩:=hc;exact(hy i c' u hc' hu).embL em hA (hm.2 c' (aE6 hc'))
 |_=>
  exact hv.embL em hA hm
theorem Emb.live(em:Emb L f g h' h2){i}{s}(hl:live h2 i s):live h' (g i) s/\h2 i≠ .dead:=by
 have hd:h2 i≠ .dead:=aio hl|>fun hp=>by
  cases s with
  |none=>exact hp
  |some p=>obtain⟨_,_,_,e,_⟩:=hp;grind
 obtain⟨e,_⟩:=em.obj i hd;refine⟨?_,hd⟩;cases s with
 |none=>
  simp only[Ab.live,e]at hl;simp only[Ab.live];cases e2:h' (g i)<;>rw[e2]at hl<;>simp[eP]at hl⊢
 |some p=>
  obtain⟨cs,k,rows,e1,e2⟩:=hl;rw[e]at e1;cases e3:h' (g i)<;>rw[e3]at e1<;>simp only[eP]at e1<;>try (cases e1;done)
  rename_i cs';cases e1;simp only[aFw,aEU]at e2;obtain⟨c,e4,e5⟩:=e2;exact⟨cs',k,rows,e3,by rw[e4,al2.1 e5]⟩
def Rel.emb(em:Emb L f g h' h2)(r:Rel w X ρ h'){X2}(hX:∀b,XZ X2 b->b<w.heap.size)(hnx:∀i s,live h2 i s->¬XZ X2 (ρ (g i) s).1)(hA:∀b,aN w X h' ρ b->aN w X2 h2 (fun i s=>ρ (g i) s) b):
  Rel w X2 (fun i s=>ρ (g i) s) h2:=by
 refine⟨fun i s j t h1 h3 h4=>?_,hnx,fun i=>?_,hX⟩
 ·obtain⟨f1,f2⟩:=em.live h1;obtain⟨f3,f4⟩:=em.live h3;obtain⟨e1,e2⟩:=r.inj (g i) s (g j) t f1 f3 h4;exact⟨em.inj i j f2 f4 e1,e2⟩
 ·by_cases hd:h2 i=.dead
  ·rw[hd];trivial
  ·obtain⟨e,hc⟩:=em.obj i hd;have ho:=r.ob (g i);rw[e];cases e2:h' (g i)with
   |dead=>trivial
   |bx cs=>
    rw[e2]at ho hc;obtain⟨us,t,h1,h3,h4,h5⟩:=ho;refine⟨us,t,h1,h3,by grind,fun p c hp=>?_⟩;simp only[aFw,aEU]at hp;obtain⟨c',hp',rfl⟩:=hp;obtain⟨u,h6,h7⟩:=h5 p c' hp';refine⟨u,h6,?_⟩;simp only[aE,aFc]at hc;have hcc:=hc c' (aE6 hp');cases hO:bI c' with
    |true=>
     cases c'<;>simp[bI]at hO;obtain⟨a,cap,us',t',g1,g2,g3,g4,g5,g6,g7⟩:=h7;exact⟨a,cap,us',t',g1,g2,g3,g4,g5,g6,g7.mono fun b hb=>⟨hA b hb,rfl⟩⟩
    |false=>
     have hca:=by simpa [mh,hO]using hcc
     rw[yK hO]at h7;rw[yK (by rw[aiK];omega)];refine⟨h7.1.embA em hA hca,h7.2.1,?_⟩;have h8:=h7.2.2;cases c'<;>first|exact h8.elim|trivial|skip
     ·rename_i id sub _ _ _;cases sub with
      |some p=>exact h8.elim
      |none=>
       simp only[be,bA,aEV]at hca;obtain⟨_,e3⟩:=em.back id hca.1;simp only[eG,lG,qZ]at h8⊢;rw[e3,adr];omega
     ·simp only[qZ,aEV,aFc]at h8;simp only[eG,qZ,aEV,aFc,aFN];have key:∀c,aI c=true->aI (lG f c)=true:=fun c hd=>by cases c<;>simp[aI,lG]at hd⊢ <;>exact hd
      grind
   |ar k rows=>
    rw[e2]at ho;obtain⟨us,t,h1,h3,h4,h5⟩:=ho;exact⟨us,t,h1,h3,h4,h5.mono fun b hb=>⟨hA b hb,rfl⟩⟩
   |fz k rows=>
    rw[e2]at ho;obtain⟨h0,us,t,fr,h1,h3,h4,h5⟩:=ho;exact⟨hA _ h0,us,t,fr,h1,h3,h4,h5.mono fun b hb=>⟨hA b hb,rfl⟩⟩
end
theorem aps(c):lG (fun i=>i) c=c:=by cases c<;>rfl
theorem Zf{f}(hf:∀a,f a=a)(l:List α):l.map f=l:=by
 rw[show f=id from funext hf,List.map_id]
theorem apt(c):eG (fun i=>i) c=c:=by
 cases c<;>simp[eG,lG,Zf aps]
theorem Us(o):eP (fun i=>i) o=o:=by
 cases o<;>simp[eP,Zf apt]
section
variable {L:List Nat} {g:Nat→Nat} {h' h2:aj}
theorem Emb.add(em:Emb L (fun i=>i) g h' h2){m id}(hm:h2 m=.dead)(hL:L.contains m=false)(hid:∀i,h2 i≠ .dead->g i≠id)(hcl:aE L (h' id)=true):Emb L (fun i=>i) (upd g m id) h' (upd h2 m (h' id)):=by
 refine⟨fun i hi=>?_,fun i hi=>?_,fun i j hi hj hg=>?_⟩
 ·have hne:i≠m:=γ
  rw[aW _ _ hne,aW _ _ hne];exact em.back i hi
 ·by_cases e:i=m
  ·subst e;rw[aD,aD,Us];grind
  ·rw[aW _ _ e]at hi⊢;rw[aW _ _ e];exact em.obj i hi
 ·by_cases e:i=m<;>by_cases e':j=m
  ·rw[e,e']
  ·subst e;rw[aD,aW _ _ e']at hg;rw[aW _ _ e']at hj;grind
  ·subst e';rw[aD,aW _ _ e]at hg;rw[aW _ _ e]at hi;grind
  ·rw[aW _ _ e]at hi;rw[aW _ _ e']at hj;rw[aW _ _ e,aW _ _ e']at hg;exact em.inj i j hi hj hg
def D7{n i}:(dJ n).contains i=true↔1000<=i/\i<1000+n:=by
 grind[dJ,List.mem_range']
theorem xK(h':aj)(n i):az ((dJ n).map h') i=if 1000<=i/\i<1000+n then h' i else .dead:=by
 unfold az;by_cases h1:1000<=i
 ·rw[if_pos h1];by_cases h2:i<1000+n
  ·have:(dJ n)[i-1000]?=some i:=by
    unfold dJ;grind
   grind
  ·rw[if_neg ω,aFw,List.getElem?_eq_none (by grind[dJ])];rfl
 grind
def Emb.base{n}(hcl:((dJ n).all fun i=>aE (dJ n) (h' i))=true):Emb (dJ n) (fun i=>i) (fun i=>i) h' (az ((dJ n).map h')):=by
 refine⟨fun i hi=>⟨rfl,?_⟩,fun i hi=>?_,fun i j _ _ hg=>hg⟩
 ·rw[xK,if_pos (D7.1 hi),Us]
 ·rw[xK]at hi⊢;split at hi
  ·rename_i h1;rw[if_pos h1,Us];exact⟨rfl,List.all_eq_true.1 hcl i (by simpa using D7.2 h1)⟩
  grind
end
section
variable {w:World} {X:Nat→Prop} {ρ:fL} {h' h2:aj} {A A2:Nat→Prop}
def Ot{b k lo n cap}{us}{e}{fr}{rows}{a}(hb:w.heap[b]?=some (.cells us e fr))(hA2:A2 b)(hA:∀b,A b->A2 b)(hr:dG w A k rows us)
  (hle:lo+n<=O rows) (hn:n<=cap) (ha:cap=0\/a=some ⟨b,lo*k,none⟩):RD w A2 (tJ k lo n rows) (.slice a n cap):=
 sK hb hA2 (hr.mono fun b hb=>⟨hA b hb,rfl⟩) hle hn ha
def aoG(w:World)(A:Nat->Prop)(ρ:fL)(h':aj)(a b:AV)(u:Value):Prop:=
 (∃id k rows,b=.osl k rows/\a=.rsl id none k 0 (O rows)/\h' id=.ar k rows/\bu id=false)\/
 (∃id cs,b=.obx cs/\a=.ref id none 0 0 0/\h' id=.bx cs/\cs.all qh=true/\bu id=false)\/
 (b=a/\∃id k i j,a=.ref id none k i j/\bu id=true)\/
 (b=a/\aI a=true)\/
 (aI b=true/\∀A2,(∀b,A b->A2 b)->(∀id sub,ip a=[id]->live h' id sub->A2 (ρ id sub).1)->RD w A2 b u)
def GC(r:Rel w X ρ h'){a b}{u}(hv:RV w (aN w X h' ρ) ρ h' a u)(he:qk h' a=some b):aoG w (aN w X h' ρ) ρ h' a b u:=by
 have dl:aI a=true->qk h' a=some a->aoG w (aN w X h' ρ) ρ h' a b u:=fun hd hq=>by
  rw[hq]at he;cases he;exact .inr (.inr (.inr (.inl ⟨rfl,hd⟩)))
 cases a with
 |rsl id sub k lo n=>
  obtain⟨a,cap,rfl,hp,hn,hb,ha⟩:=hv.rsl_inv;cases sub with
  |none=>
   simp only[qk]at he;split at he
   ·grind
   ·have ho:=r.ob id;cases e:h' id with
    |dead=>rw[e]at he;cases he
    |ar k' rows=>
     rw[e]at he ho;simp only[FU]at he;split at he
     ·rename_i hc;obtain⟨rfl,hle⟩:=hc;split at he
      ·rename_i hw;obtain⟨rfl,rfl⟩:=hw;cases he;exact .inl ⟨id,k',rows,rfl,rfl,e,by grind⟩
      ·cases he;obtain⟨us,t,h1,h3,h4,h5⟩:=ho;exact .inr (.inr (.inr (.inr ⟨rfl,fun A2 hA hl=>Ot h1 (hl id none rfl (by grind[live])) hA h5 hle hn ha⟩)))
     grind
    |fz k' rows=>
     rw[e]at he ho;simp only[FU]at he;split at he
     ·rename_i hc;obtain⟨rfl,hle⟩:=hc;cases he;obtain⟨h0,us,t,fr,h1,h3,h4,h5⟩:=ho;exact .inr (.inr (.inr (.inr ⟨rfl,fun A2 hA hl=>Ot h1 (hA _ h0) hA h5 hle hn ha⟩)))
     grind
    |bx cs=>
     rw[e]at he;simp only[FU]at he;split at he
     ·rename_i hc;obtain⟨rfl,hle,hd⟩:=hc;cases he;obtain⟨us,t,h1,h3,h4,h5⟩:=r.cell e;refine .inr (.inr (.inr (.inr ⟨rfl,fun A2 hA hl=>sK h1 (hl id none rfl (by grind[live])) (fun i row hi=>?_) (by grind[zQ]) hn ha⟩)));simp only[zQ,aFw,aEU]at hi;obtain⟨c,hc,rfl⟩:=hi;refine⟨rfl,fun j d hj=>?_⟩;cases j with
      |succ j=>grind
      |zero=>
       simp at hj;subst hj;obtain⟨u,h6,h7⟩:=h5 i c hc;have hdc:=List.all_eq_true.1 hd c (aE6 hc);exact⟨u,by grind,Qj h7 hdc hA (fun k rows ec=>by subst ec;exact hl id (some i) rfl ⟨cs,k,rows,e,hc⟩),KL hdc⟩
     grind
  |some p=>
   simp only[qk]at he;split at he
   ·grind
   ·cases e:h' id with
    |bx cs=>
     rw[e]at he;simp only[ni]at he;cases ec:cs[p]? with
     |none=>rw[ec]at he;cases he
     |some c=>
      rw[ec]at he;cases c<;>simp only[BA,ar6]at he<;>try (cases he;done)
      split at he
      ·rename_i hc;obtain⟨rfl,hle⟩:=hc;cases he;obtain⟨us,t,h1,h3,h4,h5⟩:=r.cell e;obtain⟨u,_,a',cap',us',t',_,_,_,q4,q5,q6,q7⟩:=h5 p _ ec;exact .inr (.inr (.inr (.inr ⟨rfl,fun A2 hA hl=>Ot q4 (hl id (some p) rfl ⟨cs,_,_,e,ec⟩) hA q7 hle hn ha⟩)))
      grind
    |_=>rw[e]at he;cases he
 |ref id sub k i j=>
  cases sub with
  |some p=>grind[qk,aI]
  |none=>
   simp only[qk]at he;split at he
   ·rename_i hps;cases he;exact .inr (.inr (.inl ⟨rfl,id,k,i,j,rfl,hps⟩))
   ·split at he
    ·rename_i hc;obtain⟨rfl,rfl,rfl⟩:=hc;cases e:h' id<;>rw[e]at he<;>simp only[afQ]at he<;>try (cases he;done)
     split at he
     ·rename_i hd;cases he;exact .inr (.inl ⟨id,_,rfl,rfl,e,hd,by grind⟩)
     grind
    grind
 |fn f x y=>
  grind[qk]
 |any=>exact dl rfl rfl
 |v x=>exact dl rfl rfl
 |emp=>exact dl rfl rfl
 |sl k rows=>exact dl rfl rfl
 |_=>simp[qk,aI]at he
theorem Zg{b c}(hdl:aI b=true)(hd:FV b=some c):c=b:=by
 unfold FV at hd;split at hd
 all_goals simp_all[aI,if_pos]
theorem Sn(r:Rel w X ρ h'){a b c}{u}(hv:RV w (aN w X h' ρ) ρ h' a u)(h1:u.oneCell'=true)(he:qk h' a=some b)(hd:FV b=some c):
  aI c=true/\∀A2,(∀b,aN w X h' ρ b->A2 b)->(∀id sub,ip a=[id]->live h' id sub->A2 (ρ id sub).1)->RD w A2 c u:=by
 rcases GC r hv he with⟨id,k,rows,rfl,rfl,e,_⟩| ⟨id,cs,rfl,_⟩| ⟨rfl,id,k,i,j,rfl,_⟩| ⟨rfl,hdl⟩| ⟨hdl,hr⟩
 ·simp only[FV,Option.some.injEq]at hd;subst hd;refine⟨rfl,fun A2 hA hl=>?_⟩;obtain⟨a,cap,rfl,hp,hn,hb,ha⟩:=hv.rsl_inv;have ho:=r.ob id;rw[e]at ho;obtain⟨us,t,g1,g2,g3,g4⟩:=ho;have:=Ot (w:=w) (A2:=A2) (lo:=0) g1 (hl id none rfl (by grind[live])) hA g4 ω hn ha;grind[tJ]
 ·grind[FV,aI]
 ·grind[FV,aI]
 ·have:=Zg hdl hd;subst this;exact⟨hdl,fun A2 hA _=>(hv.toD hdl h1).mono fun b hb=>⟨hA b hb,rfl⟩⟩
 grind[Zg]
def PM(r:Rel w X ρ h'):∀cs ds,qp h' cs=some ds->O ds=O cs/\∀ (i:Nat) a c u,cs[i]?=some a->ds[i]?=some c->RV w (aN w X h' ρ) ρ h' a u->u.oneCell'=true->
  aI c=true/\∀A2,(∀b,aN w X h' ρ b->A2 b)->(∀id sub,ip a=[id]->live h' id sub->A2 (ρ id sub).1)->RD w A2 c u
 |[],ds,he=>by grind[qp]
 |a::cs,ds,he=>by
  simp only[qp,aEQ]at he;obtain⟨b,e1,c,e2,q,e3,e4⟩:=he;obtain⟨g1,g2⟩:=PM r cs q e3;refine⟨by grind,fun i a' c' u hc hd hv h1=>?_⟩;cases i with
  |zero=>
   grind[Sn]
  |succ i=>grind
end
def Hg(f:aj->Option R3)(p:aj->aj->Fp)(h:aj)(x:AV)(h':aj)(r w:List Nat):Prop:=
 ∀g,(∀i,du i∈r\/du i∈w->g i=h i)->∃g',f g=some (x,g',[])/\p g g'=some (r,w)/\(∀i,du i∈w->g' i=h' i)/\(∀i,du i∉w->g' i=g i)
section
variable {h h' g:aj} {x:AV} {r w:List Nat}
def Jk{f:aj->Option R3}{p:aj->aj->Fp}(hw:w=[])(hp:∀g g',p g g'=some (r,w))(hf:∀g,(∀i,du i∈r->g i=h i)->f g=some (x,g,[])):Hg f p h x h' r w:=fun g hg=>by
 simp_all
def sN{f:aj->Option R3}{p:aj->aj->Fp}{d}{o}(hd:du d∈w)(hh:h'=upd h d o)(hp:∀g g',p g g'=some (r,w))(hf:∀g,g d=h d->f g=some (x,upd g d o,[])):Hg f p h x h' r w:=fun g hg=>by
 refine⟨upd g d o,hf g (hg d (.inr hd)),hp g _,fun i hi=>?_,fun i hi=>?_⟩
 ·simp_all[upd]
 grind[upd,absurd]
theorem al3{a}(hd:aI a=true)(h):iJ h a=some (a,h,[]):=by
 cases a<;>simp[aI]at hd<;>simp[iJ,aI,hd]
theorem qH:∀ {xs},xs.all aI=true->∀h,kX h xs=some (xs,h,[])
 |[],_,h=>rfl
 |a::l,hd,h=>by
  simp only[aFa,aEV]at hd;simp only[kX,al3 hd.1 h,qH hd.2 h,aEZ,aE8]
theorem GD{a}{xs}(hd:dat a=true)(hc:ke a=some xs):xs.all aI=true:=by
 cases a<;>simp only[dat,aI,ke,Option.some.injEq]at hd hc<;>first| (cases hc;done)| (cases hd;done)|skip
 all_goals grind[aI]
def Hh{k}:∀ {ps} {rows rows'} {h h'} {ks},(ps.all fun p=>dat p.2)=true->gB k h rows ps=some (rows',h',ks)->h'=h/\ks=[]/\∀g,gB k g rows ps=some (rows',g,[])
 |[],rows,rows',h,h',ks,_,hz=>by
  grind[gB,Option.some.injEq,Prod.mk.injEq]
 | (i,a)::ps,rows,rows',h,h',ks,hd,hz=>by
  simp only[aFa,aEV]at hd;simp only[gB,aEQ]at hz;obtain⟨cs,e1,hz⟩:=hz;split at hz
  ·have hcs:=GD hd.1 e1;simp only[qH hcs h,aEZ,aEQ]at hz;obtain⟨⟨r1,r2,r3⟩,e2,e3⟩:=hz;obtain⟨q1,q2,q3⟩:=Hh hd.2 e2
   simp_all[gB,aEZ,if_pos,qH,aE5]
  grind
theorem MQ{k k0 i j}{agg}{o}{ks}(hz:sE h k agg k0 i j o=some (x,h',ks)):h'=h/\ks=[]/\∀g,sE g k agg k0 i j o=some (x,g,[]):=by
 cases o with
 |none=>cases hz
 |some q=>
  simp only[sE]at hz;split at hz
  ·simp only[aEQ,aEU]at hz;obtain⟨row,e1,a,e2,e3⟩:=hz
   simp_all[sE,if_pos,aEZ,aFK]
  grind
theorem aiL{k id k0 i j}{agg}{o}(hz:EX h k agg id k0 i j o=some (x,h',[])):h'=h/\∀g,EX g k agg id k0 i j o=some (x,g,[]):=by
 cases o with
 |dead=>cases hz
 |bx cs=>
  simp only[EX,Kz]at hz⊢;grind
 |ar k' rows=>
  grind[EX,MQ]
 |fz k' rows=>
  grind[EX,MQ]
def agu{k}{agg}{a}(hz:kY h k agg a=some (x,h',[]))(hp:yI a=some (r,w)):Hg (fun g=>kY g k agg a) (fun _ _=>yI a) h x h' r w:=by
 cases a<;>simp only[yI]at hp<;>try (cases hp;done)
 case ipt cs=>
  cases hp;refine Jk rfl (fun _ _=>rfl) fun g _=>?_;grind[kY,aEU]
 case ref id sub k0 i j=>
  cases hp;refine Jk rfl (fun _ _=>rfl) fun g hg=>?_;cases sub with
  |none=>
   grind[kY,aiL]
  |some p=>
   grind[kY,MQ]
def acF{k}{a y}(hz:pC h k a y=some (x,h',[]))(hp:EY y a=some (r,w)):Hg (fun g=>pC g k a y) (fun _ _=>EY y a) h x h' r w:=by
 cases a<;>simp only[EY]at hp<;>try (cases hp;done)
 rename_i id sub k0 i j;split at hp
 ·rename_i hd;cases hp;simp only[pC,aEQ]at hz;obtain⟨xs,e1,hz⟩:=hz;have hxs:=GD hd e1;split at hz
  ·cases sub with
   |none=>
    simp only at hz;cases eo:h id with
    |bx cs=>
     rw[eo]at hz;simp only[Jd,Uj]at hz;split at hz
     ·simp only[Option.some.injEq,Prod.mk.injEq]at hz;obtain⟨rfl,rfl,e3⟩:=hz;refine sN σ rfl (fun _ _=>by simp_all[EY,if_pos]) fun g hg=>?_
      simp_all[pC,aEZ,if_pos,Jd,Uj,if_true]
     grind
    |ar k' rows=>
     simp only[Jd,qH hxs h,aEZ,eo,Uk,aEU]at hz;obtain⟨q,e2,e3⟩:=hz;cases e3;refine sN σ rfl (fun _ _=>by simp_all[EY,if_pos]) fun g hg=>?_
     simp_all[pC,aEZ,if_pos,Jd,qH,Uk,aFK]
    |_=>rw[eo]at hz;cases hz
   |some p=>
    simp only[qH hxs h,aEZ]at hz;cases eo:h id with
    |bx cs=>
     rw[eo]at hz;simp only[Iu]at hz;cases ec:cs[p]? with
     |none=>rw[ec]at hz;cases hz
     |some c=>
      rw[ec]at hz;cases c<;>simp only[afO]at hz<;>try (cases hz;done)
      simp only[aEU]at hz;obtain⟨q,e2,e3⟩:=hz;cases e3;refine sN σ rfl (fun _ _=>by simp_all[EY,if_pos]) fun g hg=>?_
      simp_all[pC,aEZ,if_pos,Iu,qH,afO,aFK]
    |_=>rw[eo]at hz;cases hz
  grind
 grind
end
theorem asi{a b}(h:YY a b=true):a=b:=by
 cases a<;>cases b<;>simp only[YY]at h<;>try (cases h;done)
 case string.string x y=>
  obtain⟨⟨x⟩⟩:=x
  simp_all
 all_goals grind
mutual
theorem asj:∀ {a b:AV},YZ a b=true->a=b
 |a,b,h=>by
  cases a<;>cases b<;>simp only[YZ]at h<;>try (first|rfl| (cases h;done))
  case v.v=>rw[asi h]
  case sl.sl=>simp only[aEV,decide_eq_true_eq]at h;rw[h.1,MR h.2]
  case osl.osl=>simp only[aEV,decide_eq_true_eq]at h;rw[h.1,MR h.2]
  case obx.obx=>rw[CY h]
  case agg.agg=>rw[CY h]
  case ref.ref=>grind
  case rsl.rsl=>grind
  case ipt.ipt=>rw[CY h]
  case fn.fn=>simp only[aEV,decide_eq_true_eq]at h;rw[h.1,CY h.2.1,CY h.2.2]
theorem CY:∀ {a b:List AV},DQ a b=true->a=b
 |[],[],_=>rfl
 |[],_::_,h=>by cases h
 |_::_,[],h=>by cases h
 |a::l,b::r,h=>by
  simp only[DQ,aEV]at h;rw[asj h.1,CY h.2]
theorem MR:∀ {a b:List (List AV)},LT a b=true->a=b
 |[],[],_=>rfl
 |[],_::_,h=>by cases h
 |_::_,[],h=>by cases h
 |a::l,b::r,h=>by
  simp only[LT,aEV]at h;rw[CY h.1,MR h.2]
end
def al4{a b}(h:Oh a b=true):a=b:=by
 cases a<;>cases b<;>simp only[Oh]at h<;>try (first|rfl| (cases h;done))
 case bx.bx=>rw[CY h]
 case ar.ar=>grind[MR]
 case fz.fz=>grind[MR]
theorem aiM{g h g' h'}{ids}(e:∀i,i∈ids->g i=h i)(e':∀i,i∈ids->g' i=h' i):Ff g g' ids=Ff h h' ids:=by
 grind[Ff,List.filter_congr]
theorem al5{h h'}{ids}{i}(hi:i∈ids)(hn:du i∉ (Ff h h' ids).map du):h' i=h i:=by
 by_cases hs:Oh (h i) (h' i)=true
 ·exact(al4 hs).symm
 ·refine absurd (List.mem_map.2 ⟨i,?_,rfl⟩) hn;simp only[Ff,List.mem_filter];exact⟨hi,by simpa using hs⟩
theorem KP{a}:∀ {r l},a∈l->a∈bD l r
 |[],l,h=>h
 |b::r,l,h=>by
  unfold bD;apply KP;split
  ·exact h
  ·simp[h]
def Hi:∀ {r l},l.Nodup->(bD l r).Nodup
 |[],l,h=>h
 |b::r,l,h=>by
  unfold bD;apply Hi;split
  ·exact h
  ·rename_i hc;rw[List.nodup_append];refine⟨h,by simp,fun a ha c hc'=>?_⟩;simp only[List.mem_singleton]at hc';subst hc'
   rintro rfl
   exact hc (by simpa using ha)
theorem Wm{h}{a}:∀ {n} {l} {i},a∈l->a∈bO h n l i
 |0,l,i,hm=>hm
 |n+1,l,i,hm=>by
  unfold bO;split
  ·exact hm
  ·exact Wm (KP hm)
def PN{h}:∀ {n} {l} {i},l.Nodup->(bO h n l i).Nodup
 |0,l,i,hm=>hm
 |n+1,l,i,hm=>by
  unfold bO;split
  ·exact hm
  ·exact PN (Hi hm)
theorem Jl{g h}:∀ {n} {l} {i},(∀a,a∈bO h n l i->g a=h a)->bO g n l i=bO h n l i
 |0,l,i,_=>rfl
 |n+1,l,i,hg=>by
  unfold bO at hg⊢;split
  ·rfl
  ·rename_i a ha;rw[ha]at hg;rw[hg a (Wm (KP (aE6 ha)))];exact Jl hg
theorem Wn(h)(n):bO h n [] 0=[]:=by cases n<;>simp[bO]
theorem Zh{a}(h:aI a=true):ip a=[]:=by cases a<;>simp[aI]at h<;>rfl
theorem Zi{a}(h:dat a=true):cF a=[]:=by
 cases a<;>simp only[dat]at h<;>try exact Zh h
 all_goals simp_all[cF,List.flatMap_eq_nil_iff,Zh,aI,aEV,List.isEmpty_iff]
theorem Wo{a}(h:dat a=true):CS a=true:=by
 have key:∀c,aI c=true->wO c=true:=fun c hc=>by cases c<;>simp[aI]at hc<;>rfl
 cases a<;>simp only[dat]at h<;>try exact key _ h
 all_goals simp_all[aI,aEV,List.isEmpty_iff,CS]
section
variable {h h' g:aj} {x:AV}
def PO:∀ {cs} {q},cs.all wO=true->kX h cs=some q->q=(cs,h,[])/\∀g,kX g cs=some (cs,g,[])
 |[],q,_,hz=>by cases hz;exact⟨rfl,fun g=>rfl⟩
 |c::cs,q,hd,hz=>by
  simp only[aFa,aEV]at hd;simp only[kX,aEQ]at hz;obtain⟨p,e1,q',e2,e3⟩:=hz;have hc:p=(c,h,[])/\∀g,iJ g c=some (c,g,[]):=by
   cases c<;>simp only[wO]at hd<;>simp only[iJ]at e1⊢ <;>first| (cases hd.1;done)|skip
   all_goals
    split at e1
    ·rename_i hdl;simp only[if_pos hdl];cases e1;exact⟨rfl,fun g=>by first|trivial|rfl⟩
    ·cases e1
  obtain⟨rfl,hc2⟩:=hc;obtain⟨rfl,q2⟩:=PO hd.2 e2;cases e3;refine⟨rfl,fun g=>?_⟩;simp only[kX,hc2 g,aEZ,q2 g,aE8]
def acG{m}{a}{q}(hd:CS a=true)(hz:eM h m a=some q):q=(a,h,[])/\∀g,eM g m a=some (a,g,[]):=by
 have key:∀c,(∀cs,c≠ .agg cs)->wO c=true->Av h c=some q->q=(c,h,[])/\∀g,Av g c=some (c,g,[]):=by
  intro c hna hc hz;have e1:∀g,Av g c=if aI c then some (c,g,[])else none:=by
   intro g;cases c<;>simp only[wO]at hc<;>first| (cases hc;done)| (exact absurd rfl (hna _))|rfl
  grind
 cases a with
 |agg cs=>
  simp only[eM,Av,aEQ]at hz⊢;obtain⟨p,e1,e2⟩:=hz;obtain⟨rfl,q2⟩:=PO hd e1;grind
 |rsl=>grind[CS,wO]
 |rsc=>grind[CS,wO]
 |ref id sub k i j=>
  cases sub with
  |none=>
   simp_all[eM,Option.some.injEq,trivial]
  |some p=>exact key _ (fun cs=>by simp) rfl hz
 |ipt cs=>
  simp_all[eM,Option.some.injEq,trivial]
 |fn f u v=>
  simp_all[eM,Option.some.injEq,trivial]
 |_=>exact key _ (fun cs=>by simp) rfl hz
def MS:∀ {l} {ms} {q},l.all CS=true->cr h ms l=some q->q=(l,h,[])/\∀g,cr g ms l=some (l,g,[])
 |[],ms,q,_,hz=>by cases hz;exact⟨rfl,fun g=>rfl⟩
 |a::l,ms,q,hd,hz=>by
  simp only[aFa,aEV]at hd;simp only[cr,aEQ]at hz;obtain⟨p,e1,q',e2,e3⟩:=hz;obtain⟨rfl,p2⟩:=acG hd.1 e1;obtain⟨rfl,q2⟩:=MS hd.2 e2;cases e3;refine⟨rfl,fun g=>?_⟩;simp only[cr,p2 g,aEZ,q2 g,aE8]
theorem Zj{ids}{i}:∀ {l} {os} {g h},g i=h i->fw g ids l os i=fw h ids l os i
 |[],os,g,h,e=>by simp_all[fw]
 |a::l,[],g,h,e=>by simp_all[fw]
 |a::l,o::os,g,h,e=>by
  simp only[fw];apply Zj;unfold upd;split
  ·rfl
  ·exact e
theorem Ca{ids}{i}:∀ {l} {os} {g},i∉l->fw g ids l os i=g i
 |[],os,g,_=>rfl
 |a::l,[],g,_=>rfl
 |a::l,o::os,g,hn=>by
  simp only[List.mem_cons,not_or]at hn;simp only[fw];rw[Ca hn.2];exact aW _ _ hn.1
theorem Qk(n)(g h)(c):(eS n g c).1=(eS n h c).1:=by cases c<;>rfl
def ads{n i}{g h}{c}(e:g i=h i):(eS n g c).2 i=(eS n h c).2 i:=by
 cases c<;>simp only[eS]<;>first|exact e| (unfold upd;split;rfl;exact e)
theorem Zk{n i}{g}{c}(hn:i≠n):(eS n g c).2 i=g i:=by
 cases c<;>simp only[eS]<;>first|rfl|exact aW _ _ hn
theorem Zl:∀l n g h,(dB n g l).1=(dB n h l).1
 |[],n,g,h=>rfl
 |c::l,n,g,h=>by simp only[dB];rw[Qk n g h,Zl l (n+1) _ (eS n h c).2]
def adt{i}:∀ {l} {n} {g h},g i=h i->(dB n g l).2 i=(dB n h l).2 i
 |[],n,g,h,e=>e
 |c::l,n,g,h,e=>by simp only[dB];exact adt (ads e)
theorem Zm{i}:∀ {l} {n} {g},¬ (n<=i/\i<n+O l)->(dB n g l).2 i=g i
 |[],n,g,hn=>rfl
 |c::l,n,g,hn=>by
  simp only[dB];simp only[aFk]at hn;rw[Zm ω,Zk ω]
theorem adu(n)(g h)(c):(mat n g c).1=(mat n h c).1:=by
 cases c<;>simp only[mat]<;>first|exact Qk _ _ _ _|rw[Zl]
theorem aiN{n i}{g h}{c}(e:g i=h i):(mat n g c).2 i=(mat n h c).2 i:=by
 cases c<;>simp only[mat]<;>first|exact ads e|exact adt e
theorem D8{n i}{g}{c}(hn:¬ (n<=i/\i<n+cV c)):(mat n g c).2 i=g i:=by
 cases c<;>simp only[mat]<;>simp only[cV]at hn<;>first|exact Zk ω|exact Zm hn
theorem PP{g h}:∀ {m n},(∀i,n<=i->i<n+m->g i=h i)->bV g n m=bV h n m
 |0,n,_=>rfl
 |m+1,n,hg=>by
  simp only[bV];rw[hg n ω ω,PP fun i h1 h2=>hg i ω ω]
theorem LV{g h}{gv}:∀ {l} {os},(∀a,a∈l->g a=h a)->dk g gv l os=dk h gv l os
 |[],os,_=>rfl
 |a::l,[],_=>rfl
 |a::l,o::os,hg=>by
  simp only[dk];rw[hg a σ,LV fun b hb=>hg b (by simp[hb])]
theorem IB{d i}(h1:2000+8*d<=i)(h2:i<2000+8*d+8):du i=2000+8*d:=by
 unfold du;grind
def Xx{kp}{d}{ids}{gv}{r}(hz:fG kp h d ids [] gv r=some (x,h',[]))(hg:∀i,du i∈ids.map du++[2000+8*d]->g i=h i):
  ∃g',fG kp g d ids [] gv r=some (x,g',[])/\(∀i,du i∈ids.map du++[2000+8*d]->g' i=h' i)/\(∀i,du i∉ids.map du++[2000+8*d]->g' i=g i)/\∀i,i∉ids->du i≠2000+8*d->h' i=h i:=by
 unfold fG at hz⊢;split at hz
 ·rename_i hc;simp only[Option.some.injEq,Prod.mk.injEq,aE5,List.append_eq_nil_iff]at hz;obtain⟨rfl,rfl,hk,rfl⟩:=hz;obtain⟨c1,c0,c2,c3,c4,c5⟩:=hc;have hfr:bV g (2000+8*d) (cV r.1)=true:=by
   grind[PP,IB]
  have hst:dk g [] ids r.2=true:=by grind[LV]
  refine⟨(mat (2000+8*d) (fw g ids ids r.2) r.1).2,?_,fun i hi=>?_,fun i hi=>?_,fun i hi hi2=>?_⟩
  ·rw[if_pos ⟨c1,c0,c2,hfr,hst,c5⟩,hk];simp only[ie,aE8];rw[adu _ (fw g ids ids r.2) (fw h ids ids r.2)]
  ·simp only[ie];grind[aiN,Zj]
  ·rw[D8 (fun hh=>hi (by grind[IB])),Ca (fun hh=>hi γ)]
  ·simp only[ie];rw[D8 (fun hh=>hi2 (IB hh.1 ω)),Ca hi]
 grind
theorem acH{call}{md}{d}{f}{zas}{r w}(hz:eU call md h d zas f=some (x,h',[]))(hp:hF h d (sF zas f) h'=some (r,w)):
  Hg (fun g=>eU call md g d zas f) (fun g=>hF g d (sF zas f)) h x h' r w:=by
 cases f<;>simp only[eU]at hz<;>try (cases hz;done)
 rename_i fid a b;simp only[sF]at hp;simp only[aEQ]at hz;obtain⟨p,e1,e2⟩:=hz;have hno:(a++zas++b).all CS=true:=by
  grind[hF,aFc,Wo]
 obtain⟨rfl,e3⟩:=MS hno e1;generalize hI:bO h 40 (bD [] ((a++zas++b).flatMap cF)) 0=ids at*
 have hids:(∀i,i∈ids->du i∈r)/\w=(Ff h h' ids).map du++[2000+8*d]/\
   (∀g g',(∀i,i∈ids->g i=h i)->(∀i,i∈ids->g' i=h' i)->hF g d (a++zas++b) g'=some (r,w)):=by
  unfold hF at hp;split at hp
  ·cases hp;have:(a++zas++b).flatMap cF=[]:=by
    grind[List.flatMap_eq_nil_iff,Zi]
   rw[this]at hI;simp only[bD,Wn]at hI;subst hI;refine⟨fun i hi=>by grind,rfl,fun g g' _ _=>?_⟩
   simp_all[hF,if_pos]
  ·rename_i hd;rw[hI]at hp;cases hp;refine⟨fun i hi=>List.mem_map.2 ⟨i,hi,rfl⟩,rfl,fun g g' hg hg'=>?_⟩;unfold hF;have hre:bO g 40 (bD [] ((a++zas++b).flatMap cF)) 0=ids:=by
    grind[Jl]
   rw[if_neg hd,if_pos hno,hre,aiM hg hg']
 obtain⟨hi1,hi2,hi3⟩:=hids;intro g hg;have hat:=fun i hi=>hg i (.inl (hi1 i hi));have hre:bO g 40 (bD [] ((a++zas++b).flatMap cF)) 0=ids:=by
  grind[Jl]
 unfold lg at e2;split at e2
 ·simp only[aEQ]at e2;obtain⟨res,e4,e5⟩:=e2;have hgl:∀i,du i∈ids.map du++[2000+8*d]->g i=h i:=fun i hi=>by
   grind
  obtain⟨g',g1,g2,g3,g4⟩:=Xx e5 (g:=g) hgl;have hat':=fun i hi=>g2 i (List.mem_append_left _ (List.mem_map.2 ⟨i,hi,rfl⟩));refine⟨g',?_,hi3 g g' hat hat',fun i hi=>g2 i ?_,fun i hi=>?_⟩
  ·simp only[eU,e3 g,aEZ,hre];unfold lg;have hmap:ids.map (fun a=>eP (bh ids) (g a))=ids.map fun a=>eP (bh ids) (h a):=aFn fun i hi=>by rw[hat i hi]
   grind
  ·rw[hi2]at hi;rcases List.mem_append.1 hi with hi|hi
   ·refine List.mem_append_left _ ?_;obtain⟨a,ha,hae⟩:=List.mem_map.1 hi;exact List.mem_map.2 ⟨a,(List.mem_filter.1 ha).1,hae⟩
   grind
  grind[du,al5,List.mem_append_left]
 grind
def So{call}{md}{d}{f}{zas}{r w}(hz:bF call md h d zas f=some (x,h',[]))(hp:hF h d (sF zas f) h'=some (r,w)):
  Hg (fun g=>bF call md g d zas f) (fun g=>hF g d (sF zas f)) h x h' r w:=by
 have hb:¬lH md zas f=true:=by
  intro hb;have hno:∀l:List AV,l.all CS=true->l.any (fun x=>!R4 x)=false:=fun l hl=>by
   rw[List.any_eq_false];intro c hc;have:=List.all_eq_true.1 hl c hc;cases c<;>simp[CS,wO,R4]at this⊢
  cases f<;>simp only[lH,aEV]at hb<;>try (cases hb;done)
  simp only[sF]at hp;unfold hF at hp;split at hp
  ·rename_i hd;rw[hno _ (List.all_eq_true.2 fun c hc=>Wo (List.all_eq_true.1 hd c hc))]at hb;grind
  grind
 simp_all[bF,if_neg,acH]
def PQ{d}{x0 x}{h0 g0 h'}{k0}(hz:CR d (x0,h0,k0)=some (x,h',[]))(hg:∀i,du i=2000+8*d->g0 i=h0 i):
  k0=[]/\∃g',CR d (x0,g0,[])=some (x,g',[])/\(∀i,du i=2000+8*d->g' i=h' i)/\(∀i,du i≠2000+8*d->g' i=g0 i):=by
 unfold CR at hz⊢;simp only at hz⊢;split at hz
 ·rename_i id k lo n;split at hz
  ·rename_i hid;subst hid;have hgd:du (2000+8*d)=2000+8*d:=IB (aET _) ω;have he:=hg _ hgd;simp only[iJ]at hz⊢;rw[he];cases eo:h0 (2000+8*d)<;>rw[eo]at hz<;>simp only[qX]at hz⊢ <;>try (cases hz;done)
   ·simp_all
   ·split at hz
    ·rename_i hc;rw[if_pos hc];simp only[aFK,Option.some.injEq,Prod.mk.injEq,aE8]at hz;obtain⟨rfl,rfl,rfl⟩:=hz;refine⟨rfl,upd g0 (2000+8*d) (.fz k _),rfl,fun i hi=>?_,fun i hi=>?_⟩
     all_goals grind[upd,absurd]
    grind
   grind
  grind
 grind
def KQ{call}{md}{d}{op}{s}{r w}(hz:step call md d op s h=some (x,h',[]))(hp:jl d op s h h'=some (r,w)):
  Hg (fun g=>step call md d op s g) (fun g=>jl d op s g) h x h' r w:=by
 cases op with
 |p op=>
  obtain⟨rfl,rfl⟩:=hp;simp only[step,Ha,aEU]at hz;obtain⟨a,e1,e2⟩:=hz;cases e2;exact Jk rfl (fun _ _=>rfl) fun g _=>by simp only[step,Ha,e1,aFK]
 |alloc z=>
  obtain⟨rfl,rfl⟩:=hp;obtain⟨h1,rfl,rfl,_⟩:=pg hz;exact sN σ rfl (fun _ _=>rfl) fun g hg=>by grind[step,qY,FT]
 |box k y=>
  simp only[jl]at hp;split at hp
  ·rename_i hd;cases hp;simp only[step,G9,aEQ]at hz;obtain⟨xs,e1,hz⟩:=hz;split at hz
   ·rename_i hk;simp only[GD hd e1,if_true,qY]at hz;obtain⟨h1,rfl,rfl,_⟩:=pg hz;refine sN σ rfl (fun _ _=>by simp_all[jl,if_pos]) fun g hg=>?_;simp only[step,G9,aEZ,if_pos hk,GD hd e1,if_true,qY,FT, *]
   grind
  grind
 |buildSl k z n ps=>
  simp only[jl]at hp;split at hp
  ·rename_i hd;cases hp;simp only[step,aEQ]at hz;obtain⟨q,e1,hz⟩:=hz;have hd':((ps.map fun p=>(p.1,ev s p.2)).all fun p=>dat p.2)=true:=by
    grind
   obtain⟨e2,e3,e4⟩:=Hh hd' e1;obtain⟨q1,q2,q3⟩:=q;simp only at e2 e3 e4 hz;subst e2 e3;obtain⟨h1,rfl,rfl,_⟩:=pg hz;refine sN σ rfl (fun _ _=>by simp only[jl,if_pos hd]) fun g hg=>?_;simp only[step,e4 g,aEZ,dH,FT, *]
  grind
 |buildC k z n ps=>
  simp only[jl]at hp;split at hp
  ·rename_i hd;cases hp;simp only[step,aEQ]at hz;obtain⟨x0,⟨q,e1,hz⟩,hco⟩:=hz;have hd':((ps.map fun p=>(p.1,ev s p.2)).all fun p=>dat p.2)=true:=by
    grind
   obtain⟨e2,e3,e4⟩:=Hh hd' e1;obtain⟨q1,q2,q3⟩:=q;simp only at e2 e3 e4 hz;subst e2 e3;obtain⟨x1,x2,x3⟩:=x0;obtain⟨h1,rfl,rfl,rfl⟩:=pg hz;have hu:∀g (a b:Ob),upd (upd g d a) d b=upd g d b:=fun g a b=>by funext i;simp only[cz];split<;>rfl
   have key:∀g,g d=.dead->step call md d (.buildC k z n ps) s g=if 0+n<=O q1 then some (tJ k 0 n q1,upd g d (.fz k q1),[])else none:=fun g hg=>by
    simp only[step,e4 g,aEZ,dH,FT,Ix,iJ,qX,cz,if_true,true_and, *];split<;>simp
   simp only[Ix,iJ,qX,cz,if_true,true_and,hu]at hco;split at hco
   ·rename_i hle;cases hco;refine sN σ rfl (fun _ _=>by simp only[jl,if_pos hd]) fun g hg=>?_;rw[key g (by rw[hg];exact h1),if_pos hle]
   ·cases hco
  grind
 |mkSl k z b l c=>
  obtain⟨rfl,rfl⟩:=hp;simp only[step,aEQ]at hz;obtain⟨q,e1,hz⟩:=hz;split at hz
  ·obtain⟨h1,rfl,rfl,_⟩:=pg hz;refine sN σ rfl (fun _ _=>rfl) fun g hg=>?_
   simp_all[step,aEZ,if_pos,dH,FT]
  grind
 |load k g y=>exact agu hz hp
 |store k a y=>exact acF hz hp
 |app k b a y=>cases hp
 |cpy k x y=>cases hp
 |slcM k x lo hi=>cases hp
 |clr k z x=>cases hp
 |appz k b z x n=>cases hp
 |take x=>cases hp
 |call f zas=>exact So hz hp
 |callC f zas=>
  simp only[step,aEQ]at hz;obtain⟨⟨x0,h0,k0⟩,e1,e2⟩:=hz;simp only[jl,MB]at hp;split at hp
  ·cases hp;obtain⟨rfl,_⟩:=PQ (g0:=h0) e2 (fun _ _=>rfl);have hp1:hF h d (sF (zas.map (ev s)) (ev s f)) h0=some ([],[2000+8*d]):=by simp_all[hF,if_pos]
   intro g hg;obtain⟨g0,a1,a2,a3,a4⟩:=So e1 hp1 g hg;obtain⟨_,g',b1,b2,b3⟩:=PQ e2 (g0:=g0) (fun i hi=>a3 i γ)
   simp_all[bF,ev,step,jl,MB,if_pos]
  grind
 |bad=>cases hz
end
section
variable {call:j8} {md:Mode} {s:aM} {h:aj}
theorem jJ{s s'}{o}(hs:∀i,i∈jH o->s' i=s i):ev s' o=ev s o:=by
 cases o with
 |t n=>exact hs n (by simp[jH])
 |c a=>rfl
theorem Cb{s s'}{o}(hs:∀i,i∈uk o.toList->s' i=s i):evo s' o=evo s o:=by
 cases o with
 |none=>rfl
 |some o=>grind[evo,jJ,uk]
theorem IC{s s'}{l}(hs:∀i,i∈uk l->s' i=s i):l.map (ev s')=l.map (ev s):=
 aFn fun o ho=>jJ fun i hi=>hs i (by simp only[uk,List.mem_flatMap];exact⟨o,ho,hi⟩)
theorem aiO{s s'}{op}(hs:∀i,i∈R6 op->s' i=s i):jB s' op=jB s op:=by
 cases op<;>simp only[R6,List.mem_append]at hs<;>simp only[jB]
 case build z ps=>
  have:(ps.map fun p=>(p.1,p.2.1,ev s' p.2.2))=ps.map fun p=>(p.1,p.2.1,ev s p.2.2):=
   aFn fun p hp=>by rw[jJ fun i hi=>hs i (by rw[List.mem_flatMap];exact⟨p,hp,hi⟩)]
  rw[this]
 case mnx m x ys=>rw[jJ fun i hi=>hs i (.inl hi),IC fun i hi=>hs i (.inr hi)]
 case mkF f a b=>rw[IC fun i hi=>hs i (.inl hi),IC fun i hi=>hs i (.inr hi)]
 case pick c a b=>rw[jJ fun i hi=>hs i (.inl hi),jJ fun i hi=>hs i (.inr (.inl hi)),jJ fun i hi=>hs i (.inr (.inr hi))]
 case slc k x lo hi mx=>rw[jJ fun i hi=>hs i (.inl hi),Cb fun i hi=>hs i (.inr (.inl hi)),Cb fun i hi=>hs i (.inr (.inr (.inl hi))),Cb fun i hi=>hs i (.inr (.inr (.inr hi)))]
 case slcS x lo hi=>rw[jJ fun i hi=>hs i (.inl hi),Cb fun i hi=>hs i (.inr (.inl hi)),Cb fun i hi=>hs i (.inr (.inr hi))]
 all_goals first
  |rw[jJ hs]
  |rw[jJ fun i hi=>hs i (.inl hi),jJ fun i hi=>hs i (.inr hi)]
theorem CZ{s s'}{d}{op}(hs:∀i,i∈R7 op->s' i=s i):step call md d op s' h=step call md d op s h/\∀h',jl d op s' h h'=jl d op s h h':=by
 cases op<;>simp only[R7,List.mem_append]at hs<;>simp only[step,jl]
 case p op=>simp_all[aiO,trivial]
 case buildSl k z n ps=>
  have:(ps.map fun p=>(p.1,ev s' p.2))=ps.map fun p=>(p.1,ev s p.2):=
   aFn fun p hp=>by rw[jJ fun i hi=>hs i (by rw[List.mem_flatMap];exact⟨p,hp,hi⟩)]
  rw[this];have h2:(ps.all fun p=>dat (ev s' p.2))=ps.all fun p=>dat (ev s p.2):=by
   rw[show(ps.all fun p=>dat (ev s' p.2))=((ps.map fun p=>(p.1,ev s' p.2)).all fun p=>dat p.2)from by rw[List.all_map];rfl,this,List.all_map];rfl
  rw[h2];exact⟨rfl,fun _=>rfl⟩
 case buildC k z n ps=>
  have:(ps.map fun p=>(p.1,ev s' p.2))=ps.map fun p=>(p.1,ev s p.2):=
   aFn fun p hp=>by rw[jJ fun i hi=>hs i (by rw[List.mem_flatMap];exact⟨p,hp,hi⟩)]
  rw[this];have h2:(ps.all fun p=>dat (ev s' p.2))=ps.all fun p=>dat (ev s p.2):=by
   rw[show(ps.all fun p=>dat (ev s' p.2))=((ps.map fun p=>(p.1,ev s' p.2)).all fun p=>dat p.2)from by rw[List.all_map];rfl,this,List.all_map];rfl
  rw[h2];exact⟨rfl,fun _=>rfl⟩
 case slcM k x lo hi=>simp_all[jJ,Cb,trivial]
 all_goals simp_all[jJ,IC,trivial]
def MT{d}{f}{f'}{r}{t}(hz:rJ s d f r=some (t,f')):∃x h',r=some (x,h',[])/\t=⟨iK s d x,h'⟩/\f'=f h':=by
 unfold rJ at hz;grind
def ID{o}{t}{f}(hz:gp call md o s h=some (t,f)):
  ∃x h',t=⟨iK s o.d x,h'⟩/\((∀s',∀g,(∀i,i∈pF o->s' i=s i)->gp call md o s' g=some (⟨iK s' o.d x,g⟩,some ([],[])))/\h'=h/\f=some ([],[])\/
   (step call md (o.d.getD 0) o.op s h=some (x,h',[])/\f=jl (o.d.getD 0) o.op s h h'/\
    ∀s',∀g,(∀i,i∈pF o->s' i=s i)->gp call md o s' g=rJ s' o.d (jl (o.d.getD 0) o.op s g) (step call md (o.d.getD 0) o.op s g))):=by
 unfold gp at hz;cases hg:o.g with
 |none=>
  rw[hg]at hz;obtain⟨x,h',e1,e2,e3⟩:=MT hz;refine⟨x,h',e2,.inr ⟨e1,e3,fun s' g hs=>?_⟩⟩;simp only[pF,hg,aE5]at hs;unfold gp;rw[hg];rw[(CZ (h:=g) hs).1,funext (CZ (call:=call) (md:=md) (h:=g) hs).2]
 |some jb=>
  obtain⟨j,b⟩:=jb;rw[hg]at hz;simp only at hz;have hj:∀s':aM,(∀i,i∈pF o->s' i=s i)->s' j=s j:=fun s' hs=>hs j (by grind[pF]);unfold v9 at hz;split at hz
  ·rename_i bb hb;split at hz
   ·rename_i hbb;obtain⟨x,h',e1,e2,e3⟩:=MT hz;refine⟨x,h',e2,.inr ⟨e1,e3,fun s' g hs=>?_⟩⟩;unfold gp;rw[hg];simp only;rw[hj s' hs,hb];simp only[v9,if_pos hbb];simp only[pF,hg,List.mem_append]at hs;rw[(CZ (h:=g) fun i hi=>hs i (.inr hi)).1,funext (CZ (call:=call) (md:=md) (h:=g) fun i hi=>hs i (.inr hi)).2]
   ·cases hz;refine⟨.und,h,rfl,.inl ⟨fun s' g hs=>?_,rfl,rfl⟩⟩
    simp_all[gp,v9,if_neg]
  ·cases hz;refine⟨.und,h,rfl,.inl ⟨fun s' g hs=>?_,rfl,rfl⟩⟩
   simp_all[gp,v9]
  grind
theorem Ou{d}{x}{i}(hn:∀e,d=some e->i≠e):iK s d x i=s i:=by
 cases d with
 |none=>rfl
 |some e=>exact aW _ _ (hn e rfl)
def Wp{a b}(x y)(hn:∀i j,a=some i->b=some j->i≠j):iK (iK s a x) b y=iK (iK s b y) a x:=by
 cases a with
 |none=>rfl
 |some i=>
  cases b with
  |none=>rfl
  |some j=>
   funext k;simp only[iK,upd];grind
def Sp{a b}(hi:GA a b=true):(∀i d,i∈pF b->a.d=some d->i≠d)/\(∀i d,i∈pF a->b.d=some d->i≠d)/\∀i j,a.d=some i->b.d=some j->i≠j:=by
 simp only[GA,aEV]at hi;grind
def yM(f g:Fp):Prop:=mj f g=true
theorem Cc{a b}(h:nV a b=true){i}(ha:i∈a):i∉b:=by
 simp only[nV,aFc,aFS,List.contains_eq_mem,decide_eq_false_iff_not]at h;exact h i ha
def GE{l:List α}(h:l.isEmpty=true):l=[]:=by cases l<;>simp at h⊢
def auU{a b}{t1 t2}{fa fb}(ha:gp call md a s h=some (t1,fa))(hb:gp call md b t1.s t1.h=some (t2,fb))(hi:GA a b=true)(hf:yM fa fb):
  ∃t,gp call md b s h=some (t,fb)/\gp call md a t.s t.h=some (t2,fa):=by
 obtain⟨i1,i2,i3⟩:=Sp hi;obtain⟨xa,ha',rfl,ca⟩:=ID ha;obtain⟨xb,hb',rfl,cb⟩:=ID hb;have sb:∀i,i∈pF b->s i=iK s a.d xa i:=fun i hm=>(Ou fun e he=>i1 i e hm he).symm;have sa:∀i,i∈pF a->iK s b.d xb i=s i:=fun i hm=>Ou fun e he=>i2 i e hm he;have sc:=Wp (s:=s) xa xb i3;rcases ca with⟨ca,rfl,rfl⟩| ⟨ea,rfl,ca⟩
 ·
  rcases cb with⟨cb,rfl,rfl⟩| ⟨eb,rfl,cb⟩
  ·grind
  ·refine⟨⟨iK s b.d xb,hb'⟩,?_,by rw[ca _ _ sa,←sc]⟩;rw[cb s _ sb,eb];rfl
 ·rcases cb with⟨cb,rfl,rfl⟩| ⟨eb,rfl,cb⟩
  ·grind[rJ]
  ·
   unfold yM at hf;cases efa:jl (a.d.getD 0) a.op s h ha' with
   |none=>
    rw[efa]at hf;cases efb:jl (b.d.getD 0) b.op (iK s a.d xa) ha' hb' with
    |none=>rw[efb]at hf;cases hf
    |some q=>
     obtain⟨r,w⟩:=q;rw[efb]at hf;simp only[mj,aEV]at hf;have hr:=GE hf.1;have hw:=GE hf.2;subst hr hw;have fb:=KQ eb efb;obtain⟨g1,p1,p2,p3,p4⟩:=fb h (fun i hi=>by grind);obtain⟨g2,q1,q2,q3,q4⟩:=fb ha' (fun i hi=>rfl);have e1:=funext fun i=>p4 i σ;have e2:hb'=ha':=by
      grind
     grind[rJ]
   |some p=>
    obtain⟨ra,wa⟩:=p;rw[efa]at hf;have fra:=KQ ea efa;cases efb:jl (b.d.getD 0) b.op (iK s a.d xa) ha' hb' with
    |none=>
     rw[efb]at hf;simp only[mj,aEV]at hf;have hr:=GE hf.1;have hw:=GE hf.2;subst hr hw;obtain⟨g1,p1,p2,p3,p4⟩:=fra h (fun i hi=>rfl);have e1:ha'=h:=by
      grind
     obtain⟨g2,q1,q2,q3,q4⟩:=fra hb' (fun i hi=>by grind);have e2:=funext fun i=>q4 i σ;grind[rJ]
    |some q=>
     obtain⟨rb,wb⟩:=q;rw[efb]at hf;simp only[mj,aEV]at hf;obtain⟨d1,d2⟩:=hf;have frb:=KQ eb efb;have hout:∀i,du i∉wa->ha' i=h i:=by
      obtain⟨g1,p1,p2,p3,p4⟩:=fra h (fun i hi=>rfl);grind
     have hout2:∀i,du i∉wb->hb' i=ha' i:=by
      obtain⟨g1,p1,p2,p3,p4⟩:=frb ha' (fun i hi=>rfl);grind
     have nwa:∀i,du i∈rb\/du i∈wb->du i∉wa:=fun i hi hw=>Cc d1 hw γ;obtain⟨g1,p1,p2,p3,p4⟩:=frb h (fun i hi=>(hout i (nwa i hi)).symm);have agr:∀i,du i∈ra\/du i∈wa->g1 i=h i:=fun i hi=>p4 i fun hw=>by
      grind[Cc]
     obtain⟨g2,q1,q2,q3,q4⟩:=fra g1 agr;have e2:g2=hb':=funext fun i=>by
      by_cases hwa:du i∈wa
      all_goals grind
     grind[rJ]
def Zn{o}{post}:∀ {pre} {s} {h} {t} {Fs},kf call md (pre++o::post) s h=some (t,Fs)->
  ∃Fpre f Fpost,Fs=Fpre++f::Fpost/\O Fpre=O pre/\((∀ (j:Nat) a fa,pre[j]?=some a->Fpre[j]?=some fa->GA a o=true/\yM fa f)->
   ∃t1,gp call md o s h=some (t1,f)/\kf call md (pre++post) t1.s t1.h=some (t,Fpre++Fpost))
 |[],s,h,t,Fs,hz=>by
  simp only[aE5,kf,aEQ]at hz;obtain⟨⟨t1,f⟩,e1,⟨t2,F2⟩,e2,e3⟩:=hz;cases e3;exact⟨[],f,F2,rfl,rfl,fun _=>⟨t1,e1,e2⟩⟩
 |a::pre,s,h,t,Fs,hz=>by
  simp only[aFb,kf,aEQ]at hz;obtain⟨⟨t1,fa⟩,e1,⟨t2,F2⟩,e2,e3⟩:=hz;cases e3;obtain⟨Fpre,f,Fpost,rfl,hl,hh⟩:=Zn e2;refine⟨fa::Fpre,f,Fpost,rfl,by grind,fun hc=>?_⟩;obtain⟨t3,g1,g2⟩:=hh fun j a' fa' h1 h2=>hc (j+1) a' fa' γ γ;obtain⟨c1,c2⟩:=hc 0 a fa rfl rfl;obtain⟨t4,k1,k2⟩:=auU e1 g1 c1 c2;refine⟨t4,k1,?_⟩;simp only[aFb,kf,aEZ, *]
end
section
variable {P:Program} {I:Inv} {call:j8} {md:Mode} {N:Nat} {ops:Array Oper}
def acI{o}{s}{h}{t}{f}(hz:gp call md o s h=some (t,f)):qi call md o s h=some t:=by
 have fin:∀F r,rJ s o.d F r=some (t,f)->eH md.nm s o.d r=some t:=by
  intro F r hz;obtain⟨x,h',e1,e2,_⟩:=MT hz;subst e1 e2;simp only[eH,tK,if_true];rfl
 unfold gp at hz;unfold qi;cases hg:o.g with
 |none=>
  grind
 |some jb=>
  unfold v9 at hz;unfold oI;grind
def C0:∀ {l} {hs cl},wR P N ops hs l=some cl->O cl=O l/\∀ (j:Nat) o c,l[j]?=some o->cl[j]?=some c->∃hint,KD P N ops hint o=some c
 |[],hs,cl,hc=>by grind[wR,Option.some.injEq]
 |o::l,hs,cl,hc=>by
  simp only[wR,aEQ]at hc;obtain⟨c,e1,q,e2,e3⟩:=hc;cases e3;obtain⟨g1,g2⟩:=C0 e2;refine⟨by simp[g1],fun j o' c' h1 h2=>?_⟩;cases j with
  |zero=>simp at h1 h2;subst h1 h2;exact⟨_,e1⟩
  |succ j=>exact g2 j o' c' (by simpa using h1) (by simpa using h2)
def Zo:∀ {l} {s} {h} {t} {Fs},kf call md l s h=some (t,Fs)->O Fs=O l/\∀ (j:Nat) a f,l[j]?=some a->Fs[j]?=some f->∃s' h' t',gp call md a s' h'=some (t',f)
 |[],s,h,t,Fs,hz=>by grind[kf,Option.some.injEq,Prod.mk.injEq]
 |o::l,s,h,t,Fs,hz=>by
  simp only[kf,aEQ]at hz;obtain⟨⟨t1,f1⟩,e1,⟨t2,F2⟩,e2,e3⟩:=hz;cases e3;obtain⟨g1,g2⟩:=Zo e2;refine⟨by simp[g1],fun j a f h1 h2=>?_⟩;cases j with
  |zero=>simp at h1 h2;subst h1 h2;exact⟨s,h,t1,e1⟩
  |succ j=>exact g2 j a f (by simpa using h1) (by simpa using h2)
theorem Ut{i}:∀ {l acc},i∈ded acc l↔i∈acc\/i∈l
 |[],acc=>by simp[ded]
 |a::l,acc=>by
  unfold ded;cases h:acc.contains a with
  |true=>
   rw[Ut];have ha:=by simpa using h
   constructor
   ·rintro(h1|h1)
    ·exact .inl h1
    ·exact .inr (List.mem_cons_of_mem _ h1)
   ·rintro(h1|h1)
    ·exact .inl h1
    ·rcases List.mem_cons.1 h1 with rfl|h1
     ·exact .inl ha
     ·exact .inr h1
  |false=>
   rw[Ut];simp only[List.mem_cons];constructor
   ·rintro((h1|h1)|h1)
    ·exact .inr (.inl h1)
    ·exact .inl h1
    ·exact .inr (.inr h1)
   ·rintro(h1|h1|h1)
    ·exact .inl (.inr h1)
    ·exact .inl (.inl h1)
    ·exact .inr h1
def Ql{o}{acc}{i}:i∈KE o acc↔i∈wl o\/∃d∈wl o,i∈acc.getD d []:=by
 unfold KE;rw[Ut,List.mem_append,List.mem_flatMap];simp
def Qm:∀l acc,∃r,uG l acc=acc++r/\O r=O l
 |[],acc=>⟨[],by simp[uG],rfl⟩
 |o::l,acc=>by
  obtain⟨r,e1,e2⟩:=Qm l (acc++[KE o acc]);grind[KE,uG,aFO]
def Zp:∀l acc j o,l[j]?=some o->∃pre,(uG l acc)[O acc+j]?=some (KE o pre)/\
  O pre=O acc+j/\∃r,uG l acc=pre++r
 |[],acc,j,o,h=>by grind
 |o::l,acc,0,o',h=>by
  obtain⟨r,e1,e2⟩:=Qm l (acc++[KE o acc]);grind[uG,aFO]
 |o::l,acc,j+1,o',h=>by
  obtain⟨pre,e1,e2,e3⟩:=Zp l (acc++[KE o acc]) j o' γ;refine⟨pre,?_,by grind,e3⟩;rw[uG,←e1];grind
def MU{C}{j}{b}{bf}:∀ {l} {i0},Om C j b bf i0 l=true->∀i a,l[i]?=some a->(i0+i)∈bf\/C (i0+i) j a b=true
 |[],i0,_,i,a,h=>by grind
 |c::l,i0,hd,i,a,h=>by
  simp only[Om,aEV,aF0]at hd;cases i with
  |zero=>grind
  |succ i=>
   have:=MU hd.2 i a γ;grind
def FZ{C}:∀ {l} {bs} {j0} {done},O done=j0->KF C j0 done l bs=true->∀j b bf,l[j]?=some b->bs[j]?=some bf->
  (∀i∈bf,i<j0+j)/\∀i a,i<j0+j->(done++l)[i]?=some a->i∈bf\/C i (j0+j) a b=true
 |[],bs,j0,done,hl,hd,j,b,bf,h1,h2=>by grind
 |c::l,[],j0,done,hl,hd,j,b,bf,h1,h2=>by grind
 |c::l,b0::bs,j0,done,hl,hd,j,b,bf,h1,h2=>by
  simp only[KF,aEV,aFc,decide_eq_true_eq]at hd;cases j with
  |zero=>
   simp at h1 h2;subst h1 h2;refine⟨hd.1,fun i a hi ha=>?_⟩;rw[List.getElem?_append_left ω]at ha;simpa using MU hd.2.1 i a ha
  |succ j=>
   obtain⟨g1,g2⟩:=FZ γ hd.2.2 j b bf γ γ;grind
def Wq(f):yM (some ([],[])) f:=by
 unfold yM;cases f<;>simp[mj,nV]
theorem yM.symm{f g}(h:yM f g):yM g f:=by
 unfold yM at*
 cases f<;>cases g<;>simp only[mj]at h⊢ <;>try exact h
 simp only[aEV,nV,aFc,aFS,List.contains_eq_mem,decide_eq_false_iff_not,List.mem_append]at h⊢;grind
theorem adv{o}{s}{h}{t}{f}(hz:gp call md o s h=some (t,f))(hp:isP o.op=true):f=some ([],[]):=by
 obtain⟨x,h',e,⟨_,_,rfl⟩| ⟨_,rfl,_⟩⟩:=ID hz
 ·rfl
 ·cases ho:o.op<;>rw[ho]at hp<;>first|rfl|cases hp
def Sr{o}{s}{h}{t}{f}(hz:gp call md o s h=some (t,f))(hp:Y0 o.op=true):∃r,f=some (r,[]):=by
 obtain⟨x,h',e,⟨_,_,rfl⟩| ⟨e2,rfl,_⟩⟩:=ID hz
 ·grind
 ·cases ho:o.op<;>rw[ho]at hp<;>try (cases hp;done)
  rename_i k g y;rw[ho]at e2;simp only[step]at e2;simp only[jl];cases hy:ev s y<;>rw[hy]at e2<;>simp only[kY]at e2<;>first| (cases e2;done)|exact⟨_,rfl⟩
abbrev auV:=List (Nat×COp×Fp)
def Ok.draws{w}{X}{ρ}{h}{s}{a}(ok:Ok I N w X ρ h s a):Ok I N {w with drawn:=w.drawn+1} X ρ h s a/\Far md.nm w ρ h {w with drawn:=w.drawn+1} ρ h:=by
 have e:Evo w ρ h {w with drawn:=w.drawn+1} ρ h []:=⟨rfl,rfl,rfl,aET _,fun _ _ _=>rfl,fun _ _ hp _=>⟨hp,rfl⟩,fun _ ho=>.inl ho,fun _ hb=>⟨hb,rfl⟩,fun _ _ hd=>⟨hd,rfl⟩⟩;exact⟨⟨ok.rel.step e (fun _=>False) (fun _ _=>⟨rfl,fun _=>rfl,fun _ _=>rfl⟩) ok.rel.inj ok.rel.nx (fun _ hf=>hf.elim),e.rs ok.rs,ok.size,ok.defers,e.inv ok.rel ok.inv⟩,e.far (tK _)⟩
def MV(g:Nat)(a b:COp):Prop:=∃e n,a=⟨some e,none,.p (.mv (.t n))⟩/\GA a b=true/\(g=0\/(g≠e+1/\g≠n+1))
def agv{g}{a b}(h:afU g a b=true):MV g a b:=by
 unfold afU at h;split at h
 ·rename_i e n;simp only[aEV,aF0,beq_iff_eq,bne_iff_ne]at h;exact⟨e,n,rfl,h.1,h.2⟩
 grind
theorem MV.zero{g}{a b}(h:MV g a b):MV 0 a b:=by
 obtain⟨e,n,h1,h2,_⟩:=h;exact⟨e,n,h1,h2,.inl rfl⟩
theorem Zq(ks:K)(s:aM)(e n):ng ks (upd s e (s n))=upd (ng ks s) e (ng ks s n):=by
 cases ks with
 |nil=>rfl
 |cons p l=>
  grind[ng,upd]
theorem Zr{d}{e}{x y}{s:aM}(hd:d≠some e):iK (upd s e y) d x=upd (iK s d x) e y:=by
 have:=Wp (s:=s) (a:=some e) (b:=d) y x fun i j h1 h2=>by
  grind
 exact this
theorem Wr{nm}{s:aM}{d}{e n}{r}{t}(h1:d≠some e)(h2:d≠some n)(hz:eH nm (upd s e (s n)) d r=some t):∃t2,eH nm s d r=some t2/\t=⟨upd t2.s e (t2.s n),t2.h⟩:=by
 unfold eH at hz⊢;split at hz
 ·split at hz
  ·grind[iK,ng,Ou,Zq,Zr]
  grind
 grind
def agw{b}{s:aM}{h}{e n}{t}(hi:GA ⟨some e,none,.p (.mv (.t n))⟩ b=true)(hz:qi call md b (upd s e (s n)) h=some t):∃t2,qi call md b s h=some t2/\t=⟨upd t2.s e (t2.s n),t2.h⟩:=by
 obtain⟨i1,i2,i3⟩:=Sp hi;have h1:=fun hh=>i3 e e rfl hh rfl;have h2:=fun hh=>i2 n n (by simp[pF,R7,R6,jH]) hh rfl;have hr:∀i,i∈pF b->upd s e (s n) i=s i:=fun i hm=>aW _ _ (i1 i e hm rfl);have hs:step call md (b.d.getD 0) b.op (upd s e (s n)) h=step call md (b.d.getD 0) b.op s h:=(CZ fun i hm=>hr i (by grind[pF])).1;have hu:∀x,iK (upd s e (s n)) b.d x=upd (iK s b.d x) e (iK s b.d x n):=fun x=>by
  rw[Zr h1];grind[Ou]
 unfold qi at hz⊢;cases hg:b.g with
 |none=>
  grind[Wr]
 |some jb=>
  obtain⟨j,w⟩:=jb;rw[hg]at hz;simp only at hz⊢;rw[hs,hr j (by grind[pF])]at hz;unfold oI at hz⊢;split at hz
  ·split at hz
   all_goals simp_all[if_pos,Wr,if_neg]
  all_goals grind
theorem al6{s:aM}{i e}{x y}(hn:i≠e):upd (upd s e y) i x=upd (upd s i x) e y:=by
 grind[upd]
def agx{nm}{g}{s:aM}{h}{e n}{t}(hg:g=0\/(g≠e+1/\g≠n+1))(hz:ye nm g (upd s e (s n)) h=some t):∃t2,ye nm g s h=some t2/\t=⟨upd t2.s e (t2.s n),t2.h⟩:=by
 cases g with
 |zero=>cases hz;exact⟨_,rfl,rfl⟩
 |succ i=>
  have h1:i≠e:=ω
  simp only[ye]at hz⊢;rw[aW _ _ h1]at hz;simp only[aEQ]at hz;obtain⟨r,e1,e2⟩:=hz;split at e2
  ·cases hi:s i<;>rw[hi]at e1<;>simp only[Wa]at e1<;>try (cases e1;done)
   ·cases e1
    simp_all[Wa,tK]
   ·rename_i id sub k lo m;cases sub with
    |none=>grind
    |some p=>
    simp only at e1;split at e1
    ·cases eo:h id<;>rw[eo]at e1<;>simp only[ghO]at e1<;>try (cases e1;done)
     rename_i cs;cases ec:cs[p]? with
     |none=>grind[R8]
     |some c=>
      rw[ec]at e1;cases c<;>simp only[R8]at e1<;>try (cases e1;done)
      split at e1
      ·cases e1
       simp_all[Wa,if_pos,ghO,R8,aEZ,Zq,al6,aW,Ne.symm]
      grind
    grind
  grind
def Zs{g}{y}:∀ {L} {s} {h} {t0 t1 t2} {Fs},(∀x∈L,MV g x y)->kf call md L s h=some (t0,Fs)->ye md.nm g t0.s t0.h=some t1->qi call md y t1.s t1.h=some t2->
  ∃r1 r2,ye md.nm g s h=some r1/\qi call md y r1.s r1.h=some r2/\kf call md L r2.s r2.h=some (t2,Fs)
 |[],s,h,t0,t1,t2,Fs,_,h1,h2,h3=>by
  grind[kf,Option.some.injEq,Prod.mk.injEq]
 |a::L,s,h,t0,t1,t2,Fs,hl,h1,h2,h3=>by
  obtain⟨e,n,rfl,hi,hg⟩:=hl a σ;simp only[kf,aEQ]at h1;obtain⟨⟨t',f⟩,e1,⟨t'',F2⟩,e2,e3⟩:=h1;cases e3;have e1':t'=⟨upd s e (s n),h⟩/\f=some ([],[]):=by
   simp only[gp,step,jB,ev,Ha,aFK,rJ,jl,Option.some.injEq,Prod.mk.injEq]at e1;exact⟨e1.1.symm,e1.2.symm⟩
  obtain⟨rfl,rfl⟩:=e1';obtain⟨r1,r2,g1,g2,g3⟩:=Zs (fun x hx=>hl x γ) e2 h2 h3;obtain⟨q1,k1,rfl⟩:=agx hg g1;obtain⟨q2,k2,rfl⟩:=agw hi g2
  simp_all[kf,gp,step,jB,ev,Ha,aFK,rJ,jl,aEZ,iK]
abbrev auW:=List (Nat×COp)
structure RestB (ops:Array Oper) (cl:List COp) (bf:Nat->List Nat) (listed:Array Bool) (g:Nat) (L:auV) (T:auW):Prop where
 size:listed.size=ops.size
 op:∀x∈L,cl[x.1]?=some x.2.1/\listed.getD x.1 true=false
 opT:∀y∈T,cl[y.1]?=some y.2/\listed.getD y.1 true=false
 all:∀j,j<ops.size->listed.getD j true=false->(∃x∈L,x.1=j)\/∃y∈T,y.1=j
 pw:L.Pairwise fun x y=>x.1<y.1/\(x.1∈bf y.1\/(GA x.2.1 y.2.1=true/\yM x.2.2 y.2.2))
 lt:∀x∈L,∀y∈T,x.1<y.1/\(x.1∈bf y.1\/MV g x.2.1 y.2)
 pwT:T.Pairwise fun x y=>x.1<y.1/\x.1∈bf y.1
 cls:∀k,k<ops.size->listed.getD k true=true->∀i∈bf k,listed.getD i true=true
def MW(hcall:qG P I call md)(hN:N<=1000){hs cl}(hc:wR P N ops hs ops.toList=some cl){bf}
  (hlt:∀j,j<ops.size->∀i∈bf j,i<j) (hdep:∀j o,ops[j]?=some o->(∀d∈wl o,d∈bf j)/\∀i∈bf j,i∈wl o\/∃d∈wl o,i∈bf d):
  ∀fuel {g} {L} {T} {listed} {w} {X} {ρ} {h} {s} {a} {t0 tg t} {Q},O L+O T=fuel->RestB ops cl bf listed g L T->
   kf call md (L.map (·.2.1)) s h=some (t0,L.map (·.2.2))->ye md.nm g t0.s t0.h=some tg->aK call md (T.map (·.2)) tg.s tg.h=some t->Ok I N w X ρ h s a->(∀a' w' ρ',Ok I N w' X ρ' t.h t.s a'->Far md.nm w ρ h w' ρ' t.h->Q .normal a' w')->wpAny P .any ops Q fuel listed a w
 |0,g,L,T,listed,w,X,ρ,h,s,a,t0,tg,t,Q,hl,hr,hz,hgh,hT,ok,hQ=>by
  have:L=[]:=by simp_all
  subst this;have:T=[]:=by simp_all
  subst this;simp only[aFB,kf,Option.some.injEq,Prod.mk.injEq]at hz;obtain⟨rfl,_⟩:=hz;simp only[aFB,aK,Option.some.injEq]at hT;subst hT;obtain⟨ρ',ok',far'⟩:=PK ok hgh;refine⟨?_,hQ _ _ ρ' ok' far'⟩;rw[List.eq_nil_iff_forall_not_mem];intro j hj;obtain⟨h1,o,h2,_⟩:=mem_ready.1 hj;rcases hr.all j (Array.getElem?_eq_some_iff.1 h2).1 h1 with⟨x,hx,_⟩| ⟨x,hx,_⟩<;>simp at hx
 |fuel+1,g,L,T,listed,w,X,ρ,h,s,a,t0,tg,t,Q,hl,hr,hz,hgh,hT,ok,hQ=>by
  have tf:∀d,d<ops.size->listed.getD d true=listed.getD d false:=fun d hd=>by
   have:d<listed.size:=by rw[hr.size];omega
   grind
  have lenc:=(C0 hc).1;have cllt:∀ {j:Nat} {c:COp},cl[j]?=some c->j<ops.size:=fun h1=>by
   grind
  have first:∀j,j<ops.size->listed.getD j true=false->(∀k,k<j->listed.getD k true=true)->j∈Region.ready .any ops listed:=by
   intro j hj h1 h2;have hox:ops[j]?=some ops[j]:=γ
   refine mem_ready.2 ⟨h1,ops[j],hox,fun e he hb=>?_⟩;have hd:e.on∈wl ops[j]:=by
    simp only[wl,aFN,List.mem_filter];exact⟨e,⟨by simpa using he,hb⟩,rfl⟩
   have hlt':=hlt j hj _ ((hdep j _ hox).1 _ hd);rw[←tf e.on ω];exact h2 _ hlt'
  have isT:∀k,listed.getD k true=true\/listed.getD k true=false:=fun k=>by cases listed.getD k true<;>simp
  refine⟨fun hnil=>?_,fun i hi=>?_⟩
  ·exfalso;have key:∃j,j<ops.size/\listed.getD j true=false/\∀k,k<j->listed.getD k true=true:=by
    cases L with
    |cons x L'=>
     obtain⟨h1,h2⟩:=hr.op x σ;refine⟨x.1,cllt h1,h2,fun k hk=>?_⟩;rcases isT k with h3|h3
     ·omega
     ·rcases hr.all k (Nat.lt_trans hk (cllt h1)) h3 with⟨y,hy,rfl⟩| ⟨y,hy,rfl⟩
      ·rcases List.mem_cons.1 hy with rfl|hy'
       ·omega
       ·have:=(List.pairwise_cons.1 hr.pw).1 y hy';omega
      ·have:=(hr.lt x σ y hy).1;omega
    |nil=>
     cases T with
     |nil=>grind
     |cons x T'=>
      obtain⟨h1,h2⟩:=hr.opT x σ;refine⟨x.1,cllt h1,h2,fun k hk=>?_⟩;rcases isT k with h3|h3
      ·omega
      ·rcases hr.all k (Nat.lt_trans hk (cllt h1)) h3 with⟨y,hy,rfl⟩| ⟨y,hy,rfl⟩
       ·grind
       ·rcases List.mem_cons.1 hy with rfl|hy'
        ·omega
        ·have:=(List.pairwise_cons.1 hr.pwT).1 y hy';omega
   grind
  ·obtain⟨h1,o,h2,h3⟩:=mem_ready.1 hi;have hisz:=(Array.getElem?_eq_some_iff.1 h2).1;have hbl:∀k∈bf i,listed.getD k true=true:=by
    intro k hk;have dl:∀d∈wl o,listed.getD d true=true:=by
     intro d hd;have hdl:d<ops.size:=Nat.lt_trans (hlt i hisz d ((hdep i o h2).1 d hd)) hisz;simp only[wl,aFN,List.mem_filter]at hd;obtain⟨e,⟨he,hb⟩,rfl⟩:=hd;rw[tf _ hdl];exact h3 e (by simpa using he) hb
    rcases(hdep i o h2).2 k hk with hd| ⟨d,hd,hkd⟩
    ·grind
    ·exact hr.cls d (Nat.lt_trans (hlt i hisz d ((hdep i o h2).1 d hd)) hisz) (dl d hd) k hkd
   have set_ne:∀k,k≠i->(listed.setIfInBounds i true).getD k true=listed.getD k true:=fun k hk=>getD_set_ne true (Ne.symm hk);have set_same:(listed.setIfInBounds i true).getD i true=true:=by
    simp_all
   have cls':∀k,k<ops.size->(listed.setIfInBounds i true).getD k true=true->∀k'∈bf k,(listed.setIfInBounds i true).getD k' true=true:=fun k hk hkl k' hk'=>by
    have old:listed.getD k' true=true:=by
     by_cases hkx:k=i
     ·grind
     ·rw[set_ne _ hkx]at hkl;exact hr.cls k hk hkl k' hk'
    grind
   rcases hr.all i hisz h1 with⟨x,hx,rfl⟩| ⟨y,hy,rfl⟩
   ·obtain⟨L1,L2,rfl⟩:=List.append_of_mem hx;have hpw:=hr.pw;rw[List.pairwise_append]at hpw;obtain⟨pw1,vV,pw3⟩:=hpw;rw[List.pairwise_cons]at vV;simp only[List.map_append,aFr]at hz;obtain⟨Fpre,f,Fpost,e1,e2,e3⟩:=Zn hz;have e4:Fpre=L1.map (·.2.2)/\f=x.2.2/\Fpost=L2.map (·.2.2):=by
     grind[List.append_inj,List.cons.injEq]
    obtain⟨rfl,rfl,rfl⟩:=e4;obtain⟨t1,g1,g2⟩:=e3 fun j c fc hj1 hj2=>by
     simp only[aFw,aEU]at hj1 hj2;obtain⟨y,hy,rfl⟩:=hj1;obtain⟨y',hy',rfl⟩:=hj2;rw[hy]at hy';cases hy';have hyL:=aE6 hy;rcases(pw3 y hyL x σ).2 with hin|hh
     ·have:=hbl _ hin;rw[(hr.op y γ).2]at this;grind
     omega
    obtain⟨c1,_⟩:=hr.op x σ;obtain⟨hint,hco⟩:=(C0 hc).2 x.1 o x.2.1 (by simpa using h2) c1;have nx:∀y,y∈L1++L2->y.1≠x.1:=by
     intro y hy;rcases List.mem_append.1 hy with hy|hy
     ·have:=(pw3 y hy x σ).1;omega
     ·have:=(vV.1 y hy).1;omega
    refine KO hcall hN h2 hco ok (acI g1) fun a' w' ρ' ok' far=>?_;refine MW hcall hN hc hlt hdep fuel (L:=L1++L2) (T:=T) (by simp at hl⊢;omega) ⟨by simpa using hr.size,fun y hy=>?_,fun y hy=>?_,fun j hj hjl=>?_,?_,fun y hy=>hr.lt y (by rcases List.mem_append.1 hy with hy|hy<;>simp[hy]),hr.pwT,cls'⟩ (by simpa [List.map_append]using g2) hgh hT ok' fun a'' w'' ρ'' ok'' far'=>hQ _ _ ρ'' ok'' (far.trans far')
    ·obtain⟨q1,q2⟩:=hr.op y (by rcases List.mem_append.1 hy with hy|hy<;>simp[hy]);exact⟨q1,by rw[set_ne _ (nx y hy)];exact q2⟩
    ·obtain⟨q1,q2⟩:=hr.opT y hy;have:=(hr.lt x σ y hy).1;exact⟨q1,by rw[set_ne _ ω];exact q2⟩
    ·have hne:j≠x.1:=by rintro rfl;rw[set_same]at hjl;cases hjl
     rw[set_ne _ hne]at hjl;rcases hr.all j hj hjl with⟨y,hy,rfl⟩|hyT
     ·refine .inl ⟨y,?_,rfl⟩;simp only[List.mem_append,List.mem_cons]at hy⊢;rcases hy with hy|rfl|hy
      ·exact .inl hy
      ·exact absurd rfl hne
      ·exact .inr hy
     ·exact .inr hyT
    grind
   ·
    cases T with
    |nil=>simp at hy
    |cons z T'=>
    have hzy:z=y:=by
     rcases List.mem_cons.1 hy with rfl|hy'
     ·rfl
     ·have h5:=((List.pairwise_cons.1 hr.pwT).1 y hy').2;have:=hbl _ h5;rw[(hr.opT z σ).2]at this;cases this
    subst hzy;have hlate:∀x∈L,MV g x.2.1 z.2:=fun x hx=>by
     rcases(hr.lt x hx z σ).2 with h5|h5
     ·have:=hbl _ h5;rw[(hr.op x hx).2]at this;cases this
     ·exact h5
    simp only[aFr,aK,bG]at hT;split at hT
    ·cases hT
    ·rename_i t2 ht2;obtain⟨r1,r2,g1,g2,g3⟩:=Zs (L:=L.map (·.2.1)) (fun x hx=>by
      obtain⟨q,hq,rfl⟩:=List.mem_map.1 hx;exact hlate q hq) hz hgh ht2
     obtain⟨ρg,okg,farg⟩:=PK ok g1;obtain⟨c1,_⟩:=hr.opT z σ;obtain⟨hint,hco⟩:=(C0 hc).2 z.1 o z.2 (by simpa using h2) c1;refine KO hcall hN h2 hco okg g2 fun a' w' ρ' ok' far=>?_;refine MW hcall hN hc hlt hdep fuel (g:=0) (L:=L) (T:=T') (by simp at hl⊢;omega) ⟨by simpa using hr.size,fun x hx=>?_,fun y hy=>?_,fun j hj hjl=>?_,hr.pw,fun x hx y hy=>?_,(List.pairwise_cons.1 hr.pwT).2,cls'⟩ g3 rfl hT ok' fun a'' w'' ρ'' ok'' far'=>hQ _ _ ρ'' ok'' ((farg.trans far).trans far')
     ·obtain⟨q1,q2⟩:=hr.op x hx;have:=(hr.lt x hx z σ).1;exact⟨q1,by rw[set_ne _ ω];exact q2⟩
     ·obtain⟨q1,q2⟩:=hr.opT y (by simp[hy]);have:=((List.pairwise_cons.1 hr.pwT).1 y hy).1;exact⟨q1,by rw[set_ne _ ω];exact q2⟩
     ·have hne:j≠z.1:=by rintro rfl;rw[set_same]at hjl;cases hjl
      rw[set_ne _ hne]at hjl;rcases hr.all j hj hjl with hx| ⟨y,hy,rfl⟩
      ·exact .inl hx
      ·rcases List.mem_cons.1 hy with rfl|hy'
       ·exact absurd rfl hne
       ·exact .inr ⟨y,hy',rfl⟩
     ·obtain⟨q1,q2⟩:=hr.lt x hx y (by simp[hy]);exact⟨q1,q2.imp_right MV.zero⟩
def Zt(hm:P.follows .mixedOrders=true)(hcall:qG P I call md)(hN:N<=1000){id}{hs0 cl}{w}{X}{ρ}{h}{s}{a}{t0 tg t}{m g}{qs}{Fs}{Q}
  (hc:wR P N ops hs0 ops.toList=some cl)
  (hsp:∀j b bf,cl[j]?=some b->(uG ops.toList [])[j]?=some bf->(∀i∈bf,i<j)/\∀i a,i<j->cl[i]?=some a->i∈bf\/Ol m g qs i j a b=true)
  (ok:Ok I N w X ρ h s a) (e1:kf call md (cl.take m) s h=some (t0,Fs)) (hps:qs.all (B8 Fs)=true) (hgh:ye md.nm g t0.s t0.h=some tg) (hT:aK call md (cl.drop m) tg.s tg.h=some t)
  (hQ:∀a' w' ρ',Ok I N w' X ρ' t.h t.s a'->Far md.nm w ρ h w' ρ' t.h->Q .normal a' w'):(Code.region id ops true).wp P Q a w:=by
 refine wp_region_any hm ?_;obtain⟨ok',far'⟩:=ok.draws (md:=md);obtain⟨lf,gf⟩:=Zo e1;obtain⟨lc,gc⟩:=C0 hc;have lc':O cl=ops.size:=ω
 have ltm:O (cl.take m)=min m ops.size:=γ
 have lb:O (uG ops.toList [])=ops.size:=by
  obtain⟨r,q1,q2⟩:=Qm ops.toList [];grind
 have bget:∀j,j<ops.size->(uG ops.toList [])[j]?=some ((uG ops.toList []).getD j []):=fun j hj=>by
  grind
 have hlt:∀j,j<ops.size->∀i∈ (uG ops.toList []).getD j [],i<j:=fun j hj i hi=>by
  simp_all
 have hdep:∀ (j:Nat) (o:Oper),ops[j]?=some o->(∀d∈wl o,d∈ (uG ops.toList []).getD j [])/\∀i∈ (uG ops.toList []).getD j [],i∈wl o\/∃d∈wl o,i∈ (uG ops.toList []).getD d []:=fun j o hj=>by
  have hjs:j<ops.size:=(Array.getElem?_eq_some_iff.1 hj).1;obtain⟨pre,q1,q2,r,q3⟩:=Zp ops.toList [] j o γ;simp only[aFs,aES]at q1 q2;have hrow:(uG ops.toList []).getD j []=KE o pre:=by
   grind
  have hpre:∀d∈wl o,pre.getD d []=(uG ops.toList []).getD d []:=fun d hd=>by
   have hdj:d<j:=hlt j hjs d (by rw[hrow];exact Ql.2 (.inl hd));grind
  refine⟨fun d hd=>by rw[hrow];exact Ql.2 (.inl hd),fun i hi=>?_⟩;rw[hrow]at hi;rcases Ql.1 hi with hi| ⟨d,hd,hid⟩
  all_goals grind
 have getL:∀x∈ (List.range ops.size).zip ((cl.take m).zip Fs),x.1<m/\x.1<ops.size/\cl[x.1]?=some x.2.1/\Fs[x.1]?=some x.2.2:=fun x hx=>by
  obtain⟨n,hn⟩:=aFL hx;grind
 have getT:∀y∈ (List.range' (min m ops.size) (ops.size-m)).zip (cl.drop m),m<=y.1/\y.1<ops.size/\cl[y.1]?=some y.2:=fun y hy=>by
  obtain⟨n,hn⟩:=aFL hy;rw[List.getElem?_zip_eq_some]at hn;grind
 refine MW hcall hN hc (bf:=fun j=>(uG ops.toList []).getD j []) hlt hdep ops.size (g:=g) (L:=(List.range ops.size).zip ((cl.take m).zip Fs)) (T:=(List.range' (min m ops.size) (ops.size-m)).zip (cl.drop m)) ?_ ⟨by simp,fun x hx=>?_,fun y hy=>?_,fun j hj _=>?_,?_,fun x hx y hy=>?_,?_,fun k hk hkl=>?_⟩ (t0:=t0) (tg:=tg) (t:=t) ?_ hgh ?_ ok' fun a'' w'' ρ'' ok'' far''=>hQ _ _ ρ'' ok'' (far'.trans far'')
 ·grind
 ·obtain⟨q0,q1,q2,q3⟩:=getL x hx;exact⟨q2,by simp[q1]⟩
 ·obtain⟨q0,q1,q2⟩:=getT y hy;exact⟨q2,by simp[q1]⟩
 ·by_cases hjm:j<m
  ·have hjt:j< O (cl.take m):=ω
   refine .inl ⟨(j,(cl.take m)[j],Fs[j]'(by omega)),?_,rfl⟩;refine aE6 (i:=j) ?_;grind
  ·have hjt:j-m< O (cl.drop m):=by rw[List.length_drop,lc'];omega
   refine .inr ⟨(j,(cl.drop m)[j-m]),?_,rfl⟩;refine aE6 (i:=j-m) ?_;rw[List.getElem?_zip_eq_some];refine⟨?_,by rw[aE1 hjt]⟩;rw[List.getElem?_range' ω];simp only[Option.some.injEq];omega
 ·rw[List.pairwise_iff_getElem];intro i j hi hj hij;have hj':j< O (cl.take m)/\j<O Fs:=by simp only[List.length_zip,List.length_range,lf]at hj;omega
  have hjs:j<ops.size:=ω
  have hjm:j<m:=ω
  simp only[List.getElem_zip,List.getElem_range,List.getElem_take];refine⟨hij,?_⟩;rcases(hsp j cl[j] _ σ (bget j hjs)).2 i cl[i] ω σ with hb|hb
  ·grind
  ·refine .inr ?_;simp only[Ol,if_pos hjm,afT,aEV,aF0]at hb;obtain⟨hb1,hb2⟩:=hb;refine⟨hb1,?_⟩;have gi:∀q (hq:q< O (cl.take m)) (hq':q<O Fs),∃s' h' t',gp call md (cl[q]'(by omega)) s' h'=some (t',Fs[q]):=fun q hq hq'=>by
    refine gf q _ _ ?_ (by rw[aE1 hq']);rw[aE1 hq,List.getElem_take]
   obtain⟨s1,h1,t1,st1⟩:=gi i ω ω;obtain⟨s2,h2,t2,st2⟩:=gi j hj'.1 hj'.2;rcases hb2 with((hb2|hb2)|hb2)|hb2
   ·rw[adv st1 hb2];exact Wq _
   ·rw[adv st2 hb2];exact(Wq _).symm
   ·obtain⟨r1,k1⟩:=Sr st1 hb2.1;obtain⟨r2,k2⟩:=Sr st2 hb2.2;rw[k1,k2];simp[yM,mj,nV]
   ·have:=List.all_eq_true.1 hps (i,j) (by simpa using hb2);simp only[B8]at this;rw[aE1 (show i<O Fs from by omega),aE1 hj'.2]at this;exact this
 ·obtain⟨q0,q1,q2,q3⟩:=getL x hx;obtain⟨p0,p1,p2⟩:=getT y hy;refine⟨by omega,?_⟩;rcases(hsp y.1 y.2 _ p2 (bget y.1 p1)).2 x.1 x.2.1 ω q2 with hb|hb
  ·exact .inl hb
  ·simp only[Ol,if_neg (show¬y.1<m by omega),aEV]at hb;exact .inr (agv hb.2)
 ·rw[List.pairwise_iff_getElem];intro i j hi hj hij;have hi':=getT _ (aFg hi);have hj':=getT _ (aFg hj);have hlt2:((List.range' (min m ops.size) (ops.size-m)).zip (cl.drop m))[i].1< ((List.range' (min m ops.size) (ops.size-m)).zip (cl.drop m))[j].1:=by
   simp only[List.getElem_zip,List.getElem_range'];omega
  refine⟨hlt2,?_⟩;rcases(hsp _ _ _ hj'.2.2 (bget _ hj'.2.1)).2 _ _ hlt2 hi'.2.2 with hb|hb
  ·omega
  ·simp only[Ol,if_neg (Nat.not_lt.2 hj'.1),aEV,decide_eq_true_eq]at hb;have:=hb.1;have:=hi'.1;omega
 ·simp[hk]at hkl
 ·have m1:((List.range ops.size).zip ((cl.take m).zip Fs)).map (·.2.1)=cl.take m:=by
   rw[show(fun x:Nat×COp×Fp=>x.2.1)=Prod.fst∘Prod.snd from rfl,←List.map_map,List.map_snd_zip (by simp[lc',lf,aFm];omega),List.map_fst_zip ω]
  have m2:((List.range ops.size).zip ((cl.take m).zip Fs)).map (·.2.2)=Fs:=by
   rw[show(fun x:Nat×COp×Fp=>x.2.2)=Prod.snd∘Prod.snd from rfl,←List.map_map,List.map_snd_zip (by simp[lc',lf,aFm];omega),List.map_snd_zip ω]
  rw[m1,m2];exact e1
 grind[List.range',List.map_snd_zip]
def agy(hm:P.follows .mixedOrders=true)(hcall:qG P I call md)(hN:N<=1000):Wk P I call md N:=by
 intro id ops hs0 cl w X ρ h s a t ps Q hc hd ok hz hQ;unfold Y7 aoE at hd;unfold we at hz;cases hb:EZ ps with
 |none=>
  rw[hb]at hd hz;simp only[Fg,aEQ]at hz;obtain⟨⟨t0,Fs⟩,e1,e2⟩:=hz;split at e2
  ·rename_i hps;cases e2;have hsp:=FZ (done:=[]) (j0:=0) rfl hd;refine Zt hm hcall hN (m:=O cl) (g:=0) (qs:=ps) hc (fun j b bf h1 h2=>?_) ok (by rw[List.take_length];omega) hps rfl (by rw[List.drop_length];rfl) hQ;have hj:=(List.getElem?_eq_some_iff.1 h1).1
   simp_all[Ol,if_pos,aES]
  grind
 |some q=>
  rw[hb]at hd hz;simp only[KA,aEQ]at hz;obtain⟨⟨t0,Fs⟩,e1,e2⟩:=hz;split at e2
  ·rename_i hps;simp only[bG]at e2;split at e2
   ·grind
   ·rename_i tg htg;have hsp:=FZ (done:=[]) (j0:=0) rfl hd;refine Zt hm hcall hN (m:=q.1) (g:=q.2) (qs:=ps.tail) hc (fun j b bf h1 h2=>?_) ok e1 hps htg e2 hQ;grind
  grind
end
theorem E5:∀ss l,O (fj ss l)=O l
 |[],l=>by cases l<;>simp[fj]
 |s::ss,[]=>by simp[fj]
 |s::ss,a::l=>by simp[fj,E5 ss l]
def Hj:∀ss l (j:Nat) c,(fj ss l)[j]?=some c->∃c0,l[j]?=some c0/\(c=c0\/∃s,c=nrmL s c0)
 |[],l,j,c,h=>⟨c,by grind[fj],.inl rfl⟩
 |s::ss,[],j,c,h=>by grind[fj]
 |s::ss,a::l,0,c,h=>by grind[fj]
 |s::ss,a::l,j+1,c,h=>by
  simpa using Hj ss l j c h
def Hk{s}{c}(hd:aI c=true):aI (nrmL s c)=true:=by
 obtain⟨k,cs⟩:=s;cases k with
 |zero=>grind[nrmL]
 |succ k=>cases c<;>simp[aI]at hd<;>simp[nrmL,aI,hd]
theorem jK(s){c}(h1:∀k r,c≠ .sl k r)(h2:c≠ .emp)(h3:∀k r,c≠ .osl k r):nrmL s c=c:=by
 obtain⟨k,cs⟩:=s;cases k with
 |zero=>simp[nrmL]
 |succ k=>cases c<;>first|rfl|exact absurd rfl (h1 _ _)|exact absurd rfl h2|exact absurd rfl (h3 _ _)
section
variable {w:World} {A:Nat→Prop} {ρ:fL} {h:aj}
theorem RD.nrmL{c}{u}(hd:RD w A c u):∀s,RD w A (nrmL s c) u:=by
 induction hd with
 |any u h=>intro s;rw[jK s σ σ σ];exact .any u h
 |v x h=>intro s;rw[jK s σ σ σ];exact .v x h
 |emp a=>
  intro s;obtain⟨k,cs⟩:=s;cases k with
  |zero=>exact .emp a
  |succ k=>
   exact .sl k [] a 0 ⟨0,0,none⟩ (fun _ _=>undef) (aET 0) (fun h=>absurd rfl h) (fun _ h=>by grind) (fun i row j c h=>by grind) (fun _ h=>by grind) (fun i row j c h=>by grind)
 |sl k rows a cap ad vals hc ha hk hv hl hr ih=>
  intro s;obtain⟨k',cs⟩:=s;cases k' with
  |zero=>exact .sl k rows a cap ad vals hc ha hk hv hl hr
  |succ k'=>
   simp only[Ab.nrmL];have key:∀ (i:Nat) row (j:Nat) c,(rows.map (fj cs))[i]?=some row->row[j]?=some c->∃row0 c0,rows[i]?=some row0/\row0[j]?=some c0/\(c=c0\/∃s,c=Ab.nrmL s c0):=by
    intro i row j c h1 h2;simp only[aFw,aEU]at h1;obtain⟨row0,h3,rfl⟩:=h1;obtain⟨c0,h4,h5⟩:=Hj cs row0 j c h2;grind
   have:=RD.sl (w:=w) (A:=A) k (rows.map (fj cs)) a cap ad vals γ (fun hne=>ha γ) (fun row hm=>by
     simp only[aFN]at hm;obtain⟨row0,hm,rfl⟩:=hm;rw[E5];grind) (fun i row j c h1 h2=>by
     grind) (fun row hm c hc=>by
     obtain⟨i,hi⟩:=aFL hm;obtain⟨j,hj⟩:=aFL hc;obtain⟨row0,c0,h3,h4,h5⟩:=key i row j c hi hj;have hd:=hl row0 (aE6 h3) c0 (aE6 h4);rcases h5 with rfl| ⟨s,rfl⟩
     ·omega
     ·exact Hk hd) (fun i row j c h1 h2=>by
     grind)
   grind
 |agg cs us hs h1 hr ih=>intro s;rw[jK s σ σ σ];exact .agg cs us hs h1 hr
 |fn f=>intro s;rw[jK s σ σ σ];exact .fn f
theorem RV.nrmL{c}{u}(hv:RV w A ρ h c u)(s):RV w A ρ h (nrmL s c) u:=by
 cases hv with
 |dat hd=>exact .dat (hd.nrmL s)
 |anyv u=>rw[jK s σ σ σ];exact .anyv u
 |und=>rw[jK s σ σ σ];exact .und
 |ref id sub k i j hp=>rw[jK s σ σ σ];exact .ref id sub k i j hp
 |rsl id sub k lo n cap a hp hn hb ha=>rw[jK s σ σ σ];exact .rsl id sub k lo n cap a hp hn hb ha
 |rsc id k lo n cap a hp hn hb ha=>rw[jK s σ σ σ];exact .rsc id k lo n cap a hp hn hb ha
 |ipt cs ad vals hA hs hv hl hr=>rw[jK s σ σ σ];exact .ipt cs ad vals hA hs hv hl hr
 |agg cs us hs h1 hr=>rw[jK s σ σ σ];exact .agg cs us hs h1 hr
 |tup vs us hs hr=>rw[jK s σ σ σ];exact .tup vs us hs hr
 |fn f x y us ts hs ht hx hy=>rw[jK s σ σ σ];exact .fn f x y us ts hs ht hx hy
theorem RV.nrmV{c}{u}(hv:RV w A ρ h c u)(ss):RV w A ρ h (nrmV ss c) u:=by
 cases c with
 |agg cs=>
  obtain⟨us,rfl,hs,h1,hr⟩:=hv.agg_inv;refine .agg _ us (by rw[E5];omega) h1 fun i c u hc hu=>?_;obtain⟨c0,h2,h3⟩:=Hj ss cs i c hc;rcases h3 with rfl| ⟨s,rfl⟩
  ·grind
  ·exact(hr i c0 u h2 hu).nrmL s
 |_=>exact hv.nrmL _
theorem C1:∀ss l,O (bC ss l)=O l
 |[],l=>by cases l<;>simp[bC]
 |s::ss,[]=>by simp[bC]
 |s::ss,a::l=>by simp[bC,C1 ss l]
theorem Cd:∀ss l (j:Nat) c,(bC ss l)[j]?=some c->∃c0,l[j]?=some c0/\(c=c0\/∃s,c=Ab.nrmV s c0)
 |[],l,j,c,h=>⟨c,by grind[bC],.inl rfl⟩
 |s::ss,[],j,c,h=>by grind[bC]
 |s::ss,a::l,0,c,h=>by grind[bC]
 |s::ss,a::l,j+1,c,h=>by
  simpa using Cd ss l j c h
end
def yN:AV->Bool
 | .osl _ _| .obx _=>true
 |_=>false
def Zu(L:List Nat)(h':aj)(a c:AV):Prop:=
 ∃id,cF a=[id]/\bu id=false/\aE L (h' id)=true/\
  ((∃k rows,c=.osl k rows/\a=.rsl id none k 0 (O rows)/\h' id=.ar k rows)\/(∃xs,c=.obx xs/\a=.ref id none 0 0 0/\h' id=.bx xs))
theorem Ws{m}{h}{c}(hc:yN c=false):eS m h c=(c,h):=by
 cases c<;>simp[yN]at hc<;>rfl
theorem Zu.mat{L}{h'}{a c}(hm:Zu L h' a c)(m)(h2):∃id,cF a=[id]/\bu id=false/\aE L (h' id)=true/\h' id≠ .dead/\(eS m h2 c).2=upd h2 m (h' id):=by
 obtain⟨id,h1,h3,h4,⟨k,rows,rfl,rfl,h5⟩| ⟨xs,rfl,rfl,h5⟩⟩:=hm
 ·exact⟨id,h1,h3,h4,by grind,by rw[h5];rfl⟩
 ·exact⟨id,h1,h3,h4,by grind,by rw[h5];rfl⟩
def acJ{x}{l}(h:mT (x::l)=true):x∉l/\mT l=true:=by
 simp_all[mT,aEV,aFS,List.contains_eq_mem,decide_eq_false_iff_not]
def Ss{l l'}:mT (l++l')=true->mT l'=true/\∀x,x∈l->x∉l':=by
 induction l with
 |nil=>grind
 |cons y l ih=>
  intro h;obtain⟨h1,h2⟩:=acJ h
  simp_all
section
variable {h':aj} {L:List Nat}
def KR(hL:∀i,2000<=i->L.contains i=false):∀ (zas cs:List AV) m h2 g,2000<=m->O zas=O cs->
  (∀ (j:Nat) a c,zas[j]?=some a->cs[j]?=some c->yN c=true->Zu L h' a c)->mT ((zas.flatMap cF).filter fun i=>!bu i)=true->Emb L (fun i=>i) g h' h2->(∀i,m<=i->h2 i=.dead)->
  (∀i,h2 i≠ .dead->∀id,id∈zas.flatMap cF->bu id=false->g i≠id)->
  ∃gm,Emb L (fun i=>i) gm h' (dB m h2 cs).2/\(∀i,i<m->(dB m h2 cs).2 i=h2 i/\gm i=g i)/\
   (∀i,(dB m h2 cs).2 i≠ .dead->(h2 i≠ .dead/\gm i=g i)\/∃ (j:Nat) (a c:AV),zas[j]?=some a/\cs[j]?=some c/\yN c=true/\cF a=[gm i])/\
   (∀j a c id,zas[j]?=some a->cs[j]?=some c->yN c=true->cF a=[id]->gm (m+j)=id/\(dB m h2 cs).2 (m+j)=h' id/\h' id≠ .dead)
 |[],[],m,h2,g,hm,_,_,_,em,_,_=>⟨g,em,fun _ _=>⟨rfl,rfl⟩,fun _ hi=>.inl ⟨hi,rfl⟩,fun j a c id h1=>by grind⟩
 |[],c::cs,m,h2,g,_,hl,_,_,_,_,_=>by grind
 |a::zas,[],m,h2,g,_,hl,_,_,_,_,_=>by grind
 |a::zas,c::cs,m,h2,g,hm,hl,hmv,hnd,em,hfree,hid=>by
  simp only[List.flatMap_cons,List.filter_append]at hnd;obtain⟨nd2,nd3⟩:=Ss hnd;have hmv':∀j a c,zas[j]?=some a->cs[j]?=some c->yN c=true->Zu L h' a c:=fun j a' c' h1 h3=>hmv (j+1) a' c' γ γ;have hl':O zas=O cs:=γ
  cases hc:yN c with
  |false=>
   simp only[dB,Ws hc];obtain⟨gm,e1,e2,e3,e4⟩:=KR hL zas cs (m+1) h2 g ω hl' hmv' nd2 em (fun i hi=>hfree i ω) (fun i hi id hm'=>hid i hi id γ);refine⟨gm,e1,fun i hi=>e2 i ω,fun i hi=>?_,fun j a' c' id h1 h3 h4 h5=>?_⟩
   ·rcases e3 i hi with hh| ⟨j,a',c',h1,h3,h4,h5⟩
    ·grind
    ·exact .inr ⟨j+1,a',c',by grind,by grind,h4,h5⟩
   ·cases j with
    |zero=>
     grind
    |succ j=>
     grind
  |true=>
   obtain⟨id,i1,i2,i3,i4,i5⟩:=(hmv 0 a c rfl rfl hc).mat m h2;simp only[dB,i5];have hida:id∈ (a::zas).flatMap cF:=γ
   have em1:=em.add (m:=m) (id:=id) (hfree m (aET _)) (hL m hm) (fun i hi=>hid i hi id hida i2) i3;have nin:∀id',id'∈zas.flatMap cF->bu id'=false->id'≠id:=by
    grind
   obtain⟨gm,e1,e2,e3,e4⟩:=KR hL zas cs (m+1) (upd h2 m (h' id)) (upd g m id) ω hl' hmv' nd2 em1 (fun i hi=>by grind[aW]) (fun i hi id' hm' hp'=>by
    by_cases e:i=m
    ·subst e;rw[aD];exact fun ee=>nin id' hm' hp' ee.symm
    ·rw[aW _ _ e]at hi⊢;exact hid i hi id' (by simp only[List.flatMap_cons,List.mem_append];exact .inr hm') hp')
   have atm:=e2 m ω;rw[aD,aD]at atm;refine⟨gm,e1,fun i hi=>?_,fun i hi=>?_,fun j a' c' id' h1 h3 h4 h5=>?_⟩
   ·grind[aW]
   ·rcases e3 i hi with⟨h1,h3⟩| ⟨j,a',c',h1,h3,h4,h5⟩
    ·by_cases e:i=m
     ·subst e;exact .inr ⟨0,a,c,rfl,rfl,hc,by grind⟩
     grind[aW]
    ·exact .inr ⟨j+1,a',c',by grind,by grind,h4,h5⟩
   ·cases j with
    |zero=>
     grind
    |succ j=>
     grind
def Zv:∀l m h j z,(dB m h l).1[j]?=some z->∃c,l[j]?=some c/\z=(eS (m+j) h c).1
 |[],m,h,j,z,hz=>by grind[dB]
 |c::l,m,h,0,z,hz=>by
  grind[dB]
 |c::l,m,h,j+1,z,hz=>by
  obtain⟨c',h1,h2⟩:=Zv l (m+1) _ j z hz;refine⟨c',by simpa using h1,?_⟩;rw[h2,Qk _ _ h,show m+1+j=m+(j+1)from by omega]
theorem PR:∀l m h,(dB m h l).1.length=O l
 |[],m,h=>rfl
 |c::l,m,h=>by simp[dB,PR l]
end
section
variable {w:World} {X:Nat→Prop} {ρ:fL} {h':aj} {L:List Nat}
structure Seen (w:World) (X:Nat->Prop) (ρ:fL) (h':aj) (a:AV) (A2:Nat->Prop) (ρ2:fL) (h2:aj):Prop where
 mono:∀b,aN w X h' ρ b->A2 b
 ids:∀id,id∈cF a->bu id=false->∀sub,live h' id sub->A2 (ρ id sub).1
 pas:∀id,bu id=true->h' id≠ .dead->h2 id≠ .dead/\ρ2 id none=ρ id none
def al7(w:World)(X:Nat->Prop)(ρ:fL)(h':aj)(L:List Nat)(a c:AV)(u:Value):Prop:=
 (yN c=true->Zu L h' a c)/\(yN c=false->∀A2 ρ2 h2,Seen w X ρ h' a A2 ρ2 h2->RV w A2 ρ2 h2 c u)
theorem PS{c}(hd:qh c=true):mh L c=true:=by
 simp only[qh,aF0]at hd;simp only[mh,aF0];rcases hd with hd|hd
 ·grind
 ·cases c<;>simp[aI]at hd<;>simp[be,bA,hd]
def PT{a b}(he:qk h' a=some b)(hd:aI b=true\/∃k r,b=.osl k r){id}(hi:ip a=[id]):bu id=false:=by
 cases a<;>simp only[ip]at hi<;>try (cases hi;done)
 case ref i sub k x y=>
  cases sub with
  |some p=>grind[qk,aI]
  |none=>
   grind[qk,aI,afQ]
 case rsl i sub k x y=>
  have hi':i=id:=γ
  subst hi';cases hp:bu i with
  |false=>rfl
  |true=>cases sub<;>simp[qk,hp]at he
def apu{b c}(hd:FV b=some c):aI b=true\/∃k r,b=.osl k r:=by
 unfold FV at hd;grind
def Zw:∀ {cs ds},qp h' cs=some ds->∀ (i:Nat) a id,cs[i]?=some a->ip a=[id]->bu id=false
 |[],ds,_,i,a,id,h1,_=>by grind
 |c::cs,ds,he,i,a,id,h1,h2=>by
  simp only[qp,aEQ]at he;obtain⟨b,e1,c',e2,q,e3,e4⟩:=he;cases i with
  |zero=>simp at h1;subst h1;exact PT e1 (apu e2) h2
  |succ i=>exact Zw e3 i a id (by simpa using h1) h2
theorem Wu{s}{b}(h:yN (nrmL s b)=true):nrmL s b=b:=by
 obtain⟨k,cs⟩:=s;cases k with
 |zero=>simp[nrmL]
 |succ k=>cases b<;>simp[nrmL,yN]at h⊢
theorem aiP(ss){b}(h:∀cs,b≠ .agg cs):nrmV ss b=nrmL (ss.headD (a9)) b:=by
 cases b<;>first|rfl|exact absurd rfl (h _)
theorem al8(r:Rel w X ρ h'){a b}{u}(hv:RV w (aN w X h' ρ) ρ h' a u)(he:qk h' a=some b)(s):al7 w X ρ h' L a (nrmL s b) u:=by
 have data:∀ {b},qk h' a=some b->aI b=true->(∀A2,(∀b,aN w X h' ρ b->A2 b)->(∀id sub,ip a=[id]->live h' id sub->A2 (ρ id sub).1)->RD w A2 b u)->
   ∀A2 ρ2 h2,Seen w X ρ h' a A2 ρ2 h2->RV w A2 ρ2 h2 (nrmL s b) u:=by
  intro b he hd hr A2 ρ2 h2 hs;exact .dat ((hr A2 hs.mono fun id sub hi hl=>hs.ids id (by
   have:cF a=ip a:=by cases a<;>first|rfl|simp[ip]at hi
   grind) (PT he (.inl hd) hi) sub hl).nrmL s)
 rcases GC r hv he with⟨id,k,rows,rfl,rfl,e,hp⟩| ⟨id,cs,rfl,rfl,e,hd,hp⟩| ⟨rfl,id,k,i,j,rfl,hp⟩| ⟨rfl,hd⟩| ⟨hd,hr⟩
 ·refine⟨fun hm=>?_,fun hm A2 ρ2 h2 hs=>?_⟩
  ·rw[Wu hm];exact⟨id,rfl,hp,by rw[e];rfl,.inl ⟨k,rows,rfl,rfl,e⟩⟩
  ·have hsl:nrmL s (.osl k rows)=nrmL s (.sl k rows):=by
    obtain⟨k',cs⟩:=s;cases k' with
    |zero=>grind[nrmL,yN]
    |succ k'=>simp[nrmL]
   rw[hsl];obtain⟨a',cap,rfl,_⟩:=hv.rsl_inv;exact .dat (((Sn r hv rfl he rfl).2 A2 hs.mono fun id' sub hi hl=>hs.ids id' (by
    grind[cF,ip]) (by grind[ip]) sub hl).nrmL s)
 ·refine⟨fun hm=>?_,fun hm=>?_⟩
  ·rw[Wu hm];refine⟨id,rfl,hp,?_,.inr ⟨cs,rfl,rfl,e⟩⟩;grind[aE,aFc,PS]
  ·rw[jK s σ σ σ]at hm;cases hm
 ·refine⟨fun hm=>?_,fun hm A2 ρ2 h2 hs=>?_⟩
  ·rw[jK s σ σ σ]at hm;cases hm
  ·rw[jK s σ σ σ];obtain⟨rfl,hpr⟩:=hv.ref_inv;obtain⟨h1,h3⟩:=hs.pas id hp hpr;have:=RV.ref (w:=w) (A:=A2) (ρ:=ρ2) (h:=h2) id none k i j h1;grind
 ·refine⟨fun hm=>?_,fun hm A2 ρ2 h2 hs=>?_⟩
  ·have:=Hk (s:=s) hd;cases hq:nrmL s b<;>rw[hq]at hm this<;>simp[yN,aI]at hm this
  ·exact(hv.keepD hd fun b hb=>⟨hs.mono b hb,rfl⟩).nrmL s
 ·refine⟨fun hm=>?_,fun hm=>data he hd hr⟩;have:=Hk (s:=s) hd;cases hq:nrmL s b<;>rw[hq]at hm this<;>simp[yN,aI]at hm this
theorem apv(r:Rel w X ρ h'){a b}{u}(hv:RV w (aN w X h' ρ) ρ h' a u)(he:wj h' a=some b){c}(hc:c=b\/∃ss,c=nrmV ss b):al7 w X ρ h' L a c u:=by
 have hc':∃ss,c=nrmV ss b:=by
  rcases hc with rfl|hc
  ·refine⟨[],?_⟩;cases c<;>simp[nrmV,nrmL,fj]
  omega
 obtain⟨ss,rfl⟩:=hc';by_cases hagg:∃cs,a=.agg cs
 ·obtain⟨cs,rfl⟩:=hagg;simp only[wj,aEU]at he;obtain⟨ds,e1,rfl⟩:=he;refine⟨fun hm=>by grind[nrmV,yN],fun _ A2 ρ2 h2 hs=>?_⟩;obtain⟨us,rfl,q1,q2,q3⟩:=hv.agg_inv;obtain⟨l1,l2⟩:=PM r cs ds e1;refine .agg _ us (by grind[E5]) q2 fun i c u hc hu=>?_;obtain⟨c0,h1,h3⟩:=Hj ss ds i c hc;have hi:i<O cs:=γ
  have hci:cs[i]?=some cs[i]:=γ
  obtain⟨d1,d2⟩:=l2 i cs[i] c0 u hci h1 (q3 i _ u hci hu) (q2 i u hu);have hrd:=d2 A2 hs.mono fun id sub hii hl=>hs.ids id (by
   simp only[cF,List.mem_flatMap];exact⟨cs[i],by simp,by rw[hii];simp⟩) (Zw e1 i _ id hci hii) sub hl
  rcases h3 with rfl| ⟨s,rfl⟩
  ·exact .dat hrd
  ·exact .dat (hrd.nrmL s)
 ·have hl:wj h' a=qk h' a:=by cases a<;>first|rfl|exact absurd ⟨_,rfl⟩ hagg
  rw[hl]at he;have hb:∀cs,b≠ .agg cs:=by
   rcases GC r hv he with⟨id,k,rows,h1,_⟩| ⟨id,cs',h1,_⟩| ⟨h1,id,k,i,j,h2,_⟩| ⟨h1,hd⟩| ⟨hd,hr⟩
   all_goals grind[aI]
  grind[aiP,al8]
def Wv:∀ {zas bs},yf h' zas=some bs->O bs=O zas/\∀ (j:Nat) a b,zas[j]?=some a->bs[j]?=some b->wj h' a=some b
 |[],bs,he=>by grind[yf,Option.some.injEq]
 |a::zas,bs,he=>by
  simp only[yf,aEQ]at he;obtain⟨b,e1,q,e2,e3⟩:=he;cases e3;obtain⟨g1,g2⟩:=Wv e2;refine⟨by simp[g1],fun j a' b' h1 h2=>?_⟩;cases j with
  |zero=>simp at h1 h2;subst h1 h2;exact e1
  |succ j=>exact g2 j a' b' (by simpa using h1) (by simpa using h2)
def Yy(us:Array Value):Value:=if h:us.size=1 then us[0]else .tuple us
theorem aiQ{l}(hl:∀c∈l,∀vs,c≠ .tup vs)(n)(h):mat n h (zT l)=(zT (dB n h l).1,(dB n h l).2):=by
 match l with
 |[]=>rfl
 |[c]=>
  have:=hl c σ;cases c<;>first|rfl|exact absurd rfl (this _)
 |a::b::l=>rfl
end
section
variable {w:World} {X:Nat→Prop} {ρ:fL} {h':aj}
def adw{L}{g}{h2}(em:Emb L (fun i=>i) g h' h2){b}(ho:wS h2 (fun i s=>ρ (g i) s) b):wS h' ρ b:=by
 obtain⟨i,s,h1,h3⟩:=ho;exact⟨g i,s,(em.live h1).1,h3⟩
theorem al9{ss}{b}{vs}(h:nrmV ss b=.tup vs):∃vs',b=.tup vs':=by
 cases b with
 |tup vs'=>grind
 |agg cs=>grind[nrmV]
 |_=>
  simp only[nrmV]at h;generalize ss.headD (a9)=s at h;obtain⟨k,cs⟩:=s;cases k<;>simp[nrmL]at h
theorem agz(r:Rel w X ρ h'){a}{u}{vs}(hv:RV w (aN w X h' ρ) ρ h' a u)(he:wj h' a=some (.tup vs)):False:=by
 by_cases hagg:∃cs,a=.agg cs
 ·obtain⟨cs,rfl⟩:=hagg
  simp_all[wj]
 ·have hl:wj h' a=qk h' a:=by cases a<;>first|rfl|exact absurd ⟨_,rfl⟩ hagg
  rw[hl]at he;rcases GC r hv he with⟨id,k,rows,h1,_⟩| ⟨id,cs',h1,_⟩| ⟨h1,id,k,i,j,h2,_⟩| ⟨h1,hd⟩| ⟨hd,hr⟩
  all_goals grind[aI]
def aiR(r:Rel w X ρ h'){n0 n}(hn0:n0<=1000)(hn:2000<=n)(hpass:∀id,bu id=true->h' id≠ .dead->(dJ n0).contains id=true){zas}{us}(hs:us.size=O zas)
  (hv:∀ (i:Nat) c u,zas[i]?=some c->us[i]?=some u->RV w (aN w X h' ρ) ρ h' c u) {rs} {res} {obs} (hz:xT rs n0 h' zas=some (res,obs)):
  ∃ρ2,Rel w X ρ2 (mat n (az obs) res).2/\(∀nm,Far nm w ρ h' w ρ2 (mat n (az obs) res).2)/\RV w (aN w X (mat n (az obs) res).2 ρ2) ρ2 (mat n (az obs) res).2 (mat n (az obs) res).1 (Yy us):=by
 unfold xT at hz;split at hz
 ·rename_i hc;simp only[aEV]at hc;obtain⟨hc1,hc2⟩:=hc;simp only[aEU]at hz;obtain⟨bs,e1,e2⟩:=hz;cases e2;obtain⟨l1,l2⟩:=Wv e1;have hLm:∀i,(dJ n0).contains i=true->bu i=true:=fun i hi=>by
   have:=D7.1 hi;simp only[bu,decide_eq_true_eq];omega
  have hL:∀i,2000<=i->(dJ n0).contains i=false:=fun i hi=>by
   grind[dJ]
  have hcl:O (bC rs bs)=O zas:=by rw[C1,l1]
  have out:∀ (j:Nat) (a c:AV) (u:Value),zas[j]?=some a->(bC rs bs)[j]?=some c->us[j]?=some u->al7 w X ρ h' (dJ n0) a c u:=fun j a c u h1 h3 h4=>by
   grind[Cd,apv]
  have uget:∀ (j:Nat) (a:AV),zas[j]?=some a->∃u,us[j]?=some u:=fun j a h1=>by
   have:j<us.size:=γ
   simp_all
  have em:=Emb.base (h':=h') hc2;have hlow:∀i,az ((dJ n0).map h') i≠ .dead->(dJ n0).contains i=true:=fun i hi=>by
   rw[xK]at hi;split at hi
   ·rename_i h1;exact D7.2 h1
   grind
  obtain⟨gm,m1,m2,m3,m4⟩:=KR hL zas (bC rs bs) n (az ((dJ n0).map h')) (fun i=>i) hn hcl.symm (fun j a c h1 h3 h4=>by
    obtain⟨u,hu⟩:=uget j a h1;exact(out j a c u h1 h3 hu).1 h4) hc1 em (fun i hi=>by
    rw[xK,if_neg ω]) (fun i hi id _ hp e=>by
    grind)
  have notup:∀c∈bC rs bs,∀vs,c≠ .tup vs:=by
   rintro c hcm vs rfl
   obtain⟨j,hj⟩:=aFL hcm;have hja:j<O zas:=γ
   obtain⟨u,hu⟩:=uget j zas[j] γ;obtain⟨b,h5,h6⟩:=Cd rs bs j _ hj;have he:=l2 j zas[j] b γ h5;grind[al9,agz]
  rw[aiQ notup];simp only;have hfar:∀b,aN w X h' ρ b->aN w X (dB n (az ((dJ n0).map h')) (bC rs bs)).2 (fun i s=>ρ (gm i) s) b:=fun b hb=>⟨hb.1,hb.2.1,fun ho=>hb.2.2 (adw m1 ho)⟩;have hps:∀id,bu id=true->(dB n (az ((dJ n0).map h')) (bC rs bs)).2 id=az ((dJ n0).map h') id/\gm id=id:=fun id hp=>m2 id (by
   simp only[bu,decide_eq_true_eq]at hp;omega)
  have hpd:∀id,bu id=true->h' id≠ .dead->(dB n (az ((dJ n0).map h')) (bC rs bs)).2 id=h' id:=fun id hp hd=>by
   rw[(hps id hp).1,xK,if_pos (D7.1 (hpass id hp hd))]
  have rel2:=Rel.emb m1 r r.xl (fun i s hl=>r.nx _ _ (m1.live hl).1) hfar;refine⟨fun i s=>ρ (gm i) s,rel2,fun nm=>⟨rfl,rfl,rfl,aET _,fun _ _ _=>rfl,fun b ho=>.inl (adw m1 ho),fun id hp hd=>?_,fun _ id p hp hd hpr=>?_⟩,?_⟩
  ·grind[xK]
  ·have h1:h' id≠ .dead:=by obtain⟨_,_,_,e,_⟩:=hpr;grind
   grind[iu]
  ·
   have seen:∀ (j:Nat) (a c:AV),zas[j]?=some a->(bC rs bs)[j]?=some c->yN c=false->
     Seen w X ρ h' a (aN w X (dB n (az ((dJ n0).map h')) (bC rs bs)).2 (fun i s=>ρ (gm i) s)) (fun i s=>ρ (gm i) s) (dB n (az ((dJ n0).map h')) (bC rs bs)).2:=by
    intro j a c h1 h3 h4;refine⟨hfar,fun id hid hp sub hl=>⟨?_,fun hx=>r.nx _ _ hl (.inl hx),fun⟨i,s,ho1,ho2⟩=>?_⟩,fun id hp hd=>⟨by grind,by grind⟩⟩
    ·cases sub with
     |none=>
      have ho:=r.ob id;cases e:h' id with
      |bx cs=>rw[e]at ho;obtain⟨us,t,g1,_⟩:=ho;grind
      |ar k rows=>rw[e]at ho;obtain⟨us,t,g1,_⟩:=ho;grind
      |_=>simp[live,e]at hl
     |some p=>
      obtain⟨cs,k,rows,e,ec⟩:=hl;have ho:=r.ob id;rw[e]at ho;obtain⟨us,t,g1,g2,g3,g4⟩:=ho;obtain⟨u,_,a',cap,us',t',_,_,_,q4,_⟩:=g4 p _ ec;grind
    ·obtain⟨hl1,hdd⟩:=m1.live ho1;obtain⟨e1,_⟩:=r.inj _ _ _ _ hl1 hl ho2;rcases m3 i hdd with⟨q1,q2⟩| ⟨j',a',c',q1,q2,q3,q4⟩
     ·grind
     ·rw[e1]at q4;have hne:j'≠j:=by
       grind
      exact two_names zas j' j a' a id hne q1 h1 γ hid hp hc1
   have vals:∀ (j:Nat) (z:AV) (u:Value),(dB n (az ((dJ n0).map h')) (bC rs bs)).1[j]?=some z->us[j]?=some u->
     RV w (aN w X (dB n (az ((dJ n0).map h')) (bC rs bs)).2 (fun i s=>ρ (gm i) s)) (fun i s=>ρ (gm i) s) (dB n (az ((dJ n0).map h')) (bC rs bs)).2 z u:=by
    intro j z u hz hu;obtain⟨c,h1,rfl⟩:=Zv _ _ _ _ _ hz;have hja:j<O zas:=γ
    have ha:zas[j]?=some zas[j]:=γ
    have o:=out j zas[j] c u ha h1 hu;cases hm:yN c with
    |false=>
     rw[Ws hm];exact o.2 hm _ _ _ (seen j zas[j] c ha h1 hm)
    |true=>
     obtain⟨id,i1,i2,i3,⟨k,rows,rfl,i4,i5⟩| ⟨xs,rfl,i4,i5⟩⟩:=o.1 hm
     ·obtain⟨q1,q2,q3⟩:=m4 j zas[j] _ id ha h1 hm i1;have hva:=hv j zas[j] u ha hu;rw[i4]at hva;obtain⟨a',cap,rfl,hp,hnn,hb,hab⟩:=hva.rsl_inv;simp only[eS];exact .rsl (n+j) none k 0 (O rows) cap a' (by show _≠_;grind) hnn γ (by simp only[q1];exact hab)
     ·obtain⟨q1,q2,q3⟩:=m4 j zas[j] _ id ha h1 hm i1;have hva:=hv j zas[j] u ha hu;rw[i4]at hva;obtain⟨rfl,hp⟩:=hva.ref_inv;simp only[eS];have:=RV.ref (w:=w) (A:=aN w X (dB n (az ((dJ n0).map h')) (bC rs bs)).2 (fun i s=>ρ (gm i) s)) (ρ:=fun i s=>ρ (gm i) s) (h:=(dB n (az ((dJ n0).map h')) (bC rs bs)).2) (n+j) none 0 0 0 (by show _≠_;rw[q2];exact q3);simp only[q1]at this;exact this
   have hzl:(dB n (az ((dJ n0).map h')) (bC rs bs)).1.length=us.size:=by rw[PR,hcl,hs]
   unfold Yy;split
   ·rename_i h1
    match hq:(dB n (az ((dJ n0).map h')) (bC rs bs)).1 with
    |[]=>rw[hq]at hzl;simp at hzl;omega
    |[z]=>exact vals 0 z us[0] (by rw[hq];rfl) (by simp[h1])
    |a::b::l=>rw[hq]at hzl;simp at hzl;omega
   ·rename_i h1
    match hq:(dB n (az ((dJ n0).map h')) (bC rs bs)).1 with
    |[]=>exact .tup [] us (by rw[hq]at hzl;simpa using hzl.symm) fun i c u hc=>by simp at hc
    |[z]=>rw[hq]at hzl;simp at hzl;omega
    |a::b::l=>
     rw[hq]at hzl;exact .tup _ us hzl.symm fun i c u hc hu=>vals i c u (by rw[hq];exact hc) hu
 grind
where
 two_names:∀ (zas:List AV) (i j:Nat) (a b:AV) (id:Nat),i≠j->zas[i]?=some a->zas[j]?=some b->id∈cF a->id∈cF b->bu id=false->mT ((zas.flatMap cF).filter fun i=>!bu i)=true->False
 |[],i,j,a,b,id,_,h1,_,_,_,_,_=>by simp at h1
 |c::zas,i,j,a,b,id,hne,h1,h2,h3,h4,hp,hnd=>by
  simp only[List.flatMap_cons,List.filter_append]at hnd;obtain⟨nd2,nd3⟩:=Ss hnd;have mem:∀ (j:Nat) (b:AV),zas[j]?=some b->id∈cF b->id∈ (zas.flatMap cF).filter fun i=>!bu i:=fun j b hb hi=>
   List.mem_filter.2 ⟨List.mem_flatMap.2 ⟨b,aE6 hb,hi⟩,by grind⟩
  cases i with
  |zero=>
   simp at h1;subst h1;cases j with
   |zero=>exact hne rfl
   |succ j=>exact nd3 id (List.mem_filter.2 ⟨h3,by simp[hp]⟩) (mem j b (by simpa using h2) h4)
  |succ i=>
   cases j with
   |zero=>
    simp at h2;subst h2;exact nd3 id (List.mem_filter.2 ⟨h4,by simp[hp]⟩) (mem i a (by simpa using h1) h3)
   |succ j=>exact two_names zas i j a b id ω γ (by simpa using h2) h3 h4 hp nd2
end
structure Text (P:Program) (f:FuncId) (fd:FD):Prop where
 text: ∃fn code N,P.funcs[f]?=some fn/\fn.body=some code/\fn.ntmps=N/\N<=1000/\jR P N code fd.body=some fd.body/\KG P fn.results.toList=some fd.res/\ (fn.name== "runtime.NumGoroutine")=false
theorem Zx(fn:Func)(tmps):fn.results.mapM (Fl tmps)=(fun l=>l.toArray)<$>fn.results.toList.mapM (Fl tmps):=by
 rw[Array.mapM_eq_mapM_toList]
def acK{P}{fn}{tmps}{w}{us}(h:(fn.results.toList.mapM (Fl tmps)).run P w=.ok us w):(results fn tmps).run P w=.ok (Yy us.toArray) w:=by
 have h1:(fn.results.mapM (Fl tmps)).run P w=.ok us.toArray w:=by
  simp_all[Zx,Sem.run_map]
 have h2:results fn tmps=(fn.results.mapM (Fl tmps)>>=fun vs=>pure (Yy vs)):=by
  congr 1
 simp_all
section
variable {P:Program} {I:Inv} {call:j8} {md:Mode}
def apw(hm:P.follows .mixedOrders=true)(hcall:qG P I call md){f}{fd}{lf}(ht:Text P f fd):rK P I md.nm f (MD call md lf fd):=by
 obtain⟨fn,code,N,t1,t2,t3,t4,t5,t6,t7⟩:=ht.text;intro args obs obs' res w X ρ vals n hz hn hi r hsz hv;unfold MD at hz;split at hz
 ·rename_i hc;obtain⟨c1,c2⟩:=hc;have he:(callFunc f vals).run P w=.ok (.enter f vals) w:=by
   simp_all[callFunc,Sem.run_bind,Result.andThen]
  unfold Enters;rw[he];refine calls_of_wp t1 t2 ?_;have hget:∀i,(vals++Array.replicate (fn.ntmps-vals.size) undef).getD i undef=vals.getD i undef:=fun i=>by
   simp only[Array.getD_eq_getD_getElem?,Array.getElem?_append];grind
  have ok:Ok I N w X ρ (az obs) (iW args) {tmps:=vals++Array.replicate (fn.ntmps-vals.size) undef,defers:=[]}:=by
   refine⟨r,fun i=>?_,by grind,rfl,hi⟩;simp only[hget,iW];by_cases h:i<O args
   ·rw[Array.getD_eq_getD_getElem?];grind
   ·rw[List.getElem?_eq_none ω];exact .anyv _
  have fin:∀ {t:St} {a} {w'} {ρ'},Ok I N w' X ρ' t.h t.s a->Far md.nm w ρ (az obs) w' ρ' t.h->Hb md.nm fd.rs fd.res (O obs) t.s t.h=some (res,obs')->
    a.defers=[]/\∃v,(results fn a.tmps).run P w'=.ok v w'/\∃ρ'',Rel w' X ρ'' (mat n (az obs') res).2/\Far md.nm w ρ (az obs) w' ρ'' (mat n (az obs') res).2/\
     RV w' (aN w' X (mat n (az obs') res).2 ρ'') ρ'' (mat n (az obs') res).2 (mat n (az obs') res).1 v:=by
   intro t a w' ρ' ok' far hf;refine⟨ok'.defers,?_⟩;simp only[Hb,aEQ]at hf;obtain⟨⟨vs,h',ks⟩,e1,e2⟩:=hf;split at e2
   ·rename_i hnm;obtain⟨us,g1,g2,g3,g4,g5⟩:=PL (a:=a) fn.results.toList fd.res t6 ok'.rel ok'.rs e1;refine⟨_,acK g1,?_⟩;have far2:=far.trans (g4.far hnm);obtain⟨ρ2,q1,q2,q3⟩:=aiR (us:=us.toArray) g3 c2 hn (fun id hp hd=>by
     have:=(far2.stay id hp hd).1;unfold az at this;refine D7.2 ?_;grind) ω (fun i c u hc hu=>g5 i c u hc γ) e2
    exact⟨ρ2,q1,far2.trans (q2 md.nm),q3⟩
   grind
  cases hx:df call md lf fd.body (iW args) (az obs)with
  |none=>rw[hx]at hz;cases hz
  |some q=>
   obtain⟨e,t⟩:=q;rw[hx]at hz;refine agt (N:=N) hcall t4 (agy hm hcall t4) lf fd.body code t5 hx ok fun a' w' ρ' ok' far=>?_;cases e with
   |normal=>
    obtain⟨d1,v,d2,d3⟩:=fin ok' far hz;exact⟨d1,v,d2,d3⟩
   |ret=>
    obtain⟨d1,v,d2,d3⟩:=fin ok' far hz;exact⟨d1,v,d2,d3⟩
   |exit id=>cases hz
 grind
end
section
variable {w:World} {X:Nat→Prop} {ρ:fL} {h h':aj}
def Ww{a c}{ks}(hz:iJ h a=some (c,h',ks)):∀p∈ks,p.2=true:=by
 unfold iJ at hz;split at hz
 ·unfold qX at hz;grind
 ·unfold Mz alQ at hz;grind
 grind
def Su:∀ {l cs} {h h'} {ks},kX h l=some (cs,h',ks)->∀p∈ks,p.2=true
 |[],cs,h,h',ks,hz=>by grind[kX,Option.some.injEq,Prod.mk.injEq]
 |a::l,cs,h,h',ks,hz=>by
  simp only[kX,aEQ]at hz;obtain⟨⟨c,h1,k1⟩,e1,⟨q,h2,k2⟩,e2,e3⟩:=hz;cases e3;intro p hp;rcases List.mem_append.1 hp with hp|hp
  ·exact Ww e1 p hp
  ·exact Su e2 p hp
def ama{a c}{ks}(hz:Av h a=some (c,h',ks)):∀p∈ks,p.2=true:=by
 unfold Av at hz;split at hz
 ·simp only[aEQ]at hz;obtain⟨⟨q,h1,k1⟩,e1,e2⟩:=hz;cases e2;exact Su e1
 ·exact Ww hz
def aiS{ks:K}(hk:∀p∈ks,p.2=true)(id):lF ks id none=false:=by
 grind[lF,List.any_eq_false]
def RV.clo{w'}{A A'}{ρ'}{l}{c}{u}(hv:RV w A ρ h c u)(hA:∀b,A b->A' b/\w'.heap[b]?=w.heap[b]?)(hk:∀id,cZ h id none->cZ h' id none/\ρ' id none=ρ id none)(hm:be l c=true):RV w' A' ρ' h' c u:=by
 have leaf:∀ {c} {u},RV w A ρ h c u->bA l c=true->RV w' A' ρ' h' c u:=by
  intro c u hv hm;cases hv with
  |anyv u=>exact .anyv u
  |und=>exact .und
  |dat hd=>exact .dat (hd.mono hA)
  |ref id sub k i j hp=>
   cases sub with
   |some p=>simp[bA]at hm
   |none=>
    obtain⟨h1,h2⟩:=hk id hp;rw[←h2];exact .ref id none k i j h1
  |rsl id sub k lo n cap a hp hn hb ha=>
   cases sub with
   |some p=>simp[bA]at hm
   |none=>
    obtain⟨h1,h2⟩:=hk id hp;exact .rsl id none k lo n cap a h1 hn γ γ
  |rsc id k lo n cap a hp hn hb ha=>simp[bA]at hm
  |ipt cs ad vals hA' hs hv hl hr=>
   exact .ipt cs ad vals (hA _ hA').1 hs (fun j c hc=>by rw[sH (w:=w) (w':=w') (by rw[vH];grind)];grind) hl (fun j c hc=>(hr j c hc).mono hA)
  |agg cs us hs h1 hr=>simp[bA]at hm
  |tup vs us hs hr=>simp[bA]at hm
  |fn f x y us ts hs ht hx hy=>
   simp[bA]at hm;obtain⟨rfl,rfl⟩:=hm;exact .fn f [] [] us ts hs ht (fun i c u hc=>by grind) (fun i c u hc=>by grind)
 cases c with
 |agg cs=>
  simp only[be,aFc]at hm;obtain⟨us,rfl,hs,h1,hr⟩:=hv.agg_inv;exact .agg cs us hs h1 fun i c u hc hu=>leaf (hr i c u hc hu) (hm c (aE6 hc))
 |fn f x y=>
  simp only[be,aEV,aFc]at hm;obtain⟨us,ts,rfl,hs,ht,hx,hy⟩:=hv.fn_inv;exact .fn f x y us ts hs ht (fun i c u hc hu=>leaf (hx i c u hc hu) (hm.1 c (aE6 hc))) (fun i c u hc hu=>leaf (hy i c u hc hu) (hm.2 c (aE6 hc)))
 |_=>exact leaf hv hm
structure Way (w:World) (X:Nat->Prop) (ρ:fL) (h0 h:aj):Prop where
 evo:∃ks:K,Evo w ρ h0 w ρ h ks/\∀p∈ks,p.2=true
theorem Way.refl:Way w X ρ h h:=⟨[],.refl _ _ _,by simp⟩
theorem Way.trans{h1 h2}(a:Way w X ρ h h1)(b:Way w X ρ h1 h2):Way w X ρ h h2:=by
 obtain⟨k1,e1,f1⟩:=a.evo;obtain⟨k2,e2,f2⟩:=b.evo;exact⟨k1++k2,e1.trans e2,fun p hp=>by grind⟩
def Way.al{h0}(a:Way w X ρ h0 h):∀b,aN w X h0 ρ b->aN w X h ρ b:=by
 obtain⟨k1,e1,_⟩:=a.evo;exact fun b hb=>(e1.al hb).1
def acL{h0}{m}{a z}{u}{ks}(r:Rel w X ρ h)(wy:Way w X ρ h0 h)(hv:RV w (aN w X h0 ρ) ρ h0 a u)(hz:eM h m a=some (z,h',ks)):
  Rel w X ρ h'/\Evo w ρ h w ρ h' ks/\(∀p∈ks,p.2=true)/\∃h1,Way w X ρ h1 h'/\RV w (aN w X h1 ρ) ρ h1 z u:=by
 have same:some (a,h,[])=some (z,h',ks)->Rel w X ρ h'/\Evo w ρ h w ρ h' ks/\(∀p∈ks,p.2=true)/\∃h1,Way w X ρ h1 h'/\RV w (aN w X h1 ρ) ρ h1 z u:=by
  intro e;cases e;exact⟨r,.refl _ _ _,by simp,h0,wy,hv⟩
 have data:Av h a=some (z,h',ks)->((∀cs,a≠ .agg cs)->u.oneCell'=true)->Rel w X ρ h'/\Evo w ρ h w ρ h' ks/\(∀p∈ks,p.2=true)/\∃h1,Way w X ρ h1 h'/\RV w (aN w X h1 ρ) ρ h1 z u:=by
  intro hz h1;obtain⟨g1,g2,g3,g4⟩:=aiy r hv wy.al hz h1;exact⟨g1,g2,ama hz,h',.refl,.dat g3⟩
 cases a with
 |any=>
  grind[eM,Av,iJ,aI]
 |rsl id sub k lo n=>
  obtain⟨ad,cap,rfl,_⟩:=hv.rsl_inv;cases sub with
  |none=>
   simp only[eM]at hz;split at hz
   ·exact data hz fun _=>rfl
   grind
  |some p=>exact data hz fun _=>rfl
 |ref id sub k i j=>
  cases sub with
  |none=>exact same hz
  |some p=>grind[eM,Av,iJ,aI]
 |ipt cs=>exact same hz
 |fn f x y=>exact same hz
 |agg cs=>exact data hz fun hh=>absurd rfl (hh cs)
 |v x=>exact data hz fun _=>by obtain⟨rfl,hp⟩:=hv.v_inv;exact KH hp
 |emp=>
  refine data hz fun _=>?_;cases hv with
  |dat hd=>exact hd.one rfl
 |sl k rows=>
  refine data hz fun _=>?_;cases hv with
  |dat hd=>exact hd.one rfl
 |_=>simp[eM,Av,iJ,aI]at hz
def MX{h0}:∀l ms (vals:List Value) {h h'} {zs} {ks},Rel w X ρ h->Way w X ρ h0 h->O vals=O l->
  (∀ (i:Nat) c u,l[i]?=some c->vals[i]?=some u->RV w (aN w X h0 ρ) ρ h0 c u)->cr h ms l=some (zs,h',ks)->
  Rel w X ρ h'/\Evo w ρ h w ρ h' ks/\(∀p∈ks,p.2=true)/\O zs=O l/\∀ (i:Nat) z u,zs[i]?=some z->vals[i]?=some u->∃h1,Way w X ρ h1 h'/\RV w (aN w X h1 ρ) ρ h1 z u
 |[],ms,vals,h,h',zs,ks,r,wy,hl,hv,hz=>by
  obtain⟨rfl,rfl,rfl⟩:=hz;exact⟨r,.refl _ _ _,by simp,rfl,fun i z u h1=>by grind⟩
 |a::l,ms,vals,h,h',zs,ks,r,wy,hl,hv,hz=>by
  simp only[cr,aEQ]at hz;obtain⟨⟨z,h1,k1⟩,e1,⟨q,h2,k2⟩,e2,e3⟩:=hz;cases e3;cases vals with
  |nil=>grind
  |cons u vals=>
   obtain⟨g1,g2,g3,h3,g4,g5⟩:=acL r wy (hv 0 a u rfl rfl) e1;obtain⟨f1,f2,f3,f4,f5⟩:=MX l ms.tail vals g1 (wy.trans ⟨k1,g2,g3⟩) γ (fun i c u' h4 h5=>hv (i+1) c u' γ γ) e2;refine⟨f1,g2.trans f2,fun p hp=>?_,by grind,fun i z' u' h4 h5=>?_⟩
   ·grind
   ·cases i with
    |zero=>
     simp at h4 h5;subst h4 h5;exact⟨h3,g4.trans ⟨k2,f2,f3⟩,g5⟩
    |succ i=>grind
def aiT{L}{h1}{z}{u}(wy:Way w X ρ h1 h)(hv:RV w (aN w X h1 ρ) ρ h1 z u)(hc:be L z=true):RV w (aN w X h ρ) ρ h z u:=by
 obtain⟨ks,e,f⟩:=wy.evo;exact hv.clo (fun b hb=>e.al hb) (fun id hp=>e.keep id none hp (aiS f id)) hc
def MY(r:Rel w X ρ h){b}(ho:wS h ρ b):b<w.heap.size:=by
 obtain⟨id,sub,hl,rfl⟩:=ho;cases sub with
 |none=>
  have ho:=r.ob id;cases e:h id with
  |bx cs=>rw[e]at ho;obtain⟨us,t,g1,_⟩:=ho;grind
  |ar k rows=>rw[e]at ho;obtain⟨us,t,g1,_⟩:=ho;grind
  |_=>simp[live,e]at hl
 |some p=>
  obtain⟨cs,k,rows,e,ec⟩:=hl;have ho:=r.ob id;rw[e]at ho;obtain⟨us,t,g1,g2,g3,g4⟩:=ho;obtain⟨u,_,a',cap,us',t',_,_,_,q4,_⟩:=g4 p _ ec;grind
section
variable {ids:List Nat}
theorem Hl{a}(ha:a∈ids):1000<=bh ids a/\bh ids a<1000+O ids:=by
 grind[bh,List.idxOf_lt_length_of_mem]
theorem Fn(hl:O ids<=1000){a}(ha:a∈ids):eW ids (bh ids a)=a:=by
 have:=Hl ha;unfold eW;rw[if_pos ω]
 simp_all[bh,List.idxOf_lt_length_of_mem]
theorem Hm(hl:O ids<=1000)(hnd:ids.Nodup){i}(h1:1000<=i)(h2:i<1000+O ids):eW ids i∈ids/\bh ids (eW ids i)=i:=by
 have hj:i-1000<O ids:=ω
 have e:eW ids i=ids[i-1000]:=by
  unfold eW;grind
 grind[bh]
theorem Sv{os}{j}{o}(h:os[j]?=some o):az os (1000+j)=o:=by
 simp_all[az,if_pos]
theorem C2{os}{i}(h:i<1000\/1000+O os<=i):az os i=.dead:=by
 grind[az]
def Emb.enter(hl:O ids<=1000)(hnd:ids.Nodup)(hcl:∀a∈ids,aE ids (h a)=true):Emb ids (bh ids) (eW ids) h (az (ids.map fun a=>eP (bh ids) (h a))):=by
 have at_:∀a∈ids,az (ids.map fun a=>eP (bh ids) (h a)) (bh ids a)=eP (bh ids) (h a):=fun a ha=>by
  refine Sv ?_;grind
 have low:∀i,az (ids.map fun a=>eP (bh ids) (h a)) i≠ .dead->1000<=i/\i<1000+O ids:=fun i hi=>by
  by_cases h1:1000<=i/\i<1000+O ids
  ·omega
  ·exact absurd (C2 γ) hi
 refine⟨fun a ha=>?_,fun i hi=>?_,fun i j hi hj e=>?_⟩
 ·have ha':a∈ids:=γ
  exact⟨Fn hl ha',at_ a ha'⟩
 ·obtain⟨h1,h2⟩:=low i hi;obtain⟨h3,h4⟩:=Hm hl hnd h1 h2;grind
 ·obtain⟨h1,h2⟩:=low i hi;obtain⟨h3,h4⟩:=low j hj;rw[← (Hm hl hnd h1 h2).2,← (Hm hl hnd h3 h4).2,e]
end
end
theorem Wx{gv}{id}:∀ {h},(∀p∈gv,p.1≠id)->ie h gv id=h id:=by
 induction gv with
 |nil=>intro h _;rfl
 |cons p l ih=>
  simp_all[ie,aW,Ne.symm]
theorem Zy{gv}{id}:∀ {h},((∃p∈gv,p.1=id)\/h id=.dead)->ie h gv id=.dead:=by
 induction gv with
 |nil=>
  intro h hi;rcases hi with⟨p,hp,_⟩|hi
  ·grind
  ·exact hi
 |cons p l ih=>
  simp only[ie];grind[aD,absurd,upd]
def Zz{ids}:∀ {l} {os} {g} {j a:Nat} {o},l.Nodup->l[j]?=some a->os[j]?=some o->fw g ids l os a=eP (eW ids) o
 |[],os,g,j,a,o,_,h1,_=>by grind
 |b::l,[],g,j,a,o,_,_,h2=>by grind
 |b::l,o'::os,g,j,a,o,hnd,h1,h2=>by
  obtain⟨n1,n2⟩:=List.nodup_cons.1 hnd;simp only[fw];cases j with
  |zero=>
   simp at h1 h2;subst h1 h2;rw[Ca n1,aD]
  |succ j=>exact Zz n2 (by simpa using h1) (by simpa using h2)
def Sw{h}:∀ {m n},bV h n m=true->∀i,n<=i->i<n+m->h i=.dead
 |0,n,_,i,h1,h2=>by omega
 |m+1,n,hf,i,h1,h2=>by
  simp only[bV,aEV]at hf;by_cases e:i=n
  ·grind[bS]
  ·exact Sw hf.2 i ω ω
def Hn{h}{gv}:∀ {l} {os},dk h gv l os=true->∀ (j a:Nat) o,l[j]?=some a->os[j]?=some o->(bf (h a)=true->bf o=true)/\((∀p∈gv,p.1≠a)->o≠ .dead)
 |[],os,_,j,a,o,h1,_=>by grind
 |b::l,[],_,j,a,o,_,h2=>by grind
 |b::l,o'::os,hs,j,a,o,h1,h2=>by
  simp only[dk,aEV,aF0,aFS]at hs;obtain⟨⟨s1,s2⟩,s3⟩:=hs;cases j with
  |zero=>
   refine⟨fun hb=>?_,fun hn e=>?_⟩
   ·grind
   ·grind[bS]
  |succ j=>exact Hn s3 j a o (by simpa using h1) (by simpa using h2)
theorem Ho{l l'}{c}(hl:∀i,l.contains i=true->l'.contains i=true)(hc:bA l c=true):bA l' c=true:=by
 cases c<;>simp only[bA]at hc⊢ <;>first|exact hc|skip
 all_goals grind
theorem MZ{l l'}{c}(hl:∀i,l.contains i=true->l'.contains i=true)(hc:be l c=true):be l' c=true:=by
 cases c with
 |agg cs=>
  grind[be,aFc,Ho]
 |fn f x y=>
  simp only[be,aEV,aFc]at hc⊢;grind[Ho]
 |_=>
  simp only[be]at hc⊢;exact Ho hl hc
def ZA{l l'}{o}(hl:∀i,l.contains i=true->l'.contains i=true)(hc:aE l o=true):aE l' o=true:=by
 cases o<;>simp only[aE]at hc⊢;simp only[aFc,mh,aF0]at hc⊢;grind[MZ]
def ZB{f}{c}(hd:qh c=true):eG f c=c:=by
 cases c<;>simp[qh,bI,aI]at hd<;>first|rfl|skip
 obtain⟨rfl,rfl⟩:=hd;rfl
def ZC{l}{n}{g}{c}(hr:gR l c=true){i}(h:(eS n g c).2 i≠g i):(∃k rows,(eS n g c).2 i=.ar k rows)\/∃cs,(eS n g c).2 i=.bx cs/\cs.all qh=true:=by
 cases c<;>simp only[eS]at h⊢ <;>first|exact absurd rfl h|skip
 case osl k rows=>
  simp_all[upd,if_neg,absurd]
 case obx cs=>
  unfold upd at h⊢;split
  ·exact .inr ⟨_,rfl,hr⟩
  grind
def ZD{l}{i}:∀ {vs} {n} {g},vs.all (gR l)=true->(dB n g vs).2 i≠g i->(∃k rows,(dB n g vs).2 i=.ar k rows)\/∃cs,(dB n g vs).2 i=.bx cs/\cs.all qh=true
 |[],n,g,_,h=>absurd rfl h
 |c::vs,n,g,hr,h=>by
  simp only[aFa,aEV]at hr;simp only[dB]at h⊢;by_cases e:(dB (n+1) (eS n g c).2 vs).2 i=(eS n g c).2 i
  ·rw[e]at h⊢;exact ZC hr.1 h
  ·exact ZD hr.2 e
def apx{l}{n}{g}{c}(hr:kZ l c=true){i}(h:(mat n g c).2 i≠g i):(∃k rows,(mat n g c).2 i=.ar k rows)\/∃cs,(mat n g c).2 i=.bx cs/\cs.all qh=true:=by
 cases c<;>simp only[mat]at h⊢ <;>simp only[kZ]at hr<;>first|exact ZD hr h|exact ZC hr h
def PU{l l'}{n}{g}{c}(hr:gR l c=true)(hl:∀i,l.contains i=true->l'.contains i=true)(hn:l'.contains n=true):be l' (eS n g c).1=true:=by
 cases c<;>simp only[eS]<;>simp only[gR]at hr<;>first|exact MZ hl hr| (simp only[be,bA,hn];rfl)
def PV{l l'}(hl:∀i,l.contains i=true->l'.contains i=true):∀ {vs} {n} {g},vs.all (gR l)=true->(∀i,n<=i->i<n+O vs->l'.contains i=true)->∀z∈ (dB n g vs).1,be l' z=true
 |[],n,g,_,_,z,hz=>by grind[dB]
 |c::vs,n,g,hr,hn,z,hz=>by
  simp only[aFa,aEV]at hr;simp only[dB,List.mem_cons]at hz;rcases hz with rfl|hz
  ·exact PU hr.1 hl (hn n (aET _) σ)
  ·exact PV hl hr.2 (fun i h1 h2=>hn i ω (by simp at h2⊢;omega)) z hz
def agA(l:List Nat):AV->Prop
 | .tup vs=>∀c∈vs,be l c=true
 |c=>be l c=true
def agB{l l'}{n}{g}{c}(hr:gR l c=true)(hl:∀i,l.contains i=true->l'.contains i=true)(hn:l'.contains n=true):agA l' (eS n g c).1:=by
 have:=PU (n:=n) (g:=g) hr hl hn;cases hq:(eS n g c).1<;>rw[hq]at this<;>first|exact this|simp[be,bA]at this
def aiU{l l'}{n}{g}{c}(hr:kZ l c=true)(hl:∀i,l.contains i=true->l'.contains i=true)(hn:∀i,n<=i->i<n+cV c->l'.contains i=true):agA l' (mat n g c).1:=by
 cases c with
 |tup vs=>
  exact PV hl hr hn
 |_=>exact agB hr hl (hn n (aET _) (by simp[cV]))
section
variable {w:World} {X:Nat→Prop} {ρ:fL} {hc:aj} {ids:List Nat}
def PW(X:Nat->Prop)(hc:aj)(ρ:fL)(ids:List Nat)(b:Nat):Prop:=
 X b\/(wS hc ρ b/\¬wS (az (ids.map fun a=>eP (bh ids) (hc a))) (fun i s=>ρ (eW ids i) s) b)
def aiV(r:Rel w X ρ hc)(hl:O ids<=1000)(hnd:ids.Nodup)(hcl:∀a∈ids,aE ids (hc a)=true):
  Rel w (PW X hc ρ ids) (fun i s=>ρ (eW ids i) s) (az (ids.map fun a=>eP (bh ids) (hc a)))/\
  (∀b,aN w X hc ρ b->aN w (PW X hc ρ ids) (az (ids.map fun a=>eP (bh ids) (hc a))) (fun i s=>ρ (eW ids i) s) b):=by
 have em:=Emb.enter (h:=hc) hl hnd hcl;have hA:∀b,aN w X hc ρ b->aN w (PW X hc ρ ids) (az (ids.map fun a=>eP (bh ids) (hc a))) (fun i s=>ρ (eW ids i) s) b:=fun b hb=>
  ⟨hb.1,fun hx=>by rcases hx with hx| ⟨hx,_⟩;exact hb.2.1 hx;exact hb.2.2 hx,fun⟨i,s,h1,h2⟩=>hb.2.2 ⟨_,s,(em.live h1).1,h2⟩⟩
 exact⟨Rel.emb em r (fun b hb=>by rcases hb with(hb| ⟨hb,_⟩)|hb;exact r.xl b (.inl hb);exact MY r hb;exact r.xl b (.inr hb)) (fun i s hl hx=>by
  rcases hx with(hx| ⟨_,hx⟩)|hx
  ·exact r.nx _ _ (em.live hl).1 (.inl hx)
  ·exact hx ⟨i,s,hl,rfl⟩
  ·exact r.nx _ _ (em.live hl).1 (.inr hx)) hA,hA⟩
def M0(hl:O ids<=1000)(hnd:ids.Nodup)(hcl:∀a∈ids,aE ids (hc a)=true){b}(ho:wS (az (ids.map fun a=>eP (bh ids) (hc a))) (fun i s=>ρ (eW ids i) s) b):
  ∃id sub,id∈ids/\live hc id sub/\(ρ id sub).1=b:=by
 obtain⟨i,s,h1,h2⟩:=ho;obtain⟨h3,h4⟩:=(Emb.enter (h:=hc) hl hnd hcl).live h1;grind[absurd,C2,Hm]
def agC{w'}{ρ'}{kp}{d}{gv ks0 ks}{res}{os}{z}{h'}{v}(r:Rel w X ρ hc)(hnd:ids.Nodup)(hcl:∀a∈ids,aE ids (hc a)=true)(hdead:∀a∈ids,hc a≠ .dead)(gvflag:∀p∈gv,p.2=false)
  (hz:fG kp hc d ids ks0 gv (res,os)=some (z,h',ks)) (r':Rel w' (PW X hc ρ ids) ρ' (mat (2000+8*d) (az os) res).2)
  (far:Far kp w (fun i s=>ρ (eW ids i) s) (az (ids.map fun a=>eP (bh ids) (hc a))) w' ρ' (mat (2000+8*d) (az os) res).2)
  (hv:RV w' (aN w' (PW X hc ρ ids) (mat (2000+8*d) (az os) res).2 ρ') ρ' (mat (2000+8*d) (az os) res).2 (mat (2000+8*d) (az os) res).1 v):
  ∃ρ3 k1,ks=ks0++k1/\Rel w' X ρ3 h'/\Evo w ρ hc w' ρ3 h' k1/\RV w' (aN w' X h' ρ3) ρ3 h' z v:=by
 unfold fG at hz;split at hz
 ·rename_i hcond;obtain⟨c1,hl,c2,c3,c4,c5⟩:=hcond;simp only at c1 c2 c4;simp only[Option.some.injEq,Prod.mk.injEq]at hz;obtain⟨rfl,rfl,rfl⟩:=hz;simp only[nP,aEV]at c5;obtain⟨c5,c6,c7⟩:=c5;generalize hn:2000+8*d=n at*
  have n2:=ω
  have em:=Emb.enter (h:=hc) hl hnd hcl;have gdead:=Sw c3;have gids:=fun i h1 h2 hi=>hdead i hi (gdead i h1 h2);have oget:∀a∈ids,os[ids.idxOf a]?=some (az os (bh ids a)):=fun a ha=>by
   simp_all[List.idxOf_lt_length_of_mem,bh,congrArg,Sv]
  have hm_ids:∀a∈ids,(mat n (az os) res).2 (bh ids a)=az os (bh ids a):=fun a ha=>D8 (by grind[Hl]);have hm_out:∀i,¬ (1000<=i/\i<1000+O ids)->¬ (n<=i/\i<n+cV res)->(mat n (az os) res).2 i=.dead:=fun i h1 h2=>by
   grind[D8,C2]
  have w_ids:∀a∈ids,fw hc ids ids os a=eP (eW ids) (az os (bh ids a)):=fun a ha=>Zz hnd (by
   grind) (oget a ha)
  have h_grp:∀i,n<=i->i<n+cV res->(mat n (ie (fw hc ids ids os) gv) res).2 i=(mat n (az os) res).2 i:=fun i h1 h2=>aiN (by
   grind[Zy,Ca,C2])
  have h_ids:∀a∈ids,(∀p∈gv,p.1≠a)->(mat n (ie (fw hc ids ids os) gv) res).2 a=eP (eW ids) ((mat n (az os) res).2 (bh ids a)):=fun a ha hg=>by
   rw[D8 (fun hh=>gids a hh.1 hh.2 ha),Wx hg,w_ids a ha,hm_ids a ha]
  have h_gv:∀a,¬ (n<=a/\a<n+cV res)->(∃p∈gv,p.1=a)->(mat n (ie (fw hc ids ids os) gv) res).2 a=.dead:=fun a h1 hg=>by
   rw[D8 ω,Zy (.inl hg)]
  have h_out:∀a,a∉ids->¬ (n<=a/\a<n+cV res)->(∀p∈gv,p.1≠a)->(mat n (ie (fw hc ids ids os) gv) res).2 a=hc a:=fun a h1 h2 hg=>by
   rw[D8 ω,Wx hg,Ca h1]
  generalize hh':(mat n (ie (fw hc ids ids os) gv) res).2=h' at*
  have hzr':(mat n (az os) res).1=(mat n (ie (fw hc ids ids os) gv) res).1:=adu _ _ _ _;generalize(mat n (ie (fw hc ids ids os) gv) res).1=zr at*
  have grp_obj:∀i,n<=i->i<n+cV res->(mat n (az os) res).2 i≠ .dead->(∃k rows,(mat n (az os) res).2 i=.ar k rows)\/∃cs,(mat n (az os) res).2 i=.bx cs/\cs.all qh=true:=fun i h1 h2 hd=>
   apx c6 (by grind[C2])
  rw[hzr']at hv;have zcl:∀ {l':List Nat},(∀i,(Iw ids gv).contains i=true->l'.contains i=true)->(∀i,n<=i->i<n+cV res->l'.contains i=true)->agA l' zr:=fun{l'} hl1 hl2=>hzr'▸aiU c6 hl1 hl2;generalize hhm:(mat n (az os) res).2=hm at*
  have ok_spec:∀i,(Iw ids gv).contains i=true->1000<=i/\i<1000+O ids/\∀p∈gv,p.1≠eW ids i:=fun i hi=>by
   unfold Iw at hi;split at hi
   all_goals simp_all[List.contains_eq_mem,List.mem_filter,decide_eq_true_eq,aFS,List.any_eq_false,beq_iff_eq,dJ]
  let L3:=Iw ids gv++List.range' n (cV res)
  have l3a:∀i,(Iw ids gv).contains i=true->L3.contains i=true:=fun i hi=>by
   grind
  have l3b:∀i,n<=i->i<n+cV res->L3.contains i=true:=fun i h1 h2=>by
   grind
  let Cal:=fun i=>(i∈ids/\∀p∈gv,p.1≠i)\/(n<=i/\i<n+cV res)
  let nm:Nat->Nat:=fun i=>if i∈ids then bh ids i else i
  let h3:aj:=fun i=>open Classical in if Cal i then h' i else .dead
  have h3c:∀i,Cal i->h3 i=h' i:=fun i hi=>by grind
  have h3n:∀i,h3 i≠ .dead->Cal i:=fun i hi=>by
   grind
  have nmi:∀i∈ids,nm i=bh ids i:=fun i hi=>by grind
  have nmg:∀i,n<=i->i<n+cV res->nm i=i:=fun i h1 h2=>by grind
  have em3:Emb L3 (eW ids) nm hm h3:=by
   refine⟨fun i hi=>?_,fun i hi=>?_,fun i j hi hj e=>?_⟩
   ·simp only[L3,List.contains_eq_mem,List.mem_append,decide_eq_true_eq,List.mem_range'_1]at hi;rcases hi with hi|hi
    ·grind[Hm]
    ·have e1:eW ids i=i:=by unfold eW;rw[if_neg ω]
     rw[e1];refine⟨nmg i hi.1 hi.2,?_⟩;rw[h3c _ (.inr hi),h_grp i hi.1 hi.2];by_cases hd:hm i=.dead
     ·rw[hd];rfl
     ·rcases grp_obj i hi.1 hi.2 hd with⟨k,rows,e2⟩| ⟨cs,e2,e3⟩
      ·rw[e2];rfl
      ·rw[e2];simp only[eP,Ob.bx.injEq];exact((aFn (g:=fun c=>c) fun c hc=>ZB (List.all_eq_true.1 e3 c hc)).trans (aFH cs)).symm
   ·rcases h3n i hi with⟨q1,q2⟩| ⟨q1,q2⟩
    ·rw[h3c _ (.inl ⟨q1,q2⟩),nmi i q1];refine⟨h_ids i q1 q2,?_⟩;rw[hm_ids i q1];exact ZA l3a (List.all_eq_true.1 c7 _ (aE6 (oget i q1)))
    ·rw[nmg i q1 q2];have hd:hm i≠ .dead:=by rw[h3c _ (.inr ⟨q1,q2⟩),h_grp i q1 q2]at hi;exact hi
     rw[h3c _ (.inr ⟨q1,q2⟩),h_grp i q1 q2];rcases grp_obj i q1 q2 hd with⟨k,rows,e2⟩| ⟨cs,e2,e3⟩
     ·rw[e2];exact⟨rfl,rfl⟩
     ·rw[e2];refine⟨?_,?_⟩
      ·simp only[eP,Ob.bx.injEq];exact((aFn (g:=fun c=>c) fun c hc=>ZB (List.all_eq_true.1 e3 c hc)).trans (aFH cs)).symm
      ·simp only[aE,aFc];exact fun c hc=>PS (List.all_eq_true.1 e3 c hc)
   ·rcases h3n i hi with⟨q1,q2⟩| ⟨q1,q2⟩<;>rcases h3n j hj with⟨q3,q4⟩| ⟨q3,q4⟩
    ·rw[nmi i q1,nmi j q3]at e;rw[←Fn hl q1,←Fn hl q3,e]
    ·rw[nmi i q1,nmg j q3 q4]at e;have:=Hl q1;omega
    ·rw[nmg i q1 q2,nmi j q3]at e;have:=Hl q3;omega
    ·rwa[nmg i q1 q2,nmg j q3 q4]at e
  have own3:∀ {b},wS h3 (fun i s=>ρ' (nm i) s) b->wS hm ρ' b:=fun⟨i,s,h1,h2⟩=>⟨nm i,s,(em3.live h1).1,h2⟩;have r3:Rel w' (PW X hc ρ ids) (fun i s=>ρ' (nm i) s) h3:=Rel.emb em3 r' r'.xl (fun i s hl=>r'.nx _ _ (em3.live hl).1) fun b hb=>⟨hb.1,hb.2.1,fun ho=>hb.2.2 (own3 ho)⟩
  let ρ3:fL:=fun i s=>open Classical in if Cal i then ρ' (nm i) s else ρ i s
  have r3c:∀i,Cal i->∀s,ρ3 i s=ρ' (nm i) s:=fun i hi s=>by simp only[ρ3,if_pos hi]
  have r3n:∀i,¬Cal i->∀s,ρ3 i s=ρ i s:=fun i hi s=>by simp only[ρ3,if_neg hi]
  have rest:∀i,¬Cal i->h' i≠ .dead->i∉ids/\h' i=hc i:=fun i hi hd=>by
   have h1:¬ (n<=i/\i<n+cV res):=fun hh=>hi (.inr hh);have h2:∀p∈gv,p.1≠i:=fun p hp e=>hd (h_gv i h1 ⟨p,hp,e⟩);have h4:i∉ids:=fun hh=>hi (.inl ⟨hh,h2⟩);exact⟨h4,h_out i h4 h1 h2⟩
  have xin:∀ {i s},i∉ids->live hc i s->¬wS (az (ids.map fun a=>eP (bh ids) (hc a))) (fun i s=>ρ (eW ids i) s) (ρ i s).1:=fun{i s} hi hl' ho=>by
   obtain⟨id,sub,q1,q2,q3⟩:=M0 hl hnd hcl ho;obtain⟨e,_⟩:=r.inj _ _ _ _ q2 hl' q3;exact hi (e▸q1)
  have lcal:∀ {i s},live h' i s->Cal i->live h3 i s:=fun{i s} hl' hC=>(eu (h3c i hC)).2 hl';have lrest:∀ {i s},live h' i s->¬Cal i->i∉ids/\live hc i s:=fun{i s} hl' hC=>by
   have hd:h' i≠ .dead:=by
    cases s with
    |none=>intro e;simp[live,e]at hl'
    |some p=>obtain⟨_,_,_,e,_⟩:=hl';rw[e];simp
   obtain⟨h1,h2⟩:=rest i hC hd;exact⟨h1,(eu h2).1 hl'⟩
  have fr3:∀ {b},wS hm ρ' b->wS (az (ids.map fun a=>eP (bh ids) (hc a))) (fun i s=>ρ (eW ids i) s) b\/w.heap.size<=b:=fun ho=>far.fresh _ ho;have parts:∀ {i s j t},live h3 i s->j∉ids->live hc j t->(ρ' (nm i) s).1≠ (ρ j t).1:=fun{i s j t} h1 h2 h4 e=>by
   rcases fr3 ⟨nm i,s,(em3.live h1).1,e⟩with ho|ho
   ·exact xin h2 h4 ho
   ·have:=MY r ⟨j,t,h4,rfl⟩;omega
  have ownc:∀ {b},wS h' ρ3 b->wS h3 (fun i s=>ρ' (nm i) s) b\/∃id sub,id∉ids/\live hc id sub/\(ρ id sub).1=b:=fun{b} ⟨i,s,h1,h2⟩=>by
   by_cases hC:Cal i
   ·exact .inl ⟨i,s,lcal h1 hC,by rw[←h2,r3c i hC]⟩
   ·obtain⟨h4,h5⟩:=lrest h1 hC;exact .inr ⟨i,s,h4,h5,by rw[←h2,r3n i hC]⟩
  have hA3:∀b,aN w' (PW X hc ρ ids) h3 (fun i s=>ρ' (nm i) s) b->aN w' X h' ρ3 b:=fun b hb=>⟨hb.1,fun hx=>hb.2.1 (.inl hx),fun ho=>by
   rcases ownc ho with ho| ⟨i,s,h1,h2,rfl⟩
   ·exact hb.2.2 ho
   ·exact hb.2.1 (.inr ⟨⟨i,s,h2,rfl⟩,xin h1 h2⟩)⟩
  have noE:∀ {b},¬wS hc ρ b->¬wS (az (ids.map fun a=>eP (bh ids) (hc a))) (fun i s=>ρ (eW ids i) s) b:=fun{b} hb ho=>by
   obtain⟨id,sub,_,q2,q3⟩:=M0 hl hnd hcl ho;exact hb ⟨id,sub,q2,q3⟩
  have hAc:∀b,aN w X hc ρ b->aN w' X h' ρ3 b/\w'.heap[b]?=w.heap[b]?:=fun b hb=>by
   refine⟨⟨aFQ hb.1 far.size,hb.2.1,fun ho=>?_⟩,far.old b hb.1 (noE hb.2.2)⟩;rcases ownc ho with ho| ⟨i,s,h1,h2,rfl⟩
   ·rcases fr3 (own3 ho)with ho|ho
    ·exact noE hb.2.2 ho
    ·have:=hb.1;omega
   ·exact hb.2.2 ⟨i,s,h2,rfl⟩
  have pas:∀a∈ids,bu (bh ids a)=true:=fun a ha=>by
   have:=Hl ha;simp only[bu,decide_eq_true_eq];omega
  have stayI:∀a∈ids,(∀p∈gv,p.1≠a)->h' a≠ .dead/\ρ3 a none=ρ a none/\hm (bh ids a)≠ .dead:=fun a ha hg=>by
   have h1:=(Hn c4 _ a _ (by have h1:=List.idxOf_lt_length_of_mem ha;rw[aE1 h1];simp) (oget a ha)).2 hg;have h2:hm (bh ids a)≠ .dead:=by rw[hm_ids a ha];exact h1
   refine⟨by rw[h_ids a ha hg,ne_eq,MP];exact h2,?_,h2⟩;rw[r3c a (.inl ⟨ha,hg⟩),nmi a ha,(far.stay _ (pas a ha) h2).2,Fn hl ha]
  have bfB:∀id,bf (hc id)=true->bf (h' id)=true/\ρ3 id none=ρ id none:=fun id hb=>by
   have h1:¬ (n<=id/\id<n+cV res):=fun hh=>by rw[gdead id hh.1 hh.2]at hb;cases hb
   have h2:∀p∈gv,p.1≠id:=fun p hp e=>by
    have:=List.all_eq_true.1 c5 p hp;rw[e,hb]at this;cases this
   by_cases hi:id∈ids
   ·have h4:=(Hn c4 _ id _ (by have h1:=List.idxOf_lt_length_of_mem hi;rw[aE1 h1];simp) (oget id hi)).1 hb;exact⟨by rw[h_ids id hi h2,adr,hm_ids id hi];exact h4,(stayI id hi h2).2.1⟩
   ·exact⟨by rw[h_out id hi h1 h2];exact hb,r3n id (fun hC=>by rcases hC with hC|hC;exact hi hC.1;exact h1 hC) none⟩
  have rel:Rel w' X ρ3 h':=by
   refine⟨fun i s j t h1 h2 e=>?_,fun i s h1 hx=>?_,fun id=>?_,fun b hb=>aFQ (r.xl b hb) far.size⟩
   ·by_cases hi:Cal i<;>by_cases hj:Cal j
    ·rw[r3c i hi,r3c j hj]at e;exact r3.inj _ _ _ _ (lcal h1 hi) (lcal h2 hj) e
    ·rw[r3c i hi,r3n j hj]at e;obtain⟨q1,q2⟩:=lrest h2 hj;exact absurd e (parts (lcal h1 hi) q1 q2)
    ·rw[r3n i hi,r3c j hj]at e;obtain⟨q1,q2⟩:=lrest h1 hi;exact absurd e.symm (parts (lcal h2 hj) q1 q2)
    ·rw[r3n i hi,r3n j hj]at e;exact r.inj _ _ _ _ (lrest h1 hi).2 (lrest h2 hj).2 e
   ·by_cases hi:Cal i
    ·rw[r3c i hi]at hx;exact r3.nx _ _ (lcal h1 hi) (hx.imp .inl id)
    ·rw[r3n i hi]at hx;exact r.nx _ _ (lrest h1 hi).2 hx
   ·by_cases hi:Cal id
    ·have:=(r3.ob id).keep (w':=w') (A':=aN w' X h' ρ3) (ρ':=ρ3) (h':=h') (fun b hb=>⟨hA3 b hb,rfl⟩) (fun i hb=>by
      have hC:=h3n i (fun e=>by rw[e]at hb;cases hb);rw[h3c i hC]at hb;exact⟨hb,r3c i hC none⟩) (fun s=>r3c id hi s) (fun _ _=>rfl)
     rwa[h3c id hi]at this
    ·by_cases hd:h' id=.dead
     ·rw[hd];trivial
     ·obtain⟨q1,q2⟩:=rest id hi hd;have:=(r.ob id).keep (w':=w') (A':=aN w' X h' ρ3) (ρ':=ρ3) (h':=h') hAc bfB (fun s=>r3n id hi s) (fun s hl'=>far.old _ (MY r ⟨id,s,hl',rfl⟩) (xin q1 hl'));rwa[←q2]at this
  have evo:Evo w ρ hc w' ρ3 h' ((if kp then []else ids.map (·,true))++gv):=by
   refine⟨far.os,far.tape,far.output,far.size,fun b hb ho=>far.old b hb (noE ho),fun id sub hp hk=>?_,fun b ho=>?_,bfB,fun id hp hd=>?_⟩
   ·rw[KI,Bool.or_eq_false_iff]at hk;have h2:∀p∈gv,p.1≠id:=fun p hp' e=>by
     have hk2:=hk.2;simp only[lF,List.any_eq_false,aEV,beq_iff_eq,aF0,aFS,not_and]at hk2;exact hk2 p hp' e (.inl (gvflag p hp'))
    have hnd':hc id≠ .dead:=by
     cases sub with
     |none=>exact hp
     |some p=>obtain⟨_,_,_,e,_⟩:=hp;rw[e];simp
    have h1:¬ (n<=id/\id<n+cV res):=fun hh=>hnd' (gdead id hh.1 hh.2);by_cases hi:id∈ids
    ·cases sub with
     |none=>exact⟨(stayI id hi h2).1,(stayI id hi h2).2.1⟩
     |some p=>
      cases kp with
      |false=>
       have hk1:=hk.1;simp only[aFv,if_false,lF,List.any_map,List.any_eq_false,Function.comp,aEV,beq_iff_eq]at hk1;exact absurd ⟨rfl,rfl⟩ (hk1 id hi)
      |true=>
       have hpe:cZ (az (ids.map fun a=>eP (bh ids) (hc a))) (bh ids id) (some p):=by
        obtain⟨cs,k,rows,e1,e2⟩:=hp;have:=(em.back id (by simpa using hi)).2;rw[e1]at this;refine⟨cs.map (eG (bh ids)),k,rows,this,?_⟩;rw[aFw,e2];rfl
       obtain⟨q1,q2⟩:=far.keep rfl (bh ids id) p (pas id hi) (stayI id hi h2).2.2 hpe;refine⟨?_,?_⟩
       ·obtain⟨cs,k,rows,e1,e2⟩:=q1;refine⟨cs.map (eG (eW ids)),k,rows,?_,?_⟩
        ·rw[h_ids id hi h2,e1];rfl
        ·rw[aFw,e2];rfl
       ·rw[r3c id (.inl ⟨hi,h2⟩),nmi id hi,q2,Fn hl hi]
    ·have hC:¬Cal id:=fun hC=>by rcases hC with hC|hC;exact hi hC.1;exact h1 hC
     exact⟨(iu (h_out id hi h1 h2)).2 hp,r3n id hC sub⟩
   ·rcases ownc ho with ho| ⟨i,s,h1,h2,rfl⟩
    ·rcases fr3 (own3 ho)with ho|ho
     ·obtain⟨id,sub,_,q2,q3⟩:=M0 hl hnd hcl ho;exact .inl ⟨id,sub,q2,q3⟩
     ·exact .inr ho
    ·exact .inl ⟨i,s,h2,rfl⟩
   ·simp only[bu,decide_eq_true_eq]at hp;by_cases hi:id∈ids
    ·refine⟨hdead id hi,?_⟩;by_cases hg:∀p∈gv,p.1≠id
     ·exact(stayI id hi hg).2.1
     ·exfalso;refine hd (h_gv id ω ?_);have:=Classical.not_forall.1 hg;obtain⟨p,hp'⟩:=this;obtain⟨hp1,hp2⟩:=Classical.not_imp.1 hp';exact⟨p,hp1,Classical.not_not.1 hp2⟩
    ·have hC:¬Cal id:=fun hC=>by rcases hC with hC|hC;exact hi hC.1;omega
     obtain⟨_,q2⟩:=rest id hC hd;exact⟨q2▸hd,r3n id hC none⟩
  refine⟨ρ3,_,rfl,rel,evo,?_⟩;have toV:∀ {c:AV} {u:Value},RV w' (aN w' (PW X hc ρ ids) hm ρ') ρ' hm c u->be L3 c=true->RV w' (aN w' X h' ρ3) ρ3 h' (eG (eW ids) c) u:=fun{c u} hv hcl'=>by
   have h1:=hv.embA (A2:=aN w' (PW X hc ρ ids) h3 (fun i s=>ρ' (nm i) s)) em3 (fun b hb=>⟨hb.1,hb.2.1,fun ho=>hb.2.2 (own3 ho)⟩) hcl';exact h1.keep (fun b hb=>⟨hA3 b hb,rfl⟩) fun i s hp=>by
    have hC:=h3n i (by
     cases s with
     |none=>exact hp
     |some p=>obtain⟨_,_,_,e,_⟩:=hp;rw[e];simp)
    exact⟨(iu (h3c i hC)).1 hp,r3c i hC s⟩
  have zc:=zcl l3a l3b;cases zr with
  |tup vs=>
   cases hv with
   |dat hd=>cases hd
   |tup _ us hs hr=>
    refine .tup _ us (by simpa using hs) fun i c u hc' hu=>?_;simp only[aFw,aEU]at hc';obtain⟨c0,h1,rfl⟩:=hc';exact toV (hr i c0 u h1 hu) (zc c0 (aE6 h1))
  |_=>exact toV hv zc
 grind
end
def Sx:∀ {l} {ms},∀p∈vY ms l,p.2=false
 |[],ms,p,hp=>by grind[vY]
 |a::l,ms,p,hp=>by
  simp only[vY,List.mem_append]at hp;rcases hp with hp|hp
  ·split at hp
   ·simp only[aFN]at hp;obtain⟨i,_,rfl⟩:=hp;rfl
   ·simp at hp
  ·exact Sx p hp
section
variable {P:Program} {I:Inv} {call:j8} {md:Mode}
def agD(P:Program)(I:Inv)(call:j8)(md:Mode):Prop:=
 ∀ {w} {X} {ρ} {h h'} {d} {f z} {zas} {ks} {uf} {us},d<1000->I.p w X->Rel w X ρ h->RV w (aN w X h ρ) ρ h f uf->us.size=O zas->
  (∀ (i:Nat) c u,zas[i]?=some c->us[i]?=some u->RV w (aN w X h ρ) ρ h c u)->eU call md h d zas f=some (z,h',ks)->
  ∃g first cap,uf=.func (.func g) first cap/\Enters P g (first++us++cap) w fun v w'=>Got w X ρ h w' h' ks z v
def acM(hf:∀f,rK P I (md.keep f) f (call f)):agD P I call md:=by
 intro w X ρ h h' d f z zas ks uf us hd hi r hvf hus hva hz;cases f<;>simp only[eU]at hz<;>try (cases hz;done)
 rename_i fid a b;obtain⟨first,cap,rfl,s1,s2,va,vb⟩:=hvf.fn_inv;refine⟨fid,first,cap,rfl,?_⟩;simp only[aEQ]at hz;obtain⟨⟨zs,hc,ks0⟩,e1,e2⟩:=hz;obtain⟨r1,ev1,fl1,ln1,vv⟩:=MX (h0:=h) (a++zas++b) (md.m fid) (first++us++cap).toList r .refl γ (fun i c u h1 h2=>by
  grind) e1
 have hnd:(bO hc 40 (bD [] (zs.flatMap cF)) 0).Nodup:=PN (Hi List.nodup_nil);generalize bO hc 40 (bD [] (zs.flatMap cF)) 0=ids at*
 unfold lg at e2;split at e2
 ·rename_i hck;simp only[aEV,aFc,aFS]at hck;obtain⟨k1,k2⟩:=hck;simp only[aEQ]at e2;obtain⟨⟨res,os⟩,e3,e4⟩:=e2;have hl:O ids<=1000:=by
   grind[fG]
  have hcl:=fun a ha=>(k2 a ha).1;have hdead:∀a∈ids,hc a≠ .dead:=fun a ha e=>by
   have:=(k2 a ha).2;rw[e]at this;cases this
  have em:=Emb.enter (h:=hc) hl hnd hcl;obtain⟨rE,hA⟩:=aiV r1 hl hnd hcl;have hi1:I.p w (PW X hc ρ ids):=I.more hi fun b hb=>.inl hb;refine(hf fid e3 (n:=2000+8*d) ω hi1 rE (by grind[aFh,C1]) fun i c u hc' hu=>?_).mono fun v w' ⟨ρ',q1,q2,q3⟩=>?_
  ·simp only[aFw,aEU]at hc';obtain⟨c0,h1,rfl⟩:=hc';obtain⟨c1,h2,h3⟩:=Cd _ _ _ _ h1;obtain⟨h4,wy,hv⟩:=vv i c1 u h2 γ;have hv':RV w (aN w X h4 ρ) ρ h4 c0 u:=by
    rcases h3 with rfl| ⟨ss,rfl⟩
    ·omega
    ·exact hv.nrmV ss
   have hcc:=k1 c0 (aE6 h1);exact(aiT wy hv' hcc).embA em hA hcc
  ·obtain⟨ρ3,k3,rfl,g1,g2,g3⟩:=agC r1 hnd hcl hdead Sx e4 q1 q2 q3;exact⟨ρ3,g1,ev1.trans g2,g3⟩
 grind
def M1{w}{X}{ρ}{h}{b}(hb:aN w X h ρ b):aN w X (az []) ρ b:=⟨hb.1,hb.2.1,fun⟨id,sub,hl,_⟩=>by
 have hd:az [] id=.dead:=by grind[az]
 cases sub with
 |none=>grind[live]
 |some p=>grind[live]⟩
def adx{w}{X}{ρ}{h}(r:Rel w X ρ h){id}{sub}(hl:live h id sub):aN w X (az []) ρ (ρ id sub).1:=
 ⟨MY r ⟨id,sub,hl,rfl⟩,fun hx=>r.nx id sub hl (.inl hx),fun⟨id',sub',hl',_⟩=>by
  have hd:az [] id'=.dead:=by grind[az]
  cases sub' with
  |none=>grind[live]
  |some p=>grind[live]⟩
def agE{w}{X}{ρ}{h}(r:Rel w X ρ h){a c}{u}(hv:RV w (aN w X h ρ) ρ h a u)(hz:afP h a=some c):RV w (aN w X (az []) ρ) ρ (az []) c u:=by
 have dd:∀ {a},RD w (aN w X h ρ) a u->RV w (aN w X (az []) ρ) ρ (az []) a u:=fun hd=>.dat (hd.mono fun b hb=>⟨M1 hb,rfl⟩);cases a<;>simp only[afP]at hz<;>try (cases hz;done)
 case v x=>cases hz;exact .dat (by obtain⟨rfl,hp⟩:=hv.v_inv;exact .v _ hp)
 case emp=>cases hz;obtain⟨a,rfl⟩:=hv.emp_inv;exact .dat (.emp a)
 case sl k rows=>cases hz;exact dd hv.sl_inv
 case rsl id sub k lo n=>
  simp only[aEU]at hz;obtain⟨rs,h1,rfl⟩:=hz;obtain⟨a,cap,rfl,hp,hn,hb,ha⟩:=hv.rsl_inv;cases sub with
  |none=>
   simp only[CO]at h1;have ho:=r.ob id;cases eo:h id with
   |dead=>grind[Fe,kN]
   |bx cs=>grind[Fe,kN]
   |ar k' rows=>
    rw[eo]at h1 ho;simp only[Fe,kN]at h1;split at h1
    ·rename_i hc;obtain⟨rfl,hle⟩:=hc;cases h1;obtain⟨us,t0,g1,g2,g3,g4⟩:=ho;exact .dat (sK g1 (adx r (by grind[live])) (g4.mono fun b hb=>⟨M1 hb,rfl⟩) hle hn ha)
    grind
   |fz k' rows=>
    rw[eo]at h1 ho;simp only[Fe,kN]at h1;split at h1
    ·rename_i hc;obtain⟨rfl,hle⟩:=hc;cases h1;obtain⟨ga,us,t0,fr,g1,g2,g3,g4⟩:=ho;exact .dat (sK g1 (M1 ga) (g4.mono fun b hb=>⟨M1 hb,rfl⟩) hle hn ha)
    grind
  |some p=>
   simp only[CO]at h1;cases eo:h id with
   |bx cs=>
    rw[eo]at h1;simp only[ni]at h1;cases ec:cs[p]? with
    |none=>grind[BA,kN]
    |some c=>
     rw[ec]at h1;cases c<;>simp[BA,kN]at h1;rename_i k' rows;obtain⟨⟨rfl,hle⟩,rfl⟩:=h1;obtain⟨us,t0,g1,g2,g3,g4⟩:=r.cell eo;obtain⟨u,f1,a',cap',us1,t1,q1,q2,q3,q4,q5,q6,q7⟩:=g4 p _ ec;exact .dat (sK q4 (adx r ⟨cs,_,rows,eo,ec⟩) (q7.mono fun b hb=>⟨M1 hb,rfl⟩) hle hn ha)
   |dead=>grind[ni,kN]
   |ar k' rows=>grind[ni,kN]
   |fz k' rows=>grind[ni,kN]
 case fn f x y=>
  cases x with
  |cons a l=>grind
  |nil=>
   cases y with
   |cons a l=>grind
   |nil=>
    simp only[Option.some.injEq]at hz;subst hz;obtain⟨us,ts,rfl,s1,s2,_,_⟩:=hv.fn_inv;exact .fn f [] [] us ts s1 s2 (fun i c u hc=>by grind) (fun i c u hc=>by grind)
def Sy{w}{X}{ρ}{h}(r:Rel w X ρ h):∀l (vals:List Value) {cs},O vals=O l->(∀ (i:Nat) c u,l[i]?=some c->vals[i]?=some u->RV w (aN w X h ρ) ρ h c u)->Un h l=some cs->
  O cs=O l/\∀ (i:Nat) c u,cs[i]?=some c->vals[i]?=some u->RV w (aN w X (az []) ρ) ρ (az []) c u
 |[],vals,cs,hl,hv,hz=>by
  grind[Un,Option.some.injEq]
 |a::l,[],cs,hl,hv,hz=>by grind
 |a::l,v::vals,cs,hl,hv,hz=>by
  simp only[Un,aEQ]at hz;obtain⟨b,e1,q,e2,e3⟩:=hz;cases e3;obtain⟨g1,g2⟩:=Sy r l vals γ (fun i c u hc hu=>hv (i+1) c u γ γ) e2;refine⟨by grind,fun i c u hc hu=>?_⟩;cases i with
  |zero=>simp at hc hu;subst hc hu;exact agE r (hv 0 a v rfl rfl) e1
  |succ i=>grind
def agF{kp}{w w'}{X}{ρ ρ'}{h}(r:Rel w X ρ h)(far:Far kp w ρ (az []) w' ρ' (az [])):Rel w' X ρ h/\Evo w ρ h w' ρ h []:=by
 have no:∀b,¬wS (az []) ρ b:=fun b ⟨id',sub',hl',_⟩=>by
  have hd:az [] id'=.dead:=by grind[az]
  cases sub' with
  |none=>grind[live]
  |some p=>grind[live]
 have e:Evo w ρ h w' ρ h []:=⟨far.os,far.tape,far.output,far.size,fun b hb _=>far.old b hb (no b),fun _ _ hp _=>⟨hp,rfl⟩,fun _ ho=>.inl ho,fun _ hb=>⟨hb,rfl⟩,fun _ _ hd=>⟨hd,rfl⟩⟩;exact⟨r.step e (fun _=>False) (fun _ _=>⟨rfl,fun _=>rfl,fun sub hl=>far.old _ (MY r ⟨_,sub,hl,rfl⟩) (no _)⟩) r.inj r.nx (fun _ hf=>hf.elim),e⟩
theorem agG{c}(hp:CQ c=true)(n)(h):eS n h c=(c,h):=by
 cases c<;>simp[CQ]at hp;rfl
theorem Sz:∀ {vs} n h,vs.all CQ=true->dB n h vs=(vs,h)
 |[],n,h,_=>rfl
 |a::l,n,h,hp=>by
  simp only[aFa,aEV]at hp;simp only[dB,agG hp.1,Sz (n+1) h hp.2]
theorem aiW{c}(hp:MA c=true)(n)(h):mat n h c=(c,h):=by
 cases c<;>simp only[MA]at hp<;>try (simp[CQ]at hp;done)
 case v x=>rfl
 grind[mat,Sz]
theorem Wy{w w'}{A A'}{ρ ρ'}{h h'}{c}{u}(hp:CQ c=true)(hv:RV w A ρ h c u):RV w' A' ρ' h' c u:=by
 cases c<;>simp[CQ]at hp;obtain⟨rfl,hp⟩:=hv.v_inv;exact .dat (.v _ hp)
def amb{w w'}{A A'}{ρ ρ'}{h h'}{c}{u}(hp:MA c=true)(hv:RV w A ρ h c u):RV w' A' ρ' h' c u:=by
 cases c<;>simp only[MA]at hp<;>try (simp[CQ]at hp;done)
 case v x=>grind[Wy]
 case tup vs=>
  cases hv with
  |dat hd=>cases hd
  |tup _ us hs hr=>exact .tup vs us hs fun i c u hc hu=>Wy (List.all_eq_true.1 hp c (aE6 hc)) (hr i c u hc hu)
def agH(hf:∀f,rK P I (md.keep f) f (call f)):qG P I call md:=by
 intro w X ρ h h' d f z zas ks uf us hd hi r hvf hus hva hz;unfold bF at hz;split at hz
 ·cases f<;>simp only[R5]at hz<;>try (cases hz;done)
  rename_i fid a b _;obtain⟨first,cap,rfl,s1,s2,va,vb⟩:=hvf.fn_inv;refine⟨fid,first,cap,rfl,?_⟩;simp only[aEQ]at hz;obtain⟨cs,e1,⟨res,os⟩,e2,e3⟩:=hz;obtain⟨l1,l2⟩:=Sy r (a++zas++b) (first++us++cap).toList γ (fun i c u h1 h2=>by
   grind) e1
  cases os with
  |cons o os=>grind[YX]
  |nil=>
   simp only[YX]at e3;split at e3
   ·rename_i hp;cases e3;have rE:Rel w X ρ (az []):=by
     have hd:∀id,az [] id=.dead:=fun id=>by grind[az]
     have no:∀id sub,¬live (az []) id sub:=fun id sub hl=>by
      cases sub with
      |none=>grind[live]
      |some p=>grind[live]
     exact⟨fun id sub _ _ h=>(no id sub h).elim,fun id sub h=>(no id sub h).elim,fun id=>by rw[hd];trivial,r.xl⟩
    refine(hf fid e2 (n:=2000) (aET _) hi rE (by grind[C1]) fun i c u hc' hu=>?_).mono fun v w' ⟨ρ',q1,q2,q3⟩=>?_
    ·obtain⟨c1,h2,h3⟩:=Cd _ _ _ _ hc';have hv:=l2 i c1 u h2 γ;rcases h3 with rfl| ⟨ss,rfl⟩
     ·omega
     ·exact hv.nrmV ss
    ·rw[aiW hp]at q1 q2 q3;obtain⟨g1,g2⟩:=agF r q2;exact⟨ρ,g1,g2,amb hp q3⟩
   grind
 ·exact acM hf hd hi r hvf hus hva hz
end
section
variable {P:Program} {I:Inv} {call:j8} {md:Mode}
structure EnvOK (P:Program) (I:Inv) (e:Env):Prop where
 mixed:P.follows .mixedOrders=true
 ext:∀f g,e.E f=some g->rK P I (e.md.keep f) f g
 text:∀f fd,e.E f=none->e.C f=some fd->Text P f fd
def agI(kp)(f):rK P I kp f (fun _ _=>none):=by
 intro args obs obs' res w X ρ vals n hz;grind
def aiX{e}(he:EnvOK P I e):∀n f,rK P I (e.md.keep f) f (pf e n f)
 |0,f=>agI _ f
 |n+1,f=>by
  cases hE:e.E f with
  |some g=>
   have:pf e (n+1) f=g:=by grind[pf]
   rw[this];exact he.ext f g hE
  |none=>
   cases hC:e.C f with
   |none=>
    have:pf e (n+1) f=fun _ _=>none:=by grind[pf]
    grind
   |some fd=>
    have:pf e (n+1) f=MD (pf e n) {e.md with nm:=e.md.keep f} n fd:=by grind[pf]
    rw[this];exact apw (md:={e.md with nm:=e.md.keep f}) he.mixed (agH (md:={e.md with nm:=e.md.keep f}) fun g=>aiX he n g) (he.text f fd hE hC)
end
def Ev(p:Nat->Prop):Prop:=∃n,∀k,n<=k->p k
def Ev.and{p q}(a:Ev p)(b:Ev q):Ev fun k=>p k/\q k:=by
 obtain⟨n,hn⟩:=a;obtain⟨m,hm⟩:=b;exact⟨max n m,fun k hk=>⟨hn k ω,hm k ω⟩⟩
theorem Ev.mono{p q}(a:Ev p)(h:∀k,p k->q k):Ev q:=by
 obtain⟨n,hn⟩:=a;exact⟨n,fun k hk=>h k (hn k hk)⟩
theorem Ev.all{p}(h:∀k,p k):Ev p:=⟨0,fun k _=>h k⟩
open Classical in
noncomputable def IE (f:Nat->Option α):Option α:=if h:∃a,Ev fun k=>f k=some a then some (Classical.choose h)else none
theorem tL{α}{f}{a:α}:IE f=some a↔Ev fun k=>f k=some a:=by
 unfold IE;constructor
 ·intro h;split at h
  all_goals grind
 ·intro h;have hh:∃a,Ev fun k=>f k=some a:=⟨a,h⟩;obtain⟨n,hn⟩:=Classical.choose_spec hh;obtain⟨m,hm⟩:=h;have h1:=hn (max n m) ω;grind
def apy{α}{f g:Nat->Option α}(h:∀a,IE f=some a↔IE g=some a):IE f=IE g:=by
 cases hf:IE f with
 |none=>
  cases hg:IE g with
  |none=>rfl
  |some a=>grind
 |some a=>grind
theorem Fo{α}(a:Option α):IE (fun _=>a)=a:=by
 cases a with
 |none=>
  cases h:IE (fun _:Nat=>none)with
  |none=>rfl
  |some a=>
   obtain⟨n,hn⟩:=tL.1 h;exact absurd (hn n (aET _)) σ
 |some a=>exact tL.2 (Ev.all fun _=>rfl)
theorem ZE{α}(f:Nat->Option α):IE (fun n=>f (n+1))=IE f:=apy fun a=>by
 rw[tL,tL];constructor
 ·rintro⟨n,hn⟩
  refine⟨n+1,fun k hk=>?_⟩;have:=hn (k-1) ω;grind
 ·rintro⟨n,hn⟩
  exact⟨n,fun k hk=>hn (k+1) ω⟩
noncomputable def aB (body:aM->aj->Option (Ex×St)) (ks hs:List Nat) (s:aM) (h:aj):Option (Ex×St):=IE fun n=>xS body ks hs n s h
def Yz(g:aM->aj->Option (Ex×St)):Option (Ex×St)->Option (Ex×St)
 |some (.normal,t)=>g t.s t.h
 |r=>r
theorem ai(body)(ks hs)(s)(h):
  aB body ks hs s h=if(hs.all fun a=>aE hs (h a))=true then Yz (aB body ks hs) (body (mk .any (fun i=>jn hs (s i)) ks) (mk .dead h hs))else none:=by
 unfold aB;rw[←ZE];simp only[xS];split
 ·cases hb:body (mk .any (fun i=>jn hs (s i)) ks) (mk .dead h hs)with
  |none=>exact Fo _
  |some r=>
   obtain⟨e,t⟩:=r;cases e with
   |normal=>rfl
   |exit id=>exact Fo _
   |ret=>exact Fo _
 ·exact Fo _
noncomputable def am (call:j8) (md:Mode):Cmd->aM->aj->Option (Ex×St)
 | .skip,s,h=>some (.normal,⟨s,h⟩)
 | .ops ks l,s,h=>bG (aK call md l s h) fun s h=>some (.normal,⟨mk .any s ks,h⟩)
 | .dops ks l ps,s,h=>bG (we call md l ps s h) fun s h=>some (.normal,⟨mk .any s ks,h⟩)
 | .seq a b,s,h=>dx (am call md a s h) (am call md b)
 | .cond c a b,s,h=>wh (am call md a s h) (am call md b s h) (ev s c)
 | .block id ks a,s,h=>ao id ks (am call md a s h)
 | .loop ks hs a,s,h=>aB (am call md a) ks hs s h
 | .exit id,s,h=>some (.exit id,⟨s,h⟩)
 | .ret,s,h=>some (.ret,⟨s,h⟩)
 | .frz is a,s,h=>bG (D4 md.nm is s h) (am call md a)
noncomputable def iL (e:Env):j8:=fun f args hs=>IE fun n=>pf e n f args hs
noncomputable def ZF (call:j8) (md:Mode) (fd:FD) (args:List AV) (hs:List Ob):Option (AV×List Ob):=
 if O args=fd.np/\O hs<=1000 then fk md.nm fd.rs fd.res (O hs) (am call md fd.body (iW args) (az hs))else none
section
variable {e:Env} {md:Mode}
theorem aiY{h}{d}{zas}{f}{r}(hz:eU (iL e) md h d zas f=some r):Ev fun k=>eU (pf e k) md h d zas f=some r:=by
 cases f<;>simp only[eU]at hz⊢ <;>try (cases hz;done)
 simp only[aEQ]at hz⊢;obtain⟨p,e1,e2⟩:=hz;unfold lg at e2⊢;split at e2
 ·simp only[aEQ]at e2;obtain⟨q,e3,e4⟩:=e2;refine(tL.1 e3).mono fun k hk=>⟨p,e1,?_⟩;grind
 grind
def ZG{h}{d}{zas}{f}{r}(hz:bF (iL e) md h d zas f=some r):Ev fun k=>bF (pf e k) md h d zas f=some r:=by
 unfold bF at hz⊢;by_cases hb:lH md zas f=true
 ·rw[if_pos hb]at hz;simp only[if_pos hb];cases f<;>simp only[R5]at hz⊢ <;>try (cases hz;done)
  simp only[aEQ]at hz⊢;obtain⟨p,e1,q,e3,e4⟩:=hz;exact(tL.1 e3).mono fun k hk=>⟨p,e1,q,hk,e4⟩
 simp_all[if_neg,aiY]
def ady{d}{op}{s}{h}{r}(hz:step (iL e) md d op s h=some r):Ev fun k=>step (pf e k) md d op s h=some r:=by
 cases op with
 |call f zas=>exact ZG hz
 |callC f zas=>
  simp only[step,aEQ]at hz⊢;obtain⟨q,e1,e2⟩:=hz;exact(ZG e1).mono fun k hk=>⟨q,hk,e2⟩
 |_=>exact Ev.all fun k=>hz
theorem adz{d}{op}{s}{h}{t}(hz:eH md.nm s d (step (iL e) md (d.getD 0) op s h)=some t):Ev fun k=>eH md.nm s d (step (pf e k) md (d.getD 0) op s h)=some t:=by
 cases hs:step (iL e) md (d.getD 0) op s h with
 |none=>rw[hs]at hz;cases hz
 |some r=>
  exact(ady hs).mono fun k hk=>by grind
def amc{o}{s}{h}{t}(hz:qi (iL e) md o s h=some t):Ev fun k=>qi (pf e k) md o s h=some t:=by
 unfold qi at hz⊢;cases hg:o.g with
 |none=>grind[adz]
 |some g=>
  rw[hg]at hz;simp only at hz⊢;unfold oI at hz⊢;split at hz
  ·split at hz
   all_goals simp_all[if_pos,adz,if_neg,Ev.all]
  all_goals grind[Ev.all]
def KS:∀ {l} {s} {h} {t},aK (iL e) md l s h=some t->Ev fun k=>aK (pf e k) md l s h=some t
 |[],s,h,t,hz=>Ev.all fun k=>hz
 |o::l,s,h,t,hz=>by
  simp only[aK,bG]at hz;split at hz
  ·grind
  ·rename_i t1 ht1;refine((amc ht1).and (KS hz)).mono fun k hk=>?_;grind[aK,bG]
theorem ZH{d}{op}{s}{h}{f}{t}(hz:rJ s d f (step (iL e) md (d.getD 0) op s h)=some t):Ev fun k=>rJ s d f (step (pf e k) md (d.getD 0) op s h)=some t:=by
 cases hs:step (iL e) md (d.getD 0) op s h with
 |none=>rw[hs]at hz;cases hz
 |some r=>
  exact(ady hs).mono fun k hk=>by grind
def amd{o}{s}{h}{t}(hz:gp (iL e) md o s h=some t):Ev fun k=>gp (pf e k) md o s h=some t:=by
 unfold gp at hz⊢;cases hg:o.g with
 |none=>grind[ZH]
 |some g=>
  rw[hg]at hz;simp only at hz⊢;unfold v9 at hz⊢;split at hz
  ·split at hz
   all_goals simp_all[if_pos,ZH,if_neg,Ev.all]
  all_goals grind[Ev.all]
def Uu:∀ {l} {s} {h} {t},kf (iL e) md l s h=some t->Ev fun k=>kf (pf e k) md l s h=some t
 |[],s,h,t,hz=>Ev.all fun k=>hz
 |o::l,s,h,t,hz=>by
  simp only[kf,aEQ]at hz;obtain⟨r,e1,q,e2,e3⟩:=hz;refine((amd e1).and (Uu e2)).mono fun k hk=>?_;simp only[kf,hk.1,hk.2,aEZ,e3]
def ame{l}{ps}{s}{h}{t}(hz:we (iL e) md l ps s h=some t):Ev fun k=>we (pf e k) md l ps s h=some t:=by
 unfold we at hz⊢;cases hb:EZ ps with
 |none=>
  rw[hb]at hz;simp only[Fg,aEQ]at hz;obtain⟨q,e1,e2⟩:=hz;exact(Uu e1).mono fun k hk=>by simp only[Fg,aEZ, *]
 |some b=>
  rw[hb]at hz;simp only[KA,aEQ]at hz;obtain⟨q,e1,e2⟩:=hz;split at e2
  ·simp only[bG]at e2;split at e2
   ·grind
   ·exact((Uu e1).and (KS e2)).mono fun k hk=>by simp_all[KA,aEZ,if_pos,bG]
  grind
def adA{c}{ks hs}(ih:∀ {s} {h} {r},am (iL e) md c s h=some r->Ev fun k=>df (pf e k) md k c s h=some r):
  ∀m {s} {h} {r},xS (am (iL e) md c) ks hs m s h=some r->∃n,∀k,n<=k->∀j,n<=j->xS (df (pf e k) md k c) ks hs j s h=some r
 |0,s,h,r,hz=>by grind[xS]
 |m+1,s,h,r,hz=>by
  simp only[xS]at hz;split at hz
  ·rename_i hc;cases hb:am (iL e) md c (mk .any (fun i=>jn hs (s i)) ks) (mk .dead h hs)with
   |none=>grind
   |some q=>
    rw[hb]at hz;obtain⟨n1,h1⟩:=ih hb;obtain⟨ex,t⟩:=q;cases ex with
    |normal=>
     obtain⟨n2,h2⟩:=adA ih m hz;refine⟨max n1 n2+1,fun k hk j hj=>?_⟩;obtain⟨j,rfl⟩:∃j',j=j'+1:=⟨j-1,by omega⟩;simp only[xS,if_pos hc,h1 k ω];grind
    |exit id=>
     refine⟨n1+1,fun k hk j hj=>?_⟩;obtain⟨j,rfl⟩:∃j',j=j'+1:=⟨j-1,by omega⟩;simp only[xS,if_pos hc,h1 k ω];omega
    |ret=>
     refine⟨n1+1,fun k hk j hj=>?_⟩;obtain⟨j,rfl⟩:∃j',j=j'+1:=⟨j-1,by omega⟩;simp only[xS,if_pos hc,h1 k ω];omega
  grind
theorem pi:∀c {s} {h} {r},am (iL e) md c s h=some r->Ev fun k=>df (pf e k) md k c s h=some r
 | .skip,s,h,r,hz=>Ev.all fun k=>hz
 | .ops ks l,s,h,r,hz=>by
  simp only[am,bG]at hz;split at hz
  ·grind
  ·rename_i t1 ht1;exact(KS ht1).mono fun k hk=>by grind[df,bG]
 | .dops ks l ps,s,h,r,hz=>by
  simp only[am,bG]at hz;split at hz
  ·grind
  ·rename_i t1 ht1;exact(ame ht1).mono fun k hk=>by grind[df,bG]
 | .seq a b,s,h,r,hz=>by
  simp only[am,dx]at hz;split at hz
  ·grind
  ·rename_i t1 ht1;exact((pi a ht1).and (pi b hz)).mono fun k hk=>by grind[df,dx]
  ·rename_i i t1 ht1;exact(pi a ht1).mono fun k hk=>by grind[df,dx]
  ·rename_i t1 ht1;exact(pi a ht1).mono fun k hk=>by grind[df,dx]
 | .cond c a b,s,h,r,hz=>by
  simp only[am,wh]at hz;split at hz
  ·rename_i t ht;cases t with
   |true=>simp_all[pi,df,wh,if_true]
   |false=>simp_all[pi,df,wh,aFv,if_false]
  grind
 | .block id ks a,s,h,r,hz=>by
  simp only[am,ao]at hz;split at hz
  ·grind
  ·rename_i t1 ht1;exact(pi a ht1).mono fun k hk=>by grind[df,ao]
  ·rename_i i t1 ht1;exact(pi a ht1).mono fun k hk=>by grind[df,ao]
  ·rename_i t1 ht1;exact(pi a ht1).mono fun k hk=>by grind[df,ao]
 | .loop ks hs a,s,h,r,hz=>by
  obtain⟨m,hm⟩:=tL.1 hz;obtain⟨n,hn⟩:=adA (fun hh=>pi a hh) m (hm m (aET _));exact⟨n,fun k hk=>by grind[df]⟩
 | .exit id,s,h,r,hz=>Ev.all fun k=>hz
 | .ret,s,h,r,hz=>Ev.all fun k=>hz
 | .frz is a,s,h,r,hz=>by
  simp only[am,bG]at hz;split at hz
  ·cases hz
  ·rename_i t1 ht1;exact(pi a hz).mono fun k hk=>by simp only[df,bG, *]
def M2{f}{fd}{args}{hs}{r}(hE:e.E f=none)(hC:e.C f=some fd)(hz:ZF (iL e) {e.md with nm:=e.md.keep f} fd args hs=some r):iL e f args hs=some r:=by
 unfold iL;rw[tL];unfold ZF at hz;split at hz
 ·cases hx:am (iL e) {e.md with nm:=e.md.keep f} fd.body (iW args) (az hs)with
  |none=>rw[hx]at hz;cases hz
  |some q=>
   obtain⟨n,hn⟩:=pi fd.body hx;refine⟨n+1,fun k hk=>?_⟩;obtain⟨k,rfl⟩:∃k',k=k'+1:=⟨k-1,by omega⟩
   simp_all[pf,aEZ,MD,if_pos]
 grind
theorem BC{f}{g}{args}{hs}(hE:e.E f=some g):iL e f args hs=g args hs:=by
 unfold iL;rw[←ZE]
 simp_all[pf,funext,Fo]
def adB{P}{I}(he:EnvOK P I e)(f):rK P I (e.md.keep f) f (iL e f):=by
 intro args obs obs' res w X ρ vals n hz;obtain⟨m,hm⟩:=tL.1 hz;exact aiX he m f (hm m (aET _))
end
section
variable {call:j8} {md:Mode} {s:aM} {h:aj}
def aCT:am call md .skip s h=some (.normal,⟨s,h⟩):=θ _
def aEf(ks l):am call md (.ops ks l) s h=bG (aK call md l s h) fun s h=>some (.normal,⟨mk .any s ks,h⟩):=θ _
def aEg(is a):am call md (.frz is a) s h=bG (D4 md.nm is s h) (am call md a):=θ _
def aCU(ks l ps):am call md (.dops ks l ps) s h=bG (we call md l ps s h) fun s h=>some (.normal,⟨mk .any s ks,h⟩):=θ _
theorem agJ(a b):am call md (.seq a b) s h=dx (am call md a s h) (am call md b):=θ _
def aCV(c a b):am call md (.cond c a b) s h=wh (am call md a s h) (am call md b s h) (ev s c):=θ _
def aAC(id ks a):am call md (.block id ks a) s h=ao id ks (am call md a s h):=θ _
def aCW(ks hs a):am call md (.loop ks hs a) s h=aB (am call md a) ks hs s h:=θ _
def aCX(i):am call md (.exit i) s h=some (.exit i,⟨s,h⟩):=θ _
def aEh:am call md .ret s h=some (.ret,⟨s,h⟩):=θ _
def ask(s h f):dx (some (.normal,⟨s,h⟩)) f=f s h:=θ _
def auX(i t f):dx (some (.exit i,t)) f=some (.exit i,t):=θ _
def awB(t f):dx (some (.ret,t)) f=some (.ret,t):=θ _
def aus(id ks i t):ao id ks (some (.exit i,t))=if i=id then some (.normal,⟨mk .any t.s ks,t.h⟩)else some (.exit i,t):=θ _
def ar0(id ks t):ao id ks (some (.normal,t))=some (.normal,⟨mk .any t.s ks,t.h⟩):=θ _
def auY(id ks t):ao id ks (some (.ret,t))=some (.ret,t):=θ _
def auZ(a b):wh a b (.v (.bool true))=a:=θ _
def aut(a b):wh a b (.v (.bool false))=b:=θ _
def asl(g t):Yz g (some (.normal,t))=g t.s t.h:=θ _
def au0(g i t):Yz g (some (.exit i,t))=some (.exit i,t):=θ _
def awC(g t):Yz g (some (.ret,t))=some (.ret,t):=θ _
def au1{β}(s h)(f:aM->aj->Option β):bG (some ⟨s,h⟩) f=f s h:=θ _
def awD{β}(c) [Decidable c](x y)(f:aM->aj->Option β):bG (if c then x else y) f=if c then bG x f else bG y f:=by split<;>rfl
def awE(c) [Decidable c](x y)(f):dx (if c then x else y) f=if c then dx x f else dx y f:=by split<;>rfl
def aAD:aK call md [] s h=some ⟨s,h⟩:=θ _
def SA(d op rest):aK call md (⟨some d,none,.p op⟩::rest) s h=(jB s op).bind fun a=>aK call md rest (upd s d a) h:=by
 simp only[aK,qi,step,Ha];cases jB s op with
 |none=>rfl
 |some a=>simp only[aFK,eH,tK,if_true];rfl
def cm(d n:Nat):COp:=⟨some d,none,.p (.mv (.t n))⟩
def co(d:Nat)(op:POp):COp:=⟨some d,none,.p op⟩
def cg(d j:Nat)(w:Bool)(op:POp):COp:=⟨some d,some (j,w),.p op⟩
def aCY(d n rest):aK call md (cm d n::rest) s h=aK call md rest (upd s d (s n)) h:=SA d (.mv (.t n)) rest
def aCZ(d op rest):aK call md (co d op::rest) s h=(jB s op).bind fun a=>aK call md rest (upd s d a) h:=SA d op rest
def aC0(d j w op rest):aK call md (cg d j w op::rest) s h=bG (oI (some d) w ((jB s op).map fun a=>⟨upd s d a,h⟩) s h (s j)) (aK call md rest):=by
 have:eH md.nm s (some d) (step call md d (.p op) s h)=(jB s op).map fun a=>⟨upd s d a,h⟩:=by
  simp only[step,Ha];cases jB s op with
  |none=>rfl
  |some a=>simp only[aFK,eH,tK,if_true];rfl
 show bG (oI (some d) w (eH md.nm s (some d) (step call md d (.p op) s h)) s h (s j)) _=_;rw[this]
def b2(d:Nat)(op:BinOp)(a b:Nat):COp:=⟨some d,none,.p (.bin op (.t a) (.t b))⟩
def fa(d k a:Nat):COp:=⟨some d,none,.p (.fadr k (.t a))⟩
def nk(d a:Nat):COp:=⟨some d,none,.p (.nilck (.t a))⟩
def ld(d k a:Nat):COp:=⟨some d,none,.load k false (.t a)⟩
def la(d k a:Nat):COp:=⟨some d,none,.load k true (.t a)⟩
def ca(d f:Nat)(zas:List Opd):COp:=⟨some d,none,.call (.c (.fn f [] [])) zas⟩
def sr(k:Nat)(x y:Opd):COp:=⟨none,none,.store k x y⟩
def al(d:Nat)(z:List AV):COp:=⟨some d,none,.alloc z⟩
def bx(d k:Nat)(x:Opd):COp:=⟨some d,none,.box k x⟩
def aC1(d op a b rest):aK call md (b2 d op a b::rest) s h=(fK op (s a) (s b)).bind fun a=>aK call md rest (upd s d a) h:=SA d (.bin op (.t a) (.t b)) rest
def aC2(d k a rest):aK call md (fa d k a::rest) s h=(EV k (s a)).bind fun a=>aK call md rest (upd s d a) h:=SA d (.fadr k (.t a)) rest
def aC3(d a rest):aK call md (nk d a::rest) s h=(Mw (s a)).bind fun a=>aK call md rest (upd s d a) h:=SA d (.nilck (.t a)) rest
def aC4(d k a rest):aK call md (ld d k a::rest) s h=bG (eH md.nm s (some d) (kY h k false (s a))) (aK call md rest):=θ _
def aC5(d k a rest):aK call md (la d k a::rest) s h=bG (eH md.nm s (some d) (kY h k true (s a))) (aK call md rest):=θ _
def aC6(d f zas rest):aK call md (ca d f zas::rest) s h=bG (eH md.nm s (some d) (bF call md h d (zas.map (ev s)) (.fn f [] []))) (aK call md rest):=θ _
def aC7(k x y rest):aK call md (sr k x y::rest) s h=bG (eH md.nm s none (pC h k (ev s x) (ev s y))) (aK call md rest):=θ _
def aC8(d z rest):aK call md (al d z::rest) s h=bG (eH md.nm s (some d) (qY h d z [])) (aK call md rest):=θ _
def aC9(d k x rest):aK call md (bx d k x::rest) s h=bG (eH md.nm s (some d) (G9 h d k (ev s x))) (aK call md rest):=θ _
def aEi(d j w op rest):aK call md (⟨d,some (j,w),op⟩::rest) s h=bG (oI d w (eH md.nm s d (step call md (d.getD 0) op s h)) s h (s j)) (aK call md rest):=θ _
def awF(d z rest):aK call md (⟨some d,none,.alloc z⟩::rest) s h=bG (eH md.nm s (some d) (qY h d z [])) (aK call md rest):=θ _
def aAE(d k x rest):aK call md (⟨some d,none,.box k x⟩::rest) s h=bG (eH md.nm s (some d) (G9 h d k (ev s x))) (aK call md rest):=θ _
def auu(d k z n ps rest):aK call md (⟨some d,none,.buildSl k z n ps⟩::rest) s h=bG (eH md.nm s (some d) ((gB k h (aER n z) (ps.map fun p=>(p.1,ev s p.2))).bind fun q=>dH q.2.1 d k q.1 n q.2.2)) (aK call md rest):=θ _
def ayt(d k z b l c rest):aK call md (⟨some d,none,.mkSl k z b l c⟩::rest) s h=bG (eH md.nm s (some d) ((oH (ev s l) (ev s c)).bind fun p=>if p.2*b<=140737488355328 then dH h d k (aER p.1 z) p.1 []else none)) (aK call md rest):=θ _
def ayu(d k g x rest):aK call md (⟨some d,none,.load k g x⟩::rest) s h=bG (eH md.nm s (some d) (kY h k g (ev s x))) (aK call md rest):=θ _
def awG(d k x y rest):aK call md (⟨d,none,.store k x y⟩::rest) s h=bG (eH md.nm s d (pC h k (ev s x) (ev s y))) (aK call md rest):=θ _
def aAF(d k b x y rest):aK call md (⟨some d,none,.app k b x y⟩::rest) s h=bG (eH md.nm s (some d) (Qh h d k b (ev s x) (ev s y))) (aK call md rest):=θ _
def ayv(d f zas rest):aK call md (⟨some d,none,.call f zas⟩::rest) s h=bG (eH md.nm s (some d) (bF call md h d (zas.map (ev s)) (ev s f))) (aK call md rest):=θ _
def awH(f zas rest):aK call md (⟨none,none,.call f zas⟩::rest) s h=bG (eH md.nm s none (bF call md h 0 (zas.map (ev s)) (ev s f))) (aK call md rest):=θ _
def ayw(nm)(s d x h):eH nm s (some d) (some (x,h,[]))=some ⟨upd s d x,h⟩:=by simp only[eH,tK,if_true];rfl
def awI(nm)(s x h):eH nm s none (some (x,h,[]))=some ⟨s,h⟩:=by simp only[eH,tK,if_true];rfl
def aDa(d op):step call md d (.p op) s h=Ha h (jB s op):=θ _
def awJ(d k g x):step call md d (.load k g x) s h=kY h k g (ev s x):=θ _
def awK(d f zas):step call md d (.call f zas) s h=bF call md h d (zas.map (ev s)) (ev s f):=θ _
def au2(d k x y):step call md d (.store k x y) s h=pC h k (ev s x) (ev s y):=θ _
def au3(d z):step call md d (.alloc z) s h=qY h d z []:=θ _
def ayx(d k x):step call md d (.box k x) s h=G9 h d k (ev s x):=θ _
def asm(d k z n ps):step call md d (.buildSl k z n ps) s h=(gB k h (aER n z) (ps.map fun p=>(p.1,ev s p.2))).bind fun q=>dH q.2.1 d k q.1 n q.2.2:=θ _
def awL(d k z b l c):step call md d (.mkSl k z b l c) s h=(oH (ev s l) (ev s c)).bind fun p=>if p.2*b<=140737488355328 then dH h d k (aER p.1 z) p.1 []else none:=θ _
def awM(h a):Ha h (some a)=some (a,h,[]):=θ _
def au4(d st s h):oI d true st s h (.v (.bool true))=st:=θ _
def au5(d st s h):oI d false st s h (.v (.bool false))=st:=θ _
def au6(d st s h):oI (some d) true st s h (.v (.bool false))=some ⟨upd s d .und,h⟩:=θ _
def au7(d st s h):oI (some d) false st s h (.v (.bool true))=some ⟨upd s d .und,h⟩:=θ _
def auv(d w st s h):oI (some d) w st s h .und=some ⟨upd s d .und,h⟩:=θ _
def aEE(s n):ev s (.t n)=s n:=θ _
def aEF(s a):ev s (.c a)=a:=θ _
def ayy(s):evo s none=none:=θ _
def ayz(s x):evo s (some x)=some (ev s x):=θ _
def aDb{α}(s)(d)(x:α)(i):upd s d x i=if i=d then x else s i:=θ _
def aDc{α}(d)(f:Nat->α):mk d f []=fun _=>d:=θ _
def aAG{α}(d)(f:Nat->α)(i l):mk d f (i::l)=upd (mk d f l) i (f i):=θ _
def aEG(x):jB s (.mv x)=some (ev s x):=θ _
def aDd(c a b):jB s (.pick c a b)=Oc (ev s c) (ev s a) (ev s b):=θ _
def aAH(x):jB s (.nilck x)=Mw (ev s x):=θ _
def aDe(n x):jB s (.nilq n x)=Gy n (ev s x):=θ _
def aEj(op x y):jB s (.bin op x y)=fK op (ev s x) (ev s y):=θ _
def aEH(op x):jB s (.un op x)=YM op (ev s x):=θ _
def aEI(k x):jB s (.cv k x)=cvA k (ev s x):=θ _
def aEk(x):jB s (.cv0 x)=afN (ev s x):=θ _
def aEl(k x lo hi mx):jB s (.slc k x lo hi mx)=gA k (ev s x) (evo s lo) (evo s hi) (evo s mx):=θ _
def aDf(x lo hi):jB s (.slcS x lo hi)=Ys (ev s x) (evo s lo) (evo s hi):=θ _
def aDg(o x):jB s (.fadr o x)=EV o (ev s x):=θ _
def aEm(o k g x):jB s (.fld o k g x)=YO o k g (ev s x):=θ _
def aAI(k x i):jB s (.iadrS k x i)=A9 k (ev s x) (ev s i):=θ _
def aAJ(n k x i):jB s (.iadrA n k x i)=JB n k (ev s x) (ev s i):=θ _
def aDh(x i):jB s (.idxS x i)=Od (ev s x) (ev s i):=θ _
def aDi(n k g x i):jB s (.idxA n k g x i)=Oe n k g (ev s x) (ev s i):=θ _
def aEn(i x):jB s (.ext i x)=YP i (ev s x):=θ _
def aEo(m x):jB s (.len m x)=uF m (ev s x):=θ _
def aEp(m t x y):jB s (.eqc m t x y)=Qd m t (ev s x) (ev s y):=θ _
def aDj(x):jB s (.capp x)=Uh (ev s x):=θ _
def aEq(m x ys):jB s (.mnx m x ys)=Jb m (ev s x) (ys.map (ev s)):=θ _
def aAK(z ps):jB s (.build z ps)=(CN z (ps.map fun p=>(p.1,p.2.1,ev s p.2.2))).map .agg:=θ _
def aEr(f a b):jB s (.mkF f a b)=some (.fn f (a.map (ev s)) (b.map (ev s))):=θ _
def awN(a b):Oc (.v (.bool true)) a b=some a:=θ _
def au8(a b):Oc (.v (.bool false)) a b=some b:=θ _
def ayA(id sub k i j):Mw (.ref id sub k i j)=some (.ref id sub k i j):=θ _
def ayB(cs):Mw (.ipt cs)=some (.ipt cs):=θ _
def aAL(f a b):Mw (.fn f a b)=some (.fn f a b):=θ _
theorem uo(op a b):fK op (.v a) (.v b)=(nU op a b).map .v:=θ _
def aAM(k a b):fK .add (.v (.int k a)) (.v (.int k b))=some (.v (.int k (k.wrap (a+b)))):=by simp[uo,nU,yH]
def aAN(k a b):fK .sub (.v (.int k a)) (.v (.int k b))=some (.v (.int k (k.wrap (a-b)))):=by simp[uo,nU,yH]
def aAO(k a b):fK .mul (.v (.int k a)) (.v (.int k b))=some (.v (.int k (k.wrap (a*b)))):=by simp[uo,nU,yH]
theorem Uv(k a b):fK .quo (.v (.int k a)) (.v (.int k b))=if b=0 then none else some (.v (.int k (k.wrap (a.tdiv b)))):=by simp only[uo,nU,yH,if_true];split<;>rfl
theorem JI(k a b):fK .rem (.v (.int k a)) (.v (.int k b))=if b=0 then none else some (.v (.int k (a.tmod b))):=by simp only[uo,nU,yH,if_true];split<;>rfl
theorem adC(k a b):fK .and (.v (.int k a)) (.v (.int k b))=some (.v (.int k (k.wrap ((BitVec.ofInt k.bits a&&&BitVec.ofInt k.bits b).toNat)))):=by simp[uo,nU,yH]
theorem SB(k a b):fK .or (.v (.int k a)) (.v (.int k b))=some (.v (.int k (k.wrap ((BitVec.ofInt k.bits a|||BitVec.ofInt k.bits b).toNat)))):=by simp[uo,nU,yH]
theorem Ov(k k' a b):fK .shl (.v (.int k a)) (.v (.int k' b))=if b<0 then none else some (.v (.int k (k.wrap (a*2^ (min b.toNat k.bits))))):=by simp only[uo,nU,alO];split<;>rfl
theorem JJ(k k' a b):fK .shr (.v (.int k a)) (.v (.int k' b))=if b<0 then none else some (.v (.int k (a.fdiv (2^ (min b.toNat k.bits))))):=by simp only[uo,nU,alP];split<;>rfl
def aAP(k a b):fK .lss (.v (.int k a)) (.v (.int k b))=some (B (decide (a<b))):=by simp[uo,nU,yH]
def aAQ(k a b):fK .leq (.v (.int k a)) (.v (.int k b))=some (B (decide (a<=b))):=by simp[uo,nU,yH]
def aAR(k a b):fK .gtr (.v (.int k a)) (.v (.int k b))=some (B (decide (b<a))):=by simp[uo,nU,yH]
def aAS(k a b):fK .geq (.v (.int k a)) (.v (.int k b))=some (B (decide (b<=a))):=by simp[uo,nU,yH]
def aAT(k a b):fK .eql (.v (.int k a)) (.v (.int k b))=some (B (decide (a=b))):=by simp[uo,nU,yH];rfl
def aAU(k a b):fK .neq (.v (.int k a)) (.v (.int k b))=some (B (!decide (a=b))):=by simp[uo,nU,yH,bne];rfl
def aDk(k a):YM .neg (.v (.int k a))=some (.v (.int k (k.wrap (0-a)))):=θ _
def aDl(k a):YM .xor (.v (.int k a))=some (.v (.int k (k.wrap ((BitVec.ofInt k.bits (if k.signed then-1 else k.max)^^^BitVec.ofInt k.bits a).toNat)))):=θ _
def aAV(k a b):fK .xor (.v (.int k a)) (.v (.int k b))=some (.v (.int k (k.wrap ((BitVec.ofInt k.bits a^^^BitVec.ofInt k.bits b).toNat)))):=by simp[uo,nU,yH]
def aDm(b):YM .not (.v (.bool b))=some (B (!b)):=θ _
def aDn(k k' n):cvA k (.v (.int k' n))=some (.v (.int k (k.wrap n))):=θ _
def ayC(o id sub k i j):EV o (.ref id sub k i j)=some (.ref id sub k i (j+o)):=θ _
def ayD(o cs):EV o (.ipt cs)=some (.ipt (cs.drop o)):=θ _
def aAW(o k g cs):YO o k g (.agg cs)=nO k g cs o:=θ _
def awO(k cs o):nO k false cs o=cs[o]?:=θ _
def ayE(k cs o):nO k true cs o=if o+k<=O cs then some (.agg ((cs.drop o).take k))else none:=θ _
def aAX(k rows k' i):A9 k (.sl k rows) (.v (.int k' i))=dF rows i:=by simp[A9]
def ayF(k id sub lo n k' i):A9 k (.rsl id sub k lo n) (.v (.int k' i))=if 0<=i/\i<n then some (.ref id sub k (lo+i.toNat) 0)else none:=by simp[A9]
def awP(n k id sub k' a j kk i):JB n k (.ref id sub k' a j) (.v (.int kk i))=if 0<=i/\i<n then some (.ref id sub k' a (j+i.toNat*k))else none:=θ _
def awQ(n k cs kk i):JB n k (.ipt cs) (.v (.int kk i))=if 0<=i/\i<n then some (.ipt (cs.drop (i.toNat*k)))else none:=θ _
def aAY(i vs):YP i (.tup vs)=vs[i]?:=θ _
def aDo(k rows):uF false (.sl k rows)=some (I (O rows)):=θ _
def aAZ:uF false .emp=some (I 0):=θ _
def aA0(a b c d n):uF false (.rsl a b c d n)=some (I n):=θ _
def aA1(x):uF true (.v (.string x))=some (I x.size):=θ _
def ayG(m a):Jb m a []=some a:=θ _
def awR(m a b l):Jb m a (b::l)=(Ui m a b).bind fun c=>Jb m c l:=θ _
def aA2(k k' x y):Ui true (.v (.int k x)) (.v (.int k' y))=some (.v (.int k (if y<x then y else x))):=θ _
def aA3(k k' x y):Ui false (.v (.int k x)) (.v (.int k' y))=some (.v (.int k (if x<y then y else x))):=θ _
def ayH(m a b):Qd m 0 (.v (.bool a)) (.v (.bool b))=some (B (m != (a==b))):=θ _
def awS(z):CN z []=some z:=θ _
def au9(z o k a ps):CN z ((o,k,a)::ps)=(ke a).bind fun cs=>if O cs=k/\o+k<=O z then CN (setRow z o cs) ps else none:=θ _
def awT(cs):ke (.agg cs)=some cs:=θ _
def aA4(x):ke (.v x)=some [.v x]:=θ _
def awU:ke .emp=some [.emp]:=θ _
def ayI(k r):ke (.sl k r)=some [.sl k r]:=θ _
def awV(a b c d e):ke (.rsl a b c d e)=some [.rsl a b c d e]:=θ _
def awW(a b c d e):ke (.ref a b c d e)=some [.ref a b c d e]:=θ _
def ayJ(f a b):ke (.fn f a b)=some [.fn f a b]:=θ _
def ava(r j):setRow r j []=r:=θ _
def auw(r j c cs):setRow r j (c::cs)=setRow (r.set j c) (j+1) cs:=θ _
def ayK(h k g cs):kY h k g (.ipt cs)=(nO k g cs 0).map fun a=>(a,h,[]):=θ _
def ayL(h k g id k0 i j):kY h k g (.ref id none k0 i j)=EX h k g id k0 i j (h id):=θ _
def ayM(h k g id p k0 i j):kY h k g (.ref id (some p) k0 i j)=sE h k g k0 i j (ni p (h id)):=θ _
def ayN(h k g id k0 i j cs):EX h k g id k0 i j (.bx cs)=Kz h id (i*k0+j) k g cs:=θ _
def ayO(h k g id k0 i j k' rows):EX h k g id k0 i j (.ar k' rows)=sE h k g k0 i j (some (k',rows)):=θ _
def ayP(h k g id k0 i j k' rows):EX h k g id k0 i j (.fz k' rows)=sE h k g k0 i j (some (k',rows)):=θ _
def avb(h id p k cs):Kz h id p k false cs=(cs[p]?).map fun c=>(EW id p c,h,[]):=θ _
def awX(h id p k cs):Kz h id p k true cs=if p+k<=O cs then(if((cs.drop p).take k).any bI then some (.agg (((cs.map pe).drop p).take k),upd h id (.bx (cs.map pe)),[(id,true)])else some (.agg ((cs.drop p).take k),h,[]))else none:=θ _
def aA5(id p x):EW id p (.v x)=.v x:=θ _
def awY(id p):EW id p .emp=.emp:=θ _
def ayQ(id p k r):EW id p (.sl k r)=.sl k r:=θ _
def awZ(id p a b c d e):EW id p (.ref a b c d e)=.ref a b c d e:=θ _
def ayR(id p f a b):EW id p (.fn f a b)=.fn f a b:=θ _
def axa(id p k r):EW id p (.osl k r)=.rsl id (some p) k 0 (O r):=θ _
def avc(h k g i j k' rows):sE h k g k' i j (some (k',rows))=(rows[i]?).bind fun row=>(nO k g row j).map fun a=>(a,h,[]):=by simp[sE]
def aA6(x):bI (.v x)=false:=θ _
def axb:bI .emp=false:=θ _
def ayS(k r):bI (.sl k r)=false:=θ _
def axc(k r):bI (.osl k r)=true:=θ _
def axd(a b c d e):bI (.ref a b c d e)=false:=θ _
def ayT(f a b):bI (.fn f a b)=false:=θ _
def aDp(x):aI (.v x)=true:=θ _
def ayU:aI .emp=true:=θ _
def aA7(k r):aI (.sl k r)=true:=θ _
def ayV(a b c d e):aI (.rsl a b c d e)=false:=θ _
def ayW(a b c d e):aI (.ref a b c d e)=false:=θ _
def ayX(f):aI (.fn f [] [])=true:=θ _
def aA8(cs):dat (.agg cs)=cs.all aI:=θ _
def aEs(x):dat (.v x)=true:=θ _
def aA9:dat .emp=true:=θ _
def aDq(k r):dat (.sl k r)=true:=θ _
def aBa(a b c d e):dat (.rsl a b c d e)=false:=θ _
def aBb(a b c d e):dat (.ref a b c d e)=false:=θ _
def aBc(f):dat (.fn f [] [])=true:=θ _
def ayY(h d cs ks):qY h d cs ks=FT h d (.ref d none 0 0 0) (.bx cs) ks (h d):=θ _
def axe(h d a o ks):FT h d a o ks .dead=some (a,upd h d o,ks):=θ _
def avd(h d k rows n ks):dH h d k rows n ks=FT h d (.rsl d none k 0 n) (.ar k rows) ks (h d):=θ _
def aDr(h d k x):G9 h d k x=(ke x).bind fun xs=>if O xs=k then(if xs.all aI then qY h d xs []else(qY h d (aER k .any) []).bind (Qf d 0 xs))else none:=θ _
def asn(k h rows):gB k h rows []=some (rows,h,[]):=θ _
def ar1(k h rows i a ps):gB k h rows ((i,a)::ps)=(ke a).bind fun cs=>if O cs=k/\i<O rows then(kX h cs).bind fun q=>(gB k q.2.1 (rows.set i q.1) ps).bind fun r=>some (r.1,r.2.1,q.2.2++r.2.2)else none:=θ _
def axf(h):kX h []=some ([],h,[]):=θ _
def ave(h a l):kX h (a::l)=(iJ h a).bind fun p=>(kX p.2.1 l).bind fun q=>some (p.1::q.1,q.2.1,p.2.2++q.2.2):=θ _
def aDs(h x):iJ h (.v x)=some (.v x,h,[]):=θ _
def ayZ(h):iJ h .emp=some (.emp,h,[]):=θ _
def aBd(h k r):iJ h (.sl k r)=some (.sl k r,h,[]):=θ _
def aBe(h f):iJ h (.fn f [] [])=some (.fn f [] [],h,[]):=θ _
def ay0(h id k lo n):iJ h (.rsl id none k lo n)=qX h id k lo n (h id):=θ _
def axg(h id p k lo n):iJ h (.rsl id (some p) k lo n)=Mz h id p k lo n (h id):=θ _
def aBf(h id k lo n rows):qX h id k lo n (.ar k rows)=if lo+n<=O rows then some (tJ k lo n rows,upd h id (.fz k rows),[])else none:=by simp[qX]
def aBg(h id k lo n rows):qX h id k lo n (.fz k rows)=if lo+n<=O rows then some (tJ k lo n rows,h,[])else none:=by simp[qX]
def aBh(k lo n rows):tJ k lo n rows=.sl k ((rows.drop lo).take n):=θ _
def axh(h k id k0 i j x):pC h k (.ref id none k0 i j) x=(ke x).bind fun xs=>if O xs=k then Jd h k id k0 i j xs (h id)else none:=θ _
def axi(h k id p k0 i j x):pC h k (.ref id (some p) k0 i j) x=(ke x).bind fun xs=>if O xs=k then(kX h xs).bind fun q=>Iu q.2.1 k id p k0 i j q.1 q.2.2 (q.2.1 id)else none:=θ _
def aBi(h k id k0 i j xs cs):Jd h k id k0 i j xs (.bx cs)=Uj h id (i*k0+j) k xs cs:=θ _
def aBj(h k id k0 i j xs k' rows):Jd h k id k0 i j xs (.ar k' rows)=(kX h xs).bind fun q=>Uk q.2.1 id k k0 i j q.1 q.2.2 (q.2.1 id):=θ _
def aBk(h id k k0 i j xs ks k' rows):Uk h id k k0 i j xs ks (.ar k' rows)=(vX k k0 i j xs k' rows).map fun q=>(.und,upd h id (.ar k' q),ks):=θ _
def aBl(k k0 i j cs rows):vX k k0 i j cs k0 rows=(rows[i]?).bind fun row=>if j+k<=O row then some (rows.set i (setRow row j cs))else none:=by simp[vX]
def aBm(h id p k xs cs):Uj h id p k xs cs=if p+k<=O cs then(if xs.all aI then some (.und,upd h id (.bx (setRow cs p xs)),if((cs.drop p).take k).any bI then [(id,true)]else [])else(wN h id p (O xs) xs).map fun q=>(.und,q.1,q.2))else none:=θ _
def aBn(hs x):jn hs (.v x)=.v x:=θ _
def axj(hs):jn hs .emp=.emp:=θ _
def ay1(hs k r):jn hs (.sl k r)=.sl k r:=θ _
def axk(hs):jn hs .any=.any:=θ _
def axl(hs cs):jn hs (.ipt cs)=.ipt cs:=θ _
def axm(hs id sub k lo n):jn hs (.rsl id sub k lo n)=if hs.contains id then .rsl id sub k lo n else .any:=θ _
def axn(hs id sub k lo n):jn hs (.ref id sub k lo n)=if hs.contains id then .ref id sub k lo n else .any:=θ _
def axo(hs cs):jn hs (.agg cs)=if cs.all (knownL hs)then .agg cs else .any:=θ _
def axp(hs f):jn hs (.fn f [] [])=.fn f [] []:=θ _
def ay2(hs f a b):jn hs (.fn f a b)=if a.all (knownL hs)&&b.all (knownL hs)then .fn f a b else .any:=θ _
def ay3(hs x):knownL hs (.v x)=true:=θ _
def avf(hs):knownL hs .emp=true:=θ _
def axq(hs k r):knownL hs (.sl k r)=true:=θ _
def avg(hs id a b c d):knownL hs (.ref id a b c d)=hs.contains id:=θ _
def aso(hs):aE hs .dead=true:=θ _
def avh(hs k r):aE hs (.ar k r)=true:=θ _
def avi(hs k r):aE hs (.fz k r)=true:=θ _
def avj(hs cs):aE hs (.bx cs)=cs.all (mh hs):=θ _
def axr(hs x):mh hs (.v x)=true:=θ _
def aux(hs):mh hs .emp=true:=θ _
def avk(hs k r):mh hs (.sl k r)=true:=θ _
def auy(hs k r):mh hs (.osl k r)=true:=θ _
def auz(hs id a b c):mh hs (.ref id none a b c)=hs.contains id:=by simp[mh,bI,be,bA]
def auA(hs f):mh hs (.fn f [] [])=true:=θ _
def avl(f:α->β)(a):Option.map f (some a)=some (f a):=θ _
def avm(f:α->β):Option.map f none=none:=θ _
def auB(f:α->Option β)(a):(some a).bind f=f a:=θ _
def auC(f:α->Option β):none.bind f=none:=θ _
def auD(a b:α):(some a).getD b=a:=θ _
def axs(p:α->Bool):[].all p=true:=θ _
def avn(p:α->Bool)(a l):(a::l).all p=(p a&&l.all p):=θ _
def axt(p:α->Bool):[].any p=false:=θ _
def avo(p:α->Bool)(a l):(a::l).any p=(p a||l.any p):=θ _
def avp(a:α)(l):(a::l)[0]?=some a:=θ _
def avq(a:α)(l)(n):(a::l)[n+1]?=l[n]?:=θ _
def axu(f:α->β):[].map f=[]:=θ _
def avr(f:α->β)(a l):(a::l).map f=f a::l.map f:=θ _
def ay4(f:α->List β):[].flatMap f=[]:=θ _
def axv(f:α->List β)(a l):(a::l).flatMap f=f a++l.flatMap f:=θ _
def axw(l:List α):l++[]=l:=aE8 l
def axx(l:List α):[]++l=l:=θ _
def avs(a:α)(l r):(a::l)++r=a::(l++r):=θ _
def axy:O ([]:List α)=0:=θ _
def avt(a:α)(l):O (a::l)=O l+1:=θ _
def auE(l:List α):l.drop 0=l:=θ _
def auF(a:α)(l)(n):(a::l).drop (n+1)=l.drop n:=θ _
def auG(l:List α):l.take 0=[]:=θ _
def auH(a:α)(l)(n):(a::l).take (n+1)=a::l.take n:=θ _
def asp(p:α->Bool):[].filter p=[]:=θ _
def avu(a b:α)(l):(a::l).set 0 b=b::l:=θ _
def avv(a b:α)(l)(n):(a::l).set (n+1) b=a::l.set n b:=θ _
def aDt(a:α):aER 0 a=[]:=θ _
def aDu(a:α):aER 1 a=[a]:=θ _
def aDv(a:α):aER 2 a=[a,a]:=θ _
def aDw(a:α):aER 3 a=[a,a,a]:=θ _
def aDx(a:α):aER 4 a=[a,a,a,a]:=θ _
def aDy(a:α):aER 5 a=[a,a,a,a,a]:=θ _
def aEJ:decide True=true:=θ _
def aEK:decide False=false:=θ _
def aBo(b):(true&&b)=b:=θ _
def aBp(b):(false&&b)=false:=θ _
def aDz(b):(true||b)=true:=θ _
def aDA(b):(false||b)=b:=θ _
def aBq:(!true)=false:=θ _
def aBr:(!false)=true:=θ _
def aBs(b):(b&&true)=b:=aFE b
def aEL:(false=true)=False:=σ
def aEt(a:α):(a=a)=True:=σ
def aDB(p):(True/\p)=p:=σ
def aBt(p):(p/\True)=p:=σ
def aDC(p):(False/\p)=False:=σ
def aDD:(¬False)=True:=σ
def aDE:(¬True)=False:=σ
def ay5(nm rs res n t):fk nm rs res n (some (.ret,t))=Hb nm rs res n t.s t.h:=θ _
def auI(nm rs res n t):fk nm rs res n (some (.normal,t))=Hb nm rs res n t.s t.h:=θ _
def axz(nm rs res n s h):Hb nm rs res n s h=(E3 s h res).bind fun q=>if vZ nm q.2.2 then xT rs n q.2.1 q.1 else none:=θ _
def aDF(nm):vZ nm []=true:=tK nm
def axA(s h):E3 s h []=some ([],h,[]):=θ _
def aBu(s h n l):E3 s h (.t n::l)=(E3 s h l).bind fun q=>some (Y3 q.2.2 (s n)::q.1,q.2.1,q.2.2):=θ _
def avw(s h n k g l):E3 s h (.cell n k g::l)=(kY h k g (s n)).bind fun p=>(E3 (ng p.2.2 s) p.2.1 l).bind fun q=>some (Y3 q.2.2 p.1::q.1,q.2.1,p.2.2++q.2.2):=θ _
def ay6(a):Y3 [] a=a:=θ _
def axB(s):ng [] s=s:=θ _
def aDG(rs h vs):xT rs 0 h vs=if mT ((vs.flatMap cF).filter fun i=>!bu i)then(yf h vs).map fun us=>(zT (bC rs us),[])else none:=by simp[xT,dJ]
def axC(h):yf h []=some []:=θ _
def avx(h a l):yf h (a::l)=(wj h a).bind fun b=>(yf h l).bind fun q=>some (b::q):=θ _
def aDH(h x):wj h (.v x)=some (.v x):=θ _
def ay7(h):wj h .emp=some .emp:=θ _
def aBv(h k r):wj h (.sl k r)=some (.sl k r):=θ _
def ay8(h cs):wj h (.agg cs)=(qp h cs).map .agg:=θ _
def ay9(h id k lo n):wj h (.rsl id none k lo n)=if bu id then none else FU k lo n (h id):=θ _
def aBw(k lo n rows):FU k lo n (.ar k rows)=if lo+n<=O rows then(if lo=0/\n=O rows then some (.osl k rows)else some (tJ k lo n rows))else none:=by simp[FU]
def aBx(k lo n rows):FU k lo n (.fz k rows)=if lo+n<=O rows then some (tJ k lo n rows)else none:=by simp[FU]
def axD(h):qp h []=some []:=θ _
def aBy(h x l):qp h (.v x::l)=(qp h l).bind fun q=>some (.v x::q):=θ _
def axE(h l):qp h (.emp::l)=(qp h l).bind fun q=>some (.emp::q):=θ _
def aza(h k r l):qp h (.sl k r::l)=(qp h l).bind fun q=>some (.sl k r::q):=θ _
def axF(h id k lo n l):qp h (.rsl id none k lo n::l)=(qk h (.rsl id none k lo n)).bind fun b=>(FV b).bind fun c=>(qp h l).bind fun q=>some (c::q):=θ _
def azb(h id k lo n):qk h (.rsl id none k lo n)=if bu id then none else FU k lo n (h id):=θ _
def azc(k r):FV (.osl k r)=some (.sl k r):=θ _
def aBz(k r):FV (.sl k r)=some (.sl k r):=θ _
def aBA(a):zT [a]=a:=θ _
def aBB(a b l):zT (a::b::l)=.tup (a::b::l):=θ _
def aBC:zT []=.tup []:=θ _
def axG(l):bC [] l=l:=by cases l<;>simp[bC]
def avy(s):bC s []=[]:=by cases s<;>simp[bC]
def avz(s ss a l):bC (s::ss) (a::l)=nrmV s a::bC ss l:=θ _
theorem amf(a):nrmV [] a=a:=by cases a<;>simp[nrmV,nrmL,fj]
def azd(ss cs):nrmV ss (.agg cs)=.agg (fj ss cs):=θ _
def aDI(ss x):nrmV ss (.v x)=.v x:=by
 show nrmL _ _=_;generalize ss.headD (a9)=s;obtain⟨k,cs⟩:=s;cases k<;>simp[nrmL]
def aze(k cs ss):nrmV (.o (k+1) cs::ss) .emp=.sl k []:=by simp[nrmV,nrmL]
def aBD(k cs ss k' rows):nrmV (.o (k+1) cs::ss) (.sl k' rows)=.sl k' (rows.map (fj cs)):=by simp[nrmV,nrmL]
def azf(k cs ss k' rows):nrmV (.o (k+1) cs::ss) (.osl k' rows)=.sl k' (rows.map (fj cs)):=by simp[nrmV,nrmL]
def ZI(l):fj [] l=l:=by cases l<;>simp[fj]
def axH(l):fj l []=[]:=by cases l<;>simp[fj]
def axI(s ss a l):fj (s::ss) (a::l)=nrmL s a::fj ss l:=by simp[fj]
def aDJ(cs a):nrmL (.o 0 cs) a=a:=by simp[nrmL]
def azg(k cs):nrmL (.o (k+1) cs) .emp=.sl k []:=by simp[nrmL]
def aBE(k cs k' rows):nrmL (.o (k+1) cs) (.sl k' rows)=.sl k' (rows.map (fj cs)):=by simp[nrmL]
def aDK(k cs x):nrmL (.o k cs) (.v x)=.v x:=by cases k<;>simp[nrmL]
def aDL(x):cF (.v x)=[]:=θ _
def azh:cF .emp=[]:=θ _
def aBF(k r):cF (.sl k r)=[]:=θ _
def azi(cs):cF (.agg cs)=cs.flatMap ip:=θ _
def azj(a b c d e):cF (.rsl a b c d e)=[a]:=θ _
def aDM(x):ip (.v x)=[]:=θ _
def azk:ip .emp=[]:=θ _
def aBG(k r):ip (.sl k r)=[]:=θ _
def azl(a b c d e):ip (.rsl a b c d e)=[a]:=θ _
def avA:mT []=true:=θ _
def avB(a):mT [a]=true:=θ _
def aBH(args i):iW args i=(args[i]?).getD .any:=θ _
theorem agK:az []=fun _=>.dead:=by funext i;simp[az]
def axJ(i):bu i=decide (1000<=i/\i<2000):=θ _
def mR(h:aj)(d:Nat):Option (AV×List Ob)->Option R3
 |some (r,[])=>if cV r<=8/\bV h (2000+8*d) (cV r)=true/\kZ [] r=true then some ((mat (2000+8*d) h r).1,(mat (2000+8*d) h r).2,[])else none
 |_=>none
def oL{c}{ids}{n}(hn:2000<=n)(hc:bA [] c=true\/(∃k lo m,c=.rsl n none k lo m)\/∃k i j,c=.ref n none k i j):lG (eW ids) c=c:=by
 have hb:eW ids n=n:=by unfold eW;rw[if_neg ω]
 rcases hc with hc| ⟨k,lo,m,rfl⟩| ⟨k,i,j,rfl⟩
 ·cases c<;>simp[bA]at hc<;>rfl
 ·simp[lG,hb]
 ·simp[lG,hb]
theorem Wz{r}{n}(hn:2000<=n)(h)(ids)(hr:gR [] r=true):eG (eW ids) (eS n h r).1=(eS n h r).1:=by
 cases r<;>simp only[gR]at hr<;>simp only[eS]
 case osl=>simp only[eG];exact oL hn (.inr (.inl ⟨_,_,_,rfl⟩))
 case obx=>simp only[eG];exact oL hn (.inr (.inr ⟨_,_,_,rfl⟩))
 case agg cs=>
  simp only[be,aFc]at hr;simp only[eG,AV.agg.injEq];exact(aFn (g:=fun c=>c) fun c hc=>oL hn (.inl (hr c hc))).trans (aFH cs)
 case fn f x y=>
  simp only[be,aEV,aFc]at hr;simp only[eG,AV.fn.injEq,true_and];exact⟨(aFn (g:=fun c=>c) fun c hc=>oL hn (.inl (hr.1 c hc))).trans (aFH x),(aFn (g:=fun c=>c) fun c hc=>oL hn (.inl (hr.2 c hc))).trans (aFH y)⟩
 all_goals
  simp only[eG];exact oL hn (.inl hr)
theorem WA(ids):∀ {l} {n} {h},2000<=n->l.all (gR [])=true->(dB n h l).1.map (eG (eW ids))=(dB n h l).1
 |[],n,h,_,_=>rfl
 |c::l,n,h,hn,hr=>by
  simp only[aFa,aEV]at hr;simp only[dB,aFr];rw[Wz hn h ids hr.1,WA ids ω hr.2]
theorem amg{r}{n}(hn:2000<=n)(h)(ids)(hr:kZ [] r=true):Je (eW ids) (mat n h r).1=(mat n h r).1:=by
 cases r with
 |tup vs=>
  simp only[kZ]at hr;simp only[mat,Je,AV.tup.injEq];exact WA ids hn hr
 |_=>
  simp only[kZ]at hr;have:=Wz hn h ids hr;simp only[mat];simp only[eS]at this⊢;exact this
theorem WB:∀l,vY [] l=[]
 |[]=>rfl
 |a::l=>by simp[vY,WB l]
theorem Ce{f}{args}(d)(hm:md.m f=[])(hd:args.all dat=true):bF call md h d args (.fn f [] [])=mR h d (call f (bC (md.sh f) args) []):=by
 have hin:=by
  have:∀l,l.all dat=true->cr h [] l=some (l,h,[]):=by
   intro l;induction l with
   |nil=>intro _;rfl
   |cons a l ih=>
    intro hd;simp only[aFa,aEV]at hd;have ha:eM h 0 a=some (a,h,[]):=by
     have h1:=hd.1;by_cases hagg:∃cs,a=.agg cs
     ·obtain⟨cs,rfl⟩:=hagg;simp only[dat]at h1;simp only[eM,Av];rw[qH h1 h];rfl
     ·have h2:aI a=true:=by cases a<;>first|exact h1|exact absurd ⟨_,rfl⟩ hagg
      cases a<;>first| (simp[aI]at h2;done)|rfl|skip
    simp only[cr,List.headD_nil,ha,aEZ,List.tail_nil,ih hd.2,aE8]
  exact this args hd
 have hids:args.flatMap cF=[]:=by
  rw[List.flatMap_eq_nil_iff];exact fun c hc=>Zi (List.all_eq_true.1 hd c hc)
 have hren:(bC (md.sh f) args).map (eG (bh []))=bC (md.sh f) args/\(bC (md.sh f) args).all (be [])=true:=by
  have key:∀c∈bC (md.sh f) args,dat c=true:=by
   intro c hc;obtain⟨i,hi⟩:=aFL hc;obtain⟨c0,h1,h2⟩:=Cd _ _ _ _ hi;have h0:=List.all_eq_true.1 hd c0 (aE6 h1);rcases h2 with rfl| ⟨ss,rfl⟩
   ·exact h0
   ·cases c0<;>simp only[dat]at h0<;>simp only[nrmV,dat]<;>try (have:=Hk (s:=ss.headD (a9)) h0;revert this;generalize nrmL _ _=q;intro this;cases q<;>first|exact this|simp[aI]at this)
    rename_i cs;rw[aFc];intro c hc;obtain⟨i,hi⟩:=aFL hc;obtain⟨c0,h1,h2⟩:=Hj _ _ _ _ hi;have h3:=List.all_eq_true.1 h0 c0 (aE6 h1);rcases h2 with rfl| ⟨s,rfl⟩
    ·exact h3
    ·exact Hk h3
  refine⟨(aFn (g:=fun c=>c) fun c hc=>?_).trans (aFH _),?_⟩
  ·have:=key c hc;cases c<;>simp only[dat]at this<;>first|rfl|skip
   all_goals first
    | (simp[aI]at this;done)
    |skip
   ·rename_i cs;simp only[eG,AV.agg.injEq];refine(aFn (g:=fun c=>c) fun c hc=>?_).trans (aFH cs);have h3:=List.all_eq_true.1 this c hc;cases c<;>simp[aI]at h3<;>rfl
   ·rename_i g x y;simp[aI]at this;obtain⟨rfl,rfl⟩:=this;rfl
  ·rw[aFc];intro c hc;have:=key c hc;cases c<;>simp only[dat]at this<;>first|rfl|skip
   all_goals first
    | (simp[aI]at this;done)
    |skip
   ·rename_i cs;simp only[be,aFc];intro c hc;have h3:=List.all_eq_true.1 this c hc;cases c<;>simp[aI]at h3<;>simp[bA,h3]
   ·rename_i g x y;simp[aI]at this;obtain⟨rfl,rfl⟩:=this;rfl
 unfold bF;rw[if_neg (by simp[lH,hm])];simp only[eU,aE5,aE8,aEZ,bD,Wn,lg,hren.2,aFF,aFI,if_true,hren.1,aFB,WB, *];cases hr:call f (bC (md.sh f) args) []with
 |none=>rfl
 |some q=>
  obtain⟨r,os⟩:=q;cases os with
  |cons o os=>simp only[aEZ,fG,mR];simp
  |nil=>
   simp only[aEZ,fG,mR,aFs,aE9,true_and,dk,nP,CP,aFF,aEW,aFE,Iw,dJ,List.range'_zero,fw,ie];by_cases hc:cV r<=8/\bV h (2000+8*d) (cV r)=true/\kZ [] r=true
   ·rw[if_pos hc,if_pos hc,amg ω h [] hc.2.2];simp
   ·rw[if_neg hc,if_neg hc]
def KT(call:j8)(md:Mode)(d:Nat)(f:FuncId)(p:List AV×aj×K):Option R3:=
 lg call md p.2.1 d f (bO p.2.1 40 (bD [] (p.1.flatMap cF)) 0) (bC (md.sh f) p.1) p.2.2
theorem KU{f}{args}(d)(hm:md.m f=[]):bF call md h d args (.fn f [] [])=(cr h [] args).bind (KT call md d f):=by
 unfold bF;rw[if_neg (by simp[lH,hm])];simp only[eU,hm,aE5,aE8];rfl
def axK{f}{zs}(d)(hm:md.m f=[])(hd:zs.all dat=true):KT call md d f (zs,h,[])=mR h d (call f (bC (md.sh f) zs) []):=by
 rw[←Ce d hm hd,KU d hm];have hin:∀l,l.all dat=true->cr h [] l=some (l,h,[]):=by
  intro l;induction l with
  |nil=>intro _;rfl
  |cons a l ih=>
   intro hd;simp only[aFa,aEV]at hd;have ha:eM h 0 a=some (a,h,[]):=by
    have h1:=hd.1;by_cases hagg:∃cs,a=.agg cs
    ·obtain⟨cs,rfl⟩:=hagg;simp only[dat]at h1;simp only[eM,Av];rw[qH h1 h];rfl
    ·have h2:aI a=true:=by cases a<;>first|exact h1|exact absurd ⟨_,rfl⟩ hagg
     cases a<;>first| (simp[aI]at h2;done)|rfl|skip
   simp only[cr,List.headD_nil,ha,aEZ,List.tail_nil,ih hd.2,aE8]
 rw[hin zs hd];rfl
def avC(h):cr h [] []=some ([],h,[]):=θ _
def auJ(h a l):cr h [] (a::l)=(eM h 0 a).bind fun p=>(cr p.2.1 [] l).bind fun q=>some (p.1::q.1,q.2.1,p.2.2++q.2.2):=θ _
def aBI(h x):eM h 0 (.v x)=some (.v x,h,[]):=θ _
def axL(h):eM h 0 .emp=some (.emp,h,[]):=θ _
def azm(h k r):eM h 0 (.sl k r)=some (.sl k r,h,[]):=θ _
def azn(h f a b):eM h 0 (.fn f a b)=some (.fn f a b,h,[]):=θ _
def axM(h a b c d):eM h 0 (.ref a none b c d)=some (.ref a none b c d,h,[]):=θ _
def axN(h cs):eM h 0 (.ipt cs)=some (.ipt cs,h,[]):=θ _
def axO(h id k lo n):eM h 0 (.rsl id none k lo n)=qX h id k lo n (h id):=θ _
def avD(h id p k lo n):eM h 0 (.rsl id (some p) k lo n)=Mz h id p k lo n (h id):=θ _
def axP(h cs):eM h 0 (.agg cs)=(kX h cs).bind fun p=>some (.agg p.1,p.2):=θ _
def aBJ(h d x):mR h d (some (.v x,[]))=if bV h (2000+8*d) 1=true then some (.v x,h,[])else none:=by
 simp[mR,cV,kZ,gR,be,bA,mat,eS]
def amh(h d k r):mR h d (some (.sl k r,[]))=if bV h (2000+8*d) 1=true then some (.sl k r,h,[])else none:=by
 simp[mR,cV,kZ,gR,be,bA,mat,eS]
def axQ(h d cs)(hd:cs.all aI=true):mR h d (some (.agg cs,[]))=if bV h (2000+8*d) 1=true then some (.agg cs,h,[])else none:=by
 have:cs.all (bA [])=true:=by
  rw[aFc]at hd⊢;intro c hc;have:=hd c hc;cases c<;>simp[aI]at this<;>simp[bA,this]
 simp only[mR,cV,kZ,gR,be,mat,eS,this,and_true];simp
def axR(h d vs)(h8:O vs<=8)(hd:vs.all dat=true):mR h d (some (.tup vs,[]))=if bV h (2000+8*d) (O vs)=true then some (.tup vs,h,[])else none:=by
 have h1:vs.all (gR [])=true:=by
  rw[aFc]at hd⊢;intro c hc;have:=hd c hc;cases c<;>simp only[dat]at this<;>simp only[gR,be]<;>try (simp[aI]at this<;>simp[bA,this];done)
  rename_i cs;rw[aFc]at this⊢;intro c hc;have:=this c hc;cases c<;>simp[aI]at this<;>simp[bA,this]
 have h2:∀l n g,l.all dat=true->dB n g l=(l,g):=by
  intro l;induction l with
  |nil=>intro n g _;rfl
  |cons c l ih=>
   intro n g hd;simp only[aFa,aEV]at hd;have hc:eS n g c=(c,g):=by
    have:=hd.1;cases c<;>simp only[dat,aI]at this<;>first|rfl| (cases this;done)
   simp only[dB,hc,ih _ _ hd.2]
 simp only[mR,cV,kZ,mat,h2 vs _ _ hd,true_and,and_true, *]
def axS(h d k r):mR h d (some (.osl k r,[]))=if bV h (2000+8*d) 1=true then some (.rsl (2000+8*d) none k 0 (O r),upd h (2000+8*d) (.ar k r),[])else none:=by
 simp[mR,cV,kZ,gR,mat,eS]
def avE(h n):bV h n 0=true:=θ _
def avF(h n m):bV h n (m+1)=(bS (h n)&&bV h (n+1) m):=θ _
def auK:bS .dead=true:=θ _
def dK(call:j8)(md:Mode)(ps:List (Nat×Nat)):List Fp->List COp->aM->aj->Option St
 |acc,[],s,h=>if ps.all (B8 acc)=true then some ⟨s,h⟩else none
 |acc,o::rest,s,h=>(gp call md o s h).bind fun r=>dK call md ps (acc++[r.2]) rest r.1.s r.1.h
theorem adD(ps):∀l acc s h,dK call md ps acc l s h=(kf call md l s h).bind fun r=>if ps.all (B8 (acc++r.2))=true then some r.1 else none
 |[],acc,s,h=>by simp only[dK,kf,aEZ,aE8]
 |o::l,acc,s,h=>by
  simp only[dK,kf];cases gp call md o s h with
  |none=>rfl
  |some r=>
   simp only[aEZ];rw[adD ps l];cases kf call md l r.1.s r.1.h with
   |none=>rfl
   |some q=>simp only[aEZ,aFO,List.singleton_append]
def axT:EZ []=none:=θ _
def avG(p g l):EZ ((p,g)::l)=if 1000000<=p then some (p-1000000,g)else none:=θ _
theorem ZJ(l ps):Fg call md l ps s h=dK call md ps [] l s h:=by
 rw[adD];rfl
def apz(ps)(l)(h0:EZ ps=none):we call md l ps s h=dK call md ps [] l s h:=by
 unfold we;rw[h0];exact ZJ l ps
def ami(call:j8)(md:Mode)(m g:Nat)(ps:List (Nat×Nat))(l:List COp)(s:aM)(h:aj):Option St:=
 bG (dK call md ps [] (l.take m) s h) fun s h=>bG (ye md.nm g s h) (aK call md (l.drop m))
def azo(l ps):we call md l ps s h=match EZ ps with
  |some q=>ami call md q.1 q.2 ps.tail l s h
  |none=>dK call md ps [] l s h:=by
 cases hb:EZ ps with
 |none=>exact apz ps l hb
 |some q=>
  unfold we;rw[hb];simp only[ami,KA];rw[←ZJ _ _,Fg];cases kf call md (l.take q.1) s h with
  |none=>rfl
  |some r=>
   simp only[aEZ];split<;>rfl
def lh(call:j8)(md:Mode)(ps:List (Nat×Nat))(acc:List Fp)(rest:List COp)(s:aM)(d:Option Nat)(f:aj->Fp):Option R3->Option St
 |some (x,h,[])=>dK call md ps (acc++[f h]) rest (iK s d x) h
 |_=>none
theorem gk(ps acc)(o)(rest)(hg:o.g=none):dK call md ps acc (o::rest) s h=lh call md ps acc rest s o.d (jl (o.d.getD 0) o.op s h) (step call md (o.d.getD 0) o.op s h):=by
 simp only[dK,gp,hg,rJ];cases step call md (o.d.getD 0) o.op s h with
 |none=>rfl
 |some r=>
  obtain⟨x,h',ks⟩:=r;cases ks<;>rfl
def azp(ps acc):dK call md ps acc [] s h=if ps.all (B8 acc)=true then some ⟨s,h⟩else none:=θ _
def Ow(ps acc d op rest):dK call md ps acc (co d op::rest) s h=(jB s op).bind fun a=>dK call md ps (acc++[some ([],[])]) rest (upd s d a) h:=by
 rw[gk _ _ _ _ rfl];simp only[co,step,Ha];cases jB s op<;>rfl
def aBK(ps acc d n rest):dK call md ps acc (cm d n::rest) s h=dK call md ps (acc++[some ([],[])]) rest (upd s d (s n)) h:=Ow ps acc d (.mv (.t n)) rest
def axU(ps acc d k g x rest):dK call md ps acc (⟨some d,none,.load k g x⟩::rest) s h=lh call md ps acc rest s (some d) (fun _=>yI (ev s x)) (kY h k g (ev s x)):=gk _ _ _ _ rfl
def avH(ps acc d k x y rest):dK call md ps acc (⟨d,none,.store k x y⟩::rest) s h=lh call md ps acc rest s d (fun _=>EY (ev s y) (ev s x)) (pC h k (ev s x) (ev s y)):=gk _ _ _ _ rfl
def axV(ps acc d f zas rest):dK call md ps acc (⟨some d,none,.call f zas⟩::rest) s h=lh call md ps acc rest s (some d) (hF h d (sF (zas.map (ev s)) (ev s f))) (bF call md h d (zas.map (ev s)) (ev s f)):=gk _ _ _ _ rfl
def avI(ps acc d z rest):dK call md ps acc (⟨some d,none,.alloc z⟩::rest) s h=lh call md ps acc rest s (some d) (fun _=>some ([],[du d])) (qY h d z []):=gk _ _ _ _ rfl
def azq(ps acc d k x rest):dK call md ps acc (⟨some d,none,.box k x⟩::rest) s h=lh call md ps acc rest s (some d) (fun _=>if dat (ev s x)=true then some ([],[du d])else none) (G9 h d k (ev s x)):=gk _ _ _ _ rfl
def asq(ps acc d k z n qs rest):dK call md ps acc (⟨some d,none,.buildSl k z n qs⟩::rest) s h=lh call md ps acc rest s (some d) (fun _=>if(qs.all fun p=>dat (ev s p.2))=true then some ([],[du d])else none) ((gB k h (aER n z) (qs.map fun p=>(p.1,ev s p.2))).bind fun q=>dH q.2.1 d k q.1 n q.2.2):=gk _ _ _ _ rfl
def aBL(ps acc d op a b rest):dK call md ps acc (b2 d op a b::rest) s h=(fK op (s a) (s b)).bind fun a=>dK call md ps (acc++[some ([],[])]) rest (upd s d a) h:=Ow ps acc d (.bin op (.t a) (.t b)) rest
def aBM(ps acc d k a rest):dK call md ps acc (fa d k a::rest) s h=(EV k (s a)).bind fun a=>dK call md ps (acc++[some ([],[])]) rest (upd s d a) h:=Ow ps acc d (.fadr k (.t a)) rest
def aBN(ps acc d a rest):dK call md ps acc (nk d a::rest) s h=(Mw (s a)).bind fun a=>dK call md ps (acc++[some ([],[])]) rest (upd s d a) h:=Ow ps acc d (.nilck (.t a)) rest
def aBO(ps acc d k a rest):dK call md ps acc (ld d k a::rest) s h=lh call md ps acc rest s (some d) (fun _=>yI (s a)) (kY h k false (s a)):=gk _ _ _ _ rfl
def aBP(ps acc d k a rest):dK call md ps acc (la d k a::rest) s h=lh call md ps acc rest s (some d) (fun _=>yI (s a)) (kY h k true (s a)):=gk _ _ _ _ rfl
def aBQ(ps acc d f zas rest):dK call md ps acc (ca d f zas::rest) s h=lh call md ps acc rest s (some d) (hF h d (sF (zas.map (ev s)) (.fn f [] []))) (bF call md h d (zas.map (ev s)) (.fn f [] [])):=gk _ _ _ _ rfl
def aBR(ps acc k x y rest):dK call md ps acc (sr k x y::rest) s h=lh call md ps acc rest s none (fun _=>EY (ev s y) (ev s x)) (pC h k (ev s x) (ev s y)):=gk _ _ _ _ rfl
def aBS(ps acc d z rest):dK call md ps acc (al d z::rest) s h=lh call md ps acc rest s (some d) (fun _=>some ([],[du d])) (qY h d z []):=gk _ _ _ _ rfl
def aBT(ps acc d k x rest):dK call md ps acc (bx d k x::rest) s h=lh call md ps acc rest s (some d) (fun _=>if dat (ev s x)=true then some ([],[du d])else none) (G9 h d k (ev s x)):=gk _ _ _ _ rfl
def axW(ps acc rest s d f x h):lh call md ps acc rest s (some d) f (some (x,h,[]))=dK call md ps (acc++[f h]) rest (upd s d x) h:=θ _
def avJ(ps acc rest s f x h):lh call md ps acc rest s none f (some (x,h,[]))=dK call md ps (acc++[f h]) rest s h:=θ _
theorem asr(ps acc)(o)(j w rest)(hg:o.g=some (j,w)){b}(hb:s j=.v (.bool b)):dK call md ps acc (o::rest) s h=
  if b=w then lh call md ps acc rest s o.d (jl (o.d.getD 0) o.op s h) (step call md (o.d.getD 0) o.op s h)else dK call md ps (acc++[some ([],[])]) rest (iK s o.d .und) h:=by
 simp only[dK,gp,v9, *];split
 ·simp only[rJ];cases step call md (o.d.getD 0) o.op s h with
  |none=>rfl
  |some r=>
   obtain⟨x,h',ks⟩:=r;cases ks<;>rfl
 ·rfl
def ZK(call:j8)(md:Mode)(ps:List (Nat×Nat))(acc:List Fp)(rest:List COp)(s:aM)(h:aj)(d:Option Nat)(w:Bool)(op:AOp):AV->Option St
 | .v (.bool b)=>if b=w then lh call md ps acc rest s d (jl (d.getD 0) op s h) (step call md (d.getD 0) op s h)else dK call md ps (acc++[some ([],[])]) rest (iK s d .und) h
 | .und=>dK call md ps (acc++[some ([],[])]) rest (iK s d .und) h
 |_=>none
def apA(ps acc d j w op rest):dK call md ps acc (⟨d,some (j,w),op⟩::rest) s h=ZK call md ps acc rest s h d w op (s j):=by
 by_cases hb:∃b,s j=.v (.bool b)
 ·obtain⟨b,hb⟩:=hb;rw[asr ps acc ⟨d,some (j,w),op⟩ j w rest rfl hb,hb];rfl
 ·simp only[dK,gp];cases hq:s j<;>first|rfl|skip
  rename_i x;cases x<;>first|rfl|exact absurd ⟨_,hq⟩ hb
def aBU(ps acc d j w op rest):dK call md ps acc (cg d j w op::rest) s h=ZK call md ps acc rest s h (some d) w (.p op) (s j):=apA ps acc (some d) j w (.p op) rest
def aDN(ps acc rest s h d op):ZK call md ps acc rest s h (some d) true op (.v (.bool true))=lh call md ps acc rest s (some d) (jl d op s h) (step call md d op s h):=θ _
def aDO(ps acc rest s h d op):ZK call md ps acc rest s h (some d) false op (.v (.bool false))=lh call md ps acc rest s (some d) (jl d op s h) (step call md d op s h):=θ _
def aDP(ps acc rest s h d op):ZK call md ps acc rest s h (some d) true op (.v (.bool false))=dK call md ps (acc++[some ([],[])]) rest (upd s d .und) h:=θ _
def aDQ(ps acc rest s h d op):ZK call md ps acc rest s h (some d) false op (.v (.bool true))=dK call md ps (acc++[some ([],[])]) rest (upd s d .und) h:=θ _
def aBV(ps acc rest s h d w op):ZK call md ps acc rest s h (some d) w op .und=dK call md ps (acc++[some ([],[])]) rest (upd s d .und) h:=θ _
def aEM(d op h'):jl d (.p op) s h h'=some ([],[]):=θ _
def aBW(d k g x h'):jl d (.load k g x) s h h'=yI (ev s x):=θ _
def aBX(d f zas h'):jl d (.call f zas) s h h'=hF h d (sF (zas.map (ev s)) (ev s f)) h':=θ _
def azr(d z h'):jl d (.alloc z) s h h'=some ([],[du d]):=θ _
def aDR(d k x h'):jl d (.box k x) s h h'=if dat (ev s x)=true then some ([],[du d])else none:=θ _
def avK(cs):yI (.ipt cs)=some ([],[]):=θ _
def auL(id k i j):yI (.ref id none k i j)=some ([du id],[]):=θ _
def auM(id p k i j):yI (.ref id (some p) k i j)=some ([du id],[]):=θ _
def axX(y id sub k i j):EY y (.ref id sub k i j)=if dat y=true then some ([du id],[du id])else none:=θ _
def aDS(i):du i=if i<2000 then i else i-i%8:=θ _
def axY(l f a b):sF l (.fn f a b)=a++l++b:=θ _
theorem vK(h d l h'):hF h d l h'=if l.all dat=true then some ([],[2000+8*d])else if l.all CS=true then some ((bO h 40 (bD [] (l.flatMap cF)) 0).map du,(Ff h h' (bO h 40 (bD [] (l.flatMap cF)) 0)).map du++[2000+8*d])else none:=θ _
def avL(l i j):B8 l (i,j)=(match l[i]?,l[j]? with|some a,some b=>mj a b|_,_=>false):=θ _
def azs(a b):mj (some a) (some b)=(nV a.2 (b.1++b.2)&&nV b.2 a.1):=θ _
def azt(b):mj none (some b)=(b.1.isEmpty&&b.2.isEmpty):=θ _
def azu(a):mj (some a) none=(a.1.isEmpty&&a.2.isEmpty):=θ _
def azv(b):nV [] b=true:=θ _
def axZ(a l b):nV (a::l) b=(!b.contains a&&nV l b):=θ _
def avM(a:Nat):[].contains a=false:=θ _
def auN(a b)(l:List Nat):(b::l).contains a=(a==b||l.contains a):=by rw[List.contains_cons]
def azw(s d x h p l):eH false s (some d) (some (x,h,p::l))=some ⟨upd (ng (p::l) s) d x,h⟩:=θ _
def ax0(s x h p l):eH false s none (some (x,h,p::l))=some ⟨ng (p::l) s,h⟩:=θ _
def aBY(p l s)(i):ng (p::l) s i=yc (p::l) (s i):=θ _
def aEu(ks x):yc ks (.v x)=.v x:=θ _
def aBZ(ks):yc ks .any=.any:=θ _
def aB0(ks):yc ks .und=.und:=θ _
def aB1(ks):yc ks .emp=.emp:=θ _
def aDT(ks k r):yc ks (.sl k r)=.sl k r:=θ _
def aB2(ks cs):yc ks (.ipt cs)=.ipt cs:=θ _
def aB3(ks f):yc ks (.fn f [] [])=.fn f [] []:=θ _
def aB4(ks id sub k lo n):yc ks (.rsl id sub k lo n)=if lF ks id sub=true then .any else .rsl id sub k lo n:=θ _
def aB5(ks id sub k lo n):yc ks (.ref id sub k lo n)=if lF ks id sub=true then .any else .ref id sub k lo n:=θ _
def aB6(ks cs):yc ks (.agg cs)=if cs.any (vW ks)=true then .any else .agg cs:=θ _
def aDU(ks f a b):yc ks (.fn f a b)=if(a.any (vW ks)||b.any (vW ks))=true then .any else .fn f a b:=θ _
def aB7(ks vs):yc ks (.tup vs)=if vs.any (Jc ks)=true then .any else .tup vs:=θ _
def aDV(ks x):Jc ks (.v x)=false:=θ _
def aB8(ks k r):Jc ks (.sl k r)=false:=θ _
def aDW(ks x):vW ks (.v x)=false:=θ _
def azx(ks):vW ks .emp=false:=θ _
def aB9(ks k r):vW ks (.sl k r)=false:=θ _
def azy(ks id sub k i j):vW ks (.ref id sub k i j)=lF ks id sub:=θ _
def azz(id sub):lF [] id sub=false:=θ _
def azA(a)(b)(l:K)(id)(sub):lF ((a,b)::l) id sub=((a==id&& (!b||sub.isSome))||lF l id sub):=by simp[lF]
def ass:(none:Option α).isSome=false:=θ _
def ast(a:α):(some a).isSome=true:=θ _
def aDX(h d k b x y):Qh h d k b x y=(zS h k y).bind fun ys=>match x with
 | .emp=>if O ys*b<=140737488355328 then YR h d k ys else none
 | .rsl id none k' lo n=>YQ h d k b id k' lo n ys (h id)
 | .rsl id (some p) k' lo n=>alR h d k b id p k' lo n ys (h id)
 |_=>none:=θ _
def ax1(h k):zS h k .emp=some []:=θ _
def amj(h k r):zS h k (.sl k r)=some r:=by simp[zS]
def ax2(h k id sub lo n):zS h k (.rsl id sub k lo n)=kN k lo n (CO h id sub):=by simp[zS]
def auO(h id):CO h id none=Fe (h id):=θ _
def ax3(k r):Fe (.ar k r)=some (k,r):=θ _
def ax4(k r):Fe (.fz k r)=some (k,r):=θ _
def asu(k lo n r):kN k lo n (some (k,r))=if lo+n<=O r then some ((r.drop lo).take n)else none:=by simp[kN]
def aCa(h d k b id lo n ys r):YQ h d k b id k lo n ys (.ar k r)=if lo=0/\n=O r/\(id<1000\/2000<=id)/\(n+O ys)*b<=140737488355328 then
   some (.rsl id none k 0 (n+O ys),upd h id (.ar k (r++ys)),[(id,false)])else Qg h d k b id k lo n ys k r:=by simp[YQ]
def azB(h d k):YR h d k []=some (.emp,h,[]):=θ _
def ax5(h d k y ys):YR h d k (y::ys)=dH h d k (y::ys) (O ys+1) []:=θ _
attribute [go_sem] aCT aEf aEg aCU agJ aCV aAC aCW aCX aEh ask auX awB aus ar0 auY auZ aut asl au0 awC au1 awD awE aAD SA aCY aCZ aC0 aC1 aC2 aC3 aC4 aC5 aC6 aC7 aC8 aC9 aEi awF aAE auu ayt ayu awG aAF ayv awH ayw awI aDa awJ awK au2 au3 ayx asm awL awM au4 au5 au6 au7 auv aEE aEF ayy ayz aDb aDc aAG aEG aDd aAH aDe aEj aEH aEI aEk aEl aDf aDg aEm aAI aAJ aDh aDi aEn aEo aEp aDj aEq aAK aEr awN au8 ayA ayB aAL aAM aAN aAO Uv JI adC SB Ov JJ aAP aAQ aAR aAS aAT aAU aDk aDl aAV aDm aDn ayC ayD aAW awO ayE aAX ayF awP awQ aAY aDo aAZ aA0 aA1 ayG awR aA2 aA3 ayH awS au9 awT aA4 awU ayI awV awW ayJ ava auw ayK ayL ayM ayN ayO ayP avb awX aA5 awY ayQ awZ ayR axa avc aA6 axb ayS axc axd ayT aDp ayU aA7 ayV ayW ayX aA8 aEs aA9 aDq aBa aBb aBc ayY axe avd aDr asn ar1 axf ave aDs ayZ aBd aBe ay0 axg aBf aBg aBh axh axi aBi aBj aBk aBl aBm aBn axj ay1 axk axl axm axn axo axp ay2 ay3 avf axq avg aso avh avi avj axr aux avk auy auz auA avl avm auB auC auD axs avn axt avo avp avq axu avr ay4 axv axw axx avs axy avt auE auF auG auH asp avu avv aDt aDu aDv aDw aDx aDy aEJ aEK aBo aBp aDz aDA aBq aBr aBs aEL aEt aDB aBt aDC aDD aDE ay5 auI axz aDF axA aBu avw ay6 axB aDG axC avx aDH ay7 aBv ay8 ay9 aBw aBx axD aBy axE aza axF azb azc aBz aBA aBB aBC axG avy avz amf azd aDI aze aBD azf ZI axH axI aDJ azg aBE aDK aDL azh aBF azi azj aDM azk aBG azl avA avB aBH agK axJ axK avC auJ aBI axL azm azn axM axN axO avD axP aBJ amh axQ axR axS avE avF auK axT avG azo azp Ow aBK axU avH axV avI azq asq aBL aBM aBN aBO aBP aBQ aBR aBS aBT axW avJ apA aBU aDN aDO aDP aDQ aBV aEM aBW aBX azr aDR avK auL auM axX aDS axY vK avL azs azt azu azv axZ avM auN azw ax0 aBY aEu aBZ aB0 aB1 aDT aB2 aB3 aB4 aB5 aB6 aDU aB7 aDV aB8 aDW azx aB9 azy azz azA ass ast aDX ax1 amj ax2 auO ax3 ax4 asu aCa azB ax5
end
abbrev ac(i:Nat)(_:Unit:=()):AV:=.ref i none 0 0 0
abbrev ce:aM:=fun _=>.any
@[go_sem] theorem aEv:ce=fun _=>.any:=θ _
abbrev aG(x:Int):Int:=IntKind.i64.wrap x
theorem aX:(∀h:Decidable False,@decide False h=false)/\∀h:Decidable True,@decide True h=true:=⟨decide_false,decide_true⟩
theorem ap{c:Prop}{h:Decidable c}(e:c){α:Sort _}{t u:α}:@ite α c h t u=t:=if_pos e
theorem av{c:Prop}{h:Decidable c}(e:¬c){α:Sort _}{t u:α}:@ite α c h t u=u:=if_neg e
noncomputable section
def aoH:List (Nat×Nat)->Option Nat->AOp
 | (d,k)::l,x=>if x=some d then(match k with|0=>.callC (.c .any) []|1=>.take (.c .any)|_=>.slcM 0 (.c .any) none none)else aoH l x
 |[],_=>.bad
def avN(P:Program)(N:Nat)(ops:Array Oper)(h:AOp)(o:Oper):Option COp:=match o.op with
 | .build t ps=>(MG ops o.guard).bind fun g=>(oJ P t).bind fun z=>match P.underlying t with
  |some (.struct fs)=>(Hc P (Oj P fs) ps.toList).map fun q=>⟨o.dst,g,.p (.build z q)⟩
  |_=>KD P N ops h o
 | .binOp op t x y _=>match P.underlying t with
  |some (.struct _)=>(MG ops o.guard).bind fun g=>(di x).bind fun x=>(di y).bind fun y=>(CT P false 3 t).bind fun k=>(Jf op).map fun n=>⟨o.dst,g,.p (.eqc n (3+k) x y)⟩
  |_=>KD P N ops h o
 |_=>KD P N ops h o
def amk(P:Program)(N:Nat)(H:List (Nat×Nat))(ops:Array Oper):List Oper->Option (List COp)
 |[]=>some []
 |o::l=>(avN P N ops (aoH H o.dst) o).bind fun a=>(amk P N H ops l).bind fun q=>some (a::q)
def prs:List Nat->List (Nat×Nat)
 |a::b::l=>(a,b)::prs l
 |_=>[]
abbrev NLL:=List (List Nat)
def asv(P:Program)(N:Nat)(H:List (Nat×Nat))(ops:Array Oper):Bool->NLL->Option (Cmd×NLL)
 |dr,(7777777::is)::l=>(asv P N H ops dr l).map fun r=>(.frz is r.1,r.2)
 |true,ks::ps::l=>(amk P N H ops ops.toList).map fun q=>(.dops ks q (prs ps),l)
 |false,ks::l=>(amk P N H ops ops.toList).map fun q=>(.ops ks q,l)
 |_,_=>none
def nL:Code->Nat
 | .seq a b=>nL a+nL b
 | .cond _ a b=>nL a+nL b
 | .block _ a=>nL a
 | .loop a=>nL a+1
 | .scope a=>nL a
 |_=>0
abbrev GS:=NLL×List (Nat×Cmd)
noncomputable def gC (P:Program) (N:Nat) (H:List (Nat×Nat)) (L:List Cmd):Nat->Code->GS->Option (Cmd×GS)
 |_,.skip,s=>some (.skip,s)
 |_,.ret,s=>some (.ret,s)
 |_,.exit i,s=>some (.exit i,s)
 |_,.refuse _,s=>some (.ops [] [⟨none,none,.bad⟩],s)
 |_,.region _ ops dr,s=>(asv P N H ops dr s.1).map fun r=>(r.1,r.2,s.2)
 |n,.seq a b,s=>(gC P N H L (n+nL b) a s).bind fun r=>(gC P N H L n b r.2).map fun q=>(.seq r.1 q.1,q.2)
 |n,.cond x a b,s=>(di x).bind fun x=>(gC P N H L n a s).bind fun r=>(gC P N H L (n+nL a) b r.2).map fun q=>(.cond x r.1 q.1,q.2)
 |_,.label _,s=>some (.skip,s)
 |n,.scope a,s=>(gC P N H L n a s).map fun r=>(.frz [] r.1,r.2)
 |n,.block i a,(ks::l,bs)=>(gC P N H L n a (l,bs)).map fun r=>(.block i ks r.1,r.2)
 |n,.loop a,(ks::hs::l,bs)=>(gC P N H L n a (l,bs)).map fun r=>(.loop ks hs (L.getD (n+nL a) .skip),r.2.1,(n+nL a+1,r.1)::r.2.2)
 |_,_,_=>none
noncomputable def gK (P:Program) (H:List (Nat×Nat)) (f:Func) (l:NLL) (k:Nat) (L:List Cmd):Cmd:=
 ((f.body.bind fun c=>gC P f.ntmps H L 0 c (l,[])).bind fun r=>((0,r.1)::r.2.2).lookup k).getD .skip
section
variable (d k n a b f:Nat) (op:POp) (x y:Opd) (l:List Opd) (w:Bool) (o:BinOp) (z:List AV)
theorem azC:(⟨some d,none,.p op⟩:COp)=co d op:=rfl
theorem azD:co d (.mv (.t n))=cm d n:=rfl
theorem azE:co d (.bin o (.t a) (.t b))=b2 d o a b:=rfl
theorem azF:co d (.fadr k (.t a))=fa d k a:=rfl
theorem azG:co d (.nilck (.t a))=nk d a:=rfl
theorem azH:(⟨some d,some (n,w),.p op⟩:COp)=cg d n w op:=rfl
theorem azI:(⟨some d,none,.load k false (.t a)⟩:COp)=ld d k a:=rfl
theorem azJ:(⟨some d,none,.load k true (.t a)⟩:COp)=la d k a:=rfl
theorem azK:(⟨some d,none,.call (.c (.fn f [] [])) l⟩:COp)=ca d f l:=rfl
theorem azL:(⟨none,none,.store k x y⟩:COp)=sr k x y:=rfl
theorem azM:(⟨some d,none,.alloc z⟩:COp)=al d z:=rfl
theorem azN:(⟨some d,none,.box k x⟩:COp)=bx d k x:=rfl
end
noncomputable def aq {α:Type} (b:α) {a:α} (_:a=b:=by conv=>rhs;reduce;(try simp only[Int.reduceOfNat,Int.reduceNegSucc,azC,azD,azE,azF,azG,azH,azI,azJ,azK,azL,azM,azN])):α:=a
@[go_sem] theorem aEw(b:α){a:α}(h:a=b):@aq α b a h=a:=θ _
end
end Go.Ab
