/-
  A law of ranges holds at every input that the statement speaks of, under the conditions that its card names. Part B1.
-/
import Derived.Test.YtfdhicohflnjnaaGreatDoorA1
set_option linter.all false
namespace Go.Ab
open Go
section
variable {P:Program} {w w':World} {X:Nat→Prop} {ρ ρ':br} {h h':ac} {s:af} {a:Act} {call:ef} {md:Mode} {N:Nat} {ops:Array Oper} {Q:Exit→Act→World→Prop} {A A':Nat→Prop} {I:Inv}
theorem Ok.undef(ok:Ok I N w X ρ h s a){d:Option Nat}(hd:d.getD 0<N):Ok I N w X ρ h (dY s d .und) (a.put d undef):=
 ok.put (ks:=[]) ok.rel (.refl _ _ _) .und hd
theorem abc{u:Value}(hv:RV w A ρ h .und u):u=undef:=by
 cases hv with
 |und=>rfl
 |dat hd=>cases hd
theorem YL{nm:Bool}{d:Option Nat}{r:Option R3}{t:St}(hz:aqv nm s d r=some t):∃z h' ks,r=some (z,h',ks)/\mn nm ks=true/\t=⟨dY (gJ ks s) d z,h'⟩:=by
 unfold aqv at hz;grind
theorem Bx(hcall:ji P I call md)(hN:N<=1000){i:Nat}{o:Oper}{co:COp}{hint:AOp}(hget:ops[i]?=some o)(hc:Ew P N ops hint o=some co)(ok:Ok I N w X ρ h s a){t:St}(hz:iZ call md co s h=some t)
  {K':Act->World->Prop} (hK:∀a' w' ρ',Ok I N w' X ρ' t.h t.s a'->Far md.nm w ρ h w' ρ' t.h->K' a' w'):wpOp P ops Q i K' a w:=by
 simp only[Ew,Option.bind_eq_some_iff]at hc;obtain⟨g,e1,op,e2,hc⟩:=hc;split at hc
 ·rename_i hcond;cases hc;simp only[Bool.and_eq_true,decide_eq_true_eq]at hcond;have hd:=hcond.2;have run:aqv md.nm s o.dst (step call md (o.dst.getD 0) op s h)=some t->o.wp P a w K' Q:=by
   grind[YL,afn]
  have skip:some (⟨dY s o.dst .und,h⟩:St)=some t->K' (a.put o.dst undef) w:=by
   intro hf;cases hf;exact hK _ _ ρ (ok.undef hd) (.refl _ _ _ _)
  unfold wpOp;rw[hget];cases hg:o.guard with
  |none=>
   rw[hg]at e1;simp only[Hm,Option.some.injEq]at e1;subst e1
   simp_all[iZ,Region.wanted,if_true]
  |some jb=>
   rw[hg]at e1;simp only[Hm,Option.map_eq_some_iff]at e1;obtain⟨d,e3,rfl⟩:=e1;simp only[iZ,aqQ]at hz;have hv:=ok.rs d;simp only[Region.wanted,hg,yielded,e3,Option.bind_some];have cell:∀v,a.tmps.getD d Go.undef=v->v≠Go.undef->a.tmps[d]?=some v:=by
    intro v hv hne;rw[Array.getD_eq_getD_getElem?]at hv;grind
   split at hz
   ·rename_i b' hb';rw[hb']at hv;rw[cell _ hv.v_inv.1 (by simp[Go.undef])];grind
   ·rename_i hb';rw[hb']at hv;have hu:=abc hv;rw[Array.getD_eq_getD_getElem?]at hu;grind[Go.undef]
   grind
 grind
theorem Lc(hcall:ji P I call md)(hN:N<=1000):∀ (rest:List Oper) (cl:List COp) (i:Nat) {hs:List COp} {w:World} {ρ:br} {h:ac} {s:af} {a:Act} {t:St},(∀ (j:Nat) (o:Oper),rest[j]?=some o->ops[i+j]?=some o)->mX P N ops hs rest=some cl->Ok I N w X ρ h s a->
  aC call md cl s h=some t->(∀a' w' ρ',Ok I N w' X ρ' t.h t.s a'->Far md.nm w ρ h w' ρ' t.h->Q .normal a' w')->wpOps P ops Q (List.range' i rest.length) a w
 |[],cl,i,hs,w,ρ,h,s,a,t,_,hc,ok,hz,hQ=>by
  simp only[mX,Option.some.injEq]at hc;subst hc;cases hz;exact hQ _ _ ρ ok (.refl _ _ _ _)
 |o::rest,cl,i,hs,w,ρ,h,s,a,t,hg,hc,ok,hz,hQ=>by
  simp only[mX,Option.bind_eq_some_iff]at hc;obtain⟨co,e1,q,e2,e3⟩:=hc;cases e3;simp only[aC,aT]at hz;split at hz
  ·grind
  ·rename_i t1 ht1;exact Bx hcall hN (by simpa using hg 0 o rfl) e1 ok ht1 fun a' w' ρ' ok' far=>
    Lc hcall hN rest q (i+1) (fun j o' hj=>by rw[show i+1+j=i+(j+1)from by omega];simp_all) e2 ok' hz fun a'' w'' ρ'' ok'' far'=>hQ _ _ ρ'' ok'' (far.trans far')
theorem EC{α:Type}(d:α)(f:Nat->α):∀ (l:List Nat) (i:Nat),mk d f l i=if i∈l then f i else d
 |[],i=>by simp[mk]
 |j::l,i=>by
  simp only[mk,upd,EC d f l i,List.mem_cons];by_cases e:i=j
  ·subst e;simp
  ·simp[e]
theorem RS.some(hs:RS w A ρ h s a.tmps){s':af}(he:∀i,s' i=s i\/s' i=.any):RS w A ρ h s' a.tmps:=fun i=>by
 rcases he i with e|e
 ·rw[e];exact hs i
 ·rw[e];exact .anyv _
theorem Ok.some(ok:Ok I N w X ρ h s a){s':af}(he:∀i,s' i=s i\/s' i=.any):Ok I N w X ρ h s' a:=⟨ok.rel,ok.rs.some he,ok.size,ok.defers,ok.inv⟩
theorem RV.knownL{l:List Nat}{c:AV}{u:Value}(hv:RV w A ρ h c u)(hA:∀b,A b->A' b/\w'.heap[b]?=w.heap[b]?)(hk:∀id sub,bC h id sub->l.contains id=true->bC h' id sub/\ρ' id sub=ρ id sub)(hm:knownL l c=true):RV w' A' ρ' h' c u:=by
 cases hv with
 |anyv u=>exact .anyv u
 |und=>exact .und
 |dat hd=>exact .dat (hd.mono hA)
 |ref id sub k i j hp=>
  obtain⟨h1,h2⟩:=hk id sub hp hm;rw[←h2];exact .ref id sub k i j h1
 |rsl id sub k lo n cap a hp hn hb ha=>
  obtain⟨h1,h2⟩:=hk id sub hp hm;exact .rsl id sub k lo n cap a h1 hn (by grind) (by grind)
 |rsc id k lo n cap a hp hn hb ha=>grind[Ab.knownL]
 |ipt cs ad vals hA' hs hv hl hr=>
  exact .ipt cs ad vals (hA _ hA').1 hs (fun j c hc=>by rw[ko (w:=w) (w':=w') (by rw[lY];grind)];grind) hl (fun j c hc=>(hr j c hc).mono hA)
 |agg cs us hs h1 hr=>grind[Ab.knownL]
 |tup vs us hs hr=>grind[Ab.knownL]
 |fn f x y us ts hs ht hx hy=>
  simp[Ab.knownL]at hm;obtain⟨rfl,rfl⟩:=hm;exact .fn f [] [] us ts hs ht (fun i c u hc=>by grind) (fun i c u hc=>by grind)
theorem RV.knownA{l:List Nat}{c:AV}{u:Value}(hv:RV w A ρ h c u)(hA:∀b,A b->A' b/\w'.heap[b]?=w.heap[b]?)(hk:∀id sub,bC h id sub->l.contains id=true->bC h' id sub/\ρ' id sub=ρ id sub)(hm:knownA l c=true):RV w' A' ρ' h' c u:=by
 cases c with
 |agg cs=>
  simp only[Ab.knownA,List.all_eq_true]at hm;cases hv with
  |dat hd=>exact .dat (hd.mono hA)
  |agg _ us hs h1 hr=>exact .agg cs us hs h1 fun i c u hc hu=>(hr i c u hc hu).knownL hA hk (hm c (List.mem_of_getElem? hc))
 |fn f x y=>
  simp only[Ab.knownA,Bool.and_eq_true,List.all_eq_true]at hm;cases hv with
  |dat hd=>exact .dat (hd.mono hA)
  |fn _ _ _ us ts hs ht hx hy=>exact .fn f x y us ts hs ht (fun i c u hc hu=>(hx i c u hc hu).knownL hA hk (hm.1 c (List.mem_of_getElem? hc))) (fun i c u hc hu=>(hy i c u hc hu).knownL hA hk (hm.2 c (List.mem_of_getElem? hc)))
 |_=>exact hv.knownL hA hk hm
theorem wh{l:List Nat}{c:AV}(hc:bm l c=true):knownL l c=true:=by
 cases c<;>simp[bm,knownL]at hc⊢ <;>first|exact hc.1|exact hc
theorem L5{l:List Nat}{c:AV}(hc:aZ l c=true):knownA l c=true:=by
 cases c with
 |agg cs=>
  grind[aZ,knownA,List.all_eq_true,wh]
 |fn f x y=>
  simp_all[aZ,knownA,Bool.and_eq_true,List.all_eq_true,wh]
 |_=>
  simp only[aZ,knownA]at hc⊢;exact wh hc
theorem NB(nm:Bool)(r:Rel w X ρ h){hs:List Nat}(hcl:∀id,id∈hs->aO hs (h id)=true):Rel w X ρ (mk .dead h hs)/\Far nm w ρ h w ρ (mk .dead h hs)/\
  ∀ {c:AV} {u:Value},RV w (aF w X h ρ) ρ h c u->knownA hs c=true->RV w (aF w X (mk .dead h hs) ρ) ρ (mk .dead h hs) c u:=by
 have at_:∀id,id∈hs->mk .dead h hs id=h id:=fun id hi=>by rw[EC,if_pos hi]
 have not_:∀id,id∉hs->mk .dead h hs id=.dead:=fun id hi=>by rw[EC,if_neg hi]
 have hl:∀id sub,live (mk .dead h hs) id sub->id∈hs/\live h id sub:=by
  intro id sub h1;by_cases hi:id∈hs
  ·grind[cx]
  ·have:=not_ id hi;cases sub<;>simp[live,this]at h1
 have hA:∀b,aF w X h ρ b->aF w X (mk .dead h hs) ρ b/\w.heap[b]?=w.heap[b]?:=fun b hb=>⟨⟨hb.1,hb.2.1,fun⟨id,sub,h1,h2⟩=>hb.2.2 ⟨id,sub,(hl id sub h1).2,h2⟩⟩,rfl⟩;have hk:∀id sub,bC h id sub->hs.contains id=true->bC (mk .dead h hs) id sub/\ρ id sub=ρ id sub:=fun id sub hp hi=>⟨(dV (at_ id (by grind))).2 hp,rfl⟩;have far:Far nm w ρ h w ρ (mk .dead h hs):=by
  refine⟨rfl,rfl,rfl,Nat.le_refl _,fun _ _ _=>rfl,fun b ⟨id,sub,h1,h2⟩=>.inl ⟨id,sub,(hl id sub h1).2,h2⟩,fun id _ hd=>⟨fun e=>?_,rfl⟩,fun _ id p _ hd hp=>⟨?_,rfl⟩⟩
  all_goals grind
 refine⟨⟨fun a b c d h1 h2=>r.inj a b c d (hl a b h1).2 (hl c d h2).2,fun a b h1=>r.nx a b (hl a b h1).2,fun id=>?_,r.xl⟩,far,fun hv hc=>hv.knownA hA hk hc⟩;by_cases hi:id∈hs
 ·have ho:=r.ob id;have hc:=hcl id hi;rw[at_ id hi];cases e:h id with
  |dead=>trivial
  |bx cs=>
   rw[e]at ho hc;obtain⟨us,t,h1,h2,h3,h4⟩:=ho;refine⟨us,t,h1,h2,h3,fun p c hcp=>?_⟩;obtain⟨u,h5,h6⟩:=h4 p c hcp;refine⟨u,h5,?_⟩;simp only[aO,List.all_eq_true]at hc;have hcc:=hc c (List.mem_of_getElem? hcp);cases hO:aW c with
   |true=>
    cases c<;>simp[aW]at hO;obtain⟨a,cap,us',t',g1,g2,g3,g4,g5,g6,g7⟩:=h6;exact⟨a,cap,us',t',g1,g2,g3,g4,g5,g6,g7.mono hA⟩
   |false=>
    rw[oQ hO]at h6⊢;have hca:aZ hs c=true:=by grind[gy]
    refine⟨h6.1.knownA hA hk (L5 hca),h6.2.1,?_⟩;have h7:=h6.2.2;cases c<;>try exact h7
    simp_all[aZ,bm,ju]
  |ar k rows=>
   rw[e]at ho;obtain⟨us,t,h1,h2,h3,h4⟩:=ho;exact⟨us,t,h1,h2,h3,h4.mono hA⟩
  |fz k rows=>
   rw[e]at ho;obtain⟨h0,us,t,fr,h1,h2,h3,h4⟩:=ho;exact⟨(hA _ h0).1,us,t,fr,h1,h2,h3,h4.mono hA⟩
 ·rw[not_ id hi];trivial
end
def exo:Ex->Exit
 | .normal=>.normal
 | .exit id=>.exit id
 | .ret=>.ret
def Ld(P:Program)(I:Inv)(call:ef)(md:Mode)(N:Nat):Prop:=
 ∀ {id:Nat} {ops:Array Oper} {hs cl:List COp} {w:World} {X:Nat->Prop} {ρ:br} {h:ac} {s:af} {a:Act} {t:St} {ps:List (Nat×Nat)} {Q:Exit->Act->World->Prop},mX P N ops hs ops.toList=some cl->Nv ops.toList cl ps=true->Ok I N w X ρ h s a->mq call md cl ps s h=some t->
  (∀a' w' ρ',Ok I N w' X ρ' t.h t.s a'->Far md.nm w ρ h w' ρ' t.h->Q .normal a' w')->(Code.region id ops true).wp P Q a w
section
variable {P:Program} {X:Nat→Prop} {call:ef} {md:Mode} {N:Nat} {I:Inv} {nm:Bool}
theorem C0(s:af)(ks:List Nat)(i:Nat):mk .any s ks i=s i\/mk .any s ks i=.any:=by
 grind[EC]
theorem T6(hs:List Nat)(a:AV):(eN hs a=a/\knownA hs a=true)\/eN hs a=.any:=by
 grind[eN]
theorem Wc{w:World}{ρ:br}{h:ac}{s:af}{a:Act}(ok:Ok I N w X ρ h s a){ks hs:List Nat}(hcl:(hs.all fun a=>aO hs (h a))=true):
  Ok I N w X ρ (mk .dead h hs) (mk .any (fun i=>eN hs (s i)) ks) a/\Far nm w ρ h w ρ (mk .dead h hs):=by
 obtain⟨h1,h2,h3⟩:=NB nm ok.rel (hs:=hs) (fun id hi=>List.all_eq_true.1 hcl id hi);refine⟨⟨h1,fun i=>?_,ok.size,ok.defers,ok.inv⟩,h2⟩;rcases C0 (fun i=>eN hs (s i)) ks i with e|e
 ·rw[e];rcases T6 hs (s i)with⟨e2,e3⟩|e2
  ·rw[e2];exact h3 (ok.rs i) e3
  ·rw[e2];exact .anyv _
 ·rw[e];exact .anyv _
def Le(P:Program)(I:Inv)(nm:Bool)(X:Nat->Prop)(N:Nat)(f:af->ac->Option (Ex×St))(c:Code):Prop:=
 ∀ {s:af} {h:ac} {e:Ex} {t:St} {w:World} {ρ:br} {a:Act} {Q:Exit->Act->World->Prop},f s h=some (e,t)->Ok I N w X ρ h s a->(∀a' w' ρ',Ok I N w' X ρ' t.h t.s a'->Far nm w ρ h w' ρ' t.h->Q (exo e) a' w')->c.wp P Q a w
theorem Hu{body:af->ac->Option (Ex×St)}{c:Code}(hb:Le P I nm X N body c){ks hs:List Nat}:∀ (n:Nat) {s:af} {h:ac} {e:Ex} {t:St} {w:World} {ρ:br} {a:Act} {Q:Exit->Act->World->Prop},
  nR body ks hs n s h=some (e,t)->Ok I N w X ρ h s a->(∀a' w' ρ',Ok I N w' X ρ' t.h t.s a'->Far nm w ρ h w' ρ' t.h->Q (exo e) a' w')->Code.rounds P c Q n a w
 |0,s,h,e,t,w,ρ,a,Q,hz,_,_=>by grind[nR]
 |n+1,s,h,e,t,w,ρ,a,Q,hz,ok,hQ=>by
  simp only[nR]at hz;split at hz
  ·rename_i hcl;obtain⟨ok1,far1⟩:=Wc ok (ks:=ks) hcl;split at hz
   ·rename_i t1 ht1;exact hb ht1 ok1 fun a' w' ρ' ok2 far2=>Hu hb n hz ok2 fun a'' w'' ρ'' ok3 far3=>hQ _ _ ρ'' ok3 (far1.trans (far2.trans far3))
   ·rename_i r hne;refine hb hz ok1 fun a' w' ρ' ok2 far2=>?_;have:=hQ a' w' ρ' ok2 (far1.trans far2);cases e with
    |normal=>exact absurd hz (hne t)
    |exit id=>exact this
    |ret=>exact this
  ·cases hz
theorem T7{i:Nat}{w:World}{ρ:br}{h:ac}{s:af}{a:Act}{r:af×ac×K}(ok:Ok I N w X ρ h s a)(hz:CO i s h (s i)=some r)(hnm:mn nm r.2.2=true):
  Ok I N w X ρ r.2.1 r.1 a/\Far nm w ρ h w ρ r.2.1:=by
 have hv:=ok.rs i;cases hi:s i<;>rw[hi]at hz hv<;>simp only[CO]at hz<;>try (cases hz;done)
 case sl=>cases hz;exact⟨ok,.refl _ _ _ _⟩
 case rsl id sub k lo n=>
  simp only[Option.map_eq_some_iff]at hz;obtain⟨q,e1,rfl⟩:=hz;obtain⟨x,h',ks⟩:=q;have h1:(a.tmps.getD i undef).oneCell'=true:=by
   obtain⟨_,_,e,_⟩:=hv.rsl_inv;rw[e];rfl
  obtain⟨g1,g2,g3,g4⟩:=wP ok.rel hv (fun b hb=>hb) h1 e1;refine⟨⟨g1,fun j=>?_,ok.size,ok.defers,g2.inv ok.rel ok.inv⟩,g2.far hnm⟩;show RV w (aF w X h' ρ) ρ h' (upd (gJ ks s) i x j) _;rw[ed];split
  ·rename_i hj;subst hj;exact .dat g3
  ·exact g2.rs ok.rs j
 case ref id sub k j l=>
  cases sub with
  |some p=>grind
  |none=>
   simp only at hz;cases ho:h id<;>rw[ho]at hz<;>simp only at hz<;>try (cases hz;done)
   cases hz;rename_i cs;obtain⟨g1,g2⟩:=CV (ds:=cs.map iJ) ok.rel ho (by simp) fun p c hc=>by
    grind[aW,RY]
   exact⟨⟨g1,g2.rs ok.rs,ok.size,ok.defers,g2.inv ok.rel ok.inv⟩,g2.far hnm⟩
theorem Q6{w:World}{ρ:br}{h:ac}{s:af}{a:Act}(ok:Ok I N w X ρ h s a)(x:AV):Ok I N w X ρ (Es h x) s a/\Far nm w ρ h w ρ (Es h x):=by
 have id':Ok I N w X ρ h s a/\Far nm w ρ h w ρ h:=⟨ok,.refl _ _ _ _⟩;unfold Es;split
 ·rename_i id k' lo n;split
  ·rename_i k rows e;obtain⟨s1,s2⟩:=V5 (m:=lo+n) ok.rel e;exact⟨⟨s1,s2.rs ok.rs,ok.size,ok.defers,s2.inv ok.rel ok.inv⟩,s2.far (kR _)⟩
  omega
 omega
theorem Fx{g:Nat}{w:World}{ρ:br}{h:ac}{s:af}{a:Act}{t:St}(ok:Ok I N w X ρ h s a)(hz:nZ nm g s h=some t):∃ρ',Ok I N w X ρ' t.h t.s a/\Far nm w ρ h w ρ' t.h:=by
 cases g with
 |zero=>
  cases hz;exact⟨ρ,ok,.refl _ _ _ _⟩
 |succ i=>
  simp only[nZ,Option.bind_eq_some_iff]at hz;obtain⟨r,e1,e2⟩:=hz;split at e2
  ·rename_i hnm;cases e2;have hv:=ok.rs i;cases hi:s i<;>rw[hi]at e1 hv<;>simp only[K4]at e1<;>try (cases e1;done)
   ·cases e1;exact⟨ρ,ok,.refl _ _ _ _⟩
   ·rename_i id sub k lo n;cases sub with
    |none=>grind
    |some p=>
    simp only at e1;split at e1
    ·rename_i hps;cases eo:h id<;>rw[eo]at e1<;>simp only[RW]at e1<;>try (cases e1;done)
     rename_i cs;cases ec:cs[p]? with
     |none=>grind[Hk]
     |some c=>
      rw[ec]at e1;cases c<;>simp only[Hk]at e1<;>try (cases e1;done)
      split at e1
      ·rename_i hc;obtain⟨rfl,rfl,rfl,hd⟩:=hc;have hd':h i=.dead:=by cases hh:h i<;>rw[hh]at hd<;>first|rfl|cases hd
       cases e1;obtain⟨m1,m2⟩:=TV ok.rel eo ec hps hd';obtain⟨ad,cap,e4,q2,q3,q4,q5⟩:=hv.rsl_inv;refine⟨_,⟨m1,fun j=>?_,ok.size,ok.defers,m2.inv ok.rel ok.inv⟩,m2.far hnm⟩;show RV w _ _ _ (upd (gJ [(id,true)] s) i _ j) _;rw[ed];split
       ·rename_i hj;subst hj;rw[e4];refine .rsl _ none _ 0 _ cap ad (by simp[bC,aq]) q3 (by grind[bp]) ?_;grind[bp]
       ·exact m2.rs ok.rs j
      grind
    grind
  grind
theorem T8{i:Nat}{w:World}{ρ:br}{h:ac}{s:af}{a:Act}{r:af×ac×K}(ok:Ok I N w X ρ h s a)(hz:Jo i s h (s i)=some r)(hnm:mn nm r.2.2=true):
  ∃ρ',Ok I N w X ρ' r.2.1 r.1 a/\Far nm w ρ h w ρ' r.2.1:=by
 have hv:=ok.rs i;have key:∀ {id k lo n:Nat},(∃ad cap,a.tmps.getD i undef=.slice ad n cap/\n<=cap/\(lo+cap)*k=(ρ id none).2/\(cap=0\/ad=some ⟨(ρ id none).1,lo*k,none⟩))->CP i s h id k lo n (h id)=some r->
   ∃ρ',Ok I N w X ρ' r.2.1 r.1 a/\Far nm w ρ h w ρ' r.2.1:=by
  intro id k lo n ⟨ad,cap,e4,q3,q4,q5⟩ e1;cases eo:h id<;>rw[eo]at e1<;>simp only[CP]at e1<;>try (cases e1;done)
  split at e1
  ·rename_i hc;obtain⟨rfl,rfl,hps,hd⟩:=hc;have hd':h i=.dead:=by cases hh:h i<;>rw[hh]at hd<;>first|rfl|cases hd
   cases e1;obtain⟨m1,m2⟩:=adc ok.rel eo hps hd';refine⟨_,⟨m1,fun j=>?_,ok.size,ok.defers,m2.inv ok.rel ok.inv⟩,m2.far hnm⟩;show RV w _ _ _ (upd (gJ [(id,false)] s) i _ j) _;rw[ed];split
   ·rename_i hj;subst hj;rw[e4];refine .rsl _ none _ 0 _ cap ad (by simp[bC,aq]) q3 (by grind[bp]) ?_;grind[bp]
   ·exact m2.rs ok.rs j
  grind
 cases hi:s i<;>rw[hi]at hz hv<;>simp only[Jo]at hz<;>try (cases hz;done)
 ·cases hz;exact⟨ρ,ok,.refl _ _ _ _⟩
 ·rename_i id sub k lo n;cases sub with
  |some p=>grind
  |none=>
  obtain⟨ad,cap,e4,q2,q3,q4,q5⟩:=hv.rsl_inv;exact key ⟨ad,cap,e4,q3,q4,q5⟩ hz
 ·rename_i id k lo n c;obtain⟨ad,e4,q2,q3,q4,q5⟩:=hv.rsc_inv;exact key ⟨ad,c,e4,q3,q4,q5⟩ hz
theorem wR:∀ (is:List Nat) {w:World} {ρ:br} {h:ac} {s:af} {a:Act} {t:St},Ok I N w X ρ h s a->ud nm is s h=some t->∃ρ',Ok I N w X ρ' t.h t.s a/\Far nm w ρ h w ρ' t.h
 |[],w,ρ,h,s,a,t,ok,hz=>by cases hz;exact⟨ρ,ok,.refl _ _ _ _⟩
 |i::l,w,ρ,h,s,a,t,ok,hz=>by
  unfold ud at hz;split at hz
  ·simp only[Option.bind_eq_some_iff]at hz;obtain⟨r,e1,e2⟩:=hz;split at e2
   ·rename_i hn;obtain⟨ρ1,g1,g2⟩:=T8 ok e1 hn;obtain⟨ρ2,f1,f2⟩:=wR l g1 e2;exact⟨ρ2,f1,g2.trans f2⟩
   grind
  ·split at hz
   ·obtain⟨g1,g2⟩:=Q6 (nm:=nm) ok (s (i-100000));obtain⟨ρ2,f1,f2⟩:=wR l g1 hz;exact⟨ρ2,f1,g2.trans f2⟩
   ·simp only[Option.bind_eq_some_iff]at hz;obtain⟨r,e1,e2⟩:=hz;split at e2
    ·rename_i hn;obtain⟨g1,g2⟩:=T7 ok e1 hn;obtain⟨ρ2,f1,f2⟩:=wR l g1 e2;exact⟨ρ2,f1,g2.trans f2⟩
    grind
theorem T9(hcall:ji P I call md)(hN:N<=1000)(hD:Ld P I call md N)(lf:Nat):∀ (cmd:Cmd) (c:Code),fX P N c cmd=some cmd->Le P I md.nm X N (bF call md lf cmd) c:=by
 intro cmd;induction cmd with
 |skip=>
  intro c hc s h e t w ρ a Q hz ok hQ;cases c<;> (try simp only[fX]at hc)<;> (try (cases hc;done))
  ·obtain⟨rfl,rfl⟩:=hz;exact wp_skip (hQ _ _ ρ ok (.refl _ _ _ _))
  all_goals (exfalso;revert hc;simp[Option.bind_eq_some_iff])
 |ops ks l=>
  intro c hc s h e t w ρ a Q hz ok hQ;by_cases hrf:∃m,c=.refuse m
  ·have hl:l=[⟨none,none,.bad⟩]:=by
    unfold fX at hc;grind
   simp_all[bF,aC,iZ,aqv,step,aT]
  cases c<;> (try (exact absurd ⟨_,rfl⟩ hrf))<;> (try simp only[fX]at hc)<;> (try (cases hc;done));rename_i id ops dr;cases dr<;> (try simp only[fX]at hc)<;> (try (cases hc;done));simp only[Option.map_eq_some_iff]at hc;obtain⟨l',h1,h2⟩:=hc;cases h2;simp only[bF,aT]at hz;split at hz
  ·grind
  ·rename_i t1 ht1;obtain⟨rfl,rfl⟩:=hz;refine wp_region ?_;rw[List.range_eq_range',show ops.size=ops.toList.length from Array.length_toList.symm];exact Lc hcall hN ops.toList l 0 (fun j o hj=>by grind) h1 ok ht1 fun a' w' ρ' ok' far=>hQ _ _ ρ' (ok'.some (C0 _ _)) far
 |dops ks l ps=>
  intro c hc s h e t w ρ a Q hz ok hQ;cases c<;> (try simp only[fX]at hc)<;> (try (cases hc;done));rename_i id ops dr;cases dr<;> (try simp only[fX]at hc)<;> (try (cases hc;done));simp only[Option.bind_eq_some_iff]at hc;obtain⟨l',h1,h2⟩:=hc;split at h2
  ·rename_i hps;cases h2;simp only[bF,aT]at hz;split at hz
   ·grind
   ·rename_i t1 ht1;obtain⟨rfl,rfl⟩:=hz;exact hD h1 hps ok ht1 fun a' w' ρ' ok' far=>hQ _ _ ρ' (ok'.some (C0 _ _)) far
  grind
 |seq x y ihx ihy=>
  intro c hc s h e t w ρ a Q hz ok hQ;cases c<;> (try simp only[fX]at hc)<;> (try (cases hc;done));simp only[Option.bind_eq_some_iff,Option.map_eq_some_iff]at hc;obtain⟨c1,h1,c2,h2,h3⟩:=hc;cases h3;simp only[bF,bL]at hz;refine wp_seq ?_;split at hz
  ·grind
  ·rename_i t1 ht1;exact ihx _ h1 ht1 ok fun a' w' ρ' ok1 far1=>ihy _ h2 hz ok1 fun a'' w'' ρ'' ok2 far2=>hQ _ _ ρ'' ok2 (far1.trans far2)
  ·rename_i i t1 ht1;cases hz;exact ihx _ h1 ht1 ok fun a' w' ρ' ok1 far1=>hQ a' w' ρ' ok1 far1
  ·rename_i t1 ht1;cases hz;exact ihx _ h1 ht1 ok fun a' w' ρ' ok1 far1=>hQ a' w' ρ' ok1 far1
 |cond b x y ihx ihy=>
  intro c hc s h e t w ρ a Q hz ok hQ;cases c<;> (try simp only[fX]at hc)<;> (try (cases hc;done));simp only[Option.bind_eq_some_iff,Option.map_eq_some_iff]at hc;obtain⟨b',h0,c1,h1,c2,h2,h3⟩:=hc;cases h3;simp only[bF]at hz;have hv:=aN h0 ok.rs;unfold mr at hz;split at hz
  ·rename_i tt htt;rw[htt]at hv;refine wp_cond hv.v_inv.1 ?_;cases tt with
   |true=>exact ihx _ h1 hz ok hQ
   |false=>exact ihy _ h2 hz ok hQ
  grind
 |block id ks x ih=>
  intro c hc s h e t w ρ a Q hz ok hQ;cases c<;> (try simp only[fX]at hc)<;> (try (cases hc;done));simp only[Option.map_eq_some_iff]at hc;obtain⟨c1,h1,h3⟩:=hc;cases h3;simp only[bF]at hz;refine wp_block ?_;unfold am at hz;split at hz
  ·grind
  ·rename_i t1 ht1;cases hz;exact ih _ h1 ht1 ok fun a' w' ρ' ok1 far1=>hQ a' w' ρ' (ok1.some (C0 _ _)) far1
  ·rename_i i t1 ht1;refine ih _ h1 ht1 ok fun a' w' ρ' ok1 far1=>?_;split at hz
   ·rename_i hi;cases hz;have:=hQ a' w' ρ' (ok1.some (C0 _ _)) far1;grind[exo,Exit.inBlock]
   grind[exo,Exit.inBlock]
  ·rename_i t1 ht1;cases hz;exact ih _ h1 ht1 ok fun a' w' ρ' ok1 far1=>hQ a' w' ρ' ok1 far1
 |loop ks hs x ih=>
  intro c hc s h e t w ρ a Q hz ok hQ;cases c<;> (try simp only[fX]at hc)<;> (try (cases hc;done));simp only[Option.map_eq_some_iff]at hc;obtain⟨c1,h1,h3⟩:=hc;cases h3;exact wp_loop_rounds lf (Hu (ih _ h1) lf hz ok hQ)
 |exit id=>
  intro c hc s h e t w ρ a Q hz ok hQ;cases c<;> (try simp only[fX]at hc)<;> (try (cases hc;done));cases hc;obtain⟨rfl,rfl⟩:=hz;exact wp_exit (hQ _ _ ρ ok (.refl _ _ _ _))
 |ret=>
  intro c hc s h e t w ρ a Q hz ok hQ;cases c<;> (try simp only[fX]at hc)<;> (try (cases hc;done));obtain⟨rfl,rfl⟩:=hz;exact wp_ret (hQ _ _ ρ ok (.refl _ _ _ _))
 |frz is x ih=>
  intro c hc s h e t w ρ a Q hz ok hQ;have hc':(fX P N c x).map (Cmd.frz is)=some (.frz is x):=by
   grind[fX]
  simp only[Option.map_eq_some_iff]at hc';obtain⟨c1,h1,h3⟩:=hc';cases h3;simp only[bF,aT]at hz;split at hz
  ·grind
  ·rename_i t1 ht1;obtain⟨ρ1,ok1,far1⟩:=wR is ok ht1;exact ih _ h1 hz ok1 fun a' w' ρ' ok2 far2=>hQ a' w' ρ' ok2 (far1.trans far2)
end
def re(P:Program)(I:Inv)(kp:Bool)(f:FuncId)(g:List AV->List Ob->Option (AV×List Ob)):Prop:=
 ∀ {args:List AV} {obs obs':List Ob} {res:AV} {w:World} {X:Nat->Prop} {ρ:br} {vals:Array Value} {n:Nat},g args obs=some (res,obs')->2000<=n->I.p w X->Rel w X ρ (ao obs)->vals.size=args.length->
  (∀ (i:Nat) (c:AV) (u:Value),args[i]?=some c->vals[i]?=some u->RV w (aF w X (ao obs) ρ) ρ (ao obs) c u)->
  Enters P f vals w fun v w'=>∃ρ',Rel w' X ρ' (mat n (ao obs') res).2/\Far kp w ρ (ao obs) w' ρ' (mat n (ao obs') res).2/\RV w' (aF w' X (mat n (ao obs') res).2 ρ') ρ' (mat n (ao obs') res).2 (mat n (ao obs') res).1 v
def vI(tmps:Array Value):ResultVar->Sem Value
 | .tmp t=>pure (tmps.getD t Go.undef)
 | .cell c t=>do loadVar t (←asAddr (tmps.getD c Go.undef))
section
variable {P:Program} {w w':World} {X:Nat→Prop} {ρ ρ':br} {h h':ac} {s:af} {a:Act} {call:ef} {md:Mode} {N:Nat}
theorem Fy:∀ (rs:List ResultVar) (l:List Rv) {h h':ac} {s:af} {vs:List AV} {ks:K},Bp P rs=some l->Rel w X ρ h->RS w (aF w X h ρ) ρ h s a.tmps->ve s h l=some (vs,h',ks)->
  ∃us:List Value,(rs.mapM (vI a.tmps)).run P w=.ok us w/\us.length=vs.length/\Rel w X ρ h'/\Evo w ρ h w ρ h' ks/\
   ∀ (i:Nat) (c:AV) (u:Value),vs[i]?=some c->us[i]?=some u->RV w (aF w X h' ρ) ρ h' c u
 |[],l,h,h',s,vs,ks,hc,r,hs,hz=>by
  simp only[Bp,Option.some.injEq]at hc;subst hc;obtain⟨rfl,rfl,rfl⟩:=hz;exact⟨[],rfl,rfl,r,.refl _ _ _,fun i c u hc=>by grind⟩
 |x::rs,l,h,h',s,vs,ks,hc,r,hs,hz=>by
  have step1:∃rv l',l=rv::l'/\Bp P rs=some l'/\∀ {z:AV} {h1:ac} {k1:K},ac4 s h rv=some (z,h1,k1)->∃v,(vI a.tmps x).run P w=.ok v w/\
    Rel w X ρ h1/\Evo w ρ h w ρ h1 k1/\RV w (aF w X h1 ρ) ρ h1 z v:=by
   cases x with
   |tmp t=>
    simp only[Bp,Option.map_eq_some_iff]at hc;obtain⟨l',h1,rfl⟩:=hc;refine⟨_,l',rfl,h1,fun{z h1 k1} e=>?_⟩;obtain⟨rfl,rfl,rfl⟩:=e;exact⟨_,rfl,r,.refl _ _ _,hs t⟩
   |cell c t=>
    simp only[Bp,Option.bind_eq_some_iff]at hc;obtain⟨g,g1,k,g2,hc⟩:=hc;split at hc
    ·simp only[Option.map_eq_some_iff]at hc;obtain⟨l',h1,rfl⟩:=hc;refine⟨_,l',rfl,h1,fun{z h1 k1} e=>?_⟩;obtain⟨ad,v,q1,q2,q3,q4,q5⟩:=Ft (P:=P) r g1 g2 (hs c) e;refine⟨v,?_,q3,q4,q5⟩;simp only[vI];rw[q1];exact q2
    grind
  obtain⟨rv,l',rfl,hc',key⟩:=step1;simp only[ve,Option.bind_eq_some_iff]at hz;obtain⟨⟨z,h1,k1⟩,e1,⟨vs',h2,k2⟩,e2,e3⟩:=hz;cases e3;obtain⟨v,f1,f2,f3,f4⟩:=key e1;obtain⟨us,g1,g2,g3,g4,g5⟩:=Fy rs l' hc' f2 (f3.rs hs) e2;refine⟨v::us,by simp_all,by grind,g3,f3.trans g4,fun i c u hc hu=>?_⟩;cases i with
  |zero=>
   simp only[List.getElem?_cons_zero,Option.some.injEq]at hc hu;subst hc hu;cases k2 with
   |nil=>exact g4.rv f4
   |cons p k2=>
    simp only[Nq,nY];split
    ·exact .anyv _
    ·exact g4.rvk f4 (.inr (by grind))
  |succ i=>grind
end
structure Emb (L:List Nat) (f g:Nat->Nat) (h' h2:ac):Prop where
 back:∀id,L.contains id=true->g (f id)=id/\h2 (f id)=dp f (h' id)
 obj:∀i,h2 i≠ .dead->h2 i=dp f (h' (g i))/\aO L (h' (g i))=true
 inj:∀i j,h2 i≠ .dead->h2 j≠ .dead->g i=g j->i=j
section
variable {w:World} {X:Nat→Prop} {ρ:br} {h' h2:ac} {A A2:Nat→Prop} {L:List Nat} {f g:Nat→Nat}
theorem C1{o:Ob}:dp f o=.dead↔o=.dead:=by cases o<;>simp[dp]
theorem R1(o:Ob):bf (dp f o)=bf o:=by cases o<;>rfl
theorem YM{c:AV}{k:Nat}{rows:List (List AV)}:ey f c=.osl k rows↔c=.osl k rows:=by cases c<;>simp[ey,lD]
theorem Wd(c:AV):aW (ey f c)=aW c:=by cases c<;>rfl
theorem RV.embL(em:Emb L f g h' h2){c:AV}{u:Value}(hv:RV w A ρ h' c u)(hA:∀b,A b->A2 b)(hm:bm L c=true):RV w A2 (fun i s=>ρ (g i) s) h2 (lD f c) u:=by
 cases hv with
 |anyv u=>exact .anyv u
 |und=>exact .und
 |dat hd=>
  have:lD f c=c:=by cases hd<;>rfl
  rw[this];exact .dat (hd.mono fun b hb=>⟨hA b hb,rfl⟩)
 |ref id sub k i j hp=>
  simp only[bm,Bool.and_eq_true]at hm;obtain⟨h1,h3⟩:=em.back id hm.1;cases sub with
  |some p=>grind
  |none=>
   have:=RV.ref (w:=w) (A:=A2) (ρ:=fun i s=>ρ (g i) s) (h:=h2) (f id) none k i j (by simp only[bC,h3,ne_eq,C1];exact hp);simp only[h1]at this;exact this
 |rsl id sub k lo n cap a hp hn hb ha=>
  simp only[bm,Bool.and_eq_true]at hm;obtain⟨h1,h3⟩:=em.back id hm.1;cases sub with
  |some p=>grind
  |none=>exact .rsl (f id) none k lo n cap a (by simp only[bC,h3,ne_eq,C1];exact hp) hn (by grind) (by grind)
 |rsc id k lo n cap a hp hn hb ha=>simp[bm]at hm
 |ipt cs ad vals hA' hs hv hl hr=>exact .ipt cs ad vals (hA _ hA') hs hv hl (fun j c hc=>(hr j c hc).mono fun b hb=>⟨hA b hb,rfl⟩)
 |agg cs us hs h1 hr=>simp[bm]at hm
 |tup vs us hs hr=>simp[bm]at hm
 |fn ff x y us ts hs ht hx hy=>
  simp[bm]at hm;obtain⟨rfl,rfl⟩:=hm;exact .fn ff [] [] us ts hs ht (fun i c u hc=>by grind) (fun i c u hc=>by grind)
theorem RV.embA(em:Emb L f g h' h2){c:AV}{u:Value}(hv:RV w A ρ h' c u)(hA:∀b,A b->A2 b)(hm:aZ L c=true):RV w A2 (fun i s=>ρ (g i) s) h2 (ey f c) u:=by
 cases c with
 |agg cs=>
  simp only[aZ,List.all_eq_true]at hm;obtain⟨us,rfl,hs,h1,hr⟩:=hv.agg_inv;refine .agg _ us (by grind) h1 fun i c u hc hu=>?_;simp only[List.getElem?_map,Option.map_eq_some_iff]at hc;obtain⟨c',hc',rfl⟩:=hc;exact(hr i c' u hc' hu).embL em hA (hm c' (List.mem_of_getElem? hc'))
 |fn ff x y=>
  simp only[aZ,Bool.and_eq_true,List.all_eq_true]at hm;obtain⟨us,ts,rfl,hs,ht,hx,hy⟩:=hv.fn_inv;refine .fn ff _ _ us ts (by grind) (by grind) (fun i c u hc hu=>?_) (fun i c u hc hu=>?_)
  ·simp only[List.getElem?_map,Option.map_eq_some_iff]at hc;obtain⟨c',hc',rfl⟩:=hc;exact(hx i c' u hc' hu).embL em hA (hm.1 c' (List.mem_of_getElem? hc'))
  ·simp only[List.getElem?_map,Option.map_eq_some_iff]at hc;obtain⟨c',hc',rfl⟩:=hc;exact(hy i c' u hc' hu).embL em hA (hm.2 c' (List.mem_of_getElem? hc'))
 |_=>
  exact hv.embL em hA hm
theorem Emb.live(em:Emb L f g h' h2){i:Nat}{s:Option Nat}(hl:live h2 i s):live h' (g i) s/\h2 i≠ .dead:=by
 have hd:h2 i≠ .dead:=VQ hl|>fun hp=>by
  cases s with
  |none=>exact hp
  |some p=>obtain⟨_,_,_,e,_⟩:=hp;grind
 obtain⟨e,_⟩:=em.obj i hd;refine⟨?_,hd⟩;cases s with
 |none=>
  simp only[Ab.live,e]at hl;simp only[Ab.live];cases e2:h' (g i)<;>rw[e2]at hl<;>simp[dp]at hl⊢
 |some p=>
  obtain⟨cs,k,rows,e1,e2⟩:=hl;rw[e]at e1;cases e3:h' (g i)<;>rw[e3]at e1<;>simp only[dp]at e1<;>try (cases e1;done)
  rename_i cs';cases e1;simp only[List.getElem?_map,Option.map_eq_some_iff]at e2;obtain⟨c,e4,e5⟩:=e2;exact⟨cs',k,rows,e3,by rw[e4,YM.1 e5]⟩
theorem Rel.emb(em:Emb L f g h' h2)(r:Rel w X ρ h'){X2:Nat->Prop}(hX:∀b,XZ X2 b->b<w.heap.size)(hnx:∀i s,live h2 i s->¬XZ X2 (ρ (g i) s).1)(hA:∀b,aF w X h' ρ b->aF w X2 h2 (fun i s=>ρ (g i) s) b):
  Rel w X2 (fun i s=>ρ (g i) s) h2:=by
 refine⟨fun i s j t h1 h3 h4=>?_,hnx,fun i=>?_,hX⟩
 ·obtain⟨f1,f2⟩:=em.live h1;obtain⟨f3,f4⟩:=em.live h3;obtain⟨e1,e2⟩:=r.inj (g i) s (g j) t f1 f3 h4;exact⟨em.inj i j f2 f4 e1,e2⟩
 ·by_cases hd:h2 i=.dead
  ·rw[hd];trivial
  ·obtain⟨e,hc⟩:=em.obj i hd;have ho:=r.ob (g i);rw[e];cases e2:h' (g i)with
   |dead=>trivial
   |bx cs=>
    rw[e2]at ho hc;obtain⟨us,t,h1,h3,h4,h5⟩:=ho;refine⟨us,t,h1,h3,by grind,fun p c hp=>?_⟩;simp only[List.getElem?_map,Option.map_eq_some_iff]at hp;obtain⟨c',hp',rfl⟩:=hp;obtain⟨u,h6,h7⟩:=h5 p c' hp';refine⟨u,h6,?_⟩;simp only[aO,List.all_eq_true]at hc;have hcc:=hc c' (List.mem_of_getElem? hp');cases hO:aW c' with
    |true=>
     cases c'<;>simp[aW]at hO;obtain⟨a,cap,us',t',g1,g2,g3,g4,g5,g6,g7⟩:=h7;exact⟨a,cap,us',t',g1,g2,g3,g4,g5,g6,g7.mono fun b hb=>⟨hA b hb,rfl⟩⟩
    |false=>
     have hca:aZ L c'=true:=by simpa [gy,hO]using hcc
     rw[oQ hO]at h7;rw[oQ (by rw[Wd];omega)];refine⟨h7.1.embA em hA hca,h7.2.1,?_⟩;have h8:=h7.2.2;cases c'<;>first|exact h8.elim|trivial|skip
     ·rename_i id sub _ _ _;cases sub with
      |some p=>exact h8.elim
      |none=>
       simp only[aZ,bm,Bool.and_eq_true]at hca;obtain⟨_,e3⟩:=em.back id hca.1;simp only[ey,lD,ju]at h8⊢;rw[e3,R1];omega
     ·simp only[ju,Bool.and_eq_true,List.all_eq_true]at h8;simp only[ey,ju,Bool.and_eq_true,List.all_eq_true,List.mem_map];have key:∀c,aB c=true->aB (lD f c)=true:=fun c hd=>by cases c<;>simp[aB,lD]at hd⊢ <;>exact hd
      grind
   |ar k rows=>
    rw[e2]at ho;obtain⟨us,t,h1,h3,h4,h5⟩:=ho;exact⟨us,t,h1,h3,h4,h5.mono fun b hb=>⟨hA b hb,rfl⟩⟩
   |fz k rows=>
    rw[e2]at ho;obtain⟨h0,us,t,fr,h1,h3,h4,h5⟩:=ho;exact⟨hA _ h0,us,t,fr,h1,h3,h4,h5.mono fun b hb=>⟨hA b hb,rfl⟩⟩
end
theorem abd(c:AV):lD (fun i=>i) c=c:=by cases c<;>rfl
theorem NC{α:Type}{f:α->α}(hf:∀a,f a=a)(l:List α):l.map f=l:=by
 rw[show f=id from funext hf,List.map_id]
theorem abe(c:AV):ey (fun i=>i) c=c:=by
 cases c<;>simp[ey,lD,NC abd]
theorem Js(o:Ob):dp (fun i=>i) o=o:=by
 cases o<;>simp[dp,NC abe]
section
variable {L:List Nat} {g:Nat→Nat} {h' h2:ac}
theorem Emb.add(em:Emb L (fun i=>i) g h' h2){m id:Nat}(hm:h2 m=.dead)(hL:L.contains m=false)(hid:∀i,h2 i≠ .dead->g i≠id)(hcl:aO L (h' id)=true):Emb L (fun i=>i) (upd g m id) h' (upd h2 m (h' id)):=by
 refine⟨fun i hi=>?_,fun i hi=>?_,fun i j hi hj hg=>?_⟩
 ·have hne:i≠m:=by grind
  rw[aI _ _ hne,aI _ _ hne];exact em.back i hi
 ·by_cases e:i=m
  ·subst e;rw[aq,aq,Js];grind
  ·rw[aI _ _ e]at hi⊢;rw[aI _ _ e];exact em.obj i hi
 ·by_cases e:i=m<;>by_cases e':j=m
  ·rw[e,e']
  ·subst e;rw[aq,aI _ _ e']at hg;rw[aI _ _ e']at hj;grind
  ·subst e';rw[aq,aI _ _ e]at hg;rw[aI _ _ e]at hi;grind
  ·rw[aI _ _ e]at hi;rw[aI _ _ e']at hj;rw[aI _ _ e,aI _ _ e']at hg;exact em.inj i j hi hj hg
theorem ui{n i:Nat}:(cu n).contains i=true↔1000<=i/\i<1000+n:=by
 grind[cu,List.mem_range']
theorem nI(h':ac)(n i:Nat):ao ((cu n).map h') i=if 1000<=i/\i<1000+n then h' i else .dead:=by
 unfold ao;by_cases h1:1000<=i
 ·rw[if_pos h1];by_cases h2:i<1000+n
  ·have:(cu n)[i-1000]?=some i:=by
    unfold cu;grind
   grind
  ·rw[if_neg (by omega),List.getElem?_map,List.getElem?_eq_none (by grind[cu])];rfl
 grind
theorem Emb.base{n:Nat}(hcl:((cu n).all fun i=>aO (cu n) (h' i))=true):Emb (cu n) (fun i=>i) (fun i=>i) h' (ao ((cu n).map h')):=by
 refine⟨fun i hi=>⟨rfl,?_⟩,fun i hi=>?_,fun i j _ _ hg=>hg⟩
 ·rw[nI,if_pos (ui.1 hi),Js]
 ·rw[nI]at hi⊢;split at hi
  ·rename_i h1;rw[if_pos h1,Js];exact⟨rfl,List.all_eq_true.1 hcl i (by simpa using ui.2 h1)⟩
  grind
end
section
variable {w:World} {X:Nat→Prop} {ρ:br} {h' h2:ac} {A A2:Nat→Prop}
theorem ED{b k lo n cap:Nat}{us:Array Value}{e:TypeId}{fr:Nat×Nat}{rows:List (List AV)}{a:Option Addr}(hb:w.heap[b]?=some (.cells us e fr))(hA2:A2 b)(hA:∀b,A b->A2 b)(hr:bT w A k rows us)
  (hle:lo+n<=rows.length) (hn:n<=cap) (ha:cap=0\/a=some ⟨b,lo*k,none⟩):RD w A2 (nP k lo n rows) (.slice a n cap):=
 kr hb hA2 (hr.mono fun b hb=>⟨hA b hb,rfl⟩) hle hn ha
def aaG(w:World)(A:Nat->Prop)(ρ:br)(h':ac)(a b:AV)(u:Value):Prop:=
 (∃id k rows,b=.osl k rows/\a=.rsl id none k 0 rows.length/\h' id=.ar k rows/\aQ id=false)\/
 (∃id cs,b=.obx cs/\a=.ref id none 0 0 0/\h' id=.bx cs/\cs.all ap1=true/\aQ id=false)\/
 (b=a/\∃id k i j,a=.ref id none k i j/\aQ id=true)\/
 (b=a/\aB a=true)\/
 (aB b=true/\∀A2:Nat->Prop,(∀b,A b->A2 b)->(∀id sub,iq a=[id]->live h' id sub->A2 (ρ id sub).1)->RD w A2 b u)
theorem wS(r:Rel w X ρ h'){a b:AV}{u:Value}(hv:RV w (aF w X h' ρ) ρ h' a u)(he:jZ h' a=some b):aaG w (aF w X h' ρ) ρ h' a b u:=by
 have dl:aB a=true->jZ h' a=some a->aaG w (aF w X h' ρ) ρ h' a b u:=fun hd hq=>by
  rw[hq]at he;cases he;exact .inr (.inr (.inr (.inl ⟨rfl,hd⟩)))
 cases a with
 |rsl id sub k lo n=>
  obtain⟨a,cap,rfl,hp,hn,hb,ha⟩:=hv.rsl_inv;cases sub with
  |none=>
   simp only[jZ]at he;split at he
   ·grind
   ·have ho:=r.ob id;cases e:h' id with
    |dead=>rw[e]at he;cases he
    |ar k' rows=>
     rw[e]at he ho;simp only[zN]at he;split at he
     ·rename_i hc;obtain⟨rfl,hle⟩:=hc;split at he
      ·rename_i hw;obtain⟨rfl,rfl⟩:=hw;cases he;exact .inl ⟨id,k',rows,rfl,rfl,e,by grind⟩
      ·cases he;obtain⟨us,t,h1,h3,h4,h5⟩:=ho;exact .inr (.inr (.inr (.inr ⟨rfl,fun A2 hA hl=>ED h1 (hl id none rfl (by grind[live])) hA h5 hle hn ha⟩)))
     grind
    |fz k' rows=>
     rw[e]at he ho;simp only[zN]at he;split at he
     ·rename_i hc;obtain⟨rfl,hle⟩:=hc;cases he;obtain⟨h0,us,t,fr,h1,h3,h4,h5⟩:=ho;exact .inr (.inr (.inr (.inr ⟨rfl,fun A2 hA hl=>ED h1 (hA _ h0) hA h5 hle hn ha⟩)))
     grind
    |bx cs=>
     rw[e]at he;simp only[zN]at he;split at he
     ·rename_i hc;obtain⟨rfl,hle,hd⟩:=hc;cases he;obtain⟨us,t,h1,h3,h4,h5⟩:=r.cell e;refine .inr (.inr (.inr (.inr ⟨rfl,fun A2 hA hl=>kr h1 (hl id none rfl (by grind[live])) (fun i row hi=>?_) (by grind[pC]) hn ha⟩)));simp only[pC,List.getElem?_map,Option.map_eq_some_iff]at hi;obtain⟨c,hc,rfl⟩:=hi;refine⟨rfl,fun j d hj=>?_⟩;cases j with
      |succ j=>grind
      |zero=>
       simp at hj;subst hj;obtain⟨u,h6,h7⟩:=h5 i c hc;have hdc:=List.all_eq_true.1 hd c (List.mem_of_getElem? hc);exact⟨u,by grind,F9 h7 hdc hA (fun k rows ec=>by subst ec;exact hl id (some i) rfl ⟨cs,k,rows,e,hc⟩),Bu hdc⟩
     grind
  |some p=>
   simp only[jZ]at he;split at he
   ·grind
   ·cases e:h' id with
    |bx cs=>
     rw[e]at he;simp only[jl]at he;cases ec:cs[p]? with
     |none=>rw[ec]at he;cases he
     |some c=>
      rw[ec]at he;cases c<;>simp only[ub,ac3]at he<;>try (cases he;done)
      split at he
      ·rename_i hc;obtain⟨rfl,hle⟩:=hc;cases he;obtain⟨us,t,h1,h3,h4,h5⟩:=r.cell e;obtain⟨u,_,a',cap',us',t',_,_,_,q4,q5,q6,q7⟩:=h5 p _ ec;exact .inr (.inr (.inr (.inr ⟨rfl,fun A2 hA hl=>ED q4 (hl id (some p) rfl ⟨cs,_,_,e,ec⟩) hA q7 hle hn ha⟩)))
      grind
    |_=>rw[e]at he;cases he
 |ref id sub k i j=>
  cases sub with
  |some p=>grind[jZ,aB]
  |none=>
   simp only[jZ]at he;split at he
   ·rename_i hps;cases he;exact .inr (.inr (.inl ⟨rfl,id,k,i,j,rfl,hps⟩))
   ·split at he
    ·rename_i hc;obtain⟨rfl,rfl,rfl⟩:=hc;cases e:h' id<;>rw[e]at he<;>simp only[Tx]at he<;>try (cases he;done)
     split at he
     ·rename_i hd;cases he;exact .inr (.inl ⟨id,_,rfl,rfl,e,hd,by grind⟩)
     grind
    grind
 |fn f x y=>
  grind[jZ]
 |any=>exact dl rfl rfl
 |v x=>exact dl rfl rfl
 |emp=>exact dl rfl rfl
 |sl k rows=>exact dl rfl rfl
 |_=>simp[jZ,aB]at he
theorem ND{b c:AV}(hdl:aB b=true)(hd:v9 b=some c):c=b:=by
 unfold v9 at hd;split at hd
 all_goals simp_all[aB,if_pos]
theorem Hv(r:Rel w X ρ h'){a b c:AV}{u:Value}(hv:RV w (aF w X h' ρ) ρ h' a u)(h1:u.oneCell'=true)(he:jZ h' a=some b)(hd:v9 b=some c):
  aB c=true/\∀A2:Nat->Prop,(∀b,aF w X h' ρ b->A2 b)->(∀id sub,iq a=[id]->live h' id sub->A2 (ρ id sub).1)->RD w A2 c u:=by
 rcases wS r hv he with⟨id,k,rows,rfl,rfl,e,_⟩| ⟨id,cs,rfl,_⟩| ⟨rfl,id,k,i,j,rfl,_⟩| ⟨rfl,hdl⟩| ⟨hdl,hr⟩
 ·simp only[v9,Option.some.injEq]at hd;subst hd;refine⟨rfl,fun A2 hA hl=>?_⟩;obtain⟨a,cap,rfl,hp,hn,hb,ha⟩:=hv.rsl_inv;have ho:=r.ob id;rw[e]at ho;obtain⟨us,t,g1,g2,g3,g4⟩:=ho;have:=ED (w:=w) (A2:=A2) (lo:=0) g1 (hl id none rfl (by grind[live])) hA g4 (by omega) hn ha;grind[nP]
 ·grind[v9,aB]
 ·grind[v9,aB]
 ·have:c=b:=ND hdl hd;subst this;exact⟨hdl,fun A2 hA _=>(hv.toD hdl h1).mono fun b hb=>⟨hA b hb,rfl⟩⟩
 grind[ND]
theorem Fz(r:Rel w X ρ h'):∀ (cs ds:List AV),i7 h' cs=some ds->ds.length=cs.length/\∀ (i:Nat) (a c:AV) (u:Value),cs[i]?=some a->ds[i]?=some c->RV w (aF w X h' ρ) ρ h' a u->u.oneCell'=true->
  aB c=true/\∀A2:Nat->Prop,(∀b,aF w X h' ρ b->A2 b)->(∀id sub,iq a=[id]->live h' id sub->A2 (ρ id sub).1)->RD w A2 c u
 |[],ds,he=>by grind[i7]
 |a::cs,ds,he=>by
  simp only[i7,Option.bind_eq_some_iff]at he;obtain⟨b,e1,c,e2,q,e3,e4⟩:=he;obtain⟨g1,g2⟩:=Fz r cs q e3;refine⟨by grind,fun i a' c' u hc hd hv h1=>?_⟩;cases i with
  |zero=>
   grind[Hv]
  |succ i=>grind
end
def xF(f:ac->Option R3)(p:ac->ac->Fp)(h:ac)(x:AV)(h':ac)(r w:List Nat):Prop:=
 ∀g:ac,(∀i,cJ i∈r\/cJ i∈w->g i=h i)->∃g',f g=some (x,g',[])/\p g g'=some (r,w)/\(∀i,cJ i∈w->g' i=h' i)/\(∀i,cJ i∉w->g' i=g i)
section
variable {h h' g:ac} {x:AV} {r w:List Nat}
theorem zT{f:ac->Option R3}{p:ac->ac->Fp}(hw:w=[])(hp:∀g g',p g g'=some (r,w))(hf:∀g:ac,(∀i,cJ i∈r->g i=h i)->f g=some (x,g,[])):xF f p h x h' r w:=fun g hg=>by
 simp_all
theorem my{f:ac->Option R3}{p:ac->ac->Fp}{d:Nat}{o:Ob}(hd:cJ d∈w)(hh:h'=upd h d o)(hp:∀g g',p g g'=some (r,w))(hf:∀g:ac,g d=h d->f g=some (x,upd g d o,[])):xF f p h x h' r w:=fun g hg=>by
 refine⟨upd g d o,hf g (hg d (.inr hd)),hp g _,fun i hi=>?_,fun i hi=>?_⟩
 ·simp_all[upd]
 grind[upd,absurd]
theorem YN{a:AV}(hd:aB a=true)(h:ac):gL h a=some (a,h,[]):=by
 cases a<;>simp[aB]at hd<;>simp[gL,aB,hd]
theorem jj:∀ {xs:List AV},xs.all aB=true->∀h:ac,fV h xs=some (xs,h,[])
 |[],_,h=>rfl
 |a::l,hd,h=>by
  simp only[List.all_cons,Bool.and_eq_true]at hd;simp only[fV,YN hd.1 h,jj hd.2 h,Option.bind_some,List.append_nil]
theorem wT{a:AV}{xs:List AV}(hd:dat a=true)(hc:fC a=some xs):xs.all aB=true:=by
 cases a<;>simp only[dat,aB,fC,Option.some.injEq]at hd hc<;>first| (cases hc;done)| (cases hd;done)|skip
 all_goals grind[aB]
theorem C2{k:Nat}:∀ {ps:List (Nat×AV)} {rows rows':List (List AV)} {h h':ac} {ks:K},(ps.all fun p=>dat p.2)=true->eW k h rows ps=some (rows',h',ks)->h'=h/\ks=[]/\∀g:ac,eW k g rows ps=some (rows',g,[])
 |[],rows,rows',h,h',ks,_,hz=>by
  grind[eW,Option.some.injEq,Prod.mk.injEq]
 | (i,a)::ps,rows,rows',h,h',ks,hd,hz=>by
  simp only[List.all_cons,Bool.and_eq_true]at hd;simp only[eW,Option.bind_eq_some_iff]at hz;obtain⟨cs,e1,hz⟩:=hz;split at hz
  ·have hcs:=wT hd.1 e1;simp only[jj hcs h,Option.bind_some,Option.bind_eq_some_iff]at hz;obtain⟨⟨r1,r2,r3⟩,e2,e3⟩:=hz;obtain⟨q1,q2,q3⟩:=C2 hd.2 e2
   simp_all[eW,Option.bind_some,if_pos,jj,List.nil_append]
  grind
theorem C3{k k0 i j:Nat}{agg:Bool}{o:Option (Nat×List (List AV))}{ks:K}(hz:lh h k agg k0 i j o=some (x,h',ks)):h'=h/\ks=[]/\∀g:ac,lh g k agg k0 i j o=some (x,g,[]):=by
 cases o with
 |none=>cases hz
 |some q=>
  simp only[lh]at hz;split at hz
  ·simp only[Option.bind_eq_some_iff,Option.map_eq_some_iff]at hz;obtain⟨row,e1,a,e2,e3⟩:=hz
   simp_all[lh,if_pos,Option.bind_some,Option.map_some]
  grind
theorem We{k id k0 i j:Nat}{agg:Bool}{o:Ob}(hz:uW h k agg id k0 i j o=some (x,h',[])):h'=h/\∀g:ac,uW g k agg id k0 i j o=some (x,g,[]):=by
 cases o with
 |dead=>cases hz
 |bx cs=>
  simp only[uW,Bj]at hz⊢;grind
 |ar k' rows=>
  grind[uW,C3]
 |fz k' rows=>
  grind[uW,C3]
theorem Ua{k:Nat}{agg:Bool}{a:AV}(hz:fW h k agg a=some (x,h',[]))(hp:oM a=some (r,w)):xF (fun g=>fW g k agg a) (fun _ _=>oM a) h x h' r w:=by
 cases a<;>simp only[oM]at hp<;>try (cases hp;done)
 case ipt cs=>
  cases hp;refine zT rfl (fun _ _=>rfl) fun g _=>?_;grind[fW,Option.map_eq_some_iff]
 case ref id sub k0 i j=>
  cases hp;refine zT rfl (fun _ _=>rfl) fun g hg=>?_;cases sub with
  |none=>
   grind[fW,We]
  |some p=>
   grind[fW,C3]
theorem Q7{k:Nat}{a y:AV}(hz:iQ h k a y=some (x,h',[]))(hp:uY y a=some (r,w)):xF (fun g=>iQ g k a y) (fun _ _=>uY y a) h x h' r w:=by
 cases a<;>simp only[uY]at hp<;>try (cases hp;done)
 rename_i id sub k0 i j;split at hp
 ·rename_i hd;cases hp;simp only[iQ,Option.bind_eq_some_iff]at hz;obtain⟨xs,e1,hz⟩:=hz;have hxs:=wT hd e1;split at hz
  ·cases sub with
   |none=>
    simp only at hz;cases eo:h id with
    |bx cs=>
     rw[eo]at hz;simp only[zM,Jj]at hz;split at hz
     ·simp only[Option.some.injEq,Prod.mk.injEq]at hz;obtain⟨rfl,rfl,e3⟩:=hz;refine my (by simp) rfl (fun _ _=>by simp_all[uY,if_pos]) fun g hg=>?_
      simp_all[iQ,Option.bind_some,if_pos,zM,Jj,if_true]
     grind
    |ar k' rows=>
     simp only[zM,jj hxs h,Option.bind_some,eo,Jk,Option.map_eq_some_iff]at hz;obtain⟨q,e2,e3⟩:=hz;cases e3;refine my (by simp) rfl (fun _ _=>by simp_all[uY,if_pos]) fun g hg=>?_
     simp_all[iQ,Option.bind_some,if_pos,zM,jj,Jk,Option.map_some]
    |_=>rw[eo]at hz;cases hz
   |some p=>
    simp only[jj hxs h,Option.bind_some]at hz;cases eo:h id with
    |bx cs=>
     rw[eo]at hz;simp only[Bk]at hz;cases ec:cs[p]? with
     |none=>rw[ec]at hz;cases hz
     |some c=>
      rw[ec]at hz;cases c<;>simp only[Tv]at hz<;>try (cases hz;done)
      simp only[Option.map_eq_some_iff]at hz;obtain⟨q,e2,e3⟩:=hz;cases e3;refine my (by simp) rfl (fun _ _=>by simp_all[uY,if_pos]) fun g hg=>?_
      simp_all[iQ,Option.bind_some,if_pos,Bk,jj,Tv,Option.map_some]
    |_=>rw[eo]at hz;cases hz
  grind
 grind
end
theorem adf{a b:Value}(h:Nn a b=true):a=b:=by
 cases a<;>cases b<;>simp only[Nn]at h<;>try (cases h;done)
 case string.string x y=>
  obtain⟨⟨x⟩⟩:=x
  simp_all
 all_goals grind
mutual
theorem adg:∀ {a b:AV},No a b=true->a=b
 |a,b,h=>by
  cases a<;>cases b<;>simp only[No]at h<;>try (first|rfl| (cases h;done))
  case v.v=>rw[adf h]
  case sl.sl=>simp only[Bool.and_eq_true,decide_eq_true_eq]at h;rw[h.1,C4 h.2]
  case osl.osl=>simp only[Bool.and_eq_true,decide_eq_true_eq]at h;rw[h.1,C4 h.2]
  case obx.obx=>rw[sD h]
  case agg.agg=>rw[sD h]
  case ref.ref=>grind
  case rsl.rsl=>grind
  case ipt.ipt=>rw[sD h]
  case fn.fn=>simp only[Bool.and_eq_true,decide_eq_true_eq]at h;rw[h.1,sD h.2.1,sD h.2.2]
theorem sD:∀ {a b:List AV},tM a b=true->a=b
 |[],[],_=>rfl
 |[],_::_,h=>by cases h
 |_::_,[],h=>by cases h
 |a::l,b::r,h=>by
  simp only[tM,Bool.and_eq_true]at h;rw[adg h.1,sD h.2]
theorem C4:∀ {a b:List (List AV)},Ci a b=true->a=b
 |[],[],_=>rfl
 |[],_::_,h=>by cases h
 |_::_,[],h=>by cases h
 |a::l,b::r,h=>by
  simp only[Ci,Bool.and_eq_true]at h;rw[sD h.1,C4 h.2]
end
theorem YO{a b:Ob}(h:Er a b=true):a=b:=by
 cases a<;>cases b<;>simp only[Er]at h<;>try (first|rfl| (cases h;done))
 case bx.bx=>rw[sD h]
 case ar.ar=>grind[C4]
 case fz.fz=>grind[C4]
theorem Wf{g h g' h':ac}{ids:List Nat}(e:∀i,i∈ids->g i=h i)(e':∀i,i∈ids->g' i=h' i):CM g g' ids=CM h h' ids:=by
 grind[CM,List.filter_congr]
theorem YP{h h':ac}{ids:List Nat}{i:Nat}(hi:i∈ids)(hn:cJ i∉ (CM h h' ids).map cJ):h' i=h i:=by
 by_cases hs:Er (h i) (h' i)=true
 ·exact(YO hs).symm
 ·refine absurd (List.mem_map.2 ⟨i,?_,rfl⟩) hn;simp only[CM,List.mem_filter];exact⟨hi,by simpa using hs⟩
theorem By{a:Nat}:∀ {r l:List Nat},a∈l->a∈bV l r
 |[],l,h=>h
 |b::r,l,h=>by
  unfold bV;apply By;split
  ·exact h
  ·simp[h]
theorem xG:∀ {r l:List Nat},l.Nodup->(bV l r).Nodup
 |[],l,h=>h
 |b::r,l,h=>by
  unfold bV;apply xG;split
  ·exact h
  ·rename_i hc;rw[List.nodup_append];refine⟨h,by simp,fun a ha c hc'=>?_⟩;simp only[List.mem_singleton]at hc';subst hc'
   rintro rfl
   exact hc (by simpa using ha)
theorem Lf{h:ac}{a:Nat}:∀ {n:Nat} {l:List Nat} {i:Nat},a∈l->a∈cq h n l i
 |0,l,i,hm=>hm
 |n+1,l,i,hm=>by
  unfold cq;split
  ·exact hm
  ·exact Lf (By hm)
theorem FA{h:ac}:∀ {n:Nat} {l:List Nat} {i:Nat},l.Nodup->(cq h n l i).Nodup
 |0,l,i,hm=>hm
 |n+1,l,i,hm=>by
  unfold cq;split
  ·exact hm
  ·exact FA (xG hm)
theorem zU{g h:ac}:∀ {n:Nat} {l:List Nat} {i:Nat},(∀a,a∈cq h n l i->g a=h a)->cq g n l i=cq h n l i
 |0,l,i,_=>rfl
 |n+1,l,i,hg=>by
  unfold cq at hg⊢;split
  ·rfl
  ·rename_i a ha;rw[ha]at hg;rw[hg a (Lf (By (List.mem_of_getElem? ha)))];exact zU hg
theorem Lg(h:ac)(n:Nat):cq h n [] 0=[]:=by cases n<;>simp[cq]
theorem NE{a:AV}(h:aB a=true):iq a=[]:=by cases a<;>simp[aB]at h<;>rfl
theorem NF{a:AV}(h:dat a=true):cj a=[]:=by
 cases a<;>simp only[dat]at h<;>try exact NE h
 all_goals simp_all[cj,List.flatMap_eq_nil_iff,NE,aB,Bool.and_eq_true,List.isEmpty_iff]
theorem Lh{a:AV}(h:dat a=true):sA a=true:=by
 have key:∀c,aB c=true->mV c=true:=fun c hc=>by cases c<;>simp[aB]at hc<;>rfl
 cases a<;>simp only[dat]at h<;>try exact key _ h
 all_goals simp_all[aB,Bool.and_eq_true,List.isEmpty_iff,sA]
section
variable {h h' g:ac} {x:AV}
theorem FB:∀ {cs:List AV} {q:List AV×ac×K},cs.all mV=true->fV h cs=some q->q=(cs,h,[])/\∀g:ac,fV g cs=some (cs,g,[])
 |[],q,_,hz=>by cases hz;exact⟨rfl,fun g=>rfl⟩
 |c::cs,q,hd,hz=>by
  simp only[List.all_cons,Bool.and_eq_true]at hd;simp only[fV,Option.bind_eq_some_iff]at hz;obtain⟨p,e1,q',e2,e3⟩:=hz;have hc:p=(c,h,[])/\∀g:ac,gL g c=some (c,g,[]):=by
   cases c<;>simp only[mV]at hd<;>simp only[gL]at e1⊢ <;>first| (cases hd.1;done)|skip
   all_goals
    split at e1
    ·rename_i hdl;simp only[if_pos hdl];cases e1;exact⟨rfl,fun g=>by first|trivial|rfl⟩
    ·cases e1
  obtain⟨rfl,hc2⟩:=hc;obtain⟨rfl,q2⟩:=FB hd.2 e2;cases e3;refine⟨rfl,fun g=>?_⟩;simp only[fV,hc2 g,Option.bind_some,q2 g,List.append_nil]
theorem Q8{m:Nat}{a:AV}{q:R3}(hd:sA a=true)(hz:de h m a=some q):q=(a,h,[])/\∀g:ac,de g m a=some (a,g,[]):=by
 have key:∀c:AV,(∀cs,c≠ .agg cs)->mV c=true->vA h c=some q->q=(c,h,[])/\∀g:ac,vA g c=some (c,g,[]):=by
  intro c hna hc hz;have e1:∀g:ac,vA g c=if aB c then some (c,g,[])else none:=by
   intro g;cases c<;>simp only[mV]at hc<;>first| (cases hc;done)| (exact absurd rfl (hna _))|rfl
  grind
 cases a with
 |agg cs=>
  simp only[de,vA,Option.bind_eq_some_iff]at hz⊢;obtain⟨p,e1,e2⟩:=hz;obtain⟨rfl,q2⟩:=FB hd e1;grind
 |rsl=>grind[sA,mV]
 |rsc=>grind[sA,mV]
 |ref id sub k i j=>
  cases sub with
  |none=>
   simp_all[de,Option.some.injEq,trivial]
  |some p=>exact key _ (fun cs=>by simp) rfl hz
 |ipt cs=>
  simp_all[de,Option.some.injEq,trivial]
 |fn f u v=>
  simp_all[de,Option.some.injEq,trivial]
 |_=>exact key _ (fun cs=>by simp) rfl hz
theorem C5:∀ {l:List AV} {ms:List Nat} {q:List AV×ac×K},l.all sA=true->cr h ms l=some q->q=(l,h,[])/\∀g:ac,cr g ms l=some (l,g,[])
 |[],ms,q,_,hz=>by cases hz;exact⟨rfl,fun g=>rfl⟩
 |a::l,ms,q,hd,hz=>by
  simp only[List.all_cons,Bool.and_eq_true]at hd;simp only[cr,Option.bind_eq_some_iff]at hz;obtain⟨p,e1,q',e2,e3⟩:=hz;obtain⟨rfl,p2⟩:=Q8 hd.1 e1;obtain⟨rfl,q2⟩:=C5 hd.2 e2;cases e3;refine⟨rfl,fun g=>?_⟩;simp only[cr,p2 g,Option.bind_some,q2 g,List.append_nil]
theorem NG{ids:List Nat}{i:Nat}:∀ {l:List Nat} {os:List Ob} {g h:ac},g i=h i->eM g ids l os i=eM h ids l os i
 |[],os,g,h,e=>by simp_all[eM]
 |a::l,[],g,h,e=>by simp_all[eM]
 |a::l,o::os,g,h,e=>by
  simp only[eM];apply NG;unfold upd;split
  ·rfl
  ·exact e
theorem rS{ids:List Nat}{i:Nat}:∀ {l:List Nat} {os:List Ob} {g:ac},i∉l->eM g ids l os i=g i
 |[],os,g,_=>rfl
 |a::l,[],g,_=>rfl
 |a::l,o::os,g,hn=>by
  simp only[List.mem_cons,not_or]at hn;simp only[eM];rw[rS hn.2];exact aI _ _ hn.1
theorem Ga(n:Nat)(g h:ac)(c:AV):(dq n g c).1=(dq n h c).1:=by cases c<;>rfl
theorem R2{n i:Nat}{g h:ac}{c:AV}(e:g i=h i):(dq n g c).2 i=(dq n h c).2 i:=by
 cases c<;>simp only[dq]<;>first|exact e| (unfold upd;split;rfl;exact e)
theorem NH{n i:Nat}{g:ac}{c:AV}(hn:i≠n):(dq n g c).2 i=g i:=by
 cases c<;>simp only[dq]<;>first|rfl|exact aI _ _ hn
theorem NI:∀ (l:List AV) (n:Nat) (g h:ac),(bO n g l).1=(bO n h l).1
 |[],n,g,h=>rfl
 |c::l,n,g,h=>by simp only[bO];rw[Ga n g h,NI l (n+1) _ (dq n h c).2]
theorem R4{i:Nat}:∀ {l:List AV} {n:Nat} {g h:ac},g i=h i->(bO n g l).2 i=(bO n h l).2 i
 |[],n,g,h,e=>e
 |c::l,n,g,h,e=>by simp only[bO];exact R4 (R2 e)
theorem NJ{i:Nat}:∀ {l:List AV} {n:Nat} {g:ac},¬ (n<=i/\i<n+l.length)->(bO n g l).2 i=g i
 |[],n,g,hn=>rfl
 |c::l,n,g,hn=>by
  simp only[bO];simp only[List.length_cons]at hn;rw[NJ (by omega),NH (by omega)]
theorem R5(n:Nat)(g h:ac)(c:AV):(mat n g c).1=(mat n h c).1:=by
 cases c<;>simp only[mat]<;>first|exact Ga _ _ _ _|rw[NI]
theorem Wg{n i:Nat}{g h:ac}{c:AV}(e:g i=h i):(mat n g c).2 i=(mat n h c).2 i:=by
 cases c<;>simp only[mat]<;>first|exact R2 e|exact R4 e
theorem uj{n i:Nat}{g:ac}{c:AV}(hn:¬ (n<=i/\i<n+cP c)):(mat n g c).2 i=g i:=by
 cases c<;>simp only[mat]<;>simp only[cP]at hn<;>first|exact NH (by omega)|exact NJ hn
theorem FC{g h:ac}:∀ {m n:Nat},(∀i,n<=i->i<n+m->g i=h i)->dK g n m=dK h n m
 |0,n,_=>rfl
 |m+1,n,hg=>by
  simp only[dK];rw[hg n (by omega) (by omega),FC fun i h1 h2=>hg i (by omega) (by omega)]
theorem Cj{g h:ac}{gv:K}:∀ {l:List Nat} {os:List Ob},(∀a,a∈l->g a=h a)->fw g gv l os=fw h gv l os
 |[],os,_=>rfl
 |a::l,[],_=>rfl
 |a::l,o::os,hg=>by
  simp only[fw];rw[hg a (by simp),Cj fun b hb=>hg b (by simp[hb])]
theorem yS{d i:Nat}(h1:2000+8*d<=i)(h2:i<2000+8*d+8):cJ i=2000+8*d:=by
 unfold cJ;grind
theorem L6{kp:Bool}{d:Nat}{ids:List Nat}{gv:K}{r:AV×List Ob}(hz:gz kp h d ids [] gv r=some (x,h',[]))(hg:∀i,cJ i∈ids.map cJ++[2000+8*d]->g i=h i):
  ∃g',gz kp g d ids [] gv r=some (x,g',[])/\(∀i,cJ i∈ids.map cJ++[2000+8*d]->g' i=h' i)/\(∀i,cJ i∉ids.map cJ++[2000+8*d]->g' i=g i)/\∀i,i∉ids->cJ i≠2000+8*d->h' i=h i:=by
 unfold gz at hz⊢;split at hz
 ·rename_i hc;simp only[Option.some.injEq,Prod.mk.injEq,List.nil_append,List.append_eq_nil_iff]at hz;obtain⟨rfl,rfl,hk,rfl⟩:=hz;obtain⟨c1,c0,c2,c3,c4,c5⟩:=hc;have hfr:dK g (2000+8*d) (cP r.1)=true:=by
   grind[FC,yS]
  have hst:fw g [] ids r.2=true:=by grind[Cj]
  refine⟨(mat (2000+8*d) (eM g ids ids r.2) r.1).2,?_,fun i hi=>?_,fun i hi=>?_,fun i hi hi2=>?_⟩
  ·rw[if_pos ⟨c1,c0,c2,hfr,hst,c5⟩,hk];simp only[aqL,List.append_nil];rw[R5 _ (eM g ids ids r.2) (eM h ids ids r.2)]
  ·simp only[aqL];grind[Wg,NG]
  ·rw[uj (fun hh=>hi (by grind[yS])),rS (fun hh=>hi (by grind))]
  ·simp only[aqL];rw[uj (fun hh=>hi2 (yS hh.1 (by omega))),rS hi]
 grind
theorem Q9{call:ef}{md:Mode}{d:Nat}{f:AV}{zas:List AV}{r w:List Nat}(hz:eP call md h d zas f=some (x,h',[]))(hp:gk h d (kj zas f) h'=some (r,w)):
  xF (fun g=>eP call md g d zas f) (fun g=>gk g d (kj zas f)) h x h' r w:=by
 cases f<;>simp only[eP]at hz<;>try (cases hz;done)
 rename_i fid a b;simp only[kj]at hp;simp only[Option.bind_eq_some_iff]at hz;obtain⟨p,e1,e2⟩:=hz;have hno:(a++zas++b).all sA=true:=by
  grind[gk,List.all_eq_true,Lh]
 obtain⟨rfl,e3⟩:=C5 hno e1;generalize hI:cq h 40 (bV [] ((a++zas++b).flatMap cj)) 0=ids at*
 have hids:(∀i,i∈ids->cJ i∈r)/\w=(CM h h' ids).map cJ++[2000+8*d]/\
   (∀g g':ac,(∀i,i∈ids->g i=h i)->(∀i,i∈ids->g' i=h' i)->gk g d (a++zas++b) g'=some (r,w)):=by
  unfold gk at hp;split at hp
  ·cases hp;have:(a++zas++b).flatMap cj=[]:=by
    grind[List.flatMap_eq_nil_iff,NF]
   rw[this]at hI;simp only[bV,Lg]at hI;subst hI;refine⟨fun i hi=>by grind,rfl,fun g g' _ _=>?_⟩
   simp_all[gk,if_pos]
  ·rename_i hd;rw[hI]at hp;cases hp;refine⟨fun i hi=>List.mem_map.2 ⟨i,hi,rfl⟩,rfl,fun g g' hg hg'=>?_⟩;unfold gk;have hre:cq g 40 (bV [] ((a++zas++b).flatMap cj)) 0=ids:=by
    grind[zU]
   rw[if_neg hd,if_pos hno,hre,Wf hg hg']
 obtain⟨hi1,hi2,hi3⟩:=hids;intro g hg;have hat:∀i,i∈ids->g i=h i:=fun i hi=>hg i (.inl (hi1 i hi));have hre:cq g 40 (bV [] ((a++zas++b).flatMap cj)) 0=ids:=by
  grind[zU]
 unfold mj at e2;split at e2
 ·simp only[Option.bind_eq_some_iff]at e2;obtain⟨res,e4,e5⟩:=e2;have hgl:∀i,cJ i∈ids.map cJ++[2000+8*d]->g i=h i:=fun i hi=>by
   grind
  obtain⟨g',g1,g2,g3,g4⟩:=L6 e5 (g:=g) hgl;have hat':∀i,i∈ids->g' i=h' i:=fun i hi=>g2 i (List.mem_append_left _ (List.mem_map.2 ⟨i,hi,rfl⟩));refine⟨g',?_,hi3 g g' hat hat',fun i hi=>g2 i ?_,fun i hi=>?_⟩
  ·simp only[eP,e3 g,Option.bind_some,hre];unfold mj;have hmap:ids.map (fun a=>dp (bq ids) (g a))=ids.map fun a=>dp (bq ids) (h a):=List.map_congr_left fun i hi=>by rw[hat i hi]
   grind
  ·rw[hi2]at hi;rcases List.mem_append.1 hi with hi|hi
   ·refine List.mem_append_left _ ?_;obtain⟨a,ha,hae⟩:=List.mem_map.1 hi;exact List.mem_map.2 ⟨a,(List.mem_filter.1 ha).1,hae⟩
   grind
  grind[cJ,YP,List.mem_append_left]
 grind
theorem Hw{call:ef}{md:Mode}{d:Nat}{f:AV}{zas:List AV}{r w:List Nat}(hz:bI call md h d zas f=some (x,h',[]))(hp:gk h d (kj zas f) h'=some (r,w)):
  xF (fun g=>bI call md g d zas f) (fun g=>gk g d (kj zas f)) h x h' r w:=by
 have hb:¬sy md zas f=true:=by
  intro hb;have hno:∀l:List AV,l.all sA=true->l.any (fun x=>!Tw x)=false:=fun l hl=>by
   rw[List.any_eq_false];intro c hc;have:=List.all_eq_true.1 hl c hc;cases c<;>simp[sA,mV,Tw]at this⊢
  cases f<;>simp only[sy,Bool.and_eq_true]at hb<;>try (cases hb;done)
  simp only[kj]at hp;unfold gk at hp;split at hp
  ·rename_i hd;rw[hno _ (List.all_eq_true.2 fun c hc=>Lh (List.all_eq_true.1 hd c hc))]at hb;grind
  grind
 simp_all[bI,if_neg,Q9]
theorem FE{d:Nat}{x0 x:AV}{h0 g0 h':ac}{k0:K}(hz:sz d (x0,h0,k0)=some (x,h',[]))(hg:∀i,cJ i=2000+8*d->g0 i=h0 i):
  k0=[]/\∃g',sz d (x0,g0,[])=some (x,g',[])/\(∀i,cJ i=2000+8*d->g' i=h' i)/\(∀i,cJ i≠2000+8*d->g' i=g0 i):=by
 unfold sz at hz⊢;simp only at hz⊢;split at hz
 ·rename_i id k lo n;split at hz
  ·rename_i hid;subst hid;have hgd:cJ (2000+8*d)=2000+8*d:=yS (Nat.le_refl _) (by omega);have he:=hg _ hgd;simp only[gL]at hz⊢;rw[he];cases eo:h0 (2000+8*d)<;>rw[eo]at hz<;>simp only[mf]at hz⊢ <;>try (cases hz;done)
   ·simp_all
   ·split at hz
    ·rename_i hc;rw[if_pos hc];simp only[Option.map_some,Option.some.injEq,Prod.mk.injEq,List.append_nil]at hz;obtain⟨rfl,rfl,rfl⟩:=hz;refine⟨rfl,upd g0 (2000+8*d) (.fz k _),rfl,fun i hi=>?_,fun i hi=>?_⟩
     all_goals grind[upd,absurd]
    grind
   grind
  grind
 grind
theorem Bz{call:ef}{md:Mode}{d:Nat}{op:AOp}{s:af}{r w:List Nat}(hz:step call md d op s h=some (x,h',[]))(hp:fM d op s h h'=some (r,w)):
  xF (fun g=>step call md d op s g) (fun g=>fM d op s g) h x h' r w:=by
 cases op with
 |p op=>
  obtain⟨rfl,rfl⟩:=hp;simp only[step,xz,Option.map_eq_some_iff]at hz;obtain⟨a,e1,e2⟩:=hz;cases e2;exact zT rfl (fun _ _=>rfl) fun g _=>by simp only[step,xz,e1,Option.map_some]
 |alloc z=>
  obtain⟨rfl,rfl⟩:=hp;obtain⟨h1,rfl,rfl,_⟩:=jv hz;exact my (by simp) rfl (fun _ _=>rfl) fun g hg=>by grind[step,jt,xx]
 |box k y=>
  simp only[fM]at hp;split at hp
  ·rename_i hd;cases hp;simp only[step,aq2,Option.bind_eq_some_iff]at hz;obtain⟨xs,e1,hz⟩:=hz;split at hz
   ·rename_i hk;simp only[wT hd e1,if_true,jt]at hz;obtain⟨h1,rfl,rfl,_⟩:=jv hz;refine my (by simp) rfl (fun _ _=>by simp_all[fM,if_pos]) fun g hg=>?_;simp only[step,aq2,e1,Option.bind_some,if_pos hk,wT hd e1,if_true,jt,hg,h1,xx]
   grind
  grind
 |buildSl k z n ps=>
  simp only[fM]at hp;split at hp
  ·rename_i hd;cases hp;simp only[step,Option.bind_eq_some_iff]at hz;obtain⟨q,e1,hz⟩:=hz;have hd':((ps.map fun p=>(p.1,ev s p.2)).all fun p=>dat p.2)=true:=by
    grind
   obtain⟨e2,e3,e4⟩:=C2 hd' e1;obtain⟨q1,q2,q3⟩:=q;simp only at e2 e3 e4 hz;subst e2 e3;obtain⟨h1,rfl,rfl,_⟩:=jv hz;refine my (by simp) rfl (fun _ _=>by simp only[fM,if_pos hd]) fun g hg=>?_;simp only[step,e4 g,Option.bind_some,dA,hg,h1,xx]
  grind
 |mkSl k z b l c=>
  obtain⟨rfl,rfl⟩:=hp;simp only[step,Option.bind_eq_some_iff]at hz;obtain⟨q,e1,hz⟩:=hz;split at hz
  ·obtain⟨h1,rfl,rfl,_⟩:=jv hz;refine my (by simp) rfl (fun _ _=>rfl) fun g hg=>?_
   simp_all[step,Option.bind_some,if_pos,dA,xx]
  grind
 |load k g y=>exact Ua hz hp
 |store k a y=>exact Q7 hz hp
 |app k b a y=>cases hp
 |cpy k x y=>cases hp
 |slcM k x lo hi=>cases hp
 |clr k z x=>cases hp
 |appz k b z x n=>cases hp
 |take x=>cases hp
 |call f zas=>exact Hw hz hp
 |callC f zas=>
  simp only[step,Option.bind_eq_some_iff]at hz;obtain⟨⟨x0,h0,k0⟩,e1,e2⟩:=hz;simp only[fM,CN]at hp;split at hp
  ·cases hp;obtain⟨rfl,_⟩:=FE (g0:=h0) e2 (fun _ _=>rfl);have hp1:gk h d (kj (zas.map (ev s)) (ev s f)) h0=some ([],[2000+8*d]):=by simp_all[gk,if_pos]
   intro g hg;obtain⟨g0,a1,a2,a3,a4⟩:=Hw e1 hp1 g hg;obtain⟨_,g',b1,b2,b3⟩:=FE e2 (g0:=g0) (fun i hi=>a3 i (by grind))
   simp_all[bI,ev,step,fM,CN,if_pos]
  grind
 |bad=>cases hz
end
section
variable {call:ef} {md:Mode} {s:af} {h:ac}
theorem fN{s s':af}{o:Opd}(hs:∀i,i∈fE o->s' i=s i):ev s' o=ev s o:=by
 cases o with
 |t n=>exact hs n (by simp[fE])
 |c a=>rfl
theorem rT{s s':af}{o:Option Opd}(hs:∀i,i∈lj o.toList->s' i=s i):evo s' o=evo s o:=by
 cases o with
 |none=>rfl
 |some o=>grind[evo,fN,lj]
theorem yT{s s':af}{l:List Opd}(hs:∀i,i∈lj l->s' i=s i):l.map (ev s')=l.map (ev s):=
 List.map_congr_left fun o ho=>fN fun i hi=>hs i (by simp only[lj,List.mem_flatMap];exact⟨o,ho,hi⟩)
theorem Wh{s s':af}{op:POp}(hs:∀i,i∈Hi op->s' i=s i):eO s' op=eO s op:=by
 cases op<;>simp only[Hi,List.mem_append]at hs<;>simp only[eO]
 case build z ps=>
  have:(ps.map fun p=>(p.1,p.2.1,ev s' p.2.2))=ps.map fun p=>(p.1,p.2.1,ev s p.2.2):=
   List.map_congr_left fun p hp=>by rw[fN fun i hi=>hs i (by rw[List.mem_flatMap];exact⟨p,hp,hi⟩)]
  rw[this]
 case mnx m x ys=>rw[fN fun i hi=>hs i (.inl hi),yT fun i hi=>hs i (.inr hi)]
 case mkF f a b=>rw[yT fun i hi=>hs i (.inl hi),yT fun i hi=>hs i (.inr hi)]
 case pick c a b=>rw[fN fun i hi=>hs i (.inl hi),fN fun i hi=>hs i (.inr (.inl hi)),fN fun i hi=>hs i (.inr (.inr hi))]
 case slc k x lo hi mx=>rw[fN fun i hi=>hs i (.inl hi),rT fun i hi=>hs i (.inr (.inl hi)),rT fun i hi=>hs i (.inr (.inr (.inl hi))),rT fun i hi=>hs i (.inr (.inr (.inr hi)))]
 case slcS x lo hi=>rw[fN fun i hi=>hs i (.inl hi),rT fun i hi=>hs i (.inr (.inl hi)),rT fun i hi=>hs i (.inr (.inr hi))]
 all_goals first
  |rw[fN hs]
  |rw[fN fun i hi=>hs i (.inl hi),fN fun i hi=>hs i (.inr hi)]
theorem sE{s s':af}{d:Nat}{op:AOp}(hs:∀i,i∈Hj op->s' i=s i):step call md d op s' h=step call md d op s h/\∀h',fM d op s' h h'=fM d op s h h':=by
 cases op<;>simp only[Hj,List.mem_append]at hs<;>simp only[step,fM]
 case p op=>simp_all[Wh,trivial]
 case buildSl k z n ps=>
  have:(ps.map fun p=>(p.1,ev s' p.2))=ps.map fun p=>(p.1,ev s p.2):=
   List.map_congr_left fun p hp=>by rw[fN fun i hi=>hs i (by rw[List.mem_flatMap];exact⟨p,hp,hi⟩)]
  rw[this];have h2:(ps.all fun p=>dat (ev s' p.2))=ps.all fun p=>dat (ev s p.2):=by
   rw[show(ps.all fun p=>dat (ev s' p.2))=((ps.map fun p=>(p.1,ev s' p.2)).all fun p=>dat p.2)from by rw[List.all_map];rfl,this,List.all_map];rfl
  rw[h2];exact⟨rfl,fun _=>rfl⟩
 case slcM k x lo hi=>simp_all[fN,rT,trivial]
 all_goals simp_all[fN,yT,trivial]
theorem C6{d:Option Nat}{f:ac->Fp}{f':Fp}{r:Option R3}{t:St}(hz:jS s d f r=some (t,f')):∃x h',r=some (x,h',[])/\t=⟨dY s d x,h'⟩/\f'=f h':=by
 unfold jS at hz;grind
theorem yU{o:COp}{t:St}{f:Fp}(hz:df call md o s h=some (t,f)):
  ∃x h',t=⟨dY s o.d x,h'⟩/\((∀s':af,∀g:ac,(∀i,i∈iR o->s' i=s i)->df call md o s' g=some (⟨dY s' o.d x,g⟩,some ([],[])))/\h'=h/\f=some ([],[])\/
   (step call md (o.d.getD 0) o.op s h=some (x,h',[])/\f=fM (o.d.getD 0) o.op s h h'/\
    ∀s':af,∀g:ac,(∀i,i∈iR o->s' i=s i)->df call md o s' g=jS s' o.d (fM (o.d.getD 0) o.op s g) (step call md (o.d.getD 0) o.op s g))):=by
 unfold df at hz;cases hg:o.g with
 |none=>
  rw[hg]at hz;obtain⟨x,h',e1,e2,e3⟩:=C6 hz;refine⟨x,h',e2,.inr ⟨e1,e3,fun s' g hs=>?_⟩⟩;simp only[iR,hg,List.nil_append]at hs;unfold df;rw[hg];rw[(sE (h:=g) hs).1,funext (sE (call:=call) (md:=md) (h:=g) hs).2]
 |some jb=>
  obtain⟨j,b⟩:=jb;rw[hg]at hz;simp only at hz;have hj:∀s':af,(∀i,i∈iR o->s' i=s i)->s' j=s j:=fun s' hs=>hs j (by grind[iR]);unfold mo at hz;split at hz
  ·rename_i bb hb;split at hz
   ·rename_i hbb;obtain⟨x,h',e1,e2,e3⟩:=C6 hz;refine⟨x,h',e2,.inr ⟨e1,e3,fun s' g hs=>?_⟩⟩;unfold df;rw[hg];simp only;rw[hj s' hs,hb];simp only[mo,if_pos hbb];simp only[iR,hg,List.mem_append]at hs;rw[(sE (h:=g) fun i hi=>hs i (.inr hi)).1,funext (sE (call:=call) (md:=md) (h:=g) fun i hi=>hs i (.inr hi)).2]
   ·cases hz;refine⟨.und,h,rfl,.inl ⟨fun s' g hs=>?_,rfl,rfl⟩⟩
    simp_all[df,mo,if_neg]
  ·cases hz;refine⟨.und,h,rfl,.inl ⟨fun s' g hs=>?_,rfl,rfl⟩⟩
   simp_all[df,mo]
  grind
theorem EE{d:Option Nat}{x:AV}{i:Nat}(hn:∀e,d=some e->i≠e):dY s d x i=s i:=by
 cases d with
 |none=>rfl
 |some e=>exact aI _ _ (hn e rfl)
theorem Li{a b:Option Nat}(x y:AV)(hn:∀i j,a=some i->b=some j->i≠j):dY (dY s a x) b y=dY (dY s b y) a x:=by
 cases a with
 |none=>rfl
 |some i=>
  cases b with
  |none=>rfl
  |some j=>
   funext k;simp only[dY,upd];grind
theorem Hx{a b:COp}(hi:wO a b=true):(∀i d,i∈iR b->a.d=some d->i≠d)/\(∀i d,i∈iR a->b.d=some d->i≠d)/\∀i j,a.d=some i->b.d=some j->i≠j:=by
 simp only[wO,Bool.and_eq_true]at hi;grind
def oS(f g:Fp):Prop:=j6 f g=true
theorem Lj{a b:List Nat}(h:vZ a b=true){i:Nat}(ha:i∈a):i∉b:=by
 simp only[vZ,List.all_eq_true,Bool.not_eq_true',List.contains_eq_mem,decide_eq_false_iff_not]at h;exact h i ha
theorem wU{α:Type}{l:List α}(h:l.isEmpty=true):l=[]:=by cases l<;>simp at h⊢
theorem afo{a b:COp}{t1 t2:St}{fa fb:Fp}(ha:df call md a s h=some (t1,fa))(hb:df call md b t1.s t1.h=some (t2,fb))(hi:wO a b=true)(hf:oS fa fb):
  ∃t,df call md b s h=some (t,fb)/\df call md a t.s t.h=some (t2,fa):=by
 obtain⟨i1,i2,i3⟩:=Hx hi;obtain⟨xa,ha',rfl,ca⟩:=yU ha;obtain⟨xb,hb',rfl,cb⟩:=yU hb;have sb:∀i,i∈iR b->s i=dY s a.d xa i:=fun i hm=>(EE fun e he=>i1 i e hm he).symm;have sa:∀i,i∈iR a->dY s b.d xb i=s i:=fun i hm=>EE fun e he=>i2 i e hm he;have sc:=Li (s:=s) xa xb i3;rcases ca with⟨ca,rfl,rfl⟩| ⟨ea,rfl,ca⟩
 ·
  rcases cb with⟨cb,rfl,rfl⟩| ⟨eb,rfl,cb⟩
  ·grind
  ·refine⟨⟨dY s b.d xb,hb'⟩,?_,by rw[ca _ _ sa,←sc]⟩;rw[cb s _ sb,eb];rfl
 ·rcases cb with⟨cb,rfl,rfl⟩| ⟨eb,rfl,cb⟩
  ·grind[jS]
  ·
   unfold oS at hf;cases efa:fM (a.d.getD 0) a.op s h ha' with
   |none=>
    rw[efa]at hf;cases efb:fM (b.d.getD 0) b.op (dY s a.d xa) ha' hb' with
    |none=>rw[efb]at hf;cases hf
    |some q=>
     obtain⟨r,w⟩:=q;rw[efb]at hf;simp only[j6,Bool.and_eq_true]at hf;have hr:=wU hf.1;have hw:=wU hf.2;subst hr hw;have fb:=Bz eb efb;obtain⟨g1,p1,p2,p3,p4⟩:=fb h (fun i hi=>by grind);obtain⟨g2,q1,q2,q3,q4⟩:=fb ha' (fun i hi=>rfl);have e1:g1=h:=funext fun i=>p4 i (by simp);have e2:hb'=ha':=by
      grind
     grind[jS]
   |some p=>
    obtain⟨ra,wa⟩:=p;rw[efa]at hf;have fra:=Bz ea efa;cases efb:fM (b.d.getD 0) b.op (dY s a.d xa) ha' hb' with
    |none=>
     rw[efb]at hf;simp only[j6,Bool.and_eq_true]at hf;have hr:=wU hf.1;have hw:=wU hf.2;subst hr hw;obtain⟨g1,p1,p2,p3,p4⟩:=fra h (fun i hi=>rfl);have e1:ha'=h:=by
      grind
     obtain⟨g2,q1,q2,q3,q4⟩:=fra hb' (fun i hi=>by grind);have e2:g2=hb':=funext fun i=>q4 i (by simp);grind[jS]
    |some q=>
     obtain⟨rb,wb⟩:=q;rw[efb]at hf;simp only[j6,Bool.and_eq_true]at hf;obtain⟨d1,d2⟩:=hf;have frb:=Bz eb efb;have hout:∀i,cJ i∉wa->ha' i=h i:=by
      obtain⟨g1,p1,p2,p3,p4⟩:=fra h (fun i hi=>rfl);grind
     have hout2:∀i,cJ i∉wb->hb' i=ha' i:=by
      obtain⟨g1,p1,p2,p3,p4⟩:=frb ha' (fun i hi=>rfl);grind
     have nwa:∀i,cJ i∈rb\/cJ i∈wb->cJ i∉wa:=fun i hi hw=>Lj d1 hw (by grind);obtain⟨g1,p1,p2,p3,p4⟩:=frb h (fun i hi=>(hout i (nwa i hi)).symm);have agr:∀i,cJ i∈ra\/cJ i∈wa->g1 i=h i:=fun i hi=>p4 i fun hw=>by
      grind[Lj]
     obtain⟨g2,q1,q2,q3,q4⟩:=fra g1 agr;have e2:g2=hb':=funext fun i=>by
      by_cases hwa:cJ i∈wa
      all_goals grind
     grind[jS]
theorem NK{o:COp}{post:List COp}:∀ {pre:List COp} {s:af} {h:ac} {t:St} {Fs:List Fp},fF call md (pre++o::post) s h=some (t,Fs)->
  ∃Fpre f Fpost,Fs=Fpre++f::Fpost/\Fpre.length=pre.length/\((∀ (j:Nat) (a:COp) (fa:Fp),pre[j]?=some a->Fpre[j]?=some fa->wO a o=true/\oS fa f)->
   ∃t1,df call md o s h=some (t1,f)/\fF call md (pre++post) t1.s t1.h=some (t,Fpre++Fpost))
 |[],s,h,t,Fs,hz=>by
  simp only[List.nil_append,fF,Option.bind_eq_some_iff]at hz;obtain⟨⟨t1,f⟩,e1,⟨t2,F2⟩,e2,e3⟩:=hz;cases e3;exact⟨[],f,F2,rfl,rfl,fun _=>⟨t1,e1,e2⟩⟩
 |a::pre,s,h,t,Fs,hz=>by
  simp only[List.cons_append,fF,Option.bind_eq_some_iff]at hz;obtain⟨⟨t1,fa⟩,e1,⟨t2,F2⟩,e2,e3⟩:=hz;cases e3;obtain⟨Fpre,f,Fpost,rfl,hl,hh⟩:=NK e2;refine⟨fa::Fpre,f,Fpost,rfl,by grind,fun hc=>?_⟩;obtain⟨t3,g1,g2⟩:=hh fun j a' fa' h1 h2=>hc (j+1) a' fa' (by grind) (by grind);obtain⟨c1,c2⟩:=hc 0 a fa rfl rfl;obtain⟨t4,k1,k2⟩:=afo e1 g1 c1 c2;refine⟨t4,k1,?_⟩;simp only[List.cons_append,fF,k2,Option.bind_some,g2]
end
section
variable {P:Program} {I:Inv} {call:ef} {md:Mode} {N:Nat} {ops:Array Oper}
theorem Ra{o:COp}{s:af}{h:ac}{t:St}{f:Fp}(hz:df call md o s h=some (t,f)):iZ call md o s h=some t:=by
 have fin:∀ (F:ac->Fp) (r:Option R3),jS s o.d F r=some (t,f)->aqv md.nm s o.d r=some t:=by
  intro F r hz;obtain⟨x,h',e1,e2,_⟩:=C6 hz;subst e1 e2;simp only[aqv,kR,if_true];rfl
 unfold df at hz;unfold iZ;cases hg:o.g with
 |none=>
  grind
 |some jb=>
  unfold mo at hz;unfold aqQ;grind
theorem sF:∀ {l:List Oper} {hs cl:List COp},mX P N ops hs l=some cl->cl.length=l.length/\∀ (j:Nat) (o:Oper) (c:COp),l[j]?=some o->cl[j]?=some c->∃hint,Ew P N ops hint o=some c
 |[],hs,cl,hc=>by grind[mX,Option.some.injEq]
 |o::l,hs,cl,hc=>by
  simp only[mX,Option.bind_eq_some_iff]at hc;obtain⟨c,e1,q,e2,e3⟩:=hc;cases e3;obtain⟨g1,g2⟩:=sF e2;refine⟨by simp[g1],fun j o' c' h1 h2=>?_⟩;cases j with
  |zero=>simp at h1 h2;subst h1 h2;exact⟨_,e1⟩
  |succ j=>exact g2 j o' c' (by simpa using h1) (by simpa using h2)
theorem NL:∀ {l:List COp} {s:af} {h:ac} {t:St} {Fs:List Fp},fF call md l s h=some (t,Fs)->Fs.length=l.length/\∀ (j:Nat) (a:COp) (f:Fp),l[j]?=some a->Fs[j]?=some f->∃s' h' t',df call md a s' h'=some (t',f)
 |[],s,h,t,Fs,hz=>by grind[fF,Option.some.injEq,Prod.mk.injEq]
 |o::l,s,h,t,Fs,hz=>by
  simp only[fF,Option.bind_eq_some_iff]at hz;obtain⟨⟨t1,f1⟩,e1,⟨t2,F2⟩,e2,e3⟩:=hz;cases e3;obtain⟨g1,g2⟩:=NL e2;refine⟨by simp[g1],fun j a f h1 h2=>?_⟩;cases j with
  |zero=>simp at h1 h2;subst h1 h2;exact⟨s,h,t1,e1⟩
  |succ j=>exact g2 j a f (by simpa using h1) (by simpa using h2)
theorem Jt{i:Nat}:∀ {l acc:List Nat},i∈RX acc l↔i∈acc\/i∈l
 |[],acc=>by simp[RX]
 |a::l,acc=>by
  unfold RX;cases h:acc.contains a with
  |true=>
   rw[Jt];have ha:a∈acc:=by simpa using h
   constructor
   ·rintro(h1|h1)
    ·exact .inl h1
    ·exact .inr (List.mem_cons_of_mem _ h1)
   ·rintro(h1|h1)
    ·exact .inl h1
    ·rcases List.mem_cons.1 h1 with rfl|h1
     ·exact .inl ha
     ·exact .inr h1
  |false=>
   rw[Jt];simp only[List.mem_cons];constructor
   ·rintro((h1|h1)|h1)
    ·exact .inr (.inl h1)
    ·exact .inl h1
    ·exact .inr (.inr h1)
   ·rintro(h1|h1|h1)
    ·exact .inl (.inr h1)
    ·exact .inl (.inl h1)
    ·exact .inr h1
theorem Gb{o:Oper}{acc:List (List Nat)}{i:Nat}:i∈Bn o acc↔i∈mw o\/∃d∈mw o,i∈acc.getD d []:=by
 unfold Bn;rw[Jt,List.mem_append,List.mem_flatMap];simp
theorem Gc:∀ (l:List Oper) (acc:List (List Nat)),∃r,lE l acc=acc++r/\r.length=l.length
 |[],acc=>⟨[],by simp[lE],rfl⟩
 |o::l,acc=>by
  obtain⟨r,e1,e2⟩:=Gc l (acc++[Bn o acc]);grind[Bn,lE,List.append_assoc]
theorem NM:∀ (l:List Oper) (acc:List (List Nat)) (j:Nat) (o:Oper),l[j]?=some o->∃pre,(lE l acc)[acc.length+j]?=some (Bn o pre)/\
  pre.length=acc.length+j/\∃r,lE l acc=pre++r
 |[],acc,j,o,h=>by grind
 |o::l,acc,0,o',h=>by
  obtain⟨r,e1,e2⟩:=Gc l (acc++[Bn o acc]);grind[lE,List.append_assoc]
 |o::l,acc,j+1,o',h=>by
  obtain⟨pre,e1,e2,e3⟩:=NM l (acc++[Bn o acc]) j o' (by grind);refine⟨pre,?_,by grind,e3⟩;rw[lE,←e1];grind
theorem C7{C:Nat->Nat->COp->COp->Bool}{j:Nat}{b:COp}{bf:List Nat}:∀ {l:List COp} {i0:Nat},Ez C j b bf i0 l=true->∀ (i:Nat) (a:COp),l[i]?=some a->(i0+i)∈bf\/C (i0+i) j a b=true
 |[],i0,_,i,a,h=>by grind
 |c::l,i0,hd,i,a,h=>by
  simp only[Ez,Bool.and_eq_true,Bool.or_eq_true]at hd;cases i with
  |zero=>grind
  |succ i=>
   have:=C7 hd.2 i a (by grind);grind
theorem wj{C:Nat->Nat->COp->COp->Bool}:∀ {l:List COp} {bs:List (List Nat)} {j0:Nat} {done:List COp},done.length=j0->Bo C j0 done l bs=true->∀ (j:Nat) (b:COp) (bf:List Nat),l[j]?=some b->bs[j]?=some bf->
  (∀i∈bf,i<j0+j)/\∀ (i:Nat) (a:COp),i<j0+j->(done++l)[i]?=some a->i∈bf\/C i (j0+j) a b=true
 |[],bs,j0,done,hl,hd,j,b,bf,h1,h2=>by grind
 |c::l,[],j0,done,hl,hd,j,b,bf,h1,h2=>by grind
 |c::l,b0::bs,j0,done,hl,hd,j,b,bf,h1,h2=>by
  simp only[Bo,Bool.and_eq_true,List.all_eq_true,decide_eq_true_eq]at hd;cases j with
  |zero=>
   simp at h1 h2;subst h1 h2;refine⟨hd.1,fun i a hi ha=>?_⟩;rw[List.getElem?_append_left (by omega)]at ha;simpa using C7 hd.2.1 i a ha
  |succ j=>
   obtain⟨g1,g2⟩:=wj (by grind) hd.2.2 j b bf (by grind) (by grind);grind
theorem Lk(f:Fp):oS (some ([],[])) f:=by
 unfold oS;cases f<;>simp[j6,vZ]
theorem oS.symm{f g:Fp}(h:oS f g):oS g f:=by
 unfold oS at*
 cases f<;>cases g<;>simp only[j6]at h⊢ <;>try exact h
 simp only[Bool.and_eq_true,vZ,List.all_eq_true,Bool.not_eq_true',List.contains_eq_mem,decide_eq_false_iff_not,List.mem_append]at h⊢;grind
theorem R6{o:COp}{s:af}{h:ac}{t:St}{f:Fp}(hz:df call md o s h=some (t,f))(hp:isP o.op=true):f=some ([],[]):=by
 obtain⟨x,h',e,⟨_,_,rfl⟩| ⟨_,rfl,_⟩⟩:=yU hz
 ·rfl
 ·cases ho:o.op<;>rw[ho]at hp<;>first|rfl|cases hp
theorem Hy{o:COp}{s:af}{h:ac}{t:St}{f:Fp}(hz:df call md o s h=some (t,f))(hp:Np o.op=true):∃r,f=some (r,[]):=by
 obtain⟨x,h',e,⟨_,_,rfl⟩| ⟨e2,rfl,_⟩⟩:=yU hz
 ·grind
 ·cases ho:o.op<;>rw[ho]at hp<;>try (cases hp;done)
  rename_i k g y;rw[ho]at e2;simp only[step]at e2;simp only[fM];cases hy:ev s y<;>rw[hy]at e2<;>simp only[fW]at e2<;>first| (cases e2;done)|exact⟨_,rfl⟩
abbrev aaH:=List (Nat×COp×Fp)
theorem Ok.draws{w:World}{X:Nat->Prop}{ρ:br}{h:ac}{s:af}{a:Act}(ok:Ok I N w X ρ h s a):Ok I N {w with drawn:=w.drawn+1} X ρ h s a/\Far md.nm w ρ h {w with drawn:=w.drawn+1} ρ h:=by
 have e:Evo w ρ h {w with drawn:=w.drawn+1} ρ h []:=⟨rfl,rfl,rfl,Nat.le_refl _,fun _ _ _=>rfl,fun _ _ hp _=>⟨hp,rfl⟩,fun _ ho=>.inl ho,fun _ hb=>⟨hb,rfl⟩,fun _ _ hd=>⟨hd,rfl⟩⟩;exact⟨⟨ok.rel.step e (fun _=>False) (fun _ _=>⟨rfl,fun _=>rfl,fun _ _=>rfl⟩) ok.rel.inj ok.rel.nx (fun _ hf=>hf.elim),e.rs ok.rs,ok.size,ok.defers,e.inv ok.rel ok.inv⟩,e.far (kR _)⟩
def C8(g:Nat)(a b:COp):Prop:=∃e n,a=⟨some e,none,.p (.mv (.t n))⟩/\wO a b=true/\(g=0\/(g≠e+1/\g≠n+1))
theorem Ub{g:Nat}{a b:COp}(h:TB g a b=true):C8 g a b:=by
 unfold TB at h;split at h
 ·rename_i e n;simp only[Bool.and_eq_true,Bool.or_eq_true,beq_iff_eq,bne_iff_ne]at h;exact⟨e,n,rfl,h.1,h.2⟩
 grind
theorem C8.zero{g:Nat}{a b:COp}(h:C8 g a b):C8 0 a b:=by
 obtain⟨e,n,h1,h2,_⟩:=h;exact⟨e,n,h1,h2,.inl rfl⟩
theorem NN(ks:K)(s:af)(e n:Nat):gJ ks (upd s e (s n))=upd (gJ ks s) e (gJ ks s n):=by
 cases ks with
 |nil=>rfl
 |cons p l=>
  grind[gJ,upd]
theorem NO{d:Option Nat}{e:Nat}{x y:AV}{s:af}(hd:d≠some e):dY (upd s e y) d x=upd (dY s d x) e y:=by
 have:=Li (s:=s) (a:=some e) (b:=d) y x fun i j h1 h2=>by
  grind
 exact this
theorem Ll{nm:Bool}{s:af}{d:Option Nat}{e n:Nat}{r:Option R3}{t:St}(h1:d≠some e)(h2:d≠some n)(hz:aqv nm (upd s e (s n)) d r=some t):∃t2,aqv nm s d r=some t2/\t=⟨upd t2.s e (t2.s n),t2.h⟩:=by
 unfold aqv at hz⊢;split at hz
 ·split at hz
  ·grind[dY,gJ,EE,NN,NO]
  grind
 grind
theorem Uc{b:COp}{s:af}{h:ac}{e n:Nat}{t:St}(hi:wO ⟨some e,none,.p (.mv (.t n))⟩ b=true)(hz:iZ call md b (upd s e (s n)) h=some t):∃t2,iZ call md b s h=some t2/\t=⟨upd t2.s e (t2.s n),t2.h⟩:=by
 obtain⟨i1,i2,i3⟩:=Hx hi;have h1:b.d≠some e:=fun hh=>i3 e e rfl hh rfl;have h2:b.d≠some n:=fun hh=>i2 n n (by simp[iR,Hj,Hi,fE]) hh rfl;have hr:∀i,i∈iR b->upd s e (s n) i=s i:=fun i hm=>aI _ _ (i1 i e hm rfl);have hs:step call md (b.d.getD 0) b.op (upd s e (s n)) h=step call md (b.d.getD 0) b.op s h:=(sE fun i hm=>hr i (by grind[iR])).1;have hu:∀x:AV,dY (upd s e (s n)) b.d x=upd (dY s b.d x) e (dY s b.d x n):=fun x=>by
  rw[NO h1];grind[EE]
 unfold iZ at hz⊢;cases hg:b.g with
 |none=>
  grind[Ll]
 |some jb=>
  obtain⟨j,w⟩:=jb;rw[hg]at hz;simp only at hz⊢;rw[hs,hr j (by grind[iR])]at hz;unfold aqQ at hz⊢;split at hz
  ·split at hz
   all_goals simp_all[if_pos,Ll,if_neg]
  all_goals grind
theorem YQ{s:af}{i e:Nat}{x y:AV}(hn:i≠e):upd (upd s e y) i x=upd (upd s i x) e y:=by
 grind[upd]
theorem Ud{nm:Bool}{g:Nat}{s:af}{h:ac}{e n:Nat}{t:St}(hg:g=0\/(g≠e+1/\g≠n+1))(hz:nZ nm g (upd s e (s n)) h=some t):∃t2,nZ nm g s h=some t2/\t=⟨upd t2.s e (t2.s n),t2.h⟩:=by
 cases g with
 |zero=>cases hz;exact⟨_,rfl,rfl⟩
 |succ i=>
  have h1:i≠e:=by omega
  simp only[nZ]at hz⊢;rw[aI _ _ h1]at hz;simp only[Option.bind_eq_some_iff]at hz;obtain⟨r,e1,e2⟩:=hz;split at e2
  ·cases hi:s i<;>rw[hi]at e1<;>simp only[K4]at e1<;>try (cases e1;done)
   ·cases e1
    simp_all[K4,kR]
   ·rename_i id sub k lo m;cases sub with
    |none=>grind
    |some p=>
    simp only at e1;split at e1
    ·cases eo:h id<;>rw[eo]at e1<;>simp only[RW]at e1<;>try (cases e1;done)
     rename_i cs;cases ec:cs[p]? with
     |none=>grind[Hk]
     |some c=>
      rw[ec]at e1;cases c<;>simp only[Hk]at e1<;>try (cases e1;done)
      split at e1
      ·cases e1
       simp_all[K4,if_pos,RW,Hk,Option.bind_some,NN,YQ,aI,Ne.symm]
      grind
    grind
  grind
theorem NP{g:Nat}{y:COp}:∀ {L:List COp} {s:af} {h:ac} {t0 t1 t2:St} {Fs:List Fp},(∀x∈L,C8 g x y)->fF call md L s h=some (t0,Fs)->nZ md.nm g t0.s t0.h=some t1->iZ call md y t1.s t1.h=some t2->
  ∃r1 r2,nZ md.nm g s h=some r1/\iZ call md y r1.s r1.h=some r2/\fF call md L r2.s r2.h=some (t2,Fs)
 |[],s,h,t0,t1,t2,Fs,_,h1,h2,h3=>by
  grind[fF,Option.some.injEq,Prod.mk.injEq]
 |a::L,s,h,t0,t1,t2,Fs,hl,h1,h2,h3=>by
  obtain⟨e,n,rfl,hi,hg⟩:=hl a (by simp);simp only[fF,Option.bind_eq_some_iff]at h1;obtain⟨⟨t',f⟩,e1,⟨t'',F2⟩,e2,e3⟩:=h1;cases e3;have e1':t'=⟨upd s e (s n),h⟩/\f=some ([],[]):=by
   simp only[df,step,eO,ev,xz,Option.map_some,jS,fM,Option.some.injEq,Prod.mk.injEq]at e1;exact⟨e1.1.symm,e1.2.symm⟩
  obtain⟨rfl,rfl⟩:=e1';obtain⟨r1,r2,g1,g2,g3⟩:=NP (fun x hx=>hl x (by grind)) e2 h2 h3;obtain⟨q1,k1,rfl⟩:=Ud hg g1;obtain⟨q2,k2,rfl⟩:=Uc hi g2
  simp_all[fF,df,step,eO,ev,xz,Option.map_some,jS,fM,Option.bind_some,dY]
abbrev aaI:=List (Nat×COp)
structure RestB (ops:Array Oper) (cl:List COp) (bf:Nat->List Nat) (listed:Array Bool) (g:Nat) (L:aaH) (T:aaI):Prop where
 size:listed.size=ops.size
 op:∀x∈L,cl[x.1]?=some x.2.1/\listed.getD x.1 true=false
 opT:∀y∈T,cl[y.1]?=some y.2/\listed.getD y.1 true=false
 all:∀j,j<ops.size->listed.getD j true=false->(∃x∈L,x.1=j)\/∃y∈T,y.1=j
 pw:L.Pairwise fun x y=>x.1<y.1/\(x.1∈bf y.1\/(wO x.2.1 y.2.1=true/\oS x.2.2 y.2.2))
 lt:∀x∈L,∀y∈T,x.1<y.1/\(x.1∈bf y.1\/C8 g x.2.1 y.2)
 pwT:T.Pairwise fun x y=>x.1<y.1/\x.1∈bf y.1
 cls:∀k,k<ops.size->listed.getD k true=true->∀i∈bf k,listed.getD i true=true
theorem C9(hcall:ji P I call md)(hN:N<=1000){hs cl:List COp}(hc:mX P N ops hs ops.toList=some cl){bf:Nat->List Nat}
  (hlt:∀j,j<ops.size->∀i∈bf j,i<j) (hdep:∀ (j:Nat) (o:Oper),ops[j]?=some o->(∀d∈mw o,d∈bf j)/\∀i∈bf j,i∈mw o\/∃d∈mw o,i∈bf d):
  ∀ (fuel:Nat) {g:Nat} {L:aaH} {T:aaI} {listed:Array Bool} {w:World} {X:Nat->Prop} {ρ:br} {h:ac} {s:af} {a:Act} {t0 tg t:St} {Q:Exit->Act->World->Prop},L.length+T.length=fuel->RestB ops cl bf listed g L T->
   fF call md (L.map (·.2.1)) s h=some (t0,L.map (·.2.2))->nZ md.nm g t0.s t0.h=some tg->aC call md (T.map (·.2)) tg.s tg.h=some t->Ok I N w X ρ h s a->(∀a' w' ρ',Ok I N w' X ρ' t.h t.s a'->Far md.nm w ρ h w' ρ' t.h->Q .normal a' w')->wpAny P .any ops Q fuel listed a w
 |0,g,L,T,listed,w,X,ρ,h,s,a,t0,tg,t,Q,hl,hr,hz,hgh,hT,ok,hQ=>by
  have:L=[]:=by simp_all
  subst this;have:T=[]:=by simp_all
  subst this;simp only[List.map_nil,fF,Option.some.injEq,Prod.mk.injEq]at hz;obtain⟨rfl,_⟩:=hz;simp only[List.map_nil,aC,Option.some.injEq]at hT;subst hT;obtain⟨ρ',ok',far'⟩:=Fx ok hgh;refine⟨?_,hQ _ _ ρ' ok' far'⟩;rw[List.eq_nil_iff_forall_not_mem];intro j hj;obtain⟨h1,o,h2,_⟩:=mem_ready.1 hj;rcases hr.all j (Array.getElem?_eq_some_iff.1 h2).1 h1 with⟨x,hx,_⟩| ⟨x,hx,_⟩<;>simp at hx
 |fuel+1,g,L,T,listed,w,X,ρ,h,s,a,t0,tg,t,Q,hl,hr,hz,hgh,hT,ok,hQ=>by
  have tf:∀d,d<ops.size->listed.getD d true=listed.getD d false:=fun d hd=>by
   have:d<listed.size:=by rw[hr.size];omega
   grind
  have lenc:=(sF hc).1;have cllt:∀ {j:Nat} {c:COp},cl[j]?=some c->j<ops.size:=fun h1=>by
   grind
  have first:∀j,j<ops.size->listed.getD j true=false->(∀k,k<j->listed.getD k true=true)->j∈Region.ready .any ops listed:=by
   intro j hj h1 h2;have hox:ops[j]?=some ops[j]:=by grind
   refine mem_ready.2 ⟨h1,ops[j],hox,fun e he hb=>?_⟩;have hd:e.on∈mw ops[j]:=by
    simp only[mw,List.mem_map,List.mem_filter];exact⟨e,⟨by simpa using he,hb⟩,rfl⟩
   have hlt':=hlt j hj _ ((hdep j _ hox).1 _ hd);rw[←tf e.on (by omega)];exact h2 _ hlt'
  have isT:∀k,listed.getD k true=true\/listed.getD k true=false:=fun k=>by cases listed.getD k true<;>simp
  refine⟨fun hnil=>?_,fun i hi=>?_⟩
  ·exfalso;have key:∃j,j<ops.size/\listed.getD j true=false/\∀k,k<j->listed.getD k true=true:=by
    cases L with
    |cons x L'=>
     obtain⟨h1,h2⟩:=hr.op x (by simp);refine⟨x.1,cllt h1,h2,fun k hk=>?_⟩;rcases isT k with h3|h3
     ·omega
     ·rcases hr.all k (Nat.lt_trans hk (cllt h1)) h3 with⟨y,hy,rfl⟩| ⟨y,hy,rfl⟩
      ·rcases List.mem_cons.1 hy with rfl|hy'
       ·omega
       ·have:=(List.pairwise_cons.1 hr.pw).1 y hy';omega
      ·have:=(hr.lt x (by simp) y hy).1;omega
    |nil=>
     cases T with
     |nil=>grind
     |cons x T'=>
      obtain⟨h1,h2⟩:=hr.opT x (by simp);refine⟨x.1,cllt h1,h2,fun k hk=>?_⟩;rcases isT k with h3|h3
      ·omega
      ·rcases hr.all k (Nat.lt_trans hk (cllt h1)) h3 with⟨y,hy,rfl⟩| ⟨y,hy,rfl⟩
       ·grind
       ·rcases List.mem_cons.1 hy with rfl|hy'
        ·omega
        ·have:=(List.pairwise_cons.1 hr.pwT).1 y hy';omega
   grind
  ·obtain⟨h1,o,h2,h3⟩:=mem_ready.1 hi;have hisz:i<ops.size:=(Array.getElem?_eq_some_iff.1 h2).1;have hbl:∀k∈bf i,listed.getD k true=true:=by
    intro k hk;have dl:∀d∈mw o,listed.getD d true=true:=by
     intro d hd;have hdl:d<ops.size:=Nat.lt_trans (hlt i hisz d ((hdep i o h2).1 d hd)) hisz;simp only[mw,List.mem_map,List.mem_filter]at hd;obtain⟨e,⟨he,hb⟩,rfl⟩:=hd;rw[tf _ hdl];exact h3 e (by simpa using he) hb
    rcases(hdep i o h2).2 k hk with hd| ⟨d,hd,hkd⟩
    ·grind
    ·exact hr.cls d (Nat.lt_trans (hlt i hisz d ((hdep i o h2).1 d hd)) hisz) (dl d hd) k hkd
   have set_ne:∀k,k≠i->(listed.setIfInBounds i true).getD k true=listed.getD k true:=fun k hk=>getD_set_ne true (Ne.symm hk);have set_same:(listed.setIfInBounds i true).getD i true=true:=by
    simp_all
   have cls':∀k,k<ops.size->(listed.setIfInBounds i true).getD k true=true->∀k'∈bf k,(listed.setIfInBounds i true).getD k' true=true:=fun k hk hkl k' hk'=>by
    have old:listed.getD k' true=true:=by
     by_cases hkx:k=i
     ·grind
     ·rw[set_ne _ hkx]at hkl;exact hr.cls k hk hkl k' hk'
    grind
   rcases hr.all i hisz h1 with⟨x,hx,rfl⟩| ⟨y,hy,rfl⟩
   ·obtain⟨L1,L2,rfl⟩:=List.append_of_mem hx;have hpw:=hr.pw;rw[List.pairwise_append]at hpw;obtain⟨pw1,pw2,pw3⟩:=hpw;rw[List.pairwise_cons]at pw2;simp only[List.map_append,List.map_cons]at hz;obtain⟨Fpre,f,Fpost,e1,e2,e3⟩:=NK hz;have e4:Fpre=L1.map (·.2.2)/\f=x.2.2/\Fpost=L2.map (·.2.2):=by
     grind[List.append_inj,List.cons.injEq]
    obtain⟨rfl,rfl,rfl⟩:=e4;obtain⟨t1,g1,g2⟩:=e3 fun j c fc hj1 hj2=>by
     simp only[List.getElem?_map,Option.map_eq_some_iff]at hj1 hj2;obtain⟨y,hy,rfl⟩:=hj1;obtain⟨y',hy',rfl⟩:=hj2;rw[hy]at hy';cases hy';have hyL:=List.mem_of_getElem? hy;rcases(pw3 y hyL x (by simp)).2 with hin|hh
     ·have:=hbl _ hin;rw[(hr.op y (by grind)).2]at this;grind
     omega
    obtain⟨c1,_⟩:=hr.op x (by simp);obtain⟨hint,hco⟩:=(sF hc).2 x.1 o x.2.1 (by simpa using h2) c1;have nx:∀y,y∈L1++L2->y.1≠x.1:=by
     intro y hy;rcases List.mem_append.1 hy with hy|hy
     ·have:=(pw3 y hy x (by simp)).1;omega
     ·have:=(pw2.1 y hy).1;omega
    refine Bx hcall hN h2 hco ok (Ra g1) fun a' w' ρ' ok' far=>?_;refine C9 hcall hN hc hlt hdep fuel (L:=L1++L2) (T:=T) (by simp at hl⊢;omega) ⟨by simpa using hr.size,fun y hy=>?_,fun y hy=>?_,fun j hj hjl=>?_,?_,fun y hy=>hr.lt y (by rcases List.mem_append.1 hy with hy|hy<;>simp[hy]),hr.pwT,cls'⟩ (by simpa [List.map_append]using g2) hgh hT ok' fun a'' w'' ρ'' ok'' far'=>hQ _ _ ρ'' ok'' (far.trans far')
    ·obtain⟨q1,q2⟩:=hr.op y (by rcases List.mem_append.1 hy with hy|hy<;>simp[hy]);exact⟨q1,by rw[set_ne _ (nx y hy)];exact q2⟩
    ·obtain⟨q1,q2⟩:=hr.opT y hy;have:=(hr.lt x (by simp) y hy).1;exact⟨q1,by rw[set_ne _ (by omega)];exact q2⟩
    ·have hne:j≠x.1:=by rintro rfl;rw[set_same]at hjl;cases hjl
     rw[set_ne _ hne]at hjl;rcases hr.all j hj hjl with⟨y,hy,rfl⟩|hyT
     ·refine .inl ⟨y,?_,rfl⟩;simp only[List.mem_append,List.mem_cons]at hy⊢;rcases hy with hy|rfl|hy
      ·exact .inl hy
      ·exact absurd rfl hne
      ·exact .inr hy
     ·exact .inr hyT
    grind
   ·
    cases T with
    |nil=>simp at hy
    |cons z T'=>
    have hzy:z=y:=by
     rcases List.mem_cons.1 hy with rfl|hy'
     ·rfl
     ·have h5:=((List.pairwise_cons.1 hr.pwT).1 y hy').2;have:=hbl _ h5;rw[(hr.opT z (by simp)).2]at this;cases this
    subst hzy;have hlate:∀x∈L,C8 g x.2.1 z.2:=fun x hx=>by
     rcases(hr.lt x hx z (by simp)).2 with h5|h5
     ·have:=hbl _ h5;rw[(hr.op x hx).2]at this;cases this
     ·exact h5
    simp only[List.map_cons,aC,aT]at hT;split at hT
    ·cases hT
    ·rename_i t2 ht2;obtain⟨r1,r2,g1,g2,g3⟩:=NP (L:=L.map (·.2.1)) (fun x hx=>by
      obtain⟨q,hq,rfl⟩:=List.mem_map.1 hx;exact hlate q hq) hz hgh ht2
     obtain⟨ρg,okg,farg⟩:=Fx ok g1;obtain⟨c1,_⟩:=hr.opT z (by simp);obtain⟨hint,hco⟩:=(sF hc).2 z.1 o z.2 (by simpa using h2) c1;refine Bx hcall hN h2 hco okg g2 fun a' w' ρ' ok' far=>?_;refine C9 hcall hN hc hlt hdep fuel (g:=0) (L:=L) (T:=T') (by simp at hl⊢;omega) ⟨by simpa using hr.size,fun x hx=>?_,fun y hy=>?_,fun j hj hjl=>?_,hr.pw,fun x hx y hy=>?_,(List.pairwise_cons.1 hr.pwT).2,cls'⟩ g3 rfl hT ok' fun a'' w'' ρ'' ok'' far'=>hQ _ _ ρ'' ok'' ((farg.trans far).trans far')
     ·obtain⟨q1,q2⟩:=hr.op x hx;have:=(hr.lt x hx z (by simp)).1;exact⟨q1,by rw[set_ne _ (by omega)];exact q2⟩
     ·obtain⟨q1,q2⟩:=hr.opT y (by simp[hy]);have:=((List.pairwise_cons.1 hr.pwT).1 y hy).1;exact⟨q1,by rw[set_ne _ (by omega)];exact q2⟩
     ·have hne:j≠z.1:=by rintro rfl;rw[set_same]at hjl;cases hjl
      rw[set_ne _ hne]at hjl;rcases hr.all j hj hjl with hx| ⟨y,hy,rfl⟩
      ·exact .inl hx
      ·rcases List.mem_cons.1 hy with rfl|hy'
       ·exact absurd rfl hne
       ·exact .inr ⟨y,hy',rfl⟩
     ·obtain⟨q1,q2⟩:=hr.lt x hx y (by simp[hy]);exact⟨q1,q2.imp_right C8.zero⟩
theorem NQ(hm:P.follows .mixedOrders=true)(hcall:ji P I call md)(hN:N<=1000){id:Nat}{hs0 cl:List COp}{w:World}{X:Nat->Prop}{ρ:br}{h:ac}{s:af}{a:Act}{t0 tg t:St}{m g:Nat}{qs:List (Nat×Nat)}{Fs:List Fp}{Q:Exit->Act->World->Prop}
  (hc:mX P N ops hs0 ops.toList=some cl)
  (hsp:∀ (j:Nat) (b:COp) (bf:List Nat),cl[j]?=some b->(lE ops.toList [])[j]?=some bf->(∀i∈bf,i<j)/\∀ (i:Nat) (a:COp),i<j->cl[i]?=some a->i∈bf\/Ey m g qs i j a b=true)
  (ok:Ok I N w X ρ h s a) (e1:fF call md (cl.take m) s h=some (t0,Fs)) (hps:qs.all (rQ Fs)=true) (hgh:nZ md.nm g t0.s t0.h=some tg) (hT:aC call md (cl.drop m) tg.s tg.h=some t)
  (hQ:∀a' w' ρ',Ok I N w' X ρ' t.h t.s a'->Far md.nm w ρ h w' ρ' t.h->Q .normal a' w'):(Code.region id ops true).wp P Q a w:=by
 refine wp_region_any hm ?_;obtain⟨ok',far'⟩:=ok.draws (md:=md);obtain⟨lf,gf⟩:=NL e1;obtain⟨lc,gc⟩:=sF hc;have lc':cl.length=ops.size:=by omega
 have ltm:(cl.take m).length=min m ops.size:=by grind
 have lb:(lE ops.toList []).length=ops.size:=by
  obtain⟨r,q1,q2⟩:=Gc ops.toList [];grind
 have bget:∀j,j<ops.size->(lE ops.toList [])[j]?=some ((lE ops.toList []).getD j []):=fun j hj=>by
  grind
 have hlt:∀j,j<ops.size->∀i∈ (lE ops.toList []).getD j [],i<j:=fun j hj i hi=>by
  simp_all
 have hdep:∀ (j:Nat) (o:Oper),ops[j]?=some o->(∀d∈mw o,d∈ (lE ops.toList []).getD j [])/\∀i∈ (lE ops.toList []).getD j [],i∈mw o\/∃d∈mw o,i∈ (lE ops.toList []).getD d []:=fun j o hj=>by
  have hjs:j<ops.size:=(Array.getElem?_eq_some_iff.1 hj).1;obtain⟨pre,q1,q2,r,q3⟩:=NM ops.toList [] j o (by grind);simp only[List.length_nil,Nat.zero_add]at q1 q2;have hrow:(lE ops.toList []).getD j []=Bn o pre:=by
   grind
  have hpre:∀d∈mw o,pre.getD d []=(lE ops.toList []).getD d []:=fun d hd=>by
   have hdj:d<j:=hlt j hjs d (by rw[hrow];exact Gb.2 (.inl hd));grind
  refine⟨fun d hd=>by rw[hrow];exact Gb.2 (.inl hd),fun i hi=>?_⟩;rw[hrow]at hi;rcases Gb.1 hi with hi| ⟨d,hd,hid⟩
  all_goals grind
 have getL:∀x∈ (List.range ops.size).zip ((cl.take m).zip Fs),x.1<m/\x.1<ops.size/\cl[x.1]?=some x.2.1/\Fs[x.1]?=some x.2.2:=fun x hx=>by
  obtain⟨n,hn⟩:=List.getElem?_of_mem hx;grind
 have getT:∀y∈ (List.range' (min m ops.size) (ops.size-m)).zip (cl.drop m),m<=y.1/\y.1<ops.size/\cl[y.1]?=some y.2:=fun y hy=>by
  obtain⟨n,hn⟩:=List.getElem?_of_mem hy;rw[List.getElem?_zip_eq_some]at hn;grind
 refine C9 hcall hN hc (bf:=fun j=>(lE ops.toList []).getD j []) hlt hdep ops.size (g:=g) (L:=(List.range ops.size).zip ((cl.take m).zip Fs)) (T:=(List.range' (min m ops.size) (ops.size-m)).zip (cl.drop m)) ?_ ⟨by simp,fun x hx=>?_,fun y hy=>?_,fun j hj _=>?_,?_,fun x hx y hy=>?_,?_,fun k hk hkl=>?_⟩ (t0:=t0) (tg:=tg) (t:=t) ?_ hgh ?_ ok' fun a'' w'' ρ'' ok'' far''=>hQ _ _ ρ'' ok'' (far'.trans far'')
 ·grind
 ·obtain⟨q0,q1,q2,q3⟩:=getL x hx;exact⟨q2,by simp[q1]⟩
 ·obtain⟨q0,q1,q2⟩:=getT y hy;exact⟨q2,by simp[q1]⟩
 ·by_cases hjm:j<m
  ·have hjt:j< (cl.take m).length:=by omega
   refine .inl ⟨(j,(cl.take m)[j],Fs[j]'(by omega)),?_,rfl⟩;refine List.mem_of_getElem? (i:=j) ?_;grind
  ·have hjt:j-m< (cl.drop m).length:=by rw[List.length_drop,lc'];omega
   refine .inr ⟨(j,(cl.drop m)[j-m]),?_,rfl⟩;refine List.mem_of_getElem? (i:=j-m) ?_;rw[List.getElem?_zip_eq_some];refine⟨?_,by rw[List.getElem?_eq_getElem hjt]⟩;rw[List.getElem?_range' (by omega)];simp only[Option.some.injEq];omega
 ·rw[List.pairwise_iff_getElem];intro i j hi hj hij;have hj':j< (cl.take m).length/\j<Fs.length:=by simp only[List.length_zip,List.length_range,lf]at hj;omega
  have hjs:j<ops.size:=by omega
  have hjm:j<m:=by omega
  simp only[List.getElem_zip,List.getElem_range,List.getElem_take];refine⟨hij,?_⟩;rcases(hsp j cl[j] _ (by simp) (bget j hjs)).2 i cl[i] (by omega) (by simp)with hb|hb
  ·grind
  ·refine .inr ?_;simp only[Ey,if_pos hjm,TA,Bool.and_eq_true,Bool.or_eq_true]at hb;obtain⟨hb1,hb2⟩:=hb;refine⟨hb1,?_⟩;have gi:∀q (hq:q< (cl.take m).length) (hq':q<Fs.length),∃s' h' t',df call md (cl[q]'(by omega)) s' h'=some (t',Fs[q]):=fun q hq hq'=>by
    refine gf q _ _ ?_ (by rw[List.getElem?_eq_getElem hq']);rw[List.getElem?_eq_getElem hq,List.getElem_take]
   obtain⟨s1,h1,t1,st1⟩:=gi i (by omega) (by omega);obtain⟨s2,h2,t2,st2⟩:=gi j hj'.1 hj'.2;rcases hb2 with((hb2|hb2)|hb2)|hb2
   ·rw[R6 st1 hb2];exact Lk _
   ·rw[R6 st2 hb2];exact(Lk _).symm
   ·obtain⟨r1,k1⟩:=Hy st1 hb2.1;obtain⟨r2,k2⟩:=Hy st2 hb2.2;rw[k1,k2];simp[oS,j6,vZ]
   ·have:=List.all_eq_true.1 hps (i,j) (by simpa using hb2);simp only[rQ]at this;rw[List.getElem?_eq_getElem (show i<Fs.length from by omega),List.getElem?_eq_getElem hj'.2]at this;exact this
 ·obtain⟨q0,q1,q2,q3⟩:=getL x hx;obtain⟨p0,p1,p2⟩:=getT y hy;refine⟨by omega,?_⟩;rcases(hsp y.1 y.2 _ p2 (bget y.1 p1)).2 x.1 x.2.1 (by omega) q2 with hb|hb
  ·exact .inl hb
  ·simp only[Ey,if_neg (show¬y.1<m by omega),Bool.and_eq_true]at hb;exact .inr (Ub hb.2)
 ·rw[List.pairwise_iff_getElem];intro i j hi hj hij;have hi':=getT _ (List.getElem_mem hi);have hj':=getT _ (List.getElem_mem hj);have hlt2:((List.range' (min m ops.size) (ops.size-m)).zip (cl.drop m))[i].1< ((List.range' (min m ops.size) (ops.size-m)).zip (cl.drop m))[j].1:=by
   simp only[List.getElem_zip,List.getElem_range'];omega
  refine⟨hlt2,?_⟩;rcases(hsp _ _ _ hj'.2.2 (bget _ hj'.2.1)).2 _ _ hlt2 hi'.2.2 with hb|hb
  ·omega
  ·simp only[Ey,if_neg (Nat.not_lt.2 hj'.1),Bool.and_eq_true,decide_eq_true_eq]at hb;have:=hb.1;have:=hi'.1;omega
 ·simp[hk]at hkl
 ·have m1:((List.range ops.size).zip ((cl.take m).zip Fs)).map (·.2.1)=cl.take m:=by
   rw[show(fun x:Nat×COp×Fp=>x.2.1)=Prod.fst∘Prod.snd from rfl,←List.map_map,List.map_snd_zip (by simp[lc',lf,List.length_take];omega),List.map_fst_zip (by omega)]
  have m2:((List.range ops.size).zip ((cl.take m).zip Fs)).map (·.2.2)=Fs:=by
   rw[show(fun x:Nat×COp×Fp=>x.2.2)=Prod.snd∘Prod.snd from rfl,←List.map_map,List.map_snd_zip (by simp[lc',lf,List.length_take];omega),List.map_snd_zip (by omega)]
  rw[m1,m2];exact e1
 grind[List.range',List.map_snd_zip]
theorem Ue(hm:P.follows .mixedOrders=true)(hcall:ji P I call md)(hN:N<=1000):Ld P I call md N:=by
 intro id ops hs0 cl w X ρ h s a t ps Q hc hd ok hz hQ;unfold Nv aaE at hd;unfold mq at hz;cases hb:uZ ps with
 |none=>
  rw[hb]at hd hz;simp only[vD,Option.bind_eq_some_iff]at hz;obtain⟨⟨t0,Fs⟩,e1,e2⟩:=hz;split at e2
  ·rename_i hps;cases e2;have hsp:=wj (done:=[]) (j0:=0) rfl hd;refine NQ hm hcall hN (m:=cl.length) (g:=0) (qs:=ps) hc (fun j b bf h1 h2=>?_) ok (by rw[List.take_length];omega) hps rfl (by rw[List.drop_length];rfl) hQ;have hj:j<cl.length:=(List.getElem?_eq_some_iff.1 h1).1
   simp_all[Ey,if_pos,Nat.zero_add]
  grind
 |some q=>
  rw[hb]at hd hz;simp only[Bl,Option.bind_eq_some_iff]at hz;obtain⟨⟨t0,Fs⟩,e1,e2⟩:=hz;split at e2
  ·rename_i hps;simp only[aT]at e2;split at e2
   ·grind
   ·rename_i tg htg;have hsp:=wj (done:=[]) (j0:=0) rfl hd;refine NQ hm hcall hN (m:=q.1) (g:=q.2) (qs:=ps.tail) hc (fun j b bf h1 h2=>?_) ok e1 hps htg e2 hQ;grind
  grind
end
theorem vg:∀ (ss:List Sh) (l:List AV),(dB ss l).length=l.length
 |[],l=>by cases l<;>simp[dB]
 |s::ss,[]=>by simp[dB]
 |s::ss,a::l=>by simp[dB,vg ss l]
theorem xH:∀ (ss:List Sh) (l:List AV) (j:Nat) (c:AV),(dB ss l)[j]?=some c->∃c0,l[j]?=some c0/\(c=c0\/∃s,c=nrmL s c0)
 |[],l,j,c,h=>⟨c,by grind[dB],.inl rfl⟩
 |s::ss,[],j,c,h=>by grind[dB]
 |s::ss,a::l,0,c,h=>by grind[dB]
 |s::ss,a::l,j+1,c,h=>by
  simpa using xH ss l j c h
theorem xI{s:Sh}{c:AV}(hd:aB c=true):aB (nrmL s c)=true:=by
 obtain⟨k,cs⟩:=s;cases k with
 |zero=>grind[nrmL]
 |succ k=>cases c<;>simp[aB]at hd<;>simp[nrmL,aB,hd]
theorem eY(s:Sh){c:AV}(h1:∀k r,c≠ .sl k r)(h2:c≠ .emp)(h3:∀k r,c≠ .osl k r):nrmL s c=c:=by
 obtain⟨k,cs⟩:=s;cases k with
 |zero=>simp[nrmL]
 |succ k=>cases c<;>first|rfl|exact absurd rfl (h1 _ _)|exact absurd rfl h2|exact absurd rfl (h3 _ _)
section
variable {w:World} {A:Nat→Prop} {ρ:br} {h:ac}
theorem RD.nrmL{c:AV}{u:Value}(hd:RD w A c u):∀s:Sh,RD w A (nrmL s c) u:=by
 induction hd with
 |any u h=>intro s;rw[eY s (by simp) (by simp) (by simp)];exact .any u h
 |v x h=>intro s;rw[eY s (by simp) (by simp) (by simp)];exact .v x h
 |emp a=>
  intro s;obtain⟨k,cs⟩:=s;cases k with
  |zero=>exact .emp a
  |succ k=>
   exact .sl k [] a 0 ⟨0,0,none⟩ (fun _ _=>undef) (Nat.le_refl 0) (fun h=>absurd rfl h) (fun _ h=>by grind) (fun i row j c h=>by grind) (fun _ h=>by grind) (fun i row j c h=>by grind)
 |sl k rows a cap ad vals hc ha hk hv hl hr ih=>
  intro s;obtain⟨k',cs⟩:=s;cases k' with
  |zero=>exact .sl k rows a cap ad vals hc ha hk hv hl hr
  |succ k'=>
   simp only[Ab.nrmL];have key:∀ (i:Nat) (row:List AV) (j:Nat) (c:AV),(rows.map (dB cs))[i]?=some row->row[j]?=some c->∃row0 c0,rows[i]?=some row0/\row0[j]?=some c0/\(c=c0\/∃s,c=Ab.nrmL s c0):=by
    intro i row j c h1 h2;simp only[List.getElem?_map,Option.map_eq_some_iff]at h1;obtain⟨row0,h3,rfl⟩:=h1;obtain⟨c0,h4,h5⟩:=xH cs row0 j c h2;grind
   have:=RD.sl (w:=w) (A:=A) k (rows.map (dB cs)) a cap ad vals (by grind) (fun hne=>ha (by grind)) (fun row hm=>by
     simp only[List.mem_map]at hm;obtain⟨row0,hm,rfl⟩:=hm;rw[vg];grind) (fun i row j c h1 h2=>by
     grind) (fun row hm c hc=>by
     obtain⟨i,hi⟩:=List.getElem?_of_mem hm;obtain⟨j,hj⟩:=List.getElem?_of_mem hc;obtain⟨row0,c0,h3,h4,h5⟩:=key i row j c hi hj;have hd:=hl row0 (List.mem_of_getElem? h3) c0 (List.mem_of_getElem? h4);rcases h5 with rfl| ⟨s,rfl⟩
     ·omega
     ·exact xI hd) (fun i row j c h1 h2=>by
     grind)
   grind
 |agg cs us hs h1 hr ih=>intro s;rw[eY s (by simp) (by simp) (by simp)];exact .agg cs us hs h1 hr
 |fn f=>intro s;rw[eY s (by simp) (by simp) (by simp)];exact .fn f
theorem RV.nrmL{c:AV}{u:Value}(hv:RV w A ρ h c u)(s:Sh):RV w A ρ h (nrmL s c) u:=by
 cases hv with
 |dat hd=>exact .dat (hd.nrmL s)
 |anyv u=>rw[eY s (by simp) (by simp) (by simp)];exact .anyv u
 |und=>rw[eY s (by simp) (by simp) (by simp)];exact .und
 |ref id sub k i j hp=>rw[eY s (by simp) (by simp) (by simp)];exact .ref id sub k i j hp
 |rsl id sub k lo n cap a hp hn hb ha=>rw[eY s (by simp) (by simp) (by simp)];exact .rsl id sub k lo n cap a hp hn hb ha
 |rsc id k lo n cap a hp hn hb ha=>rw[eY s (by simp) (by simp) (by simp)];exact .rsc id k lo n cap a hp hn hb ha
 |ipt cs ad vals hA hs hv hl hr=>rw[eY s (by simp) (by simp) (by simp)];exact .ipt cs ad vals hA hs hv hl hr
 |agg cs us hs h1 hr=>rw[eY s (by simp) (by simp) (by simp)];exact .agg cs us hs h1 hr
 |tup vs us hs hr=>rw[eY s (by simp) (by simp) (by simp)];exact .tup vs us hs hr
 |fn f x y us ts hs ht hx hy=>rw[eY s (by simp) (by simp) (by simp)];exact .fn f x y us ts hs ht hx hy
theorem RV.nrmV{c:AV}{u:Value}(hv:RV w A ρ h c u)(ss:List Sh):RV w A ρ h (nrmV ss c) u:=by
 cases c with
 |agg cs=>
  obtain⟨us,rfl,hs,h1,hr⟩:=hv.agg_inv;refine .agg _ us (by rw[vg];omega) h1 fun i c u hc hu=>?_;obtain⟨c0,h2,h3⟩:=xH ss cs i c hc;rcases h3 with rfl| ⟨s,rfl⟩
  ·grind
  ·exact(hr i c0 u h2 hu).nrmL s
 |_=>exact hv.nrmL _
theorem sG:∀ (ss:List (List Sh)) (l:List AV),(bv ss l).length=l.length
 |[],l=>by cases l<;>simp[bv]
 |s::ss,[]=>by simp[bv]
 |s::ss,a::l=>by simp[bv,sG ss l]
theorem rU:∀ (ss:List (List Sh)) (l:List AV) (j:Nat) (c:AV),(bv ss l)[j]?=some c->∃c0,l[j]?=some c0/\(c=c0\/∃s,c=Ab.nrmV s c0)
 |[],l,j,c,h=>⟨c,by grind[bv],.inl rfl⟩
 |s::ss,[],j,c,h=>by grind[bv]
 |s::ss,a::l,0,c,h=>by grind[bv]
 |s::ss,a::l,j+1,c,h=>by
  simpa using rU ss l j c h
end
def oT:AV->Bool
 | .osl _ _| .obx _=>true
 |_=>false
def NR(L:List Nat)(h':ac)(a c:AV):Prop:=
 ∃id,cj a=[id]/\aQ id=false/\aO L (h' id)=true/\
  ((∃k rows,c=.osl k rows/\a=.rsl id none k 0 rows.length/\h' id=.ar k rows)\/(∃xs,c=.obx xs/\a=.ref id none 0 0 0/\h' id=.bx xs))
theorem Lm{m:Nat}{h:ac}{c:AV}(hc:oT c=false):dq m h c=(c,h):=by
 cases c<;>simp[oT]at hc<;>rfl
theorem NR.mat{L:List Nat}{h':ac}{a c:AV}(hm:NR L h' a c)(m:Nat)(h2:ac):∃id,cj a=[id]/\aQ id=false/\aO L (h' id)=true/\h' id≠ .dead/\(dq m h2 c).2=upd h2 m (h' id):=by
 obtain⟨id,h1,h3,h4,⟨k,rows,rfl,rfl,h5⟩| ⟨xs,rfl,rfl,h5⟩⟩:=hm
 ·exact⟨id,h1,h3,h4,by grind,by rw[h5];rfl⟩
 ·exact⟨id,h1,h3,h4,by grind,by rw[h5];rfl⟩
theorem Rb{x:Nat}{l:List Nat}(h:kl (x::l)=true):x∉l/\kl l=true:=by
 simp_all[kl,Bool.and_eq_true,Bool.not_eq_true',List.contains_eq_mem,decide_eq_false_iff_not]
theorem Hz{l l':List Nat}:kl (l++l')=true->kl l'=true/\∀x,x∈l->x∉l':=by
 induction l with
 |nil=>grind
 |cons y l ih=>
  intro h;obtain⟨h1,h2⟩:=Rb h
  simp_all
section
variable {h':ac} {L:List Nat}
theorem BA(hL:∀i,2000<=i->L.contains i=false):∀ (zas cs:List AV) (m:Nat) (h2:ac) (g:Nat->Nat),2000<=m->zas.length=cs.length->
  (∀ (j:Nat) (a c:AV),zas[j]?=some a->cs[j]?=some c->oT c=true->NR L h' a c)->kl ((zas.flatMap cj).filter fun i=>!aQ i)=true->Emb L (fun i=>i) g h' h2->(∀i,m<=i->h2 i=.dead)->
  (∀i,h2 i≠ .dead->∀id,id∈zas.flatMap cj->aQ id=false->g i≠id)->
  ∃gm,Emb L (fun i=>i) gm h' (bO m h2 cs).2/\(∀i,i<m->(bO m h2 cs).2 i=h2 i/\gm i=g i)/\
   (∀i,(bO m h2 cs).2 i≠ .dead->(h2 i≠ .dead/\gm i=g i)\/∃ (j:Nat) (a c:AV),zas[j]?=some a/\cs[j]?=some c/\oT c=true/\cj a=[gm i])/\
   (∀ (j:Nat) (a c:AV) (id:Nat),zas[j]?=some a->cs[j]?=some c->oT c=true->cj a=[id]->gm (m+j)=id/\(bO m h2 cs).2 (m+j)=h' id/\h' id≠ .dead)
 |[],[],m,h2,g,hm,_,_,_,em,_,_=>⟨g,em,fun _ _=>⟨rfl,rfl⟩,fun _ hi=>.inl ⟨hi,rfl⟩,fun j a c id h1=>by grind⟩
 |[],c::cs,m,h2,g,_,hl,_,_,_,_,_=>by grind
 |a::zas,[],m,h2,g,_,hl,_,_,_,_,_=>by grind
 |a::zas,c::cs,m,h2,g,hm,hl,hmv,hnd,em,hfree,hid=>by
  simp only[List.flatMap_cons,List.filter_append]at hnd;obtain⟨nd2,nd3⟩:=Hz hnd;have hmv':∀ (j:Nat) (a c:AV),zas[j]?=some a->cs[j]?=some c->oT c=true->NR L h' a c:=fun j a' c' h1 h3=>hmv (j+1) a' c' (by grind) (by grind);have hl':zas.length=cs.length:=by grind
  cases hc:oT c with
  |false=>
   simp only[bO,Lm hc];obtain⟨gm,e1,e2,e3,e4⟩:=BA hL zas cs (m+1) h2 g (by omega) hl' hmv' nd2 em (fun i hi=>hfree i (by omega)) (fun i hi id hm'=>hid i hi id (by grind));refine⟨gm,e1,fun i hi=>e2 i (by omega),fun i hi=>?_,fun j a' c' id h1 h3 h4 h5=>?_⟩
   ·rcases e3 i hi with hh| ⟨j,a',c',h1,h3,h4,h5⟩
    ·grind
    ·exact .inr ⟨j+1,a',c',by grind,by grind,h4,h5⟩
   ·cases j with
    |zero=>
     grind
    |succ j=>
     grind
  |true=>
   obtain⟨id,i1,i2,i3,i4,i5⟩:=(hmv 0 a c rfl rfl hc).mat m h2;simp only[bO,i5];have hida:id∈ (a::zas).flatMap cj:=by grind
   have em1:=em.add (m:=m) (id:=id) (hfree m (Nat.le_refl _)) (hL m hm) (fun i hi=>hid i hi id hida i2) i3;have nin:∀id',id'∈zas.flatMap cj->aQ id'=false->id'≠id:=by
    grind
   obtain⟨gm,e1,e2,e3,e4⟩:=BA hL zas cs (m+1) (upd h2 m (h' id)) (upd g m id) (by omega) hl' hmv' nd2 em1 (fun i hi=>by grind[aI]) (fun i hi id' hm' hp'=>by
    by_cases e:i=m
    ·subst e;rw[aq];exact fun ee=>nin id' hm' hp' ee.symm
    ·rw[aI _ _ e]at hi⊢;exact hid i hi id' (by simp only[List.flatMap_cons,List.mem_append];exact .inr hm') hp')
   have atm:=e2 m (by omega);rw[aq,aq]at atm;refine⟨gm,e1,fun i hi=>?_,fun i hi=>?_,fun j a' c' id' h1 h3 h4 h5=>?_⟩
   ·grind[aI]
   ·rcases e3 i hi with⟨h1,h3⟩| ⟨j,a',c',h1,h3,h4,h5⟩
    ·by_cases e:i=m
     ·subst e;exact .inr ⟨0,a,c,rfl,rfl,hc,by grind⟩
     grind[aI]
    ·exact .inr ⟨j+1,a',c',by grind,by grind,h4,h5⟩
   ·cases j with
    |zero=>
     grind
    |succ j=>
     grind
theorem NS:∀ (l:List AV) (m:Nat) (h:ac) (j:Nat) (z:AV),(bO m h l).1[j]?=some z->∃c,l[j]?=some c/\z=(dq (m+j) h c).1
 |[],m,h,j,z,hz=>by grind[bO]
 |c::l,m,h,0,z,hz=>by
  grind[bO]
 |c::l,m,h,j+1,z,hz=>by
  obtain⟨c',h1,h2⟩:=NS l (m+1) _ j z hz;refine⟨c',by simpa using h1,?_⟩;rw[h2,Ga _ _ h,show m+1+j=m+(j+1)from by omega]
theorem FF:∀ (l:List AV) (m:Nat) (h:ac),(bO m h l).1.length=l.length
 |[],m,h=>rfl
 |c::l,m,h=>by simp[bO,FF l]
end
section
variable {w:World} {X:Nat→Prop} {ρ:br} {h':ac} {L:List Nat}
structure Seen (w:World) (X:Nat->Prop) (ρ:br) (h':ac) (a:AV) (A2:Nat->Prop) (ρ2:br) (h2:ac):Prop where
 mono:∀b,aF w X h' ρ b->A2 b
 ids:∀id,id∈cj a->aQ id=false->∀sub,live h' id sub->A2 (ρ id sub).1
 pas:∀id,aQ id=true->h' id≠ .dead->h2 id≠ .dead/\ρ2 id none=ρ id none
def YR(w:World)(X:Nat->Prop)(ρ:br)(h':ac)(L:List Nat)(a c:AV)(u:Value):Prop:=
 (oT c=true->NR L h' a c)/\(oT c=false->∀A2 ρ2 h2,Seen w X ρ h' a A2 ρ2 h2->RV w A2 ρ2 h2 c u)
theorem FG{c:AV}(hd:ap1 c=true):gy L c=true:=by
 simp only[ap1,Bool.or_eq_true]at hd;simp only[gy,Bool.or_eq_true];rcases hd with hd|hd
 ·grind
 ·cases c<;>simp[aB]at hd<;>simp[aZ,bm,hd]
theorem FH{a b:AV}(he:jZ h' a=some b)(hd:aB b=true\/∃k r,b=.osl k r){id:Nat}(hi:iq a=[id]):aQ id=false:=by
 cases a<;>simp only[iq]at hi<;>try (cases hi;done)
 case ref i sub k x y=>
  cases sub with
  |some p=>grind[jZ,aB]
  |none=>
   grind[jZ,aB,Tx]
 case rsl i sub k x y=>
  have hi':i=id:=by grind
  subst hi';cases hp:aQ i with
  |false=>rfl
  |true=>cases sub<;>simp[jZ,hp]at he
theorem abf{b c:AV}(hd:v9 b=some c):aB b=true\/∃k r,b=.osl k r:=by
 unfold v9 at hd;grind
theorem NT:∀ {cs ds:List AV},i7 h' cs=some ds->∀ (i:Nat) (a:AV) (id:Nat),cs[i]?=some a->iq a=[id]->aQ id=false
 |[],ds,_,i,a,id,h1,_=>by grind
 |c::cs,ds,he,i,a,id,h1,h2=>by
  simp only[i7,Option.bind_eq_some_iff]at he;obtain⟨b,e1,c',e2,q,e3,e4⟩:=he;cases i with
  |zero=>simp at h1;subst h1;exact FH e1 (abf e2) h2
  |succ i=>exact NT e3 i a id (by simpa using h1) h2
theorem Ln{s:Sh}{b:AV}(h:oT (nrmL s b)=true):nrmL s b=b:=by
 obtain⟨k,cs⟩:=s;cases k with
 |zero=>simp[nrmL]
 |succ k=>cases b<;>simp[nrmL,oT]at h⊢
theorem Wi(ss:List Sh){b:AV}(h:∀cs,b≠ .agg cs):nrmV ss b=nrmL (ss.headD (.o 0 [])) b:=by
 cases b<;>first|rfl|exact absurd rfl (h _)
theorem YS(r:Rel w X ρ h'){a b:AV}{u:Value}(hv:RV w (aF w X h' ρ) ρ h' a u)(he:jZ h' a=some b)(s:Sh):YR w X ρ h' L a (nrmL s b) u:=by
 have data:∀ {b:AV},jZ h' a=some b->aB b=true->(∀A2:Nat->Prop,(∀b,aF w X h' ρ b->A2 b)->(∀id sub,iq a=[id]->live h' id sub->A2 (ρ id sub).1)->RD w A2 b u)->
   ∀A2 ρ2 h2,Seen w X ρ h' a A2 ρ2 h2->RV w A2 ρ2 h2 (nrmL s b) u:=by
  intro b he hd hr A2 ρ2 h2 hs;exact .dat ((hr A2 hs.mono fun id sub hi hl=>hs.ids id (by
   have:cj a=iq a:=by cases a<;>first|rfl|simp[iq]at hi
   grind) (FH he (.inl hd) hi) sub hl).nrmL s)
 rcases wS r hv he with⟨id,k,rows,rfl,rfl,e,hp⟩| ⟨id,cs,rfl,rfl,e,hd,hp⟩| ⟨rfl,id,k,i,j,rfl,hp⟩| ⟨rfl,hd⟩| ⟨hd,hr⟩
 ·refine⟨fun hm=>?_,fun hm A2 ρ2 h2 hs=>?_⟩
  ·rw[Ln hm];exact⟨id,rfl,hp,by rw[e];rfl,.inl ⟨k,rows,rfl,rfl,e⟩⟩
  ·have hsl:nrmL s (.osl k rows)=nrmL s (.sl k rows):=by
    obtain⟨k',cs⟩:=s;cases k' with
    |zero=>grind[nrmL,oT]
    |succ k'=>simp[nrmL]
   rw[hsl];obtain⟨a',cap,rfl,_⟩:=hv.rsl_inv;exact .dat (((Hv r hv rfl he rfl).2 A2 hs.mono fun id' sub hi hl=>hs.ids id' (by
    grind[cj,iq]) (by grind[iq]) sub hl).nrmL s)
 ·refine⟨fun hm=>?_,fun hm=>?_⟩
  ·rw[Ln hm];refine⟨id,rfl,hp,?_,.inr ⟨cs,rfl,rfl,e⟩⟩;grind[aO,List.all_eq_true,FG]
  ·rw[eY s (by simp) (by simp) (by simp)]at hm;cases hm
 ·refine⟨fun hm=>?_,fun hm A2 ρ2 h2 hs=>?_⟩
  ·rw[eY s (by simp) (by simp) (by simp)]at hm;cases hm
  ·rw[eY s (by simp) (by simp) (by simp)];obtain⟨rfl,hpr⟩:=hv.ref_inv;obtain⟨h1,h3⟩:=hs.pas id hp hpr;have:=RV.ref (w:=w) (A:=A2) (ρ:=ρ2) (h:=h2) id none k i j h1;grind
 ·refine⟨fun hm=>?_,fun hm A2 ρ2 h2 hs=>?_⟩
  ·have:=xI (s:=s) hd;cases hq:nrmL s b<;>rw[hq]at hm this<;>simp[oT,aB]at hm this
  ·exact(hv.keepD hd fun b hb=>⟨hs.mono b hb,rfl⟩).nrmL s
 ·refine⟨fun hm=>?_,fun hm=>data he hd hr⟩;have:=xI (s:=s) hd;cases hq:nrmL s b<;>rw[hq]at hm this<;>simp[oT,aB]at hm this
theorem abg(r:Rel w X ρ h'){a b:AV}{u:Value}(hv:RV w (aF w X h' ρ) ρ h' a u)(he:oN h' a=some b){c:AV}(hc:c=b\/∃ss,c=nrmV ss b):YR w X ρ h' L a c u:=by
 have hc':∃ss,c=nrmV ss b:=by
  rcases hc with rfl|hc
  ·refine⟨[],?_⟩;cases c<;>simp[nrmV,nrmL,dB]
  omega
 obtain⟨ss,rfl⟩:=hc';by_cases hagg:∃cs,a=.agg cs
 ·obtain⟨cs,rfl⟩:=hagg;simp only[oN,Option.map_eq_some_iff]at he;obtain⟨ds,e1,rfl⟩:=he;refine⟨fun hm=>by grind[nrmV,oT],fun _ A2 ρ2 h2 hs=>?_⟩;obtain⟨us,rfl,q1,q2,q3⟩:=hv.agg_inv;obtain⟨l1,l2⟩:=Fz r cs ds e1;refine .agg _ us (by grind[vg]) q2 fun i c u hc hu=>?_;obtain⟨c0,h1,h3⟩:=xH ss ds i c hc;have hi:i<cs.length:=by grind
  have hci:cs[i]?=some cs[i]:=by grind
  obtain⟨d1,d2⟩:=l2 i cs[i] c0 u hci h1 (q3 i _ u hci hu) (q2 i u hu);have hrd:=d2 A2 hs.mono fun id sub hii hl=>hs.ids id (by
   simp only[cj,List.mem_flatMap];exact⟨cs[i],by simp,by rw[hii];simp⟩) (NT e1 i _ id hci hii) sub hl
  rcases h3 with rfl| ⟨s,rfl⟩
  ·exact .dat hrd
  ·exact .dat (hrd.nrmL s)
 ·have hl:oN h' a=jZ h' a:=by cases a<;>first|rfl|exact absurd ⟨_,rfl⟩ hagg
  rw[hl]at he;have hb:∀cs,b≠ .agg cs:=by
   rcases wS r hv he with⟨id,k,rows,h1,_⟩| ⟨id,cs',h1,_⟩| ⟨h1,id,k,i,j,h2,_⟩| ⟨h1,hd⟩| ⟨hd,hr⟩
   all_goals grind[aB]
  grind[Wi,YS]
theorem Lo:∀ {zas bs:List AV},u9 h' zas=some bs->bs.length=zas.length/\∀ (j:Nat) (a b:AV),zas[j]?=some a->bs[j]?=some b->oN h' a=some b
 |[],bs,he=>by grind[u9,Option.some.injEq]
 |a::zas,bs,he=>by
  simp only[u9,Option.bind_eq_some_iff]at he;obtain⟨b,e1,q,e2,e3⟩:=he;cases e3;obtain⟨g1,g2⟩:=Lo e2;refine⟨by simp[g1],fun j a' b' h1 h2=>?_⟩;cases j with
  |zero=>simp at h1 h2;subst h1 h2;exact e1
  |succ j=>exact g2 j a' b' (by simpa using h1) (by simpa using h2)
def MS(us:Array Value):Value:=if h:us.size=1 then us[0]else .tuple us
theorem Wj{l:List AV}(hl:∀c∈l,∀vs,c≠ .tup vs)(n:Nat)(h:ac):mat n h (yP l)=(yP (bO n h l).1,(bO n h l).2):=by
 match l with
 |[]=>rfl
 |[c]=>
  have:∀vs,c≠ .tup vs:=hl c (by simp);cases c<;>first|rfl|exact absurd rfl (this _)
 |a::b::l=>rfl
end
section
variable {w:World} {X:Nat→Prop} {ρ:br} {h':ac}
theorem R7{L:List Nat}{g:Nat->Nat}{h2:ac}(em:Emb L (fun i=>i) g h' h2){b:Nat}(ho:mY h2 (fun i s=>ρ (g i) s) b):mY h' ρ b:=by
 obtain⟨i,s,h1,h3⟩:=ho;exact⟨g i,s,(em.live h1).1,h3⟩
theorem YT{ss:List Sh}{b:AV}{vs:List AV}(h:nrmV ss b=.tup vs):∃vs',b=.tup vs':=by
 cases b with
 |tup vs'=>grind
 |agg cs=>grind[nrmV]
 |_=>
  simp only[nrmV]at h;generalize ss.headD (.o 0 [])=s at h;obtain⟨k,cs⟩:=s;cases k<;>simp[nrmL]at h
theorem Uf(r:Rel w X ρ h'){a:AV}{u:Value}{vs:List AV}(hv:RV w (aF w X h' ρ) ρ h' a u)(he:oN h' a=some (.tup vs)):False:=by
 by_cases hagg:∃cs,a=.agg cs
 ·obtain⟨cs,rfl⟩:=hagg
  simp_all[oN]
 ·have hl:oN h' a=jZ h' a:=by cases a<;>first|rfl|exact absurd ⟨_,rfl⟩ hagg
  rw[hl]at he;rcases wS r hv he with⟨id,k,rows,h1,_⟩| ⟨id,cs',h1,_⟩| ⟨h1,id,k,i,j,h2,_⟩| ⟨h1,hd⟩| ⟨hd,hr⟩
  all_goals grind[aB]
theorem Wk(r:Rel w X ρ h'){n0 n:Nat}(hn0:n0<=1000)(hn:2000<=n)(hpass:∀id,aQ id=true->h' id≠ .dead->(cu n0).contains id=true){zas:List AV}{us:Array Value}(hs:us.size=zas.length)
  (hv:∀ (i:Nat) (c:AV) (u:Value),zas[i]?=some c->us[i]?=some u->RV w (aF w X h' ρ) ρ h' c u) {rs:List (List Sh)} {res:AV} {obs:List Ob} (hz:zO rs n0 h' zas=some (res,obs)):
  ∃ρ2,Rel w X ρ2 (mat n (ao obs) res).2/\(∀nm,Far nm w ρ h' w ρ2 (mat n (ao obs) res).2)/\RV w (aF w X (mat n (ao obs) res).2 ρ2) ρ2 (mat n (ao obs) res).2 (mat n (ao obs) res).1 (MS us):=by
 unfold zO at hz;split at hz
 ·rename_i hc;simp only[Bool.and_eq_true]at hc;obtain⟨hc1,hc2⟩:=hc;simp only[Option.map_eq_some_iff]at hz;obtain⟨bs,e1,e2⟩:=hz;cases e2;obtain⟨l1,l2⟩:=Lo e1;have hLm:∀i,(cu n0).contains i=true->aQ i=true:=fun i hi=>by
   have:=ui.1 hi;simp only[aQ,decide_eq_true_eq];omega
  have hL:∀i,2000<=i->(cu n0).contains i=false:=fun i hi=>by
   grind[cu]
  have hcl:(bv rs bs).length=zas.length:=by rw[sG,l1]
  have out:∀ (j:Nat) (a c:AV) (u:Value),zas[j]?=some a->(bv rs bs)[j]?=some c->us[j]?=some u->YR w X ρ h' (cu n0) a c u:=fun j a c u h1 h3 h4=>by
   grind[rU,abg]
  have uget:∀ (j:Nat) (a:AV),zas[j]?=some a->∃u,us[j]?=some u:=fun j a h1=>by
   have:j<us.size:=by grind
   simp_all
  have em:=Emb.base (h':=h') hc2;have hlow:∀i,ao ((cu n0).map h') i≠ .dead->(cu n0).contains i=true:=fun i hi=>by
   rw[nI]at hi;split at hi
   ·rename_i h1;exact ui.2 h1
   grind
  obtain⟨gm,m1,m2,m3,m4⟩:=BA hL zas (bv rs bs) n (ao ((cu n0).map h')) (fun i=>i) hn hcl.symm (fun j a c h1 h3 h4=>by
    obtain⟨u,hu⟩:=uget j a h1;exact(out j a c u h1 h3 hu).1 h4) hc1 em (fun i hi=>by
    rw[nI,if_neg (by omega)]) (fun i hi id _ hp e=>by
    grind)
  have notup:∀c∈bv rs bs,∀vs,c≠ .tup vs:=by
   rintro c hcm vs rfl
   obtain⟨j,hj⟩:=List.getElem?_of_mem hcm;have hja:j<zas.length:=by grind
   obtain⟨u,hu⟩:=uget j zas[j] (by grind);obtain⟨b,h5,h6⟩:=rU rs bs j _ hj;have he:=l2 j zas[j] b (by grind) h5;grind[YT,Uf]
  rw[Wj notup];simp only;have hfar:∀b,aF w X h' ρ b->aF w X (bO n (ao ((cu n0).map h')) (bv rs bs)).2 (fun i s=>ρ (gm i) s) b:=fun b hb=>⟨hb.1,hb.2.1,fun ho=>hb.2.2 (R7 m1 ho)⟩;have hps:∀id,aQ id=true->(bO n (ao ((cu n0).map h')) (bv rs bs)).2 id=ao ((cu n0).map h') id/\gm id=id:=fun id hp=>m2 id (by
   simp only[aQ,decide_eq_true_eq]at hp;omega)
  have hpd:∀id,aQ id=true->h' id≠ .dead->(bO n (ao ((cu n0).map h')) (bv rs bs)).2 id=h' id:=fun id hp hd=>by
   rw[(hps id hp).1,nI,if_pos (ui.1 (hpass id hp hd))]
  have rel2:Rel w X (fun i s=>ρ (gm i) s) (bO n (ao ((cu n0).map h')) (bv rs bs)).2:=Rel.emb m1 r r.xl (fun i s hl=>r.nx _ _ (m1.live hl).1) hfar;refine⟨fun i s=>ρ (gm i) s,rel2,fun nm=>⟨rfl,rfl,rfl,Nat.le_refl _,fun _ _ _=>rfl,fun b ho=>.inl (R7 m1 ho),fun id hp hd=>?_,fun _ id p hp hd hpr=>?_⟩,?_⟩
  ·grind[nI]
  ·have h1:h' id≠ .dead:=by obtain⟨_,_,_,e,_⟩:=hpr;grind
   grind[dV]
  ·
   have seen:∀ (j:Nat) (a c:AV),zas[j]?=some a->(bv rs bs)[j]?=some c->oT c=false->
     Seen w X ρ h' a (aF w X (bO n (ao ((cu n0).map h')) (bv rs bs)).2 (fun i s=>ρ (gm i) s)) (fun i s=>ρ (gm i) s) (bO n (ao ((cu n0).map h')) (bv rs bs)).2:=by
    intro j a c h1 h3 h4;refine⟨hfar,fun id hid hp sub hl=>⟨?_,fun hx=>r.nx _ _ hl (.inl hx),fun⟨i,s,ho1,ho2⟩=>?_⟩,fun id hp hd=>⟨by grind,by grind⟩⟩
    ·cases sub with
     |none=>
      have ho:=r.ob id;cases e:h' id with
      |bx cs=>rw[e]at ho;obtain⟨us,t,g1,_⟩:=ho;grind
      |ar k rows=>rw[e]at ho;obtain⟨us,t,g1,_⟩:=ho;grind
      |_=>simp[live,e]at hl
     |some p=>
      obtain⟨cs,k,rows,e,ec⟩:=hl;have ho:=r.ob id;rw[e]at ho;obtain⟨us,t,g1,g2,g3,g4⟩:=ho;obtain⟨u,_,a',cap,us',t',_,_,_,q4,_⟩:=g4 p _ ec;grind
    ·obtain⟨hl1,hdd⟩:=m1.live ho1;obtain⟨e1,_⟩:=r.inj _ _ _ _ hl1 hl ho2;rcases m3 i hdd with⟨q1,q2⟩| ⟨j',a',c',q1,q2,q3,q4⟩
     ·grind
     ·rw[e1]at q4;have hne:j'≠j:=by
       grind
      exact two_names zas j' j a' a id hne q1 h1 (by grind) hid hp hc1
   have vals:∀ (j:Nat) (z:AV) (u:Value),(bO n (ao ((cu n0).map h')) (bv rs bs)).1[j]?=some z->us[j]?=some u->
     RV w (aF w X (bO n (ao ((cu n0).map h')) (bv rs bs)).2 (fun i s=>ρ (gm i) s)) (fun i s=>ρ (gm i) s) (bO n (ao ((cu n0).map h')) (bv rs bs)).2 z u:=by
    intro j z u hz hu;obtain⟨c,h1,rfl⟩:=NS _ _ _ _ _ hz;have hja:j<zas.length:=by grind
    have ha:zas[j]?=some zas[j]:=by grind
    have o:=out j zas[j] c u ha h1 hu;cases hm:oT c with
    |false=>
     rw[Lm hm];exact o.2 hm _ _ _ (seen j zas[j] c ha h1 hm)
    |true=>
     obtain⟨id,i1,i2,i3,⟨k,rows,rfl,i4,i5⟩| ⟨xs,rfl,i4,i5⟩⟩:=o.1 hm
     ·obtain⟨q1,q2,q3⟩:=m4 j zas[j] _ id ha h1 hm i1;have hva:=hv j zas[j] u ha hu;rw[i4]at hva;obtain⟨a',cap,rfl,hp,hnn,hb,hab⟩:=hva.rsl_inv;simp only[dq];exact .rsl (n+j) none k 0 rows.length cap a' (by show _≠_;grind) hnn (by grind) (by simp only[q1];exact hab)
     ·obtain⟨q1,q2,q3⟩:=m4 j zas[j] _ id ha h1 hm i1;have hva:=hv j zas[j] u ha hu;rw[i4]at hva;obtain⟨rfl,hp⟩:=hva.ref_inv;simp only[dq];have:=RV.ref (w:=w) (A:=aF w X (bO n (ao ((cu n0).map h')) (bv rs bs)).2 (fun i s=>ρ (gm i) s)) (ρ:=fun i s=>ρ (gm i) s) (h:=(bO n (ao ((cu n0).map h')) (bv rs bs)).2) (n+j) none 0 0 0 (by show _≠_;rw[q2];exact q3);simp only[q1]at this;exact this
   have hzl:(bO n (ao ((cu n0).map h')) (bv rs bs)).1.length=us.size:=by rw[FF,hcl,hs]
   unfold MS;split
   ·rename_i h1
    match hq:(bO n (ao ((cu n0).map h')) (bv rs bs)).1 with
    |[]=>rw[hq]at hzl;simp at hzl;omega
    |[z]=>exact vals 0 z us[0] (by rw[hq];rfl) (by simp[h1])
    |a::b::l=>rw[hq]at hzl;simp at hzl;omega
   ·rename_i h1
    match hq:(bO n (ao ((cu n0).map h')) (bv rs bs)).1 with
    |[]=>exact .tup [] us (by rw[hq]at hzl;simpa using hzl.symm) fun i c u hc=>by simp at hc
    |[z]=>rw[hq]at hzl;simp at hzl;omega
    |a::b::l=>
     rw[hq]at hzl;exact .tup _ us hzl.symm fun i c u hc hu=>vals i c u (by rw[hq];exact hc) hu
 grind
where
 two_names:∀ (zas:List AV) (i j:Nat) (a b:AV) (id:Nat),i≠j->zas[i]?=some a->zas[j]?=some b->id∈cj a->id∈cj b->aQ id=false->kl ((zas.flatMap cj).filter fun i=>!aQ i)=true->False
 |[],i,j,a,b,id,_,h1,_,_,_,_,_=>by simp at h1
 |c::zas,i,j,a,b,id,hne,h1,h2,h3,h4,hp,hnd=>by
  simp only[List.flatMap_cons,List.filter_append]at hnd;obtain⟨nd2,nd3⟩:=Hz hnd;have mem:∀ (j:Nat) (b:AV),zas[j]?=some b->id∈cj b->id∈ (zas.flatMap cj).filter fun i=>!aQ i:=fun j b hb hi=>
   List.mem_filter.2 ⟨List.mem_flatMap.2 ⟨b,List.mem_of_getElem? hb,hi⟩,by grind⟩
  cases i with
  |zero=>
   simp at h1;subst h1;cases j with
   |zero=>exact hne rfl
   |succ j=>exact nd3 id (List.mem_filter.2 ⟨h3,by simp[hp]⟩) (mem j b (by simpa using h2) h4)
  |succ i=>
   cases j with
   |zero=>
    simp at h2;subst h2;exact nd3 id (List.mem_filter.2 ⟨h4,by simp[hp]⟩) (mem i a (by simpa using h1) h3)
   |succ j=>exact two_names zas i j a b id (by omega) (by grind) (by simpa using h2) h3 h4 hp nd2
end
structure Text (P:Program) (f:FuncId) (fd:FD):Prop where
 text: ∃fn code N,P.funcs[f]?=some fn/\fn.body=some code/\fn.ntmps=N/\N<=1000/\fX P N code fd.body=some fd.body/\Bp P fn.results.toList=some fd.res/\ (fn.name== "runtime.NumGoroutine")=false
theorem NU(fn:Func)(tmps:Array Value):fn.results.mapM (vI tmps)=(fun l=>l.toArray)<$>fn.results.toList.mapM (vI tmps):=by
 rw[Array.mapM_eq_mapM_toList]
theorem Rc{P:Program}{fn:Func}{tmps:Array Value}{w:World}{us:List Value}(h:(fn.results.toList.mapM (vI tmps)).run P w=.ok us w):(results fn tmps).run P w=.ok (MS us.toArray) w:=by
 have h1:(fn.results.mapM (vI tmps)).run P w=.ok us.toArray w:=by
  simp_all[NU,Sem.run_map]
 have h2:results fn tmps=(fn.results.mapM (vI tmps)>>=fun vs=>pure (MS vs)):=by
  congr 1
 simp_all
section
variable {P:Program} {I:Inv} {call:ef} {md:Mode}
theorem abh(hm:P.follows .mixedOrders=true)(hcall:ji P I call md){f:FuncId}{fd:FD}{lf:Nat}(ht:Text P f fd):re P I md.nm f (CQ call md lf fd):=by
 obtain⟨fn,code,N,t1,t2,t3,t4,t5,t6,t7⟩:=ht.text;intro args obs obs' res w X ρ vals n hz hn hi r hsz hv;unfold CQ at hz;split at hz
 ·rename_i hc;obtain⟨c1,c2⟩:=hc;have he:(callFunc f vals).run P w=.ok (.enter f vals) w:=by
   simp_all[callFunc,Sem.run_bind,Result.andThen]
  unfold Enters;rw[he];refine calls_of_wp t1 t2 ?_;have hget:∀i,(vals++Array.replicate (fn.ntmps-vals.size) undef).getD i undef=vals.getD i undef:=fun i=>by
   simp only[Array.getD_eq_getD_getElem?,Array.getElem?_append];grind
  have ok:Ok I N w X ρ (ao obs) (oO args) {tmps:=vals++Array.replicate (fn.ntmps-vals.size) undef,defers:=[]}:=by
   refine⟨r,fun i=>?_,by grind,rfl,hi⟩;simp only[hget,oO];by_cases h:i<args.length
   ·rw[Array.getD_eq_getD_getElem?];grind
   ·rw[List.getElem?_eq_none (by omega)];exact .anyv _
  have fin:∀ {t:St} {a:Act} {w':World} {ρ':br},Ok I N w' X ρ' t.h t.s a->Far md.nm w ρ (ao obs) w' ρ' t.h->xA md.nm fd.rs fd.res obs.length t.s t.h=some (res,obs')->
    a.defers=[]/\∃v,(results fn a.tmps).run P w'=.ok v w'/\∃ρ'',Rel w' X ρ'' (mat n (ao obs') res).2/\Far md.nm w ρ (ao obs) w' ρ'' (mat n (ao obs') res).2/\
     RV w' (aF w' X (mat n (ao obs') res).2 ρ'') ρ'' (mat n (ao obs') res).2 (mat n (ao obs') res).1 v:=by
   intro t a w' ρ' ok' far hf;refine⟨ok'.defers,?_⟩;simp only[xA,Option.bind_eq_some_iff]at hf;obtain⟨⟨vs,h',ks⟩,e1,e2⟩:=hf;split at e2
   ·rename_i hnm;obtain⟨us,g1,g2,g3,g4,g5⟩:=Fy (a:=a) fn.results.toList fd.res t6 ok'.rel ok'.rs e1;refine⟨_,Rc g1,?_⟩;have far2:=far.trans (g4.far hnm);obtain⟨ρ2,q1,q2,q3⟩:=Wk (us:=us.toArray) g3 c2 hn (fun id hp hd=>by
     have:=(far2.stay id hp hd).1;unfold ao at this;refine ui.2 ?_;grind) (by omega) (fun i c u hc hu=>g5 i c u hc (by grind)) e2
    exact⟨ρ2,q1,far2.trans (q2 md.nm),q3⟩
   grind
  cases hx:bF call md lf fd.body (oO args) (ao obs)with
  |none=>rw[hx]at hz;cases hz
  |some q=>
   obtain⟨e,t⟩:=q;rw[hx]at hz;refine T9 (N:=N) hcall t4 (Ue hm hcall t4) lf fd.body code t5 hx ok fun a' w' ρ' ok' far=>?_;cases e with
   |normal=>
    obtain⟨d1,v,d2,d3⟩:=fin ok' far hz;exact⟨d1,v,d2,d3⟩
   |ret=>
    obtain⟨d1,v,d2,d3⟩:=fin ok' far hz;exact⟨d1,v,d2,d3⟩
   |exit id=>cases hz
 grind
end
section
variable {w:World} {X:Nat→Prop} {ρ:br} {h h':ac}
theorem Lp{a c:AV}{ks:K}(hz:gL h a=some (c,h',ks)):∀p∈ks,p.2=true:=by
 unfold gL at hz;split at hz
 ·unfold mf at hz;grind
 ·unfold CK Yy at hz;grind
 grind
theorem HA:∀ {l cs:List AV} {h h':ac} {ks:K},fV h l=some (cs,h',ks)->∀p∈ks,p.2=true
 |[],cs,h,h',ks,hz=>by grind[fV,Option.some.injEq,Prod.mk.injEq]
 |a::l,cs,h,h',ks,hz=>by
  simp only[fV,Option.bind_eq_some_iff]at hz;obtain⟨⟨c,h1,k1⟩,e1,⟨q,h2,k2⟩,e2,e3⟩:=hz;cases e3;intro p hp;rcases List.mem_append.1 hp with hp|hp
  ·exact Lp e1 p hp
  ·exact HA e2 p hp
theorem YV{a c:AV}{ks:K}(hz:vA h a=some (c,h',ks)):∀p∈ks,p.2=true:=by
 unfold vA at hz;split at hz
 ·simp only[Option.bind_eq_some_iff]at hz;obtain⟨⟨q,h1,k1⟩,e1,e2⟩:=hz;cases e2;exact HA e1
 ·exact Lp hz
theorem Wl{ks:K}(hk:∀p∈ks,p.2=true)(id:Nat):gS ks id none=false:=by
 grind[gS,List.any_eq_false]
theorem RV.clo{w':World}{A A':Nat->Prop}{ρ':br}{l:List Nat}{c:AV}{u:Value}(hv:RV w A ρ h c u)(hA:∀b,A b->A' b/\w'.heap[b]?=w.heap[b]?)(hk:∀id,bC h id none->bC h' id none/\ρ' id none=ρ id none)(hm:aZ l c=true):RV w' A' ρ' h' c u:=by
 have leaf:∀ {c:AV} {u:Value},RV w A ρ h c u->bm l c=true->RV w' A' ρ' h' c u:=by
  intro c u hv hm;cases hv with
  |anyv u=>exact .anyv u
  |und=>exact .und
  |dat hd=>exact .dat (hd.mono hA)
  |ref id sub k i j hp=>
   cases sub with
   |some p=>simp[bm]at hm
   |none=>
    obtain⟨h1,h2⟩:=hk id hp;rw[←h2];exact .ref id none k i j h1
  |rsl id sub k lo n cap a hp hn hb ha=>
   cases sub with
   |some p=>simp[bm]at hm
   |none=>
    obtain⟨h1,h2⟩:=hk id hp;exact .rsl id none k lo n cap a h1 hn (by grind) (by grind)
  |rsc id k lo n cap a hp hn hb ha=>simp[bm]at hm
  |ipt cs ad vals hA' hs hv hl hr=>
   exact .ipt cs ad vals (hA _ hA').1 hs (fun j c hc=>by rw[ko (w:=w) (w':=w') (by rw[lY];grind)];grind) hl (fun j c hc=>(hr j c hc).mono hA)
  |agg cs us hs h1 hr=>simp[bm]at hm
  |tup vs us hs hr=>simp[bm]at hm
  |fn f x y us ts hs ht hx hy=>
   simp[bm]at hm;obtain⟨rfl,rfl⟩:=hm;exact .fn f [] [] us ts hs ht (fun i c u hc=>by grind) (fun i c u hc=>by grind)
 cases c with
 |agg cs=>
  simp only[aZ,List.all_eq_true]at hm;obtain⟨us,rfl,hs,h1,hr⟩:=hv.agg_inv;exact .agg cs us hs h1 fun i c u hc hu=>leaf (hr i c u hc hu) (hm c (List.mem_of_getElem? hc))
 |fn f x y=>
  simp only[aZ,Bool.and_eq_true,List.all_eq_true]at hm;obtain⟨us,ts,rfl,hs,ht,hx,hy⟩:=hv.fn_inv;exact .fn f x y us ts hs ht (fun i c u hc hu=>leaf (hx i c u hc hu) (hm.1 c (List.mem_of_getElem? hc))) (fun i c u hc hu=>leaf (hy i c u hc hu) (hm.2 c (List.mem_of_getElem? hc)))
 |_=>exact leaf hv hm
structure Way (w:World) (X:Nat->Prop) (ρ:br) (h0 h:ac):Prop where
 evo:∃ks:K,Evo w ρ h0 w ρ h ks/\∀p∈ks,p.2=true
theorem Way.refl:Way w X ρ h h:=⟨[],.refl _ _ _,by simp⟩
theorem Way.trans{h1 h2:ac}(a:Way w X ρ h h1)(b:Way w X ρ h1 h2):Way w X ρ h h2:=by
 obtain⟨k1,e1,f1⟩:=a.evo;obtain⟨k2,e2,f2⟩:=b.evo;exact⟨k1++k2,e1.trans e2,fun p hp=>by grind⟩
theorem Way.al{h0:ac}(a:Way w X ρ h0 h):∀b,aF w X h0 ρ b->aF w X h ρ b:=by
 obtain⟨k1,e1,_⟩:=a.evo;exact fun b hb=>(e1.al hb).1
theorem Re{h0:ac}{m:Nat}{a z:AV}{u:Value}{ks:K}(r:Rel w X ρ h)(wy:Way w X ρ h0 h)(hv:RV w (aF w X h0 ρ) ρ h0 a u)(hz:de h m a=some (z,h',ks)):
  Rel w X ρ h'/\Evo w ρ h w ρ h' ks/\(∀p∈ks,p.2=true)/\∃h1,Way w X ρ h1 h'/\RV w (aF w X h1 ρ) ρ h1 z u:=by
 have same:some (a,h,([]:K))=some (z,h',ks)->Rel w X ρ h'/\Evo w ρ h w ρ h' ks/\(∀p∈ks,p.2=true)/\∃h1,Way w X ρ h1 h'/\RV w (aF w X h1 ρ) ρ h1 z u:=by
  intro e;cases e;exact⟨r,.refl _ _ _,by simp,h0,wy,hv⟩
 have data:vA h a=some (z,h',ks)->((∀cs,a≠ .agg cs)->u.oneCell'=true)->Rel w X ρ h'/\Evo w ρ h w ρ h' ks/\(∀p∈ks,p.2=true)/\∃h1,Way w X ρ h1 h'/\RV w (aF w X h1 ρ) ρ h1 z u:=by
  intro hz h1;obtain⟨g1,g2,g3,g4⟩:=V0 r hv wy.al hz h1;exact⟨g1,g2,YV hz,h',.refl,.dat g3⟩
 cases a with
 |any=>
  grind[de,vA,gL,aB]
 |rsl id sub k lo n=>
  obtain⟨ad,cap,rfl,_⟩:=hv.rsl_inv;cases sub with
  |none=>
   simp only[de]at hz;split at hz
   ·exact data hz fun _=>rfl
   grind
  |some p=>exact data hz fun _=>rfl
 |ref id sub k i j=>
  cases sub with
  |none=>exact same hz
  |some p=>grind[de,vA,gL,aB]
 |ipt cs=>exact same hz
 |fn f x y=>exact same hz
 |agg cs=>exact data hz fun hh=>absurd rfl (hh cs)
 |v x=>exact data hz fun _=>by obtain⟨rfl,hp⟩:=hv.v_inv;exact Bq hp
 |emp=>
  refine data hz fun _=>?_;cases hv with
  |dat hd=>exact hd.one rfl
 |sl k rows=>
  refine data hz fun _=>?_;cases hv with
  |dat hd=>exact hd.one rfl
 |_=>simp[de,vA,gL,aB]at hz
theorem Da{h0:ac}:∀ (l:List AV) (ms:List Nat) (vals:List Value) {h h':ac} {zs:List AV} {ks:K},Rel w X ρ h->Way w X ρ h0 h->vals.length=l.length->
  (∀ (i:Nat) (c:AV) (u:Value),l[i]?=some c->vals[i]?=some u->RV w (aF w X h0 ρ) ρ h0 c u)->cr h ms l=some (zs,h',ks)->
  Rel w X ρ h'/\Evo w ρ h w ρ h' ks/\(∀p∈ks,p.2=true)/\zs.length=l.length/\∀ (i:Nat) (z:AV) (u:Value),zs[i]?=some z->vals[i]?=some u->∃h1,Way w X ρ h1 h'/\RV w (aF w X h1 ρ) ρ h1 z u
 |[],ms,vals,h,h',zs,ks,r,wy,hl,hv,hz=>by
  obtain⟨rfl,rfl,rfl⟩:=hz;exact⟨r,.refl _ _ _,by simp,rfl,fun i z u h1=>by grind⟩
 |a::l,ms,vals,h,h',zs,ks,r,wy,hl,hv,hz=>by
  simp only[cr,Option.bind_eq_some_iff]at hz;obtain⟨⟨z,h1,k1⟩,e1,⟨q,h2,k2⟩,e2,e3⟩:=hz;cases e3;cases vals with
  |nil=>grind
  |cons u vals=>
   obtain⟨g1,g2,g3,h3,g4,g5⟩:=Re r wy (hv 0 a u rfl rfl) e1;obtain⟨f1,f2,f3,f4,f5⟩:=Da l ms.tail vals g1 (wy.trans ⟨k1,g2,g3⟩) (by grind) (fun i c u' h4 h5=>hv (i+1) c u' (by grind) (by grind)) e2;refine⟨f1,g2.trans f2,fun p hp=>?_,by grind,fun i z' u' h4 h5=>?_⟩
   ·grind
   ·cases i with
    |zero=>
     simp at h4 h5;subst h4 h5;exact⟨h3,g4.trans ⟨k2,f2,f3⟩,g5⟩
    |succ i=>grind
theorem Wm{L:List Nat}{h1:ac}{z:AV}{u:Value}(wy:Way w X ρ h1 h)(hv:RV w (aF w X h1 ρ) ρ h1 z u)(hc:aZ L z=true):RV w (aF w X h ρ) ρ h z u:=by
 obtain⟨ks,e,f⟩:=wy.evo;exact hv.clo (fun b hb=>e.al hb) (fun id hp=>e.keep id none hp (Wl f id)) hc
theorem Db(r:Rel w X ρ h){b:Nat}(ho:mY h ρ b):b<w.heap.size:=by
 obtain⟨id,sub,hl,rfl⟩:=ho;cases sub with
 |none=>
  have ho:=r.ob id;cases e:h id with
  |bx cs=>rw[e]at ho;obtain⟨us,t,g1,_⟩:=ho;grind
  |ar k rows=>rw[e]at ho;obtain⟨us,t,g1,_⟩:=ho;grind
  |_=>simp[live,e]at hl
 |some p=>
  obtain⟨cs,k,rows,e,ec⟩:=hl;have ho:=r.ob id;rw[e]at ho;obtain⟨us,t,g1,g2,g3,g4⟩:=ho;obtain⟨u,_,a',cap,us',t',_,_,_,q4,_⟩:=g4 p _ ec;grind
section
variable {ids:List Nat}
theorem xJ{a:Nat}(ha:a∈ids):1000<=bq ids a/\bq ids a<1000+ids.length:=by
 grind[bq,List.idxOf_lt_length_of_mem]
theorem vJ(hl:ids.length<=1000){a:Nat}(ha:a∈ids):cX ids (bq ids a)=a:=by
 have:=xJ ha;unfold cX;rw[if_pos (by omega)]
 simp_all[bq,List.idxOf_lt_length_of_mem]
theorem xK(hl:ids.length<=1000)(hnd:ids.Nodup){i:Nat}(h1:1000<=i)(h2:i<1000+ids.length):cX ids i∈ids/\bq ids (cX ids i)=i:=by
 have hj:i-1000<ids.length:=by omega
 have e:cX ids i=ids[i-1000]:=by
  unfold cX;grind
 grind[bq]
theorem HB{os:List Ob}{j:Nat}{o:Ob}(h:os[j]?=some o):ao os (1000+j)=o:=by
 simp_all[ao,if_pos]
theorem sH{os:List Ob}{i:Nat}(h:i<1000\/1000+os.length<=i):ao os i=.dead:=by
 grind[ao]
theorem Emb.enter(hl:ids.length<=1000)(hnd:ids.Nodup)(hcl:∀a∈ids,aO ids (h a)=true):Emb ids (bq ids) (cX ids) h (ao (ids.map fun a=>dp (bq ids) (h a))):=by
 have at_:∀a∈ids,ao (ids.map fun a=>dp (bq ids) (h a)) (bq ids a)=dp (bq ids) (h a):=fun a ha=>by
  refine HB ?_;grind
 have low:∀i,ao (ids.map fun a=>dp (bq ids) (h a)) i≠ .dead->1000<=i/\i<1000+ids.length:=fun i hi=>by
  by_cases h1:1000<=i/\i<1000+ids.length
  ·omega
  ·exact absurd (sH (by grind)) hi
 refine⟨fun a ha=>?_,fun i hi=>?_,fun i j hi hj e=>?_⟩
 ·have ha':a∈ids:=by grind
  exact⟨vJ hl ha',at_ a ha'⟩
 ·obtain⟨h1,h2⟩:=low i hi;obtain⟨h3,h4⟩:=xK hl hnd h1 h2;grind
 ·obtain⟨h1,h2⟩:=low i hi;obtain⟨h3,h4⟩:=low j hj;rw[← (xK hl hnd h1 h2).2,← (xK hl hnd h3 h4).2,e]
end
end
theorem Lq{gv:K}{id:Nat}:∀ {h:ac},(∀p∈gv,p.1≠id)->aqL h gv id=h id:=by
 induction gv with
 |nil=>intro h _;rfl
 |cons p l ih=>
  simp_all[aqL,aI,Ne.symm]
theorem NV{gv:K}{id:Nat}:∀ {h:ac},((∃p∈gv,p.1=id)\/h id=.dead)->aqL h gv id=.dead:=by
 induction gv with
 |nil=>
  intro h hi;rcases hi with⟨p,hp,_⟩|hi
  ·grind
  ·exact hi
 |cons p l ih=>
  simp only[aqL];grind[aq,absurd,upd]
theorem NW{ids:List Nat}:∀ {l:List Nat} {os:List Ob} {g:ac} {j a:Nat} {o:Ob},l.Nodup->l[j]?=some a->os[j]?=some o->eM g ids l os a=dp (cX ids) o
 |[],os,g,j,a,o,_,h1,_=>by grind
 |b::l,[],g,j,a,o,_,_,h2=>by grind
 |b::l,o'::os,g,j,a,o,hnd,h1,h2=>by
  obtain⟨n1,n2⟩:=List.nodup_cons.1 hnd;simp only[eM];cases j with
  |zero=>
   simp at h1 h2;subst h1 h2;rw[rS n1,aq]
  |succ j=>exact NW n2 (by simpa using h1) (by simpa using h2)
theorem HC{h:ac}:∀ {m n:Nat},dK h n m=true->∀i,n<=i->i<n+m->h i=.dead
 |0,n,_,i,h1,h2=>by omega
 |m+1,n,hf,i,h1,h2=>by
  simp only[dK,Bool.and_eq_true]at hf;by_cases e:i=n
  ·grind[cY]
  ·exact HC hf.2 i (by omega) (by omega)
theorem xL{h:ac}{gv:K}:∀ {l:List Nat} {os:List Ob},fw h gv l os=true->∀ (j a:Nat) (o:Ob),l[j]?=some a->os[j]?=some o->(bf (h a)=true->bf o=true)/\((∀p∈gv,p.1≠a)->o≠ .dead)
 |[],os,_,j,a,o,h1,_=>by grind
 |b::l,[],_,j,a,o,_,h2=>by grind
 |b::l,o'::os,hs,j,a,o,h1,h2=>by
  simp only[fw,Bool.and_eq_true,Bool.or_eq_true,Bool.not_eq_true']at hs;obtain⟨⟨s1,s2⟩,s3⟩:=hs;cases j with
  |zero=>
   refine⟨fun hb=>?_,fun hn e=>?_⟩
   ·grind
   ·grind[cY]
  |succ j=>exact xL s3 j a o (by simpa using h1) (by simpa using h2)
theorem xM{l l':List Nat}{c:AV}(hl:∀i,l.contains i=true->l'.contains i=true)(hc:bm l c=true):bm l' c=true:=by
 cases c<;>simp only[bm]at hc⊢ <;>first|exact hc|skip
 all_goals grind
theorem Dc{l l':List Nat}{c:AV}(hl:∀i,l.contains i=true->l'.contains i=true)(hc:aZ l c=true):aZ l' c=true:=by
 cases c with
 |agg cs=>
  grind[aZ,List.all_eq_true,xM]
 |fn f x y=>
  simp only[aZ,Bool.and_eq_true,List.all_eq_true]at hc⊢;grind[xM]
 |_=>
  simp only[aZ]at hc⊢;exact xM hl hc
theorem NX{l l':List Nat}{o:Ob}(hl:∀i,l.contains i=true->l'.contains i=true)(hc:aO l o=true):aO l' o=true:=by
 cases o<;>simp only[aO]at hc⊢;simp only[List.all_eq_true,gy,Bool.or_eq_true]at hc⊢;grind[Dc]
theorem NY{f:Nat->Nat}{c:AV}(hd:ap1 c=true):ey f c=c:=by
 cases c<;>simp[ap1,aW,aB]at hd<;>first|rfl|skip
 obtain⟨rfl,rfl⟩:=hd;rfl
theorem NZ{l:List Nat}{n:Nat}{g:ac}{c:AV}(hr:gj l c=true){i:Nat}(h:(dq n g c).2 i≠g i):(∃k rows,(dq n g c).2 i=.ar k rows)\/∃cs,(dq n g c).2 i=.bx cs/\cs.all ap1=true:=by
 cases c<;>simp only[dq]at h⊢ <;>first|exact absurd rfl h|skip
 case osl k rows=>
  simp_all[upd,if_neg,absurd]
 case obx cs=>
  unfold upd at h⊢;split
  ·exact .inr ⟨_,rfl,hr⟩
  grind
theorem N0{l:List Nat}{i:Nat}:∀ {vs:List AV} {n:Nat} {g:ac},vs.all (gj l)=true->(bO n g vs).2 i≠g i->(∃k rows,(bO n g vs).2 i=.ar k rows)\/∃cs,(bO n g vs).2 i=.bx cs/\cs.all ap1=true
 |[],n,g,_,h=>absurd rfl h
 |c::vs,n,g,hr,h=>by
  simp only[List.all_cons,Bool.and_eq_true]at hr;simp only[bO]at h⊢;by_cases e:(bO (n+1) (dq n g c).2 vs).2 i=(dq n g c).2 i
  ·rw[e]at h⊢;exact NZ hr.1 h
  ·exact N0 hr.2 e
theorem abi{l:List Nat}{n:Nat}{g:ac}{c:AV}(hr:apL l c=true){i:Nat}(h:(mat n g c).2 i≠g i):(∃k rows,(mat n g c).2 i=.ar k rows)\/∃cs,(mat n g c).2 i=.bx cs/\cs.all ap1=true:=by
 cases c<;>simp only[mat]at h⊢ <;>simp only[apL]at hr<;>first|exact N0 hr h|exact NZ hr h
theorem FI{l l':List Nat}{n:Nat}{g:ac}{c:AV}(hr:gj l c=true)(hl:∀i,l.contains i=true->l'.contains i=true)(hn:l'.contains n=true):aZ l' (dq n g c).1=true:=by
 cases c<;>simp only[dq]<;>simp only[gj]at hr<;>first|exact Dc hl hr| (simp only[aZ,bm,hn];rfl)
theorem FJ{l l':List Nat}(hl:∀i,l.contains i=true->l'.contains i=true):∀ {vs:List AV} {n:Nat} {g:ac},vs.all (gj l)=true->(∀i,n<=i->i<n+vs.length->l'.contains i=true)->∀z∈ (bO n g vs).1,aZ l' z=true
 |[],n,g,_,_,z,hz=>by grind[bO]
 |c::vs,n,g,hr,hn,z,hz=>by
  simp only[List.all_cons,Bool.and_eq_true]at hr;simp only[bO,List.mem_cons]at hz;rcases hz with rfl|hz
  ·exact FI hr.1 hl (hn n (Nat.le_refl _) (by simp))
  ·exact FJ hl hr.2 (fun i h1 h2=>hn i (by omega) (by simp at h2⊢;omega)) z hz
def Ug(l:List Nat):AV->Prop
 | .tup vs=>∀c∈vs,aZ l c=true
 |c=>aZ l c=true
theorem Uh{l l':List Nat}{n:Nat}{g:ac}{c:AV}(hr:gj l c=true)(hl:∀i,l.contains i=true->l'.contains i=true)(hn:l'.contains n=true):Ug l' (dq n g c).1:=by
 have:=FI (n:=n) (g:=g) hr hl hn;cases hq:(dq n g c).1<;>rw[hq]at this<;>first|exact this|simp[aZ,bm]at this
theorem Wn{l l':List Nat}{n:Nat}{g:ac}{c:AV}(hr:apL l c=true)(hl:∀i,l.contains i=true->l'.contains i=true)(hn:∀i,n<=i->i<n+cP c->l'.contains i=true):Ug l' (mat n g c).1:=by
 cases c with
 |tup vs=>
  exact FJ hl hr hn
 |_=>exact Uh hr hl (hn n (Nat.le_refl _) (by simp[cP]))
section
variable {w:World} {X:Nat→Prop} {ρ:br} {hc:ac} {ids:List Nat}
def FK(X:Nat->Prop)(hc:ac)(ρ:br)(ids:List Nat)(b:Nat):Prop:=
 X b\/(mY hc ρ b/\¬mY (ao (ids.map fun a=>dp (bq ids) (hc a))) (fun i s=>ρ (cX ids i) s) b)
theorem Wo(r:Rel w X ρ hc)(hl:ids.length<=1000)(hnd:ids.Nodup)(hcl:∀a∈ids,aO ids (hc a)=true):
  Rel w (FK X hc ρ ids) (fun i s=>ρ (cX ids i) s) (ao (ids.map fun a=>dp (bq ids) (hc a)))/\
  (∀b,aF w X hc ρ b->aF w (FK X hc ρ ids) (ao (ids.map fun a=>dp (bq ids) (hc a))) (fun i s=>ρ (cX ids i) s) b):=by
 have em:=Emb.enter (h:=hc) hl hnd hcl;have hA:∀b,aF w X hc ρ b->aF w (FK X hc ρ ids) (ao (ids.map fun a=>dp (bq ids) (hc a))) (fun i s=>ρ (cX ids i) s) b:=fun b hb=>
  ⟨hb.1,fun hx=>by rcases hx with hx| ⟨hx,_⟩;exact hb.2.1 hx;exact hb.2.2 hx,fun⟨i,s,h1,h2⟩=>hb.2.2 ⟨_,s,(em.live h1).1,h2⟩⟩
 exact⟨Rel.emb em r (fun b hb=>by rcases hb with(hb| ⟨hb,_⟩)|hb;exact r.xl b (.inl hb);exact Db r hb;exact r.xl b (.inr hb)) (fun i s hl hx=>by
  rcases hx with(hx| ⟨_,hx⟩)|hx
  ·exact r.nx _ _ (em.live hl).1 (.inl hx)
  ·exact hx ⟨i,s,hl,rfl⟩
  ·exact r.nx _ _ (em.live hl).1 (.inr hx)) hA,hA⟩
theorem Dd(hl:ids.length<=1000)(hnd:ids.Nodup)(hcl:∀a∈ids,aO ids (hc a)=true){b:Nat}(ho:mY (ao (ids.map fun a=>dp (bq ids) (hc a))) (fun i s=>ρ (cX ids i) s) b):
  ∃id sub,id∈ids/\live hc id sub/\(ρ id sub).1=b:=by
 obtain⟨i,s,h1,h2⟩:=ho;obtain⟨h3,h4⟩:=(Emb.enter (h:=hc) hl hnd hcl).live h1;grind[absurd,sH,xK]
theorem Ui{w':World}{ρ':br}{kp:Bool}{d:Nat}{gv ks0 ks:K}{res:AV}{os:List Ob}{z:AV}{h':ac}{v:Value}(r:Rel w X ρ hc)(hnd:ids.Nodup)(hcl:∀a∈ids,aO ids (hc a)=true)(hdead:∀a∈ids,hc a≠ .dead)(gvflag:∀p∈gv,p.2=false)
  (hz:gz kp hc d ids ks0 gv (res,os)=some (z,h',ks)) (r':Rel w' (FK X hc ρ ids) ρ' (mat (2000+8*d) (ao os) res).2)
  (far:Far kp w (fun i s=>ρ (cX ids i) s) (ao (ids.map fun a=>dp (bq ids) (hc a))) w' ρ' (mat (2000+8*d) (ao os) res).2)
  (hv:RV w' (aF w' (FK X hc ρ ids) (mat (2000+8*d) (ao os) res).2 ρ') ρ' (mat (2000+8*d) (ao os) res).2 (mat (2000+8*d) (ao os) res).1 v):
  ∃ρ3 k1,ks=ks0++k1/\Rel w' X ρ3 h'/\Evo w ρ hc w' ρ3 h' k1/\RV w' (aF w' X h' ρ3) ρ3 h' z v:=by
 unfold gz at hz;split at hz
 ·rename_i hcond;obtain⟨c1,hl,c2,c3,c4,c5⟩:=hcond;simp only at c1 c2 c4;simp only[Option.some.injEq,Prod.mk.injEq]at hz;obtain⟨rfl,rfl,rfl⟩:=hz;simp only[yO,Bool.and_eq_true]at c5;obtain⟨c5,c6,c7⟩:=c5;generalize hn:2000+8*d=n at*
  have n2:2000<=n:=by omega
  have em:=Emb.enter (h:=hc) hl hnd hcl;have gdead:∀i,n<=i->i<n+cP res->hc i=.dead:=HC c3;have gids:∀i,n<=i->i<n+cP res->i∉ids:=fun i h1 h2 hi=>hdead i hi (gdead i h1 h2);have oget:∀a∈ids,os[ids.idxOf a]?=some (ao os (bq ids a)):=fun a ha=>by
   simp_all[List.idxOf_lt_length_of_mem,bq,congrArg,HB]
  have hm_ids:∀a∈ids,(mat n (ao os) res).2 (bq ids a)=ao os (bq ids a):=fun a ha=>uj (by grind[xJ]);have hm_out:∀i,¬ (1000<=i/\i<1000+ids.length)->¬ (n<=i/\i<n+cP res)->(mat n (ao os) res).2 i=.dead:=fun i h1 h2=>by
   grind[uj,sH]
  have w_ids:∀a∈ids,eM hc ids ids os a=dp (cX ids) (ao os (bq ids a)):=fun a ha=>NW hnd (by
   grind) (oget a ha)
  have h_grp:∀i,n<=i->i<n+cP res->(mat n (aqL (eM hc ids ids os) gv) res).2 i=(mat n (ao os) res).2 i:=fun i h1 h2=>Wg (by
   grind[NV,rS,sH])
  have h_ids:∀a∈ids,(∀p∈gv,p.1≠a)->(mat n (aqL (eM hc ids ids os) gv) res).2 a=dp (cX ids) ((mat n (ao os) res).2 (bq ids a)):=fun a ha hg=>by
   rw[uj (fun hh=>gids a hh.1 hh.2 ha),Lq hg,w_ids a ha,hm_ids a ha]
  have h_gv:∀a,¬ (n<=a/\a<n+cP res)->(∃p∈gv,p.1=a)->(mat n (aqL (eM hc ids ids os) gv) res).2 a=.dead:=fun a h1 hg=>by
   rw[uj (by omega),NV (.inl hg)]
  have h_out:∀a,a∉ids->¬ (n<=a/\a<n+cP res)->(∀p∈gv,p.1≠a)->(mat n (aqL (eM hc ids ids os) gv) res).2 a=hc a:=fun a h1 h2 hg=>by
   rw[uj (by omega),Lq hg,rS h1]
  generalize hh':(mat n (aqL (eM hc ids ids os) gv) res).2=h' at*
  have hzr':(mat n (ao os) res).1=(mat n (aqL (eM hc ids ids os) gv) res).1:=R5 _ _ _ _;generalize(mat n (aqL (eM hc ids ids os) gv) res).1=zr at*
  have grp_obj:∀i,n<=i->i<n+cP res->(mat n (ao os) res).2 i≠ .dead->(∃k rows,(mat n (ao os) res).2 i=.ar k rows)\/∃cs,(mat n (ao os) res).2 i=.bx cs/\cs.all ap1=true:=fun i h1 h2 hd=>
   abi c6 (by grind[sH])
  rw[hzr']at hv;have zcl:∀ {l':List Nat},(∀i,(Hh ids gv).contains i=true->l'.contains i=true)->(∀i,n<=i->i<n+cP res->l'.contains i=true)->Ug l' zr:=fun{l'} hl1 hl2=>hzr'▸Wn c6 hl1 hl2;generalize hhm:(mat n (ao os) res).2=hm at*
  have ok_spec:∀i,(Hh ids gv).contains i=true->1000<=i/\i<1000+ids.length/\∀p∈gv,p.1≠cX ids i:=fun i hi=>by
   unfold Hh at hi;split at hi
   all_goals simp_all[List.contains_eq_mem,List.mem_filter,decide_eq_true_eq,Bool.not_eq_true',List.any_eq_false,beq_iff_eq,cu]
  let L3:List Nat:=Hh ids gv++List.range' n (cP res)
  have l3a:∀i,(Hh ids gv).contains i=true->L3.contains i=true:=fun i hi=>by
   grind
  have l3b:∀i,n<=i->i<n+cP res->L3.contains i=true:=fun i h1 h2=>by
   grind
  let Cal:Nat->Prop:=fun i=>(i∈ids/\∀p∈gv,p.1≠i)\/(n<=i/\i<n+cP res)
  let nm:Nat->Nat:=fun i=>if i∈ids then bq ids i else i
  let h3:ac:=fun i=>open Classical in if Cal i then h' i else .dead
  have h3c:∀i,Cal i->h3 i=h' i:=fun i hi=>by grind
  have h3n:∀i,h3 i≠ .dead->Cal i:=fun i hi=>by
   grind
  have nmi:∀i∈ids,nm i=bq ids i:=fun i hi=>by grind
  have nmg:∀i,n<=i->i<n+cP res->nm i=i:=fun i h1 h2=>by grind
  have em3:Emb L3 (cX ids) nm hm h3:=by
   refine⟨fun i hi=>?_,fun i hi=>?_,fun i j hi hj e=>?_⟩
   ·simp only[L3,List.contains_eq_mem,List.mem_append,decide_eq_true_eq,List.mem_range'_1]at hi;rcases hi with hi|hi
    ·grind[xK]
    ·have e1:cX ids i=i:=by unfold cX;rw[if_neg (by omega)]
     rw[e1];refine⟨nmg i hi.1 hi.2,?_⟩;rw[h3c _ (.inr hi),h_grp i hi.1 hi.2];by_cases hd:hm i=.dead
     ·rw[hd];rfl
     ·rcases grp_obj i hi.1 hi.2 hd with⟨k,rows,e2⟩| ⟨cs,e2,e3⟩
      ·rw[e2];rfl
      ·rw[e2];simp only[dp,Ob.bx.injEq];exact((List.map_congr_left (g:=fun c=>c) fun c hc=>NY (List.all_eq_true.1 e3 c hc)).trans (List.map_id' cs)).symm
   ·rcases h3n i hi with⟨q1,q2⟩| ⟨q1,q2⟩
    ·rw[h3c _ (.inl ⟨q1,q2⟩),nmi i q1];refine⟨h_ids i q1 q2,?_⟩;rw[hm_ids i q1];exact NX l3a (List.all_eq_true.1 c7 _ (List.mem_of_getElem? (oget i q1)))
    ·rw[nmg i q1 q2];have hd:hm i≠ .dead:=by rw[h3c _ (.inr ⟨q1,q2⟩),h_grp i q1 q2]at hi;exact hi
     rw[h3c _ (.inr ⟨q1,q2⟩),h_grp i q1 q2];rcases grp_obj i q1 q2 hd with⟨k,rows,e2⟩| ⟨cs,e2,e3⟩
     ·rw[e2];exact⟨rfl,rfl⟩
     ·rw[e2];refine⟨?_,?_⟩
      ·simp only[dp,Ob.bx.injEq];exact((List.map_congr_left (g:=fun c=>c) fun c hc=>NY (List.all_eq_true.1 e3 c hc)).trans (List.map_id' cs)).symm
      ·simp only[aO,List.all_eq_true];exact fun c hc=>FG (List.all_eq_true.1 e3 c hc)
   ·rcases h3n i hi with⟨q1,q2⟩| ⟨q1,q2⟩<;>rcases h3n j hj with⟨q3,q4⟩| ⟨q3,q4⟩
    ·rw[nmi i q1,nmi j q3]at e;rw[←vJ hl q1,←vJ hl q3,e]
    ·rw[nmi i q1,nmg j q3 q4]at e;have:=xJ q1;omega
    ·rw[nmg i q1 q2,nmi j q3]at e;have:=xJ q3;omega
    ·rwa[nmg i q1 q2,nmg j q3 q4]at e
  have own3:∀ {b},mY h3 (fun i s=>ρ' (nm i) s) b->mY hm ρ' b:=fun⟨i,s,h1,h2⟩=>⟨nm i,s,(em3.live h1).1,h2⟩;have r3:Rel w' (FK X hc ρ ids) (fun i s=>ρ' (nm i) s) h3:=Rel.emb em3 r' r'.xl (fun i s hl=>r'.nx _ _ (em3.live hl).1) fun b hb=>⟨hb.1,hb.2.1,fun ho=>hb.2.2 (own3 ho)⟩
  let ρ3:br:=fun i s=>open Classical in if Cal i then ρ' (nm i) s else ρ i s
  have r3c:∀i,Cal i->∀s,ρ3 i s=ρ' (nm i) s:=fun i hi s=>by simp only[ρ3,if_pos hi]
  have r3n:∀i,¬Cal i->∀s,ρ3 i s=ρ i s:=fun i hi s=>by simp only[ρ3,if_neg hi]
  have rest:∀i,¬Cal i->h' i≠ .dead->i∉ids/\h' i=hc i:=fun i hi hd=>by
   have h1:¬ (n<=i/\i<n+cP res):=fun hh=>hi (.inr hh);have h2:∀p∈gv,p.1≠i:=fun p hp e=>hd (h_gv i h1 ⟨p,hp,e⟩);have h4:i∉ids:=fun hh=>hi (.inl ⟨hh,h2⟩);exact⟨h4,h_out i h4 h1 h2⟩
  have xin:∀ {i s},i∉ids->live hc i s->¬mY (ao (ids.map fun a=>dp (bq ids) (hc a))) (fun i s=>ρ (cX ids i) s) (ρ i s).1:=fun{i s} hi hl' ho=>by
   obtain⟨id,sub,q1,q2,q3⟩:=Dd hl hnd hcl ho;obtain⟨e,_⟩:=r.inj _ _ _ _ q2 hl' q3;exact hi (e▸q1)
  have lcal:∀ {i s},live h' i s->Cal i->live h3 i s:=fun{i s} hl' hC=>(cx (h3c i hC)).2 hl';have lrest:∀ {i s},live h' i s->¬Cal i->i∉ids/\live hc i s:=fun{i s} hl' hC=>by
   have hd:h' i≠ .dead:=by
    cases s with
    |none=>intro e;simp[live,e]at hl'
    |some p=>obtain⟨_,_,_,e,_⟩:=hl';rw[e];simp
   obtain⟨h1,h2⟩:=rest i hC hd;exact⟨h1,(cx h2).1 hl'⟩
  have fr3:∀ {b},mY hm ρ' b->mY (ao (ids.map fun a=>dp (bq ids) (hc a))) (fun i s=>ρ (cX ids i) s) b\/w.heap.size<=b:=fun ho=>far.fresh _ ho;have parts:∀ {i s j t},live h3 i s->j∉ids->live hc j t->(ρ' (nm i) s).1≠ (ρ j t).1:=fun{i s j t} h1 h2 h4 e=>by
   rcases fr3 ⟨nm i,s,(em3.live h1).1,e⟩with ho|ho
   ·exact xin h2 h4 ho
   ·have:=Db r ⟨j,t,h4,rfl⟩;omega
  have ownc:∀ {b},mY h' ρ3 b->mY h3 (fun i s=>ρ' (nm i) s) b\/∃id sub,id∉ids/\live hc id sub/\(ρ id sub).1=b:=fun{b} ⟨i,s,h1,h2⟩=>by
   by_cases hC:Cal i
   ·exact .inl ⟨i,s,lcal h1 hC,by rw[←h2,r3c i hC]⟩
   ·obtain⟨h4,h5⟩:=lrest h1 hC;exact .inr ⟨i,s,h4,h5,by rw[←h2,r3n i hC]⟩
  have hA3:∀b,aF w' (FK X hc ρ ids) h3 (fun i s=>ρ' (nm i) s) b->aF w' X h' ρ3 b:=fun b hb=>⟨hb.1,fun hx=>hb.2.1 (.inl hx),fun ho=>by
   rcases ownc ho with ho| ⟨i,s,h1,h2,rfl⟩
   ·exact hb.2.2 ho
   ·exact hb.2.1 (.inr ⟨⟨i,s,h2,rfl⟩,xin h1 h2⟩)⟩
  have noE:∀ {b},¬mY hc ρ b->¬mY (ao (ids.map fun a=>dp (bq ids) (hc a))) (fun i s=>ρ (cX ids i) s) b:=fun{b} hb ho=>by
   obtain⟨id,sub,_,q2,q3⟩:=Dd hl hnd hcl ho;exact hb ⟨id,sub,q2,q3⟩
  have hAc:∀b,aF w X hc ρ b->aF w' X h' ρ3 b/\w'.heap[b]?=w.heap[b]?:=fun b hb=>by
   refine⟨⟨Nat.lt_of_lt_of_le hb.1 far.size,hb.2.1,fun ho=>?_⟩,far.old b hb.1 (noE hb.2.2)⟩;rcases ownc ho with ho| ⟨i,s,h1,h2,rfl⟩
   ·rcases fr3 (own3 ho)with ho|ho
    ·exact noE hb.2.2 ho
    ·have:=hb.1;omega
   ·exact hb.2.2 ⟨i,s,h2,rfl⟩
  have pas:∀a∈ids,aQ (bq ids a)=true:=fun a ha=>by
   have:=xJ ha;simp only[aQ,decide_eq_true_eq];omega
  have stayI:∀a∈ids,(∀p∈gv,p.1≠a)->h' a≠ .dead/\ρ3 a none=ρ a none/\hm (bq ids a)≠ .dead:=fun a ha hg=>by
   have h1:=(xL c4 _ a _ (by have h1:=List.idxOf_lt_length_of_mem ha;rw[List.getElem?_eq_getElem h1];simp) (oget a ha)).2 hg;have h2:hm (bq ids a)≠ .dead:=by rw[hm_ids a ha];exact h1
   refine⟨by rw[h_ids a ha hg,ne_eq,C1];exact h2,?_,h2⟩;rw[r3c a (.inl ⟨ha,hg⟩),nmi a ha,(far.stay _ (pas a ha) h2).2,vJ hl ha]
  have bfB:∀id,bf (hc id)=true->bf (h' id)=true/\ρ3 id none=ρ id none:=fun id hb=>by
   have h1:¬ (n<=id/\id<n+cP res):=fun hh=>by rw[gdead id hh.1 hh.2]at hb;cases hb
   have h2:∀p∈gv,p.1≠id:=fun p hp e=>by
    have:=List.all_eq_true.1 c5 p hp;rw[e,hb]at this;cases this
   by_cases hi:id∈ids
   ·have h4:=(xL c4 _ id _ (by have h1:=List.idxOf_lt_length_of_mem hi;rw[List.getElem?_eq_getElem h1];simp) (oget id hi)).1 hb;exact⟨by rw[h_ids id hi h2,R1,hm_ids id hi];exact h4,(stayI id hi h2).2.1⟩
   ·exact⟨by rw[h_out id hi h1 h2];exact hb,r3n id (fun hC=>by rcases hC with hC|hC;exact hi hC.1;exact h1 hC) none⟩
  have rel:Rel w' X ρ3 h':=by
   refine⟨fun i s j t h1 h2 e=>?_,fun i s h1 hx=>?_,fun id=>?_,fun b hb=>Nat.lt_of_lt_of_le (r.xl b hb) far.size⟩
   ·by_cases hi:Cal i<;>by_cases hj:Cal j
    ·rw[r3c i hi,r3c j hj]at e;exact r3.inj _ _ _ _ (lcal h1 hi) (lcal h2 hj) e
    ·rw[r3c i hi,r3n j hj]at e;obtain⟨q1,q2⟩:=lrest h2 hj;exact absurd e (parts (lcal h1 hi) q1 q2)
    ·rw[r3n i hi,r3c j hj]at e;obtain⟨q1,q2⟩:=lrest h1 hi;exact absurd e.symm (parts (lcal h2 hj) q1 q2)
    ·rw[r3n i hi,r3n j hj]at e;exact r.inj _ _ _ _ (lrest h1 hi).2 (lrest h2 hj).2 e
   ·by_cases hi:Cal i
    ·rw[r3c i hi]at hx;exact r3.nx _ _ (lcal h1 hi) (hx.imp .inl id)
    ·rw[r3n i hi]at hx;exact r.nx _ _ (lrest h1 hi).2 hx
   ·by_cases hi:Cal id
    ·have:=(r3.ob id).keep (w':=w') (A':=aF w' X h' ρ3) (ρ':=ρ3) (h':=h') (fun b hb=>⟨hA3 b hb,rfl⟩) (fun i hb=>by
      have hC:=h3n i (fun e=>by rw[e]at hb;cases hb);rw[h3c i hC]at hb;exact⟨hb,r3c i hC none⟩) (fun s=>r3c id hi s) (fun _ _=>rfl)
     rwa[h3c id hi]at this
    ·by_cases hd:h' id=.dead
     ·rw[hd];trivial
     ·obtain⟨q1,q2⟩:=rest id hi hd;have:=(r.ob id).keep (w':=w') (A':=aF w' X h' ρ3) (ρ':=ρ3) (h':=h') hAc bfB (fun s=>r3n id hi s) (fun s hl'=>far.old _ (Db r ⟨id,s,hl',rfl⟩) (xin q1 hl'));rwa[←q2]at this
  have evo:Evo w ρ hc w' ρ3 h' ((if kp then []else ids.map (·,true))++gv):=by
   refine⟨far.os,far.tape,far.output,far.size,fun b hb ho=>far.old b hb (noE ho),fun id sub hp hk=>?_,fun b ho=>?_,bfB,fun id hp hd=>?_⟩
   ·rw[Br,Bool.or_eq_false_iff]at hk;have h2:∀p∈gv,p.1≠id:=fun p hp' e=>by
     have hk2:=hk.2;simp only[gS,List.any_eq_false,Bool.and_eq_true,beq_iff_eq,Bool.or_eq_true,Bool.not_eq_true',not_and]at hk2;exact hk2 p hp' e (.inl (gvflag p hp'))
    have hnd':hc id≠ .dead:=by
     cases sub with
     |none=>exact hp
     |some p=>obtain⟨_,_,_,e,_⟩:=hp;rw[e];simp
    have h1:¬ (n<=id/\id<n+cP res):=fun hh=>hnd' (gdead id hh.1 hh.2);by_cases hi:id∈ids
    ·cases sub with
     |none=>exact⟨(stayI id hi h2).1,(stayI id hi h2).2.1⟩
     |some p=>
      cases kp with
      |false=>
       have hk1:=hk.1;simp only[Bool.false_eq_true,if_false,gS,List.any_map,List.any_eq_false,Function.comp,Bool.and_eq_true,beq_iff_eq]at hk1;exact absurd ⟨rfl,rfl⟩ (hk1 id hi)
      |true=>
       have hpe:bC (ao (ids.map fun a=>dp (bq ids) (hc a))) (bq ids id) (some p):=by
        obtain⟨cs,k,rows,e1,e2⟩:=hp;have:=(em.back id (by simpa using hi)).2;rw[e1]at this;refine⟨cs.map (ey (bq ids)),k,rows,this,?_⟩;rw[List.getElem?_map,e2];rfl
       obtain⟨q1,q2⟩:=far.keep rfl (bq ids id) p (pas id hi) (stayI id hi h2).2.2 hpe;refine⟨?_,?_⟩
       ·obtain⟨cs,k,rows,e1,e2⟩:=q1;refine⟨cs.map (ey (cX ids)),k,rows,?_,?_⟩
        ·rw[h_ids id hi h2,e1];rfl
        ·rw[List.getElem?_map,e2];rfl
       ·rw[r3c id (.inl ⟨hi,h2⟩),nmi id hi,q2,vJ hl hi]
    ·have hC:¬Cal id:=fun hC=>by rcases hC with hC|hC;exact hi hC.1;exact h1 hC
     exact⟨(dV (h_out id hi h1 h2)).2 hp,r3n id hC sub⟩
   ·rcases ownc ho with ho| ⟨i,s,h1,h2,rfl⟩
    ·rcases fr3 (own3 ho)with ho|ho
     ·obtain⟨id,sub,_,q2,q3⟩:=Dd hl hnd hcl ho;exact .inl ⟨id,sub,q2,q3⟩
     ·exact .inr ho
    ·exact .inl ⟨i,s,h2,rfl⟩
   ·simp only[aQ,decide_eq_true_eq]at hp;by_cases hi:id∈ids
    ·refine⟨hdead id hi,?_⟩;by_cases hg:∀p∈gv,p.1≠id
     ·exact(stayI id hi hg).2.1
     ·exfalso;refine hd (h_gv id (by omega) ?_);have:=Classical.not_forall.1 hg;obtain⟨p,hp'⟩:=this;obtain⟨hp1,hp2⟩:=Classical.not_imp.1 hp';exact⟨p,hp1,Classical.not_not.1 hp2⟩
    ·have hC:¬Cal id:=fun hC=>by rcases hC with hC|hC;exact hi hC.1;omega
     obtain⟨_,q2⟩:=rest id hC hd;exact⟨q2▸hd,r3n id hC none⟩
  refine⟨ρ3,_,rfl,rel,evo,?_⟩;have toV:∀ {c:AV} {u:Value},RV w' (aF w' (FK X hc ρ ids) hm ρ') ρ' hm c u->aZ L3 c=true->RV w' (aF w' X h' ρ3) ρ3 h' (ey (cX ids) c) u:=fun{c u} hv hcl'=>by
   have h1:=hv.embA (A2:=aF w' (FK X hc ρ ids) h3 (fun i s=>ρ' (nm i) s)) em3 (fun b hb=>⟨hb.1,hb.2.1,fun ho=>hb.2.2 (own3 ho)⟩) hcl';exact h1.keep (fun b hb=>⟨hA3 b hb,rfl⟩) fun i s hp=>by
    have hC:=h3n i (by
     cases s with
     |none=>exact hp
     |some p=>obtain⟨_,_,_,e,_⟩:=hp;rw[e];simp)
    exact⟨(dV (h3c i hC)).1 hp,r3c i hC s⟩
  have zc:=zcl l3a l3b;cases zr with
  |tup vs=>
   cases hv with
   |dat hd=>cases hd
   |tup _ us hs hr=>
    refine .tup _ us (by simpa using hs) fun i c u hc' hu=>?_;simp only[List.getElem?_map,Option.map_eq_some_iff]at hc';obtain⟨c0,h1,rfl⟩:=hc';exact toV (hr i c0 u h1 hu) (zc c0 (List.mem_of_getElem? h1))
  |_=>exact toV hv zc
 grind
end
theorem HD:∀ {l:List AV} {ms:List Nat},∀p∈uX ms l,p.2=false
 |[],ms,p,hp=>by grind[uX]
 |a::l,ms,p,hp=>by
  simp only[uX,List.mem_append]at hp;rcases hp with hp|hp
  ·split at hp
   ·simp only[List.mem_map]at hp;obtain⟨i,_,rfl⟩:=hp;rfl
   ·simp at hp
  ·exact HD p hp
section
variable {P:Program} {I:Inv} {call:ef} {md:Mode}
def Uj(P:Program)(I:Inv)(call:ef)(md:Mode):Prop:=
 ∀ {w:World} {X:Nat->Prop} {ρ:br} {h h':ac} {d:Nat} {f z:AV} {zas:List AV} {ks:K} {uf:Value} {us:Array Value},d<1000->I.p w X->Rel w X ρ h->RV w (aF w X h ρ) ρ h f uf->us.size=zas.length->
  (∀ (i:Nat) (c:AV) (u:Value),zas[i]?=some c->us[i]?=some u->RV w (aF w X h ρ) ρ h c u)->eP call md h d zas f=some (z,h',ks)->
  ∃g first cap,uf=.func (.func g) first cap/\Enters P g (first++us++cap) w fun v w'=>Got w X ρ h w' h' ks z v
theorem Rf(hf:∀f,re P I (md.keep f) f (call f)):Uj P I call md:=by
 intro w X ρ h h' d f z zas ks uf us hd hi r hvf hus hva hz;cases f<;>simp only[eP]at hz<;>try (cases hz;done)
 rename_i fid a b;obtain⟨first,cap,rfl,s1,s2,va,vb⟩:=hvf.fn_inv;refine⟨fid,first,cap,rfl,?_⟩;simp only[Option.bind_eq_some_iff]at hz;obtain⟨⟨zs,hc,ks0⟩,e1,e2⟩:=hz;obtain⟨r1,ev1,fl1,ln1,vv⟩:=Da (h0:=h) (a++zas++b) (md.m fid) (first++us++cap).toList r .refl (by grind) (fun i c u h1 h2=>by
  grind) e1
 have hnd:(cq hc 40 (bV [] (zs.flatMap cj)) 0).Nodup:=FA (xG List.nodup_nil);generalize cq hc 40 (bV [] (zs.flatMap cj)) 0=ids at*
 unfold mj at e2;split at e2
 ·rename_i hck;simp only[Bool.and_eq_true,List.all_eq_true,Bool.not_eq_true']at hck;obtain⟨k1,k2⟩:=hck;simp only[Option.bind_eq_some_iff]at e2;obtain⟨⟨res,os⟩,e3,e4⟩:=e2;have hl:ids.length<=1000:=by
   grind[gz]
  have hcl:∀a∈ids,aO ids (hc a)=true:=fun a ha=>(k2 a ha).1;have hdead:∀a∈ids,hc a≠ .dead:=fun a ha e=>by
   have:=(k2 a ha).2;rw[e]at this;cases this
  have em:=Emb.enter (h:=hc) hl hnd hcl;obtain⟨rE,hA⟩:=Wo r1 hl hnd hcl;have hi1:I.p w (FK X hc ρ ids):=I.more hi fun b hb=>.inl hb;refine(hf fid e3 (n:=2000+8*d) (by omega) hi1 rE (by grind[List.length_map,sG]) fun i c u hc' hu=>?_).mono fun v w' ⟨ρ',q1,q2,q3⟩=>?_
  ·simp only[List.getElem?_map,Option.map_eq_some_iff]at hc';obtain⟨c0,h1,rfl⟩:=hc';obtain⟨c1,h2,h3⟩:=rU _ _ _ _ h1;obtain⟨h4,wy,hv⟩:=vv i c1 u h2 (by grind);have hv':RV w (aF w X h4 ρ) ρ h4 c0 u:=by
    rcases h3 with rfl| ⟨ss,rfl⟩
    ·omega
    ·exact hv.nrmV ss
   have hcc:=k1 c0 (List.mem_of_getElem? h1);exact(Wm wy hv' hcc).embA em hA hcc
  ·obtain⟨ρ3,k3,rfl,g1,g2,g3⟩:=Ui r1 hnd hcl hdead HD e4 q1 q2 q3;exact⟨ρ3,g1,ev1.trans g2,g3⟩
 grind
theorem De{w:World}{X:Nat->Prop}{ρ:br}{h:ac}{b:Nat}(hb:aF w X h ρ b):aF w X (ao []) ρ b:=⟨hb.1,hb.2.1,fun⟨id,sub,hl,_⟩=>by
 have hd:ao [] id=.dead:=by grind[ao]
 cases sub with
 |none=>grind[live]
 |some p=>grind[live]⟩
theorem R8{w:World}{X:Nat->Prop}{ρ:br}{h:ac}(r:Rel w X ρ h){id:Nat}{sub:Option Nat}(hl:live h id sub):aF w X (ao []) ρ (ρ id sub).1:=
 ⟨Db r ⟨id,sub,hl,rfl⟩,fun hx=>r.nx id sub hl (.inl hx),fun⟨id',sub',hl',_⟩=>by
  have hd:ao [] id'=.dead:=by grind[ao]
  cases sub' with
  |none=>grind[live]
  |some p=>grind[live]⟩
theorem Uk{w:World}{X:Nat->Prop}{ρ:br}{h:ac}(r:Rel w X ρ h){a c:AV}{u:Value}(hv:RV w (aF w X h ρ) ρ h a u)(hz:YB h a=some c):RV w (aF w X (ao []) ρ) ρ (ao []) c u:=by
 have dd:∀ {a:AV},RD w (aF w X h ρ) a u->RV w (aF w X (ao []) ρ) ρ (ao []) a u:=fun hd=>.dat (hd.mono fun b hb=>⟨De hb,rfl⟩);cases a<;>simp only[YB]at hz<;>try (cases hz;done)
 case v x=>cases hz;exact .dat (by obtain⟨rfl,hp⟩:=hv.v_inv;exact .v _ hp)
 case emp=>cases hz;obtain⟨a,rfl⟩:=hv.emp_inv;exact .dat (.emp a)
 case sl k rows=>cases hz;exact dd hv.sl_inv
 case rsl id sub k lo n=>
  simp only[Option.map_eq_some_iff]at hz;obtain⟨rs,h1,rfl⟩:=hz;obtain⟨a,cap,rfl,hp,hn,hb,ha⟩:=hv.rsl_inv;cases sub with
  |none=>
   simp only[vC]at h1;have ho:=r.ob id;cases eo:h id with
   |dead=>grind[vB,gx]
   |bx cs=>grind[vB,gx]
   |ar k' rows=>
    rw[eo]at h1 ho;simp only[vB,gx]at h1;split at h1
    ·rename_i hc;obtain⟨rfl,hle⟩:=hc;cases h1;obtain⟨us,t0,g1,g2,g3,g4⟩:=ho;exact .dat (kr g1 (R8 r (by grind[live])) (g4.mono fun b hb=>⟨De hb,rfl⟩) hle hn ha)
    grind
   |fz k' rows=>
    rw[eo]at h1 ho;simp only[vB,gx]at h1;split at h1
    ·rename_i hc;obtain⟨rfl,hle⟩:=hc;cases h1;obtain⟨ga,us,t0,fr,g1,g2,g3,g4⟩:=ho;exact .dat (kr g1 (De ga) (g4.mono fun b hb=>⟨De hb,rfl⟩) hle hn ha)
    grind
  |some p=>
   simp only[vC]at h1;cases eo:h id with
   |bx cs=>
    rw[eo]at h1;simp only[jl]at h1;cases ec:cs[p]? with
    |none=>grind[ub,gx]
    |some c=>
     rw[ec]at h1;cases c<;>simp[ub,gx]at h1;rename_i k' rows;obtain⟨⟨rfl,hle⟩,rfl⟩:=h1;obtain⟨us,t0,g1,g2,g3,g4⟩:=r.cell eo;obtain⟨u,f1,a',cap',us1,t1,q1,q2,q3,q4,q5,q6,q7⟩:=g4 p _ ec;exact .dat (kr q4 (R8 r ⟨cs,_,rows,eo,ec⟩) (q7.mono fun b hb=>⟨De hb,rfl⟩) hle hn ha)
   |dead=>grind[jl,gx]
   |ar k' rows=>grind[jl,gx]
   |fz k' rows=>grind[jl,gx]
 case fn f x y=>
  cases x with
  |cons a l=>grind
  |nil=>
   cases y with
   |cons a l=>grind
   |nil=>
    simp only[Option.some.injEq]at hz;subst hz;obtain⟨us,ts,rfl,s1,s2,_,_⟩:=hv.fn_inv;exact .fn f [] [] us ts s1 s2 (fun i c u hc=>by grind) (fun i c u hc=>by grind)
theorem HE{w:World}{X:Nat->Prop}{ρ:br}{h:ac}(r:Rel w X ρ h):∀ (l:List AV) (vals:List Value) {cs:List AV},vals.length=l.length->(∀ (i:Nat) (c:AV) (u:Value),l[i]?=some c->vals[i]?=some u->RV w (aF w X h ρ) ρ h c u)->Nm h l=some cs->
  cs.length=l.length/\∀ (i:Nat) (c:AV) (u:Value),cs[i]?=some c->vals[i]?=some u->RV w (aF w X (ao []) ρ) ρ (ao []) c u
 |[],vals,cs,hl,hv,hz=>by
  grind[Nm,Option.some.injEq]
 |a::l,[],cs,hl,hv,hz=>by grind
 |a::l,v::vals,cs,hl,hv,hz=>by
  simp only[Nm,Option.bind_eq_some_iff]at hz;obtain⟨b,e1,q,e2,e3⟩:=hz;cases e3;obtain⟨g1,g2⟩:=HE r l vals (by grind) (fun i c u hc hu=>hv (i+1) c u (by grind) (by grind)) e2;refine⟨by grind,fun i c u hc hu=>?_⟩;cases i with
  |zero=>simp at hc hu;subst hc hu;exact Uk r (hv 0 a v rfl rfl) e1
  |succ i=>grind
theorem Ul{kp:Bool}{w w':World}{X:Nat->Prop}{ρ ρ':br}{h:ac}(r:Rel w X ρ h)(far:Far kp w ρ (ao []) w' ρ' (ao [])):Rel w' X ρ h/\Evo w ρ h w' ρ h []:=by
 have no:∀b,¬mY (ao []) ρ b:=fun b ⟨id',sub',hl',_⟩=>by
  have hd:ao [] id'=.dead:=by grind[ao]
  cases sub' with
  |none=>grind[live]
  |some p=>grind[live]
 have e:Evo w ρ h w' ρ h []:=⟨far.os,far.tape,far.output,far.size,fun b hb _=>far.old b hb (no b),fun _ _ hp _=>⟨hp,rfl⟩,fun _ ho=>.inl ho,fun _ hb=>⟨hb,rfl⟩,fun _ _ hd=>⟨hd,rfl⟩⟩;exact⟨r.step e (fun _=>False) (fun _ _=>⟨rfl,fun _=>rfl,fun sub hl=>far.old _ (Db r ⟨_,sub,hl,rfl⟩) (no _)⟩) r.inj r.nx (fun _ hf=>hf.elim),e⟩
theorem Um{c:AV}(hp:sx c=true)(n:Nat)(h:ac):dq n h c=(c,h):=by
 cases c<;>simp[sx]at hp;rfl
theorem HF:∀ {vs:List AV} (n:Nat) (h:ac),vs.all sx=true->bO n h vs=(vs,h)
 |[],n,h,_=>rfl
 |a::l,n,h,hp=>by
  simp only[List.all_cons,Bool.and_eq_true]at hp;simp only[bO,Um hp.1,HF (n+1) h hp.2]
theorem Wp{c:AV}(hp:CL c=true)(n:Nat)(h:ac):mat n h c=(c,h):=by
 cases c<;>simp only[CL]at hp<;>try (simp[sx]at hp;done)
 case v x=>rfl
 grind[mat,HF]
theorem Lr{w w':World}{A A':Nat->Prop}{ρ ρ':br}{h h':ac}{c:AV}{u:Value}(hp:sx c=true)(hv:RV w A ρ h c u):RV w' A' ρ' h' c u:=by
 cases c<;>simp[sx]at hp;obtain⟨rfl,hp⟩:=hv.v_inv;exact .dat (.v _ hp)
theorem YW{w w':World}{A A':Nat->Prop}{ρ ρ':br}{h h':ac}{c:AV}{u:Value}(hp:CL c=true)(hv:RV w A ρ h c u):RV w' A' ρ' h' c u:=by
 cases c<;>simp only[CL]at hp<;>try (simp[sx]at hp;done)
 case v x=>grind[Lr]
 case tup vs=>
  cases hv with
  |dat hd=>cases hd
  |tup _ us hs hr=>exact .tup vs us hs fun i c u hc hu=>Lr (List.all_eq_true.1 hp c (List.mem_of_getElem? hc)) (hr i c u hc hu)
theorem Un(hf:∀f,re P I (md.keep f) f (call f)):ji P I call md:=by
 intro w X ρ h h' d f z zas ks uf us hd hi r hvf hus hva hz;unfold bI at hz;split at hz
 ·cases f<;>simp only[MN]at hz<;>try (cases hz;done)
  rename_i fid a b _;obtain⟨first,cap,rfl,s1,s2,va,vb⟩:=hvf.fn_inv;refine⟨fid,first,cap,rfl,?_⟩;simp only[Option.bind_eq_some_iff]at hz;obtain⟨cs,e1,⟨res,os⟩,e2,e3⟩:=hz;obtain⟨l1,l2⟩:=HE r (a++zas++b) (first++us++cap).toList (by grind) (fun i c u h1 h2=>by
   grind) e1
  cases os with
  |cons o os=>grind[YC]
  |nil=>
   simp only[YC]at e3;split at e3
   ·rename_i hp;cases e3;have rE:Rel w X ρ (ao []):=by
     have hd:∀id,ao [] id=.dead:=fun id=>by grind[ao]
     have no:∀id sub,¬live (ao []) id sub:=fun id sub hl=>by
      cases sub with
      |none=>grind[live]
      |some p=>grind[live]
     exact⟨fun id sub _ _ h=>(no id sub h).elim,fun id sub h=>(no id sub h).elim,fun id=>by rw[hd];trivial,r.xl⟩
    refine(hf fid e2 (n:=2000) (Nat.le_refl _) hi rE (by grind[sG]) fun i c u hc' hu=>?_).mono fun v w' ⟨ρ',q1,q2,q3⟩=>?_
    ·obtain⟨c1,h2,h3⟩:=rU _ _ _ _ hc';have hv:=l2 i c1 u h2 (by grind);rcases h3 with rfl| ⟨ss,rfl⟩
     ·omega
     ·exact hv.nrmV ss
    ·rw[Wp hp]at q1 q2 q3;obtain⟨g1,g2⟩:=Ul r q2;exact⟨ρ,g1,g2,YW hp q3⟩
   grind
 ·exact Rf hf hd hi r hvf hus hva hz
end
section
variable {P:Program} {I:Inv} {call:ef} {md:Mode}
structure EnvOK (P:Program) (I:Inv) (e:Env):Prop where
 mixed:P.follows .mixedOrders=true
 ext:∀f g,e.E f=some g->re P I (e.md.keep f) f g
 text:∀f fd,e.E f=none->e.C f=some fd->Text P f fd
theorem Uo(kp:Bool)(f:FuncId):re P I kp f (fun _ _=>none):=by
 intro args obs obs' res w X ρ vals n hz;grind
theorem Wq{e:Env}(he:EnvOK P I e):∀ (n:Nat) (f:FuncId),re P I (e.md.keep f) f (iK e n f)
 |0,f=>Uo _ f
 |n+1,f=>by
  cases hE:e.E f with
  |some g=>
   have:iK e (n+1) f=g:=by grind[iK]
   rw[this];exact he.ext f g hE
  |none=>
   cases hC:e.C f with
   |none=>
    have:iK e (n+1) f=fun _ _=>none:=by grind[iK]
    grind
   |some fd=>
    have:iK e (n+1) f=CQ (iK e n) {e.md with nm:=e.md.keep f} n fd:=by grind[iK]
    rw[this];exact abh (md:={e.md with nm:=e.md.keep f}) he.mixed (Un (md:={e.md with nm:=e.md.keep f}) fun g=>Wq he n g) (he.text f fd hE hC)
end
def Ev(p:Nat->Prop):Prop:=∃n,∀k,n<=k->p k
theorem Ev.and{p q:Nat->Prop}(a:Ev p)(b:Ev q):Ev fun k=>p k/\q k:=by
 obtain⟨n,hn⟩:=a;obtain⟨m,hm⟩:=b;exact⟨max n m,fun k hk=>⟨hn k (by omega),hm k (by omega)⟩⟩
theorem Ev.mono{p q:Nat->Prop}(a:Ev p)(h:∀k,p k->q k):Ev q:=by
 obtain⟨n,hn⟩:=a;exact⟨n,fun k hk=>h k (hn k hk)⟩
theorem Ev.all{p:Nat->Prop}(h:∀k,p k):Ev p:=⟨0,fun k _=>h k⟩
open Classical in
noncomputable def yV {α:Type} (f:Nat->Option α):Option α:=if h:∃a,Ev fun k=>f k=some a then some (Classical.choose h)else none
theorem kS{α:Type}{f:Nat->Option α}{a:α}:yV f=some a↔Ev fun k=>f k=some a:=by
 unfold yV;constructor
 ·intro h;split at h
  all_goals grind
 ·intro h;have hh:∃a,Ev fun k=>f k=some a:=⟨a,h⟩;obtain⟨n,hn⟩:=Classical.choose_spec hh;obtain⟨m,hm⟩:=h;have h1:=hn (max n m) (by omega);grind
theorem abj{α:Type}{f g:Nat->Option α}(h:∀a,yV f=some a↔yV g=some a):yV f=yV g:=by
 cases hf:yV f with
 |none=>
  cases hg:yV g with
  |none=>rfl
  |some a=>grind
 |some a=>grind
theorem vK{α:Type}(a:Option α):yV (fun _=>a)=a:=by
 cases a with
 |none=>
  cases h:yV (fun _:Nat=>(none:Option α))with
  |none=>rfl
  |some a=>
   obtain⟨n,hn⟩:=kS.1 h;exact absurd (hn n (Nat.le_refl _)) (by simp)
 |some a=>exact kS.2 (Ev.all fun _=>rfl)
theorem N1{α:Type}(f:Nat->Option α):yV (fun n=>f (n+1))=yV f:=abj fun a=>by
 rw[kS,kS];constructor
 ·rintro⟨n,hn⟩
  refine⟨n+1,fun k hk=>?_⟩;have:f (k-1+1)=some a:=hn (k-1) (by omega);grind
 ·rintro⟨n,hn⟩
  exact⟨n,fun k hk=>hn (k+1) (by omega)⟩
noncomputable def aD (body:af->ac->Option (Ex×St)) (ks hs:List Nat) (s:af) (h:ac):Option (Ex×St):=yV fun n=>nR body ks hs n s h
def MT(g:af->ac->Option (Ex×St)):Option (Ex×St)->Option (Ex×St)
 |some (.normal,t)=>g t.s t.h
 |r=>r
theorem ai(body:af->ac->Option (Ex×St))(ks hs:List Nat)(s:af)(h:ac):
  aD body ks hs s h=if(hs.all fun a=>aO hs (h a))=true then MT (aD body ks hs) (body (mk .any (fun i=>eN hs (s i)) ks) (mk .dead h hs))else none:=by
 unfold aD;rw[←N1];simp only[nR];split
 ·cases hb:body (mk .any (fun i=>eN hs (s i)) ks) (mk .dead h hs)with
  |none=>exact vK _
  |some r=>
   obtain⟨e,t⟩:=r;cases e with
   |normal=>rfl
   |exit id=>exact vK _
   |ret=>exact vK _
 ·exact vK _
noncomputable def aj (call:ef) (md:Mode):Cmd->af->ac->Option (Ex×St)
 | .skip,s,h=>some (.normal,⟨s,h⟩)
 | .ops ks l,s,h=>aT (aC call md l s h) fun s h=>some (.normal,⟨mk .any s ks,h⟩)
 | .dops ks l ps,s,h=>aT (mq call md l ps s h) fun s h=>some (.normal,⟨mk .any s ks,h⟩)
 | .seq a b,s,h=>bL (aj call md a s h) (aj call md b)
 | .cond c a b,s,h=>mr (aj call md a s h) (aj call md b s h) (ev s c)
 | .block id ks a,s,h=>am id ks (aj call md a s h)
 | .loop ks hs a,s,h=>aD (aj call md a) ks hs s h
 | .exit id,s,h=>some (.exit id,⟨s,h⟩)
 | .ret,s,h=>some (.ret,⟨s,h⟩)
 | .frz is a,s,h=>aT (ud md.nm is s h) (aj call md a)
noncomputable def dZ (e:Env):ef:=fun f args hs=>yV fun n=>iK e n f args hs
noncomputable def N2 (call:ef) (md:Mode) (fd:FD) (args:List AV) (hs:List Ob):Option (AV×List Ob):=
 if args.length=fd.np/\hs.length<=1000 then gM md.nm fd.rs fd.res hs.length (aj call md fd.body (oO args) (ao hs))else none
section
variable {e:Env} {md:Mode}
theorem Wr{h:ac}{d:Nat}{zas:List AV}{f:AV}{r:R3}(hz:eP (dZ e) md h d zas f=some r):Ev fun k=>eP (iK e k) md h d zas f=some r:=by
 cases f<;>simp only[eP]at hz⊢ <;>try (cases hz;done)
 simp only[Option.bind_eq_some_iff]at hz⊢;obtain⟨p,e1,e2⟩:=hz;unfold mj at e2⊢;split at e2
 ·simp only[Option.bind_eq_some_iff]at e2;obtain⟨q,e3,e4⟩:=e2;refine(kS.1 e3).mono fun k hk=>⟨p,e1,?_⟩;grind
 grind
theorem N3{h:ac}{d:Nat}{zas:List AV}{f:AV}{r:R3}(hz:bI (dZ e) md h d zas f=some r):Ev fun k=>bI (iK e k) md h d zas f=some r:=by
 unfold bI at hz⊢;by_cases hb:sy md zas f=true
 ·rw[if_pos hb]at hz;simp only[if_pos hb];cases f<;>simp only[MN]at hz⊢ <;>try (cases hz;done)
  simp only[Option.bind_eq_some_iff]at hz⊢;obtain⟨p,e1,q,e3,e4⟩:=hz;exact(kS.1 e3).mono fun k hk=>⟨p,e1,q,hk,e4⟩
 simp_all[if_neg,Wr]
theorem R9{d:Nat}{op:AOp}{s:af}{h:ac}{r:R3}(hz:step (dZ e) md d op s h=some r):Ev fun k=>step (iK e k) md d op s h=some r:=by
 cases op with
 |call f zas=>exact N3 hz
 |callC f zas=>
  simp only[step,Option.bind_eq_some_iff]at hz⊢;obtain⟨q,e1,e2⟩:=hz;exact(N3 e1).mono fun k hk=>⟨q,hk,e2⟩
 |_=>exact Ev.all fun k=>hz
theorem Sa{d:Option Nat}{op:AOp}{s:af}{h:ac}{t:St}(hz:aqv md.nm s d (step (dZ e) md (d.getD 0) op s h)=some t):Ev fun k=>aqv md.nm s d (step (iK e k) md (d.getD 0) op s h)=some t:=by
 cases hs:step (dZ e) md (d.getD 0) op s h with
 |none=>rw[hs]at hz;cases hz
 |some r=>
  exact(R9 hs).mono fun k hk=>by grind
theorem YX{o:COp}{s:af}{h:ac}{t:St}(hz:iZ (dZ e) md o s h=some t):Ev fun k=>iZ (iK e k) md o s h=some t:=by
 unfold iZ at hz⊢;cases hg:o.g with
 |none=>grind[Sa]
 |some g=>
  rw[hg]at hz;simp only at hz⊢;unfold aqQ at hz⊢;split at hz
  ·split at hz
   all_goals simp_all[if_pos,Sa,if_neg,Ev.all]
  all_goals grind[Ev.all]
theorem BB:∀ {l:List COp} {s:af} {h:ac} {t:St},aC (dZ e) md l s h=some t->Ev fun k=>aC (iK e k) md l s h=some t
 |[],s,h,t,hz=>Ev.all fun k=>hz
 |o::l,s,h,t,hz=>by
  simp only[aC,aT]at hz;split at hz
  ·grind
  ·rename_i t1 ht1;refine((YX ht1).and (BB hz)).mono fun k hk=>?_;grind[aC,aT]
theorem N4{d:Option Nat}{op:AOp}{s:af}{h:ac}{f:ac->Fp}{t:St×Fp}(hz:jS s d f (step (dZ e) md (d.getD 0) op s h)=some t):Ev fun k=>jS s d f (step (iK e k) md (d.getD 0) op s h)=some t:=by
 cases hs:step (dZ e) md (d.getD 0) op s h with
 |none=>rw[hs]at hz;cases hz
 |some r=>
  exact(R9 hs).mono fun k hk=>by grind
theorem YY{o:COp}{s:af}{h:ac}{t:St×Fp}(hz:df (dZ e) md o s h=some t):Ev fun k=>df (iK e k) md o s h=some t:=by
 unfold df at hz⊢;cases hg:o.g with
 |none=>grind[N4]
 |some g=>
  rw[hg]at hz;simp only at hz⊢;unfold mo at hz⊢;split at hz
  ·split at hz
   all_goals simp_all[if_pos,N4,if_neg,Ev.all]
  all_goals grind[Ev.all]
theorem Ju:∀ {l:List COp} {s:af} {h:ac} {t:St×List Fp},fF (dZ e) md l s h=some t->Ev fun k=>fF (iK e k) md l s h=some t
 |[],s,h,t,hz=>Ev.all fun k=>hz
 |o::l,s,h,t,hz=>by
  simp only[fF,Option.bind_eq_some_iff]at hz;obtain⟨r,e1,q,e2,e3⟩:=hz;refine((YY e1).and (Ju e2)).mono fun k hk=>?_;simp only[fF,hk.1,hk.2,Option.bind_some,e3]
theorem YZ{l:List COp}{ps:List (Nat×Nat)}{s:af}{h:ac}{t:St}(hz:mq (dZ e) md l ps s h=some t):Ev fun k=>mq (iK e k) md l ps s h=some t:=by
 unfold mq at hz⊢;cases hb:uZ ps with
 |none=>
  rw[hb]at hz;simp only[vD,Option.bind_eq_some_iff]at hz;obtain⟨q,e1,e2⟩:=hz;exact(Ju e1).mono fun k hk=>by simp only[vD,hk,Option.bind_some,e2]
 |some b=>
  rw[hb]at hz;simp only[Bl,Option.bind_eq_some_iff]at hz;obtain⟨q,e1,e2⟩:=hz;split at e2
  ·simp only[aT]at e2;split at e2
   ·grind
   ·exact((Ju e1).and (BB e2)).mono fun k hk=>by simp_all[Bl,Option.bind_some,if_pos,aT]
  grind
theorem Sc{c:Cmd}{ks hs:List Nat}(ih:∀ {s:af} {h:ac} {r:Ex×St},aj (dZ e) md c s h=some r->Ev fun k=>bF (iK e k) md k c s h=some r):
  ∀ (m:Nat) {s:af} {h:ac} {r:Ex×St},nR (aj (dZ e) md c) ks hs m s h=some r->∃n,∀k,n<=k->∀j,n<=j->nR (bF (iK e k) md k c) ks hs j s h=some r
 |0,s,h,r,hz=>by grind[nR]
 |m+1,s,h,r,hz=>by
  simp only[nR]at hz;split at hz
  ·rename_i hc;cases hb:aj (dZ e) md c (mk .any (fun i=>eN hs (s i)) ks) (mk .dead h hs)with
   |none=>grind
   |some q=>
    rw[hb]at hz;obtain⟨n1,h1⟩:=ih hb;obtain⟨ex,t⟩:=q;cases ex with
    |normal=>
     obtain⟨n2,h2⟩:=Sc ih m hz;refine⟨max n1 n2+1,fun k hk j hj=>?_⟩;obtain⟨j,rfl⟩:∃j',j=j'+1:=⟨j-1,by omega⟩;simp only[nR,if_pos hc,h1 k (by omega)];grind
    |exit id=>
     refine⟨n1+1,fun k hk j hj=>?_⟩;obtain⟨j,rfl⟩:∃j',j=j'+1:=⟨j-1,by omega⟩;simp only[nR,if_pos hc,h1 k (by omega)];omega
    |ret=>
     refine⟨n1+1,fun k hk j hj=>?_⟩;obtain⟨j,rfl⟩:∃j',j=j'+1:=⟨j-1,by omega⟩;simp only[nR,if_pos hc,h1 k (by omega)];omega
  grind
theorem iL:∀ (c:Cmd) {s:af} {h:ac} {r:Ex×St},aj (dZ e) md c s h=some r->Ev fun k=>bF (iK e k) md k c s h=some r
 | .skip,s,h,r,hz=>Ev.all fun k=>hz
 | .ops ks l,s,h,r,hz=>by
  simp only[aj,aT]at hz;split at hz
  ·grind
  ·rename_i t1 ht1;exact(BB ht1).mono fun k hk=>by grind[bF,aT]
 | .dops ks l ps,s,h,r,hz=>by
  simp only[aj,aT]at hz;split at hz
  ·grind
  ·rename_i t1 ht1;exact(YZ ht1).mono fun k hk=>by grind[bF,aT]
 | .seq a b,s,h,r,hz=>by
  simp only[aj,bL]at hz;split at hz
  ·grind
  ·rename_i t1 ht1;exact((iL a ht1).and (iL b hz)).mono fun k hk=>by grind[bF,bL]
  ·rename_i i t1 ht1;exact(iL a ht1).mono fun k hk=>by grind[bF,bL]
  ·rename_i t1 ht1;exact(iL a ht1).mono fun k hk=>by grind[bF,bL]
 | .cond c a b,s,h,r,hz=>by
  simp only[aj,mr]at hz;split at hz
  ·rename_i t ht;cases t with
   |true=>simp_all[iL,bF,mr,if_true]
   |false=>simp_all[iL,bF,mr,Bool.false_eq_true,if_false]
  grind
 | .block id ks a,s,h,r,hz=>by
  simp only[aj,am]at hz;split at hz
  ·grind
  ·rename_i t1 ht1;exact(iL a ht1).mono fun k hk=>by grind[bF,am]
  ·rename_i i t1 ht1;exact(iL a ht1).mono fun k hk=>by grind[bF,am]
  ·rename_i t1 ht1;exact(iL a ht1).mono fun k hk=>by grind[bF,am]
 | .loop ks hs a,s,h,r,hz=>by
  obtain⟨m,hm⟩:=kS.1 hz;obtain⟨n,hn⟩:=Sc (fun hh=>iL a hh) m (hm m (Nat.le_refl _));exact⟨n,fun k hk=>by grind[bF]⟩
 | .exit id,s,h,r,hz=>Ev.all fun k=>hz
 | .ret,s,h,r,hz=>Ev.all fun k=>hz
 | .frz is a,s,h,r,hz=>by
  simp only[aj,aT]at hz;split at hz
  ·cases hz
  ·rename_i t1 ht1;exact(iL a hz).mono fun k hk=>by simp only[bF,aT,ht1,hk]
theorem Df{f:FuncId}{fd:FD}{args:List AV}{hs:List Ob}{r:AV×List Ob}(hE:e.E f=none)(hC:e.C f=some fd)(hz:N2 (dZ e) {e.md with nm:=e.md.keep f} fd args hs=some r):dZ e f args hs=some r:=by
 unfold dZ;rw[kS];unfold N2 at hz;split at hz
 ·cases hx:aj (dZ e) {e.md with nm:=e.md.keep f} fd.body (oO args) (ao hs)with
  |none=>rw[hx]at hz;cases hz
  |some q=>
   obtain⟨n,hn⟩:=iL fd.body hx;refine⟨n+1,fun k hk=>?_⟩;obtain⟨k,rfl⟩:∃k',k=k'+1:=⟨k-1,by omega⟩
   simp_all[iK,Option.bind_some,CQ,if_pos]
 grind
theorem BC{f:FuncId}{g:List AV->List Ob->Option (AV×List Ob)}{args:List AV}{hs:List Ob}(hE:e.E f=some g):dZ e f args hs=g args hs:=by
 unfold dZ;rw[←N1]
 simp_all[iK,funext,vK]
theorem Sd{P:Program}{I:Inv}(he:EnvOK P I e)(f:FuncId):re P I (e.md.keep f) f (dZ e f):=by
 intro args obs obs' res w X ρ vals n hz;obtain⟨m,hm⟩:=kS.1 hz;exact Wq he m f (hm m (Nat.le_refl _))
end
section
variable {call:ef} {md:Mode} {s:af} {h:ac}
@[go_sem] theorem anQ:aj call md .skip s h=some (.normal,⟨s,h⟩):=_root_.id rfl
@[go_sem] theorem ao7(ks l):aj call md (.ops ks l) s h=aT (aC call md l s h) fun s h=>some (.normal,⟨mk .any s ks,h⟩):=_root_.id rfl
@[go_sem] theorem ao8(is a):aj call md (.frz is a) s h=aT (ud md.nm is s h) (aj call md a):=_root_.id rfl
@[go_sem] theorem anR(ks l ps):aj call md (.dops ks l ps) s h=aT (mq call md l ps s h) fun s h=>some (.normal,⟨mk .any s ks,h⟩):=_root_.id rfl
@[go_sem] theorem afp(a b):aj call md (.seq a b) s h=bL (aj call md a s h) (aj call md b):=_root_.id rfl
@[go_sem] theorem anS(c a b):aj call md (.cond c a b) s h=mr (aj call md a s h) (aj call md b s h) (ev s c):=_root_.id rfl
@[go_sem] theorem alv(id ks a):aj call md (.block id ks a) s h=am id ks (aj call md a s h):=_root_.id rfl
@[go_sem] theorem anT(ks hs a):aj call md (.loop ks hs a) s h=aD (aj call md a) ks hs s h:=_root_.id rfl
@[go_sem] theorem anU(i):aj call md (.exit i) s h=some (.exit i,⟨s,h⟩):=_root_.id rfl
@[go_sem] theorem ao9:aj call md .ret s h=some (.ret,⟨s,h⟩):=_root_.id rfl
@[go_sem] theorem adh(s h f):bL (some (.normal,⟨s,h⟩)) f=f s h:=_root_.id rfl
@[go_sem] theorem afq(i t f):bL (some (.exit i,t)) f=some (.exit i,t):=_root_.id rfl
@[go_sem] theorem aha(t f):bL (some (.ret,t)) f=some (.ret,t):=_root_.id rfl
@[go_sem] theorem aeZ(id ks i t):am id ks (some (.exit i,t))=if i=id then some (.normal,⟨mk .any t.s ks,t.h⟩)else some (.exit i,t):=_root_.id rfl
@[go_sem] theorem acX(id ks t):am id ks (some (.normal,t))=some (.normal,⟨mk .any t.s ks,t.h⟩):=_root_.id rfl
@[go_sem] theorem afr(id ks t):am id ks (some (.ret,t))=some (.ret,t):=_root_.id rfl
@[go_sem] theorem afs(a b):mr a b (.v (.bool true))=a:=_root_.id rfl
@[go_sem] theorem ae0(a b):mr a b (.v (.bool false))=b:=_root_.id rfl
@[go_sem] theorem adi(g t):MT g (some (.normal,t))=g t.s t.h:=_root_.id rfl
@[go_sem] theorem aft(g i t):MT g (some (.exit i,t))=some (.exit i,t):=_root_.id rfl
@[go_sem] theorem ahb(g t):MT g (some (.ret,t))=some (.ret,t):=_root_.id rfl
@[go_sem] theorem afu{β:Type}(s h)(f:af->ac->Option β):aT (some ⟨s,h⟩) f=f s h:=_root_.id rfl
@[go_sem] theorem ahc{β:Type}(c:Prop) [Decidable c](x y:Option St)(f:af->ac->Option β):aT (if c then x else y) f=if c then aT x f else aT y f:=by split<;>rfl
@[go_sem] theorem ahd(c:Prop) [Decidable c](x y:Option (Ex×St))(f:af->ac->Option (Ex×St)):bL (if c then x else y) f=if c then bL x f else bL y f:=by split<;>rfl
@[go_sem] theorem alx:aC call md [] s h=some ⟨s,h⟩:=_root_.id rfl
@[go_sem] theorem HG(d op rest):aC call md (⟨some d,none,.p op⟩::rest) s h=(eO s op).bind fun a=>aC call md rest (upd s d a) h:=by
 simp only[aC,iZ,step,xz];cases eO s op with
 |none=>rfl
 |some a=>simp only[Option.map_some,aqv,kR,if_true];rfl
def cm(d n:Nat):COp:=⟨some d,none,.p (.mv (.t n))⟩
def co(d:Nat)(op:POp):COp:=⟨some d,none,.p op⟩
def cg(d j:Nat)(w:Bool)(op:POp):COp:=⟨some d,some (j,w),.p op⟩
@[go_sem] theorem anV(d n rest):aC call md (cm d n::rest) s h=aC call md rest (upd s d (s n)) h:=HG d (.mv (.t n)) rest
@[go_sem] theorem anW(d op rest):aC call md (co d op::rest) s h=(eO s op).bind fun a=>aC call md rest (upd s d a) h:=HG d op rest
@[go_sem] theorem anX(d j w op rest):aC call md (cg d j w op::rest) s h=aT (aqQ (some d) w ((eO s op).map fun a=>⟨upd s d a,h⟩) s h (s j)) (aC call md rest):=by
 have:aqv md.nm s (some d) (step call md d (.p op) s h)=(eO s op).map fun a=>⟨upd s d a,h⟩:=by
  simp only[step,xz];cases eO s op with
  |none=>rfl
  |some a=>simp only[Option.map_some,aqv,kR,if_true];rfl
 show aT (aqQ (some d) w (aqv md.nm s (some d) (step call md d (.p op) s h)) s h (s j)) _=_;rw[this]
def b2(d:Nat)(op:BinOp)(a b:Nat):COp:=⟨some d,none,.p (.bin op (.t a) (.t b))⟩
def fa(d k a:Nat):COp:=⟨some d,none,.p (.fadr k (.t a))⟩
def nk(d a:Nat):COp:=⟨some d,none,.p (.nilck (.t a))⟩
def ld(d k a:Nat):COp:=⟨some d,none,.load k false (.t a)⟩
def la(d k a:Nat):COp:=⟨some d,none,.load k true (.t a)⟩
def ca(d f:Nat)(zas:List Opd):COp:=⟨some d,none,.call (.c (.fn f [] [])) zas⟩
def sr(k:Nat)(x y:Opd):COp:=⟨none,none,.store k x y⟩
def al(d:Nat)(z:List AV):COp:=⟨some d,none,.alloc z⟩
def bx(d k:Nat)(x:Opd):COp:=⟨some d,none,.box k x⟩
@[go_sem] theorem anY(d op a b rest):aC call md (b2 d op a b::rest) s h=(cO op (s a) (s b)).bind fun a=>aC call md rest (upd s d a) h:=HG d (.bin op (.t a) (.t b)) rest
@[go_sem] theorem anZ(d k a rest):aC call md (fa d k a::rest) s h=(uU k (s a)).bind fun a=>aC call md rest (upd s d a) h:=HG d (.fadr k (.t a)) rest
@[go_sem] theorem an0(d a rest):aC call md (nk d a::rest) s h=(CI (s a)).bind fun a=>aC call md rest (upd s d a) h:=HG d (.nilck (.t a)) rest
@[go_sem] theorem an1(d k a rest):aC call md (ld d k a::rest) s h=aT (aqv md.nm s (some d) (fW h k false (s a))) (aC call md rest):=_root_.id rfl
@[go_sem] theorem an2(d k a rest):aC call md (la d k a::rest) s h=aT (aqv md.nm s (some d) (fW h k true (s a))) (aC call md rest):=_root_.id rfl
@[go_sem] theorem an3(d f zas rest):aC call md (ca d f zas::rest) s h=aT (aqv md.nm s (some d) (bI call md h d (zas.map (ev s)) (.fn f [] []))) (aC call md rest):=_root_.id rfl
@[go_sem] theorem an4(k x y rest):aC call md (sr k x y::rest) s h=aT (aqv md.nm s none (iQ h k (ev s x) (ev s y))) (aC call md rest):=_root_.id rfl
@[go_sem] theorem an5(d z rest):aC call md (al d z::rest) s h=aT (aqv md.nm s (some d) (jt h d z [])) (aC call md rest):=_root_.id rfl
@[go_sem] theorem an6(d k x rest):aC call md (bx d k x::rest) s h=aT (aqv md.nm s (some d) (aq2 h d k (ev s x))) (aC call md rest):=_root_.id rfl
@[go_sem] theorem apa(d j w op rest):aC call md (⟨d,some (j,w),op⟩::rest) s h=aT (aqQ d w (aqv md.nm s d (step call md (d.getD 0) op s h)) s h (s j)) (aC call md rest):=_root_.id rfl
@[go_sem] theorem ahe(d z rest):aC call md (⟨some d,none,.alloc z⟩::rest) s h=aT (aqv md.nm s (some d) (jt h d z [])) (aC call md rest):=_root_.id rfl
@[go_sem] theorem aly(d k x rest):aC call md (⟨some d,none,.box k x⟩::rest) s h=aT (aqv md.nm s (some d) (aq2 h d k (ev s x))) (aC call md rest):=_root_.id rfl
@[go_sem] theorem ae1(d k z n ps rest):aC call md (⟨some d,none,.buildSl k z n ps⟩::rest) s h=aT (aqv md.nm s (some d) ((eW k h (List.replicate n z) (ps.map fun p=>(p.1,ev s p.2))).bind fun q=>dA q.2.1 d k q.1 n q.2.2)) (aC call md rest):=_root_.id rfl
@[go_sem] theorem aiM(d k z b l c rest):aC call md (⟨some d,none,.mkSl k z b l c⟩::rest) s h=aT (aqv md.nm s (some d) ((pD (ev s l) (ev s c)).bind fun p=>if p.2*b<=140737488355328 then dA h d k (List.replicate p.1 z) p.1 []else none)) (aC call md rest):=_root_.id rfl
@[go_sem] theorem aiN(d k g x rest):aC call md (⟨some d,none,.load k g x⟩::rest) s h=aT (aqv md.nm s (some d) (fW h k g (ev s x))) (aC call md rest):=_root_.id rfl
@[go_sem] theorem ahf(d k x y rest):aC call md (⟨d,none,.store k x y⟩::rest) s h=aT (aqv md.nm s d (iQ h k (ev s x) (ev s y))) (aC call md rest):=_root_.id rfl
@[go_sem] theorem alz(d k b x y rest):aC call md (⟨some d,none,.app k b x y⟩::rest) s h=aT (aqv md.nm s (some d) (Jl h d k b (ev s x) (ev s y))) (aC call md rest):=_root_.id rfl
@[go_sem] theorem aiO(d f zas rest):aC call md (⟨some d,none,.call f zas⟩::rest) s h=aT (aqv md.nm s (some d) (bI call md h d (zas.map (ev s)) (ev s f))) (aC call md rest):=_root_.id rfl
@[go_sem] theorem ahg(f zas rest):aC call md (⟨none,none,.call f zas⟩::rest) s h=aT (aqv md.nm s none (bI call md h 0 (zas.map (ev s)) (ev s f))) (aC call md rest):=_root_.id rfl
@[go_sem] theorem aiP(nm:Bool)(s d x h):aqv nm s (some d) (some (x,h,[]))=some ⟨upd s d x,h⟩:=by simp only[aqv,kR,if_true];rfl
@[go_sem] theorem ahh(nm:Bool)(s x h):aqv nm s none (some (x,h,[]))=some ⟨s,h⟩:=by simp only[aqv,kR,if_true];rfl
@[go_sem] theorem an7(d op):step call md d (.p op) s h=xz h (eO s op):=_root_.id rfl
@[go_sem] theorem ahi(d k g x):step call md d (.load k g x) s h=fW h k g (ev s x):=_root_.id rfl
@[go_sem] theorem ahj(d f zas):step call md d (.call f zas) s h=bI call md h d (zas.map (ev s)) (ev s f):=_root_.id rfl
@[go_sem] theorem afv(d k x y):step call md d (.store k x y) s h=iQ h k (ev s x) (ev s y):=_root_.id rfl
@[go_sem] theorem afw(d z):step call md d (.alloc z) s h=jt h d z []:=_root_.id rfl
@[go_sem] theorem aiQ(d k x):step call md d (.box k x) s h=aq2 h d k (ev s x):=_root_.id rfl
@[go_sem] theorem adj(d k z n ps):step call md d (.buildSl k z n ps) s h=(eW k h (List.replicate n z) (ps.map fun p=>(p.1,ev s p.2))).bind fun q=>dA q.2.1 d k q.1 n q.2.2:=_root_.id rfl
@[go_sem] theorem ahk(d k z b l c):step call md d (.mkSl k z b l c) s h=(pD (ev s l) (ev s c)).bind fun p=>if p.2*b<=140737488355328 then dA h d k (List.replicate p.1 z) p.1 []else none:=_root_.id rfl
@[go_sem] theorem ahl(h a):xz h (some a)=some (a,h,[]):=_root_.id rfl
@[go_sem] theorem afx(d st s h):aqQ d true st s h (.v (.bool true))=st:=_root_.id rfl
@[go_sem] theorem afy(d st s h):aqQ d false st s h (.v (.bool false))=st:=_root_.id rfl
@[go_sem] theorem afz(d st s h):aqQ (some d) true st s h (.v (.bool false))=some ⟨upd s d .und,h⟩:=_root_.id rfl
@[go_sem] theorem afA(d st s h):aqQ (some d) false st s h (.v (.bool true))=some ⟨upd s d .und,h⟩:=_root_.id rfl
@[go_sem] theorem ae2(d w st s h):aqQ (some d) w st s h .und=some ⟨upd s d .und,h⟩:=_root_.id rfl
@[go_sem] theorem apr(s n):ev s (.t n)=s n:=_root_.id rfl
@[go_sem] theorem aps(s a):ev s (.c a)=a:=_root_.id rfl
@[go_sem] theorem aiR(s):evo s none=none:=_root_.id rfl
@[go_sem] theorem aiS(s x):evo s (some x)=some (ev s x):=_root_.id rfl
@[go_sem] theorem an8{α:Type}(s:Nat->α)(d:Nat)(x:α)(i:Nat):upd s d x i=if i=d then x else s i:=_root_.id rfl
@[go_sem] theorem an9{α:Type}(d:α)(f:Nat->α):mk d f []=fun _=>d:=_root_.id rfl
@[go_sem] theorem alA{α:Type}(d:α)(f:Nat->α)(i l):mk d f (i::l)=upd (mk d f l) i (f i):=_root_.id rfl
@[go_sem] theorem apt(x):eO s (.mv x)=some (ev s x):=_root_.id rfl
@[go_sem] theorem aoa(c a b):eO s (.pick c a b)=Ej (ev s c) (ev s a) (ev s b):=_root_.id rfl
@[go_sem] theorem alB(x):eO s (.nilck x)=CI (ev s x):=_root_.id rfl
@[go_sem] theorem aob(n x):eO s (.nilq n x)=Ek n (ev s x):=_root_.id rfl
@[go_sem] theorem apb(op x y):eO s (.bin op x y)=cO op (ev s x) (ev s y):=_root_.id rfl
@[go_sem] theorem apu(op x):eO s (.un op x)=M8 op (ev s x):=_root_.id rfl
@[go_sem] theorem apv(k x):eO s (.cv k x)=VO k (ev s x):=_root_.id rfl
@[go_sem] theorem apc(x):eO s (.cv0 x)=Tu (ev s x):=_root_.id rfl
@[go_sem] theorem apd(k x lo hi mx):eO s (.slc k x lo hi mx)=gh k (ev s x) (evo s lo) (evo s hi) (evo s mx):=_root_.id rfl
@[go_sem] theorem aoc(x lo hi):eO s (.slcS x lo hi)=ML (ev s x) (evo s lo) (evo s hi):=_root_.id rfl
@[go_sem] theorem aod(o x):eO s (.fadr o x)=uU o (ev s x):=_root_.id rfl
@[go_sem] theorem ape(o k g x):eO s (.fld o k g x)=Na o k g (ev s x):=_root_.id rfl
@[go_sem] theorem alC(k x i):eO s (.iadrS k x i)=qN k (ev s x) (ev s i):=_root_.id rfl
@[go_sem] theorem alD(n k x i):eO s (.iadrA n k x i)=Ap n k (ev s x) (ev s i):=_root_.id rfl
@[go_sem] theorem aoe(x i):eO s (.idxS x i)=El (ev s x) (ev s i):=_root_.id rfl
@[go_sem] theorem aof(n k g x i):eO s (.idxA n k g x i)=Em n k g (ev s x) (ev s i):=_root_.id rfl
@[go_sem] theorem apf(i x):eO s (.ext i x)=Nb i (ev s x):=_root_.id rfl
@[go_sem] theorem apg(m x):eO s (.len m x)=lC m (ev s x):=_root_.id rfl
@[go_sem] theorem aph(m t x y):eO s (.eqc m t x y)=M7 m t (ev s x) (ev s y):=_root_.id rfl
@[go_sem] theorem aog(x):eO s (.capp x)=Nc (ev s x):=_root_.id rfl
@[go_sem] theorem api(m x ys):eO s (.mnx m x ys)=zK m (ev s x) (ys.map (ev s)):=_root_.id rfl
@[go_sem] theorem alE(z ps):eO s (.build z ps)=(sw z (ps.map fun p=>(p.1,p.2.1,ev s p.2.2))).map .agg:=_root_.id rfl
@[go_sem] theorem apj(f a b):eO s (.mkF f a b)=some (.fn f (a.map (ev s)) (b.map (ev s))):=_root_.id rfl
@[go_sem] theorem ahm(a b):Ej (.v (.bool true)) a b=some a:=_root_.id rfl
@[go_sem] theorem afB(a b):Ej (.v (.bool false)) a b=some b:=_root_.id rfl
@[go_sem] theorem aiT(id sub k i j):CI (.ref id sub k i j)=some (.ref id sub k i j):=_root_.id rfl
@[go_sem] theorem aiU(cs):CI (.ipt cs)=some (.ipt cs):=_root_.id rfl
@[go_sem] theorem alF(f a b):CI (.fn f a b)=some (.fn f a b):=_root_.id rfl
theorem lk(op a b):cO op (.v a) (.v b)=(ip op a b).map .v:=_root_.id rfl
@[go_sem] theorem alG(k a b):cO .add (.v (.int k a)) (.v (.int k b))=some (.v (.int k (k.wrap (a+b)))):=by simp[lk,ip,oL]
@[go_sem] theorem alH(k a b):cO .sub (.v (.int k a)) (.v (.int k b))=some (.v (.int k (k.wrap (a-b)))):=by simp[lk,ip,oL]
@[go_sem] theorem alI(k a b):cO .mul (.v (.int k a)) (.v (.int k b))=some (.v (.int k (k.wrap (a*b)))):=by simp[lk,ip,oL]
@[go_sem] theorem Jv(k a b):cO .quo (.v (.int k a)) (.v (.int k b))=if b=0 then none else some (.v (.int k (k.wrap (a.tdiv b)))):=by simp only[lk,ip,oL,if_true];split<;>rfl
@[go_sem] theorem EF(k a b):cO .rem (.v (.int k a)) (.v (.int k b))=if b=0 then none else some (.v (.int k (a.tmod b))):=by simp only[lk,ip,oL,if_true];split<;>rfl
@[go_sem] theorem Jw(k a b):cO .and (.v (.int k a)) (.v (.int k b))=some (.v (.int k (k.wrap ((BitVec.ofInt k.bits a&&&BitVec.ofInt k.bits b).toNat)))):=by simp[lk,ip,oL]
@[go_sem] theorem HH(k a b):cO .or (.v (.int k a)) (.v (.int k b))=some (.v (.int k (k.wrap ((BitVec.ofInt k.bits a|||BitVec.ofInt k.bits b).toNat)))):=by simp[lk,ip,oL]
@[go_sem] theorem EG(k k' a b):cO .shl (.v (.int k a)) (.v (.int k' b))=if b<0 then none else some (.v (.int k (k.wrap (a*2^ (min b.toNat k.bits))))):=by simp only[lk,ip,Yw];split<;>rfl
@[go_sem] theorem Av(k k' a b):cO .shr (.v (.int k a)) (.v (.int k' b))=if b<0 then none else some (.v (.int k (a.fdiv (2^ (min b.toNat k.bits))))):=by simp only[lk,ip,Yx];split<;>rfl
@[go_sem] theorem alJ(k a b):cO .lss (.v (.int k a)) (.v (.int k b))=some (B (decide (a<b))):=by simp[lk,ip,oL]
@[go_sem] theorem alK(k a b):cO .leq (.v (.int k a)) (.v (.int k b))=some (B (decide (a<=b))):=by simp[lk,ip,oL]
@[go_sem] theorem alL(k a b):cO .gtr (.v (.int k a)) (.v (.int k b))=some (B (decide (b<a))):=by simp[lk,ip,oL]
@[go_sem] theorem alM(k a b):cO .geq (.v (.int k a)) (.v (.int k b))=some (B (decide (b<=a))):=by simp[lk,ip,oL]
@[go_sem] theorem alN(k a b):cO .eql (.v (.int k a)) (.v (.int k b))=some (B (decide (a=b))):=by simp[lk,ip,oL];rfl
@[go_sem] theorem alO(k a b):cO .neq (.v (.int k a)) (.v (.int k b))=some (B (!decide (a=b))):=by simp[lk,ip,oL,bne];rfl
@[go_sem] theorem aoh(k a):M8 .neg (.v (.int k a))=some (.v (.int k (k.wrap (0-a)))):=_root_.id rfl
@[go_sem] theorem aoi(k a):M8 .xor (.v (.int k a))=some (.v (.int k (k.wrap ((BitVec.ofInt k.bits (if k.signed then-1 else k.max)^^^BitVec.ofInt k.bits a).toNat)))):=_root_.id rfl
@[go_sem] theorem alP(k a b):cO .xor (.v (.int k a)) (.v (.int k b))=some (.v (.int k (k.wrap ((BitVec.ofInt k.bits a^^^BitVec.ofInt k.bits b).toNat)))):=by simp[lk,ip,oL]
@[go_sem] theorem aoj(b):M8 .not (.v (.bool b))=some (B (!b)):=_root_.id rfl
@[go_sem] theorem aok(k k' n):VO k (.v (.int k' n))=some (.v (.int k (k.wrap n))):=_root_.id rfl
@[go_sem] theorem aiV(o id sub k i j):uU o (.ref id sub k i j)=some (.ref id sub k i (j+o)):=_root_.id rfl
@[go_sem] theorem aiW(o cs):uU o (.ipt cs)=some (.ipt (cs.drop o)):=_root_.id rfl
@[go_sem] theorem alQ(o k g cs):Na o k g (.agg cs)=jR k g cs o:=_root_.id rfl
@[go_sem] theorem ahn(k cs o):jR k false cs o=cs[o]?:=_root_.id rfl
@[go_sem] theorem aiX(k cs o):jR k true cs o=if o+k<=cs.length then some (.agg ((cs.drop o).take k))else none:=_root_.id rfl
@[go_sem] theorem alR(k rows k' i):qN k (.sl k rows) (.v (.int k' i))=aV rows i:=by simp[qN]
@[go_sem] theorem aiY(k id sub lo n k' i):qN k (.rsl id sub k lo n) (.v (.int k' i))=if 0<=i/\i<n then some (.ref id sub k (lo+i.toNat) 0)else none:=by simp[qN]
@[go_sem] theorem aho(n k id sub k' a j kk i):Ap n k (.ref id sub k' a j) (.v (.int kk i))=if 0<=i/\i<n then some (.ref id sub k' a (j+i.toNat*k))else none:=_root_.id rfl
@[go_sem] theorem ahp(n k cs kk i):Ap n k (.ipt cs) (.v (.int kk i))=if 0<=i/\i<n then some (.ipt (cs.drop (i.toNat*k)))else none:=_root_.id rfl
@[go_sem] theorem alS(i vs):Nb i (.tup vs)=vs[i]?:=_root_.id rfl
@[go_sem] theorem aol(k rows):lC false (.sl k rows)=some (I rows.length):=_root_.id rfl
@[go_sem] theorem alT:lC false .emp=some (I 0):=_root_.id rfl
@[go_sem] theorem alU(a b c d n):lC false (.rsl a b c d n)=some (I n):=_root_.id rfl
@[go_sem] theorem alV(x):lC true (.v (.string x))=some (I x.size):=_root_.id rfl
@[go_sem] theorem aiZ(m a):zK m a []=some a:=_root_.id rfl
@[go_sem] theorem ahq(m a b l):zK m a (b::l)=(Ji m a b).bind fun c=>zK m c l:=_root_.id rfl
@[go_sem] theorem alW(k k' x y):Ji true (.v (.int k x)) (.v (.int k' y))=some (.v (.int k (if y<x then y else x))):=_root_.id rfl
@[go_sem] theorem alX(k k' x y):Ji false (.v (.int k x)) (.v (.int k' y))=some (.v (.int k (if x<y then y else x))):=_root_.id rfl
@[go_sem] theorem ai0(m a b):M7 m 0 (.v (.bool a)) (.v (.bool b))=some (B (m != (a==b))):=_root_.id rfl
@[go_sem] theorem ahr(z):sw z []=some z:=_root_.id rfl
@[go_sem] theorem afC(z o k a ps):sw z ((o,k,a)::ps)=(fC a).bind fun cs=>if cs.length=k/\o+k<=z.length then sw (setRow z o cs) ps else none:=_root_.id rfl
@[go_sem] theorem ahs(cs):fC (.agg cs)=some cs:=_root_.id rfl
@[go_sem] theorem alY(x):fC (.v x)=some [.v x]:=_root_.id rfl
@[go_sem] theorem aht:fC .emp=some [.emp]:=_root_.id rfl
@[go_sem] theorem ai1(k r):fC (.sl k r)=some [.sl k r]:=_root_.id rfl
@[go_sem] theorem ahu(a b c d e):fC (.rsl a b c d e)=some [.rsl a b c d e]:=_root_.id rfl
@[go_sem] theorem ahv(a b c d e):fC (.ref a b c d e)=some [.ref a b c d e]:=_root_.id rfl
@[go_sem] theorem ai2(f a b):fC (.fn f a b)=some [.fn f a b]:=_root_.id rfl
@[go_sem] theorem afD(r j):setRow r j []=r:=_root_.id rfl
@[go_sem] theorem ae3(r j c cs):setRow r j (c::cs)=setRow (r.set j c) (j+1) cs:=_root_.id rfl
@[go_sem] theorem ai3(h k g cs):fW h k g (.ipt cs)=(jR k g cs 0).map fun a=>(a,h,[]):=_root_.id rfl
@[go_sem] theorem ai4(h k g id k0 i j):fW h k g (.ref id none k0 i j)=uW h k g id k0 i j (h id):=_root_.id rfl
@[go_sem] theorem ai5(h k g id p k0 i j):fW h k g (.ref id (some p) k0 i j)=lh h k g k0 i j (jl p (h id)):=_root_.id rfl
@[go_sem] theorem ai6(h k g id k0 i j cs):uW h k g id k0 i j (.bx cs)=Bj h id (i*k0+j) k g cs:=_root_.id rfl
@[go_sem] theorem ai7(h k g id k0 i j k' rows):uW h k g id k0 i j (.ar k' rows)=lh h k g k0 i j (some (k',rows)):=_root_.id rfl
@[go_sem] theorem ai8(h k g id k0 i j k' rows):uW h k g id k0 i j (.fz k' rows)=lh h k g k0 i j (some (k',rows)):=_root_.id rfl
@[go_sem] theorem afE(h id p k cs):Bj h id p k false cs=(cs[p]?).map fun c=>(uV id p c,h,[]):=_root_.id rfl
@[go_sem] theorem ahw(h id p k cs):Bj h id p k true cs=if p+k<=cs.length then(if((cs.drop p).take k).any aW then some (.agg (((cs.map iJ).drop p).take k),upd h id (.bx (cs.map iJ)),[(id,true)])else some (.agg ((cs.drop p).take k),h,[]))else none:=_root_.id rfl
@[go_sem] theorem alZ(id p x):uV id p (.v x)=.v x:=_root_.id rfl
@[go_sem] theorem ahx(id p):uV id p .emp=.emp:=_root_.id rfl
@[go_sem] theorem ai9(id p k r):uV id p (.sl k r)=.sl k r:=_root_.id rfl
@[go_sem] theorem ahy(id p a b c d e):uV id p (.ref a b c d e)=.ref a b c d e:=_root_.id rfl
@[go_sem] theorem aja(id p f a b):uV id p (.fn f a b)=.fn f a b:=_root_.id rfl
@[go_sem] theorem ahz(id p k r):uV id p (.osl k r)=.rsl id (some p) k 0 r.length:=_root_.id rfl
@[go_sem] theorem afF(h k g i j k' rows):lh h k g k' i j (some (k',rows))=(rows[i]?).bind fun row=>(jR k g row j).map fun a=>(a,h,[]):=by simp[lh]
@[go_sem] theorem al0(x):aW (.v x)=false:=_root_.id rfl
@[go_sem] theorem ahA:aW .emp=false:=_root_.id rfl
@[go_sem] theorem ajb(k r):aW (.sl k r)=false:=_root_.id rfl
@[go_sem] theorem ahB(k r):aW (.osl k r)=true:=_root_.id rfl
@[go_sem] theorem ahC(a b c d e):aW (.ref a b c d e)=false:=_root_.id rfl
@[go_sem] theorem ajc(f a b):aW (.fn f a b)=false:=_root_.id rfl
@[go_sem] theorem aom(x):aB (.v x)=true:=_root_.id rfl
@[go_sem] theorem ajd:aB .emp=true:=_root_.id rfl
@[go_sem] theorem al1(k r):aB (.sl k r)=true:=_root_.id rfl
@[go_sem] theorem aje(a b c d e):aB (.rsl a b c d e)=false:=_root_.id rfl
@[go_sem] theorem ajf(a b c d e):aB (.ref a b c d e)=false:=_root_.id rfl
@[go_sem] theorem ajg(f):aB (.fn f [] [])=true:=_root_.id rfl
@[go_sem] theorem al2(cs):dat (.agg cs)=cs.all aB:=_root_.id rfl
@[go_sem] theorem apk(x):dat (.v x)=true:=_root_.id rfl
@[go_sem] theorem al3:dat .emp=true:=_root_.id rfl
@[go_sem] theorem aon(k r):dat (.sl k r)=true:=_root_.id rfl
@[go_sem] theorem al4(a b c d e):dat (.rsl a b c d e)=false:=_root_.id rfl
@[go_sem] theorem al5(a b c d e):dat (.ref a b c d e)=false:=_root_.id rfl
@[go_sem] theorem al6(f):dat (.fn f [] [])=true:=_root_.id rfl
@[go_sem] theorem ajh(h d cs ks):jt h d cs ks=xx h d (.ref d none 0 0 0) (.bx cs) ks (h d):=_root_.id rfl
@[go_sem] theorem ahD(h d a o ks):xx h d a o ks .dead=some (a,upd h d o,ks):=_root_.id rfl
@[go_sem] theorem afG(h d k rows n ks):dA h d k rows n ks=xx h d (.rsl d none k 0 n) (.ar k rows) ks (h d):=_root_.id rfl
@[go_sem] theorem aoo(h d k x):aq2 h d k x=(fC x).bind fun xs=>if xs.length=k then(if xs.all aB then jt h d xs []else(jt h d (List.replicate k .any) []).bind (F7 d 0 xs))else none:=_root_.id rfl
@[go_sem] theorem adk(k h rows):eW k h rows []=some (rows,h,[]):=_root_.id rfl
@[go_sem] theorem acY(k h rows i a ps):eW k h rows ((i,a)::ps)=(fC a).bind fun cs=>if cs.length=k/\i<rows.length then(fV h cs).bind fun q=>(eW k q.2.1 (rows.set i q.1) ps).bind fun r=>some (r.1,r.2.1,q.2.2++r.2.2)else none:=_root_.id rfl
@[go_sem] theorem ahE(h):fV h []=some ([],h,[]):=_root_.id rfl
@[go_sem] theorem afH(h a l):fV h (a::l)=(gL h a).bind fun p=>(fV p.2.1 l).bind fun q=>some (p.1::q.1,q.2.1,p.2.2++q.2.2):=_root_.id rfl
@[go_sem] theorem aoq(h x):gL h (.v x)=some (.v x,h,[]):=_root_.id rfl
@[go_sem] theorem aji(h):gL h .emp=some (.emp,h,[]):=_root_.id rfl
@[go_sem] theorem al7(h k r):gL h (.sl k r)=some (.sl k r,h,[]):=_root_.id rfl
@[go_sem] theorem al8(h f):gL h (.fn f [] [])=some (.fn f [] [],h,[]):=_root_.id rfl
@[go_sem] theorem ajj(h id k lo n):gL h (.rsl id none k lo n)=mf h id k lo n (h id):=_root_.id rfl
@[go_sem] theorem ahF(h id p k lo n):gL h (.rsl id (some p) k lo n)=CK h id p k lo n (h id):=_root_.id rfl
@[go_sem] theorem al9(h id k lo n rows):mf h id k lo n (.ar k rows)=if lo+n<=rows.length then some (nP k lo n rows,upd h id (.fz k rows),[])else none:=by simp[mf]
@[go_sem] theorem ama(h id k lo n rows):mf h id k lo n (.fz k rows)=if lo+n<=rows.length then some (nP k lo n rows,h,[])else none:=by simp[mf]
@[go_sem] theorem amb(k lo n rows):nP k lo n rows=.sl k ((rows.drop lo).take n):=_root_.id rfl
@[go_sem] theorem ahG(h k id k0 i j x):iQ h k (.ref id none k0 i j) x=(fC x).bind fun xs=>if xs.length=k then zM h k id k0 i j xs (h id)else none:=_root_.id rfl
@[go_sem] theorem ahH(h k id p k0 i j x):iQ h k (.ref id (some p) k0 i j) x=(fC x).bind fun xs=>if xs.length=k then(fV h xs).bind fun q=>Bk q.2.1 k id p k0 i j q.1 q.2.2 (q.2.1 id)else none:=_root_.id rfl
@[go_sem] theorem amc(h k id k0 i j xs cs):zM h k id k0 i j xs (.bx cs)=Jj h id (i*k0+j) k xs cs:=_root_.id rfl
@[go_sem] theorem amd(h k id k0 i j xs k' rows):zM h k id k0 i j xs (.ar k' rows)=(fV h xs).bind fun q=>Jk q.2.1 id k k0 i j q.1 q.2.2 (q.2.1 id):=_root_.id rfl
@[go_sem] theorem ame(h id k k0 i j xs ks k' rows):Jk h id k k0 i j xs ks (.ar k' rows)=(nQ k k0 i j xs k' rows).map fun q=>(.und,upd h id (.ar k' q),ks):=_root_.id rfl
@[go_sem] theorem amf(k k0 i j cs rows):nQ k k0 i j cs k0 rows=(rows[i]?).bind fun row=>if j+k<=row.length then some (rows.set i (setRow row j cs))else none:=by simp[nQ]
@[go_sem] theorem amg(h id p k xs cs):Jj h id p k xs cs=if p+k<=cs.length then(if xs.all aB then some (.und,upd h id (.bx (setRow cs p xs)),if((cs.drop p).take k).any aW then [(id,true)]else [])else(mU h id p xs.length xs).map fun q=>(.und,q.1,q.2))else none:=_root_.id rfl
@[go_sem] theorem amh(hs x):eN hs (.v x)=.v x:=_root_.id rfl
@[go_sem] theorem ahI(hs):eN hs .emp=.emp:=_root_.id rfl
@[go_sem] theorem ajk(hs k r):eN hs (.sl k r)=.sl k r:=_root_.id rfl
@[go_sem] theorem ahJ(hs):eN hs .any=.any:=_root_.id rfl
@[go_sem] theorem ahK(hs cs):eN hs (.ipt cs)=.ipt cs:=_root_.id rfl
@[go_sem] theorem ahL(hs id sub k lo n):eN hs (.rsl id sub k lo n)=if hs.contains id then .rsl id sub k lo n else .any:=_root_.id rfl
@[go_sem] theorem ahM(hs id sub k lo n):eN hs (.ref id sub k lo n)=if hs.contains id then .ref id sub k lo n else .any:=_root_.id rfl
@[go_sem] theorem ahN(hs cs):eN hs (.agg cs)=if cs.all (knownL hs)then .agg cs else .any:=_root_.id rfl
@[go_sem] theorem ahO(hs f):eN hs (.fn f [] [])=.fn f [] []:=_root_.id rfl
@[go_sem] theorem ajl(hs f a b):eN hs (.fn f a b)=if a.all (knownL hs)&&b.all (knownL hs)then .fn f a b else .any:=_root_.id rfl
@[go_sem] theorem ajm(hs x):knownL hs (.v x)=true:=_root_.id rfl
@[go_sem] theorem afI(hs):knownL hs .emp=true:=_root_.id rfl
@[go_sem] theorem ahP(hs k r):knownL hs (.sl k r)=true:=_root_.id rfl
@[go_sem] theorem afJ(hs id a b c d):knownL hs (.ref id a b c d)=hs.contains id:=_root_.id rfl
@[go_sem] theorem adl(hs):aO hs .dead=true:=_root_.id rfl
@[go_sem] theorem afK(hs k r):aO hs (.ar k r)=true:=_root_.id rfl
@[go_sem] theorem afL(hs k r):aO hs (.fz k r)=true:=_root_.id rfl
@[go_sem] theorem afM(hs cs):aO hs (.bx cs)=cs.all (gy hs):=_root_.id rfl
@[go_sem] theorem ahQ(hs x):gy hs (.v x)=true:=_root_.id rfl
@[go_sem] theorem ae4(hs):gy hs .emp=true:=_root_.id rfl
@[go_sem] theorem afN(hs k r):gy hs (.sl k r)=true:=_root_.id rfl
@[go_sem] theorem ae5(hs k r):gy hs (.osl k r)=true:=_root_.id rfl
@[go_sem] theorem ae6(hs id a b c):gy hs (.ref id none a b c)=hs.contains id:=by simp[gy,aW,aZ,bm]
@[go_sem] theorem ae7(hs f):gy hs (.fn f [] [])=true:=_root_.id rfl
@[go_sem] theorem afO{α β:Type}(f:α->β)(a):Option.map f (some a)=some (f a):=_root_.id rfl
@[go_sem] theorem afP{α β:Type}(f:α->β):Option.map f none=none:=_root_.id rfl
@[go_sem] theorem ae8{α β:Type}(f:α->Option β)(a):(some a).bind f=f a:=_root_.id rfl
@[go_sem] theorem ae9{α β:Type}(f:α->Option β):(none:Option α).bind f=none:=_root_.id rfl
@[go_sem] theorem afa{α:Type}(a b:α):(some a).getD b=a:=_root_.id rfl
@[go_sem] theorem ahR{α:Type}(p:α->Bool):[].all p=true:=_root_.id rfl
@[go_sem] theorem afQ{α:Type}(p:α->Bool)(a l):(a::l).all p=(p a&&l.all p):=_root_.id rfl
@[go_sem] theorem ahS{α:Type}(p:α->Bool):[].any p=false:=_root_.id rfl
@[go_sem] theorem afR{α:Type}(p:α->Bool)(a l):(a::l).any p=(p a||l.any p):=_root_.id rfl
@[go_sem] theorem afS{α:Type}(a:α)(l):(a::l)[0]?=some a:=_root_.id rfl
@[go_sem] theorem afT{α:Type}(a:α)(l)(n:Nat):(a::l)[n+1]?=l[n]?:=_root_.id rfl
@[go_sem] theorem ahT{α β:Type}(f:α->β):[].map f=[]:=_root_.id rfl
@[go_sem] theorem afU{α β:Type}(f:α->β)(a l):(a::l).map f=f a::l.map f:=_root_.id rfl
@[go_sem] theorem ajn{α β:Type}(f:α->List β):[].flatMap f=[]:=_root_.id rfl
@[go_sem] theorem ahU{α β:Type}(f:α->List β)(a l):(a::l).flatMap f=f a++l.flatMap f:=_root_.id rfl
@[go_sem] theorem ahV{α:Type}(l:List α):l++[]=l:=List.append_nil l
@[go_sem] theorem ahW{α:Type}(l:List α):[]++l=l:=_root_.id rfl
@[go_sem] theorem afV{α:Type}(a:α)(l r):(a::l)++r=a::(l++r):=_root_.id rfl
@[go_sem] theorem ahX{α:Type}:([]:List α).length=0:=_root_.id rfl
@[go_sem] theorem afW{α:Type}(a:α)(l):(a::l).length=l.length+1:=_root_.id rfl
@[go_sem] theorem afb{α:Type}(l:List α):l.drop 0=l:=_root_.id rfl
@[go_sem] theorem afc{α:Type}(a:α)(l)(n:Nat):(a::l).drop (n+1)=l.drop n:=_root_.id rfl
@[go_sem] theorem afd{α:Type}(l:List α):l.take 0=[]:=_root_.id rfl
@[go_sem] theorem afe{α:Type}(a:α)(l)(n:Nat):(a::l).take (n+1)=a::l.take n:=_root_.id rfl
@[go_sem] theorem adm{α:Type}(p:α->Bool):[].filter p=[]:=_root_.id rfl
@[go_sem] theorem afX{α:Type}(a b:α)(l):(a::l).set 0 b=b::l:=_root_.id rfl
@[go_sem] theorem afY{α:Type}(a b:α)(l)(n:Nat):(a::l).set (n+1) b=a::l.set n b:=_root_.id rfl
@[go_sem] theorem aor{α:Type}(a:α):List.replicate 0 a=[]:=_root_.id rfl
@[go_sem] theorem aos{α:Type}(a:α):List.replicate 1 a=[a]:=_root_.id rfl
@[go_sem] theorem aot{α:Type}(a:α):List.replicate 2 a=[a,a]:=_root_.id rfl
@[go_sem] theorem aou{α:Type}(a:α):List.replicate 3 a=[a,a,a]:=_root_.id rfl
@[go_sem] theorem aov{α:Type}(a:α):List.replicate 4 a=[a,a,a,a]:=_root_.id rfl
@[go_sem] theorem aow{α:Type}(a:α):List.replicate 5 a=[a,a,a,a,a]:=_root_.id rfl
@[go_sem] theorem apw:decide True=true:=_root_.id rfl
@[go_sem] theorem apx:decide False=false:=_root_.id rfl
@[go_sem] theorem ami(b:Bool):(true&&b)=b:=_root_.id rfl
@[go_sem] theorem amj(b:Bool):(false&&b)=false:=_root_.id rfl
@[go_sem] theorem aox(b:Bool):(true||b)=true:=_root_.id rfl
@[go_sem] theorem aoy(b:Bool):(false||b)=b:=_root_.id rfl
@[go_sem] theorem amk:(!true)=false:=_root_.id rfl
@[go_sem] theorem aml:(!false)=true:=_root_.id rfl
@[go_sem] theorem amm(b:Bool):(b&&true)=b:=Bool.and_true b
@[go_sem] theorem apy:(false=true)=False:=by simp
@[go_sem] theorem apl{α:Type}(a:α):(a=a)=True:=by simp
@[go_sem] theorem aoz(p:Prop):(True/\p)=p:=by simp
@[go_sem] theorem amn(p:Prop):(p/\True)=p:=by simp
@[go_sem] theorem aoA(p:Prop):(False/\p)=False:=by simp
@[go_sem] theorem aoB:(¬False)=True:=by simp
@[go_sem] theorem aoC:(¬True)=False:=by simp
@[go_sem] theorem ajo(nm rs res n t):gM nm rs res n (some (.ret,t))=xA nm rs res n t.s t.h:=_root_.id rfl
@[go_sem] theorem aff(nm rs res n t):gM nm rs res n (some (.normal,t))=xA nm rs res n t.s t.h:=_root_.id rfl
@[go_sem] theorem ahY(nm rs res n s h):xA nm rs res n s h=(ve s h res).bind fun q=>if mn nm q.2.2 then zO rs n q.2.1 q.1 else none:=_root_.id rfl
@[go_sem] theorem aoD(nm:Bool):mn nm []=true:=kR nm
@[go_sem] theorem ahZ(s h):ve s h []=some ([],h,[]):=_root_.id rfl
@[go_sem] theorem amo(s h n l):ve s h (.t n::l)=(ve s h l).bind fun q=>some (Nq q.2.2 (s n)::q.1,q.2.1,q.2.2):=_root_.id rfl
@[go_sem] theorem afZ(s h n k g l):ve s h (.cell n k g::l)=(fW h k g (s n)).bind fun p=>(ve (gJ p.2.2 s) p.2.1 l).bind fun q=>some (Nq q.2.2 p.1::q.1,q.2.1,p.2.2++q.2.2):=_root_.id rfl
@[go_sem] theorem ajp(a):Nq [] a=a:=_root_.id rfl
@[go_sem] theorem ah0(s):gJ [] s=s:=_root_.id rfl
@[go_sem] theorem aoE(rs h vs):zO rs 0 h vs=if kl ((vs.flatMap cj).filter fun i=>!aQ i)then(u9 h vs).map fun us=>(yP (bv rs us),[])else none:=by simp[zO,cu]
@[go_sem] theorem ah1(h):u9 h []=some []:=_root_.id rfl
@[go_sem] theorem af0(h a l):u9 h (a::l)=(oN h a).bind fun b=>(u9 h l).bind fun q=>some (b::q):=_root_.id rfl
@[go_sem] theorem aoF(h x):oN h (.v x)=some (.v x):=_root_.id rfl
@[go_sem] theorem ajq(h):oN h .emp=some .emp:=_root_.id rfl
@[go_sem] theorem amp(h k r):oN h (.sl k r)=some (.sl k r):=_root_.id rfl
@[go_sem] theorem ajr(h cs):oN h (.agg cs)=(i7 h cs).map .agg:=_root_.id rfl
@[go_sem] theorem ajs(h id k lo n):oN h (.rsl id none k lo n)=if aQ id then none else zN k lo n (h id):=_root_.id rfl
@[go_sem] theorem amq(k lo n rows):zN k lo n (.ar k rows)=if lo+n<=rows.length then(if lo=0/\n=rows.length then some (.osl k rows)else some (nP k lo n rows))else none:=by simp[zN]
@[go_sem] theorem amr(k lo n rows):zN k lo n (.fz k rows)=if lo+n<=rows.length then some (nP k lo n rows)else none:=by simp[zN]
@[go_sem] theorem ah2(h):i7 h []=some []:=_root_.id rfl
@[go_sem] theorem ams(h x l):i7 h (.v x::l)=(i7 h l).bind fun q=>some (.v x::q):=_root_.id rfl
@[go_sem] theorem ah3(h l):i7 h (.emp::l)=(i7 h l).bind fun q=>some (.emp::q):=_root_.id rfl
@[go_sem] theorem ajt(h k r l):i7 h (.sl k r::l)=(i7 h l).bind fun q=>some (.sl k r::q):=_root_.id rfl
@[go_sem] theorem ah4(h id k lo n l):i7 h (.rsl id none k lo n::l)=(jZ h (.rsl id none k lo n)).bind fun b=>(v9 b).bind fun c=>(i7 h l).bind fun q=>some (c::q):=_root_.id rfl
@[go_sem] theorem aju(h id k lo n):jZ h (.rsl id none k lo n)=if aQ id then none else zN k lo n (h id):=_root_.id rfl
@[go_sem] theorem ajv(k r):v9 (.osl k r)=some (.sl k r):=_root_.id rfl
@[go_sem] theorem amt(k r):v9 (.sl k r)=some (.sl k r):=_root_.id rfl
@[go_sem] theorem amu(a):yP [a]=a:=_root_.id rfl
@[go_sem] theorem amv(a b l):yP (a::b::l)=.tup (a::b::l):=_root_.id rfl
@[go_sem] theorem amw:yP []=.tup []:=_root_.id rfl
@[go_sem] theorem ah5(l):bv [] l=l:=by cases l<;>simp[bv]
@[go_sem] theorem af1(s):bv s []=[]:=by cases s<;>simp[bv]
@[go_sem] theorem af2(s ss a l):bv (s::ss) (a::l)=nrmV s a::bv ss l:=_root_.id rfl
@[go_sem] theorem Y0(a):nrmV [] a=a:=by cases a<;>simp[nrmV,nrmL,dB]
@[go_sem] theorem ajw(ss cs):nrmV ss (.agg cs)=.agg (dB ss cs):=_root_.id rfl
@[go_sem] theorem aoG(ss x):nrmV ss (.v x)=.v x:=by
 show nrmL _ _=_;generalize ss.headD (.o 0 [])=s;obtain⟨k,cs⟩:=s;cases k<;>simp[nrmL]
@[go_sem] theorem ajx(k cs ss):nrmV (.o (k+1) cs::ss) .emp=.sl k []:=by simp[nrmV,nrmL]
@[go_sem] theorem amx(k cs ss k' rows):nrmV (.o (k+1) cs::ss) (.sl k' rows)=.sl k' (rows.map (dB cs)):=by simp[nrmV,nrmL]
@[go_sem] theorem ajy(k cs ss k' rows):nrmV (.o (k+1) cs::ss) (.osl k' rows)=.sl k' (rows.map (dB cs)):=by simp[nrmV,nrmL]
@[go_sem] theorem Y3(l):dB [] l=l:=by cases l<;>simp[dB]
@[go_sem] theorem ah6(l):dB l []=[]:=by cases l<;>simp[dB]
@[go_sem] theorem ah7(s ss a l):dB (s::ss) (a::l)=nrmL s a::dB ss l:=by simp[dB]
@[go_sem] theorem aoH(cs a):nrmL (.o 0 cs) a=a:=by simp[nrmL]
@[go_sem] theorem ajz(k cs):nrmL (.o (k+1) cs) .emp=.sl k []:=by simp[nrmL]
@[go_sem] theorem amy(k cs k' rows):nrmL (.o (k+1) cs) (.sl k' rows)=.sl k' (rows.map (dB cs)):=by simp[nrmL]
@[go_sem] theorem aoI(k cs x):nrmL (.o k cs) (.v x)=.v x:=by cases k<;>simp[nrmL]
@[go_sem] theorem aoJ(x):cj (.v x)=[]:=_root_.id rfl
@[go_sem] theorem ajA:cj .emp=[]:=_root_.id rfl
@[go_sem] theorem amz(k r):cj (.sl k r)=[]:=_root_.id rfl
@[go_sem] theorem ajB(cs):cj (.agg cs)=cs.flatMap iq:=_root_.id rfl
@[go_sem] theorem ajC(a b c d e):cj (.rsl a b c d e)=[a]:=_root_.id rfl
@[go_sem] theorem aoK(x):iq (.v x)=[]:=_root_.id rfl
@[go_sem] theorem ajD:iq .emp=[]:=_root_.id rfl
@[go_sem] theorem amA(k r):iq (.sl k r)=[]:=_root_.id rfl
@[go_sem] theorem ajE(a b c d e):iq (.rsl a b c d e)=[a]:=_root_.id rfl
@[go_sem] theorem af3:kl []=true:=_root_.id rfl
@[go_sem] theorem af4(a):kl [a]=true:=_root_.id rfl
@[go_sem] theorem amB(args i):oO args i=(args[i]?).getD .any:=_root_.id rfl
@[go_sem] theorem Up:ao []=fun _=>.dead:=by funext i;simp[ao]
@[go_sem] theorem ah8(i):aQ i=decide (1000<=i/\i<2000):=_root_.id rfl
def kv(h:ac)(d:Nat):Option (AV×List Ob)->Option R3
 |some (r,[])=>if cP r<=8/\dK h (2000+8*d) (cP r)=true/\apL [] r=true then some ((mat (2000+8*d) h r).1,(mat (2000+8*d) h r).2,[])else none
 |_=>none
theorem ari{c:AV}{ids:List Nat}{n:Nat}(hn:2000<=n)(hc:bm [] c=true\/(∃k lo m,c=.rsl n none k lo m)\/∃k i j,c=.ref n none k i j):lD (cX ids) c=c:=by
 have hb:cX ids n=n:=by unfold cX;rw[if_neg (by omega)]
 rcases hc with hc| ⟨k,lo,m,rfl⟩| ⟨k,i,j,rfl⟩
 ·cases c<;>simp[bm]at hc<;>rfl
 ·simp[lD,hb]
 ·simp[lD,hb]
theorem Ls{r:AV}{n:Nat}(hn:2000<=n)(h:ac)(ids:List Nat)(hr:gj [] r=true):ey (cX ids) (dq n h r).1=(dq n h r).1:=by
 cases r<;>simp only[gj]at hr<;>simp only[dq]
 case osl=>simp only[ey];exact ari hn (.inr (.inl ⟨_,_,_,rfl⟩))
 case obx=>simp only[ey];exact ari hn (.inr (.inr ⟨_,_,_,rfl⟩))
 case agg cs=>
  simp only[aZ,List.all_eq_true]at hr;simp only[ey,AV.agg.injEq];exact(List.map_congr_left (g:=fun c=>c) fun c hc=>ari hn (.inl (hr c hc))).trans (List.map_id' cs)
 case fn f x y=>
  simp only[aZ,Bool.and_eq_true,List.all_eq_true]at hr;simp only[ey,AV.fn.injEq,true_and];exact⟨(List.map_congr_left (g:=fun c=>c) fun c hc=>ari hn (.inl (hr.1 c hc))).trans (List.map_id' x),(List.map_congr_left (g:=fun c=>c) fun c hc=>ari hn (.inl (hr.2 c hc))).trans (List.map_id' y)⟩
 all_goals
  simp only[ey];exact ari hn (.inl hr)
theorem Lt(ids:List Nat):∀ {l:List AV} {n:Nat} {h:ac},2000<=n->l.all (gj [])=true->(bO n h l).1.map (ey (cX ids))=(bO n h l).1
 |[],n,h,_,_=>rfl
 |c::l,n,h,hn,hr=>by
  simp only[List.all_cons,Bool.and_eq_true]at hr;simp only[bO,List.map_cons];rw[Ls hn h ids hr.1,Lt ids (by omega) hr.2]
theorem Y4{r:AV}{n:Nat}(hn:2000<=n)(h:ac)(ids:List Nat)(hr:apL [] r=true):Nk (cX ids) (mat n h r).1=(mat n h r).1:=by
 cases r with
 |tup vs=>
  simp only[apL]at hr;simp only[mat,Nk,AV.tup.injEq];exact Lt ids hn hr
 |_=>
  simp only[apL]at hr;have:=Ls hn h ids hr;simp only[mat];simp only[dq]at this⊢;exact this
theorem Lu:∀l:List AV,uX [] l=[]
 |[]=>rfl
 |a::l=>by simp[uX,Lu l]
theorem yW{f:FuncId}{args:List AV}(d:Nat)(hm:md.m f=[])(hd:args.all dat=true):bI call md h d args (.fn f [] [])=kv h d (call f (bv (md.sh f) args) []):=by
 have hin:cr h [] args=some (args,h,[]):=by
  have:∀ (l:List AV),l.all dat=true->cr h [] l=some (l,h,[]):=by
   intro l;induction l with
   |nil=>intro _;rfl
   |cons a l ih=>
    intro hd;simp only[List.all_cons,Bool.and_eq_true]at hd;have ha:de h 0 a=some (a,h,[]):=by
     have h1:=hd.1;by_cases hagg:∃cs,a=.agg cs
     ·obtain⟨cs,rfl⟩:=hagg;simp only[dat]at h1;simp only[de,vA];rw[jj h1 h];rfl
     ·have h2:aB a=true:=by cases a<;>first|exact h1|exact absurd ⟨_,rfl⟩ hagg
      cases a<;>first| (simp[aB]at h2;done)|rfl|skip
    simp only[cr,List.headD_nil,ha,Option.bind_some,List.tail_nil,ih hd.2,List.append_nil]
  exact this args hd
 have hids:args.flatMap cj=[]:=by
  rw[List.flatMap_eq_nil_iff];exact fun c hc=>NF (List.all_eq_true.1 hd c hc)
 have hren:(bv (md.sh f) args).map (ey (bq []))=bv (md.sh f) args/\(bv (md.sh f) args).all (aZ [])=true:=by
  have key:∀c∈bv (md.sh f) args,dat c=true:=by
   intro c hc;obtain⟨i,hi⟩:=List.getElem?_of_mem hc;obtain⟨c0,h1,h2⟩:=rU _ _ _ _ hi;have h0:=List.all_eq_true.1 hd c0 (List.mem_of_getElem? h1);rcases h2 with rfl| ⟨ss,rfl⟩
   ·exact h0
   ·cases c0<;>simp only[dat]at h0<;>simp only[nrmV,dat]<;>try (have:=xI (s:=ss.headD (.o 0 [])) h0;revert this;generalize nrmL _ _=q;intro this;cases q<;>first|exact this|simp[aB]at this)
    rename_i cs;rw[List.all_eq_true];intro c hc;obtain⟨i,hi⟩:=List.getElem?_of_mem hc;obtain⟨c0,h1,h2⟩:=xH _ _ _ _ hi;have h3:=List.all_eq_true.1 h0 c0 (List.mem_of_getElem? h1);rcases h2 with rfl| ⟨s,rfl⟩
    ·exact h3
    ·exact xI h3
  refine⟨(List.map_congr_left (g:=fun c=>c) fun c hc=>?_).trans (List.map_id' _),?_⟩
  ·have:=key c hc;cases c<;>simp only[dat]at this<;>first|rfl|skip
   all_goals first
    | (simp[aB]at this;done)
    |skip
   ·rename_i cs;simp only[ey,AV.agg.injEq];refine(List.map_congr_left (g:=fun c=>c) fun c hc=>?_).trans (List.map_id' cs);have h3:=List.all_eq_true.1 this c hc;cases c<;>simp[aB]at h3<;>rfl
   ·rename_i g x y;simp[aB]at this;obtain⟨rfl,rfl⟩:=this;rfl
  ·rw[List.all_eq_true];intro c hc;have:=key c hc;cases c<;>simp only[dat]at this<;>first|rfl|skip
   all_goals first
    | (simp[aB]at this;done)
    |skip
   ·rename_i cs;simp only[aZ,List.all_eq_true];intro c hc;have h3:=List.all_eq_true.1 this c hc;cases c<;>simp[aB]at h3<;>simp[bm,h3]
   ·rename_i g x y;simp[aB]at this;obtain⟨rfl,rfl⟩:=this;rfl
 unfold bI;rw[if_neg (by simp[sy,hm])];simp only[eP,hm,List.nil_append,List.append_nil,hin,Option.bind_some,hids,bV,Lg,mj,hren.2,List.all_nil,Bool.and_self,if_true,hren.1,List.map_nil,Lu];cases hr:call f (bv (md.sh f) args) []with
 |none=>rfl
 |some q=>
  obtain⟨r,os⟩:=q;cases os with
  |cons o os=>simp only[Option.bind_some,gz,kv];simp
  |nil=>
   simp only[Option.bind_some,gz,kv,List.length_nil,Nat.zero_le,true_and,fw,yO,Nl,List.all_nil,Bool.true_and,Bool.and_true,Hh,cu,List.range'_zero,eM,aqL];by_cases hc:cP r<=8/\dK h (2000+8*d) (cP r)=true/\apL [] r=true
   ·rw[if_pos hc,if_pos hc,Y4 (by omega) h [] hc.2.2];simp
   ·rw[if_neg hc,if_neg hc]
def BD(call:ef)(md:Mode)(d:Nat)(f:FuncId)(p:List AV×ac×K):Option R3:=
 mj call md p.2.1 d f (cq p.2.1 40 (bV [] (p.1.flatMap cj)) 0) (bv (md.sh f) p.1) p.2.2
theorem BE{f:FuncId}{args:List AV}(d:Nat)(hm:md.m f=[]):bI call md h d args (.fn f [] [])=(cr h [] args).bind (BD call md d f):=by
 unfold bI;rw[if_neg (by simp[sy,hm])];simp only[eP,hm,List.nil_append,List.append_nil];rfl
@[go_sem] theorem ah9{f:FuncId}{zs:List AV}(d:Nat)(hm:md.m f=[])(hd:zs.all dat=true):BD call md d f (zs,h,[])=kv h d (call f (bv (md.sh f) zs) []):=by
 rw[←yW d hm hd,BE d hm];have hin:∀ (l:List AV),l.all dat=true->cr h [] l=some (l,h,[]):=by
  intro l;induction l with
  |nil=>intro _;rfl
  |cons a l ih=>
   intro hd;simp only[List.all_cons,Bool.and_eq_true]at hd;have ha:de h 0 a=some (a,h,[]):=by
    have h1:=hd.1;by_cases hagg:∃cs,a=.agg cs
    ·obtain⟨cs,rfl⟩:=hagg;simp only[dat]at h1;simp only[de,vA];rw[jj h1 h];rfl
    ·have h2:aB a=true:=by cases a<;>first|exact h1|exact absurd ⟨_,rfl⟩ hagg
     cases a<;>first| (simp[aB]at h2;done)|rfl|skip
   simp only[cr,List.headD_nil,ha,Option.bind_some,List.tail_nil,ih hd.2,List.append_nil]
 rw[hin zs hd];rfl
@[go_sem] theorem af5(h):cr h [] []=some ([],h,[]):=_root_.id rfl
@[go_sem] theorem afg(h a l):cr h [] (a::l)=(de h 0 a).bind fun p=>(cr p.2.1 [] l).bind fun q=>some (p.1::q.1,q.2.1,p.2.2++q.2.2):=_root_.id rfl
@[go_sem] theorem amC(h x):de h 0 (.v x)=some (.v x,h,[]):=_root_.id rfl
@[go_sem] theorem aia(h):de h 0 .emp=some (.emp,h,[]):=_root_.id rfl
@[go_sem] theorem ajF(h k r):de h 0 (.sl k r)=some (.sl k r,h,[]):=_root_.id rfl
@[go_sem] theorem ajG(h f a b):de h 0 (.fn f a b)=some (.fn f a b,h,[]):=_root_.id rfl
@[go_sem] theorem aib(h a b c d):de h 0 (.ref a none b c d)=some (.ref a none b c d,h,[]):=_root_.id rfl
@[go_sem] theorem aic(h cs):de h 0 (.ipt cs)=some (.ipt cs,h,[]):=_root_.id rfl
@[go_sem] theorem aid(h id k lo n):de h 0 (.rsl id none k lo n)=mf h id k lo n (h id):=_root_.id rfl
@[go_sem] theorem af6(h id p k lo n):de h 0 (.rsl id (some p) k lo n)=CK h id p k lo n (h id):=_root_.id rfl
@[go_sem] theorem aie(h cs):de h 0 (.agg cs)=(fV h cs).bind fun p=>some (.agg p.1,p.2):=_root_.id rfl
@[go_sem] theorem amD(h d x):kv h d (some (.v x,[]))=if dK h (2000+8*d) 1=true then some (.v x,h,[])else none:=by
 simp[kv,cP,apL,gj,aZ,bm,mat,dq]
@[go_sem] theorem Y5(h d k r):kv h d (some (.sl k r,[]))=if dK h (2000+8*d) 1=true then some (.sl k r,h,[])else none:=by
 simp[kv,cP,apL,gj,aZ,bm,mat,dq]
@[go_sem] theorem aif(h d cs)(hd:cs.all aB=true):kv h d (some (.agg cs,[]))=if dK h (2000+8*d) 1=true then some (.agg cs,h,[])else none:=by
 have:cs.all (bm [])=true:=by
  rw[List.all_eq_true]at hd⊢;intro c hc;have:=hd c hc;cases c<;>simp[aB]at this<;>simp[bm,this]
 simp only[kv,cP,apL,gj,aZ,mat,dq,this,and_true];simp
@[go_sem] theorem aig(h d vs)(h8:vs.length<=8)(hd:vs.all dat=true):kv h d (some (.tup vs,[]))=if dK h (2000+8*d) vs.length=true then some (.tup vs,h,[])else none:=by
 have h1:vs.all (gj [])=true:=by
  rw[List.all_eq_true]at hd⊢;intro c hc;have:=hd c hc;cases c<;>simp only[dat]at this<;>simp only[gj,aZ]<;>try (simp[aB]at this<;>simp[bm,this];done)
  rename_i cs;rw[List.all_eq_true]at this⊢;intro c hc;have:=this c hc;cases c<;>simp[aB]at this<;>simp[bm,this]
 have h2:∀ (l:List AV) (n:Nat) (g:ac),l.all dat=true->bO n g l=(l,g):=by
  intro l;induction l with
  |nil=>intro n g _;rfl
  |cons c l ih=>
   intro n g hd;simp only[List.all_cons,Bool.and_eq_true]at hd;have hc:dq n g c=(c,g):=by
    have:=hd.1;cases c<;>simp only[dat,aB]at this<;>first|rfl| (cases this;done)
   simp only[bO,hc,ih _ _ hd.2]
 simp only[kv,cP,apL,h1,mat,h2 vs _ _ hd,h8,true_and,and_true]
@[go_sem] theorem aih(h d k r):kv h d (some (.osl k r,[]))=if dK h (2000+8*d) 1=true then some (.rsl (2000+8*d) none k 0 r.length,upd h (2000+8*d) (.ar k r),[])else none:=by
 simp[kv,cP,apL,gj,mat,dq]
@[go_sem] theorem af7(h n):dK h n 0=true:=_root_.id rfl
@[go_sem] theorem af8(h n m):dK h n (m+1)=(cY (h n)&&dK h (n+1) m):=_root_.id rfl
@[go_sem] theorem afh:cY .dead=true:=_root_.id rfl
def aqu(call:ef)(md:Mode)(ps:List (Nat×Nat)):List Fp->List COp->af->ac->Option St
 |acc,[],s,h=>if ps.all (rQ acc)=true then some ⟨s,h⟩else none
 |acc,o::rest,s,h=>(df call md o s h).bind fun r=>aqu call md ps (acc++[r.2]) rest r.1.s r.1.h
theorem Se(ps:List (Nat×Nat)):∀ (l:List COp) (acc:List Fp) (s:af) (h:ac),aqu call md ps acc l s h=(fF call md l s h).bind fun r=>if ps.all (rQ (acc++r.2))=true then some r.1 else none
 |[],acc,s,h=>by simp only[aqu,fF,Option.bind_some,List.append_nil]
 |o::l,acc,s,h=>by
  simp only[aqu,fF];cases df call md o s h with
  |none=>rfl
  |some r=>
   simp only[Option.bind_some];rw[Se ps l];cases fF call md l r.1.s r.1.h with
   |none=>rfl
   |some q=>simp only[Option.bind_some,List.append_assoc,List.singleton_append]
@[go_sem] theorem aii:uZ []=none:=_root_.id rfl
@[go_sem] theorem af9(p g l):uZ ((p,g)::l)=if 1000000<=p then some (p-1000000,g)else none:=_root_.id rfl
theorem N5(l ps):vD call md l ps s h=aqu call md ps [] l s h:=by
 rw[Se];rfl
theorem abk(ps)(l:List COp)(h0:uZ ps=none):mq call md l ps s h=aqu call md ps [] l s h:=by
 unfold mq;rw[h0];exact N5 l ps
def Y6(call:ef)(md:Mode)(m g:Nat)(ps:List (Nat×Nat))(l:List COp)(s:af)(h:ac):Option St:=
 aT (aqu call md ps [] (l.take m) s h) fun s h=>aT (nZ md.nm g s h) (aC call md (l.drop m))
@[go_sem] theorem ajH(l ps):mq call md l ps s h=match uZ ps with
  |some q=>Y6 call md q.1 q.2 ps.tail l s h
  |none=>aqu call md ps [] l s h:=by
 cases hb:uZ ps with
 |none=>exact abk ps l hb
 |some q=>
  unfold mq;rw[hb];simp only[Y6,Bl];rw[←N5 _ _,vD];cases fF call md (l.take q.1) s h with
  |none=>rfl
  |some r=>
   simp only[Option.bind_some];split<;>rfl
def gR(call:ef)(md:Mode)(ps:List (Nat×Nat))(acc:List Fp)(rest:List COp)(s:af)(d:Option Nat)(f:ac->Fp):Option R3->Option St
 |some (x,h,[])=>aqu call md ps (acc++[f h]) rest (dY s d x) h
 |_=>none
theorem dO(ps acc)(o:COp)(rest)(hg:o.g=none):aqu call md ps acc (o::rest) s h=gR call md ps acc rest s o.d (fM (o.d.getD 0) o.op s h) (step call md (o.d.getD 0) o.op s h):=by
 simp only[aqu,df,hg,jS];cases step call md (o.d.getD 0) o.op s h with
 |none=>rfl
 |some r=>
  obtain⟨x,h',ks⟩:=r;cases ks<;>rfl
@[go_sem] theorem ajI(ps acc):aqu call md ps acc [] s h=if ps.all (rQ acc)=true then some ⟨s,h⟩else none:=_root_.id rfl
@[go_sem] theorem EH(ps acc d op rest):aqu call md ps acc (co d op::rest) s h=(eO s op).bind fun a=>aqu call md ps (acc++[some ([],[])]) rest (upd s d a) h:=by
 rw[dO _ _ _ _ rfl];simp only[co,step,xz];cases eO s op<;>rfl
@[go_sem] theorem amE(ps acc d n rest):aqu call md ps acc (cm d n::rest) s h=aqu call md ps (acc++[some ([],[])]) rest (upd s d (s n)) h:=EH ps acc d (.mv (.t n)) rest
@[go_sem] theorem aij(ps acc d k g x rest):aqu call md ps acc (⟨some d,none,.load k g x⟩::rest) s h=gR call md ps acc rest s (some d) (fun _=>oM (ev s x)) (fW h k g (ev s x)):=dO _ _ _ _ rfl
@[go_sem] theorem aga(ps acc d k x y rest):aqu call md ps acc (⟨d,none,.store k x y⟩::rest) s h=gR call md ps acc rest s d (fun _=>uY (ev s y) (ev s x)) (iQ h k (ev s x) (ev s y)):=dO _ _ _ _ rfl
@[go_sem] theorem aik(ps acc d f zas rest):aqu call md ps acc (⟨some d,none,.call f zas⟩::rest) s h=gR call md ps acc rest s (some d) (gk h d (kj (zas.map (ev s)) (ev s f))) (bI call md h d (zas.map (ev s)) (ev s f)):=dO _ _ _ _ rfl
@[go_sem] theorem agb(ps acc d z rest):aqu call md ps acc (⟨some d,none,.alloc z⟩::rest) s h=gR call md ps acc rest s (some d) (fun _=>some ([],[cJ d])) (jt h d z []):=dO _ _ _ _ rfl
@[go_sem] theorem ajJ(ps acc d k x rest):aqu call md ps acc (⟨some d,none,.box k x⟩::rest) s h=gR call md ps acc rest s (some d) (fun _=>if dat (ev s x)=true then some ([],[cJ d])else none) (aq2 h d k (ev s x)):=dO _ _ _ _ rfl
@[go_sem] theorem adn(ps acc d k z n qs rest):aqu call md ps acc (⟨some d,none,.buildSl k z n qs⟩::rest) s h=gR call md ps acc rest s (some d) (fun _=>if(qs.all fun p=>dat (ev s p.2))=true then some ([],[cJ d])else none) ((eW k h (List.replicate n z) (qs.map fun p=>(p.1,ev s p.2))).bind fun q=>dA q.2.1 d k q.1 n q.2.2):=dO _ _ _ _ rfl
@[go_sem] theorem amF(ps acc d op a b rest):aqu call md ps acc (b2 d op a b::rest) s h=(cO op (s a) (s b)).bind fun a=>aqu call md ps (acc++[some ([],[])]) rest (upd s d a) h:=EH ps acc d (.bin op (.t a) (.t b)) rest
@[go_sem] theorem amG(ps acc d k a rest):aqu call md ps acc (fa d k a::rest) s h=(uU k (s a)).bind fun a=>aqu call md ps (acc++[some ([],[])]) rest (upd s d a) h:=EH ps acc d (.fadr k (.t a)) rest
@[go_sem] theorem amH(ps acc d a rest):aqu call md ps acc (nk d a::rest) s h=(CI (s a)).bind fun a=>aqu call md ps (acc++[some ([],[])]) rest (upd s d a) h:=EH ps acc d (.nilck (.t a)) rest
@[go_sem] theorem amI(ps acc d k a rest):aqu call md ps acc (ld d k a::rest) s h=gR call md ps acc rest s (some d) (fun _=>oM (s a)) (fW h k false (s a)):=dO _ _ _ _ rfl
@[go_sem] theorem amJ(ps acc d k a rest):aqu call md ps acc (la d k a::rest) s h=gR call md ps acc rest s (some d) (fun _=>oM (s a)) (fW h k true (s a)):=dO _ _ _ _ rfl
@[go_sem] theorem amK(ps acc d f zas rest):aqu call md ps acc (ca d f zas::rest) s h=gR call md ps acc rest s (some d) (gk h d (kj (zas.map (ev s)) (.fn f [] []))) (bI call md h d (zas.map (ev s)) (.fn f [] [])):=dO _ _ _ _ rfl
@[go_sem] theorem amL(ps acc k x y rest):aqu call md ps acc (sr k x y::rest) s h=gR call md ps acc rest s none (fun _=>uY (ev s y) (ev s x)) (iQ h k (ev s x) (ev s y)):=dO _ _ _ _ rfl
@[go_sem] theorem amM(ps acc d z rest):aqu call md ps acc (al d z::rest) s h=gR call md ps acc rest s (some d) (fun _=>some ([],[cJ d])) (jt h d z []):=dO _ _ _ _ rfl
@[go_sem] theorem amN(ps acc d k x rest):aqu call md ps acc (bx d k x::rest) s h=gR call md ps acc rest s (some d) (fun _=>if dat (ev s x)=true then some ([],[cJ d])else none) (aq2 h d k (ev s x)):=dO _ _ _ _ rfl
@[go_sem] theorem ail(ps acc rest s d f x h):gR call md ps acc rest s (some d) f (some (x,h,[]))=aqu call md ps (acc++[f h]) rest (upd s d x) h:=_root_.id rfl
@[go_sem] theorem agc(ps acc rest s f x h):gR call md ps acc rest s none f (some (x,h,[]))=aqu call md ps (acc++[f h]) rest s h:=_root_.id rfl
theorem ado(ps acc)(o:COp)(j w rest)(hg:o.g=some (j,w)){b:Bool}(hb:s j=.v (.bool b)):aqu call md ps acc (o::rest) s h=
  if b=w then gR call md ps acc rest s o.d (fM (o.d.getD 0) o.op s h) (step call md (o.d.getD 0) o.op s h)else aqu call md ps (acc++[some ([],[])]) rest (dY s o.d .und) h:=by
 simp only[aqu,df,hg,hb,mo];split
 ·simp only[jS];cases step call md (o.d.getD 0) o.op s h with
  |none=>rfl
  |some r=>
   obtain⟨x,h',ks⟩:=r;cases ks<;>rfl
 ·rfl
def N6(call:ef)(md:Mode)(ps:List (Nat×Nat))(acc:List Fp)(rest:List COp)(s:af)(h:ac)(d:Option Nat)(w:Bool)(op:AOp):AV->Option St
 | .v (.bool b)=>if b=w then gR call md ps acc rest s d (fM (d.getD 0) op s h) (step call md (d.getD 0) op s h)else aqu call md ps (acc++[some ([],[])]) rest (dY s d .und) h
 | .und=>aqu call md ps (acc++[some ([],[])]) rest (dY s d .und) h
 |_=>none
@[go_sem] theorem abl(ps acc d j w op rest):aqu call md ps acc (⟨d,some (j,w),op⟩::rest) s h=N6 call md ps acc rest s h d w op (s j):=by
 by_cases hb:∃b,s j=.v (.bool b)
 ·obtain⟨b,hb⟩:=hb;rw[ado ps acc ⟨d,some (j,w),op⟩ j w rest rfl hb,hb];rfl
 ·simp only[aqu,df];cases hq:s j<;>first|rfl|skip
  rename_i x;cases x<;>first|rfl|exact absurd ⟨_,hq⟩ hb
@[go_sem] theorem amO(ps acc d j w op rest):aqu call md ps acc (cg d j w op::rest) s h=N6 call md ps acc rest s h (some d) w (.p op) (s j):=abl ps acc (some d) j w (.p op) rest
@[go_sem] theorem aoL(ps acc rest s h d op):N6 call md ps acc rest s h (some d) true op (.v (.bool true))=gR call md ps acc rest s (some d) (fM d op s h) (step call md d op s h):=_root_.id rfl
@[go_sem] theorem aoM(ps acc rest s h d op):N6 call md ps acc rest s h (some d) false op (.v (.bool false))=gR call md ps acc rest s (some d) (fM d op s h) (step call md d op s h):=_root_.id rfl
@[go_sem] theorem aoN(ps acc rest s h d op):N6 call md ps acc rest s h (some d) true op (.v (.bool false))=aqu call md ps (acc++[some ([],[])]) rest (upd s d .und) h:=_root_.id rfl
@[go_sem] theorem aoO(ps acc rest s h d op):N6 call md ps acc rest s h (some d) false op (.v (.bool true))=aqu call md ps (acc++[some ([],[])]) rest (upd s d .und) h:=_root_.id rfl
@[go_sem] theorem amP(ps acc rest s h d w op):N6 call md ps acc rest s h (some d) w op .und=aqu call md ps (acc++[some ([],[])]) rest (upd s d .und) h:=_root_.id rfl
@[go_sem] theorem apz(d op h'):fM d (.p op) s h h'=some ([],[]):=_root_.id rfl
@[go_sem] theorem amQ(d k g x h'):fM d (.load k g x) s h h'=oM (ev s x):=_root_.id rfl
@[go_sem] theorem amR(d f zas h'):fM d (.call f zas) s h h'=gk h d (kj (zas.map (ev s)) (ev s f)) h':=_root_.id rfl
@[go_sem] theorem ajK(d z h'):fM d (.alloc z) s h h'=some ([],[cJ d]):=_root_.id rfl
@[go_sem] theorem aoP(d k x h'):fM d (.box k x) s h h'=if dat (ev s x)=true then some ([],[cJ d])else none:=_root_.id rfl
@[go_sem] theorem agd(cs):oM (.ipt cs)=some ([],[]):=_root_.id rfl
@[go_sem] theorem afi(id k i j):oM (.ref id none k i j)=some ([cJ id],[]):=_root_.id rfl
@[go_sem] theorem afj(id p k i j):oM (.ref id (some p) k i j)=some ([cJ id],[]):=_root_.id rfl
@[go_sem] theorem aim(y id sub k i j):uY y (.ref id sub k i j)=if dat y=true then some ([cJ id],[cJ id])else none:=_root_.id rfl
@[go_sem] theorem aoQ(i):cJ i=if i<2000 then i else i-i%8:=_root_.id rfl
@[go_sem] theorem ain(l f a b):kj l (.fn f a b)=a++l++b:=_root_.id rfl
@[go_sem] theorem vL(h d l h'):gk h d l h'=if l.all dat=true then some ([],[2000+8*d])else if l.all sA=true then some ((cq h 40 (bV [] (l.flatMap cj)) 0).map cJ,(CM h h' (cq h 40 (bV [] (l.flatMap cj)) 0)).map cJ++[2000+8*d])else none:=_root_.id rfl
@[go_sem] theorem age(l i j):rQ l (i,j)=(match l[i]?,l[j]? with|some a,some b=>j6 a b|_,_=>false):=_root_.id rfl
@[go_sem] theorem ajL(a b):j6 (some a) (some b)=(vZ a.2 (b.1++b.2)&&vZ b.2 a.1):=_root_.id rfl
@[go_sem] theorem ajM(b):j6 none (some b)=(b.1.isEmpty&&b.2.isEmpty):=_root_.id rfl
@[go_sem] theorem ajN(a):j6 (some a) none=(a.1.isEmpty&&a.2.isEmpty):=_root_.id rfl
@[go_sem] theorem ajO(b):vZ [] b=true:=_root_.id rfl
@[go_sem] theorem aio(a l b):vZ (a::l) b=(!b.contains a&&vZ l b):=_root_.id rfl
@[go_sem] theorem agf(a:Nat):[].contains a=false:=_root_.id rfl
@[go_sem] theorem afk(a b:Nat)(l:List Nat):(b::l).contains a=(a==b||l.contains a):=by rw[List.contains_cons]
@[go_sem] theorem ajP(s d x h p l):aqv false s (some d) (some (x,h,p::l))=some ⟨upd (gJ (p::l) s) d x,h⟩:=_root_.id rfl
@[go_sem] theorem aip(s x h p l):aqv false s none (some (x,h,p::l))=some ⟨gJ (p::l) s,h⟩:=_root_.id rfl
@[go_sem] theorem amS(p l s)(i:Nat):gJ (p::l) s i=nY (p::l) (s i):=_root_.id rfl
@[go_sem] theorem apm(ks x):nY ks (.v x)=.v x:=_root_.id rfl
@[go_sem] theorem amT(ks):nY ks .any=.any:=_root_.id rfl
@[go_sem] theorem amU(ks):nY ks .und=.und:=_root_.id rfl
@[go_sem] theorem amV(ks):nY ks .emp=.emp:=_root_.id rfl
@[go_sem] theorem aoR(ks k r):nY ks (.sl k r)=.sl k r:=_root_.id rfl
@[go_sem] theorem amW(ks cs):nY ks (.ipt cs)=.ipt cs:=_root_.id rfl
@[go_sem] theorem amX(ks f):nY ks (.fn f [] [])=.fn f [] []:=_root_.id rfl
@[go_sem] theorem amY(ks id sub k lo n):nY ks (.rsl id sub k lo n)=if gS ks id sub=true then .any else .rsl id sub k lo n:=_root_.id rfl
@[go_sem] theorem amZ(ks id sub k lo n):nY ks (.ref id sub k lo n)=if gS ks id sub=true then .any else .ref id sub k lo n:=_root_.id rfl
@[go_sem] theorem am0(ks cs):nY ks (.agg cs)=if cs.any (me ks)=true then .any else .agg cs:=_root_.id rfl
@[go_sem] theorem aoS(ks f a b):nY ks (.fn f a b)=if(a.any (me ks)||b.any (me ks))=true then .any else .fn f a b:=_root_.id rfl
@[go_sem] theorem am1(ks vs):nY ks (.tup vs)=if vs.any (zL ks)=true then .any else .tup vs:=_root_.id rfl
@[go_sem] theorem aoT(ks x):zL ks (.v x)=false:=_root_.id rfl
@[go_sem] theorem am2(ks k r):zL ks (.sl k r)=false:=_root_.id rfl
@[go_sem] theorem aoU(ks x):me ks (.v x)=false:=_root_.id rfl
@[go_sem] theorem ajQ(ks):me ks .emp=false:=_root_.id rfl
@[go_sem] theorem am3(ks k r):me ks (.sl k r)=false:=_root_.id rfl
@[go_sem] theorem ajR(ks id sub k i j):me ks (.ref id sub k i j)=gS ks id sub:=_root_.id rfl
@[go_sem] theorem ajS(id sub):gS [] id sub=false:=_root_.id rfl
@[go_sem] theorem ajT(a:Nat)(b:Bool)(l:K)(id:Nat)(sub:Option Nat):gS ((a,b)::l) id sub=((a==id&& (!b||sub.isSome))||gS l id sub):=by simp[gS]
@[go_sem] theorem adp{α:Type}:(none:Option α).isSome=false:=_root_.id rfl
@[go_sem] theorem adq{α:Type}(a:α):(some a).isSome=true:=_root_.id rfl
@[go_sem] theorem aoV(h d k b x y):Jl h d k b x y=(pE h k y).bind fun ys=>match x with
 | .emp=>if ys.length*b<=140737488355328 then Nf h d k ys else none
 | .rsl id none k' lo n=>Nd h d k b id k' lo n ys (h id)
 | .rsl id (some p) k' lo n=>YA h d k b id p k' lo n ys (h id)
 |_=>none:=_root_.id rfl
@[go_sem] theorem aiq(h k):pE h k .emp=some []:=_root_.id rfl
@[go_sem] theorem Y7(h k r):pE h k (.sl k r)=some r:=by simp[pE]
@[go_sem] theorem air(h k id sub lo n):pE h k (.rsl id sub k lo n)=gx k lo n (vC h id sub):=by simp[pE]
@[go_sem] theorem afl(h id):vC h id none=vB (h id):=_root_.id rfl
@[go_sem] theorem ais(k r):vB (.ar k r)=some (k,r):=_root_.id rfl
@[go_sem] theorem ait(k r):vB (.fz k r)=some (k,r):=_root_.id rfl
@[go_sem] theorem adr(k lo n r):gx k lo n (some (k,r))=if lo+n<=r.length then some ((r.drop lo).take n)else none:=by simp[gx]
@[go_sem] theorem am4(h d k b id lo n ys r):Nd h d k b id k lo n ys (.ar k r)=if lo=0/\n=r.length/\(id<1000\/2000<=id)/\(n+ys.length)*b<=140737488355328 then
   some (.rsl id none k 0 (n+ys.length),upd h id (.ar k (r++ys)),[(id,false)])else Yz h d k b id k lo n ys k r:=by simp[Nd]
@[go_sem] theorem ajU(h d k):Nf h d k []=some (.emp,h,[]):=_root_.id rfl
@[go_sem] theorem aiu(h d k y ys):Nf h d k (y::ys)=dA h d k (y::ys) (ys.length+1) []:=_root_.id rfl
end
noncomputable section
def aaJ:List (Nat×Nat)->Option Nat->AOp
 | (d,k)::l,x=>if x=some d then(match k with|0=>.callC (.c .any) []|1=>.take (.c .any)|_=>.slcM 0 (.c .any) none none)else aaJ l x
 |[],_=>.bad
def agh(P:Program)(N:Nat)(ops:Array Oper)(h:AOp)(o:Oper):Option COp:=match o.op with
 | .build t ps=>(Hm ops o.guard).bind fun g=>(iD P t).bind fun z=>match P.underlying t with
  |some (.struct fs)=>(xB P (Et P fs) ps.toList).map fun q=>⟨o.dst,g,.p (.build z q)⟩
  |_=>Ew P N ops h o
 |_=>Ew P N ops h o
def Y8(P:Program)(N:Nat)(H:List (Nat×Nat))(ops:Array Oper):List Oper->Option (List COp)
 |[]=>some []
 |o::l=>(agh P N ops (aaJ H o.dst) o).bind fun a=>(Y8 P N H ops l).bind fun q=>some (a::q)
def prs:List Nat->List (Nat×Nat)
 |a::b::l=>(a,b)::prs l
 |_=>[]
abbrev dm:=List (List Nat)
def ads(P:Program)(N:Nat)(H:List (Nat×Nat))(ops:Array Oper):Bool->dm->Option (Cmd×dm)
 |dr,(7777777::is)::l=>(ads P N H ops dr l).map fun r=>(.frz is r.1,r.2)
 |true,ks::ps::l=>(Y8 P N H ops ops.toList).map fun q=>(.dops ks q (prs ps),l)
 |false,ks::l=>(Y8 P N H ops ops.toList).map fun q=>(.ops ks q,l)
 |_,_=>none
def nL:Code->Nat
 | .seq a b=>nL a+nL b
 | .cond _ a b=>nL a+nL b
 | .block _ a=>nL a
 | .loop a=>nL a+1
 |_=>0
abbrev GS:=dm×List (Nat×Cmd)
noncomputable def gC (P:Program) (N:Nat) (H:List (Nat×Nat)) (L:List Cmd):Nat->Code->GS->Option (Cmd×GS)
 |_,.skip,s=>some (.skip,s)
 |_,.ret,s=>some (.ret,s)
 |_,.exit i,s=>some (.exit i,s)
 |_,.refuse _,s=>some (.ops [] [⟨none,none,.bad⟩],s)
 |_,.region _ ops dr,s=>(ads P N H ops dr s.1).map fun r=>(r.1,r.2,s.2)
 |n,.seq a b,s=>(gC P N H L (n+nL b) a s).bind fun r=>(gC P N H L n b r.2).map fun q=>(.seq r.1 q.1,q.2)
 |n,.cond x a b,s=>(bG x).bind fun x=>(gC P N H L n a s).bind fun r=>(gC P N H L (n+nL a) b r.2).map fun q=>(.cond x r.1 q.1,q.2)
 |n,.block i a,(ks::l,bs)=>(gC P N H L n a (l,bs)).map fun r=>(.block i ks r.1,r.2)
 |n,.loop a,(ks::hs::l,bs)=>(gC P N H L n a (l,bs)).map fun r=>(.loop ks hs (L.getD (n+nL a) .skip),r.2.1,(n+nL a+1,r.1)::r.2.2)
 |_,_,_=>none
noncomputable def gK (P:Program) (H:List (Nat×Nat)) (f:Func) (l:dm) (k:Nat) (L:List Cmd):Cmd:=
 ((f.body.bind fun c=>gC P f.ntmps H L 0 c (l,[])).bind fun r=>((0,r.1)::r.2.2).lookup k).getD .skip
section
variable (d k n a b f:Nat) (op:POp) (x y:Opd) (l:List Opd) (w:Bool) (o:BinOp) (z:List AV)
theorem ajV:(⟨some d,none,.p op⟩:COp)=co d op:=rfl
theorem ajW:co d (.mv (.t n))=cm d n:=rfl
theorem ajX:co d (.bin o (.t a) (.t b))=b2 d o a b:=rfl
theorem ajY:co d (.fadr k (.t a))=fa d k a:=rfl
theorem ajZ:co d (.nilck (.t a))=nk d a:=rfl
theorem aj0:(⟨some d,some (n,w),.p op⟩:COp)=cg d n w op:=rfl
theorem aj1:(⟨some d,none,.load k false (.t a)⟩:COp)=ld d k a:=rfl
theorem aj2:(⟨some d,none,.load k true (.t a)⟩:COp)=la d k a:=rfl
theorem aj3:(⟨some d,none,.call (.c (.fn f [] [])) l⟩:COp)=ca d f l:=rfl
theorem aj4:(⟨none,none,.store k x y⟩:COp)=sr k x y:=rfl
theorem aj5:(⟨some d,none,.alloc z⟩:COp)=al d z:=rfl
theorem aj6:(⟨some d,none,.box k x⟩:COp)=bx d k x:=rfl
end
noncomputable def au {α:Type} (b:α) {a:α} (_:a=b:=by conv=>rhs;reduce;(try simp only[Int.reduceOfNat,Int.reduceNegSucc,ajV,ajW,ajX,ajY,ajZ,aj0,aj1,aj2,aj3,aj4,aj5,aj6])):α:=a
@[go_sem] theorem apn{α:Type}(b:α){a:α}(h:a=b):@au α b a h=a:=_root_.id rfl
end
end Go.Ab
