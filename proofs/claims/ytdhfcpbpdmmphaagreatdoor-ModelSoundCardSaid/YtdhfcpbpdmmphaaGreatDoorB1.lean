/-
  A law of models holds at every input that the statement speaks of, under the conditions that its card names. Part B1.
-/
import Derived.Test.YtdhfcpbpdmmphaaGreatDoorA1
open Nat renaming le_refl → ayd, lt_of_lt_of_le → ay8, zero_add → ayc, zero_le → ayB
open Bool renaming and_eq_true → ayf, and_self → ayK, false_eq_true → aza, not_eq_true' → azf, true_and → ayg
open List renaming all_cons → ayJ, all_eq_true → ayx, append_assoc → ayX, append_nil → ayp, cons_append → ayW, getElem_mem → ayC, length_cons → ayL, length_drop → azd, length_nil → ayR, length_take → ayo, map_congr_left → ayM, map_cons → ays, map_id' → ayY, map_nil → ayu, mem_append → aDh, mem_map → ay2, nil_append → ayq, replicate → aya, take_length → aEf
open Option renaming bind_eq_some_iff → ayb, bind_some → ayi, map_eq_some_iff → aye, map_some → ayT
set_option linter.all false
namespace Go.Ab
open Go
def exo:Ex->Exit
 | .normal=>.normal
 | .exit id=>.exit id
 | .ret=>.ret
def R1(P:Program)(I:Inv)(call:iG)(md:Mode)(N:Nat):Prop:=
 ∀ {id} {ops} {hs cl} {w} {X} {ρ} {h} {s} {a} {t} {ps} {Q},sx P N ops hs ops.toList=some cl->UT ops.toList cl ps=true->Ok I N w X ρ h s a->rF call md cl ps s h=some t->
  (∀a' w' ρ',Ok I N w' X ρ' t.h t.s a'->Far md.nm w ρ h w' ρ' t.h->Q .normal a' w')->(Code.region id ops true).wp P Q a w
section
variable {P:Program} {X:Nat→Prop} {call:iG} {md:Mode} {N:Nat} {I:Inv} {nm:Bool}
theorem Jm(s:ak)(ks)(i):mk .any s ks i=s i\/mk .any s ks i=.any:=by
 grind[K0]
theorem abC(hs)(a):(gD hs a=a/\knownA hs a=true)\/gD hs a=.any:=by
 grind[gD]
theorem adI{w}{ρ}{h}{s}{a}(ok:Ok I N w X ρ h s a){ks hs}(hcl:(hs.all fun a=>aD hs (h a))=true):
  Ok I N w X ρ (mk .dead h hs) (mk .any (fun i=>gD hs (s i)) ks) a/\Far nm w ρ h w ρ (mk .dead h hs):=by
 obtain⟨h1,h2,h3⟩:=UZ nm ok.rel (hs:=hs) (fun id hi=>List.all_eq_true.1 hcl id hi);refine⟨⟨h1,fun i=>?_,ok.size,ok.defers,ok.inv⟩,h2⟩;rcases Jm (fun i=>gD hs (s i)) ks i with e|e
 ·rw[e];rcases abC hs (s i)with⟨e2,e3⟩|e2
  ·rw[e2];exact h3 (ok.rs i) e3
  ·rw[e2];exact .anyv _
 ·rw[e];exact .anyv _
def R2(P:Program)(I:Inv)(nm:Bool)(X:Nat->Prop)(N:Nat)(f:ak->ac->Option (Ex×St))(c:Code):Prop:=
 ∀ {s} {h} {e} {t} {w} {ρ} {a} {Q},f s h=some (e,t)->Ok I N w X ρ h s a->(∀a' w' ρ',Ok I N w' X ρ' t.h t.s a'->Far nm w ρ h w' ρ' t.h->Q (exo e) a' w')->c.wp P Q a w
theorem Oj{body}{c}(hb:R2 P I nm X N body c){ks hs}:∀n {s} {h} {e} {t} {w} {ρ} {a} {Q},
  tF body ks hs n s h=some (e,t)->Ok I N w X ρ h s a->(∀a' w' ρ',Ok I N w' X ρ' t.h t.s a'->Far nm w ρ h w' ρ' t.h->Q (exo e) a' w')->Code.rounds P c Q n a w
 |0,s,h,e,t,w,ρ,a,Q,hz,_,_=>by grind[tF]
 |n+1,s,h,e,t,w,ρ,a,Q,hz,ok,hQ=>by
  simp only[tF]at hz;split at hz
  ·rename_i hcl;obtain⟨ok1,far1⟩:=adI ok (ks:=ks) hcl;split at hz
   ·rename_i t1 ht1;exact hb ht1 ok1 fun a' w' ρ' ok2 far2=>Oj hb n hz ok2 fun a'' w'' ρ'' ok3 far3=>hQ _ _ ρ'' ok3 (far1.trans (far2.trans far3))
   ·rename_i r hne;refine hb hz ok1 fun a' w' ρ' ok2 far2=>?_;have:=hQ a' w' ρ' ok2 (far1.trans far2);cases e with
    |normal=>exact absurd hz (hne t)
    |exit id=>exact this
    |ret=>exact this
  ·cases hz
theorem abD{i}{w}{ρ}{h}{s}{a}{r}(ok:Ok I N w X ρ h s a)(hz:PZ i s h (s i)=some r)(hnm:rC nm r.2.2=true):
  Ok I N w X ρ r.2.1 r.1 a/\Far nm w ρ h w ρ r.2.1:=by
 have hv:=ok.rs i;cases hi:s i<;>rw[hi]at hz hv<;>simp only[PZ]at hz<;>try (cases hz;done)
 case sl=>cases hz;exact⟨ok,.refl _ _ _ _⟩
 case rsl id sub k lo n=>
  simp only[aye]at hz;obtain⟨q,e1,rfl⟩:=hz;obtain⟨x,h',ks⟩:=q;have h1:(a.tmps.getD i undef).oneCell'=true:=by
   obtain⟨_,_,e,_⟩:=hv.rsl_inv;rw[e];rfl
  obtain⟨g1,g2,g3,g4⟩:=y9 ok.rel hv (fun b hb=>hb) h1 e1;refine⟨⟨g1,fun j=>?_,ok.size,ok.defers,g2.inv ok.rel ok.inv⟩,g2.far hnm⟩;show RV w (aI w X h' ρ) ρ h' (upd (ke ks s) i x j) _;rw[cV];split
  ·rename_i hj;subst hj;exact .dat g3
  ·exact g2.rs ok.rs j
 case ref id sub k j l=>
  cases sub with
  |some p=>grind
  |none=>
   simp only at hz;cases ho:h id<;>rw[ho]at hz<;>simp only at hz<;>try (cases hz;done)
   cases hz;rename_i cs;obtain⟨g1,g2⟩:=Jh (ds:=cs.map lH) ok.rel ho σ fun p c hc=>by
    grind[bt,Zf]
   exact⟨⟨g1,g2.rs ok.rs,ok.size,ok.defers,g2.inv ok.rel ok.inv⟩,g2.far hnm⟩
theorem Ym{w}{ρ}{h}{s}{a}(ok:Ok I N w X ρ h s a)(x):Ok I N w X ρ (Hj h x) s a/\Far nm w ρ h w ρ (Hj h x):=by
 have id':Ok I N w X ρ h s a/\Far nm w ρ h w ρ h:=⟨ok,.refl _ _ _ _⟩;unfold Hj;split
 ·rename_i id k' lo n;split
  ·rename_i k rows e;obtain⟨s1,s2⟩:=adB (m:=lo+n) ok.rel e;exact⟨⟨s1,s2.rs ok.rs,ok.size,ok.defers,s2.inv ok.rel ok.inv⟩,s2.far (pP _)⟩
  omega
 omega
theorem L6{g}{w}{ρ}{h}{s}{a}{t}(ok:Ok I N w X ρ h s a)(hz:tO nm g s h=some t):∃ρ',Ok I N w X ρ' t.h t.s a/\Far nm w ρ h w ρ' t.h:=by
 cases g with
 |zero=>
  cases hz;exact⟨ρ,ok,.refl _ _ _ _⟩
 |succ i=>
  simp only[tO,ayb]at hz;obtain⟨r,e1,e2⟩:=hz;split at e2
  ·rename_i hnm;cases e2;have hv:=ok.rs i;cases hi:s i<;>rw[hi]at e1 hv<;>simp only[RP]at e1<;>try (cases e1;done)
   ·cases e1;exact⟨ρ,ok,.refl _ _ _ _⟩
   ·rename_i id sub k lo n;cases sub with
    |none=>grind
    |some p=>
    simp only at e1;split at e1
    ·rename_i hps;cases eo:h id<;>rw[eo]at e1<;>simp only[Zd]at e1<;>try (cases e1;done)
     rename_i cs;cases ec:cs[p]? with
     |none=>grind[N7]
     |some c=>
      rw[ec]at e1;cases c<;>simp only[N7]at e1<;>try (cases e1;done)
      split at e1
      ·rename_i hc;obtain⟨rfl,rfl,rfl,hd⟩:=hc;have hd':h i=.dead:=by cases hh:h i<;>rw[hh]at hd<;>first|rfl|cases hd
       cases e1;obtain⟨m1,m2⟩:=abr ok.rel eo ec hps hd';obtain⟨ad,cap,e4,q2,q3,q4,q5⟩:=hv.rsl_inv;refine⟨_,⟨m1,fun j=>?_,ok.size,ok.defers,m2.inv ok.rel ok.inv⟩,m2.far hnm⟩;show RV w _ _ _ (upd (ke [(id,true)] s) i _ j) _;rw[cV];split
       ·rename_i hj;subst hj;rw[e4];refine .rsl _ none _ 0 _ cap ad (by simp[cw,aA]) q3 (by grind[bJ]) ?_;grind[bJ]
       ·exact m2.rs ok.rs j
      grind
    grind
  grind
theorem abE{i}{w}{ρ}{h}{s}{a}{r}(ok:Ok I N w X ρ h s a)(hz:P0 i s h (s i)=some r)(hnm:rC nm r.2.2=true):
  ∃ρ',Ok I N w X ρ' r.2.1 r.1 a/\Far nm w ρ h w ρ' r.2.1:=by
 have hv:=ok.rs i;have key:∀ {id k lo n},(∃ad cap,a.tmps.getD i undef=.slice ad n cap/\n<=cap/\(lo+cap)*k=(ρ id none).2/\(cap=0\/ad=some ⟨(ρ id none).1,lo*k,none⟩))->Jc i s h id k lo n (h id)=some r->
   ∃ρ',Ok I N w X ρ' r.2.1 r.1 a/\Far nm w ρ h w ρ' r.2.1:=by
  intro id k lo n ⟨ad,cap,e4,q3,q4,q5⟩ e1;cases eo:h id<;>rw[eo]at e1<;>simp only[Jc]at e1<;>try (cases e1;done)
  split at e1
  ·rename_i hc;obtain⟨rfl,rfl,hps,hd⟩:=hc;have hd':h i=.dead:=by cases hh:h i<;>rw[hh]at hd<;>first|rfl|cases hd
   cases e1;obtain⟨m1,m2⟩:=al1 ok.rel eo hps hd';refine⟨_,⟨m1,fun j=>?_,ok.size,ok.defers,m2.inv ok.rel ok.inv⟩,m2.far hnm⟩;show RV w _ _ _ (upd (ke [(id,false)] s) i _ j) _;rw[cV];split
   ·rename_i hj;subst hj;rw[e4];refine .rsl _ none _ 0 _ cap ad (by simp[cw,aA]) q3 (by grind[bJ]) ?_;grind[bJ]
   ·exact m2.rs ok.rs j
  grind
 cases hi:s i<;>rw[hi]at hz hv<;>simp only[P0]at hz<;>try (cases hz;done)
 ·cases hz;exact⟨ρ,ok,.refl _ _ _ _⟩
 ·rename_i id sub k lo n;cases sub with
  |some p=>grind
  |none=>
  obtain⟨ad,cap,e4,q2,q3,q4,q5⟩:=hv.rsl_inv;exact key ⟨ad,cap,e4,q3,q4,q5⟩ hz
 ·rename_i id k lo n c;obtain⟨ad,e4,q2,q3,q4,q5⟩:=hv.rsc_inv;exact key ⟨ad,c,e4,q3,q4,q5⟩ hz
theorem C4:∀is {w} {ρ} {h} {s} {a} {t},Ok I N w X ρ h s a->Az nm is s h=some t->∃ρ',Ok I N w X ρ' t.h t.s a/\Far nm w ρ h w ρ' t.h
 |[],w,ρ,h,s,a,t,ok,hz=>by cases hz;exact⟨ρ,ok,.refl _ _ _ _⟩
 |i::l,w,ρ,h,s,a,t,ok,hz=>by
  unfold Az at hz;split at hz
  ·simp only[ayb]at hz;obtain⟨r,e1,e2⟩:=hz;split at e2
   ·rename_i hn;obtain⟨ρ1,g1,g2⟩:=abE ok e1 hn;obtain⟨ρ2,f1,f2⟩:=C4 l g1 e2;exact⟨ρ2,f1,g2.trans f2⟩
   grind
  ·split at hz
   ·obtain⟨g1,g2⟩:=Ym (nm:=nm) ok (s (i-100000));obtain⟨ρ2,f1,f2⟩:=C4 l g1 hz;exact⟨ρ2,f1,g2.trans f2⟩
   ·simp only[ayb]at hz;obtain⟨r,e1,e2⟩:=hz;split at e2
    ·rename_i hn;obtain⟨g1,g2⟩:=abD ok e1 hn;obtain⟨ρ2,f1,f2⟩:=C4 l g1 e2;exact⟨ρ2,f1,g2.trans f2⟩
    grind
theorem abF(hcall:mH P I call md)(hN:N<=1000)(hD:R1 P I call md N)(lf):∀cmd c,i8 P N c cmd=some cmd->R2 P I md.nm X N (cX call md lf cmd) c:=by
 intro cmd;induction cmd with
 |skip=>
  intro c hc s h e t w ρ a Q hz ok hQ;cases c<;> (try simp only[i8]at hc)<;> (try (cases hc;done))
  ·obtain⟨rfl,rfl⟩:=hz;exact wp_skip (hQ _ _ ρ ok (.refl _ _ _ _))
  all_goals (exfalso;revert hc;simp[ayb])
 |ops ks l=>
  intro c hc s h e t w ρ a Q hz ok hQ;by_cases hrf:∃m,c=.refuse m
  ·have hl:l=[⟨none,none,.bad⟩]:=by
    unfold i8 at hc;grind
   simp_all[cX,aG,mj,dA,step,bq]
  cases c<;> (try (exact absurd ⟨_,rfl⟩ hrf))<;> (try simp only[i8]at hc)<;> (try (cases hc;done));rename_i id ops dr;cases dr<;> (try simp only[i8]at hc)<;> (try (cases hc;done));simp only[aye]at hc;obtain⟨l',h1,h2⟩:=hc;cases h2;simp only[cX,bq]at hz;split at hz
  ·grind
  ·rename_i t1 ht1;obtain⟨rfl,rfl⟩:=hz;refine wp_region ?_;rw[List.range_eq_range',show ops.size=ops.toList.length from Array.length_toList.symm];exact RZ hcall hN ops.toList l 0 (fun j o hj=>by grind) h1 ok ht1 fun a' w' ρ' ok' far=>hQ _ _ ρ' (ok'.some (Jm _ _)) far
 |dops ks l ps=>
  intro c hc s h e t w ρ a Q hz ok hQ;cases c<;> (try simp only[i8]at hc)<;> (try (cases hc;done));rename_i id ops dr;cases dr<;> (try simp only[i8]at hc)<;> (try (cases hc;done));simp only[ayb]at hc;obtain⟨l',h1,h2⟩:=hc;split at h2
  ·rename_i hps;cases h2;simp only[cX,bq]at hz;split at hz
   ·grind
   ·rename_i t1 ht1;obtain⟨rfl,rfl⟩:=hz;exact hD h1 hps ok ht1 fun a' w' ρ' ok' far=>hQ _ _ ρ' (ok'.some (Jm _ _)) far
  grind
 |seq x y ihx ihy=>
  intro c hc s h e t w ρ a Q hz ok hQ;cases c<;> (try simp only[i8]at hc)<;> (try (cases hc;done));simp only[ayb,aye]at hc;obtain⟨c1,h1,c2,h2,h3⟩:=hc;cases h3;simp only[cX,cu]at hz;refine wp_seq ?_;split at hz
  ·grind
  ·rename_i t1 ht1;exact ihx _ h1 ht1 ok fun a' w' ρ' ok1 far1=>ihy _ h2 hz ok1 fun a'' w'' ρ'' ok2 far2=>hQ _ _ ρ'' ok2 (far1.trans far2)
  ·rename_i i t1 ht1;cases hz;exact ihx _ h1 ht1 ok fun a' w' ρ' ok1 far1=>hQ a' w' ρ' ok1 far1
  ·rename_i t1 ht1;cases hz;exact ihx _ h1 ht1 ok fun a' w' ρ' ok1 far1=>hQ a' w' ρ' ok1 far1
 |cond b x y ihx ihy=>
  intro c hc s h e t w ρ a Q hz ok hQ;cases c<;> (try simp only[i8]at hc)<;> (try (cases hc;done));simp only[ayb,aye]at hc;obtain⟨b',h0,c1,h1,c2,h2,h3⟩:=hc;cases h3;simp only[cX]at hz;have hv:=be h0 ok.rs;unfold xB at hz;split at hz
  ·rename_i tt htt;rw[htt]at hv;refine wp_cond hv.v_inv.1 ?_;cases tt with
   |true=>exact ihx _ h1 hz ok hQ
   |false=>exact ihy _ h2 hz ok hQ
  grind
 |block id ks x ih=>
  intro c hc s h e t w ρ a Q hz ok hQ;cases c<;> (try simp only[i8]at hc)<;> (try (cases hc;done));simp only[aye]at hc;obtain⟨c1,h1,h3⟩:=hc;cases h3;simp only[cX]at hz;refine wp_block ?_;unfold ai at hz;split at hz
  ·grind
  ·rename_i t1 ht1;cases hz;exact ih _ h1 ht1 ok fun a' w' ρ' ok1 far1=>hQ a' w' ρ' (ok1.some (Jm _ _)) far1
  ·rename_i i t1 ht1;refine ih _ h1 ht1 ok fun a' w' ρ' ok1 far1=>?_;split at hz
   ·rename_i hi;cases hz;have:=hQ a' w' ρ' (ok1.some (Jm _ _)) far1;grind[exo,Exit.inBlock]
   grind[exo,Exit.inBlock]
  ·rename_i t1 ht1;cases hz;exact ih _ h1 ht1 ok fun a' w' ρ' ok1 far1=>hQ a' w' ρ' ok1 far1
 |loop ks hs x ih=>
  intro c hc s h e t w ρ a Q hz ok hQ;cases c<;> (try simp only[i8]at hc)<;> (try (cases hc;done));simp only[aye]at hc;obtain⟨c1,h1,h3⟩:=hc;cases h3;exact wp_loop_rounds lf (Oj (ih _ h1) lf hz ok hQ)
 |exit id=>
  intro c hc s h e t w ρ a Q hz ok hQ;cases c<;> (try simp only[i8]at hc)<;> (try (cases hc;done));cases hc;obtain⟨rfl,rfl⟩:=hz;exact wp_exit (hQ _ _ ρ ok (.refl _ _ _ _))
 |ret=>
  intro c hc s h e t w ρ a Q hz ok hQ;cases c<;> (try simp only[i8]at hc)<;> (try (cases hc;done));obtain⟨rfl,rfl⟩:=hz;exact wp_ret (hQ _ _ ρ ok (.refl _ _ _ _))
 |frz is x ih=>
  intro c hc s h e t w ρ a Q hz ok hQ;have hc':(i8 P N c x).map (Cmd.frz is)=some (.frz is x):=by
   grind[i8]
  simp only[aye]at hc';obtain⟨c1,h1,h3⟩:=hc';cases h3;simp only[cX,bq]at hz;split at hz
  ·grind
  ·rename_i t1 ht1;obtain⟨ρ1,ok1,far1⟩:=C4 is ok ht1;exact ih _ h1 hz ok1 fun a' w' ρ' ok2 far2=>hQ a' w' ρ' ok2 (far1.trans far2)
end
def qh(P:Program)(I:Inv)(kp:Bool)(f:FuncId)(g:List AV->List Ob->Option (AV×List Ob)):Prop:=
 ∀ {args} {obs obs'} {res} {w} {X} {ρ} {vals} {n},g args obs=some (res,obs')->2000<=n->I.p w X->Rel w X ρ (aq obs)->vals.size=args.length->
  (∀ (i:Nat) c u,args[i]?=some c->vals[i]?=some u->RV w (aI w X (aq obs) ρ) ρ (aq obs) c u)->
  Enters P f vals w fun v w'=>∃ρ',Rel w' X ρ' (mat n (aq obs') res).2/\Far kp w ρ (aq obs) w' ρ' (mat n (aq obs') res).2/\RV w' (aI w' X (mat n (aq obs') res).2 ρ') ρ' (mat n (aq obs') res).2 (mat n (aq obs') res).1 v
def BX(tmps:Array Value):ResultVar->Sem Value
 | .tmp t=>pure (tmps.getD t Go.undef)
 | .cell c t=>do loadVar t (←asAddr (tmps.getD c Go.undef))
section
variable {P:Program} {w w':World} {X:Nat→Prop} {ρ ρ':ey} {h h':ac} {s:ak} {a:Act} {call:iG} {md:Mode} {N:Nat}
theorem L7:∀rs l {h h'} {s} {vs} {ks},Hn P rs=some l->Rel w X ρ h->RS w (aI w X h ρ) ρ h s a.tmps->BB s h l=some (vs,h',ks)->
  ∃us,(rs.mapM (BX a.tmps)).run P w=.ok us w/\us.length=vs.length/\Rel w X ρ h'/\Evo w ρ h w ρ h' ks/\
   ∀ (i:Nat) c u,vs[i]?=some c->us[i]?=some u->RV w (aI w X h' ρ) ρ h' c u
 |[],l,h,h',s,vs,ks,hc,r,hs,hz=>by
  simp only[Hn,Option.some.injEq]at hc;subst hc;obtain⟨rfl,rfl,rfl⟩:=hz;exact⟨[],rfl,rfl,r,.refl _ _ _,fun i c u hc=>by grind⟩
 |x::rs,l,h,h',s,vs,ks,hc,r,hs,hz=>by
  have step1:∃rv l',l=rv::l'/\Hn P rs=some l'/\∀ {z} {h1} {k1},alS s h rv=some (z,h1,k1)->∃v,(BX a.tmps x).run P w=.ok v w/\
    Rel w X ρ h1/\Evo w ρ h w ρ h1 k1/\RV w (aI w X h1 ρ) ρ h1 z v:=by
   cases x with
   |tmp t=>
    simp only[Hn,aye]at hc;obtain⟨l',h1,rfl⟩:=hc;refine⟨_,l',rfl,h1,fun{z h1 k1} e=>?_⟩;obtain⟨rfl,rfl,rfl⟩:=e;exact⟨_,rfl,r,.refl _ _ _,hs t⟩
   |cell c t=>
    simp only[Hn,ayb]at hc;obtain⟨g,g1,k,g2,hc⟩:=hc;split at hc
    ·simp only[aye]at hc;obtain⟨l',h1,rfl⟩:=hc;refine⟨_,l',rfl,h1,fun{z h1 k1} e=>?_⟩;obtain⟨ad,v,q1,q2,q3,q4,q5⟩:=LZ (P:=P) r g1 g2 (hs c) e;refine⟨v,?_,q3,q4,q5⟩;simp only[BX];rw[q1];exact q2
    grind
  obtain⟨rv,l',rfl,hc',key⟩:=step1;simp only[BB,ayb]at hz;obtain⟨⟨z,h1,k1⟩,e1,⟨vs',h2,k2⟩,e2,e3⟩:=hz;cases e3;obtain⟨v,f1,f2,f3,f4⟩:=key e1;obtain⟨us,g1,g2,g3,g4,g5⟩:=L7 rs l' hc' f2 (f3.rs hs) e2;refine⟨v::us,by simp_all,by grind,g3,f3.trans g4,fun i c u hc hu=>?_⟩;cases i with
  |zero=>
   simp only[List.getElem?_cons_zero,Option.some.injEq]at hc hu;subst hc hu;cases k2 with
   |nil=>exact g4.rv f4
   |cons p k2=>
    simp only[UP,tN];split
    ·exact .anyv _
    ·exact g4.rvk f4 (.inr γ)
  |succ i=>grind
end
structure Emb (L:List Nat) (f g:Nat->Nat) (h' h2:ac):Prop where
 back:∀id,L.contains id=true->g (f id)=id/\h2 (f id)=dS f (h' id)
 obj:∀i,h2 i≠ .dead->h2 i=dS f (h' (g i))/\aD L (h' (g i))=true
 inj:∀i j,h2 i≠ .dead->h2 j≠ .dead->g i=g j->i=j
section
variable {w:World} {X:Nat→Prop} {ρ:ey} {h' h2:ac} {A A2:Nat→Prop} {L:List Nat} {f g:Nat→Nat}
theorem Jn{o}:dS f o=.dead↔o=.dead:=by cases o<;>simp[dS]
theorem Zh(o):bf (dS f o)=bf o:=by cases o<;>rfl
theorem agO{c}{k}{rows}:dV f c=.osl k rows↔c=.osl k rows:=by cases c<;>simp[dV,kg]
theorem adJ(c):bt (dV f c)=bt c:=by cases c<;>rfl
theorem RV.embL(em:Emb L f g h' h2){c}{u}(hv:RV w A ρ h' c u)(hA:∀b,A b->A2 b)(hm:bo L c=true):RV w A2 (fun i s=>ρ (g i) s) h2 (kg f c) u:=by
 cases hv with
 |anyv u=>exact .anyv u
 |und=>exact .und
 |dat hd=>
  have:kg f c=c:=by cases hd<;>rfl
  rw[this];exact .dat (hd.mono fun b hb=>⟨hA b hb,rfl⟩)
 |ref id sub k i j hp=>
  simp only[bo,ayf]at hm;obtain⟨h1,h3⟩:=em.back id hm.1;cases sub with
  |some p=>grind
  |none=>
   have:=RV.ref (w:=w) (A:=A2) (ρ:=fun i s=>ρ (g i) s) (h:=h2) (f id) none k i j (by simp only[cw,h3,ne_eq,Jn];exact hp);simp only[h1]at this;exact this
 |rsl id sub k lo n cap a hp hn hb ha=>
  simp only[bo,ayf]at hm;obtain⟨h1,h3⟩:=em.back id hm.1;cases sub with
  |some p=>grind
  |none=>exact .rsl (f id) none k lo n cap a (by simp only[cw,h3,ne_eq,Jn];exact hp) hn γ γ
 |rsc id k lo n cap a hp hn hb ha=>simp[bo]at hm
 |ipt cs ad vals hA' hs hv hl hr=>exact .ipt cs ad vals (hA _ hA') hs hv hl (fun j c hc=>(hr j c hc).mono fun b hb=>⟨hA b hb,rfl⟩)
 |agg cs us hs h1 hr=>simp[bo]at hm
 |tup vs us hs hr=>simp[bo]at hm
 |fn ff x y us ts hs ht hx hy=>
  simp[bo]at hm;obtain⟨rfl,rfl⟩:=hm;exact .fn ff [] [] us ts hs ht (fun i c u hc=>by grind) (fun i c u hc=>by grind)
theorem RV.embA(em:Emb L f g h' h2){c}{u}(hv:RV w A ρ h' c u)(hA:∀b,A b->A2 b)(hm:bg L c=true):RV w A2 (fun i s=>ρ (g i) s) h2 (dV f c) u:=by
 cases c with
 |agg cs=>
  simp only[bg,ayx]at hm;obtain⟨us,rfl,hs,h1,hr⟩:=hv.agg_inv;refine .agg _ us γ h1 fun i c u hc hu=>?_;simp only[List.getElem?_map,aye]at hc;obtain⟨c',hc',rfl⟩:=hc;exact(hr i c' u hc' hu).embL em hA (hm c' (List.mem_of_getElem? hc'))
 |fn ff x y=>
  simp only[bg,ayf,ayx]at hm;obtain⟨us,ts,rfl,hs,ht,hx,hy⟩:=hv.fn_inv;refine .fn ff _ _ us ts γ γ (fun i c u hc hu=>?_) (fun i c u hc hu=>?_)
  ·simp only[List.getElem?_map,aye]at hc;obtain⟨c',hc',rfl⟩:=hc;exact(hx i c' u hc' hu).embL em hA (hm.1 c' (List.mem_of_getElem? hc'))
  ·simp only[List.getElem?_map,aye]at hc;obtain⟨c',hc',rfl⟩:=hc;exact(hy i c' u hc' hu).embL em hA (hm.2 c' (List.mem_of_getElem? hc'))
 |_=>
  exact hv.embL em hA hm
theorem Emb.live(em:Emb L f g h' h2){i}{s}(hl:live h2 i s):live h' (g i) s/\h2 i≠ .dead:=by
 have hd:h2 i≠ .dead:=ado hl|>fun hp=>by
  cases s with
  |none=>exact hp
  |some p=>obtain⟨_,_,_,e,_⟩:=hp;grind
 obtain⟨e,_⟩:=em.obj i hd;refine⟨?_,hd⟩;cases s with
 |none=>
  simp only[Ab.live,e]at hl;simp only[Ab.live];cases e2:h' (g i)<;>rw[e2]at hl<;>simp[dS]at hl⊢
 |some p=>
  obtain⟨cs,k,rows,e1,e2⟩:=hl;rw[e]at e1;cases e3:h' (g i)<;>rw[e3]at e1<;>simp only[dS]at e1<;>try (cases e1;done)
  rename_i cs';cases e1;simp only[List.getElem?_map,aye]at e2;obtain⟨c,e4,e5⟩:=e2;exact⟨cs',k,rows,e3,by rw[e4,agO.1 e5]⟩
theorem Rel.emb(em:Emb L f g h' h2)(r:Rel w X ρ h'){X2}(hX:∀b,XZ X2 b->b<w.heap.size)(hnx:∀i s,live h2 i s->¬XZ X2 (ρ (g i) s).1)(hA:∀b,aI w X h' ρ b->aI w X2 h2 (fun i s=>ρ (g i) s) b):
  Rel w X2 (fun i s=>ρ (g i) s) h2:=by
 refine⟨fun i s j t h1 h3 h4=>?_,hnx,fun i=>?_,hX⟩
 ·obtain⟨f1,f2⟩:=em.live h1;obtain⟨f3,f4⟩:=em.live h3;obtain⟨e1,e2⟩:=r.inj (g i) s (g j) t f1 f3 h4;exact⟨em.inj i j f2 f4 e1,e2⟩
 ·by_cases hd:h2 i=.dead
  ·rw[hd];trivial
  ·obtain⟨e,hc⟩:=em.obj i hd;have ho:=r.ob (g i);rw[e];cases e2:h' (g i)with
   |dead=>trivial
   |bx cs=>
    rw[e2]at ho hc;obtain⟨us,t,h1,h3,h4,h5⟩:=ho;refine⟨us,t,h1,h3,by grind,fun p c hp=>?_⟩;simp only[List.getElem?_map,aye]at hp;obtain⟨c',hp',rfl⟩:=hp;obtain⟨u,h6,h7⟩:=h5 p c' hp';refine⟨u,h6,?_⟩;simp only[aD,ayx]at hc;have hcc:=hc c' (List.mem_of_getElem? hp');cases hO:bt c' with
    |true=>
     cases c'<;>simp[bt]at hO;obtain⟨a,cap,us',t',g1,g2,g3,g4,g5,g6,g7⟩:=h7;exact⟨a,cap,us',t',g1,g2,g3,g4,g5,g6,g7.mono fun b hb=>⟨hA b hb,rfl⟩⟩
    |false=>
     have hca:=by simpa [jG,hO]using hcc
     rw[uA hO]at h7;rw[uA (by rw[adJ];omega)];refine⟨h7.1.embA em hA hca,h7.2.1,?_⟩;have h8:=h7.2.2;cases c'<;>first|exact h8.elim|trivial|skip
     ·rename_i id sub _ _ _;cases sub with
      |some p=>exact h8.elim
      |none=>
       simp only[bg,bo,ayf]at hca;obtain⟨_,e3⟩:=em.back id hca.1;simp only[dV,kg,m9]at h8⊢;rw[e3,Zh];omega
     ·simp only[m9,ayf,ayx]at h8;simp only[dV,m9,ayf,ayx,ay2];have key:∀c,aE c=true->aE (kg f c)=true:=fun c hd=>by cases c<;>simp[aE,kg]at hd⊢ <;>exact hd
      grind
   |ar k rows=>
    rw[e2]at ho;obtain⟨us,t,h1,h3,h4,h5⟩:=ho;exact⟨us,t,h1,h3,h4,h5.mono fun b hb=>⟨hA b hb,rfl⟩⟩
   |fz k rows=>
    rw[e2]at ho;obtain⟨h0,us,t,fr,h1,h3,h4,h5⟩:=ho;exact⟨hA _ h0,us,t,fr,h1,h3,h4,h5.mono fun b hb=>⟨hA b hb,rfl⟩⟩
end
theorem ajw(c):kg (fun i=>i) c=c:=by cases c<;>rfl
theorem U0{α:Type}{f}(hf:∀a,f a=a)(l:List α):l.map f=l:=by
 rw[show f=id from funext hf,List.map_id]
theorem ajx(c):dV (fun i=>i) c=c:=by
 cases c<;>simp[dV,kg,U0 ajw]
theorem P3(o):dS (fun i=>i) o=o:=by
 cases o<;>simp[dS,U0 ajx]
section
variable {L:List Nat} {g:Nat→Nat} {h' h2:ac}
theorem Emb.add(em:Emb L (fun i=>i) g h' h2){m id}(hm:h2 m=.dead)(hL:L.contains m=false)(hid:∀i,h2 i≠ .dead->g i≠id)(hcl:aD L (h' id)=true):Emb L (fun i=>i) (upd g m id) h' (upd h2 m (h' id)):=by
 refine⟨fun i hi=>?_,fun i hi=>?_,fun i j hi hj hg=>?_⟩
 ·have hne:i≠m:=γ
  rw[aM _ _ hne,aM _ _ hne];exact em.back i hi
 ·by_cases e:i=m
  ·subst e;rw[aA,aA,P3];grind
  ·rw[aM _ _ e]at hi⊢;rw[aM _ _ e];exact em.obj i hi
 ·by_cases e:i=m<;>by_cases e':j=m
  ·rw[e,e']
  ·subst e;rw[aA,aM _ _ e']at hg;rw[aM _ _ e']at hj;grind
  ·subst e';rw[aA,aM _ _ e]at hg;rw[aM _ _ e]at hi;grind
  ·rw[aM _ _ e]at hi;rw[aM _ _ e']at hj;rw[aM _ _ e,aM _ _ e']at hg;exact em.inj i j hi hj hg
theorem AC{n i}:(de n).contains i=true↔1000<=i/\i<1000+n:=by
 grind[de,List.mem_range']
theorem tq(h':ac)(n i):aq ((de n).map h') i=if 1000<=i/\i<1000+n then h' i else .dead:=by
 unfold aq;by_cases h1:1000<=i
 ·rw[if_pos h1];by_cases h2:i<1000+n
  ·have:(de n)[i-1000]?=some i:=by
    unfold de;grind
   grind
  ·rw[if_neg ω,List.getElem?_map,List.getElem?_eq_none (by grind[de])];rfl
 grind
theorem Emb.base{n}(hcl:((de n).all fun i=>aD (de n) (h' i))=true):Emb (de n) (fun i=>i) (fun i=>i) h' (aq ((de n).map h')):=by
 refine⟨fun i hi=>⟨rfl,?_⟩,fun i hi=>?_,fun i j _ _ hg=>hg⟩
 ·rw[tq,if_pos (AC.1 hi),P3]
 ·rw[tq]at hi⊢;split at hi
  ·rename_i h1;rw[if_pos h1,P3];exact⟨rfl,List.all_eq_true.1 hcl i (by simpa using AC.2 h1)⟩
  grind
end
section
variable {w:World} {X:Nat→Prop} {ρ:ey} {h' h2:ac} {A A2:Nat→Prop}
theorem K1{b k lo n cap}{us}{e}{fr}{rows}{a}(hb:w.heap[b]?=some (.cells us e fr))(hA2:A2 b)(hA:∀b,A b->A2 b)(hr:cS w A k rows us)
  (hle:lo+n<=rows.length) (hn:n<=cap) (ha:cap=0\/a=some ⟨b,lo*k,none⟩):RD w A2 (pO k lo n rows) (.slice a n cap):=
 pg hb hA2 (hr.mono fun b hb=>⟨hA b hb,rfl⟩) hle hn ha
def aiU(w:World)(A:Nat->Prop)(ρ:ey)(h':ac)(a b:AV)(u:Value):Prop:=
 (∃id k rows,b=.osl k rows/\a=.rsl id none k 0 rows.length/\h' id=.ar k rows/\bh id=false)\/
 (∃id cs,b=.obx cs/\a=.ref id none 0 0 0/\h' id=.bx cs/\cs.all mh=true/\bh id=false)\/
 (b=a/\∃id k i j,a=.ref id none k i j/\bh id=true)\/
 (b=a/\aE a=true)\/
 (aE b=true/\∀A2,(∀b,A b->A2 b)->(∀id sub,fI a=[id]->live h' id sub->A2 (ρ id sub).1)->RD w A2 b u)
theorem C5(r:Rel w X ρ h'){a b}{u}(hv:RV w (aI w X h' ρ) ρ h' a u)(he:mq h' a=some b):aiU w (aI w X h' ρ) ρ h' a b u:=by
 have dl:aE a=true->mq h' a=some a->aiU w (aI w X h' ρ) ρ h' a b u:=fun hd hq=>by
  rw[hq]at he;cases he;exact .inr (.inr (.inr (.inl ⟨rfl,hd⟩)))
 cases a with
 |rsl id sub k lo n=>
  obtain⟨a,cap,rfl,hp,hn,hb,ha⟩:=hv.rsl_inv;cases sub with
  |none=>
   simp only[mq]at he;split at he
   ·grind
   ·have ho:=r.ob id;cases e:h' id with
    |dead=>rw[e]at he;cases he
    |ar k' rows=>
     rw[e]at he ho;simp only[Cr]at he;split at he
     ·rename_i hc;obtain⟨rfl,hle⟩:=hc;split at he
      ·rename_i hw;obtain⟨rfl,rfl⟩:=hw;cases he;exact .inl ⟨id,k',rows,rfl,rfl,e,by grind⟩
      ·cases he;obtain⟨us,t,h1,h3,h4,h5⟩:=ho;exact .inr (.inr (.inr (.inr ⟨rfl,fun A2 hA hl=>K1 h1 (hl id none rfl (by grind[live])) hA h5 hle hn ha⟩)))
     grind
    |fz k' rows=>
     rw[e]at he ho;simp only[Cr]at he;split at he
     ·rename_i hc;obtain⟨rfl,hle⟩:=hc;cases he;obtain⟨h0,us,t,fr,h1,h3,h4,h5⟩:=ho;exact .inr (.inr (.inr (.inr ⟨rfl,fun A2 hA hl=>K1 h1 (hA _ h0) hA h5 hle hn ha⟩)))
     grind
    |bx cs=>
     rw[e]at he;simp only[Cr]at he;split at he
     ·rename_i hc;obtain⟨rfl,hle,hd⟩:=hc;cases he;obtain⟨us,t,h1,h3,h4,h5⟩:=r.cell e;refine .inr (.inr (.inr (.inr ⟨rfl,fun A2 hA hl=>pg h1 (hl id none rfl (by grind[live])) (fun i row hi=>?_) (by grind[vC]) hn ha⟩)));simp only[vC,List.getElem?_map,aye]at hi;obtain⟨c,hc,rfl⟩:=hi;refine⟨rfl,fun j d hj=>?_⟩;cases j with
      |succ j=>grind
      |zero=>
       simp at hj;subst hj;obtain⟨u,h6,h7⟩:=h5 i c hc;have hdc:=List.all_eq_true.1 hd c (List.mem_of_getElem? hc);exact⟨u,by grind,MT h7 hdc hA (fun k rows ec=>by subst ec;exact hl id (some i) rfl ⟨cs,k,rows,e,hc⟩),Hr hdc⟩
     grind
  |some p=>
   simp only[mq]at he;split at he
   ·grind
   ·cases e:h' id with
    |bx cs=>
     rw[e]at he;simp only[kf]at he;cases ec:cs[p]? with
     |none=>rw[ec]at he;cases he
     |some c=>
      rw[ec]at he;cases c<;>simp only[xQ,alR]at he<;>try (cases he;done)
      split at he
      ·rename_i hc;obtain⟨rfl,hle⟩:=hc;cases he;obtain⟨us,t,h1,h3,h4,h5⟩:=r.cell e;obtain⟨u,_,a',cap',us',t',_,_,_,q4,q5,q6,q7⟩:=h5 p _ ec;exact .inr (.inr (.inr (.inr ⟨rfl,fun A2 hA hl=>K1 q4 (hl id (some p) rfl ⟨cs,_,_,e,ec⟩) hA q7 hle hn ha⟩)))
      grind
    |_=>rw[e]at he;cases he
 |ref id sub k i j=>
  cases sub with
  |some p=>grind[mq,aE]
  |none=>
   simp only[mq]at he;split at he
   ·rename_i hps;cases he;exact .inr (.inr (.inl ⟨rfl,id,k,i,j,rfl,hps⟩))
   ·split at he
    ·rename_i hc;obtain⟨rfl,rfl,rfl⟩:=hc;cases e:h' id<;>rw[e]at he<;>simp only[aa4]at he<;>try (cases he;done)
     split at he
     ·rename_i hd;cases he;exact .inr (.inl ⟨id,_,rfl,rfl,e,hd,by grind⟩)
     grind
    grind
 |fn f x y=>
  grind[mq]
 |any=>exact dl rfl rfl
 |v x=>exact dl rfl rfl
 |emp=>exact dl rfl rfl
 |sl k rows=>exact dl rfl rfl
 |_=>simp[mq,aE]at he
theorem U1{b c}(hdl:aE b=true)(hd:Cs b=some c):c=b:=by
 unfold Cs at hd;split at hd
 all_goals simp_all[aE,if_pos]
theorem Ol(r:Rel w X ρ h'){a b c}{u}(hv:RV w (aI w X h' ρ) ρ h' a u)(h1:u.oneCell'=true)(he:mq h' a=some b)(hd:Cs b=some c):
  aE c=true/\∀A2,(∀b,aI w X h' ρ b->A2 b)->(∀id sub,fI a=[id]->live h' id sub->A2 (ρ id sub).1)->RD w A2 c u:=by
 rcases C5 r hv he with⟨id,k,rows,rfl,rfl,e,_⟩| ⟨id,cs,rfl,_⟩| ⟨rfl,id,k,i,j,rfl,_⟩| ⟨rfl,hdl⟩| ⟨hdl,hr⟩
 ·simp only[Cs,Option.some.injEq]at hd;subst hd;refine⟨rfl,fun A2 hA hl=>?_⟩;obtain⟨a,cap,rfl,hp,hn,hb,ha⟩:=hv.rsl_inv;have ho:=r.ob id;rw[e]at ho;obtain⟨us,t,g1,g2,g3,g4⟩:=ho;have:=K1 (w:=w) (A2:=A2) (lo:=0) g1 (hl id none rfl (by grind[live])) hA g4 ω hn ha;grind[pO]
 ·grind[Cs,aE]
 ·grind[Cs,aE]
 ·have:=U1 hdl hd;subst this;exact⟨hdl,fun A2 hA _=>(hv.toD hdl h1).mono fun b hb=>⟨hA b hb,rfl⟩⟩
 grind[U1]
theorem L8(r:Rel w X ρ h'):∀cs ds,mr h' cs=some ds->ds.length=cs.length/\∀ (i:Nat) a c u,cs[i]?=some a->ds[i]?=some c->RV w (aI w X h' ρ) ρ h' a u->u.oneCell'=true->
  aE c=true/\∀A2,(∀b,aI w X h' ρ b->A2 b)->(∀id sub,fI a=[id]->live h' id sub->A2 (ρ id sub).1)->RD w A2 c u
 |[],ds,he=>by grind[mr]
 |a::cs,ds,he=>by
  simp only[mr,ayb]at he;obtain⟨b,e1,c,e2,q,e3,e4⟩:=he;obtain⟨g1,g2⟩:=L8 r cs q e3;refine⟨by grind,fun i a' c' u hc hd hv h1=>?_⟩;cases i with
  |zero=>
   grind[Ol]
  |succ i=>grind
end
def DG(f:ac->Option R3)(p:ac->ac->Fp)(h:ac)(x:AV)(h':ac)(r w:List Nat):Prop:=
 ∀g,(∀i,dD i∈r\/dD i∈w->g i=h i)->∃g',f g=some (x,g',[])/\p g g'=some (r,w)/\(∀i,dD i∈w->g' i=h' i)/\(∀i,dD i∉w->g' i=g i)
section
variable {h h' g:ac} {x:AV} {r w:List Nat}
theorem F0{f:ac->Option R3}{p:ac->ac->Fp}(hw:w=[])(hp:∀g g',p g g'=some (r,w))(hf:∀g,(∀i,dD i∈r->g i=h i)->f g=some (x,g,[])):DG f p h x h' r w:=fun g hg=>by
 simp_all
theorem pk{f:ac->Option R3}{p:ac->ac->Fp}{d}{o}(hd:dD d∈w)(hh:h'=upd h d o)(hp:∀g g',p g g'=some (r,w))(hf:∀g,g d=h d->f g=some (x,upd g d o,[])):DG f p h x h' r w:=fun g hg=>by
 refine⟨upd g d o,hf g (hg d (.inr hd)),hp g _,fun i hi=>?_,fun i hi=>?_⟩
 ·simp_all[upd]
 grind[upd,absurd]
theorem agP{a}(hd:aE a=true)(h):fP h a=some (a,h,[]):=by
 cases a<;>simp[aE]at hd<;>simp[fP,aE,hd]
theorem mI:∀ {xs},xs.all aE=true->∀h,iY h xs=some (xs,h,[])
 |[],_,h=>rfl
 |a::l,hd,h=>by
  simp only[ayJ,ayf]at hd;simp only[iY,agP hd.1 h,mI hd.2 h,ayi,ayp]
theorem C6{a}{xs}(hd:dat a=true)(hc:il a=some xs):xs.all aE=true:=by
 cases a<;>simp only[dat,aE,il,Option.some.injEq]at hd hc<;>first| (cases hc;done)| (cases hd;done)|skip
 all_goals grind[aE]
theorem DH{k}:∀ {ps} {rows rows'} {h h'} {ks},(ps.all fun p=>dat p.2)=true->eO k h rows ps=some (rows',h',ks)->h'=h/\ks=[]/\∀g,eO k g rows ps=some (rows',g,[])
 |[],rows,rows',h,h',ks,_,hz=>by
  grind[eO,Option.some.injEq,Prod.mk.injEq]
 | (i,a)::ps,rows,rows',h,h',ks,hd,hz=>by
  simp only[ayJ,ayf]at hd;simp only[eO,ayb]at hz;obtain⟨cs,e1,hz⟩:=hz;split at hz
  ·have hcs:=C6 hd.1 e1;simp only[mI hcs h,ayi,ayb]at hz;obtain⟨⟨r1,r2,r3⟩,e2,e3⟩:=hz;obtain⟨q1,q2,q3⟩:=DH hd.2 e2
   simp_all[eO,ayi,if_pos,mI,ayq]
  grind
theorem Jo{k k0 i j}{agg}{o}{ks}(hz:oS h k agg k0 i j o=some (x,h',ks)):h'=h/\ks=[]/\∀g,oS g k agg k0 i j o=some (x,g,[]):=by
 cases o with
 |none=>cases hz
 |some q=>
  simp only[oS]at hz;split at hz
  ·simp only[ayb,aye]at hz;obtain⟨row,e1,a,e2,e3⟩:=hz
   simp_all[oS,if_pos,ayi,ayT]
  grind
theorem adK{k id k0 i j}{agg}{o}(hz:By h k agg id k0 i j o=some (x,h',[])):h'=h/\∀g,By g k agg id k0 i j o=some (x,g,[]):=by
 cases o with
 |dead=>cases hz
 |bx cs=>
  simp only[By,Hh]at hz⊢;grind
 |ar k' rows=>
  grind[By,Jo]
 |fz k' rows=>
  grind[By,Jo]
theorem abG{k}{agg}{a}(hz:iZ h k agg a=some (x,h',[]))(hp:uv a=some (r,w)):DG (fun g=>iZ g k agg a) (fun _ _=>uv a) h x h' r w:=by
 cases a<;>simp only[uv]at hp<;>try (cases hp;done)
 case ipt cs=>
  cases hp;refine F0 rfl (fun _ _=>rfl) fun g _=>?_;grind[iZ,aye]
 case ref id sub k0 i j=>
  cases hp;refine F0 rfl (fun _ _=>rfl) fun g hg=>?_;cases sub with
  |none=>
   grind[iZ,adK]
  |some p=>
   grind[iZ,Jo]
theorem Yn{k}{a y}(hz:lT h k a y=some (x,h',[]))(hp:Bz y a=some (r,w)):DG (fun g=>lT g k a y) (fun _ _=>Bz y a) h x h' r w:=by
 cases a<;>simp only[Bz]at hp<;>try (cases hp;done)
 rename_i id sub k0 i j;split at hp
 ·rename_i hd;cases hp;simp only[lT,ayb]at hz;obtain⟨xs,e1,hz⟩:=hz;have hxs:=C6 hd e1;split at hz
  ·cases sub with
   |none=>
    simp only at hz;cases eo:h id with
    |bx cs=>
     rw[eo]at hz;simp only[FS,PU]at hz;split at hz
     ·simp only[Option.some.injEq,Prod.mk.injEq]at hz;obtain⟨rfl,rfl,e3⟩:=hz;refine pk σ rfl (fun _ _=>by simp_all[Bz,if_pos]) fun g hg=>?_
      simp_all[lT,ayi,if_pos,FS,PU,if_true]
     grind
    |ar k' rows=>
     simp only[FS,mI hxs h,ayi,eo,PV,aye]at hz;obtain⟨q,e2,e3⟩:=hz;cases e3;refine pk σ rfl (fun _ _=>by simp_all[Bz,if_pos]) fun g hg=>?_
     simp_all[lT,ayi,if_pos,FS,mI,PV,ayT]
    |_=>rw[eo]at hz;cases hz
   |some p=>
    simp only[mI hxs h,ayi]at hz;cases eo:h id with
    |bx cs=>
     rw[eo]at hz;simp only[E2]at hz;cases ec:cs[p]? with
     |none=>rw[ec]at hz;cases hz
     |some c=>
      rw[ec]at hz;cases c<;>simp only[aa2]at hz<;>try (cases hz;done)
      simp only[aye]at hz;obtain⟨q,e2,e3⟩:=hz;cases e3;refine pk σ rfl (fun _ _=>by simp_all[Bz,if_pos]) fun g hg=>?_
      simp_all[lT,ayi,if_pos,E2,mI,aa2,ayT]
    |_=>rw[eo]at hz;cases hz
  grind
 grind
end
theorem al3{a b}(h:UM a b=true):a=b:=by
 cases a<;>cases b<;>simp only[UM]at h<;>try (cases h;done)
 case string.string x y=>
  obtain⟨⟨x⟩⟩:=x
  simp_all
 all_goals grind
mutual
theorem al4:∀ {a b:AV},UN a b=true->a=b
 |a,b,h=>by
  cases a<;>cases b<;>simp only[UN]at h<;>try (first|rfl| (cases h;done))
  case v.v=>rw[al3 h]
  case sl.sl=>simp only[ayf,decide_eq_true_eq]at h;rw[h.1,Jp h.2]
  case osl.osl=>simp only[ayf,decide_eq_true_eq]at h;rw[h.1,Jp h.2]
  case obx.obx=>rw[BY h]
  case agg.agg=>rw[BY h]
  case ref.ref=>grind
  case rsl.rsl=>grind
  case ipt.ipt=>rw[BY h]
  case fn.fn=>simp only[ayf,decide_eq_true_eq]at h;rw[h.1,BY h.2.1,BY h.2.2]
theorem BY:∀ {a b:List AV},BR a b=true->a=b
 |[],[],_=>rfl
 |[],_::_,h=>by cases h
 |_::_,[],h=>by cases h
 |a::l,b::r,h=>by
  simp only[BR,ayf]at h;rw[al4 h.1,BY h.2]
theorem Jp:∀ {a b:List (List AV)},Iv a b=true->a=b
 |[],[],_=>rfl
 |[],_::_,h=>by cases h
 |_::_,[],h=>by cases h
 |a::l,b::r,h=>by
  simp only[Iv,ayf]at h;rw[BY h.1,Jp h.2]
end
theorem agQ{a b}(h:KT a b=true):a=b:=by
 cases a<;>cases b<;>simp only[KT]at h<;>try (first|rfl| (cases h;done))
 case bx.bx=>rw[BY h]
 case ar.ar=>grind[Jp]
 case fz.fz=>grind[Jp]
theorem adL{g h g' h'}{ids}(e:∀i,i∈ids->g i=h i)(e':∀i,i∈ids->g' i=h' i):Ja g g' ids=Ja h h' ids:=by
 grind[Ja,List.filter_congr]
theorem agR{h h'}{ids}{i}(hi:i∈ids)(hn:dD i∉ (Ja h h' ids).map dD):h' i=h i:=by
 by_cases hs:KT (h i) (h' i)=true
 ·exact(agQ hs).symm
 ·refine absurd (List.mem_map.2 ⟨i,?_,rfl⟩) hn;simp only[Ja,List.mem_filter];exact⟨hi,by simpa using hs⟩
theorem Hv{a}:∀ {r l},a∈l->a∈bH l r
 |[],l,h=>h
 |b::r,l,h=>by
  unfold bH;apply Hv;split
  ·exact h
  ·simp[h]
theorem DI:∀ {r l},l.Nodup->(bH l r).Nodup
 |[],l,h=>h
 |b::r,l,h=>by
  unfold bH;apply DI;split
  ·exact h
  ·rename_i hc;rw[List.nodup_append];refine⟨h,by simp,fun a ha c hc'=>?_⟩;simp only[List.mem_singleton]at hc';subst hc'
   rintro rfl
   exact hc (by simpa using ha)
theorem R4{h}{a}:∀ {n} {l} {i},a∈l->a∈ce h n l i
 |0,l,i,hm=>hm
 |n+1,l,i,hm=>by
  unfold ce;split
  ·exact hm
  ·exact R4 (Hv hm)
theorem L9{h}:∀ {n} {l} {i},l.Nodup->(ce h n l i).Nodup
 |0,l,i,hm=>hm
 |n+1,l,i,hm=>by
  unfold ce;split
  ·exact hm
  ·exact L9 (DI hm)
theorem F1{g h}:∀ {n} {l} {i},(∀a,a∈ce h n l i->g a=h a)->ce g n l i=ce h n l i
 |0,l,i,_=>rfl
 |n+1,l,i,hg=>by
  unfold ce at hg⊢;split
  ·rfl
  ·rename_i a ha;rw[ha]at hg;rw[hg a (R4 (Hv (List.mem_of_getElem? ha)))];exact F1 hg
theorem R5(h)(n):ce h n [] 0=[]:=by cases n<;>simp[ce]
theorem U2{a}(h:aE a=true):fI a=[]:=by cases a<;>simp[aE]at h<;>rfl
theorem U3{a}(h:dat a=true):cf a=[]:=by
 cases a<;>simp only[dat]at h<;>try exact U2 h
 all_goals simp_all[cf,List.flatMap_eq_nil_iff,U2,aE,ayf,List.isEmpty_iff]
theorem R6{a}(h:dat a=true):y7 a=true:=by
 have key:∀c,aE c=true->su c=true:=fun c hc=>by cases c<;>simp[aE]at hc<;>rfl
 cases a<;>simp only[dat]at h<;>try exact key _ h
 all_goals simp_all[aE,ayf,List.isEmpty_iff,y7]
section
variable {h h' g:ac} {x:AV}
theorem Ma:∀ {cs} {q},cs.all su=true->iY h cs=some q->q=(cs,h,[])/\∀g,iY g cs=some (cs,g,[])
 |[],q,_,hz=>by cases hz;exact⟨rfl,fun g=>rfl⟩
 |c::cs,q,hd,hz=>by
  simp only[ayJ,ayf]at hd;simp only[iY,ayb]at hz;obtain⟨p,e1,q',e2,e3⟩:=hz;have hc:p=(c,h,[])/\∀g,fP g c=some (c,g,[]):=by
   cases c<;>simp only[su]at hd<;>simp only[fP]at e1⊢ <;>first| (cases hd.1;done)|skip
   all_goals
    split at e1
    ·rename_i hdl;simp only[if_pos hdl];cases e1;exact⟨rfl,fun g=>by first|trivial|rfl⟩
    ·cases e1
  obtain⟨rfl,hc2⟩:=hc;obtain⟨rfl,q2⟩:=Ma hd.2 e2;cases e3;refine⟨rfl,fun g=>?_⟩;simp only[iY,hc2 g,ayi,q2 g,ayp]
theorem Yo{m}{a}{q}(hd:y7 a=true)(hz:dC h m a=some q):q=(a,h,[])/\∀g,dC g m a=some (a,g,[]):=by
 have key:∀c,(∀cs,c≠ .agg cs)->su c=true->wx h c=some q->q=(c,h,[])/\∀g,wx g c=some (c,g,[]):=by
  intro c hna hc hz;have e1:∀g,wx g c=if aE c then some (c,g,[])else none:=by
   intro g;cases c<;>simp only[su]at hc<;>first| (cases hc;done)| (exact absurd rfl (hna _))|rfl
  grind
 cases a with
 |agg cs=>
  simp only[dC,wx,ayb]at hz⊢;obtain⟨p,e1,e2⟩:=hz;obtain⟨rfl,q2⟩:=Ma hd e1;grind
 |rsl=>grind[y7,su]
 |rsc=>grind[y7,su]
 |ref id sub k i j=>
  cases sub with
  |none=>
   simp_all[dC,Option.some.injEq,trivial]
  |some p=>exact key _ (fun cs=>by simp) rfl hz
 |ipt cs=>
  simp_all[dC,Option.some.injEq,trivial]
 |fn f u v=>
  simp_all[dC,Option.some.injEq,trivial]
 |_=>exact key _ (fun cs=>by simp) rfl hz
theorem Jq:∀ {l} {ms} {q},l.all y7=true->bS h ms l=some q->q=(l,h,[])/\∀g,bS g ms l=some (l,g,[])
 |[],ms,q,_,hz=>by cases hz;exact⟨rfl,fun g=>rfl⟩
 |a::l,ms,q,hd,hz=>by
  simp only[ayJ,ayf]at hd;simp only[bS,ayb]at hz;obtain⟨p,e1,q',e2,e3⟩:=hz;obtain⟨rfl,p2⟩:=Yo hd.1 e1;obtain⟨rfl,q2⟩:=Jq hd.2 e2;cases e3;refine⟨rfl,fun g=>?_⟩;simp only[bS,p2 g,ayi,q2 g,ayp]
theorem U4{ids}{i}:∀ {l} {os} {g h},g i=h i->eE g ids l os i=eE h ids l os i
 |[],os,g,h,e=>by simp_all[eE]
 |a::l,[],g,h,e=>by simp_all[eE]
 |a::l,o::os,g,h,e=>by
  simp only[eE];apply U4;unfold upd;split
  ·rfl
  ·exact e
theorem yy{ids}{i}:∀ {l} {os} {g},i∉l->eE g ids l os i=g i
 |[],os,g,_=>rfl
 |a::l,[],g,_=>rfl
 |a::l,o::os,g,hn=>by
  simp only[List.mem_cons,not_or]at hn;simp only[eE];rw[yy hn.2];exact aM _ _ hn.1
theorem MU(n)(g h)(c):(dL n g c).1=(dL n h c).1:=by cases c<;>rfl
theorem Zi{n i}{g h}{c}(e:g i=h i):(dL n g c).2 i=(dL n h c).2 i:=by
 cases c<;>simp only[dL]<;>first|exact e| (unfold upd;split;rfl;exact e)
theorem U5{n i}{g}{c}(hn:i≠n):(dL n g c).2 i=g i:=by
 cases c<;>simp only[dL]<;>first|rfl|exact aM _ _ hn
theorem U6:∀l n g h,(cM n g l).1=(cM n h l).1
 |[],n,g,h=>rfl
 |c::l,n,g,h=>by simp only[cM];rw[MU n g h,U6 l (n+1) _ (dL n h c).2]
theorem Zj{i}:∀ {l} {n} {g h},g i=h i->(cM n g l).2 i=(cM n h l).2 i
 |[],n,g,h,e=>e
 |c::l,n,g,h,e=>by simp only[cM];exact Zj (Zi e)
theorem U7{i}:∀ {l} {n} {g},¬ (n<=i/\i<n+l.length)->(cM n g l).2 i=g i
 |[],n,g,hn=>rfl
 |c::l,n,g,hn=>by
  simp only[cM];simp only[ayL]at hn;rw[U7 ω,U5 ω]
theorem Zk(n)(g h)(c):(mat n g c).1=(mat n h c).1:=by
 cases c<;>simp only[mat]<;>first|exact MU _ _ _ _|rw[U6]
theorem adN{n i}{g h}{c}(e:g i=h i):(mat n g c).2 i=(mat n h c).2 i:=by
 cases c<;>simp only[mat]<;>first|exact Zi e|exact Zj e
theorem AD{n i}{g}{c}(hn:¬ (n<=i/\i<n+cF c)):(mat n g c).2 i=g i:=by
 cases c<;>simp only[mat]<;>simp only[cF]at hn<;>first|exact U5 ω|exact U7 hn
theorem Mb{g h}:∀ {m n},(∀i,n<=i->i<n+m->g i=h i)->cA g n m=cA h n m
 |0,n,_=>rfl
 |m+1,n,hg=>by
  simp only[cA];rw[hg n ω ω,Mb fun i h1 h2=>hg i ω ω]
theorem Ix{g h}{gv}:∀ {l} {os},(∀a,a∈l->g a=h a)->dh g gv l os=dh h gv l os
 |[],os,_=>rfl
 |a::l,[],_=>rfl
 |a::l,o::os,hg=>by
  simp only[dh];rw[hg a σ,Ix fun b hb=>hg b (by simp[hb])]
theorem E8{d i}(h1:2000+8*d<=i)(h2:i<2000+8*d+8):dD i=2000+8*d:=by
 unfold dD;grind
theorem Ti{kp}{d}{ids}{gv}{r}(hz:eP kp h d ids [] gv r=some (x,h',[]))(hg:∀i,dD i∈ids.map dD++[2000+8*d]->g i=h i):
  ∃g',eP kp g d ids [] gv r=some (x,g',[])/\(∀i,dD i∈ids.map dD++[2000+8*d]->g' i=h' i)/\(∀i,dD i∉ids.map dD++[2000+8*d]->g' i=g i)/\∀i,i∉ids->dD i≠2000+8*d->h' i=h i:=by
 unfold eP at hz⊢;split at hz
 ·rename_i hc;simp only[Option.some.injEq,Prod.mk.injEq,ayq,List.append_eq_nil_iff]at hz;obtain⟨rfl,rfl,hk,rfl⟩:=hz;obtain⟨c1,c0,c2,c3,c4,c5⟩:=hc;have hfr:cA g (2000+8*d) (cF r.1)=true:=by
   grind[Mb,E8]
  have hst:dh g [] ids r.2=true:=by grind[Ix]
  refine⟨(mat (2000+8*d) (eE g ids ids r.2) r.1).2,?_,fun i hi=>?_,fun i hi=>?_,fun i hi hi2=>?_⟩
  ·rw[if_pos ⟨c1,c0,c2,hfr,hst,c5⟩,hk];simp only[gb,ayp];rw[Zk _ (eE g ids ids r.2) (eE h ids ids r.2)]
  ·simp only[gb];grind[adN,U4]
  ·rw[AD (fun hh=>hi (by grind[E8])),yy (fun hh=>hi γ)]
  ·simp only[gb];rw[AD (fun hh=>hi2 (E8 hh.1 ω)),yy hi]
 grind
theorem Yp{call}{md}{d}{f}{zas}{r w}(hz:dW call md h d zas f=some (x,h',[]))(hp:jk h d (oV zas f) h'=some (r,w)):
  DG (fun g=>dW call md g d zas f) (fun g=>jk g d (oV zas f)) h x h' r w:=by
 cases f<;>simp only[dW]at hz<;>try (cases hz;done)
 rename_i fid a b;simp only[oV]at hp;simp only[ayb]at hz;obtain⟨p,e1,e2⟩:=hz;have hno:(a++zas++b).all y7=true:=by
  grind[jk,ayx,R6]
 obtain⟨rfl,e3⟩:=Jq hno e1;generalize hI:ce h 40 (bH [] ((a++zas++b).flatMap cf)) 0=ids at*
 have hids:(∀i,i∈ids->dD i∈r)/\w=(Ja h h' ids).map dD++[2000+8*d]/\
   (∀g g',(∀i,i∈ids->g i=h i)->(∀i,i∈ids->g' i=h' i)->jk g d (a++zas++b) g'=some (r,w)):=by
  unfold jk at hp;split at hp
  ·cases hp;have:(a++zas++b).flatMap cf=[]:=by
    grind[List.flatMap_eq_nil_iff,U3]
   rw[this]at hI;simp only[bH,R5]at hI;subst hI;refine⟨fun i hi=>by grind,rfl,fun g g' _ _=>?_⟩
   simp_all[jk,if_pos]
  ·rename_i hd;rw[hI]at hp;cases hp;refine⟨fun i hi=>List.mem_map.2 ⟨i,hi,rfl⟩,rfl,fun g g' hg hg'=>?_⟩;unfold jk;have hre:ce g 40 (bH [] ((a++zas++b).flatMap cf)) 0=ids:=by
    grind[F1]
   rw[if_neg hd,if_pos hno,hre,adL hg hg']
 obtain⟨hi1,hi2,hi3⟩:=hids;intro g hg;have hat:=fun i hi=>hg i (.inl (hi1 i hi));have hre:ce g 40 (bH [] ((a++zas++b).flatMap cf)) 0=ids:=by
  grind[F1]
 unfold jV at e2;split at e2
 ·simp only[ayb]at e2;obtain⟨res,e4,e5⟩:=e2;have hgl:∀i,dD i∈ids.map dD++[2000+8*d]->g i=h i:=fun i hi=>by
   grind
  obtain⟨g',g1,g2,g3,g4⟩:=Ti e5 (g:=g) hgl;have hat':=fun i hi=>g2 i (List.mem_append_left _ (List.mem_map.2 ⟨i,hi,rfl⟩));refine⟨g',?_,hi3 g g' hat hat',fun i hi=>g2 i ?_,fun i hi=>?_⟩
  ·simp only[dW,e3 g,ayi,hre];unfold jV;have hmap:ids.map (fun a=>dS (bm ids) (g a))=ids.map fun a=>dS (bm ids) (h a):=ayM fun i hi=>by rw[hat i hi]
   grind
  ·rw[hi2]at hi;rcases List.mem_append.1 hi with hi|hi
   ·refine List.mem_append_left _ ?_;obtain⟨a,ha,hae⟩:=List.mem_map.1 hi;exact List.mem_map.2 ⟨a,(List.mem_filter.1 ha).1,hae⟩
   grind
  grind[dD,agR,List.mem_append_left]
 grind
theorem Om{call}{md}{d}{f}{zas}{r w}(hz:bF call md h d zas f=some (x,h',[]))(hp:jk h d (oV zas f) h'=some (r,w)):
  DG (fun g=>bF call md g d zas f) (fun g=>jk g d (oV zas f)) h x h' r w:=by
 have hb:¬kh md zas f=true:=by
  intro hb;have hno:∀l:List AV,l.all y7=true->l.any (fun x=>!N3 x)=false:=fun l hl=>by
   rw[List.any_eq_false];intro c hc;have:=List.all_eq_true.1 hl c hc;cases c<;>simp[y7,su,N3]at this⊢
  cases f<;>simp only[kh,ayf]at hb<;>try (cases hb;done)
  simp only[oV]at hp;unfold jk at hp;split at hp
  ·rename_i hd;rw[hno _ (List.all_eq_true.2 fun c hc=>R6 (List.all_eq_true.1 hd c hc))]at hb;grind
  grind
 simp_all[bF,if_neg,Yp]
theorem Mc{d}{x0 x}{h0 g0 h'}{k0}(hz:y6 d (x0,h0,k0)=some (x,h',[]))(hg:∀i,dD i=2000+8*d->g0 i=h0 i):
  k0=[]/\∃g',y6 d (x0,g0,[])=some (x,g',[])/\(∀i,dD i=2000+8*d->g' i=h' i)/\(∀i,dD i≠2000+8*d->g' i=g0 i):=by
 unfold y6 at hz⊢;simp only at hz⊢;split at hz
 ·rename_i id k lo n;split at hz
  ·rename_i hid;subst hid;have hgd:dD (2000+8*d)=2000+8*d:=E8 (ayd _) ω;have he:=hg _ hgd;simp only[fP]at hz⊢;rw[he];cases eo:h0 (2000+8*d)<;>rw[eo]at hz<;>simp only[mZ]at hz⊢ <;>try (cases hz;done)
   ·simp_all
   ·split at hz
    ·rename_i hc;rw[if_pos hc];simp only[ayT,Option.some.injEq,Prod.mk.injEq,ayp]at hz;obtain⟨rfl,rfl,rfl⟩:=hz;refine⟨rfl,upd g0 (2000+8*d) (.fz k _),rfl,fun i hi=>?_,fun i hi=>?_⟩
     all_goals grind[upd,absurd]
    grind
   grind
  grind
 grind
theorem Hw{call}{md}{d}{op}{s}{r w}(hz:step call md d op s h=some (x,h',[]))(hp:gB d op s h h'=some (r,w)):
  DG (fun g=>step call md d op s g) (fun g=>gB d op s g) h x h' r w:=by
 cases op with
 |p op=>
  obtain⟨rfl,rfl⟩:=hp;simp only[step,DA,aye]at hz;obtain⟨a,e1,e2⟩:=hz;cases e2;exact F0 rfl (fun _ _=>rfl) fun g _=>by simp only[step,DA,e1,ayT]
 |alloc z=>
  obtain⟨rfl,rfl⟩:=hp;obtain⟨h1,rfl,rfl,_⟩:=lI hz;exact pk σ rfl (fun _ _=>rfl) fun g hg=>by grind[step,m8,Co]
 |box k y=>
  simp only[gB]at hp;split at hp
  ·rename_i hd;cases hp;simp only[step,Dz,ayb]at hz;obtain⟨xs,e1,hz⟩:=hz;split at hz
   ·rename_i hk;simp only[C6 hd e1,if_true,m8]at hz;obtain⟨h1,rfl,rfl,_⟩:=lI hz;refine pk σ rfl (fun _ _=>by simp_all[gB,if_pos]) fun g hg=>?_;simp only[step,Dz,ayi,if_pos hk,C6 hd e1,if_true,m8,Co, *]
   grind
  grind
 |buildSl k z n ps=>
  simp only[gB]at hp;split at hp
  ·rename_i hd;cases hp;simp only[step,ayb]at hz;obtain⟨q,e1,hz⟩:=hz;have hd':((ps.map fun p=>(p.1,ev s p.2)).all fun p=>dat p.2)=true:=by
    grind
   obtain⟨e2,e3,e4⟩:=DH hd' e1;obtain⟨q1,q2,q3⟩:=q;simp only at e2 e3 e4 hz;subst e2 e3;obtain⟨h1,rfl,rfl,_⟩:=lI hz;refine pk σ rfl (fun _ _=>by simp only[gB,if_pos hd]) fun g hg=>?_;simp only[step,e4 g,ayi,cW,Co, *]
  grind
 |buildC k z n ps=>
  simp only[gB]at hp;split at hp
  ·rename_i hd;cases hp;simp only[step,ayb]at hz;obtain⟨x0,⟨q,e1,hz⟩,hco⟩:=hz;have hd':((ps.map fun p=>(p.1,ev s p.2)).all fun p=>dat p.2)=true:=by
    grind
   obtain⟨e2,e3,e4⟩:=DH hd' e1;obtain⟨q1,q2,q3⟩:=q;simp only at e2 e3 e4 hz;subst e2 e3;obtain⟨x1,x2,x3⟩:=x0;obtain⟨h1,rfl,rfl,rfl⟩:=lI hz;have hu:∀g (a b:Ob),upd (upd g d a) d b=upd g d b:=fun g a b=>by funext i;simp only[cV];split<;>rfl
   have key:∀g,g d=.dead->step call md d (.buildC k z n ps) s g=if 0+n<=q1.length then some (pO k 0 n q1,upd g d (.fz k q1),[])else none:=fun g hg=>by
    simp only[step,e4 g,ayi,cW,Co,E5,fP,mZ,cV,if_true,true_and, *];split<;>simp
   simp only[E5,fP,mZ,cV,if_true,true_and,hu]at hco;split at hco
   ·rename_i hle;cases hco;refine pk σ rfl (fun _ _=>by simp only[gB,if_pos hd]) fun g hg=>?_;rw[key g (by rw[hg];exact h1),if_pos hle]
   ·cases hco
  grind
 |mkSl k z b l c=>
  obtain⟨rfl,rfl⟩:=hp;simp only[step,ayb]at hz;obtain⟨q,e1,hz⟩:=hz;split at hz
  ·obtain⟨h1,rfl,rfl,_⟩:=lI hz;refine pk σ rfl (fun _ _=>rfl) fun g hg=>?_
   simp_all[step,ayi,if_pos,cW,Co]
  grind
 |load k g y=>exact abG hz hp
 |store k a y=>exact Yn hz hp
 |app k b a y=>cases hp
 |cpy k x y=>cases hp
 |slcM k x lo hi=>cases hp
 |clr k z x=>cases hp
 |appz k b z x n=>cases hp
 |take x=>cases hp
 |call f zas=>exact Om hz hp
 |callC f zas=>
  simp only[step,ayb]at hz;obtain⟨⟨x0,h0,k0⟩,e1,e2⟩:=hz;simp only[gB,Jb]at hp;split at hp
  ·cases hp;obtain⟨rfl,_⟩:=Mc (g0:=h0) e2 (fun _ _=>rfl);have hp1:jk h d (oV (zas.map (ev s)) (ev s f)) h0=some ([],[2000+8*d]):=by simp_all[jk,if_pos]
   intro g hg;obtain⟨g0,a1,a2,a3,a4⟩:=Om e1 hp1 g hg;obtain⟨_,g',b1,b2,b3⟩:=Mc e2 (g0:=g0) (fun i hi=>a3 i γ)
   simp_all[bF,ev,step,gB,Jb,if_pos]
  grind
 |bad=>cases hz
end
section
variable {call:iG} {md:Mode} {s:ak} {h:ac}
theorem gP{s s'}{o}(hs:∀i,i∈gN o->s' i=s i):ev s' o=ev s o:=by
 cases o with
 |t n=>exact hs n (by simp[gN])
 |c a=>rfl
theorem yz{s s'}{o}(hs:∀i,i∈qg o.toList->s' i=s i):evo s' o=evo s o:=by
 cases o with
 |none=>rfl
 |some o=>grind[evo,gP,qg]
theorem E9{s s'}{l}(hs:∀i,i∈qg l->s' i=s i):l.map (ev s')=l.map (ev s):=
 ayM fun o ho=>gP fun i hi=>hs i (by simp only[qg,List.mem_flatMap];exact⟨o,ho,hi⟩)
theorem adO{s s'}{op}(hs:∀i,i∈N5 op->s' i=s i):gJ s' op=gJ s op:=by
 cases op<;>simp only[N5,aDh]at hs<;>simp only[gJ]
 case build z ps=>
  have:(ps.map fun p=>(p.1,p.2.1,ev s' p.2.2))=ps.map fun p=>(p.1,p.2.1,ev s p.2.2):=
   ayM fun p hp=>by rw[gP fun i hi=>hs i (by rw[List.mem_flatMap];exact⟨p,hp,hi⟩)]
  rw[this]
 case mnx m x ys=>rw[gP fun i hi=>hs i (.inl hi),E9 fun i hi=>hs i (.inr hi)]
 case mkF f a b=>rw[E9 fun i hi=>hs i (.inl hi),E9 fun i hi=>hs i (.inr hi)]
 case pick c a b=>rw[gP fun i hi=>hs i (.inl hi),gP fun i hi=>hs i (.inr (.inl hi)),gP fun i hi=>hs i (.inr (.inr hi))]
 case slc k x lo hi mx=>rw[gP fun i hi=>hs i (.inl hi),yz fun i hi=>hs i (.inr (.inl hi)),yz fun i hi=>hs i (.inr (.inr (.inl hi))),yz fun i hi=>hs i (.inr (.inr (.inr hi)))]
 case slcS x lo hi=>rw[gP fun i hi=>hs i (.inl hi),yz fun i hi=>hs i (.inr (.inl hi)),yz fun i hi=>hs i (.inr (.inr hi))]
 all_goals first
  |rw[gP hs]
  |rw[gP fun i hi=>hs i (.inl hi),gP fun i hi=>hs i (.inr hi)]
theorem zf{s s'}{d}{op}(hs:∀i,i∈N6 op->s' i=s i):step call md d op s' h=step call md d op s h/\∀h',gB d op s' h h'=gB d op s h h':=by
 cases op<;>simp only[N6,aDh]at hs<;>simp only[step,gB]
 case p op=>simp_all[adO,trivial]
 case buildSl k z n ps=>
  have:(ps.map fun p=>(p.1,ev s' p.2))=ps.map fun p=>(p.1,ev s p.2):=
   ayM fun p hp=>by rw[gP fun i hi=>hs i (by rw[List.mem_flatMap];exact⟨p,hp,hi⟩)]
  rw[this];have h2:(ps.all fun p=>dat (ev s' p.2))=ps.all fun p=>dat (ev s p.2):=by
   rw[show(ps.all fun p=>dat (ev s' p.2))=((ps.map fun p=>(p.1,ev s' p.2)).all fun p=>dat p.2)from by rw[List.all_map];rfl,this,List.all_map];rfl
  rw[h2];exact⟨rfl,fun _=>rfl⟩
 case buildC k z n ps=>
  have:(ps.map fun p=>(p.1,ev s' p.2))=ps.map fun p=>(p.1,ev s p.2):=
   ayM fun p hp=>by rw[gP fun i hi=>hs i (by rw[List.mem_flatMap];exact⟨p,hp,hi⟩)]
  rw[this];have h2:(ps.all fun p=>dat (ev s' p.2))=ps.all fun p=>dat (ev s p.2):=by
   rw[show(ps.all fun p=>dat (ev s' p.2))=((ps.map fun p=>(p.1,ev s' p.2)).all fun p=>dat p.2)from by rw[List.all_map];rfl,this,List.all_map];rfl
  rw[h2];exact⟨rfl,fun _=>rfl⟩
 case slcM k x lo hi=>simp_all[gP,yz,trivial]
 all_goals simp_all[gP,E9,trivial]
theorem Jr{d}{f}{f'}{r}{t}(hz:nV s d f r=some (t,f')):∃x h',r=some (x,h',[])/\t=⟨fQ s d x,h'⟩/\f'=f h':=by
 unfold nV at hz;grind
theorem Fa{o}{t}{f}(hz:eL call md o s h=some (t,f)):
  ∃x h',t=⟨fQ s o.d x,h'⟩/\((∀s',∀g,(∀i,i∈lU o->s' i=s i)->eL call md o s' g=some (⟨fQ s' o.d x,g⟩,some ([],[])))/\h'=h/\f=some ([],[])\/
   (step call md (o.d.getD 0) o.op s h=some (x,h',[])/\f=gB (o.d.getD 0) o.op s h h'/\
    ∀s',∀g,(∀i,i∈lU o->s' i=s i)->eL call md o s' g=nV s' o.d (gB (o.d.getD 0) o.op s g) (step call md (o.d.getD 0) o.op s g))):=by
 unfold eL at hz;cases hg:o.g with
 |none=>
  rw[hg]at hz;obtain⟨x,h',e1,e2,e3⟩:=Jr hz;refine⟨x,h',e2,.inr ⟨e1,e3,fun s' g hs=>?_⟩⟩;simp only[lU,hg,ayq]at hs;unfold eL;rw[hg];rw[(zf (h:=g) hs).1,funext (zf (call:=call) (md:=md) (h:=g) hs).2]
 |some jb=>
  obtain⟨j,b⟩:=jb;rw[hg]at hz;simp only at hz;have hj:∀s':ak,(∀i,i∈lU o->s' i=s i)->s' j=s j:=fun s' hs=>hs j (by grind[lU]);unfold rD at hz;split at hz
  ·rename_i bb hb;split at hz
   ·rename_i hbb;obtain⟨x,h',e1,e2,e3⟩:=Jr hz;refine⟨x,h',e2,.inr ⟨e1,e3,fun s' g hs=>?_⟩⟩;unfold eL;rw[hg];simp only;rw[hj s' hs,hb];simp only[rD,if_pos hbb];simp only[lU,hg,aDh]at hs;rw[(zf (h:=g) fun i hi=>hs i (.inr hi)).1,funext (zf (call:=call) (md:=md) (h:=g) fun i hi=>hs i (.inr hi)).2]
   ·cases hz;refine⟨.und,h,rfl,.inl ⟨fun s' g hs=>?_,rfl,rfl⟩⟩
    simp_all[eL,rD,if_neg]
  ·cases hz;refine⟨.und,h,rfl,.inl ⟨fun s' g hs=>?_,rfl,rfl⟩⟩
   simp_all[eL,rD]
  grind
theorem K2{d}{x}{i}(hn:∀e,d=some e->i≠e):fQ s d x i=s i:=by
 cases d with
 |none=>rfl
 |some e=>exact aM _ _ (hn e rfl)
theorem R7{a b}(x y)(hn:∀i j,a=some i->b=some j->i≠j):fQ (fQ s a x) b y=fQ (fQ s b y) a x:=by
 cases a with
 |none=>rfl
 |some i=>
  cases b with
  |none=>rfl
  |some j=>
   funext k;simp only[fQ,upd];grind
theorem On{a b}(hi:C2 a b=true):(∀i d,i∈lU b->a.d=some d->i≠d)/\(∀i d,i∈lU a->b.d=some d->i≠d)/\∀i j,a.d=some i->b.d=some j->i≠j:=by
 simp only[C2,ayf]at hi;grind
def uC(f g:Fp):Prop:=oG f g=true
theorem R8{a b}(h:Cq a b=true){i}(ha:i∈a):i∉b:=by
 simp only[Cq,ayx,azf,List.contains_eq_mem,decide_eq_false_iff_not]at h;exact h i ha
theorem C7{α:Type}{l:List α}(h:l.isEmpty=true):l=[]:=by cases l<;>simp at h⊢
theorem aox{a b}{t1 t2}{fa fb}(ha:eL call md a s h=some (t1,fa))(hb:eL call md b t1.s t1.h=some (t2,fb))(hi:C2 a b=true)(hf:uC fa fb):
  ∃t,eL call md b s h=some (t,fb)/\eL call md a t.s t.h=some (t2,fa):=by
 obtain⟨i1,i2,i3⟩:=On hi;obtain⟨xa,ha',rfl,ca⟩:=Fa ha;obtain⟨xb,hb',rfl,cb⟩:=Fa hb;have sb:∀i,i∈lU b->s i=fQ s a.d xa i:=fun i hm=>(K2 fun e he=>i1 i e hm he).symm;have sa:∀i,i∈lU a->fQ s b.d xb i=s i:=fun i hm=>K2 fun e he=>i2 i e hm he;have sc:=R7 (s:=s) xa xb i3;rcases ca with⟨ca,rfl,rfl⟩| ⟨ea,rfl,ca⟩
 ·
  rcases cb with⟨cb,rfl,rfl⟩| ⟨eb,rfl,cb⟩
  ·grind
  ·refine⟨⟨fQ s b.d xb,hb'⟩,?_,by rw[ca _ _ sa,←sc]⟩;rw[cb s _ sb,eb];rfl
 ·rcases cb with⟨cb,rfl,rfl⟩| ⟨eb,rfl,cb⟩
  ·grind[nV]
  ·
   unfold uC at hf;cases efa:gB (a.d.getD 0) a.op s h ha' with
   |none=>
    rw[efa]at hf;cases efb:gB (b.d.getD 0) b.op (fQ s a.d xa) ha' hb' with
    |none=>rw[efb]at hf;cases hf
    |some q=>
     obtain⟨r,w⟩:=q;rw[efb]at hf;simp only[oG,ayf]at hf;have hr:=C7 hf.1;have hw:=C7 hf.2;subst hr hw;have fb:=Hw eb efb;obtain⟨g1,p1,p2,p3,p4⟩:=fb h (fun i hi=>by grind);obtain⟨g2,q1,q2,q3,q4⟩:=fb ha' (fun i hi=>rfl);have e1:=funext fun i=>p4 i σ;have e2:hb'=ha':=by
      grind
     grind[nV]
   |some p=>
    obtain⟨ra,wa⟩:=p;rw[efa]at hf;have fra:=Hw ea efa;cases efb:gB (b.d.getD 0) b.op (fQ s a.d xa) ha' hb' with
    |none=>
     rw[efb]at hf;simp only[oG,ayf]at hf;have hr:=C7 hf.1;have hw:=C7 hf.2;subst hr hw;obtain⟨g1,p1,p2,p3,p4⟩:=fra h (fun i hi=>rfl);have e1:ha'=h:=by
      grind
     obtain⟨g2,q1,q2,q3,q4⟩:=fra hb' (fun i hi=>by grind);have e2:=funext fun i=>q4 i σ;grind[nV]
    |some q=>
     obtain⟨rb,wb⟩:=q;rw[efb]at hf;simp only[oG,ayf]at hf;obtain⟨d1,d2⟩:=hf;have frb:=Hw eb efb;have hout:∀i,dD i∉wa->ha' i=h i:=by
      obtain⟨g1,p1,p2,p3,p4⟩:=fra h (fun i hi=>rfl);grind
     have hout2:∀i,dD i∉wb->hb' i=ha' i:=by
      obtain⟨g1,p1,p2,p3,p4⟩:=frb ha' (fun i hi=>rfl);grind
     have nwa:∀i,dD i∈rb\/dD i∈wb->dD i∉wa:=fun i hi hw=>R8 d1 hw γ;obtain⟨g1,p1,p2,p3,p4⟩:=frb h (fun i hi=>(hout i (nwa i hi)).symm);have agr:∀i,dD i∈ra\/dD i∈wa->g1 i=h i:=fun i hi=>p4 i fun hw=>by
      grind[R8]
     obtain⟨g2,q1,q2,q3,q4⟩:=fra g1 agr;have e2:g2=hb':=funext fun i=>by
      by_cases hwa:dD i∈wa
      all_goals grind
     grind[nV]
theorem U8{o}{post}:∀ {pre} {s} {h} {t} {Fs},io call md (pre++o::post) s h=some (t,Fs)->
  ∃Fpre f Fpost,Fs=Fpre++f::Fpost/\Fpre.length=pre.length/\((∀ (j:Nat) a fa,pre[j]?=some a->Fpre[j]?=some fa->C2 a o=true/\uC fa f)->
   ∃t1,eL call md o s h=some (t1,f)/\io call md (pre++post) t1.s t1.h=some (t,Fpre++Fpost))
 |[],s,h,t,Fs,hz=>by
  simp only[ayq,io,ayb]at hz;obtain⟨⟨t1,f⟩,e1,⟨t2,F2⟩,e2,e3⟩:=hz;cases e3;exact⟨[],f,F2,rfl,rfl,fun _=>⟨t1,e1,e2⟩⟩
 |a::pre,s,h,t,Fs,hz=>by
  simp only[ayW,io,ayb]at hz;obtain⟨⟨t1,fa⟩,e1,⟨t2,F2⟩,e2,e3⟩:=hz;cases e3;obtain⟨Fpre,f,Fpost,rfl,hl,hh⟩:=U8 e2;refine⟨fa::Fpre,f,Fpost,rfl,by grind,fun hc=>?_⟩;obtain⟨t3,g1,g2⟩:=hh fun j a' fa' h1 h2=>hc (j+1) a' fa' γ γ;obtain⟨c1,c2⟩:=hc 0 a fa rfl rfl;obtain⟨t4,k1,k2⟩:=aox e1 g1 c1 c2;refine⟨t4,k1,?_⟩;simp only[ayW,io,ayi, *]
end
section
variable {P:Program} {I:Inv} {call:iG} {md:Mode} {N:Nat} {ops:Array Oper}
theorem Yq{o}{s}{h}{t}{f}(hz:eL call md o s h=some (t,f)):mj call md o s h=some t:=by
 have fin:∀F r,nV s o.d F r=some (t,f)->dA md.nm s o.d r=some t:=by
  intro F r hz;obtain⟨x,h',e1,e2,_⟩:=Jr hz;subst e1 e2;simp only[dA,pP,if_true];rfl
 unfold eL at hz;unfold mj;cases hg:o.g with
 |none=>
  grind
 |some jb=>
  unfold rD at hz;unfold lj;grind
theorem zg:∀ {l} {hs cl},sx P N ops hs l=some cl->cl.length=l.length/\∀ (j:Nat) o c,l[j]?=some o->cl[j]?=some c->∃hint,KV P N ops hint o=some c
 |[],hs,cl,hc=>by grind[sx,Option.some.injEq]
 |o::l,hs,cl,hc=>by
  simp only[sx,ayb]at hc;obtain⟨c,e1,q,e2,e3⟩:=hc;cases e3;obtain⟨g1,g2⟩:=zg e2;refine⟨by simp[g1],fun j o' c' h1 h2=>?_⟩;cases j with
  |zero=>simp at h1 h2;subst h1 h2;exact⟨_,e1⟩
  |succ j=>exact g2 j o' c' (by simpa using h1) (by simpa using h2)
theorem U9:∀ {l} {s} {h} {t} {Fs},io call md l s h=some (t,Fs)->Fs.length=l.length/\∀ (j:Nat) a f,l[j]?=some a->Fs[j]?=some f->∃s' h' t',eL call md a s' h'=some (t',f)
 |[],s,h,t,Fs,hz=>by grind[io,Option.some.injEq,Prod.mk.injEq]
 |o::l,s,h,t,Fs,hz=>by
  simp only[io,ayb]at hz;obtain⟨⟨t1,f1⟩,e1,⟨t2,F2⟩,e2,e3⟩:=hz;cases e3;obtain⟨g1,g2⟩:=U9 e2;refine⟨by simp[g1],fun j a f h1 h2=>?_⟩;cases j with
  |zero=>simp at h1 h2;subst h1 h2;exact⟨s,h,t1,e1⟩
  |succ j=>exact g2 j a f (by simpa using h1) (by simpa using h2)
theorem P4{i}:∀ {l acc},i∈Ze acc l↔i∈acc\/i∈l
 |[],acc=>by simp[Ze]
 |a::l,acc=>by
  unfold Ze;cases h:acc.contains a with
  |true=>
   rw[P4];have ha:=by simpa using h
   constructor
   ·rintro(h1|h1)
    ·exact .inl h1
    ·exact .inr (List.mem_cons_of_mem _ h1)
   ·rintro(h1|h1)
    ·exact .inl h1
    ·rcases List.mem_cons.1 h1 with rfl|h1
     ·exact .inl ha
     ·exact .inr h1
  |false=>
   rw[P4];simp only[List.mem_cons];constructor
   ·rintro((h1|h1)|h1)
    ·exact .inr (.inl h1)
    ·exact .inl h1
    ·exact .inr (.inr h1)
   ·rintro(h1|h1|h1)
    ·exact .inl (.inr h1)
    ·exact .inl (.inl h1)
    ·exact .inr h1
theorem MV{o}{acc}{i}:i∈Hl o acc↔i∈rI o\/∃d∈rI o,i∈acc.getD d []:=by
 unfold Hl;rw[P4,aDh,List.mem_flatMap];simp
theorem MW:∀l acc,∃r,qC l acc=acc++r/\r.length=l.length
 |[],acc=>⟨[],by simp[qC],rfl⟩
 |o::l,acc=>by
  obtain⟨r,e1,e2⟩:=MW l (acc++[Hl o acc]);grind[Hl,qC,ayX]
theorem Va:∀l acc j o,l[j]?=some o->∃pre,(qC l acc)[acc.length+j]?=some (Hl o pre)/\
  pre.length=acc.length+j/\∃r,qC l acc=pre++r
 |[],acc,j,o,h=>by grind
 |o::l,acc,0,o',h=>by
  obtain⟨r,e1,e2⟩:=MW l (acc++[Hl o acc]);grind[qC,ayX]
 |o::l,acc,j+1,o',h=>by
  obtain⟨pre,e1,e2,e3⟩:=Va l (acc++[Hl o acc]) j o' γ;refine⟨pre,?_,by grind,e3⟩;rw[qC,←e1];grind
theorem Js{C}{j}{b}{bf}:∀ {l} {i0},KX C j b bf i0 l=true->∀i a,l[i]?=some a->(i0+i)∈bf\/C (i0+i) j a b=true
 |[],i0,_,i,a,h=>by grind
 |c::l,i0,hd,i,a,h=>by
  simp only[KX,ayf,Bool.or_eq_true]at hd;cases i with
  |zero=>grind
  |succ i=>
   have:=Js hd.2 i a γ;grind
theorem Cw{C}:∀ {l} {bs} {j0} {done},done.length=j0->Hm C j0 done l bs=true->∀j b bf,l[j]?=some b->bs[j]?=some bf->
  (∀i∈bf,i<j0+j)/\∀i a,i<j0+j->(done++l)[i]?=some a->i∈bf\/C i (j0+j) a b=true
 |[],bs,j0,done,hl,hd,j,b,bf,h1,h2=>by grind
 |c::l,[],j0,done,hl,hd,j,b,bf,h1,h2=>by grind
 |c::l,b0::bs,j0,done,hl,hd,j,b,bf,h1,h2=>by
  simp only[Hm,ayf,ayx,decide_eq_true_eq]at hd;cases j with
  |zero=>
   simp at h1 h2;subst h1 h2;refine⟨hd.1,fun i a hi ha=>?_⟩;rw[List.getElem?_append_left ω]at ha;simpa using Js hd.2.1 i a ha
  |succ j=>
   obtain⟨g1,g2⟩:=Cw γ hd.2.2 j b bf γ γ;grind
theorem R9(f):uC (some ([],[])) f:=by
 unfold uC;cases f<;>simp[oG,Cq]
theorem uC.symm{f g}(h:uC f g):uC g f:=by
 unfold uC at*
 cases f<;>cases g<;>simp only[oG]at h⊢ <;>try exact h
 simp only[ayf,Cq,ayx,azf,List.contains_eq_mem,decide_eq_false_iff_not,aDh]at h⊢;grind
theorem Zl{o}{s}{h}{t}{f}(hz:eL call md o s h=some (t,f))(hp:isP o.op=true):f=some ([],[]):=by
 obtain⟨x,h',e,⟨_,_,rfl⟩| ⟨_,rfl,_⟩⟩:=Fa hz
 ·rfl
 ·cases ho:o.op<;>rw[ho]at hp<;>first|rfl|cases hp
theorem Oo{o}{s}{h}{t}{f}(hz:eL call md o s h=some (t,f))(hp:UO o.op=true):∃r,f=some (r,[]):=by
 obtain⟨x,h',e,⟨_,_,rfl⟩| ⟨e2,rfl,_⟩⟩:=Fa hz
 ·grind
 ·cases ho:o.op<;>rw[ho]at hp<;>try (cases hp;done)
  rename_i k g y;rw[ho]at e2;simp only[step]at e2;simp only[gB];cases hy:ev s y<;>rw[hy]at e2<;>simp only[iZ]at e2<;>first| (cases e2;done)|exact⟨_,rfl⟩
abbrev aoy:=List (Nat×COp×Fp)
theorem Ok.draws{w}{X}{ρ}{h}{s}{a}(ok:Ok I N w X ρ h s a):Ok I N {w with drawn:=w.drawn+1} X ρ h s a/\Far md.nm w ρ h {w with drawn:=w.drawn+1} ρ h:=by
 have e:Evo w ρ h {w with drawn:=w.drawn+1} ρ h []:=⟨rfl,rfl,rfl,ayd _,fun _ _ _=>rfl,fun _ _ hp _=>⟨hp,rfl⟩,fun _ ho=>.inl ho,fun _ hb=>⟨hb,rfl⟩,fun _ _ hd=>⟨hd,rfl⟩⟩;exact⟨⟨ok.rel.step e (fun _=>False) (fun _ _=>⟨rfl,fun _=>rfl,fun _ _=>rfl⟩) ok.rel.inj ok.rel.nx (fun _ hf=>hf.elim),e.rs ok.rs,ok.size,ok.defers,e.inv ok.rel ok.inv⟩,e.far (pP _)⟩
def Jt(g:Nat)(a b:COp):Prop:=∃e n,a=⟨some e,none,.p (.mv (.t n))⟩/\C2 a b=true/\(g=0\/(g≠e+1/\g≠n+1))
theorem abH{g}{a b}(h:aa8 g a b=true):Jt g a b:=by
 unfold aa8 at h;split at h
 ·rename_i e n;simp only[ayf,Bool.or_eq_true,beq_iff_eq,bne_iff_ne]at h;exact⟨e,n,rfl,h.1,h.2⟩
 grind
theorem Jt.zero{g}{a b}(h:Jt g a b):Jt 0 a b:=by
 obtain⟨e,n,h1,h2,_⟩:=h;exact⟨e,n,h1,h2,.inl rfl⟩
theorem Vb(ks:K)(s:ak)(e n):ke ks (upd s e (s n))=upd (ke ks s) e (ke ks s n):=by
 cases ks with
 |nil=>rfl
 |cons p l=>
  grind[ke,upd]
theorem Vc{d}{e}{x y}{s:ak}(hd:d≠some e):fQ (upd s e y) d x=upd (fQ s d x) e y:=by
 have:=R7 (s:=s) (a:=some e) (b:=d) y x fun i j h1 h2=>by
  grind
 exact this
theorem Sa{nm}{s:ak}{d}{e n}{r}{t}(h1:d≠some e)(h2:d≠some n)(hz:dA nm (upd s e (s n)) d r=some t):∃t2,dA nm s d r=some t2/\t=⟨upd t2.s e (t2.s n),t2.h⟩:=by
 unfold dA at hz⊢;split at hz
 ·split at hz
  ·grind[fQ,ke,K2,Vb,Vc]
  grind
 grind
theorem abI{b}{s:ak}{h}{e n}{t}(hi:C2 ⟨some e,none,.p (.mv (.t n))⟩ b=true)(hz:mj call md b (upd s e (s n)) h=some t):∃t2,mj call md b s h=some t2/\t=⟨upd t2.s e (t2.s n),t2.h⟩:=by
 obtain⟨i1,i2,i3⟩:=On hi;have h1:=fun hh=>i3 e e rfl hh rfl;have h2:=fun hh=>i2 n n (by simp[lU,N6,N5,gN]) hh rfl;have hr:∀i,i∈lU b->upd s e (s n) i=s i:=fun i hm=>aM _ _ (i1 i e hm rfl);have hs:step call md (b.d.getD 0) b.op (upd s e (s n)) h=step call md (b.d.getD 0) b.op s h:=(zf fun i hm=>hr i (by grind[lU])).1;have hu:∀x,fQ (upd s e (s n)) b.d x=upd (fQ s b.d x) e (fQ s b.d x n):=fun x=>by
  rw[Vc h1];grind[K2]
 unfold mj at hz⊢;cases hg:b.g with
 |none=>
  grind[Sa]
 |some jb=>
  obtain⟨j,w⟩:=jb;rw[hg]at hz;simp only at hz⊢;rw[hs,hr j (by grind[lU])]at hz;unfold lj at hz⊢;split at hz
  ·split at hz
   all_goals simp_all[if_pos,Sa,if_neg]
  all_goals grind
theorem agS{s:ak}{i e}{x y}(hn:i≠e):upd (upd s e y) i x=upd (upd s i x) e y:=by
 grind[upd]
theorem abJ{nm}{g}{s:ak}{h}{e n}{t}(hg:g=0\/(g≠e+1/\g≠n+1))(hz:tO nm g (upd s e (s n)) h=some t):∃t2,tO nm g s h=some t2/\t=⟨upd t2.s e (t2.s n),t2.h⟩:=by
 cases g with
 |zero=>cases hz;exact⟨_,rfl,rfl⟩
 |succ i=>
  have h1:i≠e:=ω
  simp only[tO]at hz⊢;rw[aM _ _ h1]at hz;simp only[ayb]at hz;obtain⟨r,e1,e2⟩:=hz;split at e2
  ·cases hi:s i<;>rw[hi]at e1<;>simp only[RP]at e1<;>try (cases e1;done)
   ·cases e1
    simp_all[RP,pP]
   ·rename_i id sub k lo m;cases sub with
    |none=>grind
    |some p=>
    simp only at e1;split at e1
    ·cases eo:h id<;>rw[eo]at e1<;>simp only[Zd]at e1<;>try (cases e1;done)
     rename_i cs;cases ec:cs[p]? with
     |none=>grind[N7]
     |some c=>
      rw[ec]at e1;cases c<;>simp only[N7]at e1<;>try (cases e1;done)
      split at e1
      ·cases e1
       simp_all[RP,if_pos,Zd,N7,ayi,Vb,agS,aM,Ne.symm]
      grind
    grind
  grind
theorem Vd{g}{y}:∀ {L} {s} {h} {t0 t1 t2} {Fs},(∀x∈L,Jt g x y)->io call md L s h=some (t0,Fs)->tO md.nm g t0.s t0.h=some t1->mj call md y t1.s t1.h=some t2->
  ∃r1 r2,tO md.nm g s h=some r1/\mj call md y r1.s r1.h=some r2/\io call md L r2.s r2.h=some (t2,Fs)
 |[],s,h,t0,t1,t2,Fs,_,h1,h2,h3=>by
  grind[io,Option.some.injEq,Prod.mk.injEq]
 |a::L,s,h,t0,t1,t2,Fs,hl,h1,h2,h3=>by
  obtain⟨e,n,rfl,hi,hg⟩:=hl a σ;simp only[io,ayb]at h1;obtain⟨⟨t',f⟩,e1,⟨t'',F2⟩,e2,e3⟩:=h1;cases e3;have e1':t'=⟨upd s e (s n),h⟩/\f=some ([],[]):=by
   simp only[eL,step,gJ,ev,DA,ayT,nV,gB,Option.some.injEq,Prod.mk.injEq]at e1;exact⟨e1.1.symm,e1.2.symm⟩
  obtain⟨rfl,rfl⟩:=e1';obtain⟨r1,r2,g1,g2,g3⟩:=Vd (fun x hx=>hl x γ) e2 h2 h3;obtain⟨q1,k1,rfl⟩:=abJ hg g1;obtain⟨q2,k2,rfl⟩:=abI hi g2
  simp_all[io,eL,step,gJ,ev,DA,ayT,nV,gB,ayi,fQ]
abbrev aoz:=List (Nat×COp)
structure RestB (ops:Array Oper) (cl:List COp) (bf:Nat->List Nat) (listed:Array Bool) (g:Nat) (L:aoy) (T:aoz):Prop where
 size:listed.size=ops.size
 op:∀x∈L,cl[x.1]?=some x.2.1/\listed.getD x.1 true=false
 opT:∀y∈T,cl[y.1]?=some y.2/\listed.getD y.1 true=false
 all:∀j,j<ops.size->listed.getD j true=false->(∃x∈L,x.1=j)\/∃y∈T,y.1=j
 pw:L.Pairwise fun x y=>x.1<y.1/\(x.1∈bf y.1\/(C2 x.2.1 y.2.1=true/\uC x.2.2 y.2.2))
 lt:∀x∈L,∀y∈T,x.1<y.1/\(x.1∈bf y.1\/Jt g x.2.1 y.2)
 pwT:T.Pairwise fun x y=>x.1<y.1/\x.1∈bf y.1
 cls:∀k,k<ops.size->listed.getD k true=true->∀i∈bf k,listed.getD i true=true
theorem Ju(hcall:mH P I call md)(hN:N<=1000){hs cl}(hc:sx P N ops hs ops.toList=some cl){bf}
  (hlt:∀j,j<ops.size->∀i∈bf j,i<j) (hdep:∀j o,ops[j]?=some o->(∀d∈rI o,d∈bf j)/\∀i∈bf j,i∈rI o\/∃d∈rI o,i∈bf d):
  ∀fuel {g} {L} {T} {listed} {w} {X} {ρ} {h} {s} {a} {t0 tg t} {Q},L.length+T.length=fuel->RestB ops cl bf listed g L T->
   io call md (L.map (·.2.1)) s h=some (t0,L.map (·.2.2))->tO md.nm g t0.s t0.h=some tg->aG call md (T.map (·.2)) tg.s tg.h=some t->Ok I N w X ρ h s a->(∀a' w' ρ',Ok I N w' X ρ' t.h t.s a'->Far md.nm w ρ h w' ρ' t.h->Q .normal a' w')->wpAny P .any ops Q fuel listed a w
 |0,g,L,T,listed,w,X,ρ,h,s,a,t0,tg,t,Q,hl,hr,hz,hgh,hT,ok,hQ=>by
  have:L=[]:=by simp_all
  subst this;have:T=[]:=by simp_all
  subst this;simp only[ayu,io,Option.some.injEq,Prod.mk.injEq]at hz;obtain⟨rfl,_⟩:=hz;simp only[ayu,aG,Option.some.injEq]at hT;subst hT;obtain⟨ρ',ok',far'⟩:=L6 ok hgh;refine⟨?_,hQ _ _ ρ' ok' far'⟩;rw[List.eq_nil_iff_forall_not_mem];intro j hj;obtain⟨h1,o,h2,_⟩:=mem_ready.1 hj;rcases hr.all j (Array.getElem?_eq_some_iff.1 h2).1 h1 with⟨x,hx,_⟩| ⟨x,hx,_⟩<;>simp at hx
 |fuel+1,g,L,T,listed,w,X,ρ,h,s,a,t0,tg,t,Q,hl,hr,hz,hgh,hT,ok,hQ=>by
  have tf:∀d,d<ops.size->listed.getD d true=listed.getD d false:=fun d hd=>by
   have:d<listed.size:=by rw[hr.size];omega
   grind
  have lenc:=(zg hc).1;have cllt:∀ {j:Nat} {c:COp},cl[j]?=some c->j<ops.size:=fun h1=>by
   grind
  have first:∀j,j<ops.size->listed.getD j true=false->(∀k,k<j->listed.getD k true=true)->j∈Region.ready .any ops listed:=by
   intro j hj h1 h2;have hox:ops[j]?=some ops[j]:=γ
   refine mem_ready.2 ⟨h1,ops[j],hox,fun e he hb=>?_⟩;have hd:e.on∈rI ops[j]:=by
    simp only[rI,ay2,List.mem_filter];exact⟨e,⟨by simpa using he,hb⟩,rfl⟩
   have hlt':=hlt j hj _ ((hdep j _ hox).1 _ hd);rw[←tf e.on ω];exact h2 _ hlt'
  have isT:∀k,listed.getD k true=true\/listed.getD k true=false:=fun k=>by cases listed.getD k true<;>simp
  refine⟨fun hnil=>?_,fun i hi=>?_⟩
  ·exfalso;have key:∃j,j<ops.size/\listed.getD j true=false/\∀k,k<j->listed.getD k true=true:=by
    cases L with
    |cons x L'=>
     obtain⟨h1,h2⟩:=hr.op x σ;refine⟨x.1,cllt h1,h2,fun k hk=>?_⟩;rcases isT k with h3|h3
     ·omega
     ·rcases hr.all k (Nat.lt_trans hk (cllt h1)) h3 with⟨y,hy,rfl⟩| ⟨y,hy,rfl⟩
      ·rcases List.mem_cons.1 hy with rfl|hy'
       ·omega
       ·have:=(List.pairwise_cons.1 hr.pw).1 y hy';omega
      ·have:=(hr.lt x σ y hy).1;omega
    |nil=>
     cases T with
     |nil=>grind
     |cons x T'=>
      obtain⟨h1,h2⟩:=hr.opT x σ;refine⟨x.1,cllt h1,h2,fun k hk=>?_⟩;rcases isT k with h3|h3
      ·omega
      ·rcases hr.all k (Nat.lt_trans hk (cllt h1)) h3 with⟨y,hy,rfl⟩| ⟨y,hy,rfl⟩
       ·grind
       ·rcases List.mem_cons.1 hy with rfl|hy'
        ·omega
        ·have:=(List.pairwise_cons.1 hr.pwT).1 y hy';omega
   grind
  ·obtain⟨h1,o,h2,h3⟩:=mem_ready.1 hi;have hisz:=(Array.getElem?_eq_some_iff.1 h2).1;have hbl:∀k∈bf i,listed.getD k true=true:=by
    intro k hk;have dl:∀d∈rI o,listed.getD d true=true:=by
     intro d hd;have hdl:d<ops.size:=Nat.lt_trans (hlt i hisz d ((hdep i o h2).1 d hd)) hisz;simp only[rI,ay2,List.mem_filter]at hd;obtain⟨e,⟨he,hb⟩,rfl⟩:=hd;rw[tf _ hdl];exact h3 e (by simpa using he) hb
    rcases(hdep i o h2).2 k hk with hd| ⟨d,hd,hkd⟩
    ·grind
    ·exact hr.cls d (Nat.lt_trans (hlt i hisz d ((hdep i o h2).1 d hd)) hisz) (dl d hd) k hkd
   have set_ne:∀k,k≠i->(listed.setIfInBounds i true).getD k true=listed.getD k true:=fun k hk=>getD_set_ne true (Ne.symm hk);have set_same:(listed.setIfInBounds i true).getD i true=true:=by
    simp_all
   have cls':∀k,k<ops.size->(listed.setIfInBounds i true).getD k true=true->∀k'∈bf k,(listed.setIfInBounds i true).getD k' true=true:=fun k hk hkl k' hk'=>by
    have old:listed.getD k' true=true:=by
     by_cases hkx:k=i
     ·grind
     ·rw[set_ne _ hkx]at hkl;exact hr.cls k hk hkl k' hk'
    grind
   rcases hr.all i hisz h1 with⟨x,hx,rfl⟩| ⟨y,hy,rfl⟩
   ·obtain⟨L1,L2,rfl⟩:=List.append_of_mem hx;have hpw:=hr.pw;rw[List.pairwise_append]at hpw;obtain⟨pw1,pw2,pw3⟩:=hpw;rw[List.pairwise_cons]at pw2;simp only[List.map_append,ays]at hz;obtain⟨Fpre,f,Fpost,e1,e2,e3⟩:=U8 hz;have e4:Fpre=L1.map (·.2.2)/\f=x.2.2/\Fpost=L2.map (·.2.2):=by
     grind[List.append_inj,List.cons.injEq]
    obtain⟨rfl,rfl,rfl⟩:=e4;obtain⟨t1,g1,g2⟩:=e3 fun j c fc hj1 hj2=>by
     simp only[List.getElem?_map,aye]at hj1 hj2;obtain⟨y,hy,rfl⟩:=hj1;obtain⟨y',hy',rfl⟩:=hj2;rw[hy]at hy';cases hy';have hyL:=List.mem_of_getElem? hy;rcases(pw3 y hyL x σ).2 with hin|hh
     ·have:=hbl _ hin;rw[(hr.op y γ).2]at this;grind
     omega
    obtain⟨c1,_⟩:=hr.op x σ;obtain⟨hint,hco⟩:=(zg hc).2 x.1 o x.2.1 (by simpa using h2) c1;have nx:∀y,y∈L1++L2->y.1≠x.1:=by
     intro y hy;rcases List.mem_append.1 hy with hy|hy
     ·have:=(pw3 y hy x σ).1;omega
     ·have:=(pw2.1 y hy).1;omega
    refine Hu hcall hN h2 hco ok (Yq g1) fun a' w' ρ' ok' far=>?_;refine Ju hcall hN hc hlt hdep fuel (L:=L1++L2) (T:=T) (by simp at hl⊢;omega) ⟨by simpa using hr.size,fun y hy=>?_,fun y hy=>?_,fun j hj hjl=>?_,?_,fun y hy=>hr.lt y (by rcases List.mem_append.1 hy with hy|hy<;>simp[hy]),hr.pwT,cls'⟩ (by simpa [List.map_append]using g2) hgh hT ok' fun a'' w'' ρ'' ok'' far'=>hQ _ _ ρ'' ok'' (far.trans far')
    ·obtain⟨q1,q2⟩:=hr.op y (by rcases List.mem_append.1 hy with hy|hy<;>simp[hy]);exact⟨q1,by rw[set_ne _ (nx y hy)];exact q2⟩
    ·obtain⟨q1,q2⟩:=hr.opT y hy;have:=(hr.lt x σ y hy).1;exact⟨q1,by rw[set_ne _ ω];exact q2⟩
    ·have hne:j≠x.1:=by rintro rfl;rw[set_same]at hjl;cases hjl
     rw[set_ne _ hne]at hjl;rcases hr.all j hj hjl with⟨y,hy,rfl⟩|hyT
     ·refine .inl ⟨y,?_,rfl⟩;simp only[aDh,List.mem_cons]at hy⊢;rcases hy with hy|rfl|hy
      ·exact .inl hy
      ·exact absurd rfl hne
      ·exact .inr hy
     ·exact .inr hyT
    grind
   ·
    cases T with
    |nil=>simp at hy
    |cons z T'=>
    have hzy:z=y:=by
     rcases List.mem_cons.1 hy with rfl|hy'
     ·rfl
     ·have h5:=((List.pairwise_cons.1 hr.pwT).1 y hy').2;have:=hbl _ h5;rw[(hr.opT z σ).2]at this;cases this
    subst hzy;have hlate:∀x∈L,Jt g x.2.1 z.2:=fun x hx=>by
     rcases(hr.lt x hx z σ).2 with h5|h5
     ·have:=hbl _ h5;rw[(hr.op x hx).2]at this;cases this
     ·exact h5
    simp only[ays,aG,bq]at hT;split at hT
    ·cases hT
    ·rename_i t2 ht2;obtain⟨r1,r2,g1,g2,g3⟩:=Vd (L:=L.map (·.2.1)) (fun x hx=>by
      obtain⟨q,hq,rfl⟩:=List.mem_map.1 hx;exact hlate q hq) hz hgh ht2
     obtain⟨ρg,okg,farg⟩:=L6 ok g1;obtain⟨c1,_⟩:=hr.opT z σ;obtain⟨hint,hco⟩:=(zg hc).2 z.1 o z.2 (by simpa using h2) c1;refine Hu hcall hN h2 hco okg g2 fun a' w' ρ' ok' far=>?_;refine Ju hcall hN hc hlt hdep fuel (g:=0) (L:=L) (T:=T') (by simp at hl⊢;omega) ⟨by simpa using hr.size,fun x hx=>?_,fun y hy=>?_,fun j hj hjl=>?_,hr.pw,fun x hx y hy=>?_,(List.pairwise_cons.1 hr.pwT).2,cls'⟩ g3 rfl hT ok' fun a'' w'' ρ'' ok'' far'=>hQ _ _ ρ'' ok'' ((farg.trans far).trans far')
     ·obtain⟨q1,q2⟩:=hr.op x hx;have:=(hr.lt x hx z σ).1;exact⟨q1,by rw[set_ne _ ω];exact q2⟩
     ·obtain⟨q1,q2⟩:=hr.opT y (by simp[hy]);have:=((List.pairwise_cons.1 hr.pwT).1 y hy).1;exact⟨q1,by rw[set_ne _ ω];exact q2⟩
     ·have hne:j≠z.1:=by rintro rfl;rw[set_same]at hjl;cases hjl
      rw[set_ne _ hne]at hjl;rcases hr.all j hj hjl with hx| ⟨y,hy,rfl⟩
      ·exact .inl hx
      ·rcases List.mem_cons.1 hy with rfl|hy'
       ·exact absurd rfl hne
       ·exact .inr ⟨y,hy',rfl⟩
     ·obtain⟨q1,q2⟩:=hr.lt x hx y (by simp[hy]);exact⟨q1,q2.imp_right Jt.zero⟩
theorem Ve(hm:P.follows .mixedOrders=true)(hcall:mH P I call md)(hN:N<=1000){id}{hs0 cl}{w}{X}{ρ}{h}{s}{a}{t0 tg t}{m g}{qs}{Fs}{Q}
  (hc:sx P N ops hs0 ops.toList=some cl)
  (hsp:∀j b bf,cl[j]?=some b->(qC ops.toList [])[j]?=some bf->(∀i∈bf,i<j)/\∀i a,i<j->cl[i]?=some a->i∈bf\/KW m g qs i j a b=true)
  (ok:Ok I N w X ρ h s a) (e1:io call md (cl.take m) s h=some (t0,Fs)) (hps:qs.all (yw Fs)=true) (hgh:tO md.nm g t0.s t0.h=some tg) (hT:aG call md (cl.drop m) tg.s tg.h=some t)
  (hQ:∀a' w' ρ',Ok I N w' X ρ' t.h t.s a'->Far md.nm w ρ h w' ρ' t.h->Q .normal a' w'):(Code.region id ops true).wp P Q a w:=by
 refine wp_region_any hm ?_;obtain⟨ok',far'⟩:=ok.draws (md:=md);obtain⟨lf,gf⟩:=U9 e1;obtain⟨lc,gc⟩:=zg hc;have lc':cl.length=ops.size:=ω
 have ltm:(cl.take m).length=min m ops.size:=γ
 have lb:(qC ops.toList []).length=ops.size:=by
  obtain⟨r,q1,q2⟩:=MW ops.toList [];grind
 have bget:∀j,j<ops.size->(qC ops.toList [])[j]?=some ((qC ops.toList []).getD j []):=fun j hj=>by
  grind
 have hlt:∀j,j<ops.size->∀i∈ (qC ops.toList []).getD j [],i<j:=fun j hj i hi=>by
  simp_all
 have hdep:∀ (j:Nat) (o:Oper),ops[j]?=some o->(∀d∈rI o,d∈ (qC ops.toList []).getD j [])/\∀i∈ (qC ops.toList []).getD j [],i∈rI o\/∃d∈rI o,i∈ (qC ops.toList []).getD d []:=fun j o hj=>by
  have hjs:j<ops.size:=(Array.getElem?_eq_some_iff.1 hj).1;obtain⟨pre,q1,q2,r,q3⟩:=Va ops.toList [] j o γ;simp only[ayR,ayc]at q1 q2;have hrow:(qC ops.toList []).getD j []=Hl o pre:=by
   grind
  have hpre:∀d∈rI o,pre.getD d []=(qC ops.toList []).getD d []:=fun d hd=>by
   have hdj:d<j:=hlt j hjs d (by rw[hrow];exact MV.2 (.inl hd));grind
  refine⟨fun d hd=>by rw[hrow];exact MV.2 (.inl hd),fun i hi=>?_⟩;rw[hrow]at hi;rcases MV.1 hi with hi| ⟨d,hd,hid⟩
  all_goals grind
 have getL:∀x∈ (List.range ops.size).zip ((cl.take m).zip Fs),x.1<m/\x.1<ops.size/\cl[x.1]?=some x.2.1/\Fs[x.1]?=some x.2.2:=fun x hx=>by
  obtain⟨n,hn⟩:=List.getElem?_of_mem hx;grind
 have getT:∀y∈ (List.range' (min m ops.size) (ops.size-m)).zip (cl.drop m),m<=y.1/\y.1<ops.size/\cl[y.1]?=some y.2:=fun y hy=>by
  obtain⟨n,hn⟩:=List.getElem?_of_mem hy;rw[List.getElem?_zip_eq_some]at hn;grind
 refine Ju hcall hN hc (bf:=fun j=>(qC ops.toList []).getD j []) hlt hdep ops.size (g:=g) (L:=(List.range ops.size).zip ((cl.take m).zip Fs)) (T:=(List.range' (min m ops.size) (ops.size-m)).zip (cl.drop m)) ?_ ⟨by simp,fun x hx=>?_,fun y hy=>?_,fun j hj _=>?_,?_,fun x hx y hy=>?_,?_,fun k hk hkl=>?_⟩ (t0:=t0) (tg:=tg) (t:=t) ?_ hgh ?_ ok' fun a'' w'' ρ'' ok'' far''=>hQ _ _ ρ'' ok'' (far'.trans far'')
 ·grind
 ·obtain⟨q0,q1,q2,q3⟩:=getL x hx;exact⟨q2,by simp[q1]⟩
 ·obtain⟨q0,q1,q2⟩:=getT y hy;exact⟨q2,by simp[q1]⟩
 ·by_cases hjm:j<m
  ·have hjt:j< (cl.take m).length:=ω
   refine .inl ⟨(j,(cl.take m)[j],Fs[j]'(by omega)),?_,rfl⟩;refine List.mem_of_getElem? (i:=j) ?_;grind
  ·have hjt:j-m< (cl.drop m).length:=by rw[azd,lc'];omega
   refine .inr ⟨(j,(cl.drop m)[j-m]),?_,rfl⟩;refine List.mem_of_getElem? (i:=j-m) ?_;rw[List.getElem?_zip_eq_some];refine⟨?_,by rw[List.getElem?_eq_getElem hjt]⟩;rw[List.getElem?_range' ω];simp only[Option.some.injEq];omega
 ·rw[List.pairwise_iff_getElem];intro i j hi hj hij;have hj':j< (cl.take m).length/\j<Fs.length:=by simp only[List.length_zip,List.length_range,lf]at hj;omega
  have hjs:j<ops.size:=ω
  have hjm:j<m:=ω
  simp only[List.getElem_zip,List.getElem_range,List.getElem_take];refine⟨hij,?_⟩;rcases(hsp j cl[j] _ σ (bget j hjs)).2 i cl[i] ω σ with hb|hb
  ·grind
  ·refine .inr ?_;simp only[KW,if_pos hjm,aa7,ayf,Bool.or_eq_true]at hb;obtain⟨hb1,hb2⟩:=hb;refine⟨hb1,?_⟩;have gi:∀q (hq:q< (cl.take m).length) (hq':q<Fs.length),∃s' h' t',eL call md (cl[q]'(by omega)) s' h'=some (t',Fs[q]):=fun q hq hq'=>by
    refine gf q _ _ ?_ (by rw[List.getElem?_eq_getElem hq']);rw[List.getElem?_eq_getElem hq,List.getElem_take]
   obtain⟨s1,h1,t1,st1⟩:=gi i ω ω;obtain⟨s2,h2,t2,st2⟩:=gi j hj'.1 hj'.2;rcases hb2 with((hb2|hb2)|hb2)|hb2
   ·rw[Zl st1 hb2];exact R9 _
   ·rw[Zl st2 hb2];exact(R9 _).symm
   ·obtain⟨r1,k1⟩:=Oo st1 hb2.1;obtain⟨r2,k2⟩:=Oo st2 hb2.2;rw[k1,k2];simp[uC,oG,Cq]
   ·have:=List.all_eq_true.1 hps (i,j) (by simpa using hb2);simp only[yw]at this;rw[List.getElem?_eq_getElem (show i<Fs.length from by omega),List.getElem?_eq_getElem hj'.2]at this;exact this
 ·obtain⟨q0,q1,q2,q3⟩:=getL x hx;obtain⟨p0,p1,p2⟩:=getT y hy;refine⟨by omega,?_⟩;rcases(hsp y.1 y.2 _ p2 (bget y.1 p1)).2 x.1 x.2.1 ω q2 with hb|hb
  ·exact .inl hb
  ·simp only[KW,if_neg (show¬y.1<m by omega),ayf]at hb;exact .inr (abH hb.2)
 ·rw[List.pairwise_iff_getElem];intro i j hi hj hij;have hi':=getT _ (ayC hi);have hj':=getT _ (ayC hj);have hlt2:((List.range' (min m ops.size) (ops.size-m)).zip (cl.drop m))[i].1< ((List.range' (min m ops.size) (ops.size-m)).zip (cl.drop m))[j].1:=by
   simp only[List.getElem_zip,List.getElem_range'];omega
  refine⟨hlt2,?_⟩;rcases(hsp _ _ _ hj'.2.2 (bget _ hj'.2.1)).2 _ _ hlt2 hi'.2.2 with hb|hb
  ·omega
  ·simp only[KW,if_neg (Nat.not_lt.2 hj'.1),ayf,decide_eq_true_eq]at hb;have:=hb.1;have:=hi'.1;omega
 ·simp[hk]at hkl
 ·have m1:((List.range ops.size).zip ((cl.take m).zip Fs)).map (·.2.1)=cl.take m:=by
   rw[show(fun x:Nat×COp×Fp=>x.2.1)=Prod.fst∘Prod.snd from rfl,←List.map_map,List.map_snd_zip (by simp[lc',lf,ayo];omega),List.map_fst_zip ω]
  have m2:((List.range ops.size).zip ((cl.take m).zip Fs)).map (·.2.2)=Fs:=by
   rw[show(fun x:Nat×COp×Fp=>x.2.2)=Prod.snd∘Prod.snd from rfl,←List.map_map,List.map_snd_zip (by simp[lc',lf,ayo];omega),List.map_snd_zip ω]
  rw[m1,m2];exact e1
 grind[List.range',List.map_snd_zip]
theorem abK(hm:P.follows .mixedOrders=true)(hcall:mH P I call md)(hN:N<=1000):R1 P I call md N:=by
 intro id ops hs0 cl w X ρ h s a t ps Q hc hd ok hz hQ;unfold UT aiS at hd;unfold rF at hz;cases hb:BA ps with
 |none=>
  rw[hb]at hd hz;simp only[BS,ayb]at hz;obtain⟨⟨t0,Fs⟩,e1,e2⟩:=hz;split at e2
  ·rename_i hps;cases e2;have hsp:=Cw (done:=[]) (j0:=0) rfl hd;refine Ve hm hcall hN (m:=cl.length) (g:=0) (qs:=ps) hc (fun j b bf h1 h2=>?_) ok (by rw[aEf];omega) hps rfl (by rw[List.drop_length];rfl) hQ;have hj:=(List.getElem?_eq_some_iff.1 h1).1
   simp_all[KW,if_pos,ayc]
  grind
 |some q=>
  rw[hb]at hd hz;simp only[Hi,ayb]at hz;obtain⟨⟨t0,Fs⟩,e1,e2⟩:=hz;split at e2
  ·rename_i hps;simp only[bq]at e2;split at e2
   ·grind
   ·rename_i tg htg;have hsp:=Cw (done:=[]) (j0:=0) rfl hd;refine Ve hm hcall hN (m:=q.1) (g:=q.2) (qs:=ps.tail) hc (fun j b bf h1 h2=>?_) ok e1 hps htg e2 hQ;grind
  grind
end
theorem BD:∀ss l,(dQ ss l).length=l.length
 |[],l=>by cases l<;>simp[dQ]
 |s::ss,[]=>by simp[dQ]
 |s::ss,a::l=>by simp[dQ,BD ss l]
theorem DJ:∀ss l (j:Nat) c,(dQ ss l)[j]?=some c->∃c0,l[j]?=some c0/\(c=c0\/∃s,c=nrmL s c0)
 |[],l,j,c,h=>⟨c,by grind[dQ],.inl rfl⟩
 |s::ss,[],j,c,h=>by grind[dQ]
 |s::ss,a::l,0,c,h=>by grind[dQ]
 |s::ss,a::l,j+1,c,h=>by
  simpa using DJ ss l j c h
theorem DK{s}{c}(hd:aE c=true):aE (nrmL s c)=true:=by
 obtain⟨k,cs⟩:=s;cases k with
 |zero=>grind[nrmL]
 |succ k=>cases c<;>simp[aE]at hd<;>simp[nrmL,aE,hd]
theorem gQ(s){c}(h1:∀k r,c≠ .sl k r)(h2:c≠ .emp)(h3:∀k r,c≠ .osl k r):nrmL s c=c:=by
 obtain⟨k,cs⟩:=s;cases k with
 |zero=>simp[nrmL]
 |succ k=>cases c<;>first|rfl|exact absurd rfl (h1 _ _)|exact absurd rfl h2|exact absurd rfl (h3 _ _)
section
variable {w:World} {A:Nat→Prop} {ρ:ey} {h:ac}
theorem RD.nrmL{c}{u}(hd:RD w A c u):∀s,RD w A (nrmL s c) u:=by
 induction hd with
 |any u h=>intro s;rw[gQ s σ σ σ];exact .any u h
 |v x h=>intro s;rw[gQ s σ σ σ];exact .v x h
 |emp a=>
  intro s;obtain⟨k,cs⟩:=s;cases k with
  |zero=>exact .emp a
  |succ k=>
   exact .sl k [] a 0 ⟨0,0,none⟩ (fun _ _=>undef) (ayd 0) (fun h=>absurd rfl h) (fun _ h=>by grind) (fun i row j c h=>by grind) (fun _ h=>by grind) (fun i row j c h=>by grind)
 |sl k rows a cap ad vals hc ha hk hv hl hr ih=>
  intro s;obtain⟨k',cs⟩:=s;cases k' with
  |zero=>exact .sl k rows a cap ad vals hc ha hk hv hl hr
  |succ k'=>
   simp only[Ab.nrmL];have key:∀ (i:Nat) row (j:Nat) c,(rows.map (dQ cs))[i]?=some row->row[j]?=some c->∃row0 c0,rows[i]?=some row0/\row0[j]?=some c0/\(c=c0\/∃s,c=Ab.nrmL s c0):=by
    intro i row j c h1 h2;simp only[List.getElem?_map,aye]at h1;obtain⟨row0,h3,rfl⟩:=h1;obtain⟨c0,h4,h5⟩:=DJ cs row0 j c h2;grind
   have:=RD.sl (w:=w) (A:=A) k (rows.map (dQ cs)) a cap ad vals γ (fun hne=>ha γ) (fun row hm=>by
     simp only[ay2]at hm;obtain⟨row0,hm,rfl⟩:=hm;rw[BD];grind) (fun i row j c h1 h2=>by
     grind) (fun row hm c hc=>by
     obtain⟨i,hi⟩:=List.getElem?_of_mem hm;obtain⟨j,hj⟩:=List.getElem?_of_mem hc;obtain⟨row0,c0,h3,h4,h5⟩:=key i row j c hi hj;have hd:=hl row0 (List.mem_of_getElem? h3) c0 (List.mem_of_getElem? h4);rcases h5 with rfl| ⟨s,rfl⟩
     ·omega
     ·exact DK hd) (fun i row j c h1 h2=>by
     grind)
   grind
 |agg cs us hs h1 hr ih=>intro s;rw[gQ s σ σ σ];exact .agg cs us hs h1 hr
 |fn f=>intro s;rw[gQ s σ σ σ];exact .fn f
theorem RV.nrmL{c}{u}(hv:RV w A ρ h c u)(s):RV w A ρ h (nrmL s c) u:=by
 cases hv with
 |dat hd=>exact .dat (hd.nrmL s)
 |anyv u=>rw[gQ s σ σ σ];exact .anyv u
 |und=>rw[gQ s σ σ σ];exact .und
 |ref id sub k i j hp=>rw[gQ s σ σ σ];exact .ref id sub k i j hp
 |rsl id sub k lo n cap a hp hn hb ha=>rw[gQ s σ σ σ];exact .rsl id sub k lo n cap a hp hn hb ha
 |rsc id k lo n cap a hp hn hb ha=>rw[gQ s σ σ σ];exact .rsc id k lo n cap a hp hn hb ha
 |ipt cs ad vals hA hs hv hl hr=>rw[gQ s σ σ σ];exact .ipt cs ad vals hA hs hv hl hr
 |agg cs us hs h1 hr=>rw[gQ s σ σ σ];exact .agg cs us hs h1 hr
 |tup vs us hs hr=>rw[gQ s σ σ σ];exact .tup vs us hs hr
 |fn f x y us ts hs ht hx hy=>rw[gQ s σ σ σ];exact .fn f x y us ts hs ht hx hy
theorem RV.nrmV{c}{u}(hv:RV w A ρ h c u)(ss):RV w A ρ h (nrmV ss c) u:=by
 cases c with
 |agg cs=>
  obtain⟨us,rfl,hs,h1,hr⟩:=hv.agg_inv;refine .agg _ us (by rw[BD];omega) h1 fun i c u hc hu=>?_;obtain⟨c0,h2,h3⟩:=DJ ss cs i c hc;rcases h3 with rfl| ⟨s,rfl⟩
  ·grind
  ·exact(hr i c0 u h2 hu).nrmL s
 |_=>exact hv.nrmL _
theorem zi:∀ss l,(bp ss l).length=l.length
 |[],l=>by cases l<;>simp[bp]
 |s::ss,[]=>by simp[bp]
 |s::ss,a::l=>by simp[bp,zi ss l]
theorem yA:∀ss l (j:Nat) c,(bp ss l)[j]?=some c->∃c0,l[j]?=some c0/\(c=c0\/∃s,c=Ab.nrmV s c0)
 |[],l,j,c,h=>⟨c,by grind[bp],.inl rfl⟩
 |s::ss,[],j,c,h=>by grind[bp]
 |s::ss,a::l,0,c,h=>by grind[bp]
 |s::ss,a::l,j+1,c,h=>by
  simpa using yA ss l j c h
end
def uD:AV->Bool
 | .osl _ _| .obx _=>true
 |_=>false
def Vf(L:List Nat)(h':ac)(a c:AV):Prop:=
 ∃id,cf a=[id]/\bh id=false/\aD L (h' id)=true/\
  ((∃k rows,c=.osl k rows/\a=.rsl id none k 0 rows.length/\h' id=.ar k rows)\/(∃xs,c=.obx xs/\a=.ref id none 0 0 0/\h' id=.bx xs))
theorem Sc{m}{h}{c}(hc:uD c=false):dL m h c=(c,h):=by
 cases c<;>simp[uD]at hc<;>rfl
theorem Vf.mat{L}{h'}{a c}(hm:Vf L h' a c)(m)(h2):∃id,cf a=[id]/\bh id=false/\aD L (h' id)=true/\h' id≠ .dead/\(dL m h2 c).2=upd h2 m (h' id):=by
 obtain⟨id,h1,h3,h4,⟨k,rows,rfl,rfl,h5⟩| ⟨xs,rfl,rfl,h5⟩⟩:=hm
 ·exact⟨id,h1,h3,h4,by grind,by rw[h5];rfl⟩
 ·exact⟨id,h1,h3,h4,by grind,by rw[h5];rfl⟩
theorem Yr{x}{l}(h:kR (x::l)=true):x∉l/\kR l=true:=by
 simp_all[kR,ayf,azf,List.contains_eq_mem,decide_eq_false_iff_not]
theorem Oq{l l'}:kR (l++l')=true->kR l'=true/\∀x,x∈l->x∉l':=by
 induction l with
 |nil=>grind
 |cons y l ih=>
  intro h;obtain⟨h1,h2⟩:=Yr h
  simp_all
section
variable {h':ac} {L:List Nat}
theorem Hx(hL:∀i,2000<=i->L.contains i=false):∀ (zas cs:List AV) m h2 g,2000<=m->zas.length=cs.length->
  (∀ (j:Nat) a c,zas[j]?=some a->cs[j]?=some c->uD c=true->Vf L h' a c)->kR ((zas.flatMap cf).filter fun i=>!bh i)=true->Emb L (fun i=>i) g h' h2->(∀i,m<=i->h2 i=.dead)->
  (∀i,h2 i≠ .dead->∀id,id∈zas.flatMap cf->bh id=false->g i≠id)->
  ∃gm,Emb L (fun i=>i) gm h' (cM m h2 cs).2/\(∀i,i<m->(cM m h2 cs).2 i=h2 i/\gm i=g i)/\
   (∀i,(cM m h2 cs).2 i≠ .dead->(h2 i≠ .dead/\gm i=g i)\/∃ (j:Nat) (a c:AV),zas[j]?=some a/\cs[j]?=some c/\uD c=true/\cf a=[gm i])/\
   (∀j a c id,zas[j]?=some a->cs[j]?=some c->uD c=true->cf a=[id]->gm (m+j)=id/\(cM m h2 cs).2 (m+j)=h' id/\h' id≠ .dead)
 |[],[],m,h2,g,hm,_,_,_,em,_,_=>⟨g,em,fun _ _=>⟨rfl,rfl⟩,fun _ hi=>.inl ⟨hi,rfl⟩,fun j a c id h1=>by grind⟩
 |[],c::cs,m,h2,g,_,hl,_,_,_,_,_=>by grind
 |a::zas,[],m,h2,g,_,hl,_,_,_,_,_=>by grind
 |a::zas,c::cs,m,h2,g,hm,hl,hmv,hnd,em,hfree,hid=>by
  simp only[List.flatMap_cons,List.filter_append]at hnd;obtain⟨nd2,nd3⟩:=Oq hnd;have hmv':∀j a c,zas[j]?=some a->cs[j]?=some c->uD c=true->Vf L h' a c:=fun j a' c' h1 h3=>hmv (j+1) a' c' γ γ;have hl':zas.length=cs.length:=γ
  cases hc:uD c with
  |false=>
   simp only[cM,Sc hc];obtain⟨gm,e1,e2,e3,e4⟩:=Hx hL zas cs (m+1) h2 g ω hl' hmv' nd2 em (fun i hi=>hfree i ω) (fun i hi id hm'=>hid i hi id γ);refine⟨gm,e1,fun i hi=>e2 i ω,fun i hi=>?_,fun j a' c' id h1 h3 h4 h5=>?_⟩
   ·rcases e3 i hi with hh| ⟨j,a',c',h1,h3,h4,h5⟩
    ·grind
    ·exact .inr ⟨j+1,a',c',by grind,by grind,h4,h5⟩
   ·cases j with
    |zero=>
     grind
    |succ j=>
     grind
  |true=>
   obtain⟨id,i1,i2,i3,i4,i5⟩:=(hmv 0 a c rfl rfl hc).mat m h2;simp only[cM,i5];have hida:id∈ (a::zas).flatMap cf:=γ
   have em1:=em.add (m:=m) (id:=id) (hfree m (ayd _)) (hL m hm) (fun i hi=>hid i hi id hida i2) i3;have nin:∀id',id'∈zas.flatMap cf->bh id'=false->id'≠id:=by
    grind
   obtain⟨gm,e1,e2,e3,e4⟩:=Hx hL zas cs (m+1) (upd h2 m (h' id)) (upd g m id) ω hl' hmv' nd2 em1 (fun i hi=>by grind[aM]) (fun i hi id' hm' hp'=>by
    by_cases e:i=m
    ·subst e;rw[aA];exact fun ee=>nin id' hm' hp' ee.symm
    ·rw[aM _ _ e]at hi⊢;exact hid i hi id' (by simp only[List.flatMap_cons,aDh];exact .inr hm') hp')
   have atm:=e2 m ω;rw[aA,aA]at atm;refine⟨gm,e1,fun i hi=>?_,fun i hi=>?_,fun j a' c' id' h1 h3 h4 h5=>?_⟩
   ·grind[aM]
   ·rcases e3 i hi with⟨h1,h3⟩| ⟨j,a',c',h1,h3,h4,h5⟩
    ·by_cases e:i=m
     ·subst e;exact .inr ⟨0,a,c,rfl,rfl,hc,by grind⟩
     grind[aM]
    ·exact .inr ⟨j+1,a',c',by grind,by grind,h4,h5⟩
   ·cases j with
    |zero=>
     grind
    |succ j=>
     grind
theorem Vg:∀l m h j z,(cM m h l).1[j]?=some z->∃c,l[j]?=some c/\z=(dL (m+j) h c).1
 |[],m,h,j,z,hz=>by grind[cM]
 |c::l,m,h,0,z,hz=>by
  grind[cM]
 |c::l,m,h,j+1,z,hz=>by
  obtain⟨c',h1,h2⟩:=Vg l (m+1) _ j z hz;refine⟨c',by simpa using h1,?_⟩;rw[h2,MU _ _ h,show m+1+j=m+(j+1)from by omega]
theorem Md:∀l m h,(cM m h l).1.length=l.length
 |[],m,h=>rfl
 |c::l,m,h=>by simp[cM,Md l]
end
section
variable {w:World} {X:Nat→Prop} {ρ:ey} {h':ac} {L:List Nat}
structure Seen (w:World) (X:Nat->Prop) (ρ:ey) (h':ac) (a:AV) (A2:Nat->Prop) (ρ2:ey) (h2:ac):Prop where
 mono:∀b,aI w X h' ρ b->A2 b
 ids:∀id,id∈cf a->bh id=false->∀sub,live h' id sub->A2 (ρ id sub).1
 pas:∀id,bh id=true->h' id≠ .dead->h2 id≠ .dead/\ρ2 id none=ρ id none
def agT(w:World)(X:Nat->Prop)(ρ:ey)(h':ac)(L:List Nat)(a c:AV)(u:Value):Prop:=
 (uD c=true->Vf L h' a c)/\(uD c=false->∀A2 ρ2 h2,Seen w X ρ h' a A2 ρ2 h2->RV w A2 ρ2 h2 c u)
theorem Me{c}(hd:mh c=true):jG L c=true:=by
 simp only[mh,Bool.or_eq_true]at hd;simp only[jG,Bool.or_eq_true];rcases hd with hd|hd
 ·grind
 ·cases c<;>simp[aE]at hd<;>simp[bg,bo,hd]
theorem Mf{a b}(he:mq h' a=some b)(hd:aE b=true\/∃k r,b=.osl k r){id}(hi:fI a=[id]):bh id=false:=by
 cases a<;>simp only[fI]at hi<;>try (cases hi;done)
 case ref i sub k x y=>
  cases sub with
  |some p=>grind[mq,aE]
  |none=>
   grind[mq,aE,aa4]
 case rsl i sub k x y=>
  have hi':i=id:=γ
  subst hi';cases hp:bh i with
  |false=>rfl
  |true=>cases sub<;>simp[mq,hp]at he
theorem ajy{b c}(hd:Cs b=some c):aE b=true\/∃k r,b=.osl k r:=by
 unfold Cs at hd;grind
theorem Vh:∀ {cs ds},mr h' cs=some ds->∀ (i:Nat) a id,cs[i]?=some a->fI a=[id]->bh id=false
 |[],ds,_,i,a,id,h1,_=>by grind
 |c::cs,ds,he,i,a,id,h1,h2=>by
  simp only[mr,ayb]at he;obtain⟨b,e1,c',e2,q,e3,e4⟩:=he;cases i with
  |zero=>simp at h1;subst h1;exact Mf e1 (ajy e2) h2
  |succ i=>exact Vh e3 i a id (by simpa using h1) h2
theorem Sd{s}{b}(h:uD (nrmL s b)=true):nrmL s b=b:=by
 obtain⟨k,cs⟩:=s;cases k with
 |zero=>simp[nrmL]
 |succ k=>cases b<;>simp[nrmL,uD]at h⊢
theorem adP(ss){b}(h:∀cs,b≠ .agg cs):nrmV ss b=nrmL (ss.headD (.o 0 [])) b:=by
 cases b<;>first|rfl|exact absurd rfl (h _)
theorem agU(r:Rel w X ρ h'){a b}{u}(hv:RV w (aI w X h' ρ) ρ h' a u)(he:mq h' a=some b)(s):agT w X ρ h' L a (nrmL s b) u:=by
 have data:∀ {b},mq h' a=some b->aE b=true->(∀A2,(∀b,aI w X h' ρ b->A2 b)->(∀id sub,fI a=[id]->live h' id sub->A2 (ρ id sub).1)->RD w A2 b u)->
   ∀A2 ρ2 h2,Seen w X ρ h' a A2 ρ2 h2->RV w A2 ρ2 h2 (nrmL s b) u:=by
  intro b he hd hr A2 ρ2 h2 hs;exact .dat ((hr A2 hs.mono fun id sub hi hl=>hs.ids id (by
   have:cf a=fI a:=by cases a<;>first|rfl|simp[fI]at hi
   grind) (Mf he (.inl hd) hi) sub hl).nrmL s)
 rcases C5 r hv he with⟨id,k,rows,rfl,rfl,e,hp⟩| ⟨id,cs,rfl,rfl,e,hd,hp⟩| ⟨rfl,id,k,i,j,rfl,hp⟩| ⟨rfl,hd⟩| ⟨hd,hr⟩
 ·refine⟨fun hm=>?_,fun hm A2 ρ2 h2 hs=>?_⟩
  ·rw[Sd hm];exact⟨id,rfl,hp,by rw[e];rfl,.inl ⟨k,rows,rfl,rfl,e⟩⟩
  ·have hsl:nrmL s (.osl k rows)=nrmL s (.sl k rows):=by
    obtain⟨k',cs⟩:=s;cases k' with
    |zero=>grind[nrmL,uD]
    |succ k'=>simp[nrmL]
   rw[hsl];obtain⟨a',cap,rfl,_⟩:=hv.rsl_inv;exact .dat (((Ol r hv rfl he rfl).2 A2 hs.mono fun id' sub hi hl=>hs.ids id' (by
    grind[cf,fI]) (by grind[fI]) sub hl).nrmL s)
 ·refine⟨fun hm=>?_,fun hm=>?_⟩
  ·rw[Sd hm];refine⟨id,rfl,hp,?_,.inr ⟨cs,rfl,rfl,e⟩⟩;grind[aD,ayx,Me]
  ·rw[gQ s σ σ σ]at hm;cases hm
 ·refine⟨fun hm=>?_,fun hm A2 ρ2 h2 hs=>?_⟩
  ·rw[gQ s σ σ σ]at hm;cases hm
  ·rw[gQ s σ σ σ];obtain⟨rfl,hpr⟩:=hv.ref_inv;obtain⟨h1,h3⟩:=hs.pas id hp hpr;have:=RV.ref (w:=w) (A:=A2) (ρ:=ρ2) (h:=h2) id none k i j h1;grind
 ·refine⟨fun hm=>?_,fun hm A2 ρ2 h2 hs=>?_⟩
  ·have:=DK (s:=s) hd;cases hq:nrmL s b<;>rw[hq]at hm this<;>simp[uD,aE]at hm this
  ·exact(hv.keepD hd fun b hb=>⟨hs.mono b hb,rfl⟩).nrmL s
 ·refine⟨fun hm=>?_,fun hm=>data he hd hr⟩;have:=DK (s:=s) hd;cases hq:nrmL s b<;>rw[hq]at hm this<;>simp[uD,aE]at hm this
theorem ajz(r:Rel w X ρ h'){a b}{u}(hv:RV w (aI w X h' ρ) ρ h' a u)(he:rG h' a=some b){c}(hc:c=b\/∃ss,c=nrmV ss b):agT w X ρ h' L a c u:=by
 have hc':∃ss,c=nrmV ss b:=by
  rcases hc with rfl|hc
  ·refine⟨[],?_⟩;cases c<;>simp[nrmV,nrmL,dQ]
  omega
 obtain⟨ss,rfl⟩:=hc';by_cases hagg:∃cs,a=.agg cs
 ·obtain⟨cs,rfl⟩:=hagg;simp only[rG,aye]at he;obtain⟨ds,e1,rfl⟩:=he;refine⟨fun hm=>by grind[nrmV,uD],fun _ A2 ρ2 h2 hs=>?_⟩;obtain⟨us,rfl,q1,q2,q3⟩:=hv.agg_inv;obtain⟨l1,l2⟩:=L8 r cs ds e1;refine .agg _ us (by grind[BD]) q2 fun i c u hc hu=>?_;obtain⟨c0,h1,h3⟩:=DJ ss ds i c hc;have hi:i<cs.length:=γ
  have hci:cs[i]?=some cs[i]:=γ
  obtain⟨d1,d2⟩:=l2 i cs[i] c0 u hci h1 (q3 i _ u hci hu) (q2 i u hu);have hrd:=d2 A2 hs.mono fun id sub hii hl=>hs.ids id (by
   simp only[cf,List.mem_flatMap];exact⟨cs[i],by simp,by rw[hii];simp⟩) (Vh e1 i _ id hci hii) sub hl
  rcases h3 with rfl| ⟨s,rfl⟩
  ·exact .dat hrd
  ·exact .dat (hrd.nrmL s)
 ·have hl:rG h' a=mq h' a:=by cases a<;>first|rfl|exact absurd ⟨_,rfl⟩ hagg
  rw[hl]at he;have hb:∀cs,b≠ .agg cs:=by
   rcases C5 r hv he with⟨id,k,rows,h1,_⟩| ⟨id,cs',h1,_⟩| ⟨h1,id,k,i,j,h2,_⟩| ⟨h1,hd⟩| ⟨hd,hr⟩
   all_goals grind[aE]
  grind[adP,agU]
theorem Se:∀ {zas bs},vE h' zas=some bs->bs.length=zas.length/\∀ (j:Nat) a b,zas[j]?=some a->bs[j]?=some b->rG h' a=some b
 |[],bs,he=>by grind[vE,Option.some.injEq]
 |a::zas,bs,he=>by
  simp only[vE,ayb]at he;obtain⟨b,e1,q,e2,e3⟩:=he;cases e3;obtain⟨g1,g2⟩:=Se e2;refine⟨by simp[g1],fun j a' b' h1 h2=>?_⟩;cases j with
  |zero=>simp at h1 h2;subst h1 h2;exact e1
  |succ j=>exact g2 j a' b' (by simpa using h1) (by simpa using h2)
def Uj(us:Array Value):Value:=if h:us.size=1 then us[0]else .tuple us
theorem adQ{l}(hl:∀c∈l,∀vs,c≠ .tup vs)(n)(h):mat n h (xC l)=(xC (cM n h l).1,(cM n h l).2):=by
 match l with
 |[]=>rfl
 |[c]=>
  have:=hl c σ;cases c<;>first|rfl|exact absurd rfl (this _)
 |a::b::l=>rfl
end
section
variable {w:World} {X:Nat→Prop} {ρ:ey} {h':ac}
theorem Zm{L}{g}{h2}(em:Emb L (fun i=>i) g h' h2){b}(ho:sy h2 (fun i s=>ρ (g i) s) b):sy h' ρ b:=by
 obtain⟨i,s,h1,h3⟩:=ho;exact⟨g i,s,(em.live h1).1,h3⟩
theorem agV{ss}{b}{vs}(h:nrmV ss b=.tup vs):∃vs',b=.tup vs':=by
 cases b with
 |tup vs'=>grind
 |agg cs=>grind[nrmV]
 |_=>
  simp only[nrmV]at h;generalize ss.headD (.o 0 [])=s at h;obtain⟨k,cs⟩:=s;cases k<;>simp[nrmL]at h
theorem abL(r:Rel w X ρ h'){a}{u}{vs}(hv:RV w (aI w X h' ρ) ρ h' a u)(he:rG h' a=some (.tup vs)):False:=by
 by_cases hagg:∃cs,a=.agg cs
 ·obtain⟨cs,rfl⟩:=hagg
  simp_all[rG]
 ·have hl:rG h' a=mq h' a:=by cases a<;>first|rfl|exact absurd ⟨_,rfl⟩ hagg
  rw[hl]at he;rcases C5 r hv he with⟨id,k,rows,h1,_⟩| ⟨id,cs',h1,_⟩| ⟨h1,id,k,i,j,h2,_⟩| ⟨h1,hd⟩| ⟨hd,hr⟩
  all_goals grind[aE]
theorem adR(r:Rel w X ρ h'){n0 n}(hn0:n0<=1000)(hn:2000<=n)(hpass:∀id,bh id=true->h' id≠ .dead->(de n0).contains id=true){zas}{us}(hs:us.size=zas.length)
  (hv:∀ (i:Nat) c u,zas[i]?=some c->us[i]?=some u->RV w (aI w X h' ρ) ρ h' c u) {rs} {res} {obs} (hz:wE rs n0 h' zas=some (res,obs)):
  ∃ρ2,Rel w X ρ2 (mat n (aq obs) res).2/\(∀nm,Far nm w ρ h' w ρ2 (mat n (aq obs) res).2)/\RV w (aI w X (mat n (aq obs) res).2 ρ2) ρ2 (mat n (aq obs) res).2 (mat n (aq obs) res).1 (Uj us):=by
 unfold wE at hz;split at hz
 ·rename_i hc;simp only[ayf]at hc;obtain⟨hc1,hc2⟩:=hc;simp only[aye]at hz;obtain⟨bs,e1,e2⟩:=hz;cases e2;obtain⟨l1,l2⟩:=Se e1;have hLm:∀i,(de n0).contains i=true->bh i=true:=fun i hi=>by
   have:=AC.1 hi;simp only[bh,decide_eq_true_eq];omega
  have hL:∀i,2000<=i->(de n0).contains i=false:=fun i hi=>by
   grind[de]
  have hcl:(bp rs bs).length=zas.length:=by rw[zi,l1]
  have out:∀ (j:Nat) (a c:AV) (u:Value),zas[j]?=some a->(bp rs bs)[j]?=some c->us[j]?=some u->agT w X ρ h' (de n0) a c u:=fun j a c u h1 h3 h4=>by
   grind[yA,ajz]
  have uget:∀ (j:Nat) (a:AV),zas[j]?=some a->∃u,us[j]?=some u:=fun j a h1=>by
   have:j<us.size:=γ
   simp_all
  have em:=Emb.base (h':=h') hc2;have hlow:∀i,aq ((de n0).map h') i≠ .dead->(de n0).contains i=true:=fun i hi=>by
   rw[tq]at hi;split at hi
   ·rename_i h1;exact AC.2 h1
   grind
  obtain⟨gm,m1,m2,m3,m4⟩:=Hx hL zas (bp rs bs) n (aq ((de n0).map h')) (fun i=>i) hn hcl.symm (fun j a c h1 h3 h4=>by
    obtain⟨u,hu⟩:=uget j a h1;exact(out j a c u h1 h3 hu).1 h4) hc1 em (fun i hi=>by
    rw[tq,if_neg ω]) (fun i hi id _ hp e=>by
    grind)
  have notup:∀c∈bp rs bs,∀vs,c≠ .tup vs:=by
   rintro c hcm vs rfl
   obtain⟨j,hj⟩:=List.getElem?_of_mem hcm;have hja:j<zas.length:=γ
   obtain⟨u,hu⟩:=uget j zas[j] γ;obtain⟨b,h5,h6⟩:=yA rs bs j _ hj;have he:=l2 j zas[j] b γ h5;grind[agV,abL]
  rw[adQ notup];simp only;have hfar:∀b,aI w X h' ρ b->aI w X (cM n (aq ((de n0).map h')) (bp rs bs)).2 (fun i s=>ρ (gm i) s) b:=fun b hb=>⟨hb.1,hb.2.1,fun ho=>hb.2.2 (Zm m1 ho)⟩;have hps:∀id,bh id=true->(cM n (aq ((de n0).map h')) (bp rs bs)).2 id=aq ((de n0).map h') id/\gm id=id:=fun id hp=>m2 id (by
   simp only[bh,decide_eq_true_eq]at hp;omega)
  have hpd:∀id,bh id=true->h' id≠ .dead->(cM n (aq ((de n0).map h')) (bp rs bs)).2 id=h' id:=fun id hp hd=>by
   rw[(hps id hp).1,tq,if_pos (AC.1 (hpass id hp hd))]
  have rel2:=Rel.emb m1 r r.xl (fun i s hl=>r.nx _ _ (m1.live hl).1) hfar;refine⟨fun i s=>ρ (gm i) s,rel2,fun nm=>⟨rfl,rfl,rfl,ayd _,fun _ _ _=>rfl,fun b ho=>.inl (Zm m1 ho),fun id hp hd=>?_,fun _ id p hp hd hpr=>?_⟩,?_⟩
  ·grind[tq]
  ·have h1:h' id≠ .dead:=by obtain⟨_,_,_,e,_⟩:=hpr;grind
   grind[fK]
  ·
   have seen:∀ (j:Nat) (a c:AV),zas[j]?=some a->(bp rs bs)[j]?=some c->uD c=false->
     Seen w X ρ h' a (aI w X (cM n (aq ((de n0).map h')) (bp rs bs)).2 (fun i s=>ρ (gm i) s)) (fun i s=>ρ (gm i) s) (cM n (aq ((de n0).map h')) (bp rs bs)).2:=by
    intro j a c h1 h3 h4;refine⟨hfar,fun id hid hp sub hl=>⟨?_,fun hx=>r.nx _ _ hl (.inl hx),fun⟨i,s,ho1,ho2⟩=>?_⟩,fun id hp hd=>⟨by grind,by grind⟩⟩
    ·cases sub with
     |none=>
      have ho:=r.ob id;cases e:h' id with
      |bx cs=>rw[e]at ho;obtain⟨us,t,g1,_⟩:=ho;grind
      |ar k rows=>rw[e]at ho;obtain⟨us,t,g1,_⟩:=ho;grind
      |_=>simp[live,e]at hl
     |some p=>
      obtain⟨cs,k,rows,e,ec⟩:=hl;have ho:=r.ob id;rw[e]at ho;obtain⟨us,t,g1,g2,g3,g4⟩:=ho;obtain⟨u,_,a',cap,us',t',_,_,_,q4,_⟩:=g4 p _ ec;grind
    ·obtain⟨hl1,hdd⟩:=m1.live ho1;obtain⟨e1,_⟩:=r.inj _ _ _ _ hl1 hl ho2;rcases m3 i hdd with⟨q1,q2⟩| ⟨j',a',c',q1,q2,q3,q4⟩
     ·grind
     ·rw[e1]at q4;have hne:j'≠j:=by
       grind
      exact two_names zas j' j a' a id hne q1 h1 γ hid hp hc1
   have vals:∀ (j:Nat) (z:AV) (u:Value),(cM n (aq ((de n0).map h')) (bp rs bs)).1[j]?=some z->us[j]?=some u->
     RV w (aI w X (cM n (aq ((de n0).map h')) (bp rs bs)).2 (fun i s=>ρ (gm i) s)) (fun i s=>ρ (gm i) s) (cM n (aq ((de n0).map h')) (bp rs bs)).2 z u:=by
    intro j z u hz hu;obtain⟨c,h1,rfl⟩:=Vg _ _ _ _ _ hz;have hja:j<zas.length:=γ
    have ha:zas[j]?=some zas[j]:=γ
    have o:=out j zas[j] c u ha h1 hu;cases hm:uD c with
    |false=>
     rw[Sc hm];exact o.2 hm _ _ _ (seen j zas[j] c ha h1 hm)
    |true=>
     obtain⟨id,i1,i2,i3,⟨k,rows,rfl,i4,i5⟩| ⟨xs,rfl,i4,i5⟩⟩:=o.1 hm
     ·obtain⟨q1,q2,q3⟩:=m4 j zas[j] _ id ha h1 hm i1;have hva:=hv j zas[j] u ha hu;rw[i4]at hva;obtain⟨a',cap,rfl,hp,hnn,hb,hab⟩:=hva.rsl_inv;simp only[dL];exact .rsl (n+j) none k 0 rows.length cap a' (by show _≠_;grind) hnn γ (by simp only[q1];exact hab)
     ·obtain⟨q1,q2,q3⟩:=m4 j zas[j] _ id ha h1 hm i1;have hva:=hv j zas[j] u ha hu;rw[i4]at hva;obtain⟨rfl,hp⟩:=hva.ref_inv;simp only[dL];have:=RV.ref (w:=w) (A:=aI w X (cM n (aq ((de n0).map h')) (bp rs bs)).2 (fun i s=>ρ (gm i) s)) (ρ:=fun i s=>ρ (gm i) s) (h:=(cM n (aq ((de n0).map h')) (bp rs bs)).2) (n+j) none 0 0 0 (by show _≠_;rw[q2];exact q3);simp only[q1]at this;exact this
   have hzl:(cM n (aq ((de n0).map h')) (bp rs bs)).1.length=us.size:=by rw[Md,hcl,hs]
   unfold Uj;split
   ·rename_i h1
    match hq:(cM n (aq ((de n0).map h')) (bp rs bs)).1 with
    |[]=>rw[hq]at hzl;simp at hzl;omega
    |[z]=>exact vals 0 z us[0] (by rw[hq];rfl) (by simp[h1])
    |a::b::l=>rw[hq]at hzl;simp at hzl;omega
   ·rename_i h1
    match hq:(cM n (aq ((de n0).map h')) (bp rs bs)).1 with
    |[]=>exact .tup [] us (by rw[hq]at hzl;simpa using hzl.symm) fun i c u hc=>by simp at hc
    |[z]=>rw[hq]at hzl;simp at hzl;omega
    |a::b::l=>
     rw[hq]at hzl;exact .tup _ us hzl.symm fun i c u hc hu=>vals i c u (by rw[hq];exact hc) hu
 grind
where
 two_names:∀ (zas:List AV) (i j:Nat) (a b:AV) (id:Nat),i≠j->zas[i]?=some a->zas[j]?=some b->id∈cf a->id∈cf b->bh id=false->kR ((zas.flatMap cf).filter fun i=>!bh i)=true->False
 |[],i,j,a,b,id,_,h1,_,_,_,_,_=>by simp at h1
 |c::zas,i,j,a,b,id,hne,h1,h2,h3,h4,hp,hnd=>by
  simp only[List.flatMap_cons,List.filter_append]at hnd;obtain⟨nd2,nd3⟩:=Oq hnd;have mem:∀ (j:Nat) (b:AV),zas[j]?=some b->id∈cf b->id∈ (zas.flatMap cf).filter fun i=>!bh i:=fun j b hb hi=>
   List.mem_filter.2 ⟨List.mem_flatMap.2 ⟨b,List.mem_of_getElem? hb,hi⟩,by grind⟩
  cases i with
  |zero=>
   simp at h1;subst h1;cases j with
   |zero=>exact hne rfl
   |succ j=>exact nd3 id (List.mem_filter.2 ⟨h3,by simp[hp]⟩) (mem j b (by simpa using h2) h4)
  |succ i=>
   cases j with
   |zero=>
    simp at h2;subst h2;exact nd3 id (List.mem_filter.2 ⟨h4,by simp[hp]⟩) (mem i a (by simpa using h1) h3)
   |succ j=>exact two_names zas i j a b id ω γ (by simpa using h2) h3 h4 hp nd2
end
structure Text (P:Program) (f:FuncId) (fd:FD):Prop where
 text: ∃fn code N,P.funcs[f]?=some fn/\fn.body=some code/\fn.ntmps=N/\N<=1000/\i8 P N code fd.body=some fd.body/\Hn P fn.results.toList=some fd.res/\ (fn.name== "runtime.NumGoroutine")=false
theorem Vi(fn:Func)(tmps):fn.results.mapM (BX tmps)=(fun l=>l.toArray)<$>fn.results.toList.mapM (BX tmps):=by
 rw[Array.mapM_eq_mapM_toList]
theorem Ys{P}{fn}{tmps}{w}{us}(h:(fn.results.toList.mapM (BX tmps)).run P w=.ok us w):(results fn tmps).run P w=.ok (Uj us.toArray) w:=by
 have h1:(fn.results.mapM (BX tmps)).run P w=.ok us.toArray w:=by
  simp_all[Vi,Sem.run_map]
 have h2:results fn tmps=(fn.results.mapM (BX tmps)>>=fun vs=>pure (Uj vs)):=by
  congr 1
 simp_all
section
variable {P:Program} {I:Inv} {call:iG} {md:Mode}
theorem ajA(hm:P.follows .mixedOrders=true)(hcall:mH P I call md){f}{fd}{lf}(ht:Text P f fd):qh P I md.nm f (FU call md lf fd):=by
 obtain⟨fn,code,N,t1,t2,t3,t4,t5,t6,t7⟩:=ht.text;intro args obs obs' res w X ρ vals n hz hn hi r hsz hv;unfold FU at hz;split at hz
 ·rename_i hc;obtain⟨c1,c2⟩:=hc;have he:(callFunc f vals).run P w=.ok (.enter f vals) w:=by
   simp_all[callFunc,Sem.run_bind,Result.andThen]
  unfold Enters;rw[he];refine calls_of_wp t1 t2 ?_;have hget:∀i,(vals++Array.replicate (fn.ntmps-vals.size) undef).getD i undef=vals.getD i undef:=fun i=>by
   simp only[Array.getD_eq_getD_getElem?,Array.getElem?_append];grind
  have ok:Ok I N w X ρ (aq obs) (uw args) {tmps:=vals++Array.replicate (fn.ntmps-vals.size) undef,defers:=[]}:=by
   refine⟨r,fun i=>?_,by grind,rfl,hi⟩;simp only[hget,uw];by_cases h:i<args.length
   ·rw[Array.getD_eq_getD_getElem?];grind
   ·rw[List.getElem?_eq_none ω];exact .anyv _
  have fin:∀ {t:St} {a} {w'} {ρ'},Ok I N w' X ρ' t.h t.s a->Far md.nm w ρ (aq obs) w' ρ' t.h->DB md.nm fd.rs fd.res obs.length t.s t.h=some (res,obs')->
    a.defers=[]/\∃v,(results fn a.tmps).run P w'=.ok v w'/\∃ρ'',Rel w' X ρ'' (mat n (aq obs') res).2/\Far md.nm w ρ (aq obs) w' ρ'' (mat n (aq obs') res).2/\
     RV w' (aI w' X (mat n (aq obs') res).2 ρ'') ρ'' (mat n (aq obs') res).2 (mat n (aq obs') res).1 v:=by
   intro t a w' ρ' ok' far hf;refine⟨ok'.defers,?_⟩;simp only[DB,ayb]at hf;obtain⟨⟨vs,h',ks⟩,e1,e2⟩:=hf;split at e2
   ·rename_i hnm;obtain⟨us,g1,g2,g3,g4,g5⟩:=L7 (a:=a) fn.results.toList fd.res t6 ok'.rel ok'.rs e1;refine⟨_,Ys g1,?_⟩;have far2:=far.trans (g4.far hnm);obtain⟨ρ2,q1,q2,q3⟩:=adR (us:=us.toArray) g3 c2 hn (fun id hp hd=>by
     have:=(far2.stay id hp hd).1;unfold aq at this;refine AC.2 ?_;grind) ω (fun i c u hc hu=>g5 i c u hc γ) e2
    exact⟨ρ2,q1,far2.trans (q2 md.nm),q3⟩
   grind
  cases hx:cX call md lf fd.body (uw args) (aq obs)with
  |none=>rw[hx]at hz;cases hz
  |some q=>
   obtain⟨e,t⟩:=q;rw[hx]at hz;refine abF (N:=N) hcall t4 (abK hm hcall t4) lf fd.body code t5 hx ok fun a' w' ρ' ok' far=>?_;cases e with
   |normal=>
    obtain⟨d1,v,d2,d3⟩:=fin ok' far hz;exact⟨d1,v,d2,d3⟩
   |ret=>
    obtain⟨d1,v,d2,d3⟩:=fin ok' far hz;exact⟨d1,v,d2,d3⟩
   |exit id=>cases hz
 grind
end
section
variable {w:World} {X:Nat→Prop} {ρ:ey} {h h':ac}
theorem Sf{a c}{ks}(hz:fP h a=some (c,h',ks)):∀p∈ks,p.2=true:=by
 unfold fP at hz;split at hz
 ·unfold mZ at hz;grind
 ·unfold I8 agC at hz;grind
 grind
theorem Ot:∀ {l cs} {h h'} {ks},iY h l=some (cs,h',ks)->∀p∈ks,p.2=true
 |[],cs,h,h',ks,hz=>by grind[iY,Option.some.injEq,Prod.mk.injEq]
 |a::l,cs,h,h',ks,hz=>by
  simp only[iY,ayb]at hz;obtain⟨⟨c,h1,k1⟩,e1,⟨q,h2,k2⟩,e2,e3⟩:=hz;cases e3;intro p hp;rcases List.mem_append.1 hp with hp|hp
  ·exact Sf e1 p hp
  ·exact Ot e2 p hp
theorem agW{a c}{ks}(hz:wx h a=some (c,h',ks)):∀p∈ks,p.2=true:=by
 unfold wx at hz;split at hz
 ·simp only[ayb]at hz;obtain⟨⟨q,h1,k1⟩,e1,e2⟩:=hz;cases e2;exact Ot e1
 ·exact Sf hz
theorem adS{ks:K}(hk:∀p∈ks,p.2=true)(id):ji ks id none=false:=by
 grind[ji,List.any_eq_false]
theorem RV.clo{w'}{A A'}{ρ'}{l}{c}{u}(hv:RV w A ρ h c u)(hA:∀b,A b->A' b/\w'.heap[b]?=w.heap[b]?)(hk:∀id,cw h id none->cw h' id none/\ρ' id none=ρ id none)(hm:bg l c=true):RV w' A' ρ' h' c u:=by
 have leaf:∀ {c} {u},RV w A ρ h c u->bo l c=true->RV w' A' ρ' h' c u:=by
  intro c u hv hm;cases hv with
  |anyv u=>exact .anyv u
  |und=>exact .und
  |dat hd=>exact .dat (hd.mono hA)
  |ref id sub k i j hp=>
   cases sub with
   |some p=>simp[bo]at hm
   |none=>
    obtain⟨h1,h2⟩:=hk id hp;rw[←h2];exact .ref id none k i j h1
  |rsl id sub k lo n cap a hp hn hb ha=>
   cases sub with
   |some p=>simp[bo]at hm
   |none=>
    obtain⟨h1,h2⟩:=hk id hp;exact .rsl id none k lo n cap a h1 hn γ γ
  |rsc id k lo n cap a hp hn hb ha=>simp[bo]at hm
  |ipt cs ad vals hA' hs hv hl hr=>
   exact .ipt cs ad vals (hA _ hA').1 hs (fun j c hc=>by rw[pe (w:=w) (w':=w') (by rw[oW];grind)];grind) hl (fun j c hc=>(hr j c hc).mono hA)
  |agg cs us hs h1 hr=>simp[bo]at hm
  |tup vs us hs hr=>simp[bo]at hm
  |fn f x y us ts hs ht hx hy=>
   simp[bo]at hm;obtain⟨rfl,rfl⟩:=hm;exact .fn f [] [] us ts hs ht (fun i c u hc=>by grind) (fun i c u hc=>by grind)
 cases c with
 |agg cs=>
  simp only[bg,ayx]at hm;obtain⟨us,rfl,hs,h1,hr⟩:=hv.agg_inv;exact .agg cs us hs h1 fun i c u hc hu=>leaf (hr i c u hc hu) (hm c (List.mem_of_getElem? hc))
 |fn f x y=>
  simp only[bg,ayf,ayx]at hm;obtain⟨us,ts,rfl,hs,ht,hx,hy⟩:=hv.fn_inv;exact .fn f x y us ts hs ht (fun i c u hc hu=>leaf (hx i c u hc hu) (hm.1 c (List.mem_of_getElem? hc))) (fun i c u hc hu=>leaf (hy i c u hc hu) (hm.2 c (List.mem_of_getElem? hc)))
 |_=>exact leaf hv hm
structure Way (w:World) (X:Nat->Prop) (ρ:ey) (h0 h:ac):Prop where
 evo:∃ks:K,Evo w ρ h0 w ρ h ks/\∀p∈ks,p.2=true
theorem Way.refl:Way w X ρ h h:=⟨[],.refl _ _ _,by simp⟩
theorem Way.trans{h1 h2}(a:Way w X ρ h h1)(b:Way w X ρ h1 h2):Way w X ρ h h2:=by
 obtain⟨k1,e1,f1⟩:=a.evo;obtain⟨k2,e2,f2⟩:=b.evo;exact⟨k1++k2,e1.trans e2,fun p hp=>by grind⟩
theorem Way.al{h0}(a:Way w X ρ h0 h):∀b,aI w X h0 ρ b->aI w X h ρ b:=by
 obtain⟨k1,e1,_⟩:=a.evo;exact fun b hb=>(e1.al hb).1
theorem Yt{h0}{m}{a z}{u}{ks}(r:Rel w X ρ h)(wy:Way w X ρ h0 h)(hv:RV w (aI w X h0 ρ) ρ h0 a u)(hz:dC h m a=some (z,h',ks)):
  Rel w X ρ h'/\Evo w ρ h w ρ h' ks/\(∀p∈ks,p.2=true)/\∃h1,Way w X ρ h1 h'/\RV w (aI w X h1 ρ) ρ h1 z u:=by
 have same:some (a,h,[])=some (z,h',ks)->Rel w X ρ h'/\Evo w ρ h w ρ h' ks/\(∀p∈ks,p.2=true)/\∃h1,Way w X ρ h1 h'/\RV w (aI w X h1 ρ) ρ h1 z u:=by
  intro e;cases e;exact⟨r,.refl _ _ _,by simp,h0,wy,hv⟩
 have data:wx h a=some (z,h',ks)->((∀cs,a≠ .agg cs)->u.oneCell'=true)->Rel w X ρ h'/\Evo w ρ h w ρ h' ks/\(∀p∈ks,p.2=true)/\∃h1,Way w X ρ h1 h'/\RV w (aI w X h1 ρ) ρ h1 z u:=by
  intro hz h1;obtain⟨g1,g2,g3,g4⟩:=adx r hv wy.al hz h1;exact⟨g1,g2,agW hz,h',.refl,.dat g3⟩
 cases a with
 |any=>
  grind[dC,wx,fP,aE]
 |rsl id sub k lo n=>
  obtain⟨ad,cap,rfl,_⟩:=hv.rsl_inv;cases sub with
  |none=>
   simp only[dC]at hz;split at hz
   ·exact data hz fun _=>rfl
   grind
  |some p=>exact data hz fun _=>rfl
 |ref id sub k i j=>
  cases sub with
  |none=>exact same hz
  |some p=>grind[dC,wx,fP,aE]
 |ipt cs=>exact same hz
 |fn f x y=>exact same hz
 |agg cs=>exact data hz fun hh=>absurd rfl (hh cs)
 |v x=>exact data hz fun _=>by obtain⟨rfl,hp⟩:=hv.v_inv;exact Ho hp
 |emp=>
  refine data hz fun _=>?_;cases hv with
  |dat hd=>exact hd.one rfl
 |sl k rows=>
  refine data hz fun _=>?_;cases hv with
  |dat hd=>exact hd.one rfl
 |_=>simp[dC,wx,fP,aE]at hz
theorem Jv{h0}:∀l ms (vals:List Value) {h h'} {zs} {ks},Rel w X ρ h->Way w X ρ h0 h->vals.length=l.length->
  (∀ (i:Nat) c u,l[i]?=some c->vals[i]?=some u->RV w (aI w X h0 ρ) ρ h0 c u)->bS h ms l=some (zs,h',ks)->
  Rel w X ρ h'/\Evo w ρ h w ρ h' ks/\(∀p∈ks,p.2=true)/\zs.length=l.length/\∀ (i:Nat) z u,zs[i]?=some z->vals[i]?=some u->∃h1,Way w X ρ h1 h'/\RV w (aI w X h1 ρ) ρ h1 z u
 |[],ms,vals,h,h',zs,ks,r,wy,hl,hv,hz=>by
  obtain⟨rfl,rfl,rfl⟩:=hz;exact⟨r,.refl _ _ _,by simp,rfl,fun i z u h1=>by grind⟩
 |a::l,ms,vals,h,h',zs,ks,r,wy,hl,hv,hz=>by
  simp only[bS,ayb]at hz;obtain⟨⟨z,h1,k1⟩,e1,⟨q,h2,k2⟩,e2,e3⟩:=hz;cases e3;cases vals with
  |nil=>grind
  |cons u vals=>
   obtain⟨g1,g2,g3,h3,g4,g5⟩:=Yt r wy (hv 0 a u rfl rfl) e1;obtain⟨f1,f2,f3,f4,f5⟩:=Jv l ms.tail vals g1 (wy.trans ⟨k1,g2,g3⟩) γ (fun i c u' h4 h5=>hv (i+1) c u' γ γ) e2;refine⟨f1,g2.trans f2,fun p hp=>?_,by grind,fun i z' u' h4 h5=>?_⟩
   ·grind
   ·cases i with
    |zero=>
     simp at h4 h5;subst h4 h5;exact⟨h3,g4.trans ⟨k2,f2,f3⟩,g5⟩
    |succ i=>grind
theorem adT{L}{h1}{z}{u}(wy:Way w X ρ h1 h)(hv:RV w (aI w X h1 ρ) ρ h1 z u)(hc:bg L z=true):RV w (aI w X h ρ) ρ h z u:=by
 obtain⟨ks,e,f⟩:=wy.evo;exact hv.clo (fun b hb=>e.al hb) (fun id hp=>e.keep id none hp (adS f id)) hc
theorem Jw(r:Rel w X ρ h){b}(ho:sy h ρ b):b<w.heap.size:=by
 obtain⟨id,sub,hl,rfl⟩:=ho;cases sub with
 |none=>
  have ho:=r.ob id;cases e:h id with
  |bx cs=>rw[e]at ho;obtain⟨us,t,g1,_⟩:=ho;grind
  |ar k rows=>rw[e]at ho;obtain⟨us,t,g1,_⟩:=ho;grind
  |_=>simp[live,e]at hl
 |some p=>
  obtain⟨cs,k,rows,e,ec⟩:=hl;have ho:=r.ob id;rw[e]at ho;obtain⟨us,t,g1,g2,g3,g4⟩:=ho;obtain⟨u,_,a',cap,us',t',_,_,_,q4,_⟩:=g4 p _ ec;grind
section
variable {ids:List Nat}
theorem DL{a}(ha:a∈ids):1000<=bm ids a/\bm ids a<1000+ids.length:=by
 grind[bm,List.idxOf_lt_length_of_mem]
theorem BZ(hl:ids.length<=1000){a}(ha:a∈ids):dF ids (bm ids a)=a:=by
 have:=DL ha;unfold dF;rw[if_pos ω]
 simp_all[bm,List.idxOf_lt_length_of_mem]
theorem DM(hl:ids.length<=1000)(hnd:ids.Nodup){i}(h1:1000<=i)(h2:i<1000+ids.length):dF ids i∈ids/\bm ids (dF ids i)=i:=by
 have hj:i-1000<ids.length:=ω
 have e:dF ids i=ids[i-1000]:=by
  unfold dF;grind
 grind[bm]
theorem Ou{os}{j}{o}(h:os[j]?=some o):aq os (1000+j)=o:=by
 simp_all[aq,if_pos]
theorem zj{os}{i}(h:i<1000\/1000+os.length<=i):aq os i=.dead:=by
 grind[aq]
theorem Emb.enter(hl:ids.length<=1000)(hnd:ids.Nodup)(hcl:∀a∈ids,aD ids (h a)=true):Emb ids (bm ids) (dF ids) h (aq (ids.map fun a=>dS (bm ids) (h a))):=by
 have at_:∀a∈ids,aq (ids.map fun a=>dS (bm ids) (h a)) (bm ids a)=dS (bm ids) (h a):=fun a ha=>by
  refine Ou ?_;grind
 have low:∀i,aq (ids.map fun a=>dS (bm ids) (h a)) i≠ .dead->1000<=i/\i<1000+ids.length:=fun i hi=>by
  by_cases h1:1000<=i/\i<1000+ids.length
  ·omega
  ·exact absurd (zj γ) hi
 refine⟨fun a ha=>?_,fun i hi=>?_,fun i j hi hj e=>?_⟩
 ·have ha':a∈ids:=γ
  exact⟨BZ hl ha',at_ a ha'⟩
 ·obtain⟨h1,h2⟩:=low i hi;obtain⟨h3,h4⟩:=DM hl hnd h1 h2;grind
 ·obtain⟨h1,h2⟩:=low i hi;obtain⟨h3,h4⟩:=low j hj;rw[← (DM hl hnd h1 h2).2,← (DM hl hnd h3 h4).2,e]
end
end
theorem Sg{gv}{id}:∀ {h},(∀p∈gv,p.1≠id)->gb h gv id=h id:=by
 induction gv with
 |nil=>intro h _;rfl
 |cons p l ih=>
  simp_all[gb,aM,Ne.symm]
theorem Vj{gv}{id}:∀ {h},((∃p∈gv,p.1=id)\/h id=.dead)->gb h gv id=.dead:=by
 induction gv with
 |nil=>
  intro h hi;rcases hi with⟨p,hp,_⟩|hi
  ·grind
  ·exact hi
 |cons p l ih=>
  simp only[gb];grind[aA,absurd,upd]
theorem Vk{ids}:∀ {l} {os} {g} {j a:Nat} {o},l.Nodup->l[j]?=some a->os[j]?=some o->eE g ids l os a=dS (dF ids) o
 |[],os,g,j,a,o,_,h1,_=>by grind
 |b::l,[],g,j,a,o,_,_,h2=>by grind
 |b::l,o'::os,g,j,a,o,hnd,h1,h2=>by
  obtain⟨n1,n2⟩:=List.nodup_cons.1 hnd;simp only[eE];cases j with
  |zero=>
   simp at h1 h2;subst h1 h2;rw[yy n1,aA]
  |succ j=>exact Vk n2 (by simpa using h1) (by simpa using h2)
theorem Ov{h}:∀ {m n},cA h n m=true->∀i,n<=i->i<n+m->h i=.dead
 |0,n,_,i,h1,h2=>by omega
 |m+1,n,hf,i,h1,h2=>by
  simp only[cA,ayf]at hf;by_cases e:i=n
  ·grind[bY]
  ·exact Ov hf.2 i ω ω
theorem DN{h}{gv}:∀ {l} {os},dh h gv l os=true->∀ (j a:Nat) o,l[j]?=some a->os[j]?=some o->(bf (h a)=true->bf o=true)/\((∀p∈gv,p.1≠a)->o≠ .dead)
 |[],os,_,j,a,o,h1,_=>by grind
 |b::l,[],_,j,a,o,_,h2=>by grind
 |b::l,o'::os,hs,j,a,o,h1,h2=>by
  simp only[dh,ayf,Bool.or_eq_true,azf]at hs;obtain⟨⟨s1,s2⟩,s3⟩:=hs;cases j with
  |zero=>
   refine⟨fun hb=>?_,fun hn e=>?_⟩
   ·grind
   ·grind[bY]
  |succ j=>exact DN s3 j a o (by simpa using h1) (by simpa using h2)
theorem DO{l l'}{c}(hl:∀i,l.contains i=true->l'.contains i=true)(hc:bo l c=true):bo l' c=true:=by
 cases c<;>simp only[bo]at hc⊢ <;>first|exact hc|skip
 all_goals grind
theorem Jx{l l'}{c}(hl:∀i,l.contains i=true->l'.contains i=true)(hc:bg l c=true):bg l' c=true:=by
 cases c with
 |agg cs=>
  grind[bg,ayx,DO]
 |fn f x y=>
  simp only[bg,ayf,ayx]at hc⊢;grind[DO]
 |_=>
  simp only[bg]at hc⊢;exact DO hl hc
theorem Vl{l l'}{o}(hl:∀i,l.contains i=true->l'.contains i=true)(hc:aD l o=true):aD l' o=true:=by
 cases o<;>simp only[aD]at hc⊢;simp only[ayx,jG,Bool.or_eq_true]at hc⊢;grind[Jx]
theorem Vm{f}{c}(hd:mh c=true):dV f c=c:=by
 cases c<;>simp[mh,bt,aE]at hd<;>first|rfl|skip
 obtain⟨rfl,rfl⟩:=hd;rfl
theorem Vn{l}{n}{g}{c}(hr:fy l c=true){i}(h:(dL n g c).2 i≠g i):(∃k rows,(dL n g c).2 i=.ar k rows)\/∃cs,(dL n g c).2 i=.bx cs/\cs.all mh=true:=by
 cases c<;>simp only[dL]at h⊢ <;>first|exact absurd rfl h|skip
 case osl k rows=>
  simp_all[upd,if_neg,absurd]
 case obx cs=>
  unfold upd at h⊢;split
  ·exact .inr ⟨_,rfl,hr⟩
  grind
theorem Vo{l}{i}:∀ {vs} {n} {g},vs.all (fy l)=true->(cM n g vs).2 i≠g i->(∃k rows,(cM n g vs).2 i=.ar k rows)\/∃cs,(cM n g vs).2 i=.bx cs/\cs.all mh=true
 |[],n,g,_,h=>absurd rfl h
 |c::vs,n,g,hr,h=>by
  simp only[ayJ,ayf]at hr;simp only[cM]at h⊢;by_cases e:(cM (n+1) (dL n g c).2 vs).2 i=(dL n g c).2 i
  ·rw[e]at h⊢;exact Vn hr.1 h
  ·exact Vo hr.2 e
theorem ajB{l}{n}{g}{c}(hr:jj l c=true){i}(h:(mat n g c).2 i≠g i):(∃k rows,(mat n g c).2 i=.ar k rows)\/∃cs,(mat n g c).2 i=.bx cs/\cs.all mh=true:=by
 cases c<;>simp only[mat]at h⊢ <;>simp only[jj]at hr<;>first|exact Vo hr h|exact Vn hr h
theorem Mg{l l'}{n}{g}{c}(hr:fy l c=true)(hl:∀i,l.contains i=true->l'.contains i=true)(hn:l'.contains n=true):bg l' (dL n g c).1=true:=by
 cases c<;>simp only[dL]<;>simp only[fy]at hr<;>first|exact Jx hl hr| (simp only[bg,bo,hn];rfl)
theorem Mh{l l'}(hl:∀i,l.contains i=true->l'.contains i=true):∀ {vs} {n} {g},vs.all (fy l)=true->(∀i,n<=i->i<n+vs.length->l'.contains i=true)->∀z∈ (cM n g vs).1,bg l' z=true
 |[],n,g,_,_,z,hz=>by grind[cM]
 |c::vs,n,g,hr,hn,z,hz=>by
  simp only[ayJ,ayf]at hr;simp only[cM,List.mem_cons]at hz;rcases hz with rfl|hz
  ·exact Mg hr.1 hl (hn n (ayd _) σ)
  ·exact Mh hl hr.2 (fun i h1 h2=>hn i ω (by simp at h2⊢;omega)) z hz
def abM(l:List Nat):AV->Prop
 | .tup vs=>∀c∈vs,bg l c=true
 |c=>bg l c=true
theorem abN{l l'}{n}{g}{c}(hr:fy l c=true)(hl:∀i,l.contains i=true->l'.contains i=true)(hn:l'.contains n=true):abM l' (dL n g c).1:=by
 have:=Mg (n:=n) (g:=g) hr hl hn;cases hq:(dL n g c).1<;>rw[hq]at this<;>first|exact this|simp[bg,bo]at this
theorem adU{l l'}{n}{g}{c}(hr:jj l c=true)(hl:∀i,l.contains i=true->l'.contains i=true)(hn:∀i,n<=i->i<n+cF c->l'.contains i=true):abM l' (mat n g c).1:=by
 cases c with
 |tup vs=>
  exact Mh hl hr hn
 |_=>exact abN hr hl (hn n (ayd _) (by simp[cF]))
section
variable {w:World} {X:Nat→Prop} {ρ:ey} {hc:ac} {ids:List Nat}
def Mi(X:Nat->Prop)(hc:ac)(ρ:ey)(ids:List Nat)(b:Nat):Prop:=
 X b\/(sy hc ρ b/\¬sy (aq (ids.map fun a=>dS (bm ids) (hc a))) (fun i s=>ρ (dF ids i) s) b)
theorem adV(r:Rel w X ρ hc)(hl:ids.length<=1000)(hnd:ids.Nodup)(hcl:∀a∈ids,aD ids (hc a)=true):
  Rel w (Mi X hc ρ ids) (fun i s=>ρ (dF ids i) s) (aq (ids.map fun a=>dS (bm ids) (hc a)))/\
  (∀b,aI w X hc ρ b->aI w (Mi X hc ρ ids) (aq (ids.map fun a=>dS (bm ids) (hc a))) (fun i s=>ρ (dF ids i) s) b):=by
 have em:=Emb.enter (h:=hc) hl hnd hcl;have hA:∀b,aI w X hc ρ b->aI w (Mi X hc ρ ids) (aq (ids.map fun a=>dS (bm ids) (hc a))) (fun i s=>ρ (dF ids i) s) b:=fun b hb=>
  ⟨hb.1,fun hx=>by rcases hx with hx| ⟨hx,_⟩;exact hb.2.1 hx;exact hb.2.2 hx,fun⟨i,s,h1,h2⟩=>hb.2.2 ⟨_,s,(em.live h1).1,h2⟩⟩
 exact⟨Rel.emb em r (fun b hb=>by rcases hb with(hb| ⟨hb,_⟩)|hb;exact r.xl b (.inl hb);exact Jw r hb;exact r.xl b (.inr hb)) (fun i s hl hx=>by
  rcases hx with(hx| ⟨_,hx⟩)|hx
  ·exact r.nx _ _ (em.live hl).1 (.inl hx)
  ·exact hx ⟨i,s,hl,rfl⟩
  ·exact r.nx _ _ (em.live hl).1 (.inr hx)) hA,hA⟩
theorem Jy(hl:ids.length<=1000)(hnd:ids.Nodup)(hcl:∀a∈ids,aD ids (hc a)=true){b}(ho:sy (aq (ids.map fun a=>dS (bm ids) (hc a))) (fun i s=>ρ (dF ids i) s) b):
  ∃id sub,id∈ids/\live hc id sub/\(ρ id sub).1=b:=by
 obtain⟨i,s,h1,h2⟩:=ho;obtain⟨h3,h4⟩:=(Emb.enter (h:=hc) hl hnd hcl).live h1;grind[absurd,zj,DM]
theorem abO{w'}{ρ'}{kp}{d}{gv ks0 ks}{res}{os}{z}{h'}{v}(r:Rel w X ρ hc)(hnd:ids.Nodup)(hcl:∀a∈ids,aD ids (hc a)=true)(hdead:∀a∈ids,hc a≠ .dead)(gvflag:∀p∈gv,p.2=false)
  (hz:eP kp hc d ids ks0 gv (res,os)=some (z,h',ks)) (r':Rel w' (Mi X hc ρ ids) ρ' (mat (2000+8*d) (aq os) res).2)
  (far:Far kp w (fun i s=>ρ (dF ids i) s) (aq (ids.map fun a=>dS (bm ids) (hc a))) w' ρ' (mat (2000+8*d) (aq os) res).2)
  (hv:RV w' (aI w' (Mi X hc ρ ids) (mat (2000+8*d) (aq os) res).2 ρ') ρ' (mat (2000+8*d) (aq os) res).2 (mat (2000+8*d) (aq os) res).1 v):
  ∃ρ3 k1,ks=ks0++k1/\Rel w' X ρ3 h'/\Evo w ρ hc w' ρ3 h' k1/\RV w' (aI w' X h' ρ3) ρ3 h' z v:=by
 unfold eP at hz;split at hz
 ·rename_i hcond;obtain⟨c1,hl,c2,c3,c4,c5⟩:=hcond;simp only at c1 c2 c4;simp only[Option.some.injEq,Prod.mk.injEq]at hz;obtain⟨rfl,rfl,rfl⟩:=hz;simp only[oT,ayf]at c5;obtain⟨c5,c6,c7⟩:=c5;generalize hn:2000+8*d=n at*
  have n2:=ω
  have em:=Emb.enter (h:=hc) hl hnd hcl;have gdead:=Ov c3;have gids:=fun i h1 h2 hi=>hdead i hi (gdead i h1 h2);have oget:∀a∈ids,os[ids.idxOf a]?=some (aq os (bm ids a)):=fun a ha=>by
   simp_all[List.idxOf_lt_length_of_mem,bm,congrArg,Ou]
  have hm_ids:∀a∈ids,(mat n (aq os) res).2 (bm ids a)=aq os (bm ids a):=fun a ha=>AD (by grind[DL]);have hm_out:∀i,¬ (1000<=i/\i<1000+ids.length)->¬ (n<=i/\i<n+cF res)->(mat n (aq os) res).2 i=.dead:=fun i h1 h2=>by
   grind[AD,zj]
  have w_ids:∀a∈ids,eE hc ids ids os a=dS (dF ids) (aq os (bm ids a)):=fun a ha=>Vk hnd (by
   grind) (oget a ha)
  have h_grp:∀i,n<=i->i<n+cF res->(mat n (gb (eE hc ids ids os) gv) res).2 i=(mat n (aq os) res).2 i:=fun i h1 h2=>adN (by
   grind[Vj,yy,zj])
  have h_ids:∀a∈ids,(∀p∈gv,p.1≠a)->(mat n (gb (eE hc ids ids os) gv) res).2 a=dS (dF ids) ((mat n (aq os) res).2 (bm ids a)):=fun a ha hg=>by
   rw[AD (fun hh=>gids a hh.1 hh.2 ha),Sg hg,w_ids a ha,hm_ids a ha]
  have h_gv:∀a,¬ (n<=a/\a<n+cF res)->(∃p∈gv,p.1=a)->(mat n (gb (eE hc ids ids os) gv) res).2 a=.dead:=fun a h1 hg=>by
   rw[AD ω,Vj (.inl hg)]
  have h_out:∀a,a∉ids->¬ (n<=a/\a<n+cF res)->(∀p∈gv,p.1≠a)->(mat n (gb (eE hc ids ids os) gv) res).2 a=hc a:=fun a h1 h2 hg=>by
   rw[AD ω,Sg hg,yy h1]
  generalize hh':(mat n (gb (eE hc ids ids os) gv) res).2=h' at*
  have hzr':(mat n (aq os) res).1=(mat n (gb (eE hc ids ids os) gv) res).1:=Zk _ _ _ _;generalize(mat n (gb (eE hc ids ids os) gv) res).1=zr at*
  have grp_obj:∀i,n<=i->i<n+cF res->(mat n (aq os) res).2 i≠ .dead->(∃k rows,(mat n (aq os) res).2 i=.ar k rows)\/∃cs,(mat n (aq os) res).2 i=.bx cs/\cs.all mh=true:=fun i h1 h2 hd=>
   ajB c6 (by grind[zj])
  rw[hzr']at hv;have zcl:∀ {l':List Nat},(∀i,(E4 ids gv).contains i=true->l'.contains i=true)->(∀i,n<=i->i<n+cF res->l'.contains i=true)->abM l' zr:=fun{l'} hl1 hl2=>hzr'▸adU c6 hl1 hl2;generalize hhm:(mat n (aq os) res).2=hm at*
  have ok_spec:∀i,(E4 ids gv).contains i=true->1000<=i/\i<1000+ids.length/\∀p∈gv,p.1≠dF ids i:=fun i hi=>by
   unfold E4 at hi;split at hi
   all_goals simp_all[List.contains_eq_mem,List.mem_filter,decide_eq_true_eq,azf,List.any_eq_false,beq_iff_eq,de]
  let L3:=E4 ids gv++List.range' n (cF res)
  have l3a:∀i,(E4 ids gv).contains i=true->L3.contains i=true:=fun i hi=>by
   grind
  have l3b:∀i,n<=i->i<n+cF res->L3.contains i=true:=fun i h1 h2=>by
   grind
  let Cal:=fun i=>(i∈ids/\∀p∈gv,p.1≠i)\/(n<=i/\i<n+cF res)
  let nm:Nat->Nat:=fun i=>if i∈ids then bm ids i else i
  let h3:ac:=fun i=>open Classical in if Cal i then h' i else .dead
  have h3c:∀i,Cal i->h3 i=h' i:=fun i hi=>by grind
  have h3n:∀i,h3 i≠ .dead->Cal i:=fun i hi=>by
   grind
  have nmi:∀i∈ids,nm i=bm ids i:=fun i hi=>by grind
  have nmg:∀i,n<=i->i<n+cF res->nm i=i:=fun i h1 h2=>by grind
  have em3:Emb L3 (dF ids) nm hm h3:=by
   refine⟨fun i hi=>?_,fun i hi=>?_,fun i j hi hj e=>?_⟩
   ·simp only[L3,List.contains_eq_mem,aDh,decide_eq_true_eq,List.mem_range'_1]at hi;rcases hi with hi|hi
    ·grind[DM]
    ·have e1:dF ids i=i:=by unfold dF;rw[if_neg ω]
     rw[e1];refine⟨nmg i hi.1 hi.2,?_⟩;rw[h3c _ (.inr hi),h_grp i hi.1 hi.2];by_cases hd:hm i=.dead
     ·rw[hd];rfl
     ·rcases grp_obj i hi.1 hi.2 hd with⟨k,rows,e2⟩| ⟨cs,e2,e3⟩
      ·rw[e2];rfl
      ·rw[e2];simp only[dS,Ob.bx.injEq];exact((ayM (g:=fun c=>c) fun c hc=>Vm (List.all_eq_true.1 e3 c hc)).trans (ayY cs)).symm
   ·rcases h3n i hi with⟨q1,q2⟩| ⟨q1,q2⟩
    ·rw[h3c _ (.inl ⟨q1,q2⟩),nmi i q1];refine⟨h_ids i q1 q2,?_⟩;rw[hm_ids i q1];exact Vl l3a (List.all_eq_true.1 c7 _ (List.mem_of_getElem? (oget i q1)))
    ·rw[nmg i q1 q2];have hd:hm i≠ .dead:=by rw[h3c _ (.inr ⟨q1,q2⟩),h_grp i q1 q2]at hi;exact hi
     rw[h3c _ (.inr ⟨q1,q2⟩),h_grp i q1 q2];rcases grp_obj i q1 q2 hd with⟨k,rows,e2⟩| ⟨cs,e2,e3⟩
     ·rw[e2];exact⟨rfl,rfl⟩
     ·rw[e2];refine⟨?_,?_⟩
      ·simp only[dS,Ob.bx.injEq];exact((ayM (g:=fun c=>c) fun c hc=>Vm (List.all_eq_true.1 e3 c hc)).trans (ayY cs)).symm
      ·simp only[aD,ayx];exact fun c hc=>Me (List.all_eq_true.1 e3 c hc)
   ·rcases h3n i hi with⟨q1,q2⟩| ⟨q1,q2⟩<;>rcases h3n j hj with⟨q3,q4⟩| ⟨q3,q4⟩
    ·rw[nmi i q1,nmi j q3]at e;rw[←BZ hl q1,←BZ hl q3,e]
    ·rw[nmi i q1,nmg j q3 q4]at e;have:=DL q1;omega
    ·rw[nmg i q1 q2,nmi j q3]at e;have:=DL q3;omega
    ·rwa[nmg i q1 q2,nmg j q3 q4]at e
  have own3:∀ {b},sy h3 (fun i s=>ρ' (nm i) s) b->sy hm ρ' b:=fun⟨i,s,h1,h2⟩=>⟨nm i,s,(em3.live h1).1,h2⟩;have r3:Rel w' (Mi X hc ρ ids) (fun i s=>ρ' (nm i) s) h3:=Rel.emb em3 r' r'.xl (fun i s hl=>r'.nx _ _ (em3.live hl).1) fun b hb=>⟨hb.1,hb.2.1,fun ho=>hb.2.2 (own3 ho)⟩
  let ρ3:ey:=fun i s=>open Classical in if Cal i then ρ' (nm i) s else ρ i s
  have r3c:∀i,Cal i->∀s,ρ3 i s=ρ' (nm i) s:=fun i hi s=>by simp only[ρ3,if_pos hi]
  have r3n:∀i,¬Cal i->∀s,ρ3 i s=ρ i s:=fun i hi s=>by simp only[ρ3,if_neg hi]
  have rest:∀i,¬Cal i->h' i≠ .dead->i∉ids/\h' i=hc i:=fun i hi hd=>by
   have h1:¬ (n<=i/\i<n+cF res):=fun hh=>hi (.inr hh);have h2:∀p∈gv,p.1≠i:=fun p hp e=>hd (h_gv i h1 ⟨p,hp,e⟩);have h4:i∉ids:=fun hh=>hi (.inl ⟨hh,h2⟩);exact⟨h4,h_out i h4 h1 h2⟩
  have xin:∀ {i s},i∉ids->live hc i s->¬sy (aq (ids.map fun a=>dS (bm ids) (hc a))) (fun i s=>ρ (dF ids i) s) (ρ i s).1:=fun{i s} hi hl' ho=>by
   obtain⟨id,sub,q1,q2,q3⟩:=Jy hl hnd hcl ho;obtain⟨e,_⟩:=r.inj _ _ _ _ q2 hl' q3;exact hi (e▸q1)
  have lcal:∀ {i s},live h' i s->Cal i->live h3 i s:=fun{i s} hl' hC=>(dv (h3c i hC)).2 hl';have lrest:∀ {i s},live h' i s->¬Cal i->i∉ids/\live hc i s:=fun{i s} hl' hC=>by
   have hd:h' i≠ .dead:=by
    cases s with
    |none=>intro e;simp[live,e]at hl'
    |some p=>obtain⟨_,_,_,e,_⟩:=hl';rw[e];simp
   obtain⟨h1,h2⟩:=rest i hC hd;exact⟨h1,(dv h2).1 hl'⟩
  have fr3:∀ {b},sy hm ρ' b->sy (aq (ids.map fun a=>dS (bm ids) (hc a))) (fun i s=>ρ (dF ids i) s) b\/w.heap.size<=b:=fun ho=>far.fresh _ ho;have parts:∀ {i s j t},live h3 i s->j∉ids->live hc j t->(ρ' (nm i) s).1≠ (ρ j t).1:=fun{i s j t} h1 h2 h4 e=>by
   rcases fr3 ⟨nm i,s,(em3.live h1).1,e⟩with ho|ho
   ·exact xin h2 h4 ho
   ·have:=Jw r ⟨j,t,h4,rfl⟩;omega
  have ownc:∀ {b},sy h' ρ3 b->sy h3 (fun i s=>ρ' (nm i) s) b\/∃id sub,id∉ids/\live hc id sub/\(ρ id sub).1=b:=fun{b} ⟨i,s,h1,h2⟩=>by
   by_cases hC:Cal i
   ·exact .inl ⟨i,s,lcal h1 hC,by rw[←h2,r3c i hC]⟩
   ·obtain⟨h4,h5⟩:=lrest h1 hC;exact .inr ⟨i,s,h4,h5,by rw[←h2,r3n i hC]⟩
  have hA3:∀b,aI w' (Mi X hc ρ ids) h3 (fun i s=>ρ' (nm i) s) b->aI w' X h' ρ3 b:=fun b hb=>⟨hb.1,fun hx=>hb.2.1 (.inl hx),fun ho=>by
   rcases ownc ho with ho| ⟨i,s,h1,h2,rfl⟩
   ·exact hb.2.2 ho
   ·exact hb.2.1 (.inr ⟨⟨i,s,h2,rfl⟩,xin h1 h2⟩)⟩
  have noE:∀ {b},¬sy hc ρ b->¬sy (aq (ids.map fun a=>dS (bm ids) (hc a))) (fun i s=>ρ (dF ids i) s) b:=fun{b} hb ho=>by
   obtain⟨id,sub,_,q2,q3⟩:=Jy hl hnd hcl ho;exact hb ⟨id,sub,q2,q3⟩
  have hAc:∀b,aI w X hc ρ b->aI w' X h' ρ3 b/\w'.heap[b]?=w.heap[b]?:=fun b hb=>by
   refine⟨⟨ay8 hb.1 far.size,hb.2.1,fun ho=>?_⟩,far.old b hb.1 (noE hb.2.2)⟩;rcases ownc ho with ho| ⟨i,s,h1,h2,rfl⟩
   ·rcases fr3 (own3 ho)with ho|ho
    ·exact noE hb.2.2 ho
    ·have:=hb.1;omega
   ·exact hb.2.2 ⟨i,s,h2,rfl⟩
  have pas:∀a∈ids,bh (bm ids a)=true:=fun a ha=>by
   have:=DL ha;simp only[bh,decide_eq_true_eq];omega
  have stayI:∀a∈ids,(∀p∈gv,p.1≠a)->h' a≠ .dead/\ρ3 a none=ρ a none/\hm (bm ids a)≠ .dead:=fun a ha hg=>by
   have h1:=(DN c4 _ a _ (by have h1:=List.idxOf_lt_length_of_mem ha;rw[List.getElem?_eq_getElem h1];simp) (oget a ha)).2 hg;have h2:hm (bm ids a)≠ .dead:=by rw[hm_ids a ha];exact h1
   refine⟨by rw[h_ids a ha hg,ne_eq,Jn];exact h2,?_,h2⟩;rw[r3c a (.inl ⟨ha,hg⟩),nmi a ha,(far.stay _ (pas a ha) h2).2,BZ hl ha]
  have bfB:∀id,bf (hc id)=true->bf (h' id)=true/\ρ3 id none=ρ id none:=fun id hb=>by
   have h1:¬ (n<=id/\id<n+cF res):=fun hh=>by rw[gdead id hh.1 hh.2]at hb;cases hb
   have h2:∀p∈gv,p.1≠id:=fun p hp e=>by
    have:=List.all_eq_true.1 c5 p hp;rw[e,hb]at this;cases this
   by_cases hi:id∈ids
   ·have h4:=(DN c4 _ id _ (by have h1:=List.idxOf_lt_length_of_mem hi;rw[List.getElem?_eq_getElem h1];simp) (oget id hi)).1 hb;exact⟨by rw[h_ids id hi h2,Zh,hm_ids id hi];exact h4,(stayI id hi h2).2.1⟩
   ·exact⟨by rw[h_out id hi h1 h2];exact hb,r3n id (fun hC=>by rcases hC with hC|hC;exact hi hC.1;exact h1 hC) none⟩
  have rel:Rel w' X ρ3 h':=by
   refine⟨fun i s j t h1 h2 e=>?_,fun i s h1 hx=>?_,fun id=>?_,fun b hb=>ay8 (r.xl b hb) far.size⟩
   ·by_cases hi:Cal i<;>by_cases hj:Cal j
    ·rw[r3c i hi,r3c j hj]at e;exact r3.inj _ _ _ _ (lcal h1 hi) (lcal h2 hj) e
    ·rw[r3c i hi,r3n j hj]at e;obtain⟨q1,q2⟩:=lrest h2 hj;exact absurd e (parts (lcal h1 hi) q1 q2)
    ·rw[r3n i hi,r3c j hj]at e;obtain⟨q1,q2⟩:=lrest h1 hi;exact absurd e.symm (parts (lcal h2 hj) q1 q2)
    ·rw[r3n i hi,r3n j hj]at e;exact r.inj _ _ _ _ (lrest h1 hi).2 (lrest h2 hj).2 e
   ·by_cases hi:Cal i
    ·rw[r3c i hi]at hx;exact r3.nx _ _ (lcal h1 hi) (hx.imp .inl id)
    ·rw[r3n i hi]at hx;exact r.nx _ _ (lrest h1 hi).2 hx
   ·by_cases hi:Cal id
    ·have:=(r3.ob id).keep (w':=w') (A':=aI w' X h' ρ3) (ρ':=ρ3) (h':=h') (fun b hb=>⟨hA3 b hb,rfl⟩) (fun i hb=>by
      have hC:=h3n i (fun e=>by rw[e]at hb;cases hb);rw[h3c i hC]at hb;exact⟨hb,r3c i hC none⟩) (fun s=>r3c id hi s) (fun _ _=>rfl)
     rwa[h3c id hi]at this
    ·by_cases hd:h' id=.dead
     ·rw[hd];trivial
     ·obtain⟨q1,q2⟩:=rest id hi hd;have:=(r.ob id).keep (w':=w') (A':=aI w' X h' ρ3) (ρ':=ρ3) (h':=h') hAc bfB (fun s=>r3n id hi s) (fun s hl'=>far.old _ (Jw r ⟨id,s,hl',rfl⟩) (xin q1 hl'));rwa[←q2]at this
  have evo:Evo w ρ hc w' ρ3 h' ((if kp then []else ids.map (·,true))++gv):=by
   refine⟨far.os,far.tape,far.output,far.size,fun b hb ho=>far.old b hb (noE ho),fun id sub hp hk=>?_,fun b ho=>?_,bfB,fun id hp hd=>?_⟩
   ·rw[Hp,Bool.or_eq_false_iff]at hk;have h2:∀p∈gv,p.1≠id:=fun p hp' e=>by
     have hk2:=hk.2;simp only[ji,List.any_eq_false,ayf,beq_iff_eq,Bool.or_eq_true,azf,not_and]at hk2;exact hk2 p hp' e (.inl (gvflag p hp'))
    have hnd':hc id≠ .dead:=by
     cases sub with
     |none=>exact hp
     |some p=>obtain⟨_,_,_,e,_⟩:=hp;rw[e];simp
    have h1:¬ (n<=id/\id<n+cF res):=fun hh=>hnd' (gdead id hh.1 hh.2);by_cases hi:id∈ids
    ·cases sub with
     |none=>exact⟨(stayI id hi h2).1,(stayI id hi h2).2.1⟩
     |some p=>
      cases kp with
      |false=>
       have hk1:=hk.1;simp only[aza,if_false,ji,List.any_map,List.any_eq_false,Function.comp,ayf,beq_iff_eq]at hk1;exact absurd ⟨rfl,rfl⟩ (hk1 id hi)
      |true=>
       have hpe:cw (aq (ids.map fun a=>dS (bm ids) (hc a))) (bm ids id) (some p):=by
        obtain⟨cs,k,rows,e1,e2⟩:=hp;have:=(em.back id (by simpa using hi)).2;rw[e1]at this;refine⟨cs.map (dV (bm ids)),k,rows,this,?_⟩;rw[List.getElem?_map,e2];rfl
       obtain⟨q1,q2⟩:=far.keep rfl (bm ids id) p (pas id hi) (stayI id hi h2).2.2 hpe;refine⟨?_,?_⟩
       ·obtain⟨cs,k,rows,e1,e2⟩:=q1;refine⟨cs.map (dV (dF ids)),k,rows,?_,?_⟩
        ·rw[h_ids id hi h2,e1];rfl
        ·rw[List.getElem?_map,e2];rfl
       ·rw[r3c id (.inl ⟨hi,h2⟩),nmi id hi,q2,BZ hl hi]
    ·have hC:¬Cal id:=fun hC=>by rcases hC with hC|hC;exact hi hC.1;exact h1 hC
     exact⟨(fK (h_out id hi h1 h2)).2 hp,r3n id hC sub⟩
   ·rcases ownc ho with ho| ⟨i,s,h1,h2,rfl⟩
    ·rcases fr3 (own3 ho)with ho|ho
     ·obtain⟨id,sub,_,q2,q3⟩:=Jy hl hnd hcl ho;exact .inl ⟨id,sub,q2,q3⟩
     ·exact .inr ho
    ·exact .inl ⟨i,s,h2,rfl⟩
   ·simp only[bh,decide_eq_true_eq]at hp;by_cases hi:id∈ids
    ·refine⟨hdead id hi,?_⟩;by_cases hg:∀p∈gv,p.1≠id
     ·exact(stayI id hi hg).2.1
     ·exfalso;refine hd (h_gv id ω ?_);have:=Classical.not_forall.1 hg;obtain⟨p,hp'⟩:=this;obtain⟨hp1,hp2⟩:=Classical.not_imp.1 hp';exact⟨p,hp1,Classical.not_not.1 hp2⟩
    ·have hC:¬Cal id:=fun hC=>by rcases hC with hC|hC;exact hi hC.1;omega
     obtain⟨_,q2⟩:=rest id hC hd;exact⟨q2▸hd,r3n id hC none⟩
  refine⟨ρ3,_,rfl,rel,evo,?_⟩;have toV:∀ {c:AV} {u:Value},RV w' (aI w' (Mi X hc ρ ids) hm ρ') ρ' hm c u->bg L3 c=true->RV w' (aI w' X h' ρ3) ρ3 h' (dV (dF ids) c) u:=fun{c u} hv hcl'=>by
   have h1:=hv.embA (A2:=aI w' (Mi X hc ρ ids) h3 (fun i s=>ρ' (nm i) s)) em3 (fun b hb=>⟨hb.1,hb.2.1,fun ho=>hb.2.2 (own3 ho)⟩) hcl';exact h1.keep (fun b hb=>⟨hA3 b hb,rfl⟩) fun i s hp=>by
    have hC:=h3n i (by
     cases s with
     |none=>exact hp
     |some p=>obtain⟨_,_,_,e,_⟩:=hp;rw[e];simp)
    exact⟨(fK (h3c i hC)).1 hp,r3c i hC s⟩
  have zc:=zcl l3a l3b;cases zr with
  |tup vs=>
   cases hv with
   |dat hd=>cases hd
   |tup _ us hs hr=>
    refine .tup _ us (by simpa using hs) fun i c u hc' hu=>?_;simp only[List.getElem?_map,aye]at hc';obtain⟨c0,h1,rfl⟩:=hc';exact toV (hr i c0 u h1 hu) (zc c0 (List.mem_of_getElem? h1))
  |_=>exact toV hv zc
 grind
end
theorem Ow:∀ {l} {ms},∀p∈rB ms l,p.2=false
 |[],ms,p,hp=>by grind[rB]
 |a::l,ms,p,hp=>by
  simp only[rB,aDh]at hp;rcases hp with hp|hp
  ·split at hp
   ·simp only[ay2]at hp;obtain⟨i,_,rfl⟩:=hp;rfl
   ·simp at hp
  ·exact Ow p hp
section
variable {P:Program} {I:Inv} {call:iG} {md:Mode}
def abP(P:Program)(I:Inv)(call:iG)(md:Mode):Prop:=
 ∀ {w} {X} {ρ} {h h'} {d} {f z} {zas} {ks} {uf} {us},d<1000->I.p w X->Rel w X ρ h->RV w (aI w X h ρ) ρ h f uf->us.size=zas.length->
  (∀ (i:Nat) c u,zas[i]?=some c->us[i]?=some u->RV w (aI w X h ρ) ρ h c u)->dW call md h d zas f=some (z,h',ks)->
  ∃g first cap,uf=.func (.func g) first cap/\Enters P g (first++us++cap) w fun v w'=>Got w X ρ h w' h' ks z v
theorem Yu(hf:∀f,qh P I (md.keep f) f (call f)):abP P I call md:=by
 intro w X ρ h h' d f z zas ks uf us hd hi r hvf hus hva hz;cases f<;>simp only[dW]at hz<;>try (cases hz;done)
 rename_i fid a b;obtain⟨first,cap,rfl,s1,s2,va,vb⟩:=hvf.fn_inv;refine⟨fid,first,cap,rfl,?_⟩;simp only[ayb]at hz;obtain⟨⟨zs,hc,ks0⟩,e1,e2⟩:=hz;obtain⟨r1,ev1,fl1,ln1,vv⟩:=Jv (h0:=h) (a++zas++b) (md.m fid) (first++us++cap).toList r .refl γ (fun i c u h1 h2=>by
  grind) e1
 have hnd:(ce hc 40 (bH [] (zs.flatMap cf)) 0).Nodup:=L9 (DI List.nodup_nil);generalize ce hc 40 (bH [] (zs.flatMap cf)) 0=ids at*
 unfold jV at e2;split at e2
 ·rename_i hck;simp only[ayf,ayx,azf]at hck;obtain⟨k1,k2⟩:=hck;simp only[ayb]at e2;obtain⟨⟨res,os⟩,e3,e4⟩:=e2;have hl:ids.length<=1000:=by
   grind[eP]
  have hcl:=fun a ha=>(k2 a ha).1;have hdead:∀a∈ids,hc a≠ .dead:=fun a ha e=>by
   have:=(k2 a ha).2;rw[e]at this;cases this
  have em:=Emb.enter (h:=hc) hl hnd hcl;obtain⟨rE,hA⟩:=adV r1 hl hnd hcl;have hi1:I.p w (Mi X hc ρ ids):=I.more hi fun b hb=>.inl hb;refine(hf fid e3 (n:=2000+8*d) ω hi1 rE (by grind[List.length_map,zi]) fun i c u hc' hu=>?_).mono fun v w' ⟨ρ',q1,q2,q3⟩=>?_
  ·simp only[List.getElem?_map,aye]at hc';obtain⟨c0,h1,rfl⟩:=hc';obtain⟨c1,h2,h3⟩:=yA _ _ _ _ h1;obtain⟨h4,wy,hv⟩:=vv i c1 u h2 γ;have hv':RV w (aI w X h4 ρ) ρ h4 c0 u:=by
    rcases h3 with rfl| ⟨ss,rfl⟩
    ·omega
    ·exact hv.nrmV ss
   have hcc:=k1 c0 (List.mem_of_getElem? h1);exact(adT wy hv' hcc).embA em hA hcc
  ·obtain⟨ρ3,k3,rfl,g1,g2,g3⟩:=abO r1 hnd hcl hdead Ow e4 q1 q2 q3;exact⟨ρ3,g1,ev1.trans g2,g3⟩
 grind
theorem Jz{w}{X}{ρ}{h}{b}(hb:aI w X h ρ b):aI w X (aq []) ρ b:=⟨hb.1,hb.2.1,fun⟨id,sub,hl,_⟩=>by
 have hd:aq [] id=.dead:=by grind[aq]
 cases sub with
 |none=>grind[live]
 |some p=>grind[live]⟩
theorem Zn{w}{X}{ρ}{h}(r:Rel w X ρ h){id}{sub}(hl:live h id sub):aI w X (aq []) ρ (ρ id sub).1:=
 ⟨Jw r ⟨id,sub,hl,rfl⟩,fun hx=>r.nx id sub hl (.inl hx),fun⟨id',sub',hl',_⟩=>by
  have hd:aq [] id'=.dead:=by grind[aq]
  cases sub' with
  |none=>grind[live]
  |some p=>grind[live]⟩
theorem abQ{w}{X}{ρ}{h}(r:Rel w X ρ h){a c}{u}(hv:RV w (aI w X h ρ) ρ h a u)(hz:aa3 h a=some c):RV w (aI w X (aq []) ρ) ρ (aq []) c u:=by
 have dd:∀ {a},RD w (aI w X h ρ) a u->RV w (aI w X (aq []) ρ) ρ (aq []) a u:=fun hd=>.dat (hd.mono fun b hb=>⟨Jz hb,rfl⟩);cases a<;>simp only[aa3]at hz<;>try (cases hz;done)
 case v x=>cases hz;exact .dat (by obtain⟨rfl,hp⟩:=hv.v_inv;exact .v _ hp)
 case emp=>cases hz;obtain⟨a,rfl⟩:=hv.emp_inv;exact .dat (.emp a)
 case sl k rows=>cases hz;exact dd hv.sl_inv
 case rsl id sub k lo n=>
  simp only[aye]at hz;obtain⟨rs,h1,rfl⟩:=hz;obtain⟨a,cap,rfl,hp,hn,hb,ha⟩:=hv.rsl_inv;cases sub with
  |none=>
   simp only[yY]at h1;have ho:=r.ob id;cases eo:h id with
   |dead=>grind[BQ,iP]
   |bx cs=>grind[BQ,iP]
   |ar k' rows=>
    rw[eo]at h1 ho;simp only[BQ,iP]at h1;split at h1
    ·rename_i hc;obtain⟨rfl,hle⟩:=hc;cases h1;obtain⟨us,t0,g1,g2,g3,g4⟩:=ho;exact .dat (pg g1 (Zn r (by grind[live])) (g4.mono fun b hb=>⟨Jz hb,rfl⟩) hle hn ha)
    grind
   |fz k' rows=>
    rw[eo]at h1 ho;simp only[BQ,iP]at h1;split at h1
    ·rename_i hc;obtain⟨rfl,hle⟩:=hc;cases h1;obtain⟨ga,us,t0,fr,g1,g2,g3,g4⟩:=ho;exact .dat (pg g1 (Jz ga) (g4.mono fun b hb=>⟨Jz hb,rfl⟩) hle hn ha)
    grind
  |some p=>
   simp only[yY]at h1;cases eo:h id with
   |bx cs=>
    rw[eo]at h1;simp only[kf]at h1;cases ec:cs[p]? with
    |none=>grind[xQ,iP]
    |some c=>
     rw[ec]at h1;cases c<;>simp[xQ,iP]at h1;rename_i k' rows;obtain⟨⟨rfl,hle⟩,rfl⟩:=h1;obtain⟨us,t0,g1,g2,g3,g4⟩:=r.cell eo;obtain⟨u,f1,a',cap',us1,t1,q1,q2,q3,q4,q5,q6,q7⟩:=g4 p _ ec;exact .dat (pg q4 (Zn r ⟨cs,_,rows,eo,ec⟩) (q7.mono fun b hb=>⟨Jz hb,rfl⟩) hle hn ha)
   |dead=>grind[kf,iP]
   |ar k' rows=>grind[kf,iP]
   |fz k' rows=>grind[kf,iP]
 case fn f x y=>
  cases x with
  |cons a l=>grind
  |nil=>
   cases y with
   |cons a l=>grind
   |nil=>
    simp only[Option.some.injEq]at hz;subst hz;obtain⟨us,ts,rfl,s1,s2,_,_⟩:=hv.fn_inv;exact .fn f [] [] us ts s1 s2 (fun i c u hc=>by grind) (fun i c u hc=>by grind)
theorem Ox{w}{X}{ρ}{h}(r:Rel w X ρ h):∀l (vals:List Value) {cs},vals.length=l.length->(∀ (i:Nat) c u,l[i]?=some c->vals[i]?=some u->RV w (aI w X h ρ) ρ h c u)->PY h l=some cs->
  cs.length=l.length/\∀ (i:Nat) c u,cs[i]?=some c->vals[i]?=some u->RV w (aI w X (aq []) ρ) ρ (aq []) c u
 |[],vals,cs,hl,hv,hz=>by
  grind[PY,Option.some.injEq]
 |a::l,[],cs,hl,hv,hz=>by grind
 |a::l,v::vals,cs,hl,hv,hz=>by
  simp only[PY,ayb]at hz;obtain⟨b,e1,q,e2,e3⟩:=hz;cases e3;obtain⟨g1,g2⟩:=Ox r l vals γ (fun i c u hc hu=>hv (i+1) c u γ γ) e2;refine⟨by grind,fun i c u hc hu=>?_⟩;cases i with
  |zero=>simp at hc hu;subst hc hu;exact abQ r (hv 0 a v rfl rfl) e1
  |succ i=>grind
theorem abR{kp}{w w'}{X}{ρ ρ'}{h}(r:Rel w X ρ h)(far:Far kp w ρ (aq []) w' ρ' (aq [])):Rel w' X ρ h/\Evo w ρ h w' ρ h []:=by
 have no:∀b,¬sy (aq []) ρ b:=fun b ⟨id',sub',hl',_⟩=>by
  have hd:aq [] id'=.dead:=by grind[aq]
  cases sub' with
  |none=>grind[live]
  |some p=>grind[live]
 have e:Evo w ρ h w' ρ h []:=⟨far.os,far.tape,far.output,far.size,fun b hb _=>far.old b hb (no b),fun _ _ hp _=>⟨hp,rfl⟩,fun _ ho=>.inl ho,fun _ hb=>⟨hb,rfl⟩,fun _ _ hd=>⟨hd,rfl⟩⟩;exact⟨r.step e (fun _=>False) (fun _ _=>⟨rfl,fun _=>rfl,fun sub hl=>far.old _ (Jw r ⟨_,sub,hl,rfl⟩) (no _)⟩) r.inj r.nx (fun _ hf=>hf.elim),e⟩
theorem abS{c}(hp:y5 c=true)(n)(h):dL n h c=(c,h):=by
 cases c<;>simp[y5]at hp;rfl
theorem Oy:∀ {vs} n h,vs.all y5=true->cM n h vs=(vs,h)
 |[],n,h,_=>rfl
 |a::l,n,h,hp=>by
  simp only[ayJ,ayf]at hp;simp only[cM,abS hp.1,Oy (n+1) h hp.2]
theorem adW{c}(hp:I9 c=true)(n)(h):mat n h c=(c,h):=by
 cases c<;>simp only[I9]at hp<;>try (simp[y5]at hp;done)
 case v x=>rfl
 grind[mat,Oy]
theorem Si{w w'}{A A'}{ρ ρ'}{h h'}{c}{u}(hp:y5 c=true)(hv:RV w A ρ h c u):RV w' A' ρ' h' c u:=by
 cases c<;>simp[y5]at hp;obtain⟨rfl,hp⟩:=hv.v_inv;exact .dat (.v _ hp)
theorem agX{w w'}{A A'}{ρ ρ'}{h h'}{c}{u}(hp:I9 c=true)(hv:RV w A ρ h c u):RV w' A' ρ' h' c u:=by
 cases c<;>simp only[I9]at hp<;>try (simp[y5]at hp;done)
 case v x=>grind[Si]
 case tup vs=>
  cases hv with
  |dat hd=>cases hd
  |tup _ us hs hr=>exact .tup vs us hs fun i c u hc hu=>Si (List.all_eq_true.1 hp c (List.mem_of_getElem? hc)) (hr i c u hc hu)
theorem abT(hf:∀f,qh P I (md.keep f) f (call f)):mH P I call md:=by
 intro w X ρ h h' d f z zas ks uf us hd hi r hvf hus hva hz;unfold bF at hz;split at hz
 ·cases f<;>simp only[N4]at hz<;>try (cases hz;done)
  rename_i fid a b _;obtain⟨first,cap,rfl,s1,s2,va,vb⟩:=hvf.fn_inv;refine⟨fid,first,cap,rfl,?_⟩;simp only[ayb]at hz;obtain⟨cs,e1,⟨res,os⟩,e2,e3⟩:=hz;obtain⟨l1,l2⟩:=Ox r (a++zas++b) (first++us++cap).toList γ (fun i c u h1 h2=>by
   grind) e1
  cases os with
  |cons o os=>grind[UK]
  |nil=>
   simp only[UK]at e3;split at e3
   ·rename_i hp;cases e3;have rE:Rel w X ρ (aq []):=by
     have hd:∀id,aq [] id=.dead:=fun id=>by grind[aq]
     have no:∀id sub,¬live (aq []) id sub:=fun id sub hl=>by
      cases sub with
      |none=>grind[live]
      |some p=>grind[live]
     exact⟨fun id sub _ _ h=>(no id sub h).elim,fun id sub h=>(no id sub h).elim,fun id=>by rw[hd];trivial,r.xl⟩
    refine(hf fid e2 (n:=2000) (ayd _) hi rE (by grind[zi]) fun i c u hc' hu=>?_).mono fun v w' ⟨ρ',q1,q2,q3⟩=>?_
    ·obtain⟨c1,h2,h3⟩:=yA _ _ _ _ hc';have hv:=l2 i c1 u h2 γ;rcases h3 with rfl| ⟨ss,rfl⟩
     ·omega
     ·exact hv.nrmV ss
    ·rw[adW hp]at q1 q2 q3;obtain⟨g1,g2⟩:=abR r q2;exact⟨ρ,g1,g2,agX hp q3⟩
   grind
 ·exact Yu hf hd hi r hvf hus hva hz
end
section
variable {P:Program} {I:Inv} {call:iG} {md:Mode}
structure EnvOK (P:Program) (I:Inv) (e:Env):Prop where
 mixed:P.follows .mixedOrders=true
 ext:∀f g,e.E f=some g->qh P I (e.md.keep f) f g
 text:∀f fd,e.E f=none->e.C f=some fd->Text P f fd
theorem abU(kp)(f):qh P I kp f (fun _ _=>none):=by
 intro args obs obs' res w X ρ vals n hz;grind
theorem adX{e}(he:EnvOK P I e):∀n f,qh P I (e.md.keep f) f (fk e n f)
 |0,f=>abU _ f
 |n+1,f=>by
  cases hE:e.E f with
  |some g=>
   have:fk e (n+1) f=g:=by grind[fk]
   rw[this];exact he.ext f g hE
  |none=>
   cases hC:e.C f with
   |none=>
    have:fk e (n+1) f=fun _ _=>none:=by grind[fk]
    grind
   |some fd=>
    have:fk e (n+1) f=FU (fk e n) {e.md with nm:=e.md.keep f} n fd:=by grind[fk]
    rw[this];exact ajA (md:={e.md with nm:=e.md.keep f}) he.mixed (abT (md:={e.md with nm:=e.md.keep f}) fun g=>adX he n g) (he.text f fd hE hC)
end
def Ev(p:Nat->Prop):Prop:=∃n,∀k,n<=k->p k
theorem Ev.and{p q}(a:Ev p)(b:Ev q):Ev fun k=>p k/\q k:=by
 obtain⟨n,hn⟩:=a;obtain⟨m,hm⟩:=b;exact⟨max n m,fun k hk=>⟨hn k ω,hm k ω⟩⟩
theorem Ev.mono{p q}(a:Ev p)(h:∀k,p k->q k):Ev q:=by
 obtain⟨n,hn⟩:=a;exact⟨n,fun k hk=>h k (hn k hk)⟩
theorem Ev.all{p}(h:∀k,p k):Ev p:=⟨0,fun k _=>h k⟩
open Classical in
noncomputable def Fb {α:Type} (f:Nat->Option α):Option α:=if h:∃a,Ev fun k=>f k=some a then some (Classical.choose h)else none
theorem pR{α}{f}{a:α}:Fb f=some a↔Ev fun k=>f k=some a:=by
 unfold Fb;constructor
 ·intro h;split at h
  all_goals grind
 ·intro h;have hh:∃a,Ev fun k=>f k=some a:=⟨a,h⟩;obtain⟨n,hn⟩:=Classical.choose_spec hh;obtain⟨m,hm⟩:=h;have h1:=hn (max n m) ω;grind
theorem ajC{α}{f g:Nat->Option α}(h:∀a,Fb f=some a↔Fb g=some a):Fb f=Fb g:=by
 cases hf:Fb f with
 |none=>
  cases hg:Fb g with
  |none=>rfl
  |some a=>grind
 |some a=>grind
theorem B0{α}(a:Option α):Fb (fun _=>a)=a:=by
 cases a with
 |none=>
  cases h:Fb (fun _:Nat=>none)with
  |none=>rfl
  |some a=>
   obtain⟨n,hn⟩:=pR.1 h;exact absurd (hn n (ayd _)) σ
 |some a=>exact pR.2 (Ev.all fun _=>rfl)
theorem Vp{α}(f:Nat->Option α):Fb (fun n=>f (n+1))=Fb f:=ajC fun a=>by
 rw[pR,pR];constructor
 ·rintro⟨n,hn⟩
  refine⟨n+1,fun k hk=>?_⟩;have:=hn (k-1) ω;grind
 ·rintro⟨n,hn⟩
  exact⟨n,fun k hk=>hn (k+1) ω⟩
noncomputable def ax (body:ak->ac->Option (Ex×St)) (ks hs:List Nat) (s:ak) (h:ac):Option (Ex×St):=Fb fun n=>tF body ks hs n s h
def Uk(g:ak->ac->Option (Ex×St)):Option (Ex×St)->Option (Ex×St)
 |some (.normal,t)=>g t.s t.h
 |r=>r
theorem ag(body)(ks hs)(s)(h):
  ax body ks hs s h=if(hs.all fun a=>aD hs (h a))=true then Uk (ax body ks hs) (body (mk .any (fun i=>gD hs (s i)) ks) (mk .dead h hs))else none:=by
 unfold ax;rw[←Vp];simp only[tF];split
 ·cases hb:body (mk .any (fun i=>gD hs (s i)) ks) (mk .dead h hs)with
  |none=>exact B0 _
  |some r=>
   obtain⟨e,t⟩:=r;cases e with
   |normal=>rfl
   |exit id=>exact B0 _
   |ret=>exact B0 _
 ·exact B0 _
noncomputable def aj (call:iG) (md:Mode):Cmd->ak->ac->Option (Ex×St)
 | .skip,s,h=>some (.normal,⟨s,h⟩)
 | .ops ks l,s,h=>bq (aG call md l s h) fun s h=>some (.normal,⟨mk .any s ks,h⟩)
 | .dops ks l ps,s,h=>bq (rF call md l ps s h) fun s h=>some (.normal,⟨mk .any s ks,h⟩)
 | .seq a b,s,h=>cu (aj call md a s h) (aj call md b)
 | .cond c a b,s,h=>xB (aj call md a s h) (aj call md b s h) (ev s c)
 | .block id ks a,s,h=>ai id ks (aj call md a s h)
 | .loop ks hs a,s,h=>ax (aj call md a) ks hs s h
 | .exit id,s,h=>some (.exit id,⟨s,h⟩)
 | .ret,s,h=>some (.ret,⟨s,h⟩)
 | .frz is a,s,h=>bq (Az md.nm is s h) (aj call md a)
noncomputable def kj (e:Env):iG:=fun f args hs=>Fb fun n=>fk e n f args hs
noncomputable def abV (call:iG) (md:Mode) (fd:FD) (args:List AV) (hs:List Ob):Option (AV×List Ob):=
 if args.length=fd.np/\hs.length<=1000 then ip md.nm fd.rs fd.res hs.length (aj call md fd.body (uw args) (aq hs))else none
section
variable {e:Env} {md:Mode}
theorem adY{h}{d}{zas}{f}{r}(hz:dW (kj e) md h d zas f=some r):Ev fun k=>dW (fk e k) md h d zas f=some r:=by
 cases f<;>simp only[dW]at hz⊢ <;>try (cases hz;done)
 simp only[ayb]at hz⊢;obtain⟨p,e1,e2⟩:=hz;unfold jV at e2⊢;split at e2
 ·simp only[ayb]at e2;obtain⟨q,e3,e4⟩:=e2;refine(pR.1 e3).mono fun k hk=>⟨p,e1,?_⟩;grind
 grind
theorem Vq{h}{d}{zas}{f}{r}(hz:bF (kj e) md h d zas f=some r):Ev fun k=>bF (fk e k) md h d zas f=some r:=by
 unfold bF at hz⊢;by_cases hb:kh md zas f=true
 ·rw[if_pos hb]at hz;simp only[if_pos hb];cases f<;>simp only[N4]at hz⊢ <;>try (cases hz;done)
  simp only[ayb]at hz⊢;obtain⟨p,e1,q,e3,e4⟩:=hz;exact(pR.1 e3).mono fun k hk=>⟨p,e1,q,hk,e4⟩
 simp_all[if_neg,adY]
theorem Zo{d}{op}{s}{h}{r}(hz:step (kj e) md d op s h=some r):Ev fun k=>step (fk e k) md d op s h=some r:=by
 cases op with
 |call f zas=>exact Vq hz
 |callC f zas=>
  simp only[step,ayb]at hz⊢;obtain⟨q,e1,e2⟩:=hz;exact(Vq e1).mono fun k hk=>⟨q,hk,e2⟩
 |_=>exact Ev.all fun k=>hz
theorem Zp{d}{op}{s}{h}{t}(hz:dA md.nm s d (step (kj e) md (d.getD 0) op s h)=some t):Ev fun k=>dA md.nm s d (step (fk e k) md (d.getD 0) op s h)=some t:=by
 cases hs:step (kj e) md (d.getD 0) op s h with
 |none=>rw[hs]at hz;cases hz
 |some r=>
  exact(Zo hs).mono fun k hk=>by grind
theorem agY{o}{s}{h}{t}(hz:mj (kj e) md o s h=some t):Ev fun k=>mj (fk e k) md o s h=some t:=by
 unfold mj at hz⊢;cases hg:o.g with
 |none=>grind[Zp]
 |some g=>
  rw[hg]at hz;simp only at hz⊢;unfold lj at hz⊢;split at hz
  ·split at hz
   all_goals simp_all[if_pos,Zp,if_neg,Ev.all]
  all_goals grind[Ev.all]
theorem Hy:∀ {l} {s} {h} {t},aG (kj e) md l s h=some t->Ev fun k=>aG (fk e k) md l s h=some t
 |[],s,h,t,hz=>Ev.all fun k=>hz
 |o::l,s,h,t,hz=>by
  simp only[aG,bq]at hz;split at hz
  ·grind
  ·rename_i t1 ht1;refine((agY ht1).and (Hy hz)).mono fun k hk=>?_;grind[aG,bq]
theorem Vr{d}{op}{s}{h}{f}{t}(hz:nV s d f (step (kj e) md (d.getD 0) op s h)=some t):Ev fun k=>nV s d f (step (fk e k) md (d.getD 0) op s h)=some t:=by
 cases hs:step (kj e) md (d.getD 0) op s h with
 |none=>rw[hs]at hz;cases hz
 |some r=>
  exact(Zo hs).mono fun k hk=>by grind
theorem agZ{o}{s}{h}{t}(hz:eL (kj e) md o s h=some t):Ev fun k=>eL (fk e k) md o s h=some t:=by
 unfold eL at hz⊢;cases hg:o.g with
 |none=>grind[Vr]
 |some g=>
  rw[hg]at hz;simp only at hz⊢;unfold rD at hz⊢;split at hz
  ·split at hz
   all_goals simp_all[if_pos,Vr,if_neg,Ev.all]
  all_goals grind[Ev.all]
theorem P5:∀ {l} {s} {h} {t},io (kj e) md l s h=some t->Ev fun k=>io (fk e k) md l s h=some t
 |[],s,h,t,hz=>Ev.all fun k=>hz
 |o::l,s,h,t,hz=>by
  simp only[io,ayb]at hz;obtain⟨r,e1,q,e2,e3⟩:=hz;refine((agZ e1).and (P5 e2)).mono fun k hk=>?_;simp only[io,hk.1,hk.2,ayi,e3]
theorem ag0{l}{ps}{s}{h}{t}(hz:rF (kj e) md l ps s h=some t):Ev fun k=>rF (fk e k) md l ps s h=some t:=by
 unfold rF at hz⊢;cases hb:BA ps with
 |none=>
  rw[hb]at hz;simp only[BS,ayb]at hz;obtain⟨q,e1,e2⟩:=hz;exact(P5 e1).mono fun k hk=>by simp only[BS,ayi, *]
 |some b=>
  rw[hb]at hz;simp only[Hi,ayb]at hz;obtain⟨q,e1,e2⟩:=hz;split at e2
  ·simp only[bq]at e2;split at e2
   ·grind
   ·exact((P5 e1).and (Hy e2)).mono fun k hk=>by simp_all[Hi,ayi,if_pos,bq]
  grind
theorem Zq{c}{ks hs}(ih:∀ {s} {h} {r},aj (kj e) md c s h=some r->Ev fun k=>cX (fk e k) md k c s h=some r):
  ∀m {s} {h} {r},tF (aj (kj e) md c) ks hs m s h=some r->∃n,∀k,n<=k->∀j,n<=j->tF (cX (fk e k) md k c) ks hs j s h=some r
 |0,s,h,r,hz=>by grind[tF]
 |m+1,s,h,r,hz=>by
  simp only[tF]at hz;split at hz
  ·rename_i hc;cases hb:aj (kj e) md c (mk .any (fun i=>gD hs (s i)) ks) (mk .dead h hs)with
   |none=>grind
   |some q=>
    rw[hb]at hz;obtain⟨n1,h1⟩:=ih hb;obtain⟨ex,t⟩:=q;cases ex with
    |normal=>
     obtain⟨n2,h2⟩:=Zq ih m hz;refine⟨max n1 n2+1,fun k hk j hj=>?_⟩;obtain⟨j,rfl⟩:∃j',j=j'+1:=⟨j-1,by omega⟩;simp only[tF,if_pos hc,h1 k ω];grind
    |exit id=>
     refine⟨n1+1,fun k hk j hj=>?_⟩;obtain⟨j,rfl⟩:∃j',j=j'+1:=⟨j-1,by omega⟩;simp only[tF,if_pos hc,h1 k ω];omega
    |ret=>
     refine⟨n1+1,fun k hk j hj=>?_⟩;obtain⟨j,rfl⟩:∃j',j=j'+1:=⟨j-1,by omega⟩;simp only[tF,if_pos hc,h1 k ω];omega
  grind
theorem lJ:∀c {s} {h} {r},aj (kj e) md c s h=some r->Ev fun k=>cX (fk e k) md k c s h=some r
 | .skip,s,h,r,hz=>Ev.all fun k=>hz
 | .ops ks l,s,h,r,hz=>by
  simp only[aj,bq]at hz;split at hz
  ·grind
  ·rename_i t1 ht1;exact(Hy ht1).mono fun k hk=>by grind[cX,bq]
 | .dops ks l ps,s,h,r,hz=>by
  simp only[aj,bq]at hz;split at hz
  ·grind
  ·rename_i t1 ht1;exact(ag0 ht1).mono fun k hk=>by grind[cX,bq]
 | .seq a b,s,h,r,hz=>by
  simp only[aj,cu]at hz;split at hz
  ·grind
  ·rename_i t1 ht1;exact((lJ a ht1).and (lJ b hz)).mono fun k hk=>by grind[cX,cu]
  ·rename_i i t1 ht1;exact(lJ a ht1).mono fun k hk=>by grind[cX,cu]
  ·rename_i t1 ht1;exact(lJ a ht1).mono fun k hk=>by grind[cX,cu]
 | .cond c a b,s,h,r,hz=>by
  simp only[aj,xB]at hz;split at hz
  ·rename_i t ht;cases t with
   |true=>simp_all[lJ,cX,xB,if_true]
   |false=>simp_all[lJ,cX,xB,aza,if_false]
  grind
 | .block id ks a,s,h,r,hz=>by
  simp only[aj,ai]at hz;split at hz
  ·grind
  ·rename_i t1 ht1;exact(lJ a ht1).mono fun k hk=>by grind[cX,ai]
  ·rename_i i t1 ht1;exact(lJ a ht1).mono fun k hk=>by grind[cX,ai]
  ·rename_i t1 ht1;exact(lJ a ht1).mono fun k hk=>by grind[cX,ai]
 | .loop ks hs a,s,h,r,hz=>by
  obtain⟨m,hm⟩:=pR.1 hz;obtain⟨n,hn⟩:=Zq (fun hh=>lJ a hh) m (hm m (ayd _));exact⟨n,fun k hk=>by grind[cX]⟩
 | .exit id,s,h,r,hz=>Ev.all fun k=>hz
 | .ret,s,h,r,hz=>Ev.all fun k=>hz
 | .frz is a,s,h,r,hz=>by
  simp only[aj,bq]at hz;split at hz
  ·cases hz
  ·rename_i t1 ht1;exact(lJ a hz).mono fun k hk=>by simp only[cX,bq, *]
theorem Sj{f}{fd}{args}{hs}{r}(hE:e.E f=none)(hC:e.C f=some fd)(hz:abV (kj e) {e.md with nm:=e.md.keep f} fd args hs=some r):kj e f args hs=some r:=by
 unfold kj;rw[pR];unfold abV at hz;split at hz
 ·cases hx:aj (kj e) {e.md with nm:=e.md.keep f} fd.body (uw args) (aq hs)with
  |none=>rw[hx]at hz;cases hz
  |some q=>
   obtain⟨n,hn⟩:=lJ fd.body hx;refine⟨n+1,fun k hk=>?_⟩;obtain⟨k,rfl⟩:∃k',k=k'+1:=⟨k-1,by omega⟩
   simp_all[fk,ayi,FU,if_pos]
 grind
theorem MX{f}{g}{args}{hs}(hE:e.E f=some g):kj e f args hs=g args hs:=by
 unfold kj;rw[←Vp]
 simp_all[fk,funext,B0]
theorem Zr{P}{I}(he:EnvOK P I e)(f):qh P I (e.md.keep f) f (kj e f):=by
 intro args obs obs' res w X ρ vals n hz;obtain⟨m,hm⟩:=pR.1 hz;exact adX he m f (hm m (ayd _))
end
section
variable {call:iG} {md:Mode} {s:ak} {h:ac}
@[go_sem] theorem awf:aj call md .skip s h=some (.normal,⟨s,h⟩):=θ _
@[go_sem] theorem axI(ks l):aj call md (.ops ks l) s h=bq (aG call md l s h) fun s h=>some (.normal,⟨mk .any s ks,h⟩):=θ _
@[go_sem] theorem axJ(is a):aj call md (.frz is a) s h=bq (Az md.nm is s h) (aj call md a):=θ _
@[go_sem] theorem awg(ks l ps):aj call md (.dops ks l ps) s h=bq (rF call md l ps s h) fun s h=>some (.normal,⟨mk .any s ks,h⟩):=θ _
@[go_sem] theorem abW(a b):aj call md (.seq a b) s h=cu (aj call md a s h) (aj call md b):=θ _
@[go_sem] theorem awh(c a b):aj call md (.cond c a b) s h=xB (aj call md a s h) (aj call md b s h) (ev s c):=θ _
@[go_sem] theorem atZ(id ks a):aj call md (.block id ks a) s h=ai id ks (aj call md a s h):=θ _
@[go_sem] theorem awi(ks hs a):aj call md (.loop ks hs a) s h=ax (aj call md a) ks hs s h:=θ _
@[go_sem] theorem awj(i):aj call md (.exit i) s h=some (.exit i,⟨s,h⟩):=θ _
@[go_sem] theorem axK:aj call md .ret s h=some (.ret,⟨s,h⟩):=θ _
@[go_sem] theorem al5(s h f):cu (some (.normal,⟨s,h⟩)) f=f s h:=θ _
@[go_sem] theorem aoA(i t f):cu (some (.exit i,t)) f=some (.exit i,t):=θ _
@[go_sem] theorem ap6(t f):cu (some (.ret,t)) f=some (.ret,t):=θ _
@[go_sem] theorem an5(id ks i t):ai id ks (some (.exit i,t))=if i=id then some (.normal,⟨mk .any t.s ks,t.h⟩)else some (.exit i,t):=θ _
@[go_sem] theorem alL(id ks t):ai id ks (some (.normal,t))=some (.normal,⟨mk .any t.s ks,t.h⟩):=θ _
@[go_sem] theorem aoB(id ks t):ai id ks (some (.ret,t))=some (.ret,t):=θ _
@[go_sem] theorem aoC(a b):xB a b (.v (.bool true))=a:=θ _
@[go_sem] theorem an6(a b):xB a b (.v (.bool false))=b:=θ _
@[go_sem] theorem al6(g t):Uk g (some (.normal,t))=g t.s t.h:=θ _
@[go_sem] theorem aoD(g i t):Uk g (some (.exit i,t))=some (.exit i,t):=θ _
@[go_sem] theorem ap7(g t):Uk g (some (.ret,t))=some (.ret,t):=θ _
@[go_sem] theorem aoE{β}(s h)(f:ak->ac->Option β):bq (some ⟨s,h⟩) f=f s h:=θ _
@[go_sem] theorem ap8{β}(c) [Decidable c](x y)(f:ak->ac->Option β):bq (if c then x else y) f=if c then bq x f else bq y f:=by split<;>rfl
@[go_sem] theorem ap9(c) [Decidable c](x y)(f):cu (if c then x else y) f=if c then cu x f else cu y f:=by split<;>rfl
@[go_sem] theorem at0:aG call md [] s h=some ⟨s,h⟩:=θ _
@[go_sem] theorem Oz(d op rest):aG call md (⟨some d,none,.p op⟩::rest) s h=(gJ s op).bind fun a=>aG call md rest (upd s d a) h:=by
 simp only[aG,mj,step,DA];cases gJ s op with
 |none=>rfl
 |some a=>simp only[ayT,dA,pP,if_true];rfl
def cm(d n:Nat):COp:=⟨some d,none,.p (.mv (.t n))⟩
def co(d:Nat)(op:POp):COp:=⟨some d,none,.p op⟩
def cg(d j:Nat)(w:Bool)(op:POp):COp:=⟨some d,some (j,w),.p op⟩
@[go_sem] theorem awk(d n rest):aG call md (cm d n::rest) s h=aG call md rest (upd s d (s n)) h:=Oz d (.mv (.t n)) rest
@[go_sem] theorem awl(d op rest):aG call md (co d op::rest) s h=(gJ s op).bind fun a=>aG call md rest (upd s d a) h:=Oz d op rest
@[go_sem] theorem awm(d j w op rest):aG call md (cg d j w op::rest) s h=bq (lj (some d) w ((gJ s op).map fun a=>⟨upd s d a,h⟩) s h (s j)) (aG call md rest):=by
 have:dA md.nm s (some d) (step call md d (.p op) s h)=(gJ s op).map fun a=>⟨upd s d a,h⟩:=by
  simp only[step,DA];cases gJ s op with
  |none=>rfl
  |some a=>simp only[ayT,dA,pP,if_true];rfl
 show bq (lj (some d) w (dA md.nm s (some d) (step call md d (.p op) s h)) s h (s j)) _=_;rw[this]
def b2(d:Nat)(op:BinOp)(a b:Nat):COp:=⟨some d,none,.p (.bin op (.t a) (.t b))⟩
def fa(d k a:Nat):COp:=⟨some d,none,.p (.fadr k (.t a))⟩
def nk(d a:Nat):COp:=⟨some d,none,.p (.nilck (.t a))⟩
def ld(d k a:Nat):COp:=⟨some d,none,.load k false (.t a)⟩
def la(d k a:Nat):COp:=⟨some d,none,.load k true (.t a)⟩
def ca(d f:Nat)(zas:List Opd):COp:=⟨some d,none,.call (.c (.fn f [] [])) zas⟩
def sr(k:Nat)(x y:Opd):COp:=⟨none,none,.store k x y⟩
def al(d:Nat)(z:List AV):COp:=⟨some d,none,.alloc z⟩
def bx(d k:Nat)(x:Opd):COp:=⟨some d,none,.box k x⟩
@[go_sem] theorem awn(d op a b rest):aG call md (b2 d op a b::rest) s h=(dU op (s a) (s b)).bind fun a=>aG call md rest (upd s d a) h:=Oz d (.bin op (.t a) (.t b)) rest
@[go_sem] theorem awo(d k a rest):aG call md (fa d k a::rest) s h=(Bw k (s a)).bind fun a=>aG call md rest (upd s d a) h:=Oz d (.fadr k (.t a)) rest
@[go_sem] theorem awp(d a rest):aG call md (nk d a::rest) s h=(I6 (s a)).bind fun a=>aG call md rest (upd s d a) h:=Oz d (.nilck (.t a)) rest
@[go_sem] theorem awq(d k a rest):aG call md (ld d k a::rest) s h=bq (dA md.nm s (some d) (iZ h k false (s a))) (aG call md rest):=θ _
@[go_sem] theorem awr(d k a rest):aG call md (la d k a::rest) s h=bq (dA md.nm s (some d) (iZ h k true (s a))) (aG call md rest):=θ _
@[go_sem] theorem aws(d f zas rest):aG call md (ca d f zas::rest) s h=bq (dA md.nm s (some d) (bF call md h d (zas.map (ev s)) (.fn f [] []))) (aG call md rest):=θ _
@[go_sem] theorem awt(k x y rest):aG call md (sr k x y::rest) s h=bq (dA md.nm s none (lT h k (ev s x) (ev s y))) (aG call md rest):=θ _
@[go_sem] theorem awu(d z rest):aG call md (al d z::rest) s h=bq (dA md.nm s (some d) (m8 h d z [])) (aG call md rest):=θ _
@[go_sem] theorem awv(d k x rest):aG call md (bx d k x::rest) s h=bq (dA md.nm s (some d) (Dz h d k (ev s x))) (aG call md rest):=θ _
@[go_sem] theorem axL(d j w op rest):aG call md (⟨d,some (j,w),op⟩::rest) s h=bq (lj d w (dA md.nm s d (step call md (d.getD 0) op s h)) s h (s j)) (aG call md rest):=θ _
@[go_sem] theorem aqa(d z rest):aG call md (⟨some d,none,.alloc z⟩::rest) s h=bq (dA md.nm s (some d) (m8 h d z [])) (aG call md rest):=θ _
@[go_sem] theorem at1(d k x rest):aG call md (⟨some d,none,.box k x⟩::rest) s h=bq (dA md.nm s (some d) (Dz h d k (ev s x))) (aG call md rest):=θ _
@[go_sem] theorem an7(d k z n ps rest):aG call md (⟨some d,none,.buildSl k z n ps⟩::rest) s h=bq (dA md.nm s (some d) ((eO k h (aya n z) (ps.map fun p=>(p.1,ev s p.2))).bind fun q=>cW q.2.1 d k q.1 n q.2.2)) (aG call md rest):=θ _
@[go_sem] theorem arM(d k z b l c rest):aG call md (⟨some d,none,.mkSl k z b l c⟩::rest) s h=bq (dA md.nm s (some d) ((nU (ev s l) (ev s c)).bind fun p=>if p.2*b<=140737488355328 then cW h d k (aya p.1 z) p.1 []else none)) (aG call md rest):=θ _
@[go_sem] theorem arN(d k g x rest):aG call md (⟨some d,none,.load k g x⟩::rest) s h=bq (dA md.nm s (some d) (iZ h k g (ev s x))) (aG call md rest):=θ _
@[go_sem] theorem aqb(d k x y rest):aG call md (⟨d,none,.store k x y⟩::rest) s h=bq (dA md.nm s d (lT h k (ev s x) (ev s y))) (aG call md rest):=θ _
@[go_sem] theorem at2(d k b x y rest):aG call md (⟨some d,none,.app k b x y⟩::rest) s h=bq (dA md.nm s (some d) (MR h d k b (ev s x) (ev s y))) (aG call md rest):=θ _
@[go_sem] theorem arO(d f zas rest):aG call md (⟨some d,none,.call f zas⟩::rest) s h=bq (dA md.nm s (some d) (bF call md h d (zas.map (ev s)) (ev s f))) (aG call md rest):=θ _
@[go_sem] theorem aqc(f zas rest):aG call md (⟨none,none,.call f zas⟩::rest) s h=bq (dA md.nm s none (bF call md h 0 (zas.map (ev s)) (ev s f))) (aG call md rest):=θ _
@[go_sem] theorem arP(nm)(s d x h):dA nm s (some d) (some (x,h,[]))=some ⟨upd s d x,h⟩:=by simp only[dA,pP,if_true];rfl
@[go_sem] theorem aqd(nm)(s x h):dA nm s none (some (x,h,[]))=some ⟨s,h⟩:=by simp only[dA,pP,if_true];rfl
@[go_sem] theorem aww(d op):step call md d (.p op) s h=DA h (gJ s op):=θ _
@[go_sem] theorem aqe(d k g x):step call md d (.load k g x) s h=iZ h k g (ev s x):=θ _
@[go_sem] theorem aqf(d f zas):step call md d (.call f zas) s h=bF call md h d (zas.map (ev s)) (ev s f):=θ _
@[go_sem] theorem aoF(d k x y):step call md d (.store k x y) s h=lT h k (ev s x) (ev s y):=θ _
@[go_sem] theorem aoG(d z):step call md d (.alloc z) s h=m8 h d z []:=θ _
@[go_sem] theorem arQ(d k x):step call md d (.box k x) s h=Dz h d k (ev s x):=θ _
@[go_sem] theorem al7(d k z n ps):step call md d (.buildSl k z n ps) s h=(eO k h (aya n z) (ps.map fun p=>(p.1,ev s p.2))).bind fun q=>cW q.2.1 d k q.1 n q.2.2:=θ _
@[go_sem] theorem aqg(d k z b l c):step call md d (.mkSl k z b l c) s h=(nU (ev s l) (ev s c)).bind fun p=>if p.2*b<=140737488355328 then cW h d k (aya p.1 z) p.1 []else none:=θ _
@[go_sem] theorem aqh(h a):DA h (some a)=some (a,h,[]):=θ _
@[go_sem] theorem aoH(d st s h):lj d true st s h (.v (.bool true))=st:=θ _
@[go_sem] theorem aoI(d st s h):lj d false st s h (.v (.bool false))=st:=θ _
@[go_sem] theorem aoJ(d st s h):lj (some d) true st s h (.v (.bool false))=some ⟨upd s d .und,h⟩:=θ _
@[go_sem] theorem aoK(d st s h):lj (some d) false st s h (.v (.bool true))=some ⟨upd s d .und,h⟩:=θ _
@[go_sem] theorem an8(d w st s h):lj (some d) w st s h .und=some ⟨upd s d .und,h⟩:=θ _
@[go_sem] theorem ax1(s n):ev s (.t n)=s n:=θ _
@[go_sem] theorem ax2(s a):ev s (.c a)=a:=θ _
@[go_sem] theorem arR(s):evo s none=none:=θ _
@[go_sem] theorem arS(s x):evo s (some x)=some (ev s x):=θ _
@[go_sem] theorem awx{α}(s)(d)(x:α)(i):upd s d x i=if i=d then x else s i:=θ _
@[go_sem] theorem awy{α}(d)(f:Nat->α):mk d f []=fun _=>d:=θ _
@[go_sem] theorem at3{α}(d)(f:Nat->α)(i l):mk d f (i::l)=upd (mk d f l) i (f i):=θ _
@[go_sem] theorem ax3(x):gJ s (.mv x)=some (ev s x):=θ _
@[go_sem] theorem awz(c a b):gJ s (.pick c a b)=KN (ev s c) (ev s a) (ev s b):=θ _
@[go_sem] theorem at4(x):gJ s (.nilck x)=I6 (ev s x):=θ _
@[go_sem] theorem awA(n x):gJ s (.nilq n x)=KO n (ev s x):=θ _
@[go_sem] theorem axM(op x y):gJ s (.bin op x y)=dU op (ev s x) (ev s y):=θ _
@[go_sem] theorem ax4(op x):gJ s (.un op x)=UA op (ev s x):=θ _
@[go_sem] theorem ax5(k x):gJ s (.cv k x)=cvA k (ev s x):=θ _
@[go_sem] theorem axN(x):gJ s (.cv0 x)=aa1 (ev s x):=θ _
@[go_sem] theorem axO(k x lo hi mx):gJ s (.slc k x lo hi mx)=eA k (ev s x) (evo s lo) (evo s hi) (evo s mx):=θ _
@[go_sem] theorem awB(x lo hi):gJ s (.slcS x lo hi)=Ud (ev s x) (evo s lo) (evo s hi):=θ _
@[go_sem] theorem awC(o x):gJ s (.fadr o x)=Bw o (ev s x):=θ _
@[go_sem] theorem axP(o k g x):gJ s (.fld o k g x)=UC o k g (ev s x):=θ _
@[go_sem] theorem at5(k x i):gJ s (.iadrS k x i)=xc k (ev s x) (ev s i):=θ _
@[go_sem] theorem at6(n k x i):gJ s (.iadrA n k x i)=Gm n k (ev s x) (ev s i):=θ _
@[go_sem] theorem awD(x i):gJ s (.idxS x i)=KP (ev s x) (ev s i):=θ _
@[go_sem] theorem awE(n k g x i):gJ s (.idxA n k g x i)=KQ n k g (ev s x) (ev s i):=θ _
@[go_sem] theorem axQ(i x):gJ s (.ext i x)=UD i (ev s x):=θ _
@[go_sem] theorem axR(m x):gJ s (.len m x)=qB m (ev s x):=θ _
@[go_sem] theorem axS(m t x y):gJ s (.eqc m t x y)=Uz m t (ev s x) (ev s y):=θ _
@[go_sem] theorem awF(x):gJ s (.capp x)=PS (ev s x):=θ _
@[go_sem] theorem axT(m x ys):gJ s (.mnx m x ys)=FQ m (ev s x) (ys.map (ev s)):=θ _
@[go_sem] theorem at7(z ps):gJ s (.build z ps)=(yX z (ps.map fun p=>(p.1,p.2.1,ev s p.2.2))).map .agg:=θ _
@[go_sem] theorem axU(f a b):gJ s (.mkF f a b)=some (.fn f (a.map (ev s)) (b.map (ev s))):=θ _
@[go_sem] theorem aqi(a b):KN (.v (.bool true)) a b=some a:=θ _
@[go_sem] theorem aoL(a b):KN (.v (.bool false)) a b=some b:=θ _
@[go_sem] theorem arT(id sub k i j):I6 (.ref id sub k i j)=some (.ref id sub k i j):=θ _
@[go_sem] theorem arU(cs):I6 (.ipt cs)=some (.ipt cs):=θ _
@[go_sem] theorem at8(f a b):I6 (.fn f a b)=some (.fn f a b):=θ _
theorem qi(op a b):dU op (.v a) (.v b)=(kQ op a b).map .v:=θ _
@[go_sem] theorem at9(k a b):dU .add (.v (.int k a)) (.v (.int k b))=some (.v (.int k (k.wrap (a+b)))):=by simp[qi,kQ,uu]
@[go_sem] theorem aua(k a b):dU .sub (.v (.int k a)) (.v (.int k b))=some (.v (.int k (k.wrap (a-b)))):=by simp[qi,kQ,uu]
@[go_sem] theorem aub(k a b):dU .mul (.v (.int k a)) (.v (.int k b))=some (.v (.int k (k.wrap (a*b)))):=by simp[qi,kQ,uu]
@[go_sem] theorem P6(k a b):dU .quo (.v (.int k a)) (.v (.int k b))=if b=0 then none else some (.v (.int k (k.wrap (a.tdiv b)))):=by simp only[qi,kQ,uu,if_true];split<;>rfl
@[go_sem] theorem K3(k a b):dU .rem (.v (.int k a)) (.v (.int k b))=if b=0 then none else some (.v (.int k (a.tmod b))):=by simp only[qi,kQ,uu,if_true];split<;>rfl
@[go_sem] theorem P7(k a b):dU .and (.v (.int k a)) (.v (.int k b))=some (.v (.int k (k.wrap ((BitVec.ofInt k.bits a&&&BitVec.ofInt k.bits b).toNat)))):=by simp[qi,kQ,uu]
@[go_sem] theorem OA(k a b):dU .or (.v (.int k a)) (.v (.int k b))=some (.v (.int k (k.wrap ((BitVec.ofInt k.bits a|||BitVec.ofInt k.bits b).toNat)))):=by simp[qi,kQ,uu]
@[go_sem] theorem K4(k k' a b):dU .shl (.v (.int k a)) (.v (.int k' b))=if b<0 then none else some (.v (.int k (k.wrap (a*2^ (min b.toNat k.bits))))):=by simp only[qi,kQ,agA];split<;>rfl
@[go_sem] theorem Gu(k k' a b):dU .shr (.v (.int k a)) (.v (.int k' b))=if b<0 then none else some (.v (.int k (a.fdiv (2^ (min b.toNat k.bits))))):=by simp only[qi,kQ,agB];split<;>rfl
@[go_sem] theorem auc(k a b):dU .lss (.v (.int k a)) (.v (.int k b))=some (B (decide (a<b))):=by simp[qi,kQ,uu]
@[go_sem] theorem aud(k a b):dU .leq (.v (.int k a)) (.v (.int k b))=some (B (decide (a<=b))):=by simp[qi,kQ,uu]
@[go_sem] theorem aue(k a b):dU .gtr (.v (.int k a)) (.v (.int k b))=some (B (decide (b<a))):=by simp[qi,kQ,uu]
@[go_sem] theorem auf(k a b):dU .geq (.v (.int k a)) (.v (.int k b))=some (B (decide (b<=a))):=by simp[qi,kQ,uu]
@[go_sem] theorem aug(k a b):dU .eql (.v (.int k a)) (.v (.int k b))=some (B (decide (a=b))):=by simp[qi,kQ,uu];rfl
@[go_sem] theorem auh(k a b):dU .neq (.v (.int k a)) (.v (.int k b))=some (B (!decide (a=b))):=by simp[qi,kQ,uu,bne];rfl
@[go_sem] theorem awG(k a):UA .neg (.v (.int k a))=some (.v (.int k (k.wrap (0-a)))):=θ _
@[go_sem] theorem awH(k a):UA .xor (.v (.int k a))=some (.v (.int k (k.wrap ((BitVec.ofInt k.bits (if k.signed then-1 else k.max)^^^BitVec.ofInt k.bits a).toNat)))):=θ _
@[go_sem] theorem aui(k a b):dU .xor (.v (.int k a)) (.v (.int k b))=some (.v (.int k (k.wrap ((BitVec.ofInt k.bits a^^^BitVec.ofInt k.bits b).toNat)))):=by simp[qi,kQ,uu]
@[go_sem] theorem awI(b):UA .not (.v (.bool b))=some (B (!b)):=θ _
@[go_sem] theorem awJ(k k' n):cvA k (.v (.int k' n))=some (.v (.int k (k.wrap n))):=θ _
@[go_sem] theorem arV(o id sub k i j):Bw o (.ref id sub k i j)=some (.ref id sub k i (j+o)):=θ _
@[go_sem] theorem arW(o cs):Bw o (.ipt cs)=some (.ipt (cs.drop o)):=θ _
@[go_sem] theorem auj(o k g cs):UC o k g (.agg cs)=kH k g cs o:=θ _
@[go_sem] theorem aqj(k cs o):kH k false cs o=cs[o]?:=θ _
@[go_sem] theorem arX(k cs o):kH k true cs o=if o+k<=cs.length then some (.agg ((cs.drop o).take k))else none:=θ _
@[go_sem] theorem auk(k rows k' i):xc k (.sl k rows) (.v (.int k' i))=aX rows i:=by simp[xc]
@[go_sem] theorem arY(k id sub lo n k' i):xc k (.rsl id sub k lo n) (.v (.int k' i))=if 0<=i/\i<n then some (.ref id sub k (lo+i.toNat) 0)else none:=by simp[xc]
@[go_sem] theorem aqk(n k id sub k' a j kk i):Gm n k (.ref id sub k' a j) (.v (.int kk i))=if 0<=i/\i<n then some (.ref id sub k' a (j+i.toNat*k))else none:=θ _
@[go_sem] theorem aql(n k cs kk i):Gm n k (.ipt cs) (.v (.int kk i))=if 0<=i/\i<n then some (.ipt (cs.drop (i.toNat*k)))else none:=θ _
@[go_sem] theorem aul(i vs):UD i (.tup vs)=vs[i]?:=θ _
@[go_sem] theorem awK(k rows):qB false (.sl k rows)=some (I rows.length):=θ _
@[go_sem] theorem aum:qB false .emp=some (I 0):=θ _
@[go_sem] theorem aun(a b c d n):qB false (.rsl a b c d n)=some (I n):=θ _
@[go_sem] theorem auo(x):qB true (.v (.string x))=some (I x.size):=θ _
@[go_sem] theorem arZ(m a):FQ m a []=some a:=θ _
@[go_sem] theorem aqm(m a b l):FQ m a (b::l)=(PT m a b).bind fun c=>FQ m c l:=θ _
@[go_sem] theorem aup(k k' x y):PT true (.v (.int k x)) (.v (.int k' y))=some (.v (.int k (if y<x then y else x))):=θ _
@[go_sem] theorem auq(k k' x y):PT false (.v (.int k x)) (.v (.int k' y))=some (.v (.int k (if x<y then y else x))):=θ _
@[go_sem] theorem ar0(m a b):Uz m 0 (.v (.bool a)) (.v (.bool b))=some (B (m != (a==b))):=θ _
@[go_sem] theorem aqn(z):yX z []=some z:=θ _
@[go_sem] theorem aoM(z o k a ps):yX z ((o,k,a)::ps)=(il a).bind fun cs=>if cs.length=k/\o+k<=z.length then yX (setRow z o cs) ps else none:=θ _
@[go_sem] theorem aqo(cs):il (.agg cs)=some cs:=θ _
@[go_sem] theorem aur(x):il (.v x)=some [.v x]:=θ _
@[go_sem] theorem aqp:il .emp=some [.emp]:=θ _
@[go_sem] theorem ar1(k r):il (.sl k r)=some [.sl k r]:=θ _
@[go_sem] theorem aqq(a b c d e):il (.rsl a b c d e)=some [.rsl a b c d e]:=θ _
@[go_sem] theorem aqr(a b c d e):il (.ref a b c d e)=some [.ref a b c d e]:=θ _
@[go_sem] theorem ar2(f a b):il (.fn f a b)=some [.fn f a b]:=θ _
@[go_sem] theorem aoN(r j):setRow r j []=r:=θ _
@[go_sem] theorem an9(r j c cs):setRow r j (c::cs)=setRow (r.set j c) (j+1) cs:=θ _
@[go_sem] theorem ar3(h k g cs):iZ h k g (.ipt cs)=(kH k g cs 0).map fun a=>(a,h,[]):=θ _
@[go_sem] theorem ar4(h k g id k0 i j):iZ h k g (.ref id none k0 i j)=By h k g id k0 i j (h id):=θ _
@[go_sem] theorem ar5(h k g id p k0 i j):iZ h k g (.ref id (some p) k0 i j)=oS h k g k0 i j (kf p (h id)):=θ _
@[go_sem] theorem ar6(h k g id k0 i j cs):By h k g id k0 i j (.bx cs)=Hh h id (i*k0+j) k g cs:=θ _
@[go_sem] theorem ar7(h k g id k0 i j k' rows):By h k g id k0 i j (.ar k' rows)=oS h k g k0 i j (some (k',rows)):=θ _
@[go_sem] theorem ar8(h k g id k0 i j k' rows):By h k g id k0 i j (.fz k' rows)=oS h k g k0 i j (some (k',rows)):=θ _
@[go_sem] theorem aoO(h id p k cs):Hh h id p k false cs=(cs[p]?).map fun c=>(Bx id p c,h,[]):=θ _
@[go_sem] theorem aqs(h id p k cs):Hh h id p k true cs=if p+k<=cs.length then(if((cs.drop p).take k).any bt then some (.agg (((cs.map lH).drop p).take k),upd h id (.bx (cs.map lH)),[(id,true)])else some (.agg ((cs.drop p).take k),h,[]))else none:=θ _
@[go_sem] theorem aus(id p x):Bx id p (.v x)=.v x:=θ _
@[go_sem] theorem aqt(id p):Bx id p .emp=.emp:=θ _
@[go_sem] theorem ar9(id p k r):Bx id p (.sl k r)=.sl k r:=θ _
@[go_sem] theorem aqu(id p a b c d e):Bx id p (.ref a b c d e)=.ref a b c d e:=θ _
@[go_sem] theorem asa(id p f a b):Bx id p (.fn f a b)=.fn f a b:=θ _
@[go_sem] theorem aqv(id p k r):Bx id p (.osl k r)=.rsl id (some p) k 0 r.length:=θ _
@[go_sem] theorem aoP(h k g i j k' rows):oS h k g k' i j (some (k',rows))=(rows[i]?).bind fun row=>(kH k g row j).map fun a=>(a,h,[]):=by simp[oS]
@[go_sem] theorem aut(x):bt (.v x)=false:=θ _
@[go_sem] theorem aqw:bt .emp=false:=θ _
@[go_sem] theorem asb(k r):bt (.sl k r)=false:=θ _
@[go_sem] theorem aqx(k r):bt (.osl k r)=true:=θ _
@[go_sem] theorem aqy(a b c d e):bt (.ref a b c d e)=false:=θ _
@[go_sem] theorem asc(f a b):bt (.fn f a b)=false:=θ _
@[go_sem] theorem awL(x):aE (.v x)=true:=θ _
@[go_sem] theorem asd:aE .emp=true:=θ _
@[go_sem] theorem auu(k r):aE (.sl k r)=true:=θ _
@[go_sem] theorem ase(a b c d e):aE (.rsl a b c d e)=false:=θ _
@[go_sem] theorem asf(a b c d e):aE (.ref a b c d e)=false:=θ _
@[go_sem] theorem asg(f):aE (.fn f [] [])=true:=θ _
@[go_sem] theorem auv(cs):dat (.agg cs)=cs.all aE:=θ _
@[go_sem] theorem axV(x):dat (.v x)=true:=θ _
@[go_sem] theorem auw:dat .emp=true:=θ _
@[go_sem] theorem awM(k r):dat (.sl k r)=true:=θ _
@[go_sem] theorem aux(a b c d e):dat (.rsl a b c d e)=false:=θ _
@[go_sem] theorem auy(a b c d e):dat (.ref a b c d e)=false:=θ _
@[go_sem] theorem auz(f):dat (.fn f [] [])=true:=θ _
@[go_sem] theorem ash(h d cs ks):m8 h d cs ks=Co h d (.ref d none 0 0 0) (.bx cs) ks (h d):=θ _
@[go_sem] theorem aqz(h d a o ks):Co h d a o ks .dead=some (a,upd h d o,ks):=θ _
@[go_sem] theorem aoQ(h d k rows n ks):cW h d k rows n ks=Co h d (.rsl d none k 0 n) (.ar k rows) ks (h d):=θ _
@[go_sem] theorem awN(h d k x):Dz h d k x=(il x).bind fun xs=>if xs.length=k then(if xs.all aE then m8 h d xs []else(m8 h d (aya k .any) []).bind (MP d 0 xs))else none:=θ _
@[go_sem] theorem al8(k h rows):eO k h rows []=some (rows,h,[]):=θ _
@[go_sem] theorem alM(k h rows i a ps):eO k h rows ((i,a)::ps)=(il a).bind fun cs=>if cs.length=k/\i<rows.length then(iY h cs).bind fun q=>(eO k q.2.1 (rows.set i q.1) ps).bind fun r=>some (r.1,r.2.1,q.2.2++r.2.2)else none:=θ _
@[go_sem] theorem aqA(h):iY h []=some ([],h,[]):=θ _
@[go_sem] theorem aoR(h a l):iY h (a::l)=(fP h a).bind fun p=>(iY p.2.1 l).bind fun q=>some (p.1::q.1,q.2.1,p.2.2++q.2.2):=θ _
@[go_sem] theorem awO(h x):fP h (.v x)=some (.v x,h,[]):=θ _
@[go_sem] theorem asi(h):fP h .emp=some (.emp,h,[]):=θ _
@[go_sem] theorem auA(h k r):fP h (.sl k r)=some (.sl k r,h,[]):=θ _
@[go_sem] theorem auB(h f):fP h (.fn f [] [])=some (.fn f [] [],h,[]):=θ _
@[go_sem] theorem asj(h id k lo n):fP h (.rsl id none k lo n)=mZ h id k lo n (h id):=θ _
@[go_sem] theorem aqB(h id p k lo n):fP h (.rsl id (some p) k lo n)=I8 h id p k lo n (h id):=θ _
@[go_sem] theorem auC(h id k lo n rows):mZ h id k lo n (.ar k rows)=if lo+n<=rows.length then some (pO k lo n rows,upd h id (.fz k rows),[])else none:=by simp[mZ]
@[go_sem] theorem auD(h id k lo n rows):mZ h id k lo n (.fz k rows)=if lo+n<=rows.length then some (pO k lo n rows,h,[])else none:=by simp[mZ]
@[go_sem] theorem auE(k lo n rows):pO k lo n rows=.sl k ((rows.drop lo).take n):=θ _
@[go_sem] theorem aqC(h k id k0 i j x):lT h k (.ref id none k0 i j) x=(il x).bind fun xs=>if xs.length=k then FS h k id k0 i j xs (h id)else none:=θ _
@[go_sem] theorem aqD(h k id p k0 i j x):lT h k (.ref id (some p) k0 i j) x=(il x).bind fun xs=>if xs.length=k then(iY h xs).bind fun q=>E2 q.2.1 k id p k0 i j q.1 q.2.2 (q.2.1 id)else none:=θ _
@[go_sem] theorem auF(h k id k0 i j xs cs):FS h k id k0 i j xs (.bx cs)=PU h id (i*k0+j) k xs cs:=θ _
@[go_sem] theorem auG(h k id k0 i j xs k' rows):FS h k id k0 i j xs (.ar k' rows)=(iY h xs).bind fun q=>PV q.2.1 id k k0 i j q.1 q.2.2 (q.2.1 id):=θ _
@[go_sem] theorem auH(h id k k0 i j xs ks k' rows):PV h id k k0 i j xs ks (.ar k' rows)=(rA k k0 i j xs k' rows).map fun q=>(.und,upd h id (.ar k' q),ks):=θ _
@[go_sem] theorem auI(k k0 i j cs rows):rA k k0 i j cs k0 rows=(rows[i]?).bind fun row=>if j+k<=row.length then some (rows.set i (setRow row j cs))else none:=by simp[rA]
@[go_sem] theorem auJ(h id p k xs cs):PU h id p k xs cs=if p+k<=cs.length then(if xs.all aE then some (.und,upd h id (.bx (setRow cs p xs)),if((cs.drop p).take k).any bt then [(id,true)]else [])else(sq h id p xs.length xs).map fun q=>(.und,q.1,q.2))else none:=θ _
@[go_sem] theorem auK(hs x):gD hs (.v x)=.v x:=θ _
@[go_sem] theorem aqE(hs):gD hs .emp=.emp:=θ _
@[go_sem] theorem ask(hs k r):gD hs (.sl k r)=.sl k r:=θ _
@[go_sem] theorem aqF(hs):gD hs .any=.any:=θ _
@[go_sem] theorem aqG(hs cs):gD hs (.ipt cs)=.ipt cs:=θ _
@[go_sem] theorem aqH(hs id sub k lo n):gD hs (.rsl id sub k lo n)=if hs.contains id then .rsl id sub k lo n else .any:=θ _
@[go_sem] theorem aqI(hs id sub k lo n):gD hs (.ref id sub k lo n)=if hs.contains id then .ref id sub k lo n else .any:=θ _
@[go_sem] theorem aqJ(hs cs):gD hs (.agg cs)=if cs.all (knownL hs)then .agg cs else .any:=θ _
@[go_sem] theorem aqK(hs f):gD hs (.fn f [] [])=.fn f [] []:=θ _
@[go_sem] theorem asl(hs f a b):gD hs (.fn f a b)=if a.all (knownL hs)&&b.all (knownL hs)then .fn f a b else .any:=θ _
@[go_sem] theorem asm(hs x):knownL hs (.v x)=true:=θ _
@[go_sem] theorem aoS(hs):knownL hs .emp=true:=θ _
@[go_sem] theorem aqL(hs k r):knownL hs (.sl k r)=true:=θ _
@[go_sem] theorem aoT(hs id a b c d):knownL hs (.ref id a b c d)=hs.contains id:=θ _
@[go_sem] theorem al9(hs):aD hs .dead=true:=θ _
@[go_sem] theorem aoU(hs k r):aD hs (.ar k r)=true:=θ _
@[go_sem] theorem aoV(hs k r):aD hs (.fz k r)=true:=θ _
@[go_sem] theorem aoW(hs cs):aD hs (.bx cs)=cs.all (jG hs):=θ _
@[go_sem] theorem aqM(hs x):jG hs (.v x)=true:=θ _
@[go_sem] theorem aoa(hs):jG hs .emp=true:=θ _
@[go_sem] theorem aoX(hs k r):jG hs (.sl k r)=true:=θ _
@[go_sem] theorem aob(hs k r):jG hs (.osl k r)=true:=θ _
@[go_sem] theorem aoc(hs id a b c):jG hs (.ref id none a b c)=hs.contains id:=by simp[jG,bt,bg,bo]
@[go_sem] theorem aod(hs f):jG hs (.fn f [] [])=true:=θ _
@[go_sem] theorem aoY{α β:Type}(f:α->β)(a):Option.map f (some a)=some (f a):=θ _
@[go_sem] theorem aoZ{α β:Type}(f:α->β):Option.map f none=none:=θ _
@[go_sem] theorem aoe{α β:Type}(f:α->Option β)(a):(some a).bind f=f a:=θ _
@[go_sem] theorem aof{α β:Type}(f:α->Option β):none.bind f=none:=θ _
@[go_sem] theorem aog{α:Type}(a b:α):(some a).getD b=a:=θ _
@[go_sem] theorem aqN{α:Type}(p:α->Bool):[].all p=true:=θ _
@[go_sem] theorem ao0{α:Type}(p:α->Bool)(a l):(a::l).all p=(p a&&l.all p):=θ _
@[go_sem] theorem aqO{α:Type}(p:α->Bool):[].any p=false:=θ _
@[go_sem] theorem ao1{α:Type}(p:α->Bool)(a l):(a::l).any p=(p a||l.any p):=θ _
@[go_sem] theorem ao2{α:Type}(a:α)(l):(a::l)[0]?=some a:=θ _
@[go_sem] theorem ao3{α:Type}(a:α)(l)(n):(a::l)[n+1]?=l[n]?:=θ _
@[go_sem] theorem aqP{α β:Type}(f:α->β):[].map f=[]:=θ _
@[go_sem] theorem ao4{α β:Type}(f:α->β)(a l):(a::l).map f=f a::l.map f:=θ _
@[go_sem] theorem asn{α β:Type}(f:α->List β):[].flatMap f=[]:=θ _
@[go_sem] theorem aqQ{α β:Type}(f:α->List β)(a l):(a::l).flatMap f=f a++l.flatMap f:=θ _
@[go_sem] theorem aqR{α:Type}(l:List α):l++[]=l:=ayp l
@[go_sem] theorem aqS{α:Type}(l:List α):[]++l=l:=θ _
@[go_sem] theorem ao5{α:Type}(a:α)(l r):(a::l)++r=a::(l++r):=θ _
@[go_sem] theorem aqT{α:Type}:([]:List α).length=0:=θ _
@[go_sem] theorem ao6{α:Type}(a:α)(l):(a::l).length=l.length+1:=θ _
@[go_sem] theorem aoh{α:Type}(l:List α):l.drop 0=l:=θ _
@[go_sem] theorem aoi{α:Type}(a:α)(l)(n):(a::l).drop (n+1)=l.drop n:=θ _
@[go_sem] theorem aoj{α:Type}(l:List α):l.take 0=[]:=θ _
@[go_sem] theorem aok{α:Type}(a:α)(l)(n):(a::l).take (n+1)=a::l.take n:=θ _
@[go_sem] theorem ama{α:Type}(p:α->Bool):[].filter p=[]:=θ _
@[go_sem] theorem ao7{α:Type}(a b:α)(l):(a::l).set 0 b=b::l:=θ _
@[go_sem] theorem ao8{α:Type}(a b:α)(l)(n):(a::l).set (n+1) b=a::l.set n b:=θ _
@[go_sem] theorem awP{α:Type}(a:α):aya 0 a=[]:=θ _
@[go_sem] theorem awQ{α:Type}(a:α):aya 1 a=[a]:=θ _
@[go_sem] theorem awR{α:Type}(a:α):aya 2 a=[a,a]:=θ _
@[go_sem] theorem awS{α:Type}(a:α):aya 3 a=[a,a,a]:=θ _
@[go_sem] theorem awT{α:Type}(a:α):aya 4 a=[a,a,a,a]:=θ _
@[go_sem] theorem awU{α:Type}(a:α):aya 5 a=[a,a,a,a,a]:=θ _
@[go_sem] theorem ax6:decide True=true:=θ _
@[go_sem] theorem ax7:decide False=false:=θ _
@[go_sem] theorem auL(b):(true&&b)=b:=θ _
@[go_sem] theorem auM(b):(false&&b)=false:=θ _
@[go_sem] theorem awV(b):(true||b)=true:=θ _
@[go_sem] theorem awW(b):(false||b)=b:=θ _
@[go_sem] theorem auN:(!true)=false:=θ _
@[go_sem] theorem auO:(!false)=true:=θ _
@[go_sem] theorem auP(b):(b&&true)=b:=Bool.and_true b
@[go_sem] theorem ax8:(false=true)=False:=σ
@[go_sem] theorem axW{α:Type}(a:α):(a=a)=True:=σ
@[go_sem] theorem awX(p):(True/\p)=p:=σ
@[go_sem] theorem auQ(p):(p/\True)=p:=σ
@[go_sem] theorem awY(p):(False/\p)=False:=σ
@[go_sem] theorem awZ:(¬False)=True:=σ
@[go_sem] theorem axa:(¬True)=False:=σ
@[go_sem] theorem aso(nm rs res n t):ip nm rs res n (some (.ret,t))=DB nm rs res n t.s t.h:=θ _
@[go_sem] theorem aol(nm rs res n t):ip nm rs res n (some (.normal,t))=DB nm rs res n t.s t.h:=θ _
@[go_sem] theorem aqU(nm rs res n s h):DB nm rs res n s h=(BB s h res).bind fun q=>if rC nm q.2.2 then wE rs n q.2.1 q.1 else none:=θ _
@[go_sem] theorem axb(nm):rC nm []=true:=pP nm
@[go_sem] theorem aqV(s h):BB s h []=some ([],h,[]):=θ _
@[go_sem] theorem auR(s h n l):BB s h (.t n::l)=(BB s h l).bind fun q=>some (UP q.2.2 (s n)::q.1,q.2.1,q.2.2):=θ _
@[go_sem] theorem ao9(s h n k g l):BB s h (.cell n k g::l)=(iZ h k g (s n)).bind fun p=>(BB (ke p.2.2 s) p.2.1 l).bind fun q=>some (UP q.2.2 p.1::q.1,q.2.1,p.2.2++q.2.2):=θ _
@[go_sem] theorem asp(a):UP [] a=a:=θ _
@[go_sem] theorem aqW(s):ke [] s=s:=θ _
@[go_sem] theorem axc(rs h vs):wE rs 0 h vs=if kR ((vs.flatMap cf).filter fun i=>!bh i)then(vE h vs).map fun us=>(xC (bp rs us),[])else none:=by simp[wE,de]
@[go_sem] theorem aqX(h):vE h []=some []:=θ _
@[go_sem] theorem apa(h a l):vE h (a::l)=(rG h a).bind fun b=>(vE h l).bind fun q=>some (b::q):=θ _
@[go_sem] theorem axd(h x):rG h (.v x)=some (.v x):=θ _
@[go_sem] theorem asq(h):rG h .emp=some .emp:=θ _
@[go_sem] theorem auS(h k r):rG h (.sl k r)=some (.sl k r):=θ _
@[go_sem] theorem asr(h cs):rG h (.agg cs)=(mr h cs).map .agg:=θ _
@[go_sem] theorem ass(h id k lo n):rG h (.rsl id none k lo n)=if bh id then none else Cr k lo n (h id):=θ _
@[go_sem] theorem auT(k lo n rows):Cr k lo n (.ar k rows)=if lo+n<=rows.length then(if lo=0/\n=rows.length then some (.osl k rows)else some (pO k lo n rows))else none:=by simp[Cr]
@[go_sem] theorem auU(k lo n rows):Cr k lo n (.fz k rows)=if lo+n<=rows.length then some (pO k lo n rows)else none:=by simp[Cr]
@[go_sem] theorem aqY(h):mr h []=some []:=θ _
@[go_sem] theorem auV(h x l):mr h (.v x::l)=(mr h l).bind fun q=>some (.v x::q):=θ _
@[go_sem] theorem aqZ(h l):mr h (.emp::l)=(mr h l).bind fun q=>some (.emp::q):=θ _
@[go_sem] theorem ast(h k r l):mr h (.sl k r::l)=(mr h l).bind fun q=>some (.sl k r::q):=θ _
@[go_sem] theorem aq0(h id k lo n l):mr h (.rsl id none k lo n::l)=(mq h (.rsl id none k lo n)).bind fun b=>(Cs b).bind fun c=>(mr h l).bind fun q=>some (c::q):=θ _
@[go_sem] theorem asu(h id k lo n):mq h (.rsl id none k lo n)=if bh id then none else Cr k lo n (h id):=θ _
@[go_sem] theorem asv(k r):Cs (.osl k r)=some (.sl k r):=θ _
@[go_sem] theorem auW(k r):Cs (.sl k r)=some (.sl k r):=θ _
@[go_sem] theorem auX(a):xC [a]=a:=θ _
@[go_sem] theorem auY(a b l):xC (a::b::l)=.tup (a::b::l):=θ _
@[go_sem] theorem auZ:xC []=.tup []:=θ _
@[go_sem] theorem aq1(l):bp [] l=l:=by cases l<;>simp[bp]
@[go_sem] theorem apb(s):bp s []=[]:=by cases s<;>simp[bp]
@[go_sem] theorem apc(s ss a l):bp (s::ss) (a::l)=nrmV s a::bp ss l:=θ _
@[go_sem] theorem ag1(a):nrmV [] a=a:=by cases a<;>simp[nrmV,nrmL,dQ]
@[go_sem] theorem asw(ss cs):nrmV ss (.agg cs)=.agg (dQ ss cs):=θ _
@[go_sem] theorem axe(ss x):nrmV ss (.v x)=.v x:=by
 show nrmL _ _=_;generalize ss.headD (.o 0 [])=s;obtain⟨k,cs⟩:=s;cases k<;>simp[nrmL]
@[go_sem] theorem asx(k cs ss):nrmV (.o (k+1) cs::ss) .emp=.sl k []:=by simp[nrmV,nrmL]
@[go_sem] theorem au0(k cs ss k' rows):nrmV (.o (k+1) cs::ss) (.sl k' rows)=.sl k' (rows.map (dQ cs)):=by simp[nrmV,nrmL]
@[go_sem] theorem asy(k cs ss k' rows):nrmV (.o (k+1) cs::ss) (.osl k' rows)=.sl k' (rows.map (dQ cs)):=by simp[nrmV,nrmL]
@[go_sem] theorem Vs(l):dQ [] l=l:=by cases l<;>simp[dQ]
@[go_sem] theorem aq2(l):dQ l []=[]:=by cases l<;>simp[dQ]
@[go_sem] theorem aq3(s ss a l):dQ (s::ss) (a::l)=nrmL s a::dQ ss l:=by simp[dQ]
@[go_sem] theorem axf(cs a):nrmL (.o 0 cs) a=a:=by simp[nrmL]
@[go_sem] theorem asz(k cs):nrmL (.o (k+1) cs) .emp=.sl k []:=by simp[nrmL]
@[go_sem] theorem au1(k cs k' rows):nrmL (.o (k+1) cs) (.sl k' rows)=.sl k' (rows.map (dQ cs)):=by simp[nrmL]
@[go_sem] theorem axg(k cs x):nrmL (.o k cs) (.v x)=.v x:=by cases k<;>simp[nrmL]
@[go_sem] theorem axh(x):cf (.v x)=[]:=θ _
@[go_sem] theorem asA:cf .emp=[]:=θ _
@[go_sem] theorem au2(k r):cf (.sl k r)=[]:=θ _
@[go_sem] theorem asB(cs):cf (.agg cs)=cs.flatMap fI:=θ _
@[go_sem] theorem asC(a b c d e):cf (.rsl a b c d e)=[a]:=θ _
@[go_sem] theorem axi(x):fI (.v x)=[]:=θ _
@[go_sem] theorem asD:fI .emp=[]:=θ _
@[go_sem] theorem au3(k r):fI (.sl k r)=[]:=θ _
@[go_sem] theorem asE(a b c d e):fI (.rsl a b c d e)=[a]:=θ _
@[go_sem] theorem apd:kR []=true:=θ _
@[go_sem] theorem ape(a):kR [a]=true:=θ _
@[go_sem] theorem au4(args i):uw args i=(args[i]?).getD .any:=θ _
@[go_sem] theorem abX:aq []=fun _=>.dead:=by funext i;simp[aq]
@[go_sem] theorem aq4(i):bh i=decide (1000<=i/\i<2000):=θ _
def ll(h:ac)(d:Nat):Option (AV×List Ob)->Option R3
 |some (r,[])=>if cF r<=8/\cA h (2000+8*d) (cF r)=true/\jj [] r=true then some ((mat (2000+8*d) h r).1,(mat (2000+8*d) h r).2,[])else none
 |_=>none
theorem lq{c}{ids}{n}(hn:2000<=n)(hc:bo [] c=true\/(∃k lo m,c=.rsl n none k lo m)\/∃k i j,c=.ref n none k i j):kg (dF ids) c=c:=by
 have hb:dF ids n=n:=by unfold dF;rw[if_neg ω]
 rcases hc with hc| ⟨k,lo,m,rfl⟩| ⟨k,i,j,rfl⟩
 ·cases c<;>simp[bo]at hc<;>rfl
 ·simp[kg,hb]
 ·simp[kg,hb]
theorem Sk{r}{n}(hn:2000<=n)(h)(ids)(hr:fy [] r=true):dV (dF ids) (dL n h r).1=(dL n h r).1:=by
 cases r<;>simp only[fy]at hr<;>simp only[dL]
 case osl=>simp only[dV];exact lq hn (.inr (.inl ⟨_,_,_,rfl⟩))
 case obx=>simp only[dV];exact lq hn (.inr (.inr ⟨_,_,_,rfl⟩))
 case agg cs=>
  simp only[bg,ayx]at hr;simp only[dV,AV.agg.injEq];exact(ayM (g:=fun c=>c) fun c hc=>lq hn (.inl (hr c hc))).trans (ayY cs)
 case fn f x y=>
  simp only[bg,ayf,ayx]at hr;simp only[dV,AV.fn.injEq,true_and];exact⟨(ayM (g:=fun c=>c) fun c hc=>lq hn (.inl (hr.1 c hc))).trans (ayY x),(ayM (g:=fun c=>c) fun c hc=>lq hn (.inl (hr.2 c hc))).trans (ayY y)⟩
 all_goals
  simp only[dV];exact lq hn (.inl hr)
theorem Sl(ids):∀ {l} {n} {h},2000<=n->l.all (fy [])=true->(cM n h l).1.map (dV (dF ids))=(cM n h l).1
 |[],n,h,_,_=>rfl
 |c::l,n,h,hn,hr=>by
  simp only[ayJ,ayf]at hr;simp only[cM,ays];rw[Sk hn h ids hr.1,Sl ids ω hr.2]
theorem ag2{r}{n}(hn:2000<=n)(h)(ids)(hr:jj [] r=true):FT (dF ids) (mat n h r).1=(mat n h r).1:=by
 cases r with
 |tup vs=>
  simp only[jj]at hr;simp only[mat,FT,AV.tup.injEq];exact Sl ids hn hr
 |_=>
  simp only[jj]at hr;have:=Sk hn h ids hr;simp only[mat];simp only[dL]at this⊢;exact this
theorem Sm:∀l,rB [] l=[]
 |[]=>rfl
 |a::l=>by simp[rB,Sm l]
theorem yB{f}{args}(d)(hm:md.m f=[])(hd:args.all dat=true):bF call md h d args (.fn f [] [])=ll h d (call f (bp (md.sh f) args) []):=by
 have hin:=by
  have:∀l,l.all dat=true->bS h [] l=some (l,h,[]):=by
   intro l;induction l with
   |nil=>intro _;rfl
   |cons a l ih=>
    intro hd;simp only[ayJ,ayf]at hd;have ha:dC h 0 a=some (a,h,[]):=by
     have h1:=hd.1;by_cases hagg:∃cs,a=.agg cs
     ·obtain⟨cs,rfl⟩:=hagg;simp only[dat]at h1;simp only[dC,wx];rw[mI h1 h];rfl
     ·have h2:aE a=true:=by cases a<;>first|exact h1|exact absurd ⟨_,rfl⟩ hagg
      cases a<;>first| (simp[aE]at h2;done)|rfl|skip
    simp only[bS,List.headD_nil,ha,ayi,List.tail_nil,ih hd.2,ayp]
  exact this args hd
 have hids:args.flatMap cf=[]:=by
  rw[List.flatMap_eq_nil_iff];exact fun c hc=>U3 (List.all_eq_true.1 hd c hc)
 have hren:(bp (md.sh f) args).map (dV (bm []))=bp (md.sh f) args/\(bp (md.sh f) args).all (bg [])=true:=by
  have key:∀c∈bp (md.sh f) args,dat c=true:=by
   intro c hc;obtain⟨i,hi⟩:=List.getElem?_of_mem hc;obtain⟨c0,h1,h2⟩:=yA _ _ _ _ hi;have h0:=List.all_eq_true.1 hd c0 (List.mem_of_getElem? h1);rcases h2 with rfl| ⟨ss,rfl⟩
   ·exact h0
   ·cases c0<;>simp only[dat]at h0<;>simp only[nrmV,dat]<;>try (have:=DK (s:=ss.headD (.o 0 [])) h0;revert this;generalize nrmL _ _=q;intro this;cases q<;>first|exact this|simp[aE]at this)
    rename_i cs;rw[ayx];intro c hc;obtain⟨i,hi⟩:=List.getElem?_of_mem hc;obtain⟨c0,h1,h2⟩:=DJ _ _ _ _ hi;have h3:=List.all_eq_true.1 h0 c0 (List.mem_of_getElem? h1);rcases h2 with rfl| ⟨s,rfl⟩
    ·exact h3
    ·exact DK h3
  refine⟨(ayM (g:=fun c=>c) fun c hc=>?_).trans (ayY _),?_⟩
  ·have:=key c hc;cases c<;>simp only[dat]at this<;>first|rfl|skip
   all_goals first
    | (simp[aE]at this;done)
    |skip
   ·rename_i cs;simp only[dV,AV.agg.injEq];refine(ayM (g:=fun c=>c) fun c hc=>?_).trans (ayY cs);have h3:=List.all_eq_true.1 this c hc;cases c<;>simp[aE]at h3<;>rfl
   ·rename_i g x y;simp[aE]at this;obtain⟨rfl,rfl⟩:=this;rfl
  ·rw[ayx];intro c hc;have:=key c hc;cases c<;>simp only[dat]at this<;>first|rfl|skip
   all_goals first
    | (simp[aE]at this;done)
    |skip
   ·rename_i cs;simp only[bg,ayx];intro c hc;have h3:=List.all_eq_true.1 this c hc;cases c<;>simp[aE]at h3<;>simp[bo,h3]
   ·rename_i g x y;simp[aE]at this;obtain⟨rfl,rfl⟩:=this;rfl
 unfold bF;rw[if_neg (by simp[kh,hm])];simp only[dW,ayq,ayp,ayi,bH,R5,jV,hren.2,List.all_nil,ayK,if_true,hren.1,ayu,Sm, *];cases hr:call f (bp (md.sh f) args) []with
 |none=>rfl
 |some q=>
  obtain⟨r,os⟩:=q;cases os with
  |cons o os=>simp only[ayi,eP,ll];simp
  |nil=>
   simp only[ayi,eP,ll,ayR,ayB,true_and,dh,oT,Cp,List.all_nil,ayg,Bool.and_true,E4,de,List.range'_zero,eE,gb];by_cases hc:cF r<=8/\cA h (2000+8*d) (cF r)=true/\jj [] r=true
   ·rw[if_pos hc,if_pos hc,ag2 ω h [] hc.2.2];simp
   ·rw[if_neg hc,if_neg hc]
def Hz(call:iG)(md:Mode)(d:Nat)(f:FuncId)(p:List AV×ac×K):Option R3:=
 jV call md p.2.1 d f (ce p.2.1 40 (bH [] (p.1.flatMap cf)) 0) (bp (md.sh f) p.1) p.2.2
theorem HA{f}{args}(d)(hm:md.m f=[]):bF call md h d args (.fn f [] [])=(bS h [] args).bind (Hz call md d f):=by
 unfold bF;rw[if_neg (by simp[kh,hm])];simp only[dW,hm,ayq,ayp];rfl
@[go_sem] theorem aq5{f}{zs}(d)(hm:md.m f=[])(hd:zs.all dat=true):Hz call md d f (zs,h,[])=ll h d (call f (bp (md.sh f) zs) []):=by
 rw[←yB d hm hd,HA d hm];have hin:∀l,l.all dat=true->bS h [] l=some (l,h,[]):=by
  intro l;induction l with
  |nil=>intro _;rfl
  |cons a l ih=>
   intro hd;simp only[ayJ,ayf]at hd;have ha:dC h 0 a=some (a,h,[]):=by
    have h1:=hd.1;by_cases hagg:∃cs,a=.agg cs
    ·obtain⟨cs,rfl⟩:=hagg;simp only[dat]at h1;simp only[dC,wx];rw[mI h1 h];rfl
    ·have h2:aE a=true:=by cases a<;>first|exact h1|exact absurd ⟨_,rfl⟩ hagg
     cases a<;>first| (simp[aE]at h2;done)|rfl|skip
   simp only[bS,List.headD_nil,ha,ayi,List.tail_nil,ih hd.2,ayp]
 rw[hin zs hd];rfl
@[go_sem] theorem apf(h):bS h [] []=some ([],h,[]):=θ _
@[go_sem] theorem aom(h a l):bS h [] (a::l)=(dC h 0 a).bind fun p=>(bS p.2.1 [] l).bind fun q=>some (p.1::q.1,q.2.1,p.2.2++q.2.2):=θ _
@[go_sem] theorem au5(h x):dC h 0 (.v x)=some (.v x,h,[]):=θ _
@[go_sem] theorem aq6(h):dC h 0 .emp=some (.emp,h,[]):=θ _
@[go_sem] theorem asF(h k r):dC h 0 (.sl k r)=some (.sl k r,h,[]):=θ _
@[go_sem] theorem asG(h f a b):dC h 0 (.fn f a b)=some (.fn f a b,h,[]):=θ _
@[go_sem] theorem aq7(h a b c d):dC h 0 (.ref a none b c d)=some (.ref a none b c d,h,[]):=θ _
@[go_sem] theorem aq8(h cs):dC h 0 (.ipt cs)=some (.ipt cs,h,[]):=θ _
@[go_sem] theorem aq9(h id k lo n):dC h 0 (.rsl id none k lo n)=mZ h id k lo n (h id):=θ _
@[go_sem] theorem apg(h id p k lo n):dC h 0 (.rsl id (some p) k lo n)=I8 h id p k lo n (h id):=θ _
@[go_sem] theorem ara(h cs):dC h 0 (.agg cs)=(iY h cs).bind fun p=>some (.agg p.1,p.2):=θ _
@[go_sem] theorem au6(h d x):ll h d (some (.v x,[]))=if cA h (2000+8*d) 1=true then some (.v x,h,[])else none:=by
 simp[ll,cF,jj,fy,bg,bo,mat,dL]
@[go_sem] theorem ag3(h d k r):ll h d (some (.sl k r,[]))=if cA h (2000+8*d) 1=true then some (.sl k r,h,[])else none:=by
 simp[ll,cF,jj,fy,bg,bo,mat,dL]
@[go_sem] theorem arb(h d cs)(hd:cs.all aE=true):ll h d (some (.agg cs,[]))=if cA h (2000+8*d) 1=true then some (.agg cs,h,[])else none:=by
 have:cs.all (bo [])=true:=by
  rw[ayx]at hd⊢;intro c hc;have:=hd c hc;cases c<;>simp[aE]at this<;>simp[bo,this]
 simp only[ll,cF,jj,fy,bg,mat,dL,this,and_true];simp
@[go_sem] theorem arc(h d vs)(h8:vs.length<=8)(hd:vs.all dat=true):ll h d (some (.tup vs,[]))=if cA h (2000+8*d) vs.length=true then some (.tup vs,h,[])else none:=by
 have h1:vs.all (fy [])=true:=by
  rw[ayx]at hd⊢;intro c hc;have:=hd c hc;cases c<;>simp only[dat]at this<;>simp only[fy,bg]<;>try (simp[aE]at this<;>simp[bo,this];done)
  rename_i cs;rw[ayx]at this⊢;intro c hc;have:=this c hc;cases c<;>simp[aE]at this<;>simp[bo,this]
 have h2:∀l n g,l.all dat=true->cM n g l=(l,g):=by
  intro l;induction l with
  |nil=>intro n g _;rfl
  |cons c l ih=>
   intro n g hd;simp only[ayJ,ayf]at hd;have hc:dL n g c=(c,g):=by
    have:=hd.1;cases c<;>simp only[dat,aE]at this<;>first|rfl| (cases this;done)
   simp only[cM,hc,ih _ _ hd.2]
 simp only[ll,cF,jj,mat,h2 vs _ _ hd,true_and,and_true, *]
@[go_sem] theorem ard(h d k r):ll h d (some (.osl k r,[]))=if cA h (2000+8*d) 1=true then some (.rsl (2000+8*d) none k 0 r.length,upd h (2000+8*d) (.ar k r),[])else none:=by
 simp[ll,cF,jj,fy,mat,dL]
@[go_sem] theorem aph(h n):cA h n 0=true:=θ _
@[go_sem] theorem api(h n m):cA h n (m+1)=(bY (h n)&&cA h (n+1) m):=θ _
@[go_sem] theorem aon:bY .dead=true:=θ _
def cY(call:iG)(md:Mode)(ps:List (Nat×Nat)):List Fp->List COp->ak->ac->Option St
 |acc,[],s,h=>if ps.all (yw acc)=true then some ⟨s,h⟩else none
 |acc,o::rest,s,h=>(eL call md o s h).bind fun r=>cY call md ps (acc++[r.2]) rest r.1.s r.1.h
theorem Zs(ps):∀l acc s h,cY call md ps acc l s h=(io call md l s h).bind fun r=>if ps.all (yw (acc++r.2))=true then some r.1 else none
 |[],acc,s,h=>by simp only[cY,io,ayi,ayp]
 |o::l,acc,s,h=>by
  simp only[cY,io];cases eL call md o s h with
  |none=>rfl
  |some r=>
   simp only[ayi];rw[Zs ps l];cases io call md l r.1.s r.1.h with
   |none=>rfl
   |some q=>simp only[ayi,ayX,List.singleton_append]
@[go_sem] theorem are:BA []=none:=θ _
@[go_sem] theorem apj(p g l):BA ((p,g)::l)=if 1000000<=p then some (p-1000000,g)else none:=θ _
theorem Vt(l ps):BS call md l ps s h=cY call md ps [] l s h:=by
 rw[Zs];rfl
theorem ajD(ps)(l)(h0:BA ps=none):rF call md l ps s h=cY call md ps [] l s h:=by
 unfold rF;rw[h0];exact Vt l ps
def ag4(call:iG)(md:Mode)(m g:Nat)(ps:List (Nat×Nat))(l:List COp)(s:ak)(h:ac):Option St:=
 bq (cY call md ps [] (l.take m) s h) fun s h=>bq (tO md.nm g s h) (aG call md (l.drop m))
@[go_sem] theorem asH(l ps):rF call md l ps s h=match BA ps with
  |some q=>ag4 call md q.1 q.2 ps.tail l s h
  |none=>cY call md ps [] l s h:=by
 cases hb:BA ps with
 |none=>exact ajD ps l hb
 |some q=>
  unfold rF;rw[hb];simp only[ag4,Hi];rw[←Vt _ _,BS];cases io call md (l.take q.1) s h with
  |none=>rfl
  |some r=>
   simp only[ayi];split<;>rfl
def i9(call:iG)(md:Mode)(ps:List (Nat×Nat))(acc:List Fp)(rest:List COp)(s:ak)(d:Option Nat)(f:ac->Fp):Option R3->Option St
 |some (x,h,[])=>cY call md ps (acc++[f h]) rest (fQ s d x) h
 |_=>none
theorem eH(ps acc)(o)(rest)(hg:o.g=none):cY call md ps acc (o::rest) s h=i9 call md ps acc rest s o.d (gB (o.d.getD 0) o.op s h) (step call md (o.d.getD 0) o.op s h):=by
 simp only[cY,eL,hg,nV];cases step call md (o.d.getD 0) o.op s h with
 |none=>rfl
 |some r=>
  obtain⟨x,h',ks⟩:=r;cases ks<;>rfl
@[go_sem] theorem asI(ps acc):cY call md ps acc [] s h=if ps.all (yw acc)=true then some ⟨s,h⟩else none:=θ _
@[go_sem] theorem K5(ps acc d op rest):cY call md ps acc (co d op::rest) s h=(gJ s op).bind fun a=>cY call md ps (acc++[some ([],[])]) rest (upd s d a) h:=by
 rw[eH _ _ _ _ rfl];simp only[co,step,DA];cases gJ s op<;>rfl
@[go_sem] theorem au7(ps acc d n rest):cY call md ps acc (cm d n::rest) s h=cY call md ps (acc++[some ([],[])]) rest (upd s d (s n)) h:=K5 ps acc d (.mv (.t n)) rest
@[go_sem] theorem arf(ps acc d k g x rest):cY call md ps acc (⟨some d,none,.load k g x⟩::rest) s h=i9 call md ps acc rest s (some d) (fun _=>uv (ev s x)) (iZ h k g (ev s x)):=eH _ _ _ _ rfl
@[go_sem] theorem apk(ps acc d k x y rest):cY call md ps acc (⟨d,none,.store k x y⟩::rest) s h=i9 call md ps acc rest s d (fun _=>Bz (ev s y) (ev s x)) (lT h k (ev s x) (ev s y)):=eH _ _ _ _ rfl
@[go_sem] theorem arg(ps acc d f zas rest):cY call md ps acc (⟨some d,none,.call f zas⟩::rest) s h=i9 call md ps acc rest s (some d) (jk h d (oV (zas.map (ev s)) (ev s f))) (bF call md h d (zas.map (ev s)) (ev s f)):=eH _ _ _ _ rfl
@[go_sem] theorem apl(ps acc d z rest):cY call md ps acc (⟨some d,none,.alloc z⟩::rest) s h=i9 call md ps acc rest s (some d) (fun _=>some ([],[dD d])) (m8 h d z []):=eH _ _ _ _ rfl
@[go_sem] theorem asJ(ps acc d k x rest):cY call md ps acc (⟨some d,none,.box k x⟩::rest) s h=i9 call md ps acc rest s (some d) (fun _=>if dat (ev s x)=true then some ([],[dD d])else none) (Dz h d k (ev s x)):=eH _ _ _ _ rfl
@[go_sem] theorem amb(ps acc d k z n qs rest):cY call md ps acc (⟨some d,none,.buildSl k z n qs⟩::rest) s h=i9 call md ps acc rest s (some d) (fun _=>if(qs.all fun p=>dat (ev s p.2))=true then some ([],[dD d])else none) ((eO k h (aya n z) (qs.map fun p=>(p.1,ev s p.2))).bind fun q=>cW q.2.1 d k q.1 n q.2.2):=eH _ _ _ _ rfl
@[go_sem] theorem au8(ps acc d op a b rest):cY call md ps acc (b2 d op a b::rest) s h=(dU op (s a) (s b)).bind fun a=>cY call md ps (acc++[some ([],[])]) rest (upd s d a) h:=K5 ps acc d (.bin op (.t a) (.t b)) rest
@[go_sem] theorem au9(ps acc d k a rest):cY call md ps acc (fa d k a::rest) s h=(Bw k (s a)).bind fun a=>cY call md ps (acc++[some ([],[])]) rest (upd s d a) h:=K5 ps acc d (.fadr k (.t a)) rest
@[go_sem] theorem ava(ps acc d a rest):cY call md ps acc (nk d a::rest) s h=(I6 (s a)).bind fun a=>cY call md ps (acc++[some ([],[])]) rest (upd s d a) h:=K5 ps acc d (.nilck (.t a)) rest
@[go_sem] theorem avb(ps acc d k a rest):cY call md ps acc (ld d k a::rest) s h=i9 call md ps acc rest s (some d) (fun _=>uv (s a)) (iZ h k false (s a)):=eH _ _ _ _ rfl
@[go_sem] theorem avc(ps acc d k a rest):cY call md ps acc (la d k a::rest) s h=i9 call md ps acc rest s (some d) (fun _=>uv (s a)) (iZ h k true (s a)):=eH _ _ _ _ rfl
@[go_sem] theorem avd(ps acc d f zas rest):cY call md ps acc (ca d f zas::rest) s h=i9 call md ps acc rest s (some d) (jk h d (oV (zas.map (ev s)) (.fn f [] []))) (bF call md h d (zas.map (ev s)) (.fn f [] [])):=eH _ _ _ _ rfl
@[go_sem] theorem ave(ps acc k x y rest):cY call md ps acc (sr k x y::rest) s h=i9 call md ps acc rest s none (fun _=>Bz (ev s y) (ev s x)) (lT h k (ev s x) (ev s y)):=eH _ _ _ _ rfl
@[go_sem] theorem avf(ps acc d z rest):cY call md ps acc (al d z::rest) s h=i9 call md ps acc rest s (some d) (fun _=>some ([],[dD d])) (m8 h d z []):=eH _ _ _ _ rfl
@[go_sem] theorem avg(ps acc d k x rest):cY call md ps acc (bx d k x::rest) s h=i9 call md ps acc rest s (some d) (fun _=>if dat (ev s x)=true then some ([],[dD d])else none) (Dz h d k (ev s x)):=eH _ _ _ _ rfl
@[go_sem] theorem arh(ps acc rest s d f x h):i9 call md ps acc rest s (some d) f (some (x,h,[]))=cY call md ps (acc++[f h]) rest (upd s d x) h:=θ _
@[go_sem] theorem apm(ps acc rest s f x h):i9 call md ps acc rest s none f (some (x,h,[]))=cY call md ps (acc++[f h]) rest s h:=θ _
theorem amc(ps acc)(o)(j w rest)(hg:o.g=some (j,w)){b}(hb:s j=.v (.bool b)):cY call md ps acc (o::rest) s h=
  if b=w then i9 call md ps acc rest s o.d (gB (o.d.getD 0) o.op s h) (step call md (o.d.getD 0) o.op s h)else cY call md ps (acc++[some ([],[])]) rest (fQ s o.d .und) h:=by
 simp only[cY,eL,rD, *];split
 ·simp only[nV];cases step call md (o.d.getD 0) o.op s h with
  |none=>rfl
  |some r=>
   obtain⟨x,h',ks⟩:=r;cases ks<;>rfl
 ·rfl
def Vu(call:iG)(md:Mode)(ps:List (Nat×Nat))(acc:List Fp)(rest:List COp)(s:ak)(h:ac)(d:Option Nat)(w:Bool)(op:AOp):AV->Option St
 | .v (.bool b)=>if b=w then i9 call md ps acc rest s d (gB (d.getD 0) op s h) (step call md (d.getD 0) op s h)else cY call md ps (acc++[some ([],[])]) rest (fQ s d .und) h
 | .und=>cY call md ps (acc++[some ([],[])]) rest (fQ s d .und) h
 |_=>none
@[go_sem] theorem ajE(ps acc d j w op rest):cY call md ps acc (⟨d,some (j,w),op⟩::rest) s h=Vu call md ps acc rest s h d w op (s j):=by
 by_cases hb:∃b,s j=.v (.bool b)
 ·obtain⟨b,hb⟩:=hb;rw[amc ps acc ⟨d,some (j,w),op⟩ j w rest rfl hb,hb];rfl
 ·simp only[cY,eL];cases hq:s j<;>first|rfl|skip
  rename_i x;cases x<;>first|rfl|exact absurd ⟨_,hq⟩ hb
@[go_sem] theorem avh(ps acc d j w op rest):cY call md ps acc (cg d j w op::rest) s h=Vu call md ps acc rest s h (some d) w (.p op) (s j):=ajE ps acc (some d) j w (.p op) rest
@[go_sem] theorem axj(ps acc rest s h d op):Vu call md ps acc rest s h (some d) true op (.v (.bool true))=i9 call md ps acc rest s (some d) (gB d op s h) (step call md d op s h):=θ _
@[go_sem] theorem axk(ps acc rest s h d op):Vu call md ps acc rest s h (some d) false op (.v (.bool false))=i9 call md ps acc rest s (some d) (gB d op s h) (step call md d op s h):=θ _
@[go_sem] theorem axl(ps acc rest s h d op):Vu call md ps acc rest s h (some d) true op (.v (.bool false))=cY call md ps (acc++[some ([],[])]) rest (upd s d .und) h:=θ _
@[go_sem] theorem axm(ps acc rest s h d op):Vu call md ps acc rest s h (some d) false op (.v (.bool true))=cY call md ps (acc++[some ([],[])]) rest (upd s d .und) h:=θ _
@[go_sem] theorem avi(ps acc rest s h d w op):Vu call md ps acc rest s h (some d) w op .und=cY call md ps (acc++[some ([],[])]) rest (upd s d .und) h:=θ _
@[go_sem] theorem ax9(d op h'):gB d (.p op) s h h'=some ([],[]):=θ _
@[go_sem] theorem avj(d k g x h'):gB d (.load k g x) s h h'=uv (ev s x):=θ _
@[go_sem] theorem avk(d f zas h'):gB d (.call f zas) s h h'=jk h d (oV (zas.map (ev s)) (ev s f)) h':=θ _
@[go_sem] theorem asK(d z h'):gB d (.alloc z) s h h'=some ([],[dD d]):=θ _
@[go_sem] theorem axn(d k x h'):gB d (.box k x) s h h'=if dat (ev s x)=true then some ([],[dD d])else none:=θ _
@[go_sem] theorem apn(cs):uv (.ipt cs)=some ([],[]):=θ _
@[go_sem] theorem aoo(id k i j):uv (.ref id none k i j)=some ([dD id],[]):=θ _
@[go_sem] theorem aoq(id p k i j):uv (.ref id (some p) k i j)=some ([dD id],[]):=θ _
@[go_sem] theorem ari(y id sub k i j):Bz y (.ref id sub k i j)=if dat y=true then some ([dD id],[dD id])else none:=θ _
@[go_sem] theorem axo(i):dD i=if i<2000 then i else i-i%8:=θ _
@[go_sem] theorem arj(l f a b):oV l (.fn f a b)=a++l++b:=θ _
@[go_sem] theorem B1(h d l h'):jk h d l h'=if l.all dat=true then some ([],[2000+8*d])else if l.all y7=true then some ((ce h 40 (bH [] (l.flatMap cf)) 0).map dD,(Ja h h' (ce h 40 (bH [] (l.flatMap cf)) 0)).map dD++[2000+8*d])else none:=θ _
@[go_sem] theorem apo(l i j):yw l (i,j)=(match l[i]?,l[j]? with|some a,some b=>oG a b|_,_=>false):=θ _
@[go_sem] theorem asL(a b):oG (some a) (some b)=(Cq a.2 (b.1++b.2)&&Cq b.2 a.1):=θ _
@[go_sem] theorem asM(b):oG none (some b)=(b.1.isEmpty&&b.2.isEmpty):=θ _
@[go_sem] theorem asN(a):oG (some a) none=(a.1.isEmpty&&a.2.isEmpty):=θ _
@[go_sem] theorem asO(b):Cq [] b=true:=θ _
@[go_sem] theorem ark(a l b):Cq (a::l) b=(!b.contains a&&Cq l b):=θ _
@[go_sem] theorem apq(a:Nat):[].contains a=false:=θ _
@[go_sem] theorem aor(a b)(l:List Nat):(b::l).contains a=(a==b||l.contains a):=by rw[List.contains_cons]
@[go_sem] theorem asQ(s d x h p l):dA false s (some d) (some (x,h,p::l))=some ⟨upd (ke (p::l) s) d x,h⟩:=θ _
@[go_sem] theorem arl(s x h p l):dA false s none (some (x,h,p::l))=some ⟨ke (p::l) s,h⟩:=θ _
@[go_sem] theorem avl(p l s)(i):ke (p::l) s i=tN (p::l) (s i):=θ _
@[go_sem] theorem axX(ks x):tN ks (.v x)=.v x:=θ _
@[go_sem] theorem avm(ks):tN ks .any=.any:=θ _
@[go_sem] theorem avn(ks):tN ks .und=.und:=θ _
@[go_sem] theorem avo(ks):tN ks .emp=.emp:=θ _
@[go_sem] theorem axp(ks k r):tN ks (.sl k r)=.sl k r:=θ _
@[go_sem] theorem avp(ks cs):tN ks (.ipt cs)=.ipt cs:=θ _
@[go_sem] theorem avq(ks f):tN ks (.fn f [] [])=.fn f [] []:=θ _
@[go_sem] theorem avr(ks id sub k lo n):tN ks (.rsl id sub k lo n)=if ji ks id sub=true then .any else .rsl id sub k lo n:=θ _
@[go_sem] theorem avs(ks id sub k lo n):tN ks (.ref id sub k lo n)=if ji ks id sub=true then .any else .ref id sub k lo n:=θ _
@[go_sem] theorem avt(ks cs):tN ks (.agg cs)=if cs.any (rz ks)=true then .any else .agg cs:=θ _
@[go_sem] theorem axq(ks f a b):tN ks (.fn f a b)=if(a.any (rz ks)||b.any (rz ks))=true then .any else .fn f a b:=θ _
@[go_sem] theorem avu(ks vs):tN ks (.tup vs)=if vs.any (FR ks)=true then .any else .tup vs:=θ _
@[go_sem] theorem axr(ks x):FR ks (.v x)=false:=θ _
@[go_sem] theorem avv(ks k r):FR ks (.sl k r)=false:=θ _
@[go_sem] theorem axs(ks x):rz ks (.v x)=false:=θ _
@[go_sem] theorem asR(ks):rz ks .emp=false:=θ _
@[go_sem] theorem avw(ks k r):rz ks (.sl k r)=false:=θ _
@[go_sem] theorem asS(ks id sub k i j):rz ks (.ref id sub k i j)=ji ks id sub:=θ _
@[go_sem] theorem asT(id sub):ji [] id sub=false:=θ _
@[go_sem] theorem asU(a)(b)(l:K)(id)(sub):ji ((a,b)::l) id sub=((a==id&& (!b||sub.isSome))||ji l id sub):=by simp[ji]
@[go_sem] theorem amd{α:Type}:(none:Option α).isSome=false:=θ _
@[go_sem] theorem ame{α:Type}(a:α):(some a).isSome=true:=θ _
@[go_sem] theorem axt(h d k b x y):MR h d k b x y=(vD h k y).bind fun ys=>match x with
 | .emp=>if ys.length*b<=140737488355328 then UF h d k ys else none
 | .rsl id none k' lo n=>UE h d k b id k' lo n ys (h id)
 | .rsl id (some p) k' lo n=>agD h d k b id p k' lo n ys (h id)
 |_=>none:=θ _
@[go_sem] theorem arm(h k):vD h k .emp=some []:=θ _
@[go_sem] theorem ag5(h k r):vD h k (.sl k r)=some r:=by simp[vD]
@[go_sem] theorem arn(h k id sub lo n):vD h k (.rsl id sub k lo n)=iP k lo n (yY h id sub):=by simp[vD]
@[go_sem] theorem aos(h id):yY h id none=BQ (h id):=θ _
@[go_sem] theorem aro(k r):BQ (.ar k r)=some (k,r):=θ _
@[go_sem] theorem arp(k r):BQ (.fz k r)=some (k,r):=θ _
@[go_sem] theorem amf(k lo n r):iP k lo n (some (k,r))=if lo+n<=r.length then some ((r.drop lo).take n)else none:=by simp[iP]
@[go_sem] theorem avx(h d k b id lo n ys r):UE h d k b id k lo n ys (.ar k r)=if lo=0/\n=r.length/\(id<1000\/2000<=id)/\(n+ys.length)*b<=140737488355328 then
   some (.rsl id none k 0 (n+ys.length),upd h id (.ar k (r++ys)),[(id,false)])else MQ h d k b id k lo n ys k r:=by simp[UE]
@[go_sem] theorem asV(h d k):UF h d k []=some (.emp,h,[]):=θ _
@[go_sem] theorem arq(h d k y ys):UF h d k (y::ys)=cW h d k (y::ys) (ys.length+1) []:=θ _
end
noncomputable section
def aiV:List (Nat×Nat)->Option Nat->AOp
 | (d,k)::l,x=>if x=some d then(match k with|0=>.callC (.c .any) []|1=>.take (.c .any)|_=>.slcM 0 (.c .any) none none)else aiV l x
 |[],_=>.bad
def apr(P:Program)(N:Nat)(ops:Array Oper)(h:AOp)(o:Oper):Option COp:=match o.op with
 | .build t ps=>(N9 ops o.guard).bind fun g=>(lk P t).bind fun z=>match P.underlying t with
  |some (.struct fs)=>(DC P (KU P fs) ps.toList).map fun q=>⟨o.dst,g,.p (.build z q)⟩
  |_=>KV P N ops h o
 |_=>KV P N ops h o
def ag6(P:Program)(N:Nat)(H:List (Nat×Nat))(ops:Array Oper):List Oper->Option (List COp)
 |[]=>some []
 |o::l=>(apr P N ops (aiV H o.dst) o).bind fun a=>(ag6 P N H ops l).bind fun q=>some (a::q)
def prs:List Nat->List (Nat×Nat)
 |a::b::l=>(a,b)::prs l
 |_=>[]
abbrev cP:=List (List Nat)
def amg(P:Program)(N:Nat)(H:List (Nat×Nat))(ops:Array Oper):Bool->cP->Option (Cmd×cP)
 |dr,(7777777::is)::l=>(amg P N H ops dr l).map fun r=>(.frz is r.1,r.2)
 |true,ks::ps::l=>(ag6 P N H ops ops.toList).map fun q=>(.dops ks q (prs ps),l)
 |false,ks::l=>(ag6 P N H ops ops.toList).map fun q=>(.ops ks q,l)
 |_,_=>none
def nL:Code->Nat
 | .seq a b=>nL a+nL b
 | .cond _ a b=>nL a+nL b
 | .block _ a=>nL a
 | .loop a=>nL a+1
 |_=>0
abbrev GS:=cP×List (Nat×Cmd)
noncomputable def gC (P:Program) (N:Nat) (H:List (Nat×Nat)) (L:List Cmd):Nat->Code->GS->Option (Cmd×GS)
 |_,.skip,s=>some (.skip,s)
 |_,.ret,s=>some (.ret,s)
 |_,.exit i,s=>some (.exit i,s)
 |_,.refuse _,s=>some (.ops [] [⟨none,none,.bad⟩],s)
 |_,.region _ ops dr,s=>(amg P N H ops dr s.1).map fun r=>(r.1,r.2,s.2)
 |n,.seq a b,s=>(gC P N H L (n+nL b) a s).bind fun r=>(gC P N H L n b r.2).map fun q=>(.seq r.1 q.1,q.2)
 |n,.cond x a b,s=>(cG x).bind fun x=>(gC P N H L n a s).bind fun r=>(gC P N H L (n+nL a) b r.2).map fun q=>(.cond x r.1 q.1,q.2)
 |n,.block i a,(ks::l,bs)=>(gC P N H L n a (l,bs)).map fun r=>(.block i ks r.1,r.2)
 |n,.loop a,(ks::hs::l,bs)=>(gC P N H L n a (l,bs)).map fun r=>(.loop ks hs (L.getD (n+nL a) .skip),r.2.1,(n+nL a+1,r.1)::r.2.2)
 |_,_,_=>none
noncomputable def gK (P:Program) (H:List (Nat×Nat)) (f:Func) (l:cP) (k:Nat) (L:List Cmd):Cmd:=
 ((f.body.bind fun c=>gC P f.ntmps H L 0 c (l,[])).bind fun r=>((0,r.1)::r.2.2).lookup k).getD .skip
section
variable (d k n a b f:Nat) (op:POp) (x y:Opd) (l:List Opd) (w:Bool) (o:BinOp) (z:List AV)
theorem asW:(⟨some d,none,.p op⟩:COp)=co d op:=rfl
theorem asX:co d (.mv (.t n))=cm d n:=rfl
theorem asY:co d (.bin o (.t a) (.t b))=b2 d o a b:=rfl
theorem asZ:co d (.fadr k (.t a))=fa d k a:=rfl
theorem as0:co d (.nilck (.t a))=nk d a:=rfl
theorem as1:(⟨some d,some (n,w),.p op⟩:COp)=cg d n w op:=rfl
theorem as2:(⟨some d,none,.load k false (.t a)⟩:COp)=ld d k a:=rfl
theorem as3:(⟨some d,none,.load k true (.t a)⟩:COp)=la d k a:=rfl
theorem as4:(⟨some d,none,.call (.c (.fn f [] [])) l⟩:COp)=ca d f l:=rfl
theorem as5:(⟨none,none,.store k x y⟩:COp)=sr k x y:=rfl
theorem as6:(⟨some d,none,.alloc z⟩:COp)=al d z:=rfl
theorem as7:(⟨some d,none,.box k x⟩:COp)=bx d k x:=rfl
end
noncomputable def ao {α:Type} (b:α) {a:α} (_:a=b:=by conv=>rhs;reduce;(try simp only[Int.reduceOfNat,Int.reduceNegSucc,asW,asX,asY,asZ,as0,as1,as2,as3,as4,as5,as6,as7])):α:=a
@[go_sem] theorem axY{α:Type}(b:α){a:α}(h:a=b):@ao α b a h=a:=θ _
end
end Go.Ab
