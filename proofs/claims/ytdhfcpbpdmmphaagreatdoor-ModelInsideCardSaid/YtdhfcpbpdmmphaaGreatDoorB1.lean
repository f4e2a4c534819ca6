/-
  A law of models holds at every input that the statement speaks of, under the conditions that its card names. Part B1.
-/
import Derived.Test.YtdhfcpbpdmmphaaGreatDoorA1
open Nat renaming le_refl → awQ, lt_of_lt_of_le → axX, zero_add → awP, zero_le → axz
open Bool renaming and_eq_true → awS, and_self → axm, false_eq_true → axV, not_eq_true' → ax3, true_and → awT
open List renaming all_cons → axu, all_eq_true → axj, append_assoc → axL, append_nil → axe, cons_append → axM, getElem_mem → axr, length_cons → axE, length_drop → ax2, length_nil → axI, length_take → axd, map_congr_left → axy, map_cons → axp, map_id' → axN, map_nil → axv, mem_append → ax4, mem_map → axR, nil_append → axc, replicate → awO, take_length → aEE
open Option renaming bind_eq_some_iff → awN, bind_some → awV, map_eq_some_iff → awR, map_some → axH
set_option linter.all false
namespace Go.Ab
open Go
def exo:Ex->Exit
 | .normal=>.normal
 | .exit id=>.exit id
 | .ret=>.ret
def QS(P:Program)(I:Inv)(call:iG)(md:Mode)(N:Nat):Prop:=
 ∀ {id} {ops} {hs cl} {w} {X} {ρ} {h} {s} {a} {t} {ps} {Q},rW P N ops hs ops.toList=some cl->TN ops.toList cl ps=true->Ok I N w X ρ h s a->rg call md cl ps s h=some t->
  (∀a' w' ρ',Ok I N w' X ρ' t.h t.s a'->Far md.nm w ρ h w' ρ' t.h->Q .normal a' w')->(Code.region id ops true).wp P Q a w
section
variable {P:Program} {X:Nat→Prop} {call:iG} {md:Mode} {N:Nat} {I:Inv} {nm:Bool}
theorem IG(s:ak)(ks)(i):mk .any s ks i=s i\/mk .any s ks i=.any:=by
 grind[Kf]
theorem aal(hs)(a):(gk hs a=a/\knownA hs a=true)\/gk hs a=.any:=by
 grind[gk]
theorem acr{w}{ρ}{h}{s}{a}(ok:Ok I N w X ρ h s a){ks hs}(hcl:(hs.all fun a=>aC hs (h a))=true):
  Ok I N w X ρ (mk .dead h hs) (mk .any (fun i=>gk hs (s i)) ks) a/\Far nm w ρ h w ρ (mk .dead h hs):=by
 obtain⟨h1,h2,h3⟩:=TT nm ok.rel (hs:=hs) (fun id hi=>List.all_eq_true.1 hcl id hi);refine⟨⟨h1,fun i=>?_,ok.size,ok.defers,ok.inv⟩,h2⟩;rcases IG (fun i=>gk hs (s i)) ks i with e|e
 ·rw[e];rcases aal hs (s i)with⟨e2,e3⟩|e2
  ·rw[e2];exact h3 (ok.rs i) e3
  ·rw[e2];exact .anyv _
 ·rw[e];exact .anyv _
def QT(P:Program)(I:Inv)(nm:Bool)(X:Nat->Prop)(N:Nat)(f:ak->ac->Option (Ex×St))(c:Code):Prop:=
 ∀ {s} {h} {e} {t} {w} {ρ} {a} {Q},f s h=some (e,t)->Ok I N w X ρ h s a->(∀a' w' ρ',Ok I N w' X ρ' t.h t.s a'->Far nm w ρ h w' ρ' t.h->Q (exo e) a' w')->c.wp P Q a w
theorem Nx{body}{c}(hb:QT P I nm X N body c){ks hs}:∀n {s} {h} {e} {t} {w} {ρ} {a} {Q},
  s7 body ks hs n s h=some (e,t)->Ok I N w X ρ h s a->(∀a' w' ρ',Ok I N w' X ρ' t.h t.s a'->Far nm w ρ h w' ρ' t.h->Q (exo e) a' w')->Code.rounds P c Q n a w
 |0,s,h,e,t,w,ρ,a,Q,hz,_,_=>by grind[s7]
 |n+1,s,h,e,t,w,ρ,a,Q,hz,ok,hQ=>by
  simp only[s7]at hz;split at hz
  ·rename_i hcl;obtain⟨ok1,far1⟩:=acr ok (ks:=ks) hcl;split at hz
   ·rename_i t1 ht1;exact hb ht1 ok1 fun a' w' ρ' ok2 far2=>Nx hb n hz ok2 fun a'' w'' ρ'' ok3 far3=>hQ _ _ ρ'' ok3 (far1.trans (far2.trans far3))
   ·rename_i r hne;refine hb hz ok1 fun a' w' ρ' ok2 far2=>?_;have:=hQ a' w' ρ' ok2 (far1.trans far2);cases e with
    |normal=>exact absurd hz (hne t)
    |exit id=>exact this
    |ret=>exact this
  ·cases hz
theorem aam{i}{w}{ρ}{h}{s}{a}{r}(ok:Ok I N w X ρ h s a)(hz:Pb i s h (s i)=some r)(hnm:qZ nm r.2.2=true):
  Ok I N w X ρ r.2.1 r.1 a/\Far nm w ρ h w ρ r.2.1:=by
 have hv:=ok.rs i;cases hi:s i<;>rw[hi]at hz hv<;>simp only[Pb]at hz<;>try (cases hz;done)
 case sl=>cases hz;exact⟨ok,.refl _ _ _ _⟩
 case rsl id sub k lo n=>
  simp only[awR]at hz;obtain⟨q,e1,rfl⟩:=hz;obtain⟨x,h',ks⟩:=q;have h1:(a.tmps.getD i undef).oneCell'=true:=by
   obtain⟨_,_,e,_⟩:=hv.rsl_inv;rw[e];rfl
  obtain⟨g1,g2,g3,g4⟩:=yz ok.rel hv (fun b hb=>hb) h1 e1;refine⟨⟨g1,fun j=>?_,ok.size,ok.defers,g2.inv ok.rel ok.inv⟩,g2.far hnm⟩;show RV w (aJ w X h' ρ) ρ h' (upd (jU ks s) i x j) _;rw[azJ];split
  ·rename_i hj;subst hj;exact .dat g3
  ·exact g2.rs ok.rs j
 case ref id sub k j l=>
  cases sub with
  |some p=>grind
  |none=>
   simp only at hz;cases ho:h id<;>rw[ho]at hz<;>simp only at hz<;>try (cases hz;done)
   cases hz;rename_i cs;obtain⟨g1,g2⟩:=IB (ds:=cs.map lj) ok.rel ho (by simp) fun p c hc=>by
    grind[bq,XQ]
   exact⟨⟨g1,g2.rs ok.rs,ok.size,ok.defers,g2.inv ok.rel ok.inv⟩,g2.far hnm⟩
theorem WT{w}{ρ}{h}{s}{a}(ok:Ok I N w X ρ h s a)(x):Ok I N w X ρ (GH h x) s a/\Far nm w ρ h w ρ (GH h x):=by
 have id':Ok I N w X ρ h s a/\Far nm w ρ h w ρ h:=⟨ok,.refl _ _ _ _⟩;unfold GH;split
 ·rename_i id k' lo n;split
  ·rename_i k rows e;obtain⟨s1,s2⟩:=ack (m:=lo+n) ok.rel e;exact⟨⟨s1,s2.rs ok.rs,ok.size,ok.defers,s2.inv ok.rel ok.inv⟩,s2.far (pn _)⟩
  omega
 omega
theorem Le{g}{w}{ρ}{h}{s}{a}{t}(ok:Ok I N w X ρ h s a)(hz:tr nm g s h=some t):∃ρ',Ok I N w X ρ' t.h t.s a/\Far nm w ρ h w ρ' t.h:=by
 cases g with
 |zero=>
  cases hz;exact⟨ρ,ok,.refl _ _ _ _⟩
 |succ i=>
  simp only[tr,awN]at hz;obtain⟨r,e1,e2⟩:=hz;split at e2
  ·rename_i hnm;cases e2;have hv:=ok.rs i;cases hi:s i<;>rw[hi]at e1 hv<;>simp only[QJ]at e1<;>try (cases e1;done)
   ·cases e1;exact⟨ρ,ok,.refl _ _ _ _⟩
   ·rename_i id sub k lo n;cases sub with
    |none=>grind
    |some p=>
    simp only at e1;split at e1
    ·rename_i hps;cases eo:h id<;>rw[eo]at e1<;>simp only[XO]at e1<;>try (cases e1;done)
     rename_i cs;cases ec:cs[p]? with
     |none=>grind[Nl]
     |some c=>
      rw[ec]at e1;cases c<;>simp only[Nl]at e1<;>try (cases e1;done)
      split at e1
      ·rename_i hc;obtain⟨rfl,rfl,rfl,hd⟩:=hc;have hd':h i=.dead:=by cases hh:h i<;>rw[hh]at hd<;>first|rfl|cases hd
       cases e1;obtain⟨m1,m2⟩:=aab ok.rel eo ec hps hd';obtain⟨ad,cap,e4,q2,q3,q4,q5⟩:=hv.rsl_inv;refine⟨_,⟨m1,fun j=>?_,ok.size,ok.defers,m2.inv ok.rel ok.inv⟩,m2.far hnm⟩;show RV w _ _ _ (upd (jU [(id,true)] s) i _ j) _;rw[azJ];split
       ·rename_i hj;subst hj;rw[e4];refine .rsl _ none _ 0 _ cap ad (by simp[cu,aA]) q3 (by grind[bH]) ?_;grind[bH]
       ·exact m2.rs ok.rs j
      grind
    grind
  grind
theorem aan{i}{w}{ρ}{h}{s}{a}{r}(ok:Ok I N w X ρ h s a)(hz:Pc i s h (s i)=some r)(hnm:qZ nm r.2.2=true):
  ∃ρ',Ok I N w X ρ' r.2.1 r.1 a/\Far nm w ρ h w ρ' r.2.1:=by
 have hv:=ok.rs i;have key:∀ {id k lo n},(∃ad cap,a.tmps.getD i undef=.slice ad n cap/\n<=cap/\(lo+cap)*k=(ρ id none).2/\(cap=0\/ad=some ⟨(ρ id none).1,lo*k,none⟩))->Iw i s h id k lo n (h id)=some r->
   ∃ρ',Ok I N w X ρ' r.2.1 r.1 a/\Far nm w ρ h w ρ' r.2.1:=by
  intro id k lo n ⟨ad,cap,e4,q3,q4,q5⟩ e1;cases eo:h id<;>rw[eo]at e1<;>simp only[Iw]at e1<;>try (cases e1;done)
  split at e1
  ·rename_i hc;obtain⟨rfl,rfl,hps,hd⟩:=hc;have hd':h i=.dead:=by cases hh:h i<;>rw[hh]at hd<;>first|rfl|cases hd
   cases e1;obtain⟨m1,m2⟩:=akI ok.rel eo hps hd';refine⟨_,⟨m1,fun j=>?_,ok.size,ok.defers,m2.inv ok.rel ok.inv⟩,m2.far hnm⟩;show RV w _ _ _ (upd (jU [(id,false)] s) i _ j) _;rw[azJ];split
   ·rename_i hj;subst hj;rw[e4];refine .rsl _ none _ 0 _ cap ad (by simp[cu,aA]) q3 (by grind[bH]) ?_;grind[bH]
   ·exact m2.rs ok.rs j
  grind
 cases hi:s i<;>rw[hi]at hz hv<;>simp only[Pc]at hz<;>try (cases hz;done)
 ·cases hz;exact⟨ρ,ok,.refl _ _ _ _⟩
 ·rename_i id sub k lo n;cases sub with
  |some p=>grind
  |none=>
  obtain⟨ad,cap,e4,q2,q3,q4,q5⟩:=hv.rsl_inv;exact key ⟨ad,cap,e4,q3,q4,q5⟩ hz
 ·rename_i id k lo n c;obtain⟨ad,e4,q2,q3,q4,q5⟩:=hv.rsc_inv;exact key ⟨ad,c,e4,q3,q4,q5⟩ hz
theorem Cs:∀is {w} {ρ} {h} {s} {a} {t},Ok I N w X ρ h s a->Aa nm is s h=some t->∃ρ',Ok I N w X ρ' t.h t.s a/\Far nm w ρ h w ρ' t.h
 |[],w,ρ,h,s,a,t,ok,hz=>by cases hz;exact⟨ρ,ok,.refl _ _ _ _⟩
 |i::l,w,ρ,h,s,a,t,ok,hz=>by
  unfold Aa at hz;split at hz
  ·simp only[awN]at hz;obtain⟨r,e1,e2⟩:=hz;split at e2
   ·rename_i hn;obtain⟨ρ1,g1,g2⟩:=aan ok e1 hn;obtain⟨ρ2,f1,f2⟩:=Cs l g1 e2;exact⟨ρ2,f1,g2.trans f2⟩
   grind
  ·split at hz
   ·obtain⟨g1,g2⟩:=WT (nm:=nm) ok (s (i-100000));obtain⟨ρ2,f1,f2⟩:=Cs l g1 hz;exact⟨ρ2,f1,g2.trans f2⟩
   ·simp only[awN]at hz;obtain⟨r,e1,e2⟩:=hz;split at e2
    ·rename_i hn;obtain⟨g1,g2⟩:=aam ok e1 hn;obtain⟨ρ2,f1,f2⟩:=Cs l g1 e2;exact⟨ρ2,f1,g2.trans f2⟩
    grind
theorem aao(hcall:l9 P I call md)(hN:N<=1000)(hD:QS P I call md N)(lf):∀cmd c,iQ P N c cmd=some cmd->QT P I md.nm X N (cS call md lf cmd) c:=by
 intro cmd;induction cmd with
 |skip=>
  intro c hc s h e t w ρ a Q hz ok hQ;cases c<;> (try simp only[iQ]at hc)<;> (try (cases hc;done))
  ·obtain⟨rfl,rfl⟩:=hz;exact wp_skip (hQ _ _ ρ ok (.refl _ _ _ _))
  all_goals (exfalso;revert hc;simp[awN])
 |ops ks l=>
  intro c hc s h e t w ρ a Q hz ok hQ;by_cases hrf:∃m,c=.refuse m
  ·have hl:l=[⟨none,none,.bad⟩]:=by
    unfold iQ at hc;grind
   simp_all[cS,aE,lT,du,step,bp]
  cases c<;> (try (exact absurd ⟨_,rfl⟩ hrf))<;> (try simp only[iQ]at hc)<;> (try (cases hc;done));rename_i id ops dr;cases dr<;> (try simp only[iQ]at hc)<;> (try (cases hc;done));simp only[awR]at hc;obtain⟨l',h1,h2⟩:=hc;cases h2;simp only[cS,bp]at hz;split at hz
  ·grind
  ·rename_i t1 ht1;obtain⟨rfl,rfl⟩:=hz;refine wp_region ?_;rw[List.range_eq_range',show ops.size=ops.toList.length from Array.length_toList.symm];exact QR hcall hN ops.toList l 0 (fun j o hj=>by grind) h1 ok ht1 fun a' w' ρ' ok' far=>hQ _ _ ρ' (ok'.some (IG _ _)) far
 |dops ks l ps=>
  intro c hc s h e t w ρ a Q hz ok hQ;cases c<;> (try simp only[iQ]at hc)<;> (try (cases hc;done));rename_i id ops dr;cases dr<;> (try simp only[iQ]at hc)<;> (try (cases hc;done));simp only[awN]at hc;obtain⟨l',h1,h2⟩:=hc;split at h2
  ·rename_i hps;cases h2;simp only[cS,bp]at hz;split at hz
   ·grind
   ·rename_i t1 ht1;obtain⟨rfl,rfl⟩:=hz;exact hD h1 hps ok ht1 fun a' w' ρ' ok' far=>hQ _ _ ρ' (ok'.some (IG _ _)) far
  grind
 |seq x y ihx ihy=>
  intro c hc s h e t w ρ a Q hz ok hQ;cases c<;> (try simp only[iQ]at hc)<;> (try (cases hc;done));simp only[awN,awR]at hc;obtain⟨c1,h1,c2,h2,h3⟩:=hc;cases h3;simp only[cS,cr]at hz;refine wp_seq ?_;split at hz
  ·grind
  ·rename_i t1 ht1;exact ihx _ h1 ht1 ok fun a' w' ρ' ok1 far1=>ihy _ h2 hz ok1 fun a'' w'' ρ'' ok2 far2=>hQ _ _ ρ'' ok2 (far1.trans far2)
  ·rename_i i t1 ht1;cases hz;exact ihx _ h1 ht1 ok fun a' w' ρ' ok1 far1=>hQ a' w' ρ' ok1 far1
  ·rename_i t1 ht1;cases hz;exact ihx _ h1 ht1 ok fun a' w' ρ' ok1 far1=>hQ a' w' ρ' ok1 far1
 |cond b x y ihx ihy=>
  intro c hc s h e t w ρ a Q hz ok hQ;cases c<;> (try simp only[iQ]at hc)<;> (try (cases hc;done));simp only[awN,awR]at hc;obtain⟨b',h0,c1,h1,c2,h2,h3⟩:=hc;cases h3;simp only[cS]at hz;have hv:=bc h0 ok.rs;unfold wW at hz;split at hz
  ·rename_i tt htt;rw[htt]at hv;refine wp_cond hv.v_inv.1 ?_;cases tt with
   |true=>exact ihx _ h1 hz ok hQ
   |false=>exact ihy _ h2 hz ok hQ
  grind
 |block id ks x ih=>
  intro c hc s h e t w ρ a Q hz ok hQ;cases c<;> (try simp only[iQ]at hc)<;> (try (cases hc;done));simp only[awR]at hc;obtain⟨c1,h1,h3⟩:=hc;cases h3;simp only[cS]at hz;refine wp_block ?_;unfold aj at hz;split at hz
  ·grind
  ·rename_i t1 ht1;cases hz;exact ih _ h1 ht1 ok fun a' w' ρ' ok1 far1=>hQ a' w' ρ' (ok1.some (IG _ _)) far1
  ·rename_i i t1 ht1;refine ih _ h1 ht1 ok fun a' w' ρ' ok1 far1=>?_;split at hz
   ·rename_i hi;cases hz;have:=hQ a' w' ρ' (ok1.some (IG _ _)) far1;grind[exo,Exit.inBlock]
   grind[exo,Exit.inBlock]
  ·rename_i t1 ht1;cases hz;exact ih _ h1 ht1 ok fun a' w' ρ' ok1 far1=>hQ a' w' ρ' ok1 far1
 |loop ks hs x ih=>
  intro c hc s h e t w ρ a Q hz ok hQ;cases c<;> (try simp only[iQ]at hc)<;> (try (cases hc;done));simp only[awR]at hc;obtain⟨c1,h1,h3⟩:=hc;cases h3;exact wp_loop_rounds lf (Nx (ih _ h1) lf hz ok hQ)
 |exit id=>
  intro c hc s h e t w ρ a Q hz ok hQ;cases c<;> (try simp only[iQ]at hc)<;> (try (cases hc;done));cases hc;obtain⟨rfl,rfl⟩:=hz;exact wp_exit (hQ _ _ ρ ok (.refl _ _ _ _))
 |ret=>
  intro c hc s h e t w ρ a Q hz ok hQ;cases c<;> (try simp only[iQ]at hc)<;> (try (cases hc;done));obtain⟨rfl,rfl⟩:=hz;exact wp_ret (hQ _ _ ρ ok (.refl _ _ _ _))
 |frz is x ih=>
  intro c hc s h e t w ρ a Q hz ok hQ;have hc':(iQ P N c x).map (Cmd.frz is)=some (.frz is x):=by
   grind[iQ]
  simp only[awR]at hc';obtain⟨c1,h1,h3⟩:=hc';cases h3;simp only[cS,bp]at hz;split at hz
  ·grind
  ·rename_i t1 ht1;obtain⟨ρ1,ok1,far1⟩:=Cs is ok ht1;exact ih _ h1 hz ok1 fun a' w' ρ' ok2 far2=>hQ a' w' ρ' ok2 (far1.trans far2)
end
def pF(P:Program)(I:Inv)(kp:Bool)(f:FuncId)(g:List AV->List Ob->Option (AV×List Ob)):Prop:=
 ∀ {args} {obs obs'} {res} {w} {X} {ρ} {vals} {n},g args obs=some (res,obs')->2000<=n->I.p w X->Rel w X ρ (ap obs)->vals.size=args.length->
  (∀ (i:Nat) c u,args[i]?=some c->vals[i]?=some u->RV w (aJ w X (ap obs) ρ) ρ (ap obs) c u)->
  Enters P f vals w fun v w'=>∃ρ',Rel w' X ρ' (mat n (ap obs') res).2/\Far kp w ρ (ap obs) w' ρ' (mat n (ap obs') res).2/\RV w' (aJ w' X (mat n (ap obs') res).2 ρ') ρ' (mat n (ap obs') res).2 (mat n (ap obs') res).1 v
def Bo(tmps:Array Value):ResultVar->Sem Value
 | .tmp t=>pure (tmps.getD t Go.undef)
 | .cell c t=>do loadVar t (←asAddr (tmps.getD c Go.undef))
section
variable {P:Program} {w w':World} {X:Nat→Prop} {ρ ρ':dX} {h h':ac} {s:ak} {a:Act} {call:iG} {md:Mode} {N:Nat}
theorem Lf:∀rs l {h h'} {s} {vs} {ks},GL P rs=some l->Rel w X ρ h->RS w (aJ w X h ρ) ρ h s a.tmps->AX s h l=some (vs,h',ks)->
  ∃us,(rs.mapM (Bo a.tmps)).run P w=.ok us w/\us.length=vs.length/\Rel w X ρ h'/\Evo w ρ h w ρ h' ks/\
   ∀ (i:Nat) c u,vs[i]?=some c->us[i]?=some u->RV w (aJ w X h' ρ) ρ h' c u
 |[],l,h,h',s,vs,ks,hc,r,hs,hz=>by
  simp only[GL,Option.some.injEq]at hc;subst hc;obtain⟨rfl,rfl,rfl⟩:=hz;exact⟨[],rfl,rfl,r,.refl _ _ _,fun i c u hc=>by grind⟩
 |x::rs,l,h,h',s,vs,ks,hc,r,hs,hz=>by
  have step1:∃rv l',l=rv::l'/\GL P rs=some l'/\∀ {z} {h1} {k1},akz s h rv=some (z,h1,k1)->∃v,(Bo a.tmps x).run P w=.ok v w/\
    Rel w X ρ h1/\Evo w ρ h w ρ h1 k1/\RV w (aJ w X h1 ρ) ρ h1 z v:=by
   cases x with
   |tmp t=>
    simp only[GL,awR]at hc;obtain⟨l',h1,rfl⟩:=hc;refine⟨_,l',rfl,h1,fun{z h1 k1} e=>?_⟩;obtain⟨rfl,rfl,rfl⟩:=e;exact⟨_,rfl,r,.refl _ _ _,hs t⟩
   |cell c t=>
    simp only[GL,awN]at hc;obtain⟨g,g1,k,g2,hc⟩:=hc;split at hc
    ·simp only[awR]at hc;obtain⟨l',h1,rfl⟩:=hc;refine⟨_,l',rfl,h1,fun{z h1 k1} e=>?_⟩;obtain⟨ad,v,q1,q2,q3,q4,q5⟩:=K9 (P:=P) r g1 g2 (hs c) e;refine⟨v,?_,q3,q4,q5⟩;simp only[Bo];rw[q1];exact q2
    grind
  obtain⟨rv,l',rfl,hc',key⟩:=step1;simp only[AX,awN]at hz;obtain⟨⟨z,h1,k1⟩,e1,⟨vs',h2,k2⟩,e2,e3⟩:=hz;cases e3;obtain⟨v,f1,f2,f3,f4⟩:=key e1;obtain⟨us,g1,g2,g3,g4,g5⟩:=Lf rs l' hc' f2 (f3.rs hs) e2;refine⟨v::us,by simp_all,by grind,g3,f3.trans g4,fun i c u hc hu=>?_⟩;cases i with
  |zero=>
   simp only[List.getElem?_cons_zero,Option.some.injEq]at hc hu;subst hc hu;cases k2 with
   |nil=>exact g4.rv f4
   |cons p k2=>
    simp only[TJ,tq];split
    ·exact .anyv _
    ·exact g4.rvk f4 (.inr (by grind))
  |succ i=>grind
end
structure Emb (L:List Nat) (f g:Nat->Nat) (h' h2:ac):Prop where
 back:∀id,L.contains id=true->g (f id)=id/\h2 (f id)=dL f (h' id)
 obj:∀i,h2 i≠ .dead->h2 i=dL f (h' (g i))/\aC L (h' (g i))=true
 inj:∀i j,h2 i≠ .dead->h2 j≠ .dead->g i=g j->i=j
section
variable {w:World} {X:Nat→Prop} {ρ:dX} {h' h2:ac} {A A2:Nat→Prop} {L:List Nat} {f g:Nat→Nat}
theorem IH{o}:dL f o=.dead↔o=.dead:=by cases o<;>simp[dL]
theorem XS(o):bf (dL f o)=bf o:=by cases o<;>rfl
theorem afo{c}{k}{rows}:dQ f c=.osl k rows↔c=.osl k rows:=by cases c<;>simp[dQ,jW]
theorem acs(c):bq (dQ f c)=bq c:=by cases c<;>rfl
theorem RV.embL(em:Emb L f g h' h2){c}{u}(hv:RV w A ρ h' c u)(hA:∀b,A b->A2 b)(hm:bk L c=true):RV w A2 (fun i s=>ρ (g i) s) h2 (jW f c) u:=by
 cases hv with
 |anyv u=>exact .anyv u
 |und=>exact .und
 |dat hd=>
  have:jW f c=c:=by cases hd<;>rfl
  rw[this];exact .dat (hd.mono fun b hb=>⟨hA b hb,rfl⟩)
 |ref id sub k i j hp=>
  simp only[bk,awS]at hm;obtain⟨h1,h3⟩:=em.back id hm.1;cases sub with
  |some p=>grind
  |none=>
   have:=RV.ref (w:=w) (A:=A2) (ρ:=fun i s=>ρ (g i) s) (h:=h2) (f id) none k i j (by simp only[cu,h3,ne_eq,IH];exact hp);simp only[h1]at this;exact this
 |rsl id sub k lo n cap a hp hn hb ha=>
  simp only[bk,awS]at hm;obtain⟨h1,h3⟩:=em.back id hm.1;cases sub with
  |some p=>grind
  |none=>exact .rsl (f id) none k lo n cap a (by simp only[cu,h3,ne_eq,IH];exact hp) hn (by grind) (by grind)
 |rsc id k lo n cap a hp hn hb ha=>simp[bk]at hm
 |ipt cs ad vals hA' hs hv hl hr=>exact .ipt cs ad vals (hA _ hA') hs hv hl (fun j c hc=>(hr j c hc).mono fun b hb=>⟨hA b hb,rfl⟩)
 |agg cs us hs h1 hr=>simp[bk]at hm
 |tup vs us hs hr=>simp[bk]at hm
 |fn ff x y us ts hs ht hx hy=>
  simp[bk]at hm;obtain⟨rfl,rfl⟩:=hm;exact .fn ff [] [] us ts hs ht (fun i c u hc=>by grind) (fun i c u hc=>by grind)
theorem RV.embA(em:Emb L f g h' h2){c}{u}(hv:RV w A ρ h' c u)(hA:∀b,A b->A2 b)(hm:be L c=true):RV w A2 (fun i s=>ρ (g i) s) h2 (dQ f c) u:=by
 cases c with
 |agg cs=>
  simp only[be,axj]at hm;obtain⟨us,rfl,hs,h1,hr⟩:=hv.agg_inv;refine .agg _ us (by grind) h1 fun i c u hc hu=>?_;simp only[List.getElem?_map,awR]at hc;obtain⟨c',hc',rfl⟩:=hc;exact(hr i c' u hc' hu).embL em hA (hm c' (List.mem_of_getElem? hc'))
 |fn ff x y=>
  simp only[be,awS,axj]at hm;obtain⟨us,ts,rfl,hs,ht,hx,hy⟩:=hv.fn_inv;refine .fn ff _ _ us ts (by grind) (by grind) (fun i c u hc hu=>?_) (fun i c u hc hu=>?_)
  ·simp only[List.getElem?_map,awR]at hc;obtain⟨c',hc',rfl⟩:=hc;exact(hx i c' u hc' hu).embL em hA (hm.1 c' (List.mem_of_getElem? hc'))
  ·simp only[List.getElem?_map,awR]at hc;obtain⟨c',hc',rfl⟩:=hc;exact(hy i c' u hc' hu).embL em hA (hm.2 c' (List.mem_of_getElem? hc'))
 |_=>
  exact hv.embL em hA hm
theorem Emb.live(em:Emb L f g h' h2){i}{s}(hl:live h2 i s):live h' (g i) s/\h2 i≠ .dead:=by
 have hd:h2 i≠ .dead:=ab6 hl|>fun hp=>by
  cases s with
  |none=>exact hp
  |some p=>obtain⟨_,_,_,e,_⟩:=hp;grind
 obtain⟨e,_⟩:=em.obj i hd;refine⟨?_,hd⟩;cases s with
 |none=>
  simp only[Ab.live,e]at hl;simp only[Ab.live];cases e2:h' (g i)<;>rw[e2]at hl<;>simp[dL]at hl⊢
 |some p=>
  obtain⟨cs,k,rows,e1,e2⟩:=hl;rw[e]at e1;cases e3:h' (g i)<;>rw[e3]at e1<;>simp only[dL]at e1<;>try (cases e1;done)
  rename_i cs';cases e1;simp only[List.getElem?_map,awR]at e2;obtain⟨c,e4,e5⟩:=e2;exact⟨cs',k,rows,e3,by rw[e4,afo.1 e5]⟩
theorem Rel.emb(em:Emb L f g h' h2)(r:Rel w X ρ h'){X2}(hX:∀b,XZ X2 b->b<w.heap.size)(hnx:∀i s,live h2 i s->¬XZ X2 (ρ (g i) s).1)(hA:∀b,aJ w X h' ρ b->aJ w X2 h2 (fun i s=>ρ (g i) s) b):
  Rel w X2 (fun i s=>ρ (g i) s) h2:=by
 refine⟨fun i s j t h1 h3 h4=>?_,hnx,fun i=>?_,hX⟩
 ·obtain⟨f1,f2⟩:=em.live h1;obtain⟨f3,f4⟩:=em.live h3;obtain⟨e1,e2⟩:=r.inj (g i) s (g j) t f1 f3 h4;exact⟨em.inj i j f2 f4 e1,e2⟩
 ·by_cases hd:h2 i=.dead
  ·rw[hd];trivial
  ·obtain⟨e,hc⟩:=em.obj i hd;have ho:=r.ob (g i);rw[e];cases e2:h' (g i)with
   |dead=>trivial
   |bx cs=>
    rw[e2]at ho hc;obtain⟨us,t,h1,h3,h4,h5⟩:=ho;refine⟨us,t,h1,h3,by grind,fun p c hp=>?_⟩;simp only[List.getElem?_map,awR]at hp;obtain⟨c',hp',rfl⟩:=hp;obtain⟨u,h6,h7⟩:=h5 p c' hp';refine⟨u,h6,?_⟩;simp only[aC,axj]at hc;have hcc:=hc c' (List.mem_of_getElem? hp');cases hO:bq c' with
    |true=>
     cases c'<;>simp[bq]at hO;obtain⟨a,cap,us',t',g1,g2,g3,g4,g5,g6,g7⟩:=h7;exact⟨a,cap,us',t',g1,g2,g3,g4,g5,g6,g7.mono fun b hb=>⟨hA b hb,rfl⟩⟩
    |false=>
     have hca:=by simpa [jq,hO]using hcc
     rw[tZ hO]at h7;rw[tZ (by rw[acs];omega)];refine⟨h7.1.embA em hA hca,h7.2.1,?_⟩;have h8:=h7.2.2;cases c'<;>first|exact h8.elim|trivial|skip
     ·rename_i id sub _ _ _;cases sub with
      |some p=>exact h8.elim
      |none=>
       simp only[be,bk,awS]at hca;obtain⟨_,e3⟩:=em.back id hca.1;simp only[dQ,jW,mL]at h8⊢;rw[e3,XS];omega
     ·simp only[mL,awS,axj]at h8;simp only[dQ,mL,awS,axj,axR];have key:∀c,aD c=true->aD (jW f c)=true:=fun c hd=>by cases c<;>simp[aD,jW]at hd⊢ <;>exact hd
      grind
   |ar k rows=>
    rw[e2]at ho;obtain⟨us,t,h1,h3,h4,h5⟩:=ho;exact⟨us,t,h1,h3,h4,h5.mono fun b hb=>⟨hA b hb,rfl⟩⟩
   |fz k rows=>
    rw[e2]at ho;obtain⟨h0,us,t,fr,h1,h3,h4,h5⟩:=ho;exact⟨hA _ h0,us,t,fr,h1,h3,h4,h5.mono fun b hb=>⟨hA b hb,rfl⟩⟩
end
theorem aig(c):jW (fun i=>i) c=c:=by cases c<;>rfl
theorem TU{α:Type}{f}(hf:∀a,f a=a)(l:List α):l.map f=l:=by
 rw[show f=id from funext hf,List.map_id]
theorem aih(c):dQ (fun i=>i) c=c:=by
 cases c<;>simp[dQ,jW,TU aig]
theorem Pf(o):dL (fun i=>i) o=o:=by
 cases o<;>simp[dL,TU aih]
section
variable {L:List Nat} {g:Nat→Nat} {h' h2:ac}
theorem Emb.add(em:Emb L (fun i=>i) g h' h2){m id}(hm:h2 m=.dead)(hL:L.contains m=false)(hid:∀i,h2 i≠ .dead->g i≠id)(hcl:aC L (h' id)=true):Emb L (fun i=>i) (upd g m id) h' (upd h2 m (h' id)):=by
 refine⟨fun i hi=>?_,fun i hi=>?_,fun i j hi hj hg=>?_⟩
 ·have hne:i≠m:=by grind
  rw[aM _ _ hne,aM _ _ hne];exact em.back i hi
 ·by_cases e:i=m
  ·subst e;rw[aA,aA,Pf];grind
  ·rw[aM _ _ e]at hi⊢;rw[aM _ _ e];exact em.obj i hi
 ·by_cases e:i=m<;>by_cases e':j=m
  ·rw[e,e']
  ·subst e;rw[aA,aM _ _ e']at hg;rw[aM _ _ e']at hj;grind
  ·subst e';rw[aA,aM _ _ e]at hg;rw[aM _ _ e]at hi;grind
  ·rw[aM _ _ e]at hi;rw[aM _ _ e']at hj;rw[aM _ _ e,aM _ _ e']at hg;exact em.inj i j hi hj hg
theorem Ae{n i}:(cU n).contains i=true↔1000<=i/\i<1000+n:=by
 grind[cU,List.mem_range']
theorem sN(h':ac)(n i):ap ((cU n).map h') i=if 1000<=i/\i<1000+n then h' i else .dead:=by
 unfold ap;by_cases h1:1000<=i
 ·rw[if_pos h1];by_cases h2:i<1000+n
  ·have:(cU n)[i-1000]?=some i:=by
    unfold cU;grind
   grind
  ·rw[if_neg (by omega),List.getElem?_map,List.getElem?_eq_none (by grind[cU])];rfl
 grind
theorem Emb.base{n}(hcl:((cU n).all fun i=>aC (cU n) (h' i))=true):Emb (cU n) (fun i=>i) (fun i=>i) h' (ap ((cU n).map h')):=by
 refine⟨fun i hi=>⟨rfl,?_⟩,fun i hi=>?_,fun i j _ _ hg=>hg⟩
 ·rw[sN,if_pos (Ae.1 hi),Pf]
 ·rw[sN]at hi⊢;split at hi
  ·rename_i h1;rw[if_pos h1,Pf];exact⟨rfl,List.all_eq_true.1 hcl i (by simpa using Ae.2 h1)⟩
  grind
end
section
variable {w:World} {X:Nat→Prop} {ρ:dX} {h' h2:ac} {A A2:Nat→Prop}
theorem Kg{b k lo n cap}{us}{e}{fr}{rows}{a}(hb:w.heap[b]?=some (.cells us e fr))(hA2:A2 b)(hA:∀b,A b->A2 b)(hr:cQ w A k rows us)
  (hle:lo+n<=rows.length) (hn:n<=cap) (ha:cap=0\/a=some ⟨b,lo*k,none⟩):RD w A2 (pk k lo n rows) (.slice a n cap):=
 oG hb hA2 (hr.mono fun b hb=>⟨hA b hb,rfl⟩) hle hn ha
def ahE(w:World)(A:Nat->Prop)(ρ:dX)(h':ac)(a b:AV)(u:Value):Prop:=
 (∃id k rows,b=.osl k rows/\a=.rsl id none k 0 rows.length/\h' id=.ar k rows/\bg id=false)\/
 (∃id cs,b=.obx cs/\a=.ref id none 0 0 0/\h' id=.bx cs/\cs.all lS=true/\bg id=false)\/
 (b=a/\∃id k i j,a=.ref id none k i j/\bg id=true)\/
 (b=a/\aD a=true)\/
 (aD b=true/\∀A2,(∀b,A b->A2 b)->(∀id sub,fE a=[id]->live h' id sub->A2 (ρ id sub).1)->RD w A2 b u)
theorem Ct(r:Rel w X ρ h'){a b}{u}(hv:RV w (aJ w X h' ρ) ρ h' a u)(he:lU h' a=some b):ahE w (aJ w X h' ρ) ρ h' a b u:=by
 have dl:aD a=true->lU h' a=some a->ahE w (aJ w X h' ρ) ρ h' a b u:=fun hd hq=>by
  rw[hq]at he;cases he;exact .inr (.inr (.inr (.inl ⟨rfl,hd⟩)))
 cases a with
 |rsl id sub k lo n=>
  obtain⟨a,cap,rfl,hp,hn,hb,ha⟩:=hv.rsl_inv;cases sub with
  |none=>
   simp only[lU]at he;split at he
   ·grind
   ·have ho:=r.ob id;cases e:h' id with
    |dead=>rw[e]at he;cases he
    |ar k' rows=>
     rw[e]at he ho;simp only[BN]at he;split at he
     ·rename_i hc;obtain⟨rfl,hle⟩:=hc;split at he
      ·rename_i hw;obtain⟨rfl,rfl⟩:=hw;cases he;exact .inl ⟨id,k',rows,rfl,rfl,e,by grind⟩
      ·cases he;obtain⟨us,t,h1,h3,h4,h5⟩:=ho;exact .inr (.inr (.inr (.inr ⟨rfl,fun A2 hA hl=>Kg h1 (hl id none rfl (by grind[live])) hA h5 hle hn ha⟩)))
     grind
    |fz k' rows=>
     rw[e]at he ho;simp only[BN]at he;split at he
     ·rename_i hc;obtain⟨rfl,hle⟩:=hc;cases he;obtain⟨h0,us,t,fr,h1,h3,h4,h5⟩:=ho;exact .inr (.inr (.inr (.inr ⟨rfl,fun A2 hA hl=>Kg h1 (hA _ h0) hA h5 hle hn ha⟩)))
     grind
    |bx cs=>
     rw[e]at he;simp only[BN]at he;split at he
     ·rename_i hc;obtain⟨rfl,hle,hd⟩:=hc;cases he;obtain⟨us,t,h1,h3,h4,h5⟩:=r.cell e;refine .inr (.inr (.inr (.inr ⟨rfl,fun A2 hA hl=>oG h1 (hl id none rfl (by grind[live])) (fun i row hi=>?_) (by grind[uO]) hn ha⟩)));simp only[uO,List.getElem?_map,awR]at hi;obtain⟨c,hc,rfl⟩:=hi;refine⟨rfl,fun j d hj=>?_⟩;cases j with
      |succ j=>grind
      |zero=>
       simp at hj;subst hj;obtain⟨u,h6,h7⟩:=h5 i c hc;have hdc:=List.all_eq_true.1 hd c (List.mem_of_getElem? hc);exact⟨u,by grind,LX h7 hdc hA (fun k rows ec=>by subst ec;exact hl id (some i) rfl ⟨cs,k,rows,e,hc⟩),GQ hdc⟩
     grind
  |some p=>
   simp only[lU]at he;split at he
   ·grind
   ·cases e:h' id with
    |bx cs=>
     rw[e]at he;simp only[jV]at he;cases ec:cs[p]? with
     |none=>rw[ec]at he;cases he
     |some c=>
      rw[ec]at he;cases c<;>simp only[xp,aky]at he<;>try (cases he;done)
      split at he
      ·rename_i hc;obtain⟨rfl,hle⟩:=hc;cases he;obtain⟨us,t,h1,h3,h4,h5⟩:=r.cell e;obtain⟨u,_,a',cap',us',t',_,_,_,q4,q5,q6,q7⟩:=h5 p _ ec;exact .inr (.inr (.inr (.inr ⟨rfl,fun A2 hA hl=>Kg q4 (hl id (some p) rfl ⟨cs,_,_,e,ec⟩) hA q7 hle hn ha⟩)))
      grind
    |_=>rw[e]at he;cases he
 |ref id sub k i j=>
  cases sub with
  |some p=>grind[lU,aD]
  |none=>
   simp only[lU]at he;split at he
   ·rename_i hps;cases he;exact .inr (.inr (.inl ⟨rfl,id,k,i,j,rfl,hps⟩))
   ·split at he
    ·rename_i hc;obtain⟨rfl,rfl,rfl⟩:=hc;cases e:h' id<;>rw[e]at he<;>simp only[ZM]at he<;>try (cases he;done)
     split at he
     ·rename_i hd;cases he;exact .inr (.inl ⟨id,_,rfl,rfl,e,hd,by grind⟩)
     grind
    grind
 |fn f x y=>
  grind[lU]
 |any=>exact dl rfl rfl
 |v x=>exact dl rfl rfl
 |emp=>exact dl rfl rfl
 |sl k rows=>exact dl rfl rfl
 |_=>simp[lU,aD]at he
theorem TV{b c}(hdl:aD b=true)(hd:BO b=some c):c=b:=by
 unfold BO at hd;split at hd
 all_goals simp_all[aD,if_pos]
theorem Ny(r:Rel w X ρ h'){a b c}{u}(hv:RV w (aJ w X h' ρ) ρ h' a u)(h1:u.oneCell'=true)(he:lU h' a=some b)(hd:BO b=some c):
  aD c=true/\∀A2,(∀b,aJ w X h' ρ b->A2 b)->(∀id sub,fE a=[id]->live h' id sub->A2 (ρ id sub).1)->RD w A2 c u:=by
 rcases Ct r hv he with⟨id,k,rows,rfl,rfl,e,_⟩| ⟨id,cs,rfl,_⟩| ⟨rfl,id,k,i,j,rfl,_⟩| ⟨rfl,hdl⟩| ⟨hdl,hr⟩
 ·simp only[BO,Option.some.injEq]at hd;subst hd;refine⟨rfl,fun A2 hA hl=>?_⟩;obtain⟨a,cap,rfl,hp,hn,hb,ha⟩:=hv.rsl_inv;have ho:=r.ob id;rw[e]at ho;obtain⟨us,t,g1,g2,g3,g4⟩:=ho;have:=Kg (w:=w) (A2:=A2) (lo:=0) g1 (hl id none rfl (by grind[live])) hA g4 (by omega) hn ha;grind[pk]
 ·grind[BO,aD]
 ·grind[BO,aD]
 ·have:=TV hdl hd;subst this;exact⟨hdl,fun A2 hA _=>(hv.toD hdl h1).mono fun b hb=>⟨hA b hb,rfl⟩⟩
 grind[TV]
theorem Lg(r:Rel w X ρ h'):∀cs ds,lV h' cs=some ds->ds.length=cs.length/\∀ (i:Nat) a c u,cs[i]?=some a->ds[i]?=some c->RV w (aJ w X h' ρ) ρ h' a u->u.oneCell'=true->
  aD c=true/\∀A2,(∀b,aJ w X h' ρ b->A2 b)->(∀id sub,fE a=[id]->live h' id sub->A2 (ρ id sub).1)->RD w A2 c u
 |[],ds,he=>by grind[lV]
 |a::cs,ds,he=>by
  simp only[lV,awN]at he;obtain⟨b,e1,c,e2,q,e3,e4⟩:=he;obtain⟨g1,g2⟩:=Lg r cs q e3;refine⟨by grind,fun i a' c' u hc hd hv h1=>?_⟩;cases i with
  |zero=>
   grind[Ny]
  |succ i=>grind
end
def C5(f:ac->Option R3)(p:ac->ac->Fp)(h:ac)(x:AV)(h':ac)(r w:List Nat):Prop:=
 ∀g,(∀i,dx i∈r\/dx i∈w->g i=h i)->∃g',f g=some (x,g',[])/\p g g'=some (r,w)/\(∀i,dx i∈w->g' i=h' i)/\(∀i,dx i∉w->g' i=g i)
section
variable {h h' g:ac} {x:AV} {r w:List Nat}
theorem Fl{f:ac->Option R3}{p:ac->ac->Fp}(hw:w=[])(hp:∀g g',p g g'=some (r,w))(hf:∀g,(∀i,dx i∈r->g i=h i)->f g=some (x,g,[])):C5 f p h x h' r w:=fun g hg=>by
 simp_all
theorem oJ{f:ac->Option R3}{p:ac->ac->Fp}{d}{o}(hd:dx d∈w)(hh:h'=upd h d o)(hp:∀g g',p g g'=some (r,w))(hf:∀g,g d=h d->f g=some (x,upd g d o,[])):C5 f p h x h' r w:=fun g hg=>by
 refine⟨upd g d o,hf g (hg d (.inr hd)),hp g _,fun i hi=>?_,fun i hi=>?_⟩
 ·simp_all[upd]
 grind[upd,absurd]
theorem afp{a}(hd:aD a=true)(h):fK h a=some (a,h,[]):=by
 cases a<;>simp[aD]at hd<;>simp[fK,aD,hd]
theorem me:∀ {xs},xs.all aD=true->∀h,iO h xs=some (xs,h,[])
 |[],_,h=>rfl
 |a::l,hd,h=>by
  simp only[axu,awS]at hd;simp only[iO,afp hd.1 h,me hd.2 h,awV,axe]
theorem Cu{a}{xs}(hd:dat a=true)(hc:gX a=some xs):xs.all aD=true:=by
 cases a<;>simp only[dat,aD,gX,Option.some.injEq]at hd hc<;>first| (cases hc;done)| (cases hd;done)|skip
 all_goals grind[aD]
theorem C6{k}:∀ {ps} {rows rows'} {h h'} {ks},(ps.all fun p=>dat p.2)=true->eH k h rows ps=some (rows',h',ks)->h'=h/\ks=[]/\∀g,eH k g rows ps=some (rows',g,[])
 |[],rows,rows',h,h',ks,_,hz=>by
  grind[eH,Option.some.injEq,Prod.mk.injEq]
 | (i,a)::ps,rows,rows',h,h',ks,hd,hz=>by
  simp only[axu,awS]at hd;simp only[eH,awN]at hz;obtain⟨cs,e1,hz⟩:=hz;split at hz
  ·have hcs:=Cu hd.1 e1;simp only[me hcs h,awV,awN]at hz;obtain⟨⟨r1,r2,r3⟩,e2,e3⟩:=hz;obtain⟨q1,q2,q3⟩:=C6 hd.2 e2
   simp_all[eH,awV,if_pos,me,axc]
  grind
theorem II{k k0 i j}{agg}{o}{ks}(hz:og h k agg k0 i j o=some (x,h',ks)):h'=h/\ks=[]/\∀g,og g k agg k0 i j o=some (x,g,[]):=by
 cases o with
 |none=>cases hz
 |some q=>
  simp only[og]at hz;split at hz
  ·simp only[awN,awR]at hz;obtain⟨row,e1,a,e2,e3⟩:=hz
   simp_all[og,if_pos,awV,axH]
  grind
theorem act{k id k0 i j}{agg}{o}(hz:AT h k agg id k0 i j o=some (x,h',[])):h'=h/\∀g,AT g k agg id k0 i j o=some (x,g,[]):=by
 cases o with
 |dead=>cases hz
 |bx cs=>
  simp only[AT,GF]at hz⊢;grind
 |ar k' rows=>
  grind[AT,II]
 |fz k' rows=>
  grind[AT,II]
theorem aap{k}{agg}{a}(hz:iP h k agg a=some (x,h',[]))(hp:tV a=some (r,w)):C5 (fun g=>iP g k agg a) (fun _ _=>tV a) h x h' r w:=by
 cases a<;>simp only[tV]at hp<;>try (cases hp;done)
 case ipt cs=>
  cases hp;refine Fl rfl (fun _ _=>rfl) fun g _=>?_;grind[iP,awR]
 case ref id sub k0 i j=>
  cases hp;refine Fl rfl (fun _ _=>rfl) fun g hg=>?_;cases sub with
  |none=>
   grind[iP,act]
  |some p=>
   grind[iP,II]
theorem WU{k}{a y}(hz:lG h k a y=some (x,h',[]))(hp:AU y a=some (r,w)):C5 (fun g=>lG g k a y) (fun _ _=>AU y a) h x h' r w:=by
 cases a<;>simp only[AU]at hp<;>try (cases hp;done)
 rename_i id sub k0 i j;split at hp
 ·rename_i hd;cases hp;simp only[lG,awN]at hz;obtain⟨xs,e1,hz⟩:=hz;have hxs:=Cu hd e1;split at hz
  ·cases sub with
   |none=>
    simp only at hz;cases eo:h id with
    |bx cs=>
     rw[eo]at hz;simp only[Fd,O6]at hz;split at hz
     ·simp only[Option.some.injEq,Prod.mk.injEq]at hz;obtain⟨rfl,rfl,e3⟩:=hz;refine oJ (by simp) rfl (fun _ _=>by simp_all[AU,if_pos]) fun g hg=>?_
      simp_all[lG,awV,if_pos,Fd,O6,if_true]
     grind
    |ar k' rows=>
     simp only[Fd,me hxs h,awV,eo,O7,awR]at hz;obtain⟨q,e2,e3⟩:=hz;cases e3;refine oJ (by simp) rfl (fun _ _=>by simp_all[AU,if_pos]) fun g hg=>?_
     simp_all[lG,awV,if_pos,Fd,me,O7,axH]
    |_=>rw[eo]at hz;cases hz
   |some p=>
    simp only[me hxs h,awV]at hz;cases eo:h id with
    |bx cs=>
     rw[eo]at hz;simp only[Em]at hz;cases ec:cs[p]? with
     |none=>rw[ec]at hz;cases hz
     |some c=>
      rw[ec]at hz;cases c<;>simp only[ZK]at hz<;>try (cases hz;done)
      simp only[awR]at hz;obtain⟨q,e2,e3⟩:=hz;cases e3;refine oJ (by simp) rfl (fun _ _=>by simp_all[AU,if_pos]) fun g hg=>?_
      simp_all[lG,awV,if_pos,Em,me,ZK,axH]
    |_=>rw[eo]at hz;cases hz
  grind
 grind
end
theorem akK{a b}(h:TG a b=true):a=b:=by
 cases a<;>cases b<;>simp only[TG]at h<;>try (cases h;done)
 case string.string x y=>
  obtain⟨⟨x⟩⟩:=x
  simp_all
 all_goals grind
mutual
theorem akL:∀ {a b:AV},TH a b=true->a=b
 |a,b,h=>by
  cases a<;>cases b<;>simp only[TH]at h<;>try (first|rfl| (cases h;done))
  case v.v=>rw[akK h]
  case sl.sl=>simp only[awS,decide_eq_true_eq]at h;rw[h.1,IJ h.2]
  case osl.osl=>simp only[awS,decide_eq_true_eq]at h;rw[h.1,IJ h.2]
  case obx.obx=>rw[Bp h]
  case agg.agg=>rw[Bp h]
  case ref.ref=>grind
  case rsl.rsl=>grind
  case ipt.ipt=>rw[Bp h]
  case fn.fn=>simp only[awS,decide_eq_true_eq]at h;rw[h.1,Bp h.2.1,Bp h.2.2]
theorem Bp:∀ {a b:List AV},Bi a b=true->a=b
 |[],[],_=>rfl
 |[],_::_,h=>by cases h
 |_::_,[],h=>by cases h
 |a::l,b::r,h=>by
  simp only[Bi,awS]at h;rw[akL h.1,Bp h.2]
theorem IJ:∀ {a b:List (List AV)},HQ a b=true->a=b
 |[],[],_=>rfl
 |[],_::_,h=>by cases h
 |_::_,[],h=>by cases h
 |a::l,b::r,h=>by
  simp only[HQ,awS]at h;rw[Bp h.1,IJ h.2]
end
theorem afq{a b}(h:J8 a b=true):a=b:=by
 cases a<;>cases b<;>simp only[J8]at h<;>try (first|rfl| (cases h;done))
 case bx.bx=>rw[Bp h]
 case ar.ar=>grind[IJ]
 case fz.fz=>grind[IJ]
theorem acu{g h g' h'}{ids}(e:∀i,i∈ids->g i=h i)(e':∀i,i∈ids->g' i=h' i):Iu g g' ids=Iu h h' ids:=by
 grind[Iu,List.filter_congr]
theorem afr{h h'}{ids}{i}(hi:i∈ids)(hn:dx i∉ (Iu h h' ids).map dx):h' i=h i:=by
 by_cases hs:J8 (h i) (h' i)=true
 ·exact(afq hs).symm
 ·refine absurd (List.mem_map.2 ⟨i,?_,rfl⟩) hn;simp only[Iu,List.mem_filter];exact⟨hi,by simpa using hs⟩
theorem GV{a}:∀ {r l},a∈l->a∈bF l r
 |[],l,h=>h
 |b::r,l,h=>by
  unfold bF;apply GV;split
  ·exact h
  ·simp[h]
theorem C7:∀ {r l},l.Nodup->(bF l r).Nodup
 |[],l,h=>h
 |b::r,l,h=>by
  unfold bF;apply C7;split
  ·exact h
  ·rename_i hc;rw[List.nodup_append];refine⟨h,by simp,fun a ha c hc'=>?_⟩;simp only[List.mem_singleton]at hc';subst hc'
   rintro rfl
   exact hc (by simpa using ha)
theorem QU{h}{a}:∀ {n} {l} {i},a∈l->a∈bV h n l i
 |0,l,i,hm=>hm
 |n+1,l,i,hm=>by
  unfold bV;split
  ·exact hm
  ·exact QU (GV hm)
theorem Lh{h}:∀ {n} {l} {i},l.Nodup->(bV h n l i).Nodup
 |0,l,i,hm=>hm
 |n+1,l,i,hm=>by
  unfold bV;split
  ·exact hm
  ·exact Lh (C7 hm)
theorem Fn{g h}:∀ {n} {l} {i},(∀a,a∈bV h n l i->g a=h a)->bV g n l i=bV h n l i
 |0,l,i,_=>rfl
 |n+1,l,i,hg=>by
  unfold bV at hg⊢;split
  ·rfl
  ·rename_i a ha;rw[ha]at hg;rw[hg a (QU (GV (List.mem_of_getElem? ha)))];exact Fn hg
theorem QV(h)(n):bV h n [] 0=[]:=by cases n<;>simp[bV]
theorem TW{a}(h:aD a=true):fE a=[]:=by cases a<;>simp[aD]at h<;>rfl
theorem TY{a}(h:dat a=true):bX a=[]:=by
 cases a<;>simp only[dat]at h<;>try exact TW h
 all_goals simp_all[bX,List.flatMap_eq_nil_iff,TW,aD,awS,List.isEmpty_iff]
theorem QW{a}(h:dat a=true):yx a=true:=by
 have key:∀c,aD c=true->rT c=true:=fun c hc=>by cases c<;>simp[aD]at hc<;>rfl
 cases a<;>simp only[dat]at h<;>try exact key _ h
 all_goals simp_all[aD,awS,List.isEmpty_iff,yx]
section
variable {h h' g:ac} {x:AV}
theorem Li:∀ {cs} {q},cs.all rT=true->iO h cs=some q->q=(cs,h,[])/\∀g,iO g cs=some (cs,g,[])
 |[],q,_,hz=>by cases hz;exact⟨rfl,fun g=>rfl⟩
 |c::cs,q,hd,hz=>by
  simp only[axu,awS]at hd;simp only[iO,awN]at hz;obtain⟨p,e1,q',e2,e3⟩:=hz;have hc:p=(c,h,[])/\∀g,fK g c=some (c,g,[]):=by
   cases c<;>simp only[rT]at hd<;>simp only[fK]at e1⊢ <;>first| (cases hd.1;done)|skip
   all_goals
    split at e1
    ·rename_i hdl;simp only[if_pos hdl];cases e1;exact⟨rfl,fun g=>by first|trivial|rfl⟩
    ·cases e1
  obtain⟨rfl,hc2⟩:=hc;obtain⟨rfl,q2⟩:=Li hd.2 e2;cases e3;refine⟨rfl,fun g=>?_⟩;simp only[iO,hc2 g,awV,q2 g,axe]
theorem WV{m}{a}{q}(hd:yx a=true)(hz:dw h m a=some q):q=(a,h,[])/\∀g,dw g m a=some (a,g,[]):=by
 have key:∀c,(∀cs,c≠ .agg cs)->rT c=true->vV h c=some q->q=(c,h,[])/\∀g,vV g c=some (c,g,[]):=by
  intro c hna hc hz;have e1:∀g,vV g c=if aD c then some (c,g,[])else none:=by
   intro g;cases c<;>simp only[rT]at hc<;>first| (cases hc;done)| (exact absurd rfl (hna _))|rfl
  grind
 cases a with
 |agg cs=>
  simp only[dw,vV,awN]at hz⊢;obtain⟨p,e1,e2⟩:=hz;obtain⟨rfl,q2⟩:=Li hd e1;grind
 |rsl=>grind[yx,rT]
 |rsc=>grind[yx,rT]
 |ref id sub k i j=>
  cases sub with
  |none=>
   simp_all[dw,Option.some.injEq,trivial]
  |some p=>exact key _ (fun cs=>by simp) rfl hz
 |ipt cs=>
  simp_all[dw,Option.some.injEq,trivial]
 |fn f u v=>
  simp_all[dw,Option.some.injEq,trivial]
 |_=>exact key _ (fun cs=>by simp) rfl hz
theorem IK:∀ {l} {ms} {q},l.all yx=true->bQ h ms l=some q->q=(l,h,[])/\∀g,bQ g ms l=some (l,g,[])
 |[],ms,q,_,hz=>by cases hz;exact⟨rfl,fun g=>rfl⟩
 |a::l,ms,q,hd,hz=>by
  simp only[axu,awS]at hd;simp only[bQ,awN]at hz;obtain⟨p,e1,q',e2,e3⟩:=hz;obtain⟨rfl,p2⟩:=WV hd.1 e1;obtain⟨rfl,q2⟩:=IK hd.2 e2;cases e3;refine⟨rfl,fun g=>?_⟩;simp only[bQ,p2 g,awV,q2 g,axe]
theorem TZ{ids}{i}:∀ {l} {os} {g h},g i=h i->eu g ids l os i=eu h ids l os i
 |[],os,g,h,e=>by simp_all[eu]
 |a::l,[],g,h,e=>by simp_all[eu]
 |a::l,o::os,g,h,e=>by
  simp only[eu];apply TZ;unfold upd;split
  ·rfl
  ·exact e
theorem xU{ids}{i}:∀ {l} {os} {g},i∉l->eu g ids l os i=g i
 |[],os,g,_=>rfl
 |a::l,[],g,_=>rfl
 |a::l,o::os,g,hn=>by
  simp only[List.mem_cons,not_or]at hn;simp only[eu];rw[xU hn.2];exact aM _ _ hn.1
theorem LY(n)(g h)(c):(dG n g c).1=(dG n h c).1:=by cases c<;>rfl
theorem XT{n i}{g h}{c}(e:g i=h i):(dG n g c).2 i=(dG n h c).2 i:=by
 cases c<;>simp only[dG]<;>first|exact e| (unfold upd;split;rfl;exact e)
theorem T0{n i}{g}{c}(hn:i≠n):(dG n g c).2 i=g i:=by
 cases c<;>simp only[dG]<;>first|rfl|exact aM _ _ hn
theorem T1:∀l n g h,(cK n g l).1=(cK n h l).1
 |[],n,g,h=>rfl
 |c::l,n,g,h=>by simp only[cK];rw[LY n g h,T1 l (n+1) _ (dG n h c).2]
theorem XU{i}:∀ {l} {n} {g h},g i=h i->(cK n g l).2 i=(cK n h l).2 i
 |[],n,g,h,e=>e
 |c::l,n,g,h,e=>by simp only[cK];exact XU (XT e)
theorem T2{i}:∀ {l} {n} {g},¬ (n<=i/\i<n+l.length)->(cK n g l).2 i=g i
 |[],n,g,hn=>rfl
 |c::l,n,g,hn=>by
  simp only[cK];simp only[axE]at hn;rw[T2 (by omega),T0 (by omega)]
theorem XV(n)(g h)(c):(mat n g c).1=(mat n h c).1:=by
 cases c<;>simp only[mat]<;>first|exact LY _ _ _ _|rw[T1]
theorem acv{n i}{g h}{c}(e:g i=h i):(mat n g c).2 i=(mat n h c).2 i:=by
 cases c<;>simp only[mat]<;>first|exact XT e|exact XU e
theorem Af{n i}{g}{c}(hn:¬ (n<=i/\i<n+cz c)):(mat n g c).2 i=g i:=by
 cases c<;>simp only[mat]<;>simp only[cz]at hn<;>first|exact T0 (by omega)|exact T2 hn
theorem Lj{g h}:∀ {m n},(∀i,n<=i->i<n+m->g i=h i)->cw g n m=cw h n m
 |0,n,_=>rfl
 |m+1,n,hg=>by
  simp only[cw];rw[hg n (by omega) (by omega),Lj fun i h1 h2=>hg i (by omega) (by omega)]
theorem HS{g h}{gv}:∀ {l} {os},(∀a,a∈l->g a=h a)->cY g gv l os=cY h gv l os
 |[],os,_=>rfl
 |a::l,[],_=>rfl
 |a::l,o::os,hg=>by
  simp only[cY];rw[hg a (by simp),HS fun b hb=>hg b (by simp[hb])]
theorem Et{d i}(h1:2000+8*d<=i)(h2:i<2000+8*d+8):dx i=2000+8*d:=by
 unfold dx;grind
theorem So{kp}{d}{ids}{gv}{r}(hz:eJ kp h d ids [] gv r=some (x,h',[]))(hg:∀i,dx i∈ids.map dx++[2000+8*d]->g i=h i):
  ∃g',eJ kp g d ids [] gv r=some (x,g',[])/\(∀i,dx i∈ids.map dx++[2000+8*d]->g' i=h' i)/\(∀i,dx i∉ids.map dx++[2000+8*d]->g' i=g i)/\∀i,i∉ids->dx i≠2000+8*d->h' i=h i:=by
 unfold eJ at hz⊢;split at hz
 ·rename_i hc;simp only[Option.some.injEq,Prod.mk.injEq,axc,List.append_eq_nil_iff]at hz;obtain⟨rfl,rfl,hk,rfl⟩:=hz;obtain⟨c1,c0,c2,c3,c4,c5⟩:=hc;have hfr:cw g (2000+8*d) (cz r.1)=true:=by
   grind[Lj,Et]
  have hst:cY g [] ids r.2=true:=by grind[HS]
  refine⟨(mat (2000+8*d) (eu g ids ids r.2) r.1).2,?_,fun i hi=>?_,fun i hi=>?_,fun i hi hi2=>?_⟩
  ·rw[if_pos ⟨c1,c0,c2,hfr,hst,c5⟩,hk];simp only[fR,axe];rw[XV _ (eu g ids ids r.2) (eu h ids ids r.2)]
  ·simp only[fR];grind[acv,TZ]
  ·rw[Af (fun hh=>hi (by grind[Et])),xU (fun hh=>hi (by grind))]
  ·simp only[fR];rw[Af (fun hh=>hi2 (Et hh.1 (by omega))),xU hi]
 grind
theorem WX{call}{md}{d}{f}{zas}{r w}(hz:dS call md h d zas f=some (x,h',[]))(hp:iX h d (oA zas f) h'=some (r,w)):
  C5 (fun g=>dS call md g d zas f) (fun g=>iX g d (oA zas f)) h x h' r w:=by
 cases f<;>simp only[dS]at hz<;>try (cases hz;done)
 rename_i fid a b;simp only[oA]at hp;simp only[awN]at hz;obtain⟨p,e1,e2⟩:=hz;have hno:(a++zas++b).all yx=true:=by
  grind[iX,axj,QW]
 obtain⟨rfl,e3⟩:=IK hno e1;generalize hI:bV h 40 (bF [] ((a++zas++b).flatMap bX)) 0=ids at*
 have hids:(∀i,i∈ids->dx i∈r)/\w=(Iu h h' ids).map dx++[2000+8*d]/\
   (∀g g',(∀i,i∈ids->g i=h i)->(∀i,i∈ids->g' i=h' i)->iX g d (a++zas++b) g'=some (r,w)):=by
  unfold iX at hp;split at hp
  ·cases hp;have:(a++zas++b).flatMap bX=[]:=by
    grind[List.flatMap_eq_nil_iff,TY]
   rw[this]at hI;simp only[bF,QV]at hI;subst hI;refine⟨fun i hi=>by grind,rfl,fun g g' _ _=>?_⟩
   simp_all[iX,if_pos]
  ·rename_i hd;rw[hI]at hp;cases hp;refine⟨fun i hi=>List.mem_map.2 ⟨i,hi,rfl⟩,rfl,fun g g' hg hg'=>?_⟩;unfold iX;have hre:bV g 40 (bF [] ((a++zas++b).flatMap bX)) 0=ids:=by
    grind[Fn]
   rw[if_neg hd,if_pos hno,hre,acu hg hg']
 obtain⟨hi1,hi2,hi3⟩:=hids;intro g hg;have hat:=fun i hi=>hg i (.inl (hi1 i hi));have hre:bV g 40 (bF [] ((a++zas++b).flatMap bX)) 0=ids:=by
  grind[Fn]
 unfold jK at e2;split at e2
 ·simp only[awN]at e2;obtain⟨res,e4,e5⟩:=e2;have hgl:∀i,dx i∈ids.map dx++[2000+8*d]->g i=h i:=fun i hi=>by
   grind
  obtain⟨g',g1,g2,g3,g4⟩:=So e5 (g:=g) hgl;have hat':=fun i hi=>g2 i (List.mem_append_left _ (List.mem_map.2 ⟨i,hi,rfl⟩));refine⟨g',?_,hi3 g g' hat hat',fun i hi=>g2 i ?_,fun i hi=>?_⟩
  ·simp only[dS,e3 g,awV,hre];unfold jK;have hmap:ids.map (fun a=>dL (bj ids) (g a))=ids.map fun a=>dL (bj ids) (h a):=axy fun i hi=>by rw[hat i hi]
   grind
  ·rw[hi2]at hi;rcases List.mem_append.1 hi with hi|hi
   ·refine List.mem_append_left _ ?_;obtain⟨a,ha,hae⟩:=List.mem_map.1 hi;exact List.mem_map.2 ⟨a,(List.mem_filter.1 ha).1,hae⟩
   grind
  grind[dx,afr,List.mem_append_left]
 grind
theorem Nz{call}{md}{d}{f}{zas}{r w}(hz:bE call md h d zas f=some (x,h',[]))(hp:iX h d (oA zas f) h'=some (r,w)):
  C5 (fun g=>bE call md g d zas f) (fun g=>iX g d (oA zas f)) h x h' r w:=by
 have hb:¬jX md zas f=true:=by
  intro hb;have hno:∀l:List AV,l.all yx=true->l.any (fun x=>!Nh x)=false:=fun l hl=>by
   rw[List.any_eq_false];intro c hc;have:=List.all_eq_true.1 hl c hc;cases c<;>simp[yx,rT,Nh]at this⊢
  cases f<;>simp only[jX,awS]at hb<;>try (cases hb;done)
  simp only[oA]at hp;unfold iX at hp;split at hp
  ·rename_i hd;rw[hno _ (List.all_eq_true.2 fun c hc=>QW (List.all_eq_true.1 hd c hc))]at hb;grind
  grind
 simp_all[bE,if_neg,WX]
theorem Ll{d}{x0 x}{h0 g0 h'}{k0}(hz:yw d (x0,h0,k0)=some (x,h',[]))(hg:∀i,dx i=2000+8*d->g0 i=h0 i):
  k0=[]/\∃g',yw d (x0,g0,[])=some (x,g',[])/\(∀i,dx i=2000+8*d->g' i=h' i)/\(∀i,dx i≠2000+8*d->g' i=g0 i):=by
 unfold yw at hz⊢;simp only at hz⊢;split at hz
 ·rename_i id k lo n;split at hz
  ·rename_i hid;subst hid;have hgd:dx (2000+8*d)=2000+8*d:=Et (awQ _) (by omega);have he:=hg _ hgd;simp only[fK]at hz⊢;rw[he];cases eo:h0 (2000+8*d)<;>rw[eo]at hz<;>simp only[mJ]at hz⊢ <;>try (cases hz;done)
   ·simp_all
   ·split at hz
    ·rename_i hc;rw[if_pos hc];simp only[axH,Option.some.injEq,Prod.mk.injEq,axe]at hz;obtain⟨rfl,rfl,rfl⟩:=hz;refine⟨rfl,upd g0 (2000+8*d) (.fz k _),rfl,fun i hi=>?_,fun i hi=>?_⟩
     all_goals grind[upd,absurd]
    grind
   grind
  grind
 grind
theorem GW{call}{md}{d}{op}{s}{r w}(hz:step call md d op s h=some (x,h',[]))(hp:gj d op s h h'=some (r,w)):
  C5 (fun g=>step call md d op s g) (fun g=>gj d op s g) h x h' r w:=by
 cases op with
 |p op=>
  obtain⟨rfl,rfl⟩:=hp;simp only[step,CZ,awR]at hz;obtain⟨a,e1,e2⟩:=hz;cases e2;exact Fl rfl (fun _ _=>rfl) fun g _=>by simp only[step,CZ,e1,axH]
 |alloc z=>
  obtain⟨rfl,rfl⟩:=hp;obtain⟨h1,rfl,rfl,_⟩:=lk hz;exact oJ (by simp) rfl (fun _ _=>rfl) fun g hg=>by grind[step,mK,BK]
 |box k y=>
  simp only[gj]at hp;split at hp
  ·rename_i hd;cases hp;simp only[step,CY,awN]at hz;obtain⟨xs,e1,hz⟩:=hz;split at hz
   ·rename_i hk;simp only[Cu hd e1,if_true,mK]at hz;obtain⟨h1,rfl,rfl,_⟩:=lk hz;refine oJ (by simp) rfl (fun _ _=>by simp_all[gj,if_pos]) fun g hg=>?_;simp only[step,CY,awV,if_pos hk,Cu hd e1,if_true,mK,BK, *]
   grind
  grind
 |buildSl k z n ps=>
  simp only[gj]at hp;split at hp
  ·rename_i hd;cases hp;simp only[step,awN]at hz;obtain⟨q,e1,hz⟩:=hz;have hd':((ps.map fun p=>(p.1,ev s p.2)).all fun p=>dat p.2)=true:=by
    grind
   obtain⟨e2,e3,e4⟩:=C6 hd' e1;obtain⟨q1,q2,q3⟩:=q;simp only at e2 e3 e4 hz;subst e2 e3;obtain⟨h1,rfl,rfl,_⟩:=lk hz;refine oJ (by simp) rfl (fun _ _=>by simp only[gj,if_pos hd]) fun g hg=>?_;simp only[step,e4 g,awV,cX,BK, *]
  grind
 |buildC k z n ps=>
  simp only[gj]at hp;split at hp
  ·rename_i hd;cases hp;simp only[step,awN]at hz;obtain⟨x0,⟨q,e1,hz⟩,hco⟩:=hz;have hd':((ps.map fun p=>(p.1,ev s p.2)).all fun p=>dat p.2)=true:=by
    grind
   obtain⟨e2,e3,e4⟩:=C6 hd' e1;obtain⟨q1,q2,q3⟩:=q;simp only at e2 e3 e4 hz;subst e2 e3;obtain⟨x1,x2,x3⟩:=x0;obtain⟨h1,rfl,rfl,rfl⟩:=lk hz;have hu:∀g (a b:Ob),upd (upd g d a) d b=upd g d b:=fun g a b=>by funext i;simp only[azJ];split<;>rfl
   have key:∀g,g d=.dead->step call md d (.buildC k z n ps) s g=if 0+n<=q1.length then some (pk k 0 n q1,upd g d (.fz k q1),[])else none:=fun g hg=>by
    simp only[step,e4 g,awV,cX,BK,Ep,fK,mJ,azJ,if_true,true_and, *];split<;>simp
   simp only[Ep,fK,mJ,azJ,if_true,true_and,hu]at hco;split at hco
   ·rename_i hle;cases hco;refine oJ (by simp) rfl (fun _ _=>by simp only[gj,if_pos hd]) fun g hg=>?_;rw[key g (by rw[hg];exact h1),if_pos hle]
   ·cases hco
  grind
 |mkSl k z b l c=>
  obtain⟨rfl,rfl⟩:=hp;simp only[step,awN]at hz;obtain⟨q,e1,hz⟩:=hz;split at hz
  ·obtain⟨h1,rfl,rfl,_⟩:=lk hz;refine oJ (by simp) rfl (fun _ _=>rfl) fun g hg=>?_
   simp_all[step,awV,if_pos,cX,BK]
  grind
 |load k g y=>exact aap hz hp
 |store k a y=>exact WU hz hp
 |app k b a y=>cases hp
 |cpy k x y=>cases hp
 |slcM k x lo hi=>cases hp
 |clr k z x=>cases hp
 |appz k b z x n=>cases hp
 |take x=>cases hp
 |call f zas=>exact Nz hz hp
 |callC f zas=>
  simp only[step,awN]at hz;obtain⟨⟨x0,h0,k0⟩,e1,e2⟩:=hz;simp only[gj,Iv]at hp;split at hp
  ·cases hp;obtain⟨rfl,_⟩:=Ll (g0:=h0) e2 (fun _ _=>rfl);have hp1:iX h d (oA (zas.map (ev s)) (ev s f)) h0=some ([],[2000+8*d]):=by simp_all[iX,if_pos]
   intro g hg;obtain⟨g0,a1,a2,a3,a4⟩:=Nz e1 hp1 g hg;obtain⟨_,g',b1,b2,b3⟩:=Ll e2 (g0:=g0) (fun i hi=>a3 i (by grind))
   simp_all[bE,ev,step,gj,Iv,if_pos]
  grind
 |bad=>cases hz
end
section
variable {call:iG} {md:Mode} {s:ak} {h:ac}
theorem gD{s s'}{o}(hs:∀i,i∈gA o->s' i=s i):ev s' o=ev s o:=by
 cases o with
 |t n=>exact hs n (by simp[gA])
 |c a=>rfl
theorem xV{s s'}{o}(hs:∀i,i∈pE o.toList->s' i=s i):evo s' o=evo s o:=by
 cases o with
 |none=>rfl
 |some o=>grind[evo,gD,pE]
theorem Eu{s s'}{l}(hs:∀i,i∈pE l->s' i=s i):l.map (ev s')=l.map (ev s):=
 axy fun o ho=>gD fun i hi=>hs i (by simp only[pE,List.mem_flatMap];exact⟨o,ho,hi⟩)
theorem acw{s s'}{op}(hs:∀i,i∈Nj op->s' i=s i):gu s' op=gu s op:=by
 cases op<;>simp only[Nj,ax4]at hs<;>simp only[gu]
 case build z ps=>
  have:(ps.map fun p=>(p.1,p.2.1,ev s' p.2.2))=ps.map fun p=>(p.1,p.2.1,ev s p.2.2):=
   axy fun p hp=>by rw[gD fun i hi=>hs i (by rw[List.mem_flatMap];exact⟨p,hp,hi⟩)]
  rw[this]
 case mnx m x ys=>rw[gD fun i hi=>hs i (.inl hi),Eu fun i hi=>hs i (.inr hi)]
 case mkF f a b=>rw[Eu fun i hi=>hs i (.inl hi),Eu fun i hi=>hs i (.inr hi)]
 case pick c a b=>rw[gD fun i hi=>hs i (.inl hi),gD fun i hi=>hs i (.inr (.inl hi)),gD fun i hi=>hs i (.inr (.inr hi))]
 case slc k x lo hi mx=>rw[gD fun i hi=>hs i (.inl hi),xV fun i hi=>hs i (.inr (.inl hi)),xV fun i hi=>hs i (.inr (.inr (.inl hi))),xV fun i hi=>hs i (.inr (.inr (.inr hi)))]
 case slcS x lo hi=>rw[gD fun i hi=>hs i (.inl hi),xV fun i hi=>hs i (.inr (.inl hi)),xV fun i hi=>hs i (.inr (.inr hi))]
 all_goals first
  |rw[gD hs]
  |rw[gD fun i hi=>hs i (.inl hi),gD fun i hi=>hs i (.inr hi)]
theorem yB{s s'}{d}{op}(hs:∀i,i∈Nk op->s' i=s i):step call md d op s' h=step call md d op s h/\∀h',gj d op s' h h'=gj d op s h h':=by
 cases op<;>simp only[Nk,ax4]at hs<;>simp only[step,gj]
 case p op=>simp_all[acw,trivial]
 case buildSl k z n ps=>
  have:(ps.map fun p=>(p.1,ev s' p.2))=ps.map fun p=>(p.1,ev s p.2):=
   axy fun p hp=>by rw[gD fun i hi=>hs i (by rw[List.mem_flatMap];exact⟨p,hp,hi⟩)]
  rw[this];have h2:(ps.all fun p=>dat (ev s' p.2))=ps.all fun p=>dat (ev s p.2):=by
   rw[show(ps.all fun p=>dat (ev s' p.2))=((ps.map fun p=>(p.1,ev s' p.2)).all fun p=>dat p.2)from by rw[List.all_map];rfl,this,List.all_map];rfl
  rw[h2];exact⟨rfl,fun _=>rfl⟩
 case buildC k z n ps=>
  have:(ps.map fun p=>(p.1,ev s' p.2))=ps.map fun p=>(p.1,ev s p.2):=
   axy fun p hp=>by rw[gD fun i hi=>hs i (by rw[List.mem_flatMap];exact⟨p,hp,hi⟩)]
  rw[this];have h2:(ps.all fun p=>dat (ev s' p.2))=ps.all fun p=>dat (ev s p.2):=by
   rw[show(ps.all fun p=>dat (ev s' p.2))=((ps.map fun p=>(p.1,ev s' p.2)).all fun p=>dat p.2)from by rw[List.all_map];rfl,this,List.all_map];rfl
  rw[h2];exact⟨rfl,fun _=>rfl⟩
 case slcM k x lo hi=>simp_all[gD,xV,trivial]
 all_goals simp_all[gD,Eu,trivial]
theorem IL{d}{f}{f'}{r}{t}(hz:nD s d f r=some (t,f')):∃x h',r=some (x,h',[])/\t=⟨fL s d x,h'⟩/\f'=f h':=by
 unfold nD at hz;grind
theorem Ew{o}{t}{f}(hz:eE call md o s h=some (t,f)):
  ∃x h',t=⟨fL s o.d x,h'⟩/\((∀s',∀g,(∀i,i∈lH o->s' i=s i)->eE call md o s' g=some (⟨fL s' o.d x,g⟩,some ([],[])))/\h'=h/\f=some ([],[])\/
   (step call md (o.d.getD 0) o.op s h=some (x,h',[])/\f=gj (o.d.getD 0) o.op s h h'/\
    ∀s',∀g,(∀i,i∈lH o->s' i=s i)->eE call md o s' g=nD s' o.d (gj (o.d.getD 0) o.op s g) (step call md (o.d.getD 0) o.op s g))):=by
 unfold eE at hz;cases hg:o.g with
 |none=>
  rw[hg]at hz;obtain⟨x,h',e1,e2,e3⟩:=IL hz;refine⟨x,h',e2,.inr ⟨e1,e3,fun s' g hs=>?_⟩⟩;simp only[lH,hg,axc]at hs;unfold eE;rw[hg];rw[(yB (h:=g) hs).1,funext (yB (call:=call) (md:=md) (h:=g) hs).2]
 |some jb=>
  obtain⟨j,b⟩:=jb;rw[hg]at hz;simp only at hz;have hj:∀s':ak,(∀i,i∈lH o->s' i=s i)->s' j=s j:=fun s' hs=>hs j (by grind[lH]);unfold re at hz;split at hz
  ·rename_i bb hb;split at hz
   ·rename_i hbb;obtain⟨x,h',e1,e2,e3⟩:=IL hz;refine⟨x,h',e2,.inr ⟨e1,e3,fun s' g hs=>?_⟩⟩;unfold eE;rw[hg];simp only;rw[hj s' hs,hb];simp only[re,if_pos hbb];simp only[lH,hg,ax4]at hs;rw[(yB (h:=g) fun i hi=>hs i (.inr hi)).1,funext (yB (call:=call) (md:=md) (h:=g) fun i hi=>hs i (.inr hi)).2]
   ·cases hz;refine⟨.und,h,rfl,.inl ⟨fun s' g hs=>?_,rfl,rfl⟩⟩
    simp_all[eE,re,if_neg]
  ·cases hz;refine⟨.und,h,rfl,.inl ⟨fun s' g hs=>?_,rfl,rfl⟩⟩
   simp_all[eE,re]
  grind
theorem Kh{d}{x}{i}(hn:∀e,d=some e->i≠e):fL s d x i=s i:=by
 cases d with
 |none=>rfl
 |some e=>exact aM _ _ (hn e rfl)
theorem QX{a b}(x y)(hn:∀i j,a=some i->b=some j->i≠j):fL (fL s a x) b y=fL (fL s b y) a x:=by
 cases a with
 |none=>rfl
 |some i=>
  cases b with
  |none=>rfl
  |some j=>
   funext k;simp only[fL,upd];grind
theorem NA{a b}(hi:Cq a b=true):(∀i d,i∈lH b->a.d=some d->i≠d)/\(∀i d,i∈lH a->b.d=some d->i≠d)/\∀i j,a.d=some i->b.d=some j->i≠j:=by
 simp only[Cq,awS]at hi;grind
def ud(f g:Fp):Prop:=nQ f g=true
theorem QY{a b}(h:BM a b=true){i}(ha:i∈a):i∉b:=by
 simp only[BM,axj,ax3,List.contains_eq_mem,decide_eq_false_iff_not]at h;exact h i ha
theorem Cv{α:Type}{l:List α}(h:l.isEmpty=true):l=[]:=by cases l<;>simp at h⊢
theorem ane{a b}{t1 t2}{fa fb}(ha:eE call md a s h=some (t1,fa))(hb:eE call md b t1.s t1.h=some (t2,fb))(hi:Cq a b=true)(hf:ud fa fb):
  ∃t,eE call md b s h=some (t,fb)/\eE call md a t.s t.h=some (t2,fa):=by
 obtain⟨i1,i2,i3⟩:=NA hi;obtain⟨xa,ha',rfl,ca⟩:=Ew ha;obtain⟨xb,hb',rfl,cb⟩:=Ew hb;have sb:∀i,i∈lH b->s i=fL s a.d xa i:=fun i hm=>(Kh fun e he=>i1 i e hm he).symm;have sa:∀i,i∈lH a->fL s b.d xb i=s i:=fun i hm=>Kh fun e he=>i2 i e hm he;have sc:=QX (s:=s) xa xb i3;rcases ca with⟨ca,rfl,rfl⟩| ⟨ea,rfl,ca⟩
 ·
  rcases cb with⟨cb,rfl,rfl⟩| ⟨eb,rfl,cb⟩
  ·grind
  ·refine⟨⟨fL s b.d xb,hb'⟩,?_,by rw[ca _ _ sa,←sc]⟩;rw[cb s _ sb,eb];rfl
 ·rcases cb with⟨cb,rfl,rfl⟩| ⟨eb,rfl,cb⟩
  ·grind[nD]
  ·
   unfold ud at hf;cases efa:gj (a.d.getD 0) a.op s h ha' with
   |none=>
    rw[efa]at hf;cases efb:gj (b.d.getD 0) b.op (fL s a.d xa) ha' hb' with
    |none=>rw[efb]at hf;cases hf
    |some q=>
     obtain⟨r,w⟩:=q;rw[efb]at hf;simp only[nQ,awS]at hf;have hr:=Cv hf.1;have hw:=Cv hf.2;subst hr hw;have fb:=GW eb efb;obtain⟨g1,p1,p2,p3,p4⟩:=fb h (fun i hi=>by grind);obtain⟨g2,q1,q2,q3,q4⟩:=fb ha' (fun i hi=>rfl);have e1:=funext fun i=>p4 i (by simp);have e2:hb'=ha':=by
      grind
     grind[nD]
   |some p=>
    obtain⟨ra,wa⟩:=p;rw[efa]at hf;have fra:=GW ea efa;cases efb:gj (b.d.getD 0) b.op (fL s a.d xa) ha' hb' with
    |none=>
     rw[efb]at hf;simp only[nQ,awS]at hf;have hr:=Cv hf.1;have hw:=Cv hf.2;subst hr hw;obtain⟨g1,p1,p2,p3,p4⟩:=fra h (fun i hi=>rfl);have e1:ha'=h:=by
      grind
     obtain⟨g2,q1,q2,q3,q4⟩:=fra hb' (fun i hi=>by grind);have e2:=funext fun i=>q4 i (by simp);grind[nD]
    |some q=>
     obtain⟨rb,wb⟩:=q;rw[efb]at hf;simp only[nQ,awS]at hf;obtain⟨d1,d2⟩:=hf;have frb:=GW eb efb;have hout:∀i,dx i∉wa->ha' i=h i:=by
      obtain⟨g1,p1,p2,p3,p4⟩:=fra h (fun i hi=>rfl);grind
     have hout2:∀i,dx i∉wb->hb' i=ha' i:=by
      obtain⟨g1,p1,p2,p3,p4⟩:=frb ha' (fun i hi=>rfl);grind
     have nwa:∀i,dx i∈rb\/dx i∈wb->dx i∉wa:=fun i hi hw=>QY d1 hw (by grind);obtain⟨g1,p1,p2,p3,p4⟩:=frb h (fun i hi=>(hout i (nwa i hi)).symm);have agr:∀i,dx i∈ra\/dx i∈wa->g1 i=h i:=fun i hi=>p4 i fun hw=>by
      grind[QY]
     obtain⟨g2,q1,q2,q3,q4⟩:=fra g1 agr;have e2:g2=hb':=funext fun i=>by
      by_cases hwa:dx i∈wa
      all_goals grind
     grind[nD]
theorem T3{o}{post}:∀ {pre} {s} {h} {t} {Fs},gY call md (pre++o::post) s h=some (t,Fs)->
  ∃Fpre f Fpost,Fs=Fpre++f::Fpost/\Fpre.length=pre.length/\((∀ (j:Nat) a fa,pre[j]?=some a->Fpre[j]?=some fa->Cq a o=true/\ud fa f)->
   ∃t1,eE call md o s h=some (t1,f)/\gY call md (pre++post) t1.s t1.h=some (t,Fpre++Fpost))
 |[],s,h,t,Fs,hz=>by
  simp only[axc,gY,awN]at hz;obtain⟨⟨t1,f⟩,e1,⟨t2,F2⟩,e2,e3⟩:=hz;cases e3;exact⟨[],f,F2,rfl,rfl,fun _=>⟨t1,e1,e2⟩⟩
 |a::pre,s,h,t,Fs,hz=>by
  simp only[axM,gY,awN]at hz;obtain⟨⟨t1,fa⟩,e1,⟨t2,F2⟩,e2,e3⟩:=hz;cases e3;obtain⟨Fpre,f,Fpost,rfl,hl,hh⟩:=T3 e2;refine⟨fa::Fpre,f,Fpost,rfl,by grind,fun hc=>?_⟩;obtain⟨t3,g1,g2⟩:=hh fun j a' fa' h1 h2=>hc (j+1) a' fa' (by grind) (by grind);obtain⟨c1,c2⟩:=hc 0 a fa rfl rfl;obtain⟨t4,k1,k2⟩:=ane e1 g1 c1 c2;refine⟨t4,k1,?_⟩;simp only[axM,gY,awV, *]
end
section
variable {P:Program} {I:Inv} {call:iG} {md:Mode} {N:Nat} {ops:Array Oper}
theorem WY{o}{s}{h}{t}{f}(hz:eE call md o s h=some (t,f)):lT call md o s h=some t:=by
 have fin:∀F r,nD s o.d F r=some (t,f)->du md.nm s o.d r=some t:=by
  intro F r hz;obtain⟨x,h',e1,e2,_⟩:=IL hz;subst e1 e2;simp only[du,pn,if_true];rfl
 unfold eE at hz;unfold lT;cases hg:o.g with
 |none=>
  grind
 |some jb=>
  unfold re at hz;unfold kP;grind
theorem yC:∀ {l} {hs cl},rW P N ops hs l=some cl->cl.length=l.length/\∀ (j:Nat) o c,l[j]?=some o->cl[j]?=some c->∃hint,Ka P N ops hint o=some c
 |[],hs,cl,hc=>by grind[rW,Option.some.injEq]
 |o::l,hs,cl,hc=>by
  simp only[rW,awN]at hc;obtain⟨c,e1,q,e2,e3⟩:=hc;cases e3;obtain⟨g1,g2⟩:=yC e2;refine⟨by simp[g1],fun j o' c' h1 h2=>?_⟩;cases j with
  |zero=>simp at h1 h2;subst h1 h2;exact⟨_,e1⟩
  |succ j=>exact g2 j o' c' (by simpa using h1) (by simpa using h2)
theorem T4:∀ {l} {s} {h} {t} {Fs},gY call md l s h=some (t,Fs)->Fs.length=l.length/\∀ (j:Nat) a f,l[j]?=some a->Fs[j]?=some f->∃s' h' t',eE call md a s' h'=some (t',f)
 |[],s,h,t,Fs,hz=>by grind[gY,Option.some.injEq,Prod.mk.injEq]
 |o::l,s,h,t,Fs,hz=>by
  simp only[gY,awN]at hz;obtain⟨⟨t1,f1⟩,e1,⟨t2,F2⟩,e2,e3⟩:=hz;cases e3;obtain⟨g1,g2⟩:=T4 e2;refine⟨by simp[g1],fun j a f h1 h2=>?_⟩;cases j with
  |zero=>simp at h1 h2;subst h1 h2;exact⟨s,h,t1,e1⟩
  |succ j=>exact g2 j a f (by simpa using h1) (by simpa using h2)
theorem Pg{i}:∀ {l acc},i∈XP acc l↔i∈acc\/i∈l
 |[],acc=>by simp[XP]
 |a::l,acc=>by
  unfold XP;cases h:acc.contains a with
  |true=>
   rw[Pg];have ha:=by simpa using h
   constructor
   ·rintro(h1|h1)
    ·exact .inl h1
    ·exact .inr (List.mem_cons_of_mem _ h1)
   ·rintro(h1|h1)
    ·exact .inl h1
    ·rcases List.mem_cons.1 h1 with rfl|h1
     ·exact .inl ha
     ·exact .inr h1
  |false=>
   rw[Pg];simp only[List.mem_cons];constructor
   ·rintro((h1|h1)|h1)
    ·exact .inr (.inl h1)
    ·exact .inl h1
    ·exact .inr (.inr h1)
   ·rintro(h1|h1|h1)
    ·exact .inl (.inr h1)
    ·exact .inl (.inl h1)
    ·exact .inr h1
theorem LZ{o}{acc}{i}:i∈GJ o acc↔i∈rj o\/∃d∈rj o,i∈acc.getD d []:=by
 unfold GJ;rw[Pg,ax4,List.mem_flatMap];simp
theorem L4:∀l acc,∃r,pW l acc=acc++r/\r.length=l.length
 |[],acc=>⟨[],by simp[pW],rfl⟩
 |o::l,acc=>by
  obtain⟨r,e1,e2⟩:=L4 l (acc++[GJ o acc]);grind[GJ,pW,axL]
theorem T5:∀l acc j o,l[j]?=some o->∃pre,(pW l acc)[acc.length+j]?=some (GJ o pre)/\
  pre.length=acc.length+j/\∃r,pW l acc=pre++r
 |[],acc,j,o,h=>by grind
 |o::l,acc,0,o',h=>by
  obtain⟨r,e1,e2⟩:=L4 l (acc++[GJ o acc]);grind[pW,axL]
 |o::l,acc,j+1,o',h=>by
  obtain⟨pre,e1,e2,e3⟩:=T5 l (acc++[GJ o acc]) j o' (by grind);refine⟨pre,?_,by grind,e3⟩;rw[pW,←e1];grind
theorem IM{C}{j}{b}{bf}:∀ {l} {i0},Kc C j b bf i0 l=true->∀i a,l[i]?=some a->(i0+i)∈bf\/C (i0+i) j a b=true
 |[],i0,_,i,a,h=>by grind
 |c::l,i0,hd,i,a,h=>by
  simp only[Kc,awS,Bool.or_eq_true]at hd;cases i with
  |zero=>grind
  |succ i=>
   have:=IM hd.2 i a (by grind);grind
theorem BS{C}:∀ {l} {bs} {j0} {done},done.length=j0->GK C j0 done l bs=true->∀j b bf,l[j]?=some b->bs[j]?=some bf->
  (∀i∈bf,i<j0+j)/\∀i a,i<j0+j->(done++l)[i]?=some a->i∈bf\/C i (j0+j) a b=true
 |[],bs,j0,done,hl,hd,j,b,bf,h1,h2=>by grind
 |c::l,[],j0,done,hl,hd,j,b,bf,h1,h2=>by grind
 |c::l,b0::bs,j0,done,hl,hd,j,b,bf,h1,h2=>by
  simp only[GK,awS,axj,decide_eq_true_eq]at hd;cases j with
  |zero=>
   simp at h1 h2;subst h1 h2;refine⟨hd.1,fun i a hi ha=>?_⟩;rw[List.getElem?_append_left (by omega)]at ha;simpa using IM hd.2.1 i a ha
  |succ j=>
   obtain⟨g1,g2⟩:=BS (by grind) hd.2.2 j b bf (by grind) (by grind);grind
theorem QZ(f):ud (some ([],[])) f:=by
 unfold ud;cases f<;>simp[nQ,BM]
theorem ud.symm{f g}(h:ud f g):ud g f:=by
 unfold ud at*
 cases f<;>cases g<;>simp only[nQ]at h⊢ <;>try exact h
 simp only[awS,BM,axj,ax3,List.contains_eq_mem,decide_eq_false_iff_not,ax4]at h⊢;grind
theorem XW{o}{s}{h}{t}{f}(hz:eE call md o s h=some (t,f))(hp:isP o.op=true):f=some ([],[]):=by
 obtain⟨x,h',e,⟨_,_,rfl⟩| ⟨_,rfl,_⟩⟩:=Ew hz
 ·rfl
 ·cases ho:o.op<;>rw[ho]at hp<;>first|rfl|cases hp
theorem NB{o}{s}{h}{t}{f}(hz:eE call md o s h=some (t,f))(hp:TI o.op=true):∃r,f=some (r,[]):=by
 obtain⟨x,h',e,⟨_,_,rfl⟩| ⟨e2,rfl,_⟩⟩:=Ew hz
 ·grind
 ·cases ho:o.op<;>rw[ho]at hp<;>try (cases hp;done)
  rename_i k g y;rw[ho]at e2;simp only[step]at e2;simp only[gj];cases hy:ev s y<;>rw[hy]at e2<;>simp only[iP]at e2<;>first| (cases e2;done)|exact⟨_,rfl⟩
abbrev anf:=List (Nat×COp×Fp)
theorem Ok.draws{w}{X}{ρ}{h}{s}{a}(ok:Ok I N w X ρ h s a):Ok I N {w with drawn:=w.drawn+1} X ρ h s a/\Far md.nm w ρ h {w with drawn:=w.drawn+1} ρ h:=by
 have e:Evo w ρ h {w with drawn:=w.drawn+1} ρ h []:=⟨rfl,rfl,rfl,awQ _,fun _ _ _=>rfl,fun _ _ hp _=>⟨hp,rfl⟩,fun _ ho=>.inl ho,fun _ hb=>⟨hb,rfl⟩,fun _ _ hd=>⟨hd,rfl⟩⟩;exact⟨⟨ok.rel.step e (fun _=>False) (fun _ _=>⟨rfl,fun _=>rfl,fun _ _=>rfl⟩) ok.rel.inj ok.rel.nx (fun _ hf=>hf.elim),e.rs ok.rs,ok.size,ok.defers,e.inv ok.rel ok.inv⟩,e.far (pn _)⟩
def IN(g:Nat)(a b:COp):Prop:=∃e n,a=⟨some e,none,.p (.mv (.t n))⟩/\Cq a b=true/\(g=0\/(g≠e+1/\g≠n+1))
theorem aaq{g}{a b}(h:ZQ g a b=true):IN g a b:=by
 unfold ZQ at h;split at h
 ·rename_i e n;simp only[awS,Bool.or_eq_true,beq_iff_eq,bne_iff_ne]at h;exact⟨e,n,rfl,h.1,h.2⟩
 grind
theorem IN.zero{g}{a b}(h:IN g a b):IN 0 a b:=by
 obtain⟨e,n,h1,h2,_⟩:=h;exact⟨e,n,h1,h2,.inl rfl⟩
theorem T6(ks:K)(s:ak)(e n):jU ks (upd s e (s n))=upd (jU ks s) e (jU ks s n):=by
 cases ks with
 |nil=>rfl
 |cons p l=>
  grind[jU,upd]
theorem T7{d}{e}{x y}{s:ak}(hd:d≠some e):fL (upd s e y) d x=upd (fL s d x) e y:=by
 have:=QX (s:=s) (a:=some e) (b:=d) y x fun i j h1 h2=>by
  grind
 exact this
theorem Q0{nm}{s:ak}{d}{e n}{r}{t}(h1:d≠some e)(h2:d≠some n)(hz:du nm (upd s e (s n)) d r=some t):∃t2,du nm s d r=some t2/\t=⟨upd t2.s e (t2.s n),t2.h⟩:=by
 unfold du at hz⊢;split at hz
 ·split at hz
  ·grind[fL,jU,Kh,T6,T7]
  grind
 grind
theorem aar{b}{s:ak}{h}{e n}{t}(hi:Cq ⟨some e,none,.p (.mv (.t n))⟩ b=true)(hz:lT call md b (upd s e (s n)) h=some t):∃t2,lT call md b s h=some t2/\t=⟨upd t2.s e (t2.s n),t2.h⟩:=by
 obtain⟨i1,i2,i3⟩:=NA hi;have h1:=fun hh=>i3 e e rfl hh rfl;have h2:=fun hh=>i2 n n (by simp[lH,Nk,Nj,gA]) hh rfl;have hr:∀i,i∈lH b->upd s e (s n) i=s i:=fun i hm=>aM _ _ (i1 i e hm rfl);have hs:step call md (b.d.getD 0) b.op (upd s e (s n)) h=step call md (b.d.getD 0) b.op s h:=(yB fun i hm=>hr i (by grind[lH])).1;have hu:∀x,fL (upd s e (s n)) b.d x=upd (fL s b.d x) e (fL s b.d x n):=fun x=>by
  rw[T7 h1];grind[Kh]
 unfold lT at hz⊢;cases hg:b.g with
 |none=>
  grind[Q0]
 |some jb=>
  obtain⟨j,w⟩:=jb;rw[hg]at hz;simp only at hz⊢;rw[hs,hr j (by grind[lH])]at hz;unfold kP at hz⊢;split at hz
  ·split at hz
   all_goals simp_all[if_pos,Q0,if_neg]
  all_goals grind
theorem afs{s:ak}{i e}{x y}(hn:i≠e):upd (upd s e y) i x=upd (upd s i x) e y:=by
 grind[upd]
theorem aas{nm}{g}{s:ak}{h}{e n}{t}(hg:g=0\/(g≠e+1/\g≠n+1))(hz:tr nm g (upd s e (s n)) h=some t):∃t2,tr nm g s h=some t2/\t=⟨upd t2.s e (t2.s n),t2.h⟩:=by
 cases g with
 |zero=>cases hz;exact⟨_,rfl,rfl⟩
 |succ i=>
  have h1:i≠e:=by omega
  simp only[tr]at hz⊢;rw[aM _ _ h1]at hz;simp only[awN]at hz;obtain⟨r,e1,e2⟩:=hz;split at e2
  ·cases hi:s i<;>rw[hi]at e1<;>simp only[QJ]at e1<;>try (cases e1;done)
   ·cases e1
    simp_all[QJ,pn]
   ·rename_i id sub k lo m;cases sub with
    |none=>grind
    |some p=>
    simp only at e1;split at e1
    ·cases eo:h id<;>rw[eo]at e1<;>simp only[XO]at e1<;>try (cases e1;done)
     rename_i cs;cases ec:cs[p]? with
     |none=>grind[Nl]
     |some c=>
      rw[ec]at e1;cases c<;>simp only[Nl]at e1<;>try (cases e1;done)
      split at e1
      ·cases e1
       simp_all[QJ,if_pos,XO,Nl,awV,T6,afs,aM,Ne.symm]
      grind
    grind
  grind
theorem T8{g}{y}:∀ {L} {s} {h} {t0 t1 t2} {Fs},(∀x∈L,IN g x y)->gY call md L s h=some (t0,Fs)->tr md.nm g t0.s t0.h=some t1->lT call md y t1.s t1.h=some t2->
  ∃r1 r2,tr md.nm g s h=some r1/\lT call md y r1.s r1.h=some r2/\gY call md L r2.s r2.h=some (t2,Fs)
 |[],s,h,t0,t1,t2,Fs,_,h1,h2,h3=>by
  grind[gY,Option.some.injEq,Prod.mk.injEq]
 |a::L,s,h,t0,t1,t2,Fs,hl,h1,h2,h3=>by
  obtain⟨e,n,rfl,hi,hg⟩:=hl a (by simp);simp only[gY,awN]at h1;obtain⟨⟨t',f⟩,e1,⟨t'',F2⟩,e2,e3⟩:=h1;cases e3;have e1':t'=⟨upd s e (s n),h⟩/\f=some ([],[]):=by
   simp only[eE,step,gu,ev,CZ,axH,nD,gj,Option.some.injEq,Prod.mk.injEq]at e1;exact⟨e1.1.symm,e1.2.symm⟩
  obtain⟨rfl,rfl⟩:=e1';obtain⟨r1,r2,g1,g2,g3⟩:=T8 (fun x hx=>hl x (by grind)) e2 h2 h3;obtain⟨q1,k1,rfl⟩:=aas hg g1;obtain⟨q2,k2,rfl⟩:=aar hi g2
  simp_all[gY,eE,step,gu,ev,CZ,axH,nD,gj,awV,fL]
abbrev ang:=List (Nat×COp)
structure RestB (ops:Array Oper) (cl:List COp) (bf:Nat->List Nat) (listed:Array Bool) (g:Nat) (L:anf) (T:ang):Prop where
 size:listed.size=ops.size
 op:∀x∈L,cl[x.1]?=some x.2.1/\listed.getD x.1 true=false
 opT:∀y∈T,cl[y.1]?=some y.2/\listed.getD y.1 true=false
 all:∀j,j<ops.size->listed.getD j true=false->(∃x∈L,x.1=j)\/∃y∈T,y.1=j
 pw:L.Pairwise fun x y=>x.1<y.1/\(x.1∈bf y.1\/(Cq x.2.1 y.2.1=true/\ud x.2.2 y.2.2))
 lt:∀x∈L,∀y∈T,x.1<y.1/\(x.1∈bf y.1\/IN g x.2.1 y.2)
 pwT:T.Pairwise fun x y=>x.1<y.1/\x.1∈bf y.1
 cls:∀k,k<ops.size->listed.getD k true=true->∀i∈bf k,listed.getD i true=true
theorem IP(hcall:l9 P I call md)(hN:N<=1000){hs cl}(hc:rW P N ops hs ops.toList=some cl){bf}
  (hlt:∀j,j<ops.size->∀i∈bf j,i<j) (hdep:∀j o,ops[j]?=some o->(∀d∈rj o,d∈bf j)/\∀i∈bf j,i∈rj o\/∃d∈rj o,i∈bf d):
  ∀fuel {g} {L} {T} {listed} {w} {X} {ρ} {h} {s} {a} {t0 tg t} {Q},L.length+T.length=fuel->RestB ops cl bf listed g L T->
   gY call md (L.map (·.2.1)) s h=some (t0,L.map (·.2.2))->tr md.nm g t0.s t0.h=some tg->aE call md (T.map (·.2)) tg.s tg.h=some t->Ok I N w X ρ h s a->(∀a' w' ρ',Ok I N w' X ρ' t.h t.s a'->Far md.nm w ρ h w' ρ' t.h->Q .normal a' w')->wpAny P .any ops Q fuel listed a w
 |0,g,L,T,listed,w,X,ρ,h,s,a,t0,tg,t,Q,hl,hr,hz,hgh,hT,ok,hQ=>by
  have:L=[]:=by simp_all
  subst this;have:T=[]:=by simp_all
  subst this;simp only[axv,gY,Option.some.injEq,Prod.mk.injEq]at hz;obtain⟨rfl,_⟩:=hz;simp only[axv,aE,Option.some.injEq]at hT;subst hT;obtain⟨ρ',ok',far'⟩:=Le ok hgh;refine⟨?_,hQ _ _ ρ' ok' far'⟩;rw[List.eq_nil_iff_forall_not_mem];intro j hj;obtain⟨h1,o,h2,_⟩:=mem_ready.1 hj;rcases hr.all j (Array.getElem?_eq_some_iff.1 h2).1 h1 with⟨x,hx,_⟩| ⟨x,hx,_⟩<;>simp at hx
 |fuel+1,g,L,T,listed,w,X,ρ,h,s,a,t0,tg,t,Q,hl,hr,hz,hgh,hT,ok,hQ=>by
  have tf:∀d,d<ops.size->listed.getD d true=listed.getD d false:=fun d hd=>by
   have:d<listed.size:=by rw[hr.size];omega
   grind
  have lenc:=(yC hc).1;have cllt:∀ {j:Nat} {c:COp},cl[j]?=some c->j<ops.size:=fun h1=>by
   grind
  have first:∀j,j<ops.size->listed.getD j true=false->(∀k,k<j->listed.getD k true=true)->j∈Region.ready .any ops listed:=by
   intro j hj h1 h2;have hox:ops[j]?=some ops[j]:=by grind
   refine mem_ready.2 ⟨h1,ops[j],hox,fun e he hb=>?_⟩;have hd:e.on∈rj ops[j]:=by
    simp only[rj,axR,List.mem_filter];exact⟨e,⟨by simpa using he,hb⟩,rfl⟩
   have hlt':=hlt j hj _ ((hdep j _ hox).1 _ hd);rw[←tf e.on (by omega)];exact h2 _ hlt'
  have isT:∀k,listed.getD k true=true\/listed.getD k true=false:=fun k=>by cases listed.getD k true<;>simp
  refine⟨fun hnil=>?_,fun i hi=>?_⟩
  ·exfalso;have key:∃j,j<ops.size/\listed.getD j true=false/\∀k,k<j->listed.getD k true=true:=by
    cases L with
    |cons x L'=>
     obtain⟨h1,h2⟩:=hr.op x (by simp);refine⟨x.1,cllt h1,h2,fun k hk=>?_⟩;rcases isT k with h3|h3
     ·omega
     ·rcases hr.all k (Nat.lt_trans hk (cllt h1)) h3 with⟨y,hy,rfl⟩| ⟨y,hy,rfl⟩
      ·rcases List.mem_cons.1 hy with rfl|hy'
       ·omega
       ·have:=(List.pairwise_cons.1 hr.pw).1 y hy';omega
      ·have:=(hr.lt x (by simp) y hy).1;omega
    |nil=>
     cases T with
     |nil=>grind
     |cons x T'=>
      obtain⟨h1,h2⟩:=hr.opT x (by simp);refine⟨x.1,cllt h1,h2,fun k hk=>?_⟩;rcases isT k with h3|h3
      ·omega
      ·rcases hr.all k (Nat.lt_trans hk (cllt h1)) h3 with⟨y,hy,rfl⟩| ⟨y,hy,rfl⟩
       ·grind
       ·rcases List.mem_cons.1 hy with rfl|hy'
        ·omega
        ·have:=(List.pairwise_cons.1 hr.pwT).1 y hy';omega
   grind
  ·obtain⟨h1,o,h2,h3⟩:=mem_ready.1 hi;have hisz:=(Array.getElem?_eq_some_iff.1 h2).1;have hbl:∀k∈bf i,listed.getD k true=true:=by
    intro k hk;have dl:∀d∈rj o,listed.getD d true=true:=by
     intro d hd;have hdl:d<ops.size:=Nat.lt_trans (hlt i hisz d ((hdep i o h2).1 d hd)) hisz;simp only[rj,axR,List.mem_filter]at hd;obtain⟨e,⟨he,hb⟩,rfl⟩:=hd;rw[tf _ hdl];exact h3 e (by simpa using he) hb
    rcases(hdep i o h2).2 k hk with hd| ⟨d,hd,hkd⟩
    ·grind
    ·exact hr.cls d (Nat.lt_trans (hlt i hisz d ((hdep i o h2).1 d hd)) hisz) (dl d hd) k hkd
   have set_ne:∀k,k≠i->(listed.setIfInBounds i true).getD k true=listed.getD k true:=fun k hk=>getD_set_ne true (Ne.symm hk);have set_same:(listed.setIfInBounds i true).getD i true=true:=by
    simp_all
   have cls':∀k,k<ops.size->(listed.setIfInBounds i true).getD k true=true->∀k'∈bf k,(listed.setIfInBounds i true).getD k' true=true:=fun k hk hkl k' hk'=>by
    have old:listed.getD k' true=true:=by
     by_cases hkx:k=i
     ·grind
     ·rw[set_ne _ hkx]at hkl;exact hr.cls k hk hkl k' hk'
    grind
   rcases hr.all i hisz h1 with⟨x,hx,rfl⟩| ⟨y,hy,rfl⟩
   ·obtain⟨L1,L2,rfl⟩:=List.append_of_mem hx;have hpw:=hr.pw;rw[List.pairwise_append]at hpw;obtain⟨pw1,pw2,pw3⟩:=hpw;rw[List.pairwise_cons]at pw2;simp only[List.map_append,axp]at hz;obtain⟨Fpre,f,Fpost,e1,e2,e3⟩:=T3 hz;have e4:Fpre=L1.map (·.2.2)/\f=x.2.2/\Fpost=L2.map (·.2.2):=by
     grind[List.append_inj,List.cons.injEq]
    obtain⟨rfl,rfl,rfl⟩:=e4;obtain⟨t1,g1,g2⟩:=e3 fun j c fc hj1 hj2=>by
     simp only[List.getElem?_map,awR]at hj1 hj2;obtain⟨y,hy,rfl⟩:=hj1;obtain⟨y',hy',rfl⟩:=hj2;rw[hy]at hy';cases hy';have hyL:=List.mem_of_getElem? hy;rcases(pw3 y hyL x (by simp)).2 with hin|hh
     ·have:=hbl _ hin;rw[(hr.op y (by grind)).2]at this;grind
     omega
    obtain⟨c1,_⟩:=hr.op x (by simp);obtain⟨hint,hco⟩:=(yC hc).2 x.1 o x.2.1 (by simpa using h2) c1;have nx:∀y,y∈L1++L2->y.1≠x.1:=by
     intro y hy;rcases List.mem_append.1 hy with hy|hy
     ·have:=(pw3 y hy x (by simp)).1;omega
     ·have:=(pw2.1 y hy).1;omega
    refine GU hcall hN h2 hco ok (WY g1) fun a' w' ρ' ok' far=>?_;refine IP hcall hN hc hlt hdep fuel (L:=L1++L2) (T:=T) (by simp at hl⊢;omega) ⟨by simpa using hr.size,fun y hy=>?_,fun y hy=>?_,fun j hj hjl=>?_,?_,fun y hy=>hr.lt y (by rcases List.mem_append.1 hy with hy|hy<;>simp[hy]),hr.pwT,cls'⟩ (by simpa [List.map_append]using g2) hgh hT ok' fun a'' w'' ρ'' ok'' far'=>hQ _ _ ρ'' ok'' (far.trans far')
    ·obtain⟨q1,q2⟩:=hr.op y (by rcases List.mem_append.1 hy with hy|hy<;>simp[hy]);exact⟨q1,by rw[set_ne _ (nx y hy)];exact q2⟩
    ·obtain⟨q1,q2⟩:=hr.opT y hy;have:=(hr.lt x (by simp) y hy).1;exact⟨q1,by rw[set_ne _ (by omega)];exact q2⟩
    ·have hne:j≠x.1:=by rintro rfl;rw[set_same]at hjl;cases hjl
     rw[set_ne _ hne]at hjl;rcases hr.all j hj hjl with⟨y,hy,rfl⟩|hyT
     ·refine .inl ⟨y,?_,rfl⟩;simp only[ax4,List.mem_cons]at hy⊢;rcases hy with hy|rfl|hy
      ·exact .inl hy
      ·exact absurd rfl hne
      ·exact .inr hy
     ·exact .inr hyT
    grind
   ·
    cases T with
    |nil=>simp at hy
    |cons z T'=>
    have hzy:z=y:=by
     rcases List.mem_cons.1 hy with rfl|hy'
     ·rfl
     ·have h5:=((List.pairwise_cons.1 hr.pwT).1 y hy').2;have:=hbl _ h5;rw[(hr.opT z (by simp)).2]at this;cases this
    subst hzy;have hlate:∀x∈L,IN g x.2.1 z.2:=fun x hx=>by
     rcases(hr.lt x hx z (by simp)).2 with h5|h5
     ·have:=hbl _ h5;rw[(hr.op x hx).2]at this;cases this
     ·exact h5
    simp only[axp,aE,bp]at hT;split at hT
    ·cases hT
    ·rename_i t2 ht2;obtain⟨r1,r2,g1,g2,g3⟩:=T8 (L:=L.map (·.2.1)) (fun x hx=>by
      obtain⟨q,hq,rfl⟩:=List.mem_map.1 hx;exact hlate q hq) hz hgh ht2
     obtain⟨ρg,okg,farg⟩:=Le ok g1;obtain⟨c1,_⟩:=hr.opT z (by simp);obtain⟨hint,hco⟩:=(yC hc).2 z.1 o z.2 (by simpa using h2) c1;refine GU hcall hN h2 hco okg g2 fun a' w' ρ' ok' far=>?_;refine IP hcall hN hc hlt hdep fuel (g:=0) (L:=L) (T:=T') (by simp at hl⊢;omega) ⟨by simpa using hr.size,fun x hx=>?_,fun y hy=>?_,fun j hj hjl=>?_,hr.pw,fun x hx y hy=>?_,(List.pairwise_cons.1 hr.pwT).2,cls'⟩ g3 rfl hT ok' fun a'' w'' ρ'' ok'' far'=>hQ _ _ ρ'' ok'' ((farg.trans far).trans far')
     ·obtain⟨q1,q2⟩:=hr.op x hx;have:=(hr.lt x hx z (by simp)).1;exact⟨q1,by rw[set_ne _ (by omega)];exact q2⟩
     ·obtain⟨q1,q2⟩:=hr.opT y (by simp[hy]);have:=((List.pairwise_cons.1 hr.pwT).1 y hy).1;exact⟨q1,by rw[set_ne _ (by omega)];exact q2⟩
     ·have hne:j≠z.1:=by rintro rfl;rw[set_same]at hjl;cases hjl
      rw[set_ne _ hne]at hjl;rcases hr.all j hj hjl with hx| ⟨y,hy,rfl⟩
      ·exact .inl hx
      ·rcases List.mem_cons.1 hy with rfl|hy'
       ·exact absurd rfl hne
       ·exact .inr ⟨y,hy',rfl⟩
     ·obtain⟨q1,q2⟩:=hr.lt x hx y (by simp[hy]);exact⟨q1,q2.imp_right IN.zero⟩
theorem T9(hm:P.follows .mixedOrders=true)(hcall:l9 P I call md)(hN:N<=1000){id}{hs0 cl}{w}{X}{ρ}{h}{s}{a}{t0 tg t}{m g}{qs}{Fs}{Q}
  (hc:rW P N ops hs0 ops.toList=some cl)
  (hsp:∀j b bf,cl[j]?=some b->(pW ops.toList [])[j]?=some bf->(∀i∈bf,i<j)/\∀i a,i<j->cl[i]?=some a->i∈bf\/Kb m g qs i j a b=true)
  (ok:Ok I N w X ρ h s a) (e1:gY call md (cl.take m) s h=some (t0,Fs)) (hps:qs.all (xS Fs)=true) (hgh:tr md.nm g t0.s t0.h=some tg) (hT:aE call md (cl.drop m) tg.s tg.h=some t)
  (hQ:∀a' w' ρ',Ok I N w' X ρ' t.h t.s a'->Far md.nm w ρ h w' ρ' t.h->Q .normal a' w'):(Code.region id ops true).wp P Q a w:=by
 refine wp_region_any hm ?_;obtain⟨ok',far'⟩:=ok.draws (md:=md);obtain⟨lf,gf⟩:=T4 e1;obtain⟨lc,gc⟩:=yC hc;have lc':cl.length=ops.size:=by omega
 have ltm:(cl.take m).length=min m ops.size:=by grind
 have lb:(pW ops.toList []).length=ops.size:=by
  obtain⟨r,q1,q2⟩:=L4 ops.toList [];grind
 have bget:∀j,j<ops.size->(pW ops.toList [])[j]?=some ((pW ops.toList []).getD j []):=fun j hj=>by
  grind
 have hlt:∀j,j<ops.size->∀i∈ (pW ops.toList []).getD j [],i<j:=fun j hj i hi=>by
  simp_all
 have hdep:∀ (j:Nat) (o:Oper),ops[j]?=some o->(∀d∈rj o,d∈ (pW ops.toList []).getD j [])/\∀i∈ (pW ops.toList []).getD j [],i∈rj o\/∃d∈rj o,i∈ (pW ops.toList []).getD d []:=fun j o hj=>by
  have hjs:j<ops.size:=(Array.getElem?_eq_some_iff.1 hj).1;obtain⟨pre,q1,q2,r,q3⟩:=T5 ops.toList [] j o (by grind);simp only[axI,awP]at q1 q2;have hrow:(pW ops.toList []).getD j []=GJ o pre:=by
   grind
  have hpre:∀d∈rj o,pre.getD d []=(pW ops.toList []).getD d []:=fun d hd=>by
   have hdj:d<j:=hlt j hjs d (by rw[hrow];exact LZ.2 (.inl hd));grind
  refine⟨fun d hd=>by rw[hrow];exact LZ.2 (.inl hd),fun i hi=>?_⟩;rw[hrow]at hi;rcases LZ.1 hi with hi| ⟨d,hd,hid⟩
  all_goals grind
 have getL:∀x∈ (List.range ops.size).zip ((cl.take m).zip Fs),x.1<m/\x.1<ops.size/\cl[x.1]?=some x.2.1/\Fs[x.1]?=some x.2.2:=fun x hx=>by
  obtain⟨n,hn⟩:=List.getElem?_of_mem hx;grind
 have getT:∀y∈ (List.range' (min m ops.size) (ops.size-m)).zip (cl.drop m),m<=y.1/\y.1<ops.size/\cl[y.1]?=some y.2:=fun y hy=>by
  obtain⟨n,hn⟩:=List.getElem?_of_mem hy;rw[List.getElem?_zip_eq_some]at hn;grind
 refine IP hcall hN hc (bf:=fun j=>(pW ops.toList []).getD j []) hlt hdep ops.size (g:=g) (L:=(List.range ops.size).zip ((cl.take m).zip Fs)) (T:=(List.range' (min m ops.size) (ops.size-m)).zip (cl.drop m)) ?_ ⟨by simp,fun x hx=>?_,fun y hy=>?_,fun j hj _=>?_,?_,fun x hx y hy=>?_,?_,fun k hk hkl=>?_⟩ (t0:=t0) (tg:=tg) (t:=t) ?_ hgh ?_ ok' fun a'' w'' ρ'' ok'' far''=>hQ _ _ ρ'' ok'' (far'.trans far'')
 ·grind
 ·obtain⟨q0,q1,q2,q3⟩:=getL x hx;exact⟨q2,by simp[q1]⟩
 ·obtain⟨q0,q1,q2⟩:=getT y hy;exact⟨q2,by simp[q1]⟩
 ·by_cases hjm:j<m
  ·have hjt:j< (cl.take m).length:=by omega
   refine .inl ⟨(j,(cl.take m)[j],Fs[j]'(by omega)),?_,rfl⟩;refine List.mem_of_getElem? (i:=j) ?_;grind
  ·have hjt:j-m< (cl.drop m).length:=by rw[ax2,lc'];omega
   refine .inr ⟨(j,(cl.drop m)[j-m]),?_,rfl⟩;refine List.mem_of_getElem? (i:=j-m) ?_;rw[List.getElem?_zip_eq_some];refine⟨?_,by rw[List.getElem?_eq_getElem hjt]⟩;rw[List.getElem?_range' (by omega)];simp only[Option.some.injEq];omega
 ·rw[List.pairwise_iff_getElem];intro i j hi hj hij;have hj':j< (cl.take m).length/\j<Fs.length:=by simp only[List.length_zip,List.length_range,lf]at hj;omega
  have hjs:j<ops.size:=by omega
  have hjm:j<m:=by omega
  simp only[List.getElem_zip,List.getElem_range,List.getElem_take];refine⟨hij,?_⟩;rcases(hsp j cl[j] _ (by simp) (bget j hjs)).2 i cl[i] (by omega) (by simp)with hb|hb
  ·grind
  ·refine .inr ?_;simp only[Kb,if_pos hjm,ZP,awS,Bool.or_eq_true]at hb;obtain⟨hb1,hb2⟩:=hb;refine⟨hb1,?_⟩;have gi:∀q (hq:q< (cl.take m).length) (hq':q<Fs.length),∃s' h' t',eE call md (cl[q]'(by omega)) s' h'=some (t',Fs[q]):=fun q hq hq'=>by
    refine gf q _ _ ?_ (by rw[List.getElem?_eq_getElem hq']);rw[List.getElem?_eq_getElem hq,List.getElem_take]
   obtain⟨s1,h1,t1,st1⟩:=gi i (by omega) (by omega);obtain⟨s2,h2,t2,st2⟩:=gi j hj'.1 hj'.2;rcases hb2 with((hb2|hb2)|hb2)|hb2
   ·rw[XW st1 hb2];exact QZ _
   ·rw[XW st2 hb2];exact(QZ _).symm
   ·obtain⟨r1,k1⟩:=NB st1 hb2.1;obtain⟨r2,k2⟩:=NB st2 hb2.2;rw[k1,k2];simp[ud,nQ,BM]
   ·have:=List.all_eq_true.1 hps (i,j) (by simpa using hb2);simp only[xS]at this;rw[List.getElem?_eq_getElem (show i<Fs.length from by omega),List.getElem?_eq_getElem hj'.2]at this;exact this
 ·obtain⟨q0,q1,q2,q3⟩:=getL x hx;obtain⟨p0,p1,p2⟩:=getT y hy;refine⟨by omega,?_⟩;rcases(hsp y.1 y.2 _ p2 (bget y.1 p1)).2 x.1 x.2.1 (by omega) q2 with hb|hb
  ·exact .inl hb
  ·simp only[Kb,if_neg (show¬y.1<m by omega),awS]at hb;exact .inr (aaq hb.2)
 ·rw[List.pairwise_iff_getElem];intro i j hi hj hij;have hi':=getT _ (axr hi);have hj':=getT _ (axr hj);have hlt2:((List.range' (min m ops.size) (ops.size-m)).zip (cl.drop m))[i].1< ((List.range' (min m ops.size) (ops.size-m)).zip (cl.drop m))[j].1:=by
   simp only[List.getElem_zip,List.getElem_range'];omega
  refine⟨hlt2,?_⟩;rcases(hsp _ _ _ hj'.2.2 (bget _ hj'.2.1)).2 _ _ hlt2 hi'.2.2 with hb|hb
  ·omega
  ·simp only[Kb,if_neg (Nat.not_lt.2 hj'.1),awS,decide_eq_true_eq]at hb;have:=hb.1;have:=hi'.1;omega
 ·simp[hk]at hkl
 ·have m1:((List.range ops.size).zip ((cl.take m).zip Fs)).map (·.2.1)=cl.take m:=by
   rw[show(fun x:Nat×COp×Fp=>x.2.1)=Prod.fst∘Prod.snd from rfl,←List.map_map,List.map_snd_zip (by simp[lc',lf,axd];omega),List.map_fst_zip (by omega)]
  have m2:((List.range ops.size).zip ((cl.take m).zip Fs)).map (·.2.2)=Fs:=by
   rw[show(fun x:Nat×COp×Fp=>x.2.2)=Prod.snd∘Prod.snd from rfl,←List.map_map,List.map_snd_zip (by simp[lc',lf,axd];omega),List.map_snd_zip (by omega)]
  rw[m1,m2];exact e1
 grind[List.range',List.map_snd_zip]
theorem aat(hm:P.follows .mixedOrders=true)(hcall:l9 P I call md)(hN:N<=1000):QS P I call md N:=by
 intro id ops hs0 cl w X ρ h s a t ps Q hc hd ok hz hQ;unfold TN ahC at hd;unfold rg at hz;cases hb:AW ps with
 |none=>
  rw[hb]at hd hz;simp only[Bj,awN]at hz;obtain⟨⟨t0,Fs⟩,e1,e2⟩:=hz;split at e2
  ·rename_i hps;cases e2;have hsp:=BS (done:=[]) (j0:=0) rfl hd;refine T9 hm hcall hN (m:=cl.length) (g:=0) (qs:=ps) hc (fun j b bf h1 h2=>?_) ok (by rw[aEE];omega) hps rfl (by rw[List.drop_length];rfl) hQ;have hj:=(List.getElem?_eq_some_iff.1 h1).1
   simp_all[Kb,if_pos,awP]
  grind
 |some q=>
  rw[hb]at hd hz;simp only[GG,awN]at hz;obtain⟨⟨t0,Fs⟩,e1,e2⟩:=hz;split at e2
  ·rename_i hps;simp only[bp]at e2;split at e2
   ·grind
   ·rename_i tg htg;have hsp:=BS (done:=[]) (j0:=0) rfl hd;refine T9 hm hcall hN (m:=q.1) (g:=q.2) (qs:=ps.tail) hc (fun j b bf h1 h2=>?_) ok e1 hps htg e2 hQ;grind
  grind
end
theorem AZ:∀ss l,(dK ss l).length=l.length
 |[],l=>by cases l<;>simp[dK]
 |s::ss,[]=>by simp[dK]
 |s::ss,a::l=>by simp[dK,AZ ss l]
theorem C8:∀ss l (j:Nat) c,(dK ss l)[j]?=some c->∃c0,l[j]?=some c0/\(c=c0\/∃s,c=nrmL s c0)
 |[],l,j,c,h=>⟨c,by grind[dK],.inl rfl⟩
 |s::ss,[],j,c,h=>by grind[dK]
 |s::ss,a::l,0,c,h=>by grind[dK]
 |s::ss,a::l,j+1,c,h=>by
  simpa using C8 ss l j c h
theorem C9{s}{c}(hd:aD c=true):aD (nrmL s c)=true:=by
 obtain⟨k,cs⟩:=s;cases k with
 |zero=>grind[nrmL]
 |succ k=>cases c<;>simp[aD]at hd<;>simp[nrmL,aD,hd]
theorem gE(s){c}(h1:∀k r,c≠ .sl k r)(h2:c≠ .emp)(h3:∀k r,c≠ .osl k r):nrmL s c=c:=by
 obtain⟨k,cs⟩:=s;cases k with
 |zero=>simp[nrmL]
 |succ k=>cases c<;>first|rfl|exact absurd rfl (h1 _ _)|exact absurd rfl h2|exact absurd rfl (h3 _ _)
section
variable {w:World} {A:Nat→Prop} {ρ:dX} {h:ac}
theorem RD.nrmL{c}{u}(hd:RD w A c u):∀s,RD w A (nrmL s c) u:=by
 induction hd with
 |any u h=>intro s;rw[gE s (by simp) (by simp) (by simp)];exact .any u h
 |v x h=>intro s;rw[gE s (by simp) (by simp) (by simp)];exact .v x h
 |emp a=>
  intro s;obtain⟨k,cs⟩:=s;cases k with
  |zero=>exact .emp a
  |succ k=>
   exact .sl k [] a 0 ⟨0,0,none⟩ (fun _ _=>undef) (awQ 0) (fun h=>absurd rfl h) (fun _ h=>by grind) (fun i row j c h=>by grind) (fun _ h=>by grind) (fun i row j c h=>by grind)
 |sl k rows a cap ad vals hc ha hk hv hl hr ih=>
  intro s;obtain⟨k',cs⟩:=s;cases k' with
  |zero=>exact .sl k rows a cap ad vals hc ha hk hv hl hr
  |succ k'=>
   simp only[Ab.nrmL];have key:∀ (i:Nat) row (j:Nat) c,(rows.map (dK cs))[i]?=some row->row[j]?=some c->∃row0 c0,rows[i]?=some row0/\row0[j]?=some c0/\(c=c0\/∃s,c=Ab.nrmL s c0):=by
    intro i row j c h1 h2;simp only[List.getElem?_map,awR]at h1;obtain⟨row0,h3,rfl⟩:=h1;obtain⟨c0,h4,h5⟩:=C8 cs row0 j c h2;grind
   have:=RD.sl (w:=w) (A:=A) k (rows.map (dK cs)) a cap ad vals (by grind) (fun hne=>ha (by grind)) (fun row hm=>by
     simp only[axR]at hm;obtain⟨row0,hm,rfl⟩:=hm;rw[AZ];grind) (fun i row j c h1 h2=>by
     grind) (fun row hm c hc=>by
     obtain⟨i,hi⟩:=List.getElem?_of_mem hm;obtain⟨j,hj⟩:=List.getElem?_of_mem hc;obtain⟨row0,c0,h3,h4,h5⟩:=key i row j c hi hj;have hd:=hl row0 (List.mem_of_getElem? h3) c0 (List.mem_of_getElem? h4);rcases h5 with rfl| ⟨s,rfl⟩
     ·omega
     ·exact C9 hd) (fun i row j c h1 h2=>by
     grind)
   grind
 |agg cs us hs h1 hr ih=>intro s;rw[gE s (by simp) (by simp) (by simp)];exact .agg cs us hs h1 hr
 |fn f=>intro s;rw[gE s (by simp) (by simp) (by simp)];exact .fn f
theorem RV.nrmL{c}{u}(hv:RV w A ρ h c u)(s):RV w A ρ h (nrmL s c) u:=by
 cases hv with
 |dat hd=>exact .dat (hd.nrmL s)
 |anyv u=>rw[gE s (by simp) (by simp) (by simp)];exact .anyv u
 |und=>rw[gE s (by simp) (by simp) (by simp)];exact .und
 |ref id sub k i j hp=>rw[gE s (by simp) (by simp) (by simp)];exact .ref id sub k i j hp
 |rsl id sub k lo n cap a hp hn hb ha=>rw[gE s (by simp) (by simp) (by simp)];exact .rsl id sub k lo n cap a hp hn hb ha
 |rsc id k lo n cap a hp hn hb ha=>rw[gE s (by simp) (by simp) (by simp)];exact .rsc id k lo n cap a hp hn hb ha
 |ipt cs ad vals hA hs hv hl hr=>rw[gE s (by simp) (by simp) (by simp)];exact .ipt cs ad vals hA hs hv hl hr
 |agg cs us hs h1 hr=>rw[gE s (by simp) (by simp) (by simp)];exact .agg cs us hs h1 hr
 |tup vs us hs hr=>rw[gE s (by simp) (by simp) (by simp)];exact .tup vs us hs hr
 |fn f x y us ts hs ht hx hy=>rw[gE s (by simp) (by simp) (by simp)];exact .fn f x y us ts hs ht hx hy
theorem RV.nrmV{c}{u}(hv:RV w A ρ h c u)(ss):RV w A ρ h (nrmV ss c) u:=by
 cases c with
 |agg cs=>
  obtain⟨us,rfl,hs,h1,hr⟩:=hv.agg_inv;refine .agg _ us (by rw[AZ];omega) h1 fun i c u hc hu=>?_;obtain⟨c0,h2,h3⟩:=C8 ss cs i c hc;rcases h3 with rfl| ⟨s,rfl⟩
  ·grind
  ·exact(hr i c0 u h2 hu).nrmL s
 |_=>exact hv.nrmL _
theorem yD:∀ss l,(bo ss l).length=l.length
 |[],l=>by cases l<;>simp[bo]
 |s::ss,[]=>by simp[bo]
 |s::ss,a::l=>by simp[bo,yD ss l]
theorem xW:∀ss l (j:Nat) c,(bo ss l)[j]?=some c->∃c0,l[j]?=some c0/\(c=c0\/∃s,c=Ab.nrmV s c0)
 |[],l,j,c,h=>⟨c,by grind[bo],.inl rfl⟩
 |s::ss,[],j,c,h=>by grind[bo]
 |s::ss,a::l,0,c,h=>by grind[bo]
 |s::ss,a::l,j+1,c,h=>by
  simpa using xW ss l j c h
end
def ue:AV->Bool
 | .osl _ _| .obx _=>true
 |_=>false
def Ua(L:List Nat)(h':ac)(a c:AV):Prop:=
 ∃id,bX a=[id]/\bg id=false/\aC L (h' id)=true/\
  ((∃k rows,c=.osl k rows/\a=.rsl id none k 0 rows.length/\h' id=.ar k rows)\/(∃xs,c=.obx xs/\a=.ref id none 0 0 0/\h' id=.bx xs))
theorem Q1{m}{h}{c}(hc:ue c=false):dG m h c=(c,h):=by
 cases c<;>simp[ue]at hc<;>rfl
theorem Ua.mat{L}{h'}{a c}(hm:Ua L h' a c)(m)(h2):∃id,bX a=[id]/\bg id=false/\aC L (h' id)=true/\h' id≠ .dead/\(dG m h2 c).2=upd h2 m (h' id):=by
 obtain⟨id,h1,h3,h4,⟨k,rows,rfl,rfl,h5⟩| ⟨xs,rfl,rfl,h5⟩⟩:=hm
 ·exact⟨id,h1,h3,h4,by grind,by rw[h5];rfl⟩
 ·exact⟨id,h1,h3,h4,by grind,by rw[h5];rfl⟩
theorem WZ{x}{l}(h:kD (x::l)=true):x∉l/\kD l=true:=by
 simp_all[kD,awS,ax3,List.contains_eq_mem,decide_eq_false_iff_not]
theorem NC{l l'}:kD (l++l')=true->kD l'=true/\∀x,x∈l->x∉l':=by
 induction l with
 |nil=>grind
 |cons y l ih=>
  intro h;obtain⟨h1,h2⟩:=WZ h
  simp_all
section
variable {h':ac} {L:List Nat}
theorem GX(hL:∀i,2000<=i->L.contains i=false):∀ (zas cs:List AV) m h2 g,2000<=m->zas.length=cs.length->
  (∀ (j:Nat) a c,zas[j]?=some a->cs[j]?=some c->ue c=true->Ua L h' a c)->kD ((zas.flatMap bX).filter fun i=>!bg i)=true->Emb L (fun i=>i) g h' h2->(∀i,m<=i->h2 i=.dead)->
  (∀i,h2 i≠ .dead->∀id,id∈zas.flatMap bX->bg id=false->g i≠id)->
  ∃gm,Emb L (fun i=>i) gm h' (cK m h2 cs).2/\(∀i,i<m->(cK m h2 cs).2 i=h2 i/\gm i=g i)/\
   (∀i,(cK m h2 cs).2 i≠ .dead->(h2 i≠ .dead/\gm i=g i)\/∃ (j:Nat) (a c:AV),zas[j]?=some a/\cs[j]?=some c/\ue c=true/\bX a=[gm i])/\
   (∀j a c id,zas[j]?=some a->cs[j]?=some c->ue c=true->bX a=[id]->gm (m+j)=id/\(cK m h2 cs).2 (m+j)=h' id/\h' id≠ .dead)
 |[],[],m,h2,g,hm,_,_,_,em,_,_=>⟨g,em,fun _ _=>⟨rfl,rfl⟩,fun _ hi=>.inl ⟨hi,rfl⟩,fun j a c id h1=>by grind⟩
 |[],c::cs,m,h2,g,_,hl,_,_,_,_,_=>by grind
 |a::zas,[],m,h2,g,_,hl,_,_,_,_,_=>by grind
 |a::zas,c::cs,m,h2,g,hm,hl,hmv,hnd,em,hfree,hid=>by
  simp only[List.flatMap_cons,List.filter_append]at hnd;obtain⟨nd2,nd3⟩:=NC hnd;have hmv':∀j a c,zas[j]?=some a->cs[j]?=some c->ue c=true->Ua L h' a c:=fun j a' c' h1 h3=>hmv (j+1) a' c' (by grind) (by grind);have hl':zas.length=cs.length:=by grind
  cases hc:ue c with
  |false=>
   simp only[cK,Q1 hc];obtain⟨gm,e1,e2,e3,e4⟩:=GX hL zas cs (m+1) h2 g (by omega) hl' hmv' nd2 em (fun i hi=>hfree i (by omega)) (fun i hi id hm'=>hid i hi id (by grind));refine⟨gm,e1,fun i hi=>e2 i (by omega),fun i hi=>?_,fun j a' c' id h1 h3 h4 h5=>?_⟩
   ·rcases e3 i hi with hh| ⟨j,a',c',h1,h3,h4,h5⟩
    ·grind
    ·exact .inr ⟨j+1,a',c',by grind,by grind,h4,h5⟩
   ·cases j with
    |zero=>
     grind
    |succ j=>
     grind
  |true=>
   obtain⟨id,i1,i2,i3,i4,i5⟩:=(hmv 0 a c rfl rfl hc).mat m h2;simp only[cK,i5];have hida:id∈ (a::zas).flatMap bX:=by grind
   have em1:=em.add (m:=m) (id:=id) (hfree m (awQ _)) (hL m hm) (fun i hi=>hid i hi id hida i2) i3;have nin:∀id',id'∈zas.flatMap bX->bg id'=false->id'≠id:=by
    grind
   obtain⟨gm,e1,e2,e3,e4⟩:=GX hL zas cs (m+1) (upd h2 m (h' id)) (upd g m id) (by omega) hl' hmv' nd2 em1 (fun i hi=>by grind[aM]) (fun i hi id' hm' hp'=>by
    by_cases e:i=m
    ·subst e;rw[aA];exact fun ee=>nin id' hm' hp' ee.symm
    ·rw[aM _ _ e]at hi⊢;exact hid i hi id' (by simp only[List.flatMap_cons,ax4];exact .inr hm') hp')
   have atm:=e2 m (by omega);rw[aA,aA]at atm;refine⟨gm,e1,fun i hi=>?_,fun i hi=>?_,fun j a' c' id' h1 h3 h4 h5=>?_⟩
   ·grind[aM]
   ·rcases e3 i hi with⟨h1,h3⟩| ⟨j,a',c',h1,h3,h4,h5⟩
    ·by_cases e:i=m
     ·subst e;exact .inr ⟨0,a,c,rfl,rfl,hc,by grind⟩
     grind[aM]
    ·exact .inr ⟨j+1,a',c',by grind,by grind,h4,h5⟩
   ·cases j with
    |zero=>
     grind
    |succ j=>
     grind
theorem Ub:∀l m h j z,(cK m h l).1[j]?=some z->∃c,l[j]?=some c/\z=(dG (m+j) h c).1
 |[],m,h,j,z,hz=>by grind[cK]
 |c::l,m,h,0,z,hz=>by
  grind[cK]
 |c::l,m,h,j+1,z,hz=>by
  obtain⟨c',h1,h2⟩:=Ub l (m+1) _ j z hz;refine⟨c',by simpa using h1,?_⟩;rw[h2,LY _ _ h,show m+1+j=m+(j+1)from by omega]
theorem Lm:∀l m h,(cK m h l).1.length=l.length
 |[],m,h=>rfl
 |c::l,m,h=>by simp[cK,Lm l]
end
section
variable {w:World} {X:Nat→Prop} {ρ:dX} {h':ac} {L:List Nat}
structure Seen (w:World) (X:Nat->Prop) (ρ:dX) (h':ac) (a:AV) (A2:Nat->Prop) (ρ2:dX) (h2:ac):Prop where
 mono:∀b,aJ w X h' ρ b->A2 b
 ids:∀id,id∈bX a->bg id=false->∀sub,live h' id sub->A2 (ρ id sub).1
 pas:∀id,bg id=true->h' id≠ .dead->h2 id≠ .dead/\ρ2 id none=ρ id none
def aft(w:World)(X:Nat->Prop)(ρ:dX)(h':ac)(L:List Nat)(a c:AV)(u:Value):Prop:=
 (ue c=true->Ua L h' a c)/\(ue c=false->∀A2 ρ2 h2,Seen w X ρ h' a A2 ρ2 h2->RV w A2 ρ2 h2 c u)
theorem Ln{c}(hd:lS c=true):jq L c=true:=by
 simp only[lS,Bool.or_eq_true]at hd;simp only[jq,Bool.or_eq_true];rcases hd with hd|hd
 ·grind
 ·cases c<;>simp[aD]at hd<;>simp[be,bk,hd]
theorem Lo{a b}(he:lU h' a=some b)(hd:aD b=true\/∃k r,b=.osl k r){id}(hi:fE a=[id]):bg id=false:=by
 cases a<;>simp only[fE]at hi<;>try (cases hi;done)
 case ref i sub k x y=>
  cases sub with
  |some p=>grind[lU,aD]
  |none=>
   grind[lU,aD,ZM]
 case rsl i sub k x y=>
  have hi':i=id:=by grind
  subst hi';cases hp:bg i with
  |false=>rfl
  |true=>cases sub<;>simp[lU,hp]at he
theorem aii{b c}(hd:BO b=some c):aD b=true\/∃k r,b=.osl k r:=by
 unfold BO at hd;grind
theorem Uc:∀ {cs ds},lV h' cs=some ds->∀ (i:Nat) a id,cs[i]?=some a->fE a=[id]->bg id=false
 |[],ds,_,i,a,id,h1,_=>by grind
 |c::cs,ds,he,i,a,id,h1,h2=>by
  simp only[lV,awN]at he;obtain⟨b,e1,c',e2,q,e3,e4⟩:=he;cases i with
  |zero=>simp at h1;subst h1;exact Lo e1 (aii e2) h2
  |succ i=>exact Uc e3 i a id (by simpa using h1) h2
theorem Q2{s}{b}(h:ue (nrmL s b)=true):nrmL s b=b:=by
 obtain⟨k,cs⟩:=s;cases k with
 |zero=>simp[nrmL]
 |succ k=>cases b<;>simp[nrmL,ue]at h⊢
theorem acx(ss){b}(h:∀cs,b≠ .agg cs):nrmV ss b=nrmL (ss.headD (.o 0 [])) b:=by
 cases b<;>first|rfl|exact absurd rfl (h _)
theorem afu(r:Rel w X ρ h'){a b}{u}(hv:RV w (aJ w X h' ρ) ρ h' a u)(he:lU h' a=some b)(s):aft w X ρ h' L a (nrmL s b) u:=by
 have data:∀ {b},lU h' a=some b->aD b=true->(∀A2,(∀b,aJ w X h' ρ b->A2 b)->(∀id sub,fE a=[id]->live h' id sub->A2 (ρ id sub).1)->RD w A2 b u)->
   ∀A2 ρ2 h2,Seen w X ρ h' a A2 ρ2 h2->RV w A2 ρ2 h2 (nrmL s b) u:=by
  intro b he hd hr A2 ρ2 h2 hs;exact .dat ((hr A2 hs.mono fun id sub hi hl=>hs.ids id (by
   have:bX a=fE a:=by cases a<;>first|rfl|simp[fE]at hi
   grind) (Lo he (.inl hd) hi) sub hl).nrmL s)
 rcases Ct r hv he with⟨id,k,rows,rfl,rfl,e,hp⟩| ⟨id,cs,rfl,rfl,e,hd,hp⟩| ⟨rfl,id,k,i,j,rfl,hp⟩| ⟨rfl,hd⟩| ⟨hd,hr⟩
 ·refine⟨fun hm=>?_,fun hm A2 ρ2 h2 hs=>?_⟩
  ·rw[Q2 hm];exact⟨id,rfl,hp,by rw[e];rfl,.inl ⟨k,rows,rfl,rfl,e⟩⟩
  ·have hsl:nrmL s (.osl k rows)=nrmL s (.sl k rows):=by
    obtain⟨k',cs⟩:=s;cases k' with
    |zero=>grind[nrmL,ue]
    |succ k'=>simp[nrmL]
   rw[hsl];obtain⟨a',cap,rfl,_⟩:=hv.rsl_inv;exact .dat (((Ny r hv rfl he rfl).2 A2 hs.mono fun id' sub hi hl=>hs.ids id' (by
    grind[bX,fE]) (by grind[fE]) sub hl).nrmL s)
 ·refine⟨fun hm=>?_,fun hm=>?_⟩
  ·rw[Q2 hm];refine⟨id,rfl,hp,?_,.inr ⟨cs,rfl,rfl,e⟩⟩;grind[aC,axj,Ln]
  ·rw[gE s (by simp) (by simp) (by simp)]at hm;cases hm
 ·refine⟨fun hm=>?_,fun hm A2 ρ2 h2 hs=>?_⟩
  ·rw[gE s (by simp) (by simp) (by simp)]at hm;cases hm
  ·rw[gE s (by simp) (by simp) (by simp)];obtain⟨rfl,hpr⟩:=hv.ref_inv;obtain⟨h1,h3⟩:=hs.pas id hp hpr;have:=RV.ref (w:=w) (A:=A2) (ρ:=ρ2) (h:=h2) id none k i j h1;grind
 ·refine⟨fun hm=>?_,fun hm A2 ρ2 h2 hs=>?_⟩
  ·have:=C9 (s:=s) hd;cases hq:nrmL s b<;>rw[hq]at hm this<;>simp[ue,aD]at hm this
  ·exact(hv.keepD hd fun b hb=>⟨hs.mono b hb,rfl⟩).nrmL s
 ·refine⟨fun hm=>?_,fun hm=>data he hd hr⟩;have:=C9 (s:=s) hd;cases hq:nrmL s b<;>rw[hq]at hm this<;>simp[ue,aD]at hm this
theorem aij(r:Rel w X ρ h'){a b}{u}(hv:RV w (aJ w X h' ρ) ρ h' a u)(he:rh h' a=some b){c}(hc:c=b\/∃ss,c=nrmV ss b):aft w X ρ h' L a c u:=by
 have hc':∃ss,c=nrmV ss b:=by
  rcases hc with rfl|hc
  ·refine⟨[],?_⟩;cases c<;>simp[nrmV,nrmL,dK]
  omega
 obtain⟨ss,rfl⟩:=hc';by_cases hagg:∃cs,a=.agg cs
 ·obtain⟨cs,rfl⟩:=hagg;simp only[rh,awR]at he;obtain⟨ds,e1,rfl⟩:=he;refine⟨fun hm=>by grind[nrmV,ue],fun _ A2 ρ2 h2 hs=>?_⟩;obtain⟨us,rfl,q1,q2,q3⟩:=hv.agg_inv;obtain⟨l1,l2⟩:=Lg r cs ds e1;refine .agg _ us (by grind[AZ]) q2 fun i c u hc hu=>?_;obtain⟨c0,h1,h3⟩:=C8 ss ds i c hc;have hi:i<cs.length:=by grind
  have hci:cs[i]?=some cs[i]:=by grind
  obtain⟨d1,d2⟩:=l2 i cs[i] c0 u hci h1 (q3 i _ u hci hu) (q2 i u hu);have hrd:=d2 A2 hs.mono fun id sub hii hl=>hs.ids id (by
   simp only[bX,List.mem_flatMap];exact⟨cs[i],by simp,by rw[hii];simp⟩) (Uc e1 i _ id hci hii) sub hl
  rcases h3 with rfl| ⟨s,rfl⟩
  ·exact .dat hrd
  ·exact .dat (hrd.nrmL s)
 ·have hl:rh h' a=lU h' a:=by cases a<;>first|rfl|exact absurd ⟨_,rfl⟩ hagg
  rw[hl]at he;have hb:∀cs,b≠ .agg cs:=by
   rcases Ct r hv he with⟨id,k,rows,h1,_⟩| ⟨id,cs',h1,_⟩| ⟨h1,id,k,i,j,h2,_⟩| ⟨h1,hd⟩| ⟨hd,hr⟩
   all_goals grind[aD]
  grind[acx,afu]
theorem Q3:∀ {zas bs},uQ h' zas=some bs->bs.length=zas.length/\∀ (j:Nat) a b,zas[j]?=some a->bs[j]?=some b->rh h' a=some b
 |[],bs,he=>by grind[uQ,Option.some.injEq]
 |a::zas,bs,he=>by
  simp only[uQ,awN]at he;obtain⟨b,e1,q,e2,e3⟩:=he;cases e3;obtain⟨g1,g2⟩:=Q3 e2;refine⟨by simp[g1],fun j a' b' h1 h2=>?_⟩;cases j with
  |zero=>simp at h1 h2;subst h1 h2;exact e1
  |succ j=>exact g2 j a' b' (by simpa using h1) (by simpa using h2)
def Th(us:Array Value):Value:=if h:us.size=1 then us[0]else .tuple us
theorem acy{l}(hl:∀c∈l,∀vs,c≠ .tup vs)(n)(h):mat n h (wX l)=(wX (cK n h l).1,(cK n h l).2):=by
 match l with
 |[]=>rfl
 |[c]=>
  have:=hl c (by simp);cases c<;>first|rfl|exact absurd rfl (this _)
 |a::b::l=>rfl
end
section
variable {w:World} {X:Nat→Prop} {ρ:dX} {h':ac}
theorem XX{L}{g}{h2}(em:Emb L (fun i=>i) g h' h2){b}(ho:rX h2 (fun i s=>ρ (g i) s) b):rX h' ρ b:=by
 obtain⟨i,s,h1,h3⟩:=ho;exact⟨g i,s,(em.live h1).1,h3⟩
theorem afv{ss}{b}{vs}(h:nrmV ss b=.tup vs):∃vs',b=.tup vs':=by
 cases b with
 |tup vs'=>grind
 |agg cs=>grind[nrmV]
 |_=>
  simp only[nrmV]at h;generalize ss.headD (.o 0 [])=s at h;obtain⟨k,cs⟩:=s;cases k<;>simp[nrmL]at h
theorem aau(r:Rel w X ρ h'){a}{u}{vs}(hv:RV w (aJ w X h' ρ) ρ h' a u)(he:rh h' a=some (.tup vs)):False:=by
 by_cases hagg:∃cs,a=.agg cs
 ·obtain⟨cs,rfl⟩:=hagg
  simp_all[rh]
 ·have hl:rh h' a=lU h' a:=by cases a<;>first|rfl|exact absurd ⟨_,rfl⟩ hagg
  rw[hl]at he;rcases Ct r hv he with⟨id,k,rows,h1,_⟩| ⟨id,cs',h1,_⟩| ⟨h1,id,k,i,j,h2,_⟩| ⟨h1,hd⟩| ⟨hd,hr⟩
  all_goals grind[aD]
theorem acz(r:Rel w X ρ h'){n0 n}(hn0:n0<=1000)(hn:2000<=n)(hpass:∀id,bg id=true->h' id≠ .dead->(cU n0).contains id=true){zas}{us}(hs:us.size=zas.length)
  (hv:∀ (i:Nat) c u,zas[i]?=some c->us[i]?=some u->RV w (aJ w X h' ρ) ρ h' c u) {rs} {res} {obs} (hz:wd rs n0 h' zas=some (res,obs)):
  ∃ρ2,Rel w X ρ2 (mat n (ap obs) res).2/\(∀nm,Far nm w ρ h' w ρ2 (mat n (ap obs) res).2)/\RV w (aJ w X (mat n (ap obs) res).2 ρ2) ρ2 (mat n (ap obs) res).2 (mat n (ap obs) res).1 (Th us):=by
 unfold wd at hz;split at hz
 ·rename_i hc;simp only[awS]at hc;obtain⟨hc1,hc2⟩:=hc;simp only[awR]at hz;obtain⟨bs,e1,e2⟩:=hz;cases e2;obtain⟨l1,l2⟩:=Q3 e1;have hLm:∀i,(cU n0).contains i=true->bg i=true:=fun i hi=>by
   have:=Ae.1 hi;simp only[bg,decide_eq_true_eq];omega
  have hL:∀i,2000<=i->(cU n0).contains i=false:=fun i hi=>by
   grind[cU]
  have hcl:(bo rs bs).length=zas.length:=by rw[yD,l1]
  have out:∀ (j:Nat) (a c:AV) (u:Value),zas[j]?=some a->(bo rs bs)[j]?=some c->us[j]?=some u->aft w X ρ h' (cU n0) a c u:=fun j a c u h1 h3 h4=>by
   grind[xW,aij]
  have uget:∀ (j:Nat) (a:AV),zas[j]?=some a->∃u,us[j]?=some u:=fun j a h1=>by
   have:j<us.size:=by grind
   simp_all
  have em:=Emb.base (h':=h') hc2;have hlow:∀i,ap ((cU n0).map h') i≠ .dead->(cU n0).contains i=true:=fun i hi=>by
   rw[sN]at hi;split at hi
   ·rename_i h1;exact Ae.2 h1
   grind
  obtain⟨gm,m1,m2,m3,m4⟩:=GX hL zas (bo rs bs) n (ap ((cU n0).map h')) (fun i=>i) hn hcl.symm (fun j a c h1 h3 h4=>by
    obtain⟨u,hu⟩:=uget j a h1;exact(out j a c u h1 h3 hu).1 h4) hc1 em (fun i hi=>by
    rw[sN,if_neg (by omega)]) (fun i hi id _ hp e=>by
    grind)
  have notup:∀c∈bo rs bs,∀vs,c≠ .tup vs:=by
   rintro c hcm vs rfl
   obtain⟨j,hj⟩:=List.getElem?_of_mem hcm;have hja:j<zas.length:=by grind
   obtain⟨u,hu⟩:=uget j zas[j] (by grind);obtain⟨b,h5,h6⟩:=xW rs bs j _ hj;have he:=l2 j zas[j] b (by grind) h5;grind[afv,aau]
  rw[acy notup];simp only;have hfar:∀b,aJ w X h' ρ b->aJ w X (cK n (ap ((cU n0).map h')) (bo rs bs)).2 (fun i s=>ρ (gm i) s) b:=fun b hb=>⟨hb.1,hb.2.1,fun ho=>hb.2.2 (XX m1 ho)⟩;have hps:∀id,bg id=true->(cK n (ap ((cU n0).map h')) (bo rs bs)).2 id=ap ((cU n0).map h') id/\gm id=id:=fun id hp=>m2 id (by
   simp only[bg,decide_eq_true_eq]at hp;omega)
  have hpd:∀id,bg id=true->h' id≠ .dead->(cK n (ap ((cU n0).map h')) (bo rs bs)).2 id=h' id:=fun id hp hd=>by
   rw[(hps id hp).1,sN,if_pos (Ae.1 (hpass id hp hd))]
  have rel2:=Rel.emb m1 r r.xl (fun i s hl=>r.nx _ _ (m1.live hl).1) hfar;refine⟨fun i s=>ρ (gm i) s,rel2,fun nm=>⟨rfl,rfl,rfl,awQ _,fun _ _ _=>rfl,fun b ho=>.inl (XX m1 ho),fun id hp hd=>?_,fun _ id p hp hd hpr=>?_⟩,?_⟩
  ·grind[sN]
  ·have h1:h' id≠ .dead:=by obtain⟨_,_,_,e,_⟩:=hpr;grind
   grind[fG]
  ·
   have seen:∀ (j:Nat) (a c:AV),zas[j]?=some a->(bo rs bs)[j]?=some c->ue c=false->
     Seen w X ρ h' a (aJ w X (cK n (ap ((cU n0).map h')) (bo rs bs)).2 (fun i s=>ρ (gm i) s)) (fun i s=>ρ (gm i) s) (cK n (ap ((cU n0).map h')) (bo rs bs)).2:=by
    intro j a c h1 h3 h4;refine⟨hfar,fun id hid hp sub hl=>⟨?_,fun hx=>r.nx _ _ hl (.inl hx),fun⟨i,s,ho1,ho2⟩=>?_⟩,fun id hp hd=>⟨by grind,by grind⟩⟩
    ·cases sub with
     |none=>
      have ho:=r.ob id;cases e:h' id with
      |bx cs=>rw[e]at ho;obtain⟨us,t,g1,_⟩:=ho;grind
      |ar k rows=>rw[e]at ho;obtain⟨us,t,g1,_⟩:=ho;grind
      |_=>simp[live,e]at hl
     |some p=>
      obtain⟨cs,k,rows,e,ec⟩:=hl;have ho:=r.ob id;rw[e]at ho;obtain⟨us,t,g1,g2,g3,g4⟩:=ho;obtain⟨u,_,a',cap,us',t',_,_,_,q4,_⟩:=g4 p _ ec;grind
    ·obtain⟨hl1,hdd⟩:=m1.live ho1;obtain⟨e1,_⟩:=r.inj _ _ _ _ hl1 hl ho2;rcases m3 i hdd with⟨q1,q2⟩| ⟨j',a',c',q1,q2,q3,q4⟩
     ·grind
     ·rw[e1]at q4;have hne:j'≠j:=by
       grind
      exact two_names zas j' j a' a id hne q1 h1 (by grind) hid hp hc1
   have vals:∀ (j:Nat) (z:AV) (u:Value),(cK n (ap ((cU n0).map h')) (bo rs bs)).1[j]?=some z->us[j]?=some u->
     RV w (aJ w X (cK n (ap ((cU n0).map h')) (bo rs bs)).2 (fun i s=>ρ (gm i) s)) (fun i s=>ρ (gm i) s) (cK n (ap ((cU n0).map h')) (bo rs bs)).2 z u:=by
    intro j z u hz hu;obtain⟨c,h1,rfl⟩:=Ub _ _ _ _ _ hz;have hja:j<zas.length:=by grind
    have ha:zas[j]?=some zas[j]:=by grind
    have o:=out j zas[j] c u ha h1 hu;cases hm:ue c with
    |false=>
     rw[Q1 hm];exact o.2 hm _ _ _ (seen j zas[j] c ha h1 hm)
    |true=>
     obtain⟨id,i1,i2,i3,⟨k,rows,rfl,i4,i5⟩| ⟨xs,rfl,i4,i5⟩⟩:=o.1 hm
     ·obtain⟨q1,q2,q3⟩:=m4 j zas[j] _ id ha h1 hm i1;have hva:=hv j zas[j] u ha hu;rw[i4]at hva;obtain⟨a',cap,rfl,hp,hnn,hb,hab⟩:=hva.rsl_inv;simp only[dG];exact .rsl (n+j) none k 0 rows.length cap a' (by show _≠_;grind) hnn (by grind) (by simp only[q1];exact hab)
     ·obtain⟨q1,q2,q3⟩:=m4 j zas[j] _ id ha h1 hm i1;have hva:=hv j zas[j] u ha hu;rw[i4]at hva;obtain⟨rfl,hp⟩:=hva.ref_inv;simp only[dG];have:=RV.ref (w:=w) (A:=aJ w X (cK n (ap ((cU n0).map h')) (bo rs bs)).2 (fun i s=>ρ (gm i) s)) (ρ:=fun i s=>ρ (gm i) s) (h:=(cK n (ap ((cU n0).map h')) (bo rs bs)).2) (n+j) none 0 0 0 (by show _≠_;rw[q2];exact q3);simp only[q1]at this;exact this
   have hzl:(cK n (ap ((cU n0).map h')) (bo rs bs)).1.length=us.size:=by rw[Lm,hcl,hs]
   unfold Th;split
   ·rename_i h1
    match hq:(cK n (ap ((cU n0).map h')) (bo rs bs)).1 with
    |[]=>rw[hq]at hzl;simp at hzl;omega
    |[z]=>exact vals 0 z us[0] (by rw[hq];rfl) (by simp[h1])
    |a::b::l=>rw[hq]at hzl;simp at hzl;omega
   ·rename_i h1
    match hq:(cK n (ap ((cU n0).map h')) (bo rs bs)).1 with
    |[]=>exact .tup [] us (by rw[hq]at hzl;simpa using hzl.symm) fun i c u hc=>by simp at hc
    |[z]=>rw[hq]at hzl;simp at hzl;omega
    |a::b::l=>
     rw[hq]at hzl;exact .tup _ us hzl.symm fun i c u hc hu=>vals i c u (by rw[hq];exact hc) hu
 grind
where
 two_names:∀ (zas:List AV) (i j:Nat) (a b:AV) (id:Nat),i≠j->zas[i]?=some a->zas[j]?=some b->id∈bX a->id∈bX b->bg id=false->kD ((zas.flatMap bX).filter fun i=>!bg i)=true->False
 |[],i,j,a,b,id,_,h1,_,_,_,_,_=>by simp at h1
 |c::zas,i,j,a,b,id,hne,h1,h2,h3,h4,hp,hnd=>by
  simp only[List.flatMap_cons,List.filter_append]at hnd;obtain⟨nd2,nd3⟩:=NC hnd;have mem:∀ (j:Nat) (b:AV),zas[j]?=some b->id∈bX b->id∈ (zas.flatMap bX).filter fun i=>!bg i:=fun j b hb hi=>
   List.mem_filter.2 ⟨List.mem_flatMap.2 ⟨b,List.mem_of_getElem? hb,hi⟩,by grind⟩
  cases i with
  |zero=>
   simp at h1;subst h1;cases j with
   |zero=>exact hne rfl
   |succ j=>exact nd3 id (List.mem_filter.2 ⟨h3,by simp[hp]⟩) (mem j b (by simpa using h2) h4)
  |succ i=>
   cases j with
   |zero=>
    simp at h2;subst h2;exact nd3 id (List.mem_filter.2 ⟨h4,by simp[hp]⟩) (mem i a (by simpa using h1) h3)
   |succ j=>exact two_names zas i j a b id (by omega) (by grind) (by simpa using h2) h3 h4 hp nd2
end
structure Text (P:Program) (f:FuncId) (fd:FD):Prop where
 text: ∃fn code N,P.funcs[f]?=some fn/\fn.body=some code/\fn.ntmps=N/\N<=1000/\iQ P N code fd.body=some fd.body/\GL P fn.results.toList=some fd.res/\ (fn.name== "runtime.NumGoroutine")=false
theorem Ud(fn:Func)(tmps):fn.results.mapM (Bo tmps)=(fun l=>l.toArray)<$>fn.results.toList.mapM (Bo tmps):=by
 rw[Array.mapM_eq_mapM_toList]
theorem W0{P}{fn}{tmps}{w}{us}(h:(fn.results.toList.mapM (Bo tmps)).run P w=.ok us w):(results fn tmps).run P w=.ok (Th us.toArray) w:=by
 have h1:(fn.results.mapM (Bo tmps)).run P w=.ok us.toArray w:=by
  simp_all[Ud,Sem.run_map]
 have h2:results fn tmps=(fn.results.mapM (Bo tmps)>>=fun vs=>pure (Th vs)):=by
  congr 1
 simp_all
section
variable {P:Program} {I:Inv} {call:iG} {md:Mode}
theorem aik(hm:P.follows .mixedOrders=true)(hcall:l9 P I call md){f}{fd}{lf}(ht:Text P f fd):pF P I md.nm f (Ff call md lf fd):=by
 obtain⟨fn,code,N,t1,t2,t3,t4,t5,t6,t7⟩:=ht.text;intro args obs obs' res w X ρ vals n hz hn hi r hsz hv;unfold Ff at hz;split at hz
 ·rename_i hc;obtain⟨c1,c2⟩:=hc;have he:(callFunc f vals).run P w=.ok (.enter f vals) w:=by
   simp_all[callFunc,Sem.run_bind,Result.andThen]
  unfold Enters;rw[he];refine calls_of_wp t1 t2 ?_;have hget:∀i,(vals++Array.replicate (fn.ntmps-vals.size) undef).getD i undef=vals.getD i undef:=fun i=>by
   simp only[Array.getD_eq_getD_getElem?,Array.getElem?_append];grind
  have ok:Ok I N w X ρ (ap obs) (tW args) {tmps:=vals++Array.replicate (fn.ntmps-vals.size) undef,defers:=[]}:=by
   refine⟨r,fun i=>?_,by grind,rfl,hi⟩;simp only[hget,tW];by_cases h:i<args.length
   ·rw[Array.getD_eq_getD_getElem?];grind
   ·rw[List.getElem?_eq_none (by omega)];exact .anyv _
  have fin:∀ {t:St} {a} {w'} {ρ'},Ok I N w' X ρ' t.h t.s a->Far md.nm w ρ (ap obs) w' ρ' t.h->C0 md.nm fd.rs fd.res obs.length t.s t.h=some (res,obs')->
    a.defers=[]/\∃v,(results fn a.tmps).run P w'=.ok v w'/\∃ρ'',Rel w' X ρ'' (mat n (ap obs') res).2/\Far md.nm w ρ (ap obs) w' ρ'' (mat n (ap obs') res).2/\
     RV w' (aJ w' X (mat n (ap obs') res).2 ρ'') ρ'' (mat n (ap obs') res).2 (mat n (ap obs') res).1 v:=by
   intro t a w' ρ' ok' far hf;refine⟨ok'.defers,?_⟩;simp only[C0,awN]at hf;obtain⟨⟨vs,h',ks⟩,e1,e2⟩:=hf;split at e2
   ·rename_i hnm;obtain⟨us,g1,g2,g3,g4,g5⟩:=Lf (a:=a) fn.results.toList fd.res t6 ok'.rel ok'.rs e1;refine⟨_,W0 g1,?_⟩;have far2:=far.trans (g4.far hnm);obtain⟨ρ2,q1,q2,q3⟩:=acz (us:=us.toArray) g3 c2 hn (fun id hp hd=>by
     have:=(far2.stay id hp hd).1;unfold ap at this;refine Ae.2 ?_;grind) (by omega) (fun i c u hc hu=>g5 i c u hc (by grind)) e2
    exact⟨ρ2,q1,far2.trans (q2 md.nm),q3⟩
   grind
  cases hx:cS call md lf fd.body (tW args) (ap obs)with
  |none=>rw[hx]at hz;cases hz
  |some q=>
   obtain⟨e,t⟩:=q;rw[hx]at hz;refine aao (N:=N) hcall t4 (aat hm hcall t4) lf fd.body code t5 hx ok fun a' w' ρ' ok' far=>?_;cases e with
   |normal=>
    obtain⟨d1,v,d2,d3⟩:=fin ok' far hz;exact⟨d1,v,d2,d3⟩
   |ret=>
    obtain⟨d1,v,d2,d3⟩:=fin ok' far hz;exact⟨d1,v,d2,d3⟩
   |exit id=>cases hz
 grind
end
section
variable {w:World} {X:Nat→Prop} {ρ:dX} {h h':ac}
theorem Q4{a c}{ks}(hz:fK h a=some (c,h',ks)):∀p∈ks,p.2=true:=by
 unfold fK at hz;split at hz
 ·unfold mJ at hz;grind
 ·unfold Is afc at hz;grind
 grind
theorem ND:∀ {l cs} {h h'} {ks},iO h l=some (cs,h',ks)->∀p∈ks,p.2=true
 |[],cs,h,h',ks,hz=>by grind[iO,Option.some.injEq,Prod.mk.injEq]
 |a::l,cs,h,h',ks,hz=>by
  simp only[iO,awN]at hz;obtain⟨⟨c,h1,k1⟩,e1,⟨q,h2,k2⟩,e2,e3⟩:=hz;cases e3;intro p hp;rcases List.mem_append.1 hp with hp|hp
  ·exact Q4 e1 p hp
  ·exact ND e2 p hp
theorem afw{a c}{ks}(hz:vV h a=some (c,h',ks)):∀p∈ks,p.2=true:=by
 unfold vV at hz;split at hz
 ·simp only[awN]at hz;obtain⟨⟨q,h1,k1⟩,e1,e2⟩:=hz;cases e2;exact ND e1
 ·exact Q4 hz
theorem acA{ks:K}(hk:∀p∈ks,p.2=true)(id):iV ks id none=false:=by
 grind[iV,List.any_eq_false]
theorem RV.clo{w'}{A A'}{ρ'}{l}{c}{u}(hv:RV w A ρ h c u)(hA:∀b,A b->A' b/\w'.heap[b]?=w.heap[b]?)(hk:∀id,cu h id none->cu h' id none/\ρ' id none=ρ id none)(hm:be l c=true):RV w' A' ρ' h' c u:=by
 have leaf:∀ {c} {u},RV w A ρ h c u->bk l c=true->RV w' A' ρ' h' c u:=by
  intro c u hv hm;cases hv with
  |anyv u=>exact .anyv u
  |und=>exact .und
  |dat hd=>exact .dat (hd.mono hA)
  |ref id sub k i j hp=>
   cases sub with
   |some p=>simp[bk]at hm
   |none=>
    obtain⟨h1,h2⟩:=hk id hp;rw[←h2];exact .ref id none k i j h1
  |rsl id sub k lo n cap a hp hn hb ha=>
   cases sub with
   |some p=>simp[bk]at hm
   |none=>
    obtain⟨h1,h2⟩:=hk id hp;exact .rsl id none k lo n cap a h1 hn (by grind) (by grind)
  |rsc id k lo n cap a hp hn hb ha=>simp[bk]at hm
  |ipt cs ad vals hA' hs hv hl hr=>
   exact .ipt cs ad vals (hA _ hA').1 hs (fun j c hc=>by rw[oE (w:=w) (w':=w') (by rw[oB];grind)];grind) hl (fun j c hc=>(hr j c hc).mono hA)
  |agg cs us hs h1 hr=>simp[bk]at hm
  |tup vs us hs hr=>simp[bk]at hm
  |fn f x y us ts hs ht hx hy=>
   simp[bk]at hm;obtain⟨rfl,rfl⟩:=hm;exact .fn f [] [] us ts hs ht (fun i c u hc=>by grind) (fun i c u hc=>by grind)
 cases c with
 |agg cs=>
  simp only[be,axj]at hm;obtain⟨us,rfl,hs,h1,hr⟩:=hv.agg_inv;exact .agg cs us hs h1 fun i c u hc hu=>leaf (hr i c u hc hu) (hm c (List.mem_of_getElem? hc))
 |fn f x y=>
  simp only[be,awS,axj]at hm;obtain⟨us,ts,rfl,hs,ht,hx,hy⟩:=hv.fn_inv;exact .fn f x y us ts hs ht (fun i c u hc hu=>leaf (hx i c u hc hu) (hm.1 c (List.mem_of_getElem? hc))) (fun i c u hc hu=>leaf (hy i c u hc hu) (hm.2 c (List.mem_of_getElem? hc)))
 |_=>exact leaf hv hm
structure Way (w:World) (X:Nat->Prop) (ρ:dX) (h0 h:ac):Prop where
 evo:∃ks:K,Evo w ρ h0 w ρ h ks/\∀p∈ks,p.2=true
theorem Way.refl:Way w X ρ h h:=⟨[],.refl _ _ _,by simp⟩
theorem Way.trans{h1 h2}(a:Way w X ρ h h1)(b:Way w X ρ h1 h2):Way w X ρ h h2:=by
 obtain⟨k1,e1,f1⟩:=a.evo;obtain⟨k2,e2,f2⟩:=b.evo;exact⟨k1++k2,e1.trans e2,fun p hp=>by grind⟩
theorem Way.al{h0}(a:Way w X ρ h0 h):∀b,aJ w X h0 ρ b->aJ w X h ρ b:=by
 obtain⟨k1,e1,_⟩:=a.evo;exact fun b hb=>(e1.al hb).1
theorem W7{h0}{m}{a z}{u}{ks}(r:Rel w X ρ h)(wy:Way w X ρ h0 h)(hv:RV w (aJ w X h0 ρ) ρ h0 a u)(hz:dw h m a=some (z,h',ks)):
  Rel w X ρ h'/\Evo w ρ h w ρ h' ks/\(∀p∈ks,p.2=true)/\∃h1,Way w X ρ h1 h'/\RV w (aJ w X h1 ρ) ρ h1 z u:=by
 have same:some (a,h,[])=some (z,h',ks)->Rel w X ρ h'/\Evo w ρ h w ρ h' ks/\(∀p∈ks,p.2=true)/\∃h1,Way w X ρ h1 h'/\RV w (aJ w X h1 ρ) ρ h1 z u:=by
  intro e;cases e;exact⟨r,.refl _ _ _,by simp,h0,wy,hv⟩
 have data:vV h a=some (z,h',ks)->((∀cs,a≠ .agg cs)->u.oneCell'=true)->Rel w X ρ h'/\Evo w ρ h w ρ h' ks/\(∀p∈ks,p.2=true)/\∃h1,Way w X ρ h1 h'/\RV w (aJ w X h1 ρ) ρ h1 z u:=by
  intro hz h1;obtain⟨g1,g2,g3,g4⟩:=acg r hv wy.al hz h1;exact⟨g1,g2,afw hz,h',.refl,.dat g3⟩
 cases a with
 |any=>
  grind[dw,vV,fK,aD]
 |rsl id sub k lo n=>
  obtain⟨ad,cap,rfl,_⟩:=hv.rsl_inv;cases sub with
  |none=>
   simp only[dw]at hz;split at hz
   ·exact data hz fun _=>rfl
   grind
  |some p=>exact data hz fun _=>rfl
 |ref id sub k i j=>
  cases sub with
  |none=>exact same hz
  |some p=>grind[dw,vV,fK,aD]
 |ipt cs=>exact same hz
 |fn f x y=>exact same hz
 |agg cs=>exact data hz fun hh=>absurd rfl (hh cs)
 |v x=>exact data hz fun _=>by obtain⟨rfl,hp⟩:=hv.v_inv;exact GM hp
 |emp=>
  refine data hz fun _=>?_;cases hv with
  |dat hd=>exact hd.one rfl
 |sl k rows=>
  refine data hz fun _=>?_;cases hv with
  |dat hd=>exact hd.one rfl
 |_=>simp[dw,vV,fK,aD]at hz
theorem IQ{h0}:∀l ms (vals:List Value) {h h'} {zs} {ks},Rel w X ρ h->Way w X ρ h0 h->vals.length=l.length->
  (∀ (i:Nat) c u,l[i]?=some c->vals[i]?=some u->RV w (aJ w X h0 ρ) ρ h0 c u)->bQ h ms l=some (zs,h',ks)->
  Rel w X ρ h'/\Evo w ρ h w ρ h' ks/\(∀p∈ks,p.2=true)/\zs.length=l.length/\∀ (i:Nat) z u,zs[i]?=some z->vals[i]?=some u->∃h1,Way w X ρ h1 h'/\RV w (aJ w X h1 ρ) ρ h1 z u
 |[],ms,vals,h,h',zs,ks,r,wy,hl,hv,hz=>by
  obtain⟨rfl,rfl,rfl⟩:=hz;exact⟨r,.refl _ _ _,by simp,rfl,fun i z u h1=>by grind⟩
 |a::l,ms,vals,h,h',zs,ks,r,wy,hl,hv,hz=>by
  simp only[bQ,awN]at hz;obtain⟨⟨z,h1,k1⟩,e1,⟨q,h2,k2⟩,e2,e3⟩:=hz;cases e3;cases vals with
  |nil=>grind
  |cons u vals=>
   obtain⟨g1,g2,g3,h3,g4,g5⟩:=W7 r wy (hv 0 a u rfl rfl) e1;obtain⟨f1,f2,f3,f4,f5⟩:=IQ l ms.tail vals g1 (wy.trans ⟨k1,g2,g3⟩) (by grind) (fun i c u' h4 h5=>hv (i+1) c u' (by grind) (by grind)) e2;refine⟨f1,g2.trans f2,fun p hp=>?_,by grind,fun i z' u' h4 h5=>?_⟩
   ·grind
   ·cases i with
    |zero=>
     simp at h4 h5;subst h4 h5;exact⟨h3,g4.trans ⟨k2,f2,f3⟩,g5⟩
    |succ i=>grind
theorem acB{L}{h1}{z}{u}(wy:Way w X ρ h1 h)(hv:RV w (aJ w X h1 ρ) ρ h1 z u)(hc:be L z=true):RV w (aJ w X h ρ) ρ h z u:=by
 obtain⟨ks,e,f⟩:=wy.evo;exact hv.clo (fun b hb=>e.al hb) (fun id hp=>e.keep id none hp (acA f id)) hc
theorem IR(r:Rel w X ρ h){b}(ho:rX h ρ b):b<w.heap.size:=by
 obtain⟨id,sub,hl,rfl⟩:=ho;cases sub with
 |none=>
  have ho:=r.ob id;cases e:h id with
  |bx cs=>rw[e]at ho;obtain⟨us,t,g1,_⟩:=ho;grind
  |ar k rows=>rw[e]at ho;obtain⟨us,t,g1,_⟩:=ho;grind
  |_=>simp[live,e]at hl
 |some p=>
  obtain⟨cs,k,rows,e,ec⟩:=hl;have ho:=r.ob id;rw[e]at ho;obtain⟨us,t,g1,g2,g3,g4⟩:=ho;obtain⟨u,_,a',cap,us',t',_,_,_,q4,_⟩:=g4 p _ ec;grind
section
variable {ids:List Nat}
theorem Da{a}(ha:a∈ids):1000<=bj ids a/\bj ids a<1000+ids.length:=by
 grind[bj,List.idxOf_lt_length_of_mem]
theorem Bq(hl:ids.length<=1000){a}(ha:a∈ids):dA ids (bj ids a)=a:=by
 have:=Da ha;unfold dA;rw[if_pos (by omega)]
 simp_all[bj,List.idxOf_lt_length_of_mem]
theorem Db(hl:ids.length<=1000)(hnd:ids.Nodup){i}(h1:1000<=i)(h2:i<1000+ids.length):dA ids i∈ids/\bj ids (dA ids i)=i:=by
 have hj:i-1000<ids.length:=by omega
 have e:dA ids i=ids[i-1000]:=by
  unfold dA;grind
 grind[bj]
theorem NE{os}{j}{o}(h:os[j]?=some o):ap os (1000+j)=o:=by
 simp_all[ap,if_pos]
theorem yE{os}{i}(h:i<1000\/1000+os.length<=i):ap os i=.dead:=by
 grind[ap]
theorem Emb.enter(hl:ids.length<=1000)(hnd:ids.Nodup)(hcl:∀a∈ids,aC ids (h a)=true):Emb ids (bj ids) (dA ids) h (ap (ids.map fun a=>dL (bj ids) (h a))):=by
 have at_:∀a∈ids,ap (ids.map fun a=>dL (bj ids) (h a)) (bj ids a)=dL (bj ids) (h a):=fun a ha=>by
  refine NE ?_;grind
 have low:∀i,ap (ids.map fun a=>dL (bj ids) (h a)) i≠ .dead->1000<=i/\i<1000+ids.length:=fun i hi=>by
  by_cases h1:1000<=i/\i<1000+ids.length
  ·omega
  ·exact absurd (yE (by grind)) hi
 refine⟨fun a ha=>?_,fun i hi=>?_,fun i j hi hj e=>?_⟩
 ·have ha':a∈ids:=by grind
  exact⟨Bq hl ha',at_ a ha'⟩
 ·obtain⟨h1,h2⟩:=low i hi;obtain⟨h3,h4⟩:=Db hl hnd h1 h2;grind
 ·obtain⟨h1,h2⟩:=low i hi;obtain⟨h3,h4⟩:=low j hj;rw[← (Db hl hnd h1 h2).2,← (Db hl hnd h3 h4).2,e]
end
end
theorem Q5{gv}{id}:∀ {h},(∀p∈gv,p.1≠id)->fR h gv id=h id:=by
 induction gv with
 |nil=>intro h _;rfl
 |cons p l ih=>
  simp_all[fR,aM,Ne.symm]
theorem Ue{gv}{id}:∀ {h},((∃p∈gv,p.1=id)\/h id=.dead)->fR h gv id=.dead:=by
 induction gv with
 |nil=>
  intro h hi;rcases hi with⟨p,hp,_⟩|hi
  ·grind
  ·exact hi
 |cons p l ih=>
  simp only[fR];grind[aA,absurd,upd]
theorem Uf{ids}:∀ {l} {os} {g} {j a:Nat} {o},l.Nodup->l[j]?=some a->os[j]?=some o->eu g ids l os a=dL (dA ids) o
 |[],os,g,j,a,o,_,h1,_=>by grind
 |b::l,[],g,j,a,o,_,_,h2=>by grind
 |b::l,o'::os,g,j,a,o,hnd,h1,h2=>by
  obtain⟨n1,n2⟩:=List.nodup_cons.1 hnd;simp only[eu];cases j with
  |zero=>
   simp at h1 h2;subst h1 h2;rw[xU n1,aA]
  |succ j=>exact Uf n2 (by simpa using h1) (by simpa using h2)
theorem NF{h}:∀ {m n},cw h n m=true->∀i,n<=i->i<n+m->h i=.dead
 |0,n,_,i,h1,h2=>by omega
 |m+1,n,hf,i,h1,h2=>by
  simp only[cw,awS]at hf;by_cases e:i=n
  ·grind[bS]
  ·exact NF hf.2 i (by omega) (by omega)
theorem Dc{h}{gv}:∀ {l} {os},cY h gv l os=true->∀ (j a:Nat) o,l[j]?=some a->os[j]?=some o->(bf (h a)=true->bf o=true)/\((∀p∈gv,p.1≠a)->o≠ .dead)
 |[],os,_,j,a,o,h1,_=>by grind
 |b::l,[],_,j,a,o,_,h2=>by grind
 |b::l,o'::os,hs,j,a,o,h1,h2=>by
  simp only[cY,awS,Bool.or_eq_true,ax3]at hs;obtain⟨⟨s1,s2⟩,s3⟩:=hs;cases j with
  |zero=>
   refine⟨fun hb=>?_,fun hn e=>?_⟩
   ·grind
   ·grind[bS]
  |succ j=>exact Dc s3 j a o (by simpa using h1) (by simpa using h2)
theorem Dd{l l'}{c}(hl:∀i,l.contains i=true->l'.contains i=true)(hc:bk l c=true):bk l' c=true:=by
 cases c<;>simp only[bk]at hc⊢ <;>first|exact hc|skip
 all_goals grind
theorem IS{l l'}{c}(hl:∀i,l.contains i=true->l'.contains i=true)(hc:be l c=true):be l' c=true:=by
 cases c with
 |agg cs=>
  grind[be,axj,Dd]
 |fn f x y=>
  simp only[be,awS,axj]at hc⊢;grind[Dd]
 |_=>
  simp only[be]at hc⊢;exact Dd hl hc
theorem Ug{l l'}{o}(hl:∀i,l.contains i=true->l'.contains i=true)(hc:aC l o=true):aC l' o=true:=by
 cases o<;>simp only[aC]at hc⊢;simp only[axj,jq,Bool.or_eq_true]at hc⊢;grind[IS]
theorem Uh{f}{c}(hd:lS c=true):dQ f c=c:=by
 cases c<;>simp[lS,bq,aD]at hd<;>first|rfl|skip
 obtain⟨rfl,rfl⟩:=hd;rfl
theorem Ui{l}{n}{g}{c}(hr:aEt l c=true){i}(h:(dG n g c).2 i≠g i):(∃k rows,(dG n g c).2 i=.ar k rows)\/∃cs,(dG n g c).2 i=.bx cs/\cs.all lS=true:=by
 cases c<;>simp only[dG]at h⊢ <;>first|exact absurd rfl h|skip
 case osl k rows=>
  simp_all[upd,if_neg,absurd]
 case obx cs=>
  unfold upd at h⊢;split
  ·exact .inr ⟨_,rfl,hr⟩
  grind
theorem Uj{l}{i}:∀ {vs} {n} {g},vs.all (aEt l)=true->(cK n g vs).2 i≠g i->(∃k rows,(cK n g vs).2 i=.ar k rows)\/∃cs,(cK n g vs).2 i=.bx cs/\cs.all lS=true
 |[],n,g,_,h=>absurd rfl h
 |c::vs,n,g,hr,h=>by
  simp only[axu,awS]at hr;simp only[cK]at h⊢;by_cases e:(cK (n+1) (dG n g c).2 vs).2 i=(dG n g c).2 i
  ·rw[e]at h⊢;exact Ui hr.1 h
  ·exact Uj hr.2 e
theorem ail{l}{n}{g}{c}(hr:iW l c=true){i}(h:(mat n g c).2 i≠g i):(∃k rows,(mat n g c).2 i=.ar k rows)\/∃cs,(mat n g c).2 i=.bx cs/\cs.all lS=true:=by
 cases c<;>simp only[mat]at h⊢ <;>simp only[iW]at hr<;>first|exact Uj hr h|exact Ui hr h
theorem Lp{l l'}{n}{g}{c}(hr:aEt l c=true)(hl:∀i,l.contains i=true->l'.contains i=true)(hn:l'.contains n=true):be l' (dG n g c).1=true:=by
 cases c<;>simp only[dG]<;>simp only[aEt]at hr<;>first|exact IS hl hr| (simp only[be,bk,hn];rfl)
theorem Lq{l l'}(hl:∀i,l.contains i=true->l'.contains i=true):∀ {vs} {n} {g},vs.all (aEt l)=true->(∀i,n<=i->i<n+vs.length->l'.contains i=true)->∀z∈ (cK n g vs).1,be l' z=true
 |[],n,g,_,_,z,hz=>by grind[cK]
 |c::vs,n,g,hr,hn,z,hz=>by
  simp only[axu,awS]at hr;simp only[cK,List.mem_cons]at hz;rcases hz with rfl|hz
  ·exact Lp hr.1 hl (hn n (awQ _) (by simp))
  ·exact Lq hl hr.2 (fun i h1 h2=>hn i (by omega) (by simp at h2⊢;omega)) z hz
def aav(l:List Nat):AV->Prop
 | .tup vs=>∀c∈vs,be l c=true
 |c=>be l c=true
theorem aaw{l l'}{n}{g}{c}(hr:aEt l c=true)(hl:∀i,l.contains i=true->l'.contains i=true)(hn:l'.contains n=true):aav l' (dG n g c).1:=by
 have:=Lp (n:=n) (g:=g) hr hl hn;cases hq:(dG n g c).1<;>rw[hq]at this<;>first|exact this|simp[be,bk]at this
theorem acC{l l'}{n}{g}{c}(hr:iW l c=true)(hl:∀i,l.contains i=true->l'.contains i=true)(hn:∀i,n<=i->i<n+cz c->l'.contains i=true):aav l' (mat n g c).1:=by
 cases c with
 |tup vs=>
  exact Lq hl hr hn
 |_=>exact aaw hr hl (hn n (awQ _) (by simp[cz]))
section
variable {w:World} {X:Nat→Prop} {ρ:dX} {hc:ac} {ids:List Nat}
def Lr(X:Nat->Prop)(hc:ac)(ρ:dX)(ids:List Nat)(b:Nat):Prop:=
 X b\/(rX hc ρ b/\¬rX (ap (ids.map fun a=>dL (bj ids) (hc a))) (fun i s=>ρ (dA ids i) s) b)
theorem acD(r:Rel w X ρ hc)(hl:ids.length<=1000)(hnd:ids.Nodup)(hcl:∀a∈ids,aC ids (hc a)=true):
  Rel w (Lr X hc ρ ids) (fun i s=>ρ (dA ids i) s) (ap (ids.map fun a=>dL (bj ids) (hc a)))/\
  (∀b,aJ w X hc ρ b->aJ w (Lr X hc ρ ids) (ap (ids.map fun a=>dL (bj ids) (hc a))) (fun i s=>ρ (dA ids i) s) b):=by
 have em:=Emb.enter (h:=hc) hl hnd hcl;have hA:∀b,aJ w X hc ρ b->aJ w (Lr X hc ρ ids) (ap (ids.map fun a=>dL (bj ids) (hc a))) (fun i s=>ρ (dA ids i) s) b:=fun b hb=>
  ⟨hb.1,fun hx=>by rcases hx with hx| ⟨hx,_⟩;exact hb.2.1 hx;exact hb.2.2 hx,fun⟨i,s,h1,h2⟩=>hb.2.2 ⟨_,s,(em.live h1).1,h2⟩⟩
 exact⟨Rel.emb em r (fun b hb=>by rcases hb with(hb| ⟨hb,_⟩)|hb;exact r.xl b (.inl hb);exact IR r hb;exact r.xl b (.inr hb)) (fun i s hl hx=>by
  rcases hx with(hx| ⟨_,hx⟩)|hx
  ·exact r.nx _ _ (em.live hl).1 (.inl hx)
  ·exact hx ⟨i,s,hl,rfl⟩
  ·exact r.nx _ _ (em.live hl).1 (.inr hx)) hA,hA⟩
theorem IT(hl:ids.length<=1000)(hnd:ids.Nodup)(hcl:∀a∈ids,aC ids (hc a)=true){b}(ho:rX (ap (ids.map fun a=>dL (bj ids) (hc a))) (fun i s=>ρ (dA ids i) s) b):
  ∃id sub,id∈ids/\live hc id sub/\(ρ id sub).1=b:=by
 obtain⟨i,s,h1,h2⟩:=ho;obtain⟨h3,h4⟩:=(Emb.enter (h:=hc) hl hnd hcl).live h1;grind[absurd,yE,Db]
theorem aax{w'}{ρ'}{kp}{d}{gv ks0 ks}{res}{os}{z}{h'}{v}(r:Rel w X ρ hc)(hnd:ids.Nodup)(hcl:∀a∈ids,aC ids (hc a)=true)(hdead:∀a∈ids,hc a≠ .dead)(gvflag:∀p∈gv,p.2=false)
  (hz:eJ kp hc d ids ks0 gv (res,os)=some (z,h',ks)) (r':Rel w' (Lr X hc ρ ids) ρ' (mat (2000+8*d) (ap os) res).2)
  (far:Far kp w (fun i s=>ρ (dA ids i) s) (ap (ids.map fun a=>dL (bj ids) (hc a))) w' ρ' (mat (2000+8*d) (ap os) res).2)
  (hv:RV w' (aJ w' (Lr X hc ρ ids) (mat (2000+8*d) (ap os) res).2 ρ') ρ' (mat (2000+8*d) (ap os) res).2 (mat (2000+8*d) (ap os) res).1 v):
  ∃ρ3 k1,ks=ks0++k1/\Rel w' X ρ3 h'/\Evo w ρ hc w' ρ3 h' k1/\RV w' (aJ w' X h' ρ3) ρ3 h' z v:=by
 unfold eJ at hz;split at hz
 ·rename_i hcond;obtain⟨c1,hl,c2,c3,c4,c5⟩:=hcond;simp only at c1 c2 c4;simp only[Option.some.injEq,Prod.mk.injEq]at hz;obtain⟨rfl,rfl,rfl⟩:=hz;simp only[oj,awS]at c5;obtain⟨c5,c6,c7⟩:=c5;generalize hn:2000+8*d=n at*
  have n2:=by omega
  have em:=Emb.enter (h:=hc) hl hnd hcl;have gdead:=NF c3;have gids:=fun i h1 h2 hi=>hdead i hi (gdead i h1 h2);have oget:∀a∈ids,os[ids.idxOf a]?=some (ap os (bj ids a)):=fun a ha=>by
   simp_all[List.idxOf_lt_length_of_mem,bj,congrArg,NE]
  have hm_ids:∀a∈ids,(mat n (ap os) res).2 (bj ids a)=ap os (bj ids a):=fun a ha=>Af (by grind[Da]);have hm_out:∀i,¬ (1000<=i/\i<1000+ids.length)->¬ (n<=i/\i<n+cz res)->(mat n (ap os) res).2 i=.dead:=fun i h1 h2=>by
   grind[Af,yE]
  have w_ids:∀a∈ids,eu hc ids ids os a=dL (dA ids) (ap os (bj ids a)):=fun a ha=>Uf hnd (by
   grind) (oget a ha)
  have h_grp:∀i,n<=i->i<n+cz res->(mat n (fR (eu hc ids ids os) gv) res).2 i=(mat n (ap os) res).2 i:=fun i h1 h2=>acv (by
   grind[Ue,xU,yE])
  have h_ids:∀a∈ids,(∀p∈gv,p.1≠a)->(mat n (fR (eu hc ids ids os) gv) res).2 a=dL (dA ids) ((mat n (ap os) res).2 (bj ids a)):=fun a ha hg=>by
   rw[Af (fun hh=>gids a hh.1 hh.2 ha),Q5 hg,w_ids a ha,hm_ids a ha]
  have h_gv:∀a,¬ (n<=a/\a<n+cz res)->(∃p∈gv,p.1=a)->(mat n (fR (eu hc ids ids os) gv) res).2 a=.dead:=fun a h1 hg=>by
   rw[Af (by omega),Ue (.inl hg)]
  have h_out:∀a,a∉ids->¬ (n<=a/\a<n+cz res)->(∀p∈gv,p.1≠a)->(mat n (fR (eu hc ids ids os) gv) res).2 a=hc a:=fun a h1 h2 hg=>by
   rw[Af (by omega),Q5 hg,xU h1]
  generalize hh':(mat n (fR (eu hc ids ids os) gv) res).2=h' at*
  have hzr':(mat n (ap os) res).1=(mat n (fR (eu hc ids ids os) gv) res).1:=XV _ _ _ _;generalize(mat n (fR (eu hc ids ids os) gv) res).1=zr at*
  have grp_obj:∀i,n<=i->i<n+cz res->(mat n (ap os) res).2 i≠ .dead->(∃k rows,(mat n (ap os) res).2 i=.ar k rows)\/∃cs,(mat n (ap os) res).2 i=.bx cs/\cs.all lS=true:=fun i h1 h2 hd=>
   ail c6 (by grind[yE])
  rw[hzr']at hv;have zcl:∀ {l':List Nat},(∀i,(Eo ids gv).contains i=true->l'.contains i=true)->(∀i,n<=i->i<n+cz res->l'.contains i=true)->aav l' zr:=fun{l'} hl1 hl2=>hzr'▸acC c6 hl1 hl2;generalize hhm:(mat n (ap os) res).2=hm at*
  have ok_spec:∀i,(Eo ids gv).contains i=true->1000<=i/\i<1000+ids.length/\∀p∈gv,p.1≠dA ids i:=fun i hi=>by
   unfold Eo at hi;split at hi
   all_goals simp_all[List.contains_eq_mem,List.mem_filter,decide_eq_true_eq,ax3,List.any_eq_false,beq_iff_eq,cU]
  let L3:=Eo ids gv++List.range' n (cz res)
  have l3a:∀i,(Eo ids gv).contains i=true->L3.contains i=true:=fun i hi=>by
   grind
  have l3b:∀i,n<=i->i<n+cz res->L3.contains i=true:=fun i h1 h2=>by
   grind
  let Cal:=fun i=>(i∈ids/\∀p∈gv,p.1≠i)\/(n<=i/\i<n+cz res)
  let nm:Nat->Nat:=fun i=>if i∈ids then bj ids i else i
  let h3:ac:=fun i=>open Classical in if Cal i then h' i else .dead
  have h3c:∀i,Cal i->h3 i=h' i:=fun i hi=>by grind
  have h3n:∀i,h3 i≠ .dead->Cal i:=fun i hi=>by
   grind
  have nmi:∀i∈ids,nm i=bj ids i:=fun i hi=>by grind
  have nmg:∀i,n<=i->i<n+cz res->nm i=i:=fun i h1 h2=>by grind
  have em3:Emb L3 (dA ids) nm hm h3:=by
   refine⟨fun i hi=>?_,fun i hi=>?_,fun i j hi hj e=>?_⟩
   ·simp only[L3,List.contains_eq_mem,ax4,decide_eq_true_eq,List.mem_range'_1]at hi;rcases hi with hi|hi
    ·grind[Db]
    ·have e1:dA ids i=i:=by unfold dA;rw[if_neg (by omega)]
     rw[e1];refine⟨nmg i hi.1 hi.2,?_⟩;rw[h3c _ (.inr hi),h_grp i hi.1 hi.2];by_cases hd:hm i=.dead
     ·rw[hd];rfl
     ·rcases grp_obj i hi.1 hi.2 hd with⟨k,rows,e2⟩| ⟨cs,e2,e3⟩
      ·rw[e2];rfl
      ·rw[e2];simp only[dL,Ob.bx.injEq];exact((axy (g:=fun c=>c) fun c hc=>Uh (List.all_eq_true.1 e3 c hc)).trans (axN cs)).symm
   ·rcases h3n i hi with⟨q1,q2⟩| ⟨q1,q2⟩
    ·rw[h3c _ (.inl ⟨q1,q2⟩),nmi i q1];refine⟨h_ids i q1 q2,?_⟩;rw[hm_ids i q1];exact Ug l3a (List.all_eq_true.1 c7 _ (List.mem_of_getElem? (oget i q1)))
    ·rw[nmg i q1 q2];have hd:hm i≠ .dead:=by rw[h3c _ (.inr ⟨q1,q2⟩),h_grp i q1 q2]at hi;exact hi
     rw[h3c _ (.inr ⟨q1,q2⟩),h_grp i q1 q2];rcases grp_obj i q1 q2 hd with⟨k,rows,e2⟩| ⟨cs,e2,e3⟩
     ·rw[e2];exact⟨rfl,rfl⟩
     ·rw[e2];refine⟨?_,?_⟩
      ·simp only[dL,Ob.bx.injEq];exact((axy (g:=fun c=>c) fun c hc=>Uh (List.all_eq_true.1 e3 c hc)).trans (axN cs)).symm
      ·simp only[aC,axj];exact fun c hc=>Ln (List.all_eq_true.1 e3 c hc)
   ·rcases h3n i hi with⟨q1,q2⟩| ⟨q1,q2⟩<;>rcases h3n j hj with⟨q3,q4⟩| ⟨q3,q4⟩
    ·rw[nmi i q1,nmi j q3]at e;rw[←Bq hl q1,←Bq hl q3,e]
    ·rw[nmi i q1,nmg j q3 q4]at e;have:=Da q1;omega
    ·rw[nmg i q1 q2,nmi j q3]at e;have:=Da q3;omega
    ·rwa[nmg i q1 q2,nmg j q3 q4]at e
  have own3:∀ {b},rX h3 (fun i s=>ρ' (nm i) s) b->rX hm ρ' b:=fun⟨i,s,h1,h2⟩=>⟨nm i,s,(em3.live h1).1,h2⟩;have r3:Rel w' (Lr X hc ρ ids) (fun i s=>ρ' (nm i) s) h3:=Rel.emb em3 r' r'.xl (fun i s hl=>r'.nx _ _ (em3.live hl).1) fun b hb=>⟨hb.1,hb.2.1,fun ho=>hb.2.2 (own3 ho)⟩
  let ρ3:dX:=fun i s=>open Classical in if Cal i then ρ' (nm i) s else ρ i s
  have r3c:∀i,Cal i->∀s,ρ3 i s=ρ' (nm i) s:=fun i hi s=>by simp only[ρ3,if_pos hi]
  have r3n:∀i,¬Cal i->∀s,ρ3 i s=ρ i s:=fun i hi s=>by simp only[ρ3,if_neg hi]
  have rest:∀i,¬Cal i->h' i≠ .dead->i∉ids/\h' i=hc i:=fun i hi hd=>by
   have h1:¬ (n<=i/\i<n+cz res):=fun hh=>hi (.inr hh);have h2:∀p∈gv,p.1≠i:=fun p hp e=>hd (h_gv i h1 ⟨p,hp,e⟩);have h4:i∉ids:=fun hh=>hi (.inl ⟨hh,h2⟩);exact⟨h4,h_out i h4 h1 h2⟩
  have xin:∀ {i s},i∉ids->live hc i s->¬rX (ap (ids.map fun a=>dL (bj ids) (hc a))) (fun i s=>ρ (dA ids i) s) (ρ i s).1:=fun{i s} hi hl' ho=>by
   obtain⟨id,sub,q1,q2,q3⟩:=IT hl hnd hcl ho;obtain⟨e,_⟩:=r.inj _ _ _ _ q2 hl' q3;exact hi (e▸q1)
  have lcal:∀ {i s},live h' i s->Cal i->live h3 i s:=fun{i s} hl' hC=>(dj (h3c i hC)).2 hl';have lrest:∀ {i s},live h' i s->¬Cal i->i∉ids/\live hc i s:=fun{i s} hl' hC=>by
   have hd:h' i≠ .dead:=by
    cases s with
    |none=>intro e;simp[live,e]at hl'
    |some p=>obtain⟨_,_,_,e,_⟩:=hl';rw[e];simp
   obtain⟨h1,h2⟩:=rest i hC hd;exact⟨h1,(dj h2).1 hl'⟩
  have fr3:∀ {b},rX hm ρ' b->rX (ap (ids.map fun a=>dL (bj ids) (hc a))) (fun i s=>ρ (dA ids i) s) b\/w.heap.size<=b:=fun ho=>far.fresh _ ho;have parts:∀ {i s j t},live h3 i s->j∉ids->live hc j t->(ρ' (nm i) s).1≠ (ρ j t).1:=fun{i s j t} h1 h2 h4 e=>by
   rcases fr3 ⟨nm i,s,(em3.live h1).1,e⟩with ho|ho
   ·exact xin h2 h4 ho
   ·have:=IR r ⟨j,t,h4,rfl⟩;omega
  have ownc:∀ {b},rX h' ρ3 b->rX h3 (fun i s=>ρ' (nm i) s) b\/∃id sub,id∉ids/\live hc id sub/\(ρ id sub).1=b:=fun{b} ⟨i,s,h1,h2⟩=>by
   by_cases hC:Cal i
   ·exact .inl ⟨i,s,lcal h1 hC,by rw[←h2,r3c i hC]⟩
   ·obtain⟨h4,h5⟩:=lrest h1 hC;exact .inr ⟨i,s,h4,h5,by rw[←h2,r3n i hC]⟩
  have hA3:∀b,aJ w' (Lr X hc ρ ids) h3 (fun i s=>ρ' (nm i) s) b->aJ w' X h' ρ3 b:=fun b hb=>⟨hb.1,fun hx=>hb.2.1 (.inl hx),fun ho=>by
   rcases ownc ho with ho| ⟨i,s,h1,h2,rfl⟩
   ·exact hb.2.2 ho
   ·exact hb.2.1 (.inr ⟨⟨i,s,h2,rfl⟩,xin h1 h2⟩)⟩
  have noE:∀ {b},¬rX hc ρ b->¬rX (ap (ids.map fun a=>dL (bj ids) (hc a))) (fun i s=>ρ (dA ids i) s) b:=fun{b} hb ho=>by
   obtain⟨id,sub,_,q2,q3⟩:=IT hl hnd hcl ho;exact hb ⟨id,sub,q2,q3⟩
  have hAc:∀b,aJ w X hc ρ b->aJ w' X h' ρ3 b/\w'.heap[b]?=w.heap[b]?:=fun b hb=>by
   refine⟨⟨axX hb.1 far.size,hb.2.1,fun ho=>?_⟩,far.old b hb.1 (noE hb.2.2)⟩;rcases ownc ho with ho| ⟨i,s,h1,h2,rfl⟩
   ·rcases fr3 (own3 ho)with ho|ho
    ·exact noE hb.2.2 ho
    ·have:=hb.1;omega
   ·exact hb.2.2 ⟨i,s,h2,rfl⟩
  have pas:∀a∈ids,bg (bj ids a)=true:=fun a ha=>by
   have:=Da ha;simp only[bg,decide_eq_true_eq];omega
  have stayI:∀a∈ids,(∀p∈gv,p.1≠a)->h' a≠ .dead/\ρ3 a none=ρ a none/\hm (bj ids a)≠ .dead:=fun a ha hg=>by
   have h1:=(Dc c4 _ a _ (by have h1:=List.idxOf_lt_length_of_mem ha;rw[List.getElem?_eq_getElem h1];simp) (oget a ha)).2 hg;have h2:hm (bj ids a)≠ .dead:=by rw[hm_ids a ha];exact h1
   refine⟨by rw[h_ids a ha hg,ne_eq,IH];exact h2,?_,h2⟩;rw[r3c a (.inl ⟨ha,hg⟩),nmi a ha,(far.stay _ (pas a ha) h2).2,Bq hl ha]
  have bfB:∀id,bf (hc id)=true->bf (h' id)=true/\ρ3 id none=ρ id none:=fun id hb=>by
   have h1:¬ (n<=id/\id<n+cz res):=fun hh=>by rw[gdead id hh.1 hh.2]at hb;cases hb
   have h2:∀p∈gv,p.1≠id:=fun p hp e=>by
    have:=List.all_eq_true.1 c5 p hp;rw[e,hb]at this;cases this
   by_cases hi:id∈ids
   ·have h4:=(Dc c4 _ id _ (by have h1:=List.idxOf_lt_length_of_mem hi;rw[List.getElem?_eq_getElem h1];simp) (oget id hi)).1 hb;exact⟨by rw[h_ids id hi h2,XS,hm_ids id hi];exact h4,(stayI id hi h2).2.1⟩
   ·exact⟨by rw[h_out id hi h1 h2];exact hb,r3n id (fun hC=>by rcases hC with hC|hC;exact hi hC.1;exact h1 hC) none⟩
  have rel:Rel w' X ρ3 h':=by
   refine⟨fun i s j t h1 h2 e=>?_,fun i s h1 hx=>?_,fun id=>?_,fun b hb=>axX (r.xl b hb) far.size⟩
   ·by_cases hi:Cal i<;>by_cases hj:Cal j
    ·rw[r3c i hi,r3c j hj]at e;exact r3.inj _ _ _ _ (lcal h1 hi) (lcal h2 hj) e
    ·rw[r3c i hi,r3n j hj]at e;obtain⟨q1,q2⟩:=lrest h2 hj;exact absurd e (parts (lcal h1 hi) q1 q2)
    ·rw[r3n i hi,r3c j hj]at e;obtain⟨q1,q2⟩:=lrest h1 hi;exact absurd e.symm (parts (lcal h2 hj) q1 q2)
    ·rw[r3n i hi,r3n j hj]at e;exact r.inj _ _ _ _ (lrest h1 hi).2 (lrest h2 hj).2 e
   ·by_cases hi:Cal i
    ·rw[r3c i hi]at hx;exact r3.nx _ _ (lcal h1 hi) (hx.imp .inl id)
    ·rw[r3n i hi]at hx;exact r.nx _ _ (lrest h1 hi).2 hx
   ·by_cases hi:Cal id
    ·have:=(r3.ob id).keep (w':=w') (A':=aJ w' X h' ρ3) (ρ':=ρ3) (h':=h') (fun b hb=>⟨hA3 b hb,rfl⟩) (fun i hb=>by
      have hC:=h3n i (fun e=>by rw[e]at hb;cases hb);rw[h3c i hC]at hb;exact⟨hb,r3c i hC none⟩) (fun s=>r3c id hi s) (fun _ _=>rfl)
     rwa[h3c id hi]at this
    ·by_cases hd:h' id=.dead
     ·rw[hd];trivial
     ·obtain⟨q1,q2⟩:=rest id hi hd;have:=(r.ob id).keep (w':=w') (A':=aJ w' X h' ρ3) (ρ':=ρ3) (h':=h') hAc bfB (fun s=>r3n id hi s) (fun s hl'=>far.old _ (IR r ⟨id,s,hl',rfl⟩) (xin q1 hl'));rwa[←q2]at this
  have evo:Evo w ρ hc w' ρ3 h' ((if kp then []else ids.map (·,true))++gv):=by
   refine⟨far.os,far.tape,far.output,far.size,fun b hb ho=>far.old b hb (noE ho),fun id sub hp hk=>?_,fun b ho=>?_,bfB,fun id hp hd=>?_⟩
   ·rw[GN,Bool.or_eq_false_iff]at hk;have h2:∀p∈gv,p.1≠id:=fun p hp' e=>by
     have hk2:=hk.2;simp only[iV,List.any_eq_false,awS,beq_iff_eq,Bool.or_eq_true,ax3,not_and]at hk2;exact hk2 p hp' e (.inl (gvflag p hp'))
    have hnd':hc id≠ .dead:=by
     cases sub with
     |none=>exact hp
     |some p=>obtain⟨_,_,_,e,_⟩:=hp;rw[e];simp
    have h1:¬ (n<=id/\id<n+cz res):=fun hh=>hnd' (gdead id hh.1 hh.2);by_cases hi:id∈ids
    ·cases sub with
     |none=>exact⟨(stayI id hi h2).1,(stayI id hi h2).2.1⟩
     |some p=>
      cases kp with
      |false=>
       have hk1:=hk.1;simp only[axV,if_false,iV,List.any_map,List.any_eq_false,Function.comp,awS,beq_iff_eq]at hk1;exact absurd ⟨rfl,rfl⟩ (hk1 id hi)
      |true=>
       have hpe:cu (ap (ids.map fun a=>dL (bj ids) (hc a))) (bj ids id) (some p):=by
        obtain⟨cs,k,rows,e1,e2⟩:=hp;have:=(em.back id (by simpa using hi)).2;rw[e1]at this;refine⟨cs.map (dQ (bj ids)),k,rows,this,?_⟩;rw[List.getElem?_map,e2];rfl
       obtain⟨q1,q2⟩:=far.keep rfl (bj ids id) p (pas id hi) (stayI id hi h2).2.2 hpe;refine⟨?_,?_⟩
       ·obtain⟨cs,k,rows,e1,e2⟩:=q1;refine⟨cs.map (dQ (dA ids)),k,rows,?_,?_⟩
        ·rw[h_ids id hi h2,e1];rfl
        ·rw[List.getElem?_map,e2];rfl
       ·rw[r3c id (.inl ⟨hi,h2⟩),nmi id hi,q2,Bq hl hi]
    ·have hC:¬Cal id:=fun hC=>by rcases hC with hC|hC;exact hi hC.1;exact h1 hC
     exact⟨(fG (h_out id hi h1 h2)).2 hp,r3n id hC sub⟩
   ·rcases ownc ho with ho| ⟨i,s,h1,h2,rfl⟩
    ·rcases fr3 (own3 ho)with ho|ho
     ·obtain⟨id,sub,_,q2,q3⟩:=IT hl hnd hcl ho;exact .inl ⟨id,sub,q2,q3⟩
     ·exact .inr ho
    ·exact .inl ⟨i,s,h2,rfl⟩
   ·simp only[bg,decide_eq_true_eq]at hp;by_cases hi:id∈ids
    ·refine⟨hdead id hi,?_⟩;by_cases hg:∀p∈gv,p.1≠id
     ·exact(stayI id hi hg).2.1
     ·exfalso;refine hd (h_gv id (by omega) ?_);have:=Classical.not_forall.1 hg;obtain⟨p,hp'⟩:=this;obtain⟨hp1,hp2⟩:=Classical.not_imp.1 hp';exact⟨p,hp1,Classical.not_not.1 hp2⟩
    ·have hC:¬Cal id:=fun hC=>by rcases hC with hC|hC;exact hi hC.1;omega
     obtain⟨_,q2⟩:=rest id hC hd;exact⟨q2▸hd,r3n id hC none⟩
  refine⟨ρ3,_,rfl,rel,evo,?_⟩;have toV:∀ {c:AV} {u:Value},RV w' (aJ w' (Lr X hc ρ ids) hm ρ') ρ' hm c u->be L3 c=true->RV w' (aJ w' X h' ρ3) ρ3 h' (dQ (dA ids) c) u:=fun{c u} hv hcl'=>by
   have h1:=hv.embA (A2:=aJ w' (Lr X hc ρ ids) h3 (fun i s=>ρ' (nm i) s)) em3 (fun b hb=>⟨hb.1,hb.2.1,fun ho=>hb.2.2 (own3 ho)⟩) hcl';exact h1.keep (fun b hb=>⟨hA3 b hb,rfl⟩) fun i s hp=>by
    have hC:=h3n i (by
     cases s with
     |none=>exact hp
     |some p=>obtain⟨_,_,_,e,_⟩:=hp;rw[e];simp)
    exact⟨(fG (h3c i hC)).1 hp,r3c i hC s⟩
  have zc:=zcl l3a l3b;cases zr with
  |tup vs=>
   cases hv with
   |dat hd=>cases hd
   |tup _ us hs hr=>
    refine .tup _ us (by simpa using hs) fun i c u hc' hu=>?_;simp only[List.getElem?_map,awR]at hc';obtain⟨c0,h1,rfl⟩:=hc';exact toV (hr i c0 u h1 hu) (zc c0 (List.mem_of_getElem? h1))
  |_=>exact toV hv zc
 grind
end
theorem NG:∀ {l} {ms},∀p∈qY ms l,p.2=false
 |[],ms,p,hp=>by grind[qY]
 |a::l,ms,p,hp=>by
  simp only[qY,ax4]at hp;rcases hp with hp|hp
  ·split at hp
   ·simp only[axR]at hp;obtain⟨i,_,rfl⟩:=hp;rfl
   ·simp at hp
  ·exact NG p hp
section
variable {P:Program} {I:Inv} {call:iG} {md:Mode}
def aay(P:Program)(I:Inv)(call:iG)(md:Mode):Prop:=
 ∀ {w} {X} {ρ} {h h'} {d} {f z} {zas} {ks} {uf} {us},d<1000->I.p w X->Rel w X ρ h->RV w (aJ w X h ρ) ρ h f uf->us.size=zas.length->
  (∀ (i:Nat) c u,zas[i]?=some c->us[i]?=some u->RV w (aJ w X h ρ) ρ h c u)->dS call md h d zas f=some (z,h',ks)->
  ∃g first cap,uf=.func (.func g) first cap/\Enters P g (first++us++cap) w fun v w'=>Got w X ρ h w' h' ks z v
theorem W8(hf:∀f,pF P I (md.keep f) f (call f)):aay P I call md:=by
 intro w X ρ h h' d f z zas ks uf us hd hi r hvf hus hva hz;cases f<;>simp only[dS]at hz<;>try (cases hz;done)
 rename_i fid a b;obtain⟨first,cap,rfl,s1,s2,va,vb⟩:=hvf.fn_inv;refine⟨fid,first,cap,rfl,?_⟩;simp only[awN]at hz;obtain⟨⟨zs,hc,ks0⟩,e1,e2⟩:=hz;obtain⟨r1,ev1,fl1,ln1,vv⟩:=IQ (h0:=h) (a++zas++b) (md.m fid) (first++us++cap).toList r .refl (by grind) (fun i c u h1 h2=>by
  grind) e1
 have hnd:(bV hc 40 (bF [] (zs.flatMap bX)) 0).Nodup:=Lh (C7 List.nodup_nil);generalize bV hc 40 (bF [] (zs.flatMap bX)) 0=ids at*
 unfold jK at e2;split at e2
 ·rename_i hck;simp only[awS,axj,ax3]at hck;obtain⟨k1,k2⟩:=hck;simp only[awN]at e2;obtain⟨⟨res,os⟩,e3,e4⟩:=e2;have hl:ids.length<=1000:=by
   grind[eJ]
  have hcl:=fun a ha=>(k2 a ha).1;have hdead:∀a∈ids,hc a≠ .dead:=fun a ha e=>by
   have:=(k2 a ha).2;rw[e]at this;cases this
  have em:=Emb.enter (h:=hc) hl hnd hcl;obtain⟨rE,hA⟩:=acD r1 hl hnd hcl;have hi1:I.p w (Lr X hc ρ ids):=I.more hi fun b hb=>.inl hb;refine(hf fid e3 (n:=2000+8*d) (by omega) hi1 rE (by grind[List.length_map,yD]) fun i c u hc' hu=>?_).mono fun v w' ⟨ρ',q1,q2,q3⟩=>?_
  ·simp only[List.getElem?_map,awR]at hc';obtain⟨c0,h1,rfl⟩:=hc';obtain⟨c1,h2,h3⟩:=xW _ _ _ _ h1;obtain⟨h4,wy,hv⟩:=vv i c1 u h2 (by grind);have hv':RV w (aJ w X h4 ρ) ρ h4 c0 u:=by
    rcases h3 with rfl| ⟨ss,rfl⟩
    ·omega
    ·exact hv.nrmV ss
   have hcc:=k1 c0 (List.mem_of_getElem? h1);exact(acB wy hv' hcc).embA em hA hcc
  ·obtain⟨ρ3,k3,rfl,g1,g2,g3⟩:=aax r1 hnd hcl hdead NG e4 q1 q2 q3;exact⟨ρ3,g1,ev1.trans g2,g3⟩
 grind
theorem IU{w}{X}{ρ}{h}{b}(hb:aJ w X h ρ b):aJ w X (ap []) ρ b:=⟨hb.1,hb.2.1,fun⟨id,sub,hl,_⟩=>by
 have hd:ap [] id=.dead:=by grind[ap]
 cases sub with
 |none=>grind[live]
 |some p=>grind[live]⟩
theorem XY{w}{X}{ρ}{h}(r:Rel w X ρ h){id}{sub}(hl:live h id sub):aJ w X (ap []) ρ (ρ id sub).1:=
 ⟨IR r ⟨id,sub,hl,rfl⟩,fun hx=>r.nx id sub hl (.inl hx),fun⟨id',sub',hl',_⟩=>by
  have hd:ap [] id'=.dead:=by grind[ap]
  cases sub' with
  |none=>grind[live]
  |some p=>grind[live]⟩
theorem aaz{w}{X}{ρ}{h}(r:Rel w X ρ h){a c}{u}(hv:RV w (aJ w X h ρ) ρ h a u)(hz:ZL h a=some c):RV w (aJ w X (ap []) ρ) ρ (ap []) c u:=by
 have dd:∀ {a},RD w (aJ w X h ρ) a u->RV w (aJ w X (ap []) ρ) ρ (ap []) a u:=fun hd=>.dat (hd.mono fun b hb=>⟨IU hb,rfl⟩);cases a<;>simp only[ZL]at hz<;>try (cases hz;done)
 case v x=>cases hz;exact .dat (by obtain⟨rfl,hp⟩:=hv.v_inv;exact .v _ hp)
 case emp=>cases hz;obtain⟨a,rfl⟩:=hv.emp_inv;exact .dat (.emp a)
 case sl k rows=>cases hz;exact dd hv.sl_inv
 case rsl id sub k lo n=>
  simp only[awR]at hz;obtain⟨rs,h1,rfl⟩:=hz;obtain⟨a,cap,rfl,hp,hn,hb,ha⟩:=hv.rsl_inv;cases sub with
  |none=>
   simp only[yu]at h1;have ho:=r.ob id;cases eo:h id with
   |dead=>grind[Bh,iH]
   |bx cs=>grind[Bh,iH]
   |ar k' rows=>
    rw[eo]at h1 ho;simp only[Bh,iH]at h1;split at h1
    ·rename_i hc;obtain⟨rfl,hle⟩:=hc;cases h1;obtain⟨us,t0,g1,g2,g3,g4⟩:=ho;exact .dat (oG g1 (XY r (by grind[live])) (g4.mono fun b hb=>⟨IU hb,rfl⟩) hle hn ha)
    grind
   |fz k' rows=>
    rw[eo]at h1 ho;simp only[Bh,iH]at h1;split at h1
    ·rename_i hc;obtain⟨rfl,hle⟩:=hc;cases h1;obtain⟨ga,us,t0,fr,g1,g2,g3,g4⟩:=ho;exact .dat (oG g1 (IU ga) (g4.mono fun b hb=>⟨IU hb,rfl⟩) hle hn ha)
    grind
  |some p=>
   simp only[yu]at h1;cases eo:h id with
   |bx cs=>
    rw[eo]at h1;simp only[jV]at h1;cases ec:cs[p]? with
    |none=>grind[xp,iH]
    |some c=>
     rw[ec]at h1;cases c<;>simp[xp,iH]at h1;rename_i k' rows;obtain⟨⟨rfl,hle⟩,rfl⟩:=h1;obtain⟨us,t0,g1,g2,g3,g4⟩:=r.cell eo;obtain⟨u,f1,a',cap',us1,t1,q1,q2,q3,q4,q5,q6,q7⟩:=g4 p _ ec;exact .dat (oG q4 (XY r ⟨cs,_,rows,eo,ec⟩) (q7.mono fun b hb=>⟨IU hb,rfl⟩) hle hn ha)
   |dead=>grind[jV,iH]
   |ar k' rows=>grind[jV,iH]
   |fz k' rows=>grind[jV,iH]
 case fn f x y=>
  cases x with
  |cons a l=>grind
  |nil=>
   cases y with
   |cons a l=>grind
   |nil=>
    simp only[Option.some.injEq]at hz;subst hz;obtain⟨us,ts,rfl,s1,s2,_,_⟩:=hv.fn_inv;exact .fn f [] [] us ts s1 s2 (fun i c u hc=>by grind) (fun i c u hc=>by grind)
theorem NH{w}{X}{ρ}{h}(r:Rel w X ρ h):∀l (vals:List Value) {cs},vals.length=l.length->(∀ (i:Nat) c u,l[i]?=some c->vals[i]?=some u->RV w (aJ w X h ρ) ρ h c u)->Pa h l=some cs->
  cs.length=l.length/\∀ (i:Nat) c u,cs[i]?=some c->vals[i]?=some u->RV w (aJ w X (ap []) ρ) ρ (ap []) c u
 |[],vals,cs,hl,hv,hz=>by
  grind[Pa,Option.some.injEq]
 |a::l,[],cs,hl,hv,hz=>by grind
 |a::l,v::vals,cs,hl,hv,hz=>by
  simp only[Pa,awN]at hz;obtain⟨b,e1,q,e2,e3⟩:=hz;cases e3;obtain⟨g1,g2⟩:=NH r l vals (by grind) (fun i c u hc hu=>hv (i+1) c u (by grind) (by grind)) e2;refine⟨by grind,fun i c u hc hu=>?_⟩;cases i with
  |zero=>simp at hc hu;subst hc hu;exact aaz r (hv 0 a v rfl rfl) e1
  |succ i=>grind
theorem aaA{kp}{w w'}{X}{ρ ρ'}{h}(r:Rel w X ρ h)(far:Far kp w ρ (ap []) w' ρ' (ap [])):Rel w' X ρ h/\Evo w ρ h w' ρ h []:=by
 have no:∀b,¬rX (ap []) ρ b:=fun b ⟨id',sub',hl',_⟩=>by
  have hd:ap [] id'=.dead:=by grind[ap]
  cases sub' with
  |none=>grind[live]
  |some p=>grind[live]
 have e:Evo w ρ h w' ρ h []:=⟨far.os,far.tape,far.output,far.size,fun b hb _=>far.old b hb (no b),fun _ _ hp _=>⟨hp,rfl⟩,fun _ ho=>.inl ho,fun _ hb=>⟨hb,rfl⟩,fun _ _ hd=>⟨hd,rfl⟩⟩;exact⟨r.step e (fun _=>False) (fun _ _=>⟨rfl,fun _=>rfl,fun sub hl=>far.old _ (IR r ⟨_,sub,hl,rfl⟩) (no _)⟩) r.inj r.nx (fun _ hf=>hf.elim),e⟩
theorem aaB{c}(hp:yv c=true)(n)(h):dG n h c=(c,h):=by
 cases c<;>simp[yv]at hp;rfl
theorem NI:∀ {vs} n h,vs.all yv=true->cK n h vs=(vs,h)
 |[],n,h,_=>rfl
 |a::l,n,h,hp=>by
  simp only[axu,awS]at hp;simp only[cK,aaB hp.1,NI (n+1) h hp.2]
theorem acE{c}(hp:It c=true)(n)(h):mat n h c=(c,h):=by
 cases c<;>simp only[It]at hp<;>try (simp[yv]at hp;done)
 case v x=>rfl
 grind[mat,NI]
theorem Q6{w w'}{A A'}{ρ ρ'}{h h'}{c}{u}(hp:yv c=true)(hv:RV w A ρ h c u):RV w' A' ρ' h' c u:=by
 cases c<;>simp[yv]at hp;obtain⟨rfl,hp⟩:=hv.v_inv;exact .dat (.v _ hp)
theorem afx{w w'}{A A'}{ρ ρ'}{h h'}{c}{u}(hp:It c=true)(hv:RV w A ρ h c u):RV w' A' ρ' h' c u:=by
 cases c<;>simp only[It]at hp<;>try (simp[yv]at hp;done)
 case v x=>grind[Q6]
 case tup vs=>
  cases hv with
  |dat hd=>cases hd
  |tup _ us hs hr=>exact .tup vs us hs fun i c u hc hu=>Q6 (List.all_eq_true.1 hp c (List.mem_of_getElem? hc)) (hr i c u hc hu)
theorem aaC(hf:∀f,pF P I (md.keep f) f (call f)):l9 P I call md:=by
 intro w X ρ h h' d f z zas ks uf us hd hi r hvf hus hva hz;unfold bE at hz;split at hz
 ·cases f<;>simp only[Ni]at hz<;>try (cases hz;done)
  rename_i fid a b _;obtain⟨first,cap,rfl,s1,s2,va,vb⟩:=hvf.fn_inv;refine⟨fid,first,cap,rfl,?_⟩;simp only[awN]at hz;obtain⟨cs,e1,⟨res,os⟩,e2,e3⟩:=hz;obtain⟨l1,l2⟩:=NH r (a++zas++b) (first++us++cap).toList (by grind) (fun i c u h1 h2=>by
   grind) e1
  cases os with
  |cons o os=>grind[TF]
  |nil=>
   simp only[TF]at e3;split at e3
   ·rename_i hp;cases e3;have rE:Rel w X ρ (ap []):=by
     have hd:∀id,ap [] id=.dead:=fun id=>by grind[ap]
     have no:∀id sub,¬live (ap []) id sub:=fun id sub hl=>by
      cases sub with
      |none=>grind[live]
      |some p=>grind[live]
     exact⟨fun id sub _ _ h=>(no id sub h).elim,fun id sub h=>(no id sub h).elim,fun id=>by rw[hd];trivial,r.xl⟩
    refine(hf fid e2 (n:=2000) (awQ _) hi rE (by grind[yD]) fun i c u hc' hu=>?_).mono fun v w' ⟨ρ',q1,q2,q3⟩=>?_
    ·obtain⟨c1,h2,h3⟩:=xW _ _ _ _ hc';have hv:=l2 i c1 u h2 (by grind);rcases h3 with rfl| ⟨ss,rfl⟩
     ·omega
     ·exact hv.nrmV ss
    ·rw[acE hp]at q1 q2 q3;obtain⟨g1,g2⟩:=aaA r q2;exact⟨ρ,g1,g2,afx hp q3⟩
   grind
 ·exact W8 hf hd hi r hvf hus hva hz
end
section
variable {P:Program} {I:Inv} {call:iG} {md:Mode}
structure EnvOK (P:Program) (I:Inv) (e:Env):Prop where
 mixed:P.follows .mixedOrders=true
 ext:∀f g,e.E f=some g->pF P I (e.md.keep f) f g
 text:∀f fd,e.E f=none->e.C f=some fd->Text P f fd
theorem aaD(kp)(f):pF P I kp f (fun _ _=>none):=by
 intro args obs obs' res w X ρ vals n hz;grind
theorem acF{e}(he:EnvOK P I e):∀n f,pF P I (e.md.keep f) f (fg e n f)
 |0,f=>aaD _ f
 |n+1,f=>by
  cases hE:e.E f with
  |some g=>
   have:fg e (n+1) f=g:=by grind[fg]
   rw[this];exact he.ext f g hE
  |none=>
   cases hC:e.C f with
   |none=>
    have:fg e (n+1) f=fun _ _=>none:=by grind[fg]
    grind
   |some fd=>
    have:fg e (n+1) f=Ff (fg e n) {e.md with nm:=e.md.keep f} n fd:=by grind[fg]
    rw[this];exact aik (md:={e.md with nm:=e.md.keep f}) he.mixed (aaC (md:={e.md with nm:=e.md.keep f}) fun g=>acF he n g) (he.text f fd hE hC)
end
def Ev(p:Nat->Prop):Prop:=∃n,∀k,n<=k->p k
theorem Ev.and{p q}(a:Ev p)(b:Ev q):Ev fun k=>p k/\q k:=by
 obtain⟨n,hn⟩:=a;obtain⟨m,hm⟩:=b;exact⟨max n m,fun k hk=>⟨hn k (by omega),hm k (by omega)⟩⟩
theorem Ev.mono{p q}(a:Ev p)(h:∀k,p k->q k):Ev q:=by
 obtain⟨n,hn⟩:=a;exact⟨n,fun k hk=>h k (hn k hk)⟩
theorem Ev.all{p}(h:∀k,p k):Ev p:=⟨0,fun k _=>h k⟩
open Classical in
noncomputable def Ey {α:Type} (f:Nat->Option α):Option α:=if h:∃a,Ev fun k=>f k=some a then some (Classical.choose h)else none
theorem po{α}{f}{a:α}:Ey f=some a↔Ev fun k=>f k=some a:=by
 unfold Ey;constructor
 ·intro h;split at h
  all_goals grind
 ·intro h;have hh:∃a,Ev fun k=>f k=some a:=⟨a,h⟩;obtain⟨n,hn⟩:=Classical.choose_spec hh;obtain⟨m,hm⟩:=h;have h1:=hn (max n m) (by omega);grind
theorem aim{α}{f g:Nat->Option α}(h:∀a,Ey f=some a↔Ey g=some a):Ey f=Ey g:=by
 cases hf:Ey f with
 |none=>
  cases hg:Ey g with
  |none=>rfl
  |some a=>grind
 |some a=>grind
theorem Br{α}(a:Option α):Ey (fun _=>a)=a:=by
 cases a with
 |none=>
  cases h:Ey (fun _:Nat=>none)with
  |none=>rfl
  |some a=>
   obtain⟨n,hn⟩:=po.1 h;exact absurd (hn n (awQ _)) (by simp)
 |some a=>exact po.2 (Ev.all fun _=>rfl)
theorem Uk{α}(f:Nat->Option α):Ey (fun n=>f (n+1))=Ey f:=aim fun a=>by
 rw[po,po];constructor
 ·rintro⟨n,hn⟩
  refine⟨n+1,fun k hk=>?_⟩;have:=hn (k-1) (by omega);grind
 ·rintro⟨n,hn⟩
  exact⟨n,fun k hk=>hn (k+1) (by omega)⟩
noncomputable def au (body:ak->ac->Option (Ex×St)) (ks hs:List Nat) (s:ak) (h:ac):Option (Ex×St):=Ey fun n=>s7 body ks hs n s h
def Ti(g:ak->ac->Option (Ex×St)):Option (Ex×St)->Option (Ex×St)
 |some (.normal,t)=>g t.s t.h
 |r=>r
theorem ag(body)(ks hs)(s)(h):
  au body ks hs s h=if(hs.all fun a=>aC hs (h a))=true then Ti (au body ks hs) (body (mk .any (fun i=>gk hs (s i)) ks) (mk .dead h hs))else none:=by
 unfold au;rw[←Uk];simp only[s7];split
 ·cases hb:body (mk .any (fun i=>gk hs (s i)) ks) (mk .dead h hs)with
  |none=>exact Br _
  |some r=>
   obtain⟨e,t⟩:=r;cases e with
   |normal=>rfl
   |exit id=>exact Br _
   |ret=>exact Br _
 ·exact Br _
noncomputable def ai (call:iG) (md:Mode):Cmd->ak->ac->Option (Ex×St)
 | .skip,s,h=>some (.normal,⟨s,h⟩)
 | .ops ks l,s,h=>bp (aE call md l s h) fun s h=>some (.normal,⟨mk .any s ks,h⟩)
 | .dops ks l ps,s,h=>bp (rg call md l ps s h) fun s h=>some (.normal,⟨mk .any s ks,h⟩)
 | .seq a b,s,h=>cr (ai call md a s h) (ai call md b)
 | .cond c a b,s,h=>wW (ai call md a s h) (ai call md b s h) (ev s c)
 | .block id ks a,s,h=>aj id ks (ai call md a s h)
 | .loop ks hs a,s,h=>au (ai call md a) ks hs s h
 | .exit id,s,h=>some (.exit id,⟨s,h⟩)
 | .ret,s,h=>some (.ret,⟨s,h⟩)
 | .frz is a,s,h=>bp (Aa md.nm is s h) (ai call md a)
noncomputable def jY (e:Env):iG:=fun f args hs=>Ey fun n=>fg e n f args hs
noncomputable def aaE (call:iG) (md:Mode) (fd:FD) (args:List AV) (hs:List Ob):Option (AV×List Ob):=
 if args.length=fd.np/\hs.length<=1000 then gZ md.nm fd.rs fd.res hs.length (ai call md fd.body (tW args) (ap hs))else none
section
variable {e:Env} {md:Mode}
theorem acG{h}{d}{zas}{f}{r}(hz:dS (jY e) md h d zas f=some r):Ev fun k=>dS (fg e k) md h d zas f=some r:=by
 cases f<;>simp only[dS]at hz⊢ <;>try (cases hz;done)
 simp only[awN]at hz⊢;obtain⟨p,e1,e2⟩:=hz;unfold jK at e2⊢;split at e2
 ·simp only[awN]at e2;obtain⟨q,e3,e4⟩:=e2;refine(po.1 e3).mono fun k hk=>⟨p,e1,?_⟩;grind
 grind
theorem Ul{h}{d}{zas}{f}{r}(hz:bE (jY e) md h d zas f=some r):Ev fun k=>bE (fg e k) md h d zas f=some r:=by
 unfold bE at hz⊢;by_cases hb:jX md zas f=true
 ·rw[if_pos hb]at hz;simp only[if_pos hb];cases f<;>simp only[Ni]at hz⊢ <;>try (cases hz;done)
  simp only[awN]at hz⊢;obtain⟨p,e1,q,e3,e4⟩:=hz;exact(po.1 e3).mono fun k hk=>⟨p,e1,q,hk,e4⟩
 simp_all[if_neg,acG]
theorem X1{d}{op}{s}{h}{r}(hz:step (jY e) md d op s h=some r):Ev fun k=>step (fg e k) md d op s h=some r:=by
 cases op with
 |call f zas=>exact Ul hz
 |callC f zas=>
  simp only[step,awN]at hz⊢;obtain⟨q,e1,e2⟩:=hz;exact(Ul e1).mono fun k hk=>⟨q,hk,e2⟩
 |_=>exact Ev.all fun k=>hz
theorem X3{d}{op}{s}{h}{t}(hz:du md.nm s d (step (jY e) md (d.getD 0) op s h)=some t):Ev fun k=>du md.nm s d (step (fg e k) md (d.getD 0) op s h)=some t:=by
 cases hs:step (jY e) md (d.getD 0) op s h with
 |none=>rw[hs]at hz;cases hz
 |some r=>
  exact(X1 hs).mono fun k hk=>by grind
theorem afy{o}{s}{h}{t}(hz:lT (jY e) md o s h=some t):Ev fun k=>lT (fg e k) md o s h=some t:=by
 unfold lT at hz⊢;cases hg:o.g with
 |none=>grind[X3]
 |some g=>
  rw[hg]at hz;simp only at hz⊢;unfold kP at hz⊢;split at hz
  ·split at hz
   all_goals simp_all[if_pos,X3,if_neg,Ev.all]
  all_goals grind[Ev.all]
theorem GY:∀ {l} {s} {h} {t},aE (jY e) md l s h=some t->Ev fun k=>aE (fg e k) md l s h=some t
 |[],s,h,t,hz=>Ev.all fun k=>hz
 |o::l,s,h,t,hz=>by
  simp only[aE,bp]at hz;split at hz
  ·grind
  ·rename_i t1 ht1;refine((afy ht1).and (GY hz)).mono fun k hk=>?_;grind[aE,bp]
theorem Um{d}{op}{s}{h}{f}{t}(hz:nD s d f (step (jY e) md (d.getD 0) op s h)=some t):Ev fun k=>nD s d f (step (fg e k) md (d.getD 0) op s h)=some t:=by
 cases hs:step (jY e) md (d.getD 0) op s h with
 |none=>rw[hs]at hz;cases hz
 |some r=>
  exact(X1 hs).mono fun k hk=>by grind
theorem afz{o}{s}{h}{t}(hz:eE (jY e) md o s h=some t):Ev fun k=>eE (fg e k) md o s h=some t:=by
 unfold eE at hz⊢;cases hg:o.g with
 |none=>grind[Um]
 |some g=>
  rw[hg]at hz;simp only at hz⊢;unfold re at hz⊢;split at hz
  ·split at hz
   all_goals simp_all[if_pos,Um,if_neg,Ev.all]
  all_goals grind[Ev.all]
theorem Ph:∀ {l} {s} {h} {t},gY (jY e) md l s h=some t->Ev fun k=>gY (fg e k) md l s h=some t
 |[],s,h,t,hz=>Ev.all fun k=>hz
 |o::l,s,h,t,hz=>by
  simp only[gY,awN]at hz;obtain⟨r,e1,q,e2,e3⟩:=hz;refine((afz e1).and (Ph e2)).mono fun k hk=>?_;simp only[gY,hk.1,hk.2,awV,e3]
theorem afA{l}{ps}{s}{h}{t}(hz:rg (jY e) md l ps s h=some t):Ev fun k=>rg (fg e k) md l ps s h=some t:=by
 unfold rg at hz⊢;cases hb:AW ps with
 |none=>
  rw[hb]at hz;simp only[Bj,awN]at hz;obtain⟨q,e1,e2⟩:=hz;exact(Ph e1).mono fun k hk=>by simp only[Bj,awV, *]
 |some b=>
  rw[hb]at hz;simp only[GG,awN]at hz;obtain⟨q,e1,e2⟩:=hz;split at e2
  ·simp only[bp]at e2;split at e2
   ·grind
   ·exact((Ph e1).and (GY e2)).mono fun k hk=>by simp_all[GG,awV,if_pos,bp]
  grind
theorem X4{c}{ks hs}(ih:∀ {s} {h} {r},ai (jY e) md c s h=some r->Ev fun k=>cS (fg e k) md k c s h=some r):
  ∀m {s} {h} {r},s7 (ai (jY e) md c) ks hs m s h=some r->∃n,∀k,n<=k->∀j,n<=j->s7 (cS (fg e k) md k c) ks hs j s h=some r
 |0,s,h,r,hz=>by grind[s7]
 |m+1,s,h,r,hz=>by
  simp only[s7]at hz;split at hz
  ·rename_i hc;cases hb:ai (jY e) md c (mk .any (fun i=>gk hs (s i)) ks) (mk .dead h hs)with
   |none=>grind
   |some q=>
    rw[hb]at hz;obtain⟨n1,h1⟩:=ih hb;obtain⟨ex,t⟩:=q;cases ex with
    |normal=>
     obtain⟨n2,h2⟩:=X4 ih m hz;refine⟨max n1 n2+1,fun k hk j hj=>?_⟩;obtain⟨j,rfl⟩:∃j',j=j'+1:=⟨j-1,by omega⟩;simp only[s7,if_pos hc,h1 k (by omega)];grind
    |exit id=>
     refine⟨n1+1,fun k hk j hj=>?_⟩;obtain⟨j,rfl⟩:∃j',j=j'+1:=⟨j-1,by omega⟩;simp only[s7,if_pos hc,h1 k (by omega)];omega
    |ret=>
     refine⟨n1+1,fun k hk j hj=>?_⟩;obtain⟨j,rfl⟩:∃j',j=j'+1:=⟨j-1,by omega⟩;simp only[s7,if_pos hc,h1 k (by omega)];omega
  grind
theorem ll:∀c {s} {h} {r},ai (jY e) md c s h=some r->Ev fun k=>cS (fg e k) md k c s h=some r
 | .skip,s,h,r,hz=>Ev.all fun k=>hz
 | .ops ks l,s,h,r,hz=>by
  simp only[ai,bp]at hz;split at hz
  ·grind
  ·rename_i t1 ht1;exact(GY ht1).mono fun k hk=>by grind[cS,bp]
 | .dops ks l ps,s,h,r,hz=>by
  simp only[ai,bp]at hz;split at hz
  ·grind
  ·rename_i t1 ht1;exact(afA ht1).mono fun k hk=>by grind[cS,bp]
 | .seq a b,s,h,r,hz=>by
  simp only[ai,cr]at hz;split at hz
  ·grind
  ·rename_i t1 ht1;exact((ll a ht1).and (ll b hz)).mono fun k hk=>by grind[cS,cr]
  ·rename_i i t1 ht1;exact(ll a ht1).mono fun k hk=>by grind[cS,cr]
  ·rename_i t1 ht1;exact(ll a ht1).mono fun k hk=>by grind[cS,cr]
 | .cond c a b,s,h,r,hz=>by
  simp only[ai,wW]at hz;split at hz
  ·rename_i t ht;cases t with
   |true=>simp_all[ll,cS,wW,if_true]
   |false=>simp_all[ll,cS,wW,axV,if_false]
  grind
 | .block id ks a,s,h,r,hz=>by
  simp only[ai,aj]at hz;split at hz
  ·grind
  ·rename_i t1 ht1;exact(ll a ht1).mono fun k hk=>by grind[cS,aj]
  ·rename_i i t1 ht1;exact(ll a ht1).mono fun k hk=>by grind[cS,aj]
  ·rename_i t1 ht1;exact(ll a ht1).mono fun k hk=>by grind[cS,aj]
 | .loop ks hs a,s,h,r,hz=>by
  obtain⟨m,hm⟩:=po.1 hz;obtain⟨n,hn⟩:=X4 (fun hh=>ll a hh) m (hm m (awQ _));exact⟨n,fun k hk=>by grind[cS]⟩
 | .exit id,s,h,r,hz=>Ev.all fun k=>hz
 | .ret,s,h,r,hz=>Ev.all fun k=>hz
 | .frz is a,s,h,r,hz=>by
  simp only[ai,bp]at hz;split at hz
  ·cases hz
  ·rename_i t1 ht1;exact(ll a hz).mono fun k hk=>by simp only[cS,bp, *]
theorem Q7{f}{fd}{args}{hs}{r}(hE:e.E f=none)(hC:e.C f=some fd)(hz:aaE (jY e) {e.md with nm:=e.md.keep f} fd args hs=some r):jY e f args hs=some r:=by
 unfold jY;rw[po];unfold aaE at hz;split at hz
 ·cases hx:ai (jY e) {e.md with nm:=e.md.keep f} fd.body (tW args) (ap hs)with
  |none=>rw[hx]at hz;cases hz
  |some q=>
   obtain⟨n,hn⟩:=ll fd.body hx;refine⟨n+1,fun k hk=>?_⟩;obtain⟨k,rfl⟩:∃k',k=k'+1:=⟨k-1,by omega⟩
   simp_all[fg,awV,Ff,if_pos]
 grind
theorem L5{f}{g}{args}{hs}(hE:e.E f=some g):jY e f args hs=g args hs:=by
 unfold jY;rw[←Uk]
 simp_all[fg,funext,Br]
theorem X5{P}{I}(he:EnvOK P I e)(f):pF P I (e.md.keep f) f (jY e f):=by
 intro args obs obs' res w X ρ vals n hz;obtain⟨m,hm⟩:=po.1 hz;exact acF he m f (hm m (awQ _))
end
section
variable {call:iG} {md:Mode} {s:ak} {h:ac}
@[go_sem] theorem auY:ai call md .skip s h=some (.normal,⟨s,h⟩):=θ _
@[go_sem] theorem awg(ks l):ai call md (.ops ks l) s h=bp (aE call md l s h) fun s h=>some (.normal,⟨mk .any s ks,h⟩):=θ _
@[go_sem] theorem awh(is a):ai call md (.frz is a) s h=bp (Aa md.nm is s h) (ai call md a):=θ _
@[go_sem] theorem auZ(ks l ps):ai call md (.dops ks l ps) s h=bp (rg call md l ps s h) fun s h=>some (.normal,⟨mk .any s ks,h⟩):=θ _
@[go_sem] theorem aaF(a b):ai call md (.seq a b) s h=cr (ai call md a s h) (ai call md b):=θ _
@[go_sem] theorem au0(c a b):ai call md (.cond c a b) s h=wW (ai call md a s h) (ai call md b s h) (ev s c):=θ _
@[go_sem] theorem asF(id ks a):ai call md (.block id ks a) s h=aj id ks (ai call md a s h):=θ _
@[go_sem] theorem au1(ks hs a):ai call md (.loop ks hs a) s h=au (ai call md a) ks hs s h:=θ _
@[go_sem] theorem au2(i):ai call md (.exit i) s h=some (.exit i,⟨s,h⟩):=θ _
@[go_sem] theorem awi:ai call md .ret s h=some (.ret,⟨s,h⟩):=θ _
@[go_sem] theorem akM(s h f):cr (some (.normal,⟨s,h⟩)) f=f s h:=θ _
@[go_sem] theorem anh(i t f):cr (some (.exit i,t)) f=some (.exit i,t):=θ _
@[go_sem] theorem aoP(t f):cr (some (.ret,t)) f=some (.ret,t):=θ _
@[go_sem] theorem amM(id ks i t):aj id ks (some (.exit i,t))=if i=id then some (.normal,⟨mk .any t.s ks,t.h⟩)else some (.exit i,t):=θ _
@[go_sem] theorem aks(id ks t):aj id ks (some (.normal,t))=some (.normal,⟨mk .any t.s ks,t.h⟩):=θ _
@[go_sem] theorem ani(id ks t):aj id ks (some (.ret,t))=some (.ret,t):=θ _
@[go_sem] theorem anj(a b):wW a b (.v (.bool true))=a:=θ _
@[go_sem] theorem amN(a b):wW a b (.v (.bool false))=b:=θ _
@[go_sem] theorem akN(g t):Ti g (some (.normal,t))=g t.s t.h:=θ _
@[go_sem] theorem ank(g i t):Ti g (some (.exit i,t))=some (.exit i,t):=θ _
@[go_sem] theorem aoQ(g t):Ti g (some (.ret,t))=some (.ret,t):=θ _
@[go_sem] theorem anl{β}(s h)(f:ak->ac->Option β):bp (some ⟨s,h⟩) f=f s h:=θ _
@[go_sem] theorem aoR{β}(c) [Decidable c](x y)(f:ak->ac->Option β):bp (if c then x else y) f=if c then bp x f else bp y f:=by split<;>rfl
@[go_sem] theorem aoS(c) [Decidable c](x y)(f):cr (if c then x else y) f=if c then cr x f else cr y f:=by split<;>rfl
@[go_sem] theorem asG:aE call md [] s h=some ⟨s,h⟩:=θ _
@[go_sem] theorem NJ(d op rest):aE call md (⟨some d,none,.p op⟩::rest) s h=(gu s op).bind fun a=>aE call md rest (upd s d a) h:=by
 simp only[aE,lT,step,CZ];cases gu s op with
 |none=>rfl
 |some a=>simp only[axH,du,pn,if_true];rfl
def cm(d n:Nat):COp:=⟨some d,none,.p (.mv (.t n))⟩
def co(d:Nat)(op:POp):COp:=⟨some d,none,.p op⟩
def cg(d j:Nat)(w:Bool)(op:POp):COp:=⟨some d,some (j,w),.p op⟩
@[go_sem] theorem au3(d n rest):aE call md (cm d n::rest) s h=aE call md rest (upd s d (s n)) h:=NJ d (.mv (.t n)) rest
@[go_sem] theorem au4(d op rest):aE call md (co d op::rest) s h=(gu s op).bind fun a=>aE call md rest (upd s d a) h:=NJ d op rest
@[go_sem] theorem au5(d j w op rest):aE call md (cg d j w op::rest) s h=bp (kP (some d) w ((gu s op).map fun a=>⟨upd s d a,h⟩) s h (s j)) (aE call md rest):=by
 have:du md.nm s (some d) (step call md d (.p op) s h)=(gu s op).map fun a=>⟨upd s d a,h⟩:=by
  simp only[step,CZ];cases gu s op with
  |none=>rfl
  |some a=>simp only[axH,du,pn,if_true];rfl
 show bp (kP (some d) w (du md.nm s (some d) (step call md d (.p op) s h)) s h (s j)) _=_;rw[this]
def b2(d:Nat)(op:BinOp)(a b:Nat):COp:=⟨some d,none,.p (.bin op (.t a) (.t b))⟩
def fa(d k a:Nat):COp:=⟨some d,none,.p (.fadr k (.t a))⟩
def nk(d a:Nat):COp:=⟨some d,none,.p (.nilck (.t a))⟩
def ld(d k a:Nat):COp:=⟨some d,none,.load k false (.t a)⟩
def la(d k a:Nat):COp:=⟨some d,none,.load k true (.t a)⟩
def ca(d f:Nat)(zas:List Opd):COp:=⟨some d,none,.call (.c (.fn f [] [])) zas⟩
def sr(k:Nat)(x y:Opd):COp:=⟨none,none,.store k x y⟩
def al(d:Nat)(z:List AV):COp:=⟨some d,none,.alloc z⟩
def bx(d k:Nat)(x:Opd):COp:=⟨some d,none,.box k x⟩
@[go_sem] theorem au6(d op a b rest):aE call md (b2 d op a b::rest) s h=(dP op (s a) (s b)).bind fun a=>aE call md rest (upd s d a) h:=NJ d (.bin op (.t a) (.t b)) rest
@[go_sem] theorem au7(d k a rest):aE call md (fa d k a::rest) s h=(AR k (s a)).bind fun a=>aE call md rest (upd s d a) h:=NJ d (.fadr k (.t a)) rest
@[go_sem] theorem au8(d a rest):aE call md (nk d a::rest) s h=(Iq (s a)).bind fun a=>aE call md rest (upd s d a) h:=NJ d (.nilck (.t a)) rest
@[go_sem] theorem au9(d k a rest):aE call md (ld d k a::rest) s h=bp (du md.nm s (some d) (iP h k false (s a))) (aE call md rest):=θ _
@[go_sem] theorem ava(d k a rest):aE call md (la d k a::rest) s h=bp (du md.nm s (some d) (iP h k true (s a))) (aE call md rest):=θ _
@[go_sem] theorem avb(d f zas rest):aE call md (ca d f zas::rest) s h=bp (du md.nm s (some d) (bE call md h d (zas.map (ev s)) (.fn f [] []))) (aE call md rest):=θ _
@[go_sem] theorem avc(k x y rest):aE call md (sr k x y::rest) s h=bp (du md.nm s none (lG h k (ev s x) (ev s y))) (aE call md rest):=θ _
@[go_sem] theorem avd(d z rest):aE call md (al d z::rest) s h=bp (du md.nm s (some d) (mK h d z [])) (aE call md rest):=θ _
@[go_sem] theorem ave(d k x rest):aE call md (bx d k x::rest) s h=bp (du md.nm s (some d) (CY h d k (ev s x))) (aE call md rest):=θ _
@[go_sem] theorem awj(d j w op rest):aE call md (⟨d,some (j,w),op⟩::rest) s h=bp (kP d w (du md.nm s d (step call md (d.getD 0) op s h)) s h (s j)) (aE call md rest):=θ _
@[go_sem] theorem aoT(d z rest):aE call md (⟨some d,none,.alloc z⟩::rest) s h=bp (du md.nm s (some d) (mK h d z [])) (aE call md rest):=θ _
@[go_sem] theorem asH(d k x rest):aE call md (⟨some d,none,.box k x⟩::rest) s h=bp (du md.nm s (some d) (CY h d k (ev s x))) (aE call md rest):=θ _
@[go_sem] theorem amO(d k z n ps rest):aE call md (⟨some d,none,.buildSl k z n ps⟩::rest) s h=bp (du md.nm s (some d) ((eH k h (awO n z) (ps.map fun p=>(p.1,ev s p.2))).bind fun q=>cX q.2.1 d k q.1 n q.2.2)) (aE call md rest):=θ _
@[go_sem] theorem aqx(d k z b l c rest):aE call md (⟨some d,none,.mkSl k z b l c⟩::rest) s h=bp (du md.nm s (some d) ((qX (ev s l) (ev s c)).bind fun p=>if p.2*b<=140737488355328 then cX h d k (awO p.1 z) p.1 []else none)) (aE call md rest):=θ _
@[go_sem] theorem aqy(d k g x rest):aE call md (⟨some d,none,.load k g x⟩::rest) s h=bp (du md.nm s (some d) (iP h k g (ev s x))) (aE call md rest):=θ _
@[go_sem] theorem aoU(d k x y rest):aE call md (⟨d,none,.store k x y⟩::rest) s h=bp (du md.nm s d (lG h k (ev s x) (ev s y))) (aE call md rest):=θ _
@[go_sem] theorem asI(d k b x y rest):aE call md (⟨some d,none,.app k b x y⟩::rest) s h=bp (du md.nm s (some d) (LV h d k b (ev s x) (ev s y))) (aE call md rest):=θ _
@[go_sem] theorem aqz(d f zas rest):aE call md (⟨some d,none,.call f zas⟩::rest) s h=bp (du md.nm s (some d) (bE call md h d (zas.map (ev s)) (ev s f))) (aE call md rest):=θ _
@[go_sem] theorem aoV(f zas rest):aE call md (⟨none,none,.call f zas⟩::rest) s h=bp (du md.nm s none (bE call md h 0 (zas.map (ev s)) (ev s f))) (aE call md rest):=θ _
@[go_sem] theorem aqA(nm)(s d x h):du nm s (some d) (some (x,h,[]))=some ⟨upd s d x,h⟩:=by simp only[du,pn,if_true];rfl
@[go_sem] theorem aoW(nm)(s x h):du nm s none (some (x,h,[]))=some ⟨s,h⟩:=by simp only[du,pn,if_true];rfl
@[go_sem] theorem avf(d op):step call md d (.p op) s h=CZ h (gu s op):=θ _
@[go_sem] theorem aoX(d k g x):step call md d (.load k g x) s h=iP h k g (ev s x):=θ _
@[go_sem] theorem aoY(d f zas):step call md d (.call f zas) s h=bE call md h d (zas.map (ev s)) (ev s f):=θ _
@[go_sem] theorem anm(d k x y):step call md d (.store k x y) s h=lG h k (ev s x) (ev s y):=θ _
@[go_sem] theorem ann(d z):step call md d (.alloc z) s h=mK h d z []:=θ _
@[go_sem] theorem aqB(d k x):step call md d (.box k x) s h=CY h d k (ev s x):=θ _
@[go_sem] theorem akO(d k z n ps):step call md d (.buildSl k z n ps) s h=(eH k h (awO n z) (ps.map fun p=>(p.1,ev s p.2))).bind fun q=>cX q.2.1 d k q.1 n q.2.2:=θ _
@[go_sem] theorem aoZ(d k z b l c):step call md d (.mkSl k z b l c) s h=(qX (ev s l) (ev s c)).bind fun p=>if p.2*b<=140737488355328 then cX h d k (awO p.1 z) p.1 []else none:=θ _
@[go_sem] theorem ao0(h a):CZ h (some a)=some (a,h,[]):=θ _
@[go_sem] theorem ano(d st s h):kP d true st s h (.v (.bool true))=st:=θ _
@[go_sem] theorem anp(d st s h):kP d false st s h (.v (.bool false))=st:=θ _
@[go_sem] theorem anq(d st s h):kP (some d) true st s h (.v (.bool false))=some ⟨upd s d .und,h⟩:=θ _
@[go_sem] theorem anr(d st s h):kP (some d) false st s h (.v (.bool true))=some ⟨upd s d .und,h⟩:=θ _
@[go_sem] theorem amP(d w st s h):kP (some d) w st s h .und=some ⟨upd s d .und,h⟩:=θ _
@[go_sem] theorem awz(s n):ev s (.t n)=s n:=θ _
@[go_sem] theorem awA(s a):ev s (.c a)=a:=θ _
@[go_sem] theorem aqC(s):evo s none=none:=θ _
@[go_sem] theorem aqD(s x):evo s (some x)=some (ev s x):=θ _
@[go_sem] theorem avg{α}(s)(d)(x:α)(i):upd s d x i=if i=d then x else s i:=θ _
@[go_sem] theorem avh{α}(d)(f:Nat->α):mk d f []=fun _=>d:=θ _
@[go_sem] theorem asJ{α}(d)(f:Nat->α)(i l):mk d f (i::l)=upd (mk d f l) i (f i):=θ _
@[go_sem] theorem awB(x):gu s (.mv x)=some (ev s x):=θ _
@[go_sem] theorem avi(c a b):gu s (.pick c a b)=J2 (ev s c) (ev s a) (ev s b):=θ _
@[go_sem] theorem asK(x):gu s (.nilck x)=Iq (ev s x):=θ _
@[go_sem] theorem avj(n x):gu s (.nilq n x)=J3 n (ev s x):=θ _
@[go_sem] theorem awk(op x y):gu s (.bin op x y)=dP op (ev s x) (ev s y):=θ _
@[go_sem] theorem awC(op x):gu s (.un op x)=Tv op (ev s x):=θ _
@[go_sem] theorem awD(k x):gu s (.cv k x)=cvA k (ev s x):=θ _
@[go_sem] theorem awl(x):gu s (.cv0 x)=ZJ (ev s x):=θ _
@[go_sem] theorem awm(k x lo hi mx):gu s (.slc k x lo hi mx)=dZ k (ev s x) (evo s lo) (evo s hi) (evo s mx):=θ _
@[go_sem] theorem avk(x lo hi):gu s (.slcS x lo hi)=Tb (ev s x) (evo s lo) (evo s hi):=θ _
@[go_sem] theorem avl(o x):gu s (.fadr o x)=AR o (ev s x):=θ _
@[go_sem] theorem awn(o k g x):gu s (.fld o k g x)=Tx o k g (ev s x):=θ _
@[go_sem] theorem asL(k x i):gu s (.iadrS k x i)=wG k (ev s x) (ev s i):=θ _
@[go_sem] theorem asM(n k x i):gu s (.iadrA n k x i)=FN n k (ev s x) (ev s i):=θ _
@[go_sem] theorem avm(x i):gu s (.idxS x i)=J4 (ev s x) (ev s i):=θ _
@[go_sem] theorem avn(n k g x i):gu s (.idxA n k g x i)=J5 n k g (ev s x) (ev s i):=θ _
@[go_sem] theorem awo(i x):gu s (.ext i x)=Ty i (ev s x):=θ _
@[go_sem] theorem awp(m x):gu s (.len m x)=pU m (ev s x):=θ _
@[go_sem] theorem awq(m t x y):gu s (.eqc m t x y)=Tu m t (ev s x) (ev s y):=θ _
@[go_sem] theorem avo(x):gu s (.capp x)=O4 (ev s x):=θ _
@[go_sem] theorem awr(m x ys):gu s (.mnx m x ys)=Fb m (ev s x) (ys.map (ev s)):=θ _
@[go_sem] theorem asN(z ps):gu s (.build z ps)=(yt z (ps.map fun p=>(p.1,p.2.1,ev s p.2.2))).map .agg:=θ _
@[go_sem] theorem aws(f a b):gu s (.mkF f a b)=some (.fn f (a.map (ev s)) (b.map (ev s))):=θ _
@[go_sem] theorem ao1(a b):J2 (.v (.bool true)) a b=some a:=θ _
@[go_sem] theorem ans(a b):J2 (.v (.bool false)) a b=some b:=θ _
@[go_sem] theorem aqE(id sub k i j):Iq (.ref id sub k i j)=some (.ref id sub k i j):=θ _
@[go_sem] theorem aqF(cs):Iq (.ipt cs)=some (.ipt cs):=θ _
@[go_sem] theorem asO(f a b):Iq (.fn f a b)=some (.fn f a b):=θ _
theorem pG(op a b):dP op (.v a) (.v b)=(kC op a b).map .v:=θ _
@[go_sem] theorem asQ(k a b):dP .add (.v (.int k a)) (.v (.int k b))=some (.v (.int k (k.wrap (a+b)))):=by simp[pG,kC,tU]
@[go_sem] theorem asR(k a b):dP .sub (.v (.int k a)) (.v (.int k b))=some (.v (.int k (k.wrap (a-b)))):=by simp[pG,kC,tU]
@[go_sem] theorem asS(k a b):dP .mul (.v (.int k a)) (.v (.int k b))=some (.v (.int k (k.wrap (a*b)))):=by simp[pG,kC,tU]
@[go_sem] theorem Pi(k a b):dP .quo (.v (.int k a)) (.v (.int k b))=if b=0 then none else some (.v (.int k (k.wrap (a.tdiv b)))):=by simp only[pG,kC,tU,if_true];split<;>rfl
@[go_sem] theorem Ki(k a b):dP .rem (.v (.int k a)) (.v (.int k b))=if b=0 then none else some (.v (.int k (a.tmod b))):=by simp only[pG,kC,tU,if_true];split<;>rfl
@[go_sem] theorem Pj(k a b):dP .and (.v (.int k a)) (.v (.int k b))=some (.v (.int k (k.wrap ((BitVec.ofInt k.bits a&&&BitVec.ofInt k.bits b).toNat)))):=by simp[pG,kC,tU]
@[go_sem] theorem NK(k a b):dP .or (.v (.int k a)) (.v (.int k b))=some (.v (.int k (k.wrap ((BitVec.ofInt k.bits a|||BitVec.ofInt k.bits b).toNat)))):=by simp[pG,kC,tU]
@[go_sem] theorem Kj(k k' a b):dP .shl (.v (.int k a)) (.v (.int k' b))=if b<0 then none else some (.v (.int k (k.wrap (a*2^ (min b.toNat k.bits))))):=by simp only[pG,kC,afa];split<;>rfl
@[go_sem] theorem FU(k k' a b):dP .shr (.v (.int k a)) (.v (.int k' b))=if b<0 then none else some (.v (.int k (a.fdiv (2^ (min b.toNat k.bits))))):=by simp only[pG,kC,afb];split<;>rfl
@[go_sem] theorem asT(k a b):dP .lss (.v (.int k a)) (.v (.int k b))=some (B (decide (a<b))):=by simp[pG,kC,tU]
@[go_sem] theorem asU(k a b):dP .leq (.v (.int k a)) (.v (.int k b))=some (B (decide (a<=b))):=by simp[pG,kC,tU]
@[go_sem] theorem asV(k a b):dP .gtr (.v (.int k a)) (.v (.int k b))=some (B (decide (b<a))):=by simp[pG,kC,tU]
@[go_sem] theorem asW(k a b):dP .geq (.v (.int k a)) (.v (.int k b))=some (B (decide (b<=a))):=by simp[pG,kC,tU]
@[go_sem] theorem asX(k a b):dP .eql (.v (.int k a)) (.v (.int k b))=some (B (decide (a=b))):=by simp[pG,kC,tU];rfl
@[go_sem] theorem asY(k a b):dP .neq (.v (.int k a)) (.v (.int k b))=some (B (!decide (a=b))):=by simp[pG,kC,tU,bne];rfl
@[go_sem] theorem avp(k a):Tv .neg (.v (.int k a))=some (.v (.int k (k.wrap (0-a)))):=θ _
@[go_sem] theorem avq(k a):Tv .xor (.v (.int k a))=some (.v (.int k (k.wrap ((BitVec.ofInt k.bits (if k.signed then-1 else k.max)^^^BitVec.ofInt k.bits a).toNat)))):=θ _
@[go_sem] theorem asZ(k a b):dP .xor (.v (.int k a)) (.v (.int k b))=some (.v (.int k (k.wrap ((BitVec.ofInt k.bits a^^^BitVec.ofInt k.bits b).toNat)))):=by simp[pG,kC,tU]
@[go_sem] theorem avr(b):Tv .not (.v (.bool b))=some (B (!b)):=θ _
@[go_sem] theorem avs(k k' n):cvA k (.v (.int k' n))=some (.v (.int k (k.wrap n))):=θ _
@[go_sem] theorem aqG(o id sub k i j):AR o (.ref id sub k i j)=some (.ref id sub k i (j+o)):=θ _
@[go_sem] theorem aqH(o cs):AR o (.ipt cs)=some (.ipt (cs.drop o)):=θ _
@[go_sem] theorem as0(o k g cs):Tx o k g (.agg cs)=kt k g cs o:=θ _
@[go_sem] theorem ao2(k cs o):kt k false cs o=cs[o]?:=θ _
@[go_sem] theorem aqI(k cs o):kt k true cs o=if o+k<=cs.length then some (.agg ((cs.drop o).take k))else none:=θ _
@[go_sem] theorem as1(k rows k' i):wG k (.sl k rows) (.v (.int k' i))=aW rows i:=by simp[wG]
@[go_sem] theorem aqJ(k id sub lo n k' i):wG k (.rsl id sub k lo n) (.v (.int k' i))=if 0<=i/\i<n then some (.ref id sub k (lo+i.toNat) 0)else none:=by simp[wG]
@[go_sem] theorem ao3(n k id sub k' a j kk i):FN n k (.ref id sub k' a j) (.v (.int kk i))=if 0<=i/\i<n then some (.ref id sub k' a (j+i.toNat*k))else none:=θ _
@[go_sem] theorem ao4(n k cs kk i):FN n k (.ipt cs) (.v (.int kk i))=if 0<=i/\i<n then some (.ipt (cs.drop (i.toNat*k)))else none:=θ _
@[go_sem] theorem as2(i vs):Ty i (.tup vs)=vs[i]?:=θ _
@[go_sem] theorem avt(k rows):pU false (.sl k rows)=some (I rows.length):=θ _
@[go_sem] theorem as3:pU false .emp=some (I 0):=θ _
@[go_sem] theorem as4(a b c d n):pU false (.rsl a b c d n)=some (I n):=θ _
@[go_sem] theorem as5(x):pU true (.v (.string x))=some (I x.size):=θ _
@[go_sem] theorem aqK(m a):Fb m a []=some a:=θ _
@[go_sem] theorem ao5(m a b l):Fb m a (b::l)=(O5 m a b).bind fun c=>Fb m c l:=θ _
@[go_sem] theorem as6(k k' x y):O5 true (.v (.int k x)) (.v (.int k' y))=some (.v (.int k (if y<x then y else x))):=θ _
@[go_sem] theorem as7(k k' x y):O5 false (.v (.int k x)) (.v (.int k' y))=some (.v (.int k (if x<y then y else x))):=θ _
@[go_sem] theorem aqL(m a b):Tu m 0 (.v (.bool a)) (.v (.bool b))=some (B (m != (a==b))):=θ _
@[go_sem] theorem ao6(z):yt z []=some z:=θ _
@[go_sem] theorem ant(z o k a ps):yt z ((o,k,a)::ps)=(gX a).bind fun cs=>if cs.length=k/\o+k<=z.length then yt (setRow z o cs) ps else none:=θ _
@[go_sem] theorem ao7(cs):gX (.agg cs)=some cs:=θ _
@[go_sem] theorem as8(x):gX (.v x)=some [.v x]:=θ _
@[go_sem] theorem ao8:gX .emp=some [.emp]:=θ _
@[go_sem] theorem aqM(k r):gX (.sl k r)=some [.sl k r]:=θ _
@[go_sem] theorem ao9(a b c d e):gX (.rsl a b c d e)=some [.rsl a b c d e]:=θ _
@[go_sem] theorem apa(a b c d e):gX (.ref a b c d e)=some [.ref a b c d e]:=θ _
@[go_sem] theorem aqN(f a b):gX (.fn f a b)=some [.fn f a b]:=θ _
@[go_sem] theorem anu(r j):setRow r j []=r:=θ _
@[go_sem] theorem amQ(r j c cs):setRow r j (c::cs)=setRow (r.set j c) (j+1) cs:=θ _
@[go_sem] theorem aqO(h k g cs):iP h k g (.ipt cs)=(kt k g cs 0).map fun a=>(a,h,[]):=θ _
@[go_sem] theorem aqP(h k g id k0 i j):iP h k g (.ref id none k0 i j)=AT h k g id k0 i j (h id):=θ _
@[go_sem] theorem aqQ(h k g id p k0 i j):iP h k g (.ref id (some p) k0 i j)=og h k g k0 i j (jV p (h id)):=θ _
@[go_sem] theorem aqR(h k g id k0 i j cs):AT h k g id k0 i j (.bx cs)=GF h id (i*k0+j) k g cs:=θ _
@[go_sem] theorem aqS(h k g id k0 i j k' rows):AT h k g id k0 i j (.ar k' rows)=og h k g k0 i j (some (k',rows)):=θ _
@[go_sem] theorem aqT(h k g id k0 i j k' rows):AT h k g id k0 i j (.fz k' rows)=og h k g k0 i j (some (k',rows)):=θ _
@[go_sem] theorem anv(h id p k cs):GF h id p k false cs=(cs[p]?).map fun c=>(AS id p c,h,[]):=θ _
@[go_sem] theorem apb(h id p k cs):GF h id p k true cs=if p+k<=cs.length then(if((cs.drop p).take k).any bq then some (.agg (((cs.map lj).drop p).take k),upd h id (.bx (cs.map lj)),[(id,true)])else some (.agg ((cs.drop p).take k),h,[]))else none:=θ _
@[go_sem] theorem as9(id p x):AS id p (.v x)=.v x:=θ _
@[go_sem] theorem apc(id p):AS id p .emp=.emp:=θ _
@[go_sem] theorem aqU(id p k r):AS id p (.sl k r)=.sl k r:=θ _
@[go_sem] theorem apd(id p a b c d e):AS id p (.ref a b c d e)=.ref a b c d e:=θ _
@[go_sem] theorem aqV(id p f a b):AS id p (.fn f a b)=.fn f a b:=θ _
@[go_sem] theorem ape(id p k r):AS id p (.osl k r)=.rsl id (some p) k 0 r.length:=θ _
@[go_sem] theorem anw(h k g i j k' rows):og h k g k' i j (some (k',rows))=(rows[i]?).bind fun row=>(kt k g row j).map fun a=>(a,h,[]):=by simp[og]
@[go_sem] theorem ata(x):bq (.v x)=false:=θ _
@[go_sem] theorem apf:bq .emp=false:=θ _
@[go_sem] theorem aqW(k r):bq (.sl k r)=false:=θ _
@[go_sem] theorem apg(k r):bq (.osl k r)=true:=θ _
@[go_sem] theorem aph(a b c d e):bq (.ref a b c d e)=false:=θ _
@[go_sem] theorem aqX(f a b):bq (.fn f a b)=false:=θ _
@[go_sem] theorem avu(x):aD (.v x)=true:=θ _
@[go_sem] theorem aqY:aD .emp=true:=θ _
@[go_sem] theorem atb(k r):aD (.sl k r)=true:=θ _
@[go_sem] theorem aqZ(a b c d e):aD (.rsl a b c d e)=false:=θ _
@[go_sem] theorem aq0(a b c d e):aD (.ref a b c d e)=false:=θ _
@[go_sem] theorem aq1(f):aD (.fn f [] [])=true:=θ _
@[go_sem] theorem atc(cs):dat (.agg cs)=cs.all aD:=θ _
@[go_sem] theorem awt(x):dat (.v x)=true:=θ _
@[go_sem] theorem atd:dat .emp=true:=θ _
@[go_sem] theorem avv(k r):dat (.sl k r)=true:=θ _
@[go_sem] theorem ate(a b c d e):dat (.rsl a b c d e)=false:=θ _
@[go_sem] theorem atf(a b c d e):dat (.ref a b c d e)=false:=θ _
@[go_sem] theorem atg(f):dat (.fn f [] [])=true:=θ _
@[go_sem] theorem aq2(h d cs ks):mK h d cs ks=BK h d (.ref d none 0 0 0) (.bx cs) ks (h d):=θ _
@[go_sem] theorem api(h d a o ks):BK h d a o ks .dead=some (a,upd h d o,ks):=θ _
@[go_sem] theorem anx(h d k rows n ks):cX h d k rows n ks=BK h d (.rsl d none k 0 n) (.ar k rows) ks (h d):=θ _
@[go_sem] theorem avw(h d k x):CY h d k x=(gX x).bind fun xs=>if xs.length=k then(if xs.all aD then mK h d xs []else(mK h d (awO k .any) []).bind (LT d 0 xs))else none:=θ _
@[go_sem] theorem akP(k h rows):eH k h rows []=some (rows,h,[]):=θ _
@[go_sem] theorem akt(k h rows i a ps):eH k h rows ((i,a)::ps)=(gX a).bind fun cs=>if cs.length=k/\i<rows.length then(iO h cs).bind fun q=>(eH k q.2.1 (rows.set i q.1) ps).bind fun r=>some (r.1,r.2.1,q.2.2++r.2.2)else none:=θ _
@[go_sem] theorem apj(h):iO h []=some ([],h,[]):=θ _
@[go_sem] theorem anz(h a l):iO h (a::l)=(fK h a).bind fun p=>(iO p.2.1 l).bind fun q=>some (p.1::q.1,q.2.1,p.2.2++q.2.2):=θ _
@[go_sem] theorem avx(h x):fK h (.v x)=some (.v x,h,[]):=θ _
@[go_sem] theorem aq3(h):fK h .emp=some (.emp,h,[]):=θ _
@[go_sem] theorem ath(h k r):fK h (.sl k r)=some (.sl k r,h,[]):=θ _
@[go_sem] theorem ati(h f):fK h (.fn f [] [])=some (.fn f [] [],h,[]):=θ _
@[go_sem] theorem aq4(h id k lo n):fK h (.rsl id none k lo n)=mJ h id k lo n (h id):=θ _
@[go_sem] theorem apk(h id p k lo n):fK h (.rsl id (some p) k lo n)=Is h id p k lo n (h id):=θ _
@[go_sem] theorem atj(h id k lo n rows):mJ h id k lo n (.ar k rows)=if lo+n<=rows.length then some (pk k lo n rows,upd h id (.fz k rows),[])else none:=by simp[mJ]
@[go_sem] theorem atk(h id k lo n rows):mJ h id k lo n (.fz k rows)=if lo+n<=rows.length then some (pk k lo n rows,h,[])else none:=by simp[mJ]
@[go_sem] theorem atl(k lo n rows):pk k lo n rows=.sl k ((rows.drop lo).take n):=θ _
@[go_sem] theorem apl(h k id k0 i j x):lG h k (.ref id none k0 i j) x=(gX x).bind fun xs=>if xs.length=k then Fd h k id k0 i j xs (h id)else none:=θ _
@[go_sem] theorem apm(h k id p k0 i j x):lG h k (.ref id (some p) k0 i j) x=(gX x).bind fun xs=>if xs.length=k then(iO h xs).bind fun q=>Em q.2.1 k id p k0 i j q.1 q.2.2 (q.2.1 id)else none:=θ _
@[go_sem] theorem atn(h k id k0 i j xs cs):Fd h k id k0 i j xs (.bx cs)=O6 h id (i*k0+j) k xs cs:=θ _
@[go_sem] theorem ato(h k id k0 i j xs k' rows):Fd h k id k0 i j xs (.ar k' rows)=(iO h xs).bind fun q=>O7 q.2.1 id k k0 i j q.1 q.2.2 (q.2.1 id):=θ _
@[go_sem] theorem atp(h id k k0 i j xs ks k' rows):O7 h id k k0 i j xs ks (.ar k' rows)=(qW k k0 i j xs k' rows).map fun q=>(.und,upd h id (.ar k' q),ks):=θ _
@[go_sem] theorem atq(k k0 i j cs rows):qW k k0 i j cs k0 rows=(rows[i]?).bind fun row=>if j+k<=row.length then some (rows.set i (setRow row j cs))else none:=by simp[qW]
@[go_sem] theorem atr(h id p k xs cs):O6 h id p k xs cs=if p+k<=cs.length then(if xs.all aD then some (.und,upd h id (.bx (setRow cs p xs)),if((cs.drop p).take k).any bq then [(id,true)]else [])else(rS h id p xs.length xs).map fun q=>(.und,q.1,q.2))else none:=θ _
@[go_sem] theorem ats(hs x):gk hs (.v x)=.v x:=θ _
@[go_sem] theorem apn(hs):gk hs .emp=.emp:=θ _
@[go_sem] theorem aq5(hs k r):gk hs (.sl k r)=.sl k r:=θ _
@[go_sem] theorem apo(hs):gk hs .any=.any:=θ _
@[go_sem] theorem apq(hs cs):gk hs (.ipt cs)=.ipt cs:=θ _
@[go_sem] theorem apr(hs id sub k lo n):gk hs (.rsl id sub k lo n)=if hs.contains id then .rsl id sub k lo n else .any:=θ _
@[go_sem] theorem aps(hs id sub k lo n):gk hs (.ref id sub k lo n)=if hs.contains id then .ref id sub k lo n else .any:=θ _
@[go_sem] theorem apt(hs cs):gk hs (.agg cs)=if cs.all (knownL hs)then .agg cs else .any:=θ _
@[go_sem] theorem apu(hs f):gk hs (.fn f [] [])=.fn f [] []:=θ _
@[go_sem] theorem aq6(hs f a b):gk hs (.fn f a b)=if a.all (knownL hs)&&b.all (knownL hs)then .fn f a b else .any:=θ _
@[go_sem] theorem aq7(hs x):knownL hs (.v x)=true:=θ _
@[go_sem] theorem anA(hs):knownL hs .emp=true:=θ _
@[go_sem] theorem apv(hs k r):knownL hs (.sl k r)=true:=θ _
@[go_sem] theorem anB(hs id a b c d):knownL hs (.ref id a b c d)=hs.contains id:=θ _
@[go_sem] theorem akQ(hs):aC hs .dead=true:=θ _
@[go_sem] theorem anC(hs k r):aC hs (.ar k r)=true:=θ _
@[go_sem] theorem anD(hs k r):aC hs (.fz k r)=true:=θ _
@[go_sem] theorem anE(hs cs):aC hs (.bx cs)=cs.all (jq hs):=θ _
@[go_sem] theorem apw(hs x):jq hs (.v x)=true:=θ _
@[go_sem] theorem amR(hs):jq hs .emp=true:=θ _
@[go_sem] theorem anF(hs k r):jq hs (.sl k r)=true:=θ _
@[go_sem] theorem amS(hs k r):jq hs (.osl k r)=true:=θ _
@[go_sem] theorem amT(hs id a b c):jq hs (.ref id none a b c)=hs.contains id:=by simp[jq,bq,be,bk]
@[go_sem] theorem amU(hs f):jq hs (.fn f [] [])=true:=θ _
@[go_sem] theorem anG{α β:Type}(f:α->β)(a):Option.map f (some a)=some (f a):=θ _
@[go_sem] theorem anH{α β:Type}(f:α->β):Option.map f none=none:=θ _
@[go_sem] theorem amV{α β:Type}(f:α->Option β)(a):(some a).bind f=f a:=θ _
@[go_sem] theorem amW{α β:Type}(f:α->Option β):none.bind f=none:=θ _
@[go_sem] theorem amX{α:Type}(a b:α):(some a).getD b=a:=θ _
@[go_sem] theorem apx{α:Type}(p:α->Bool):[].all p=true:=θ _
@[go_sem] theorem anI{α:Type}(p:α->Bool)(a l):(a::l).all p=(p a&&l.all p):=θ _
@[go_sem] theorem apy{α:Type}(p:α->Bool):[].any p=false:=θ _
@[go_sem] theorem anJ{α:Type}(p:α->Bool)(a l):(a::l).any p=(p a||l.any p):=θ _
@[go_sem] theorem anK{α:Type}(a:α)(l):(a::l)[0]?=some a:=θ _
@[go_sem] theorem anL{α:Type}(a:α)(l)(n):(a::l)[n+1]?=l[n]?:=θ _
@[go_sem] theorem apz{α β:Type}(f:α->β):[].map f=[]:=θ _
@[go_sem] theorem anM{α β:Type}(f:α->β)(a l):(a::l).map f=f a::l.map f:=θ _
@[go_sem] theorem aq8{α β:Type}(f:α->List β):[].flatMap f=[]:=θ _
@[go_sem] theorem apA{α β:Type}(f:α->List β)(a l):(a::l).flatMap f=f a++l.flatMap f:=θ _
@[go_sem] theorem apB{α:Type}(l:List α):l++[]=l:=axe l
@[go_sem] theorem apC{α:Type}(l:List α):[]++l=l:=θ _
@[go_sem] theorem anN{α:Type}(a:α)(l r):(a::l)++r=a::(l++r):=θ _
@[go_sem] theorem apD{α:Type}:([]:List α).length=0:=θ _
@[go_sem] theorem anO{α:Type}(a:α)(l):(a::l).length=l.length+1:=θ _
@[go_sem] theorem amY{α:Type}(l:List α):l.drop 0=l:=θ _
@[go_sem] theorem amZ{α:Type}(a:α)(l)(n):(a::l).drop (n+1)=l.drop n:=θ _
@[go_sem] theorem am0{α:Type}(l:List α):l.take 0=[]:=θ _
@[go_sem] theorem am1{α:Type}(a:α)(l)(n):(a::l).take (n+1)=a::l.take n:=θ _
@[go_sem] theorem akR{α:Type}(p:α->Bool):[].filter p=[]:=θ _
@[go_sem] theorem anP{α:Type}(a b:α)(l):(a::l).set 0 b=b::l:=θ _
@[go_sem] theorem anQ{α:Type}(a b:α)(l)(n):(a::l).set (n+1) b=a::l.set n b:=θ _
@[go_sem] theorem avy{α:Type}(a:α):awO 0 a=[]:=θ _
@[go_sem] theorem avz{α:Type}(a:α):awO 1 a=[a]:=θ _
@[go_sem] theorem avA{α:Type}(a:α):awO 2 a=[a,a]:=θ _
@[go_sem] theorem avB{α:Type}(a:α):awO 3 a=[a,a,a]:=θ _
@[go_sem] theorem avC{α:Type}(a:α):awO 4 a=[a,a,a,a]:=θ _
@[go_sem] theorem avD{α:Type}(a:α):awO 5 a=[a,a,a,a,a]:=θ _
@[go_sem] theorem awE:decide True=true:=θ _
@[go_sem] theorem awF:decide False=false:=θ _
@[go_sem] theorem att(b):(true&&b)=b:=θ _
@[go_sem] theorem atu(b):(false&&b)=false:=θ _
@[go_sem] theorem avE(b):(true||b)=true:=θ _
@[go_sem] theorem avF(b):(false||b)=b:=θ _
@[go_sem] theorem atv:(!true)=false:=θ _
@[go_sem] theorem atw:(!false)=true:=θ _
@[go_sem] theorem atx(b):(b&&true)=b:=Bool.and_true b
@[go_sem] theorem awG:(false=true)=False:=by simp
@[go_sem] theorem awu{α:Type}(a:α):(a=a)=True:=by simp
@[go_sem] theorem avG(p):(True/\p)=p:=by simp
@[go_sem] theorem aty(p):(p/\True)=p:=by simp
@[go_sem] theorem avH(p):(False/\p)=False:=by simp
@[go_sem] theorem avI:(¬False)=True:=by simp
@[go_sem] theorem avJ:(¬True)=False:=by simp
@[go_sem] theorem aq9(nm rs res n t):gZ nm rs res n (some (.ret,t))=C0 nm rs res n t.s t.h:=θ _
@[go_sem] theorem am2(nm rs res n t):gZ nm rs res n (some (.normal,t))=C0 nm rs res n t.s t.h:=θ _
@[go_sem] theorem apE(nm rs res n s h):C0 nm rs res n s h=(AX s h res).bind fun q=>if qZ nm q.2.2 then wd rs n q.2.1 q.1 else none:=θ _
@[go_sem] theorem avK(nm):qZ nm []=true:=pn nm
@[go_sem] theorem apF(s h):AX s h []=some ([],h,[]):=θ _
@[go_sem] theorem atz(s h n l):AX s h (.t n::l)=(AX s h l).bind fun q=>some (TJ q.2.2 (s n)::q.1,q.2.1,q.2.2):=θ _
@[go_sem] theorem anR(s h n k g l):AX s h (.cell n k g::l)=(iP h k g (s n)).bind fun p=>(AX (jU p.2.2 s) p.2.1 l).bind fun q=>some (TJ q.2.2 p.1::q.1,q.2.1,p.2.2++q.2.2):=θ _
@[go_sem] theorem ara(a):TJ [] a=a:=θ _
@[go_sem] theorem apG(s):jU [] s=s:=θ _
@[go_sem] theorem avL(rs h vs):wd rs 0 h vs=if kD ((vs.flatMap bX).filter fun i=>!bg i)then(uQ h vs).map fun us=>(wX (bo rs us),[])else none:=by simp[wd,cU]
@[go_sem] theorem apH(h):uQ h []=some []:=θ _
@[go_sem] theorem anS(h a l):uQ h (a::l)=(rh h a).bind fun b=>(uQ h l).bind fun q=>some (b::q):=θ _
@[go_sem] theorem avM(h x):rh h (.v x)=some (.v x):=θ _
@[go_sem] theorem arb(h):rh h .emp=some .emp:=θ _
@[go_sem] theorem atA(h k r):rh h (.sl k r)=some (.sl k r):=θ _
@[go_sem] theorem arc(h cs):rh h (.agg cs)=(lV h cs).map .agg:=θ _
@[go_sem] theorem ard(h id k lo n):rh h (.rsl id none k lo n)=if bg id then none else BN k lo n (h id):=θ _
@[go_sem] theorem atB(k lo n rows):BN k lo n (.ar k rows)=if lo+n<=rows.length then(if lo=0/\n=rows.length then some (.osl k rows)else some (pk k lo n rows))else none:=by simp[BN]
@[go_sem] theorem atC(k lo n rows):BN k lo n (.fz k rows)=if lo+n<=rows.length then some (pk k lo n rows)else none:=by simp[BN]
@[go_sem] theorem apI(h):lV h []=some []:=θ _
@[go_sem] theorem atD(h x l):lV h (.v x::l)=(lV h l).bind fun q=>some (.v x::q):=θ _
@[go_sem] theorem apJ(h l):lV h (.emp::l)=(lV h l).bind fun q=>some (.emp::q):=θ _
@[go_sem] theorem are(h k r l):lV h (.sl k r::l)=(lV h l).bind fun q=>some (.sl k r::q):=θ _
@[go_sem] theorem apK(h id k lo n l):lV h (.rsl id none k lo n::l)=(lU h (.rsl id none k lo n)).bind fun b=>(BO b).bind fun c=>(lV h l).bind fun q=>some (c::q):=θ _
@[go_sem] theorem arf(h id k lo n):lU h (.rsl id none k lo n)=if bg id then none else BN k lo n (h id):=θ _
@[go_sem] theorem arg(k r):BO (.osl k r)=some (.sl k r):=θ _
@[go_sem] theorem atE(k r):BO (.sl k r)=some (.sl k r):=θ _
@[go_sem] theorem atF(a):wX [a]=a:=θ _
@[go_sem] theorem atG(a b l):wX (a::b::l)=.tup (a::b::l):=θ _
@[go_sem] theorem atH:wX []=.tup []:=θ _
@[go_sem] theorem apL(l):bo [] l=l:=by cases l<;>simp[bo]
@[go_sem] theorem anT(s):bo s []=[]:=by cases s<;>simp[bo]
@[go_sem] theorem anU(s ss a l):bo (s::ss) (a::l)=nrmV s a::bo ss l:=θ _
@[go_sem] theorem afB(a):nrmV [] a=a:=by cases a<;>simp[nrmV,nrmL,dK]
@[go_sem] theorem arh(ss cs):nrmV ss (.agg cs)=.agg (dK ss cs):=θ _
@[go_sem] theorem avN(ss x):nrmV ss (.v x)=.v x:=by
 show nrmL _ _=_;generalize ss.headD (.o 0 [])=s;obtain⟨k,cs⟩:=s;cases k<;>simp[nrmL]
@[go_sem] theorem ari(k cs ss):nrmV (.o (k+1) cs::ss) .emp=.sl k []:=by simp[nrmV,nrmL]
@[go_sem] theorem atI(k cs ss k' rows):nrmV (.o (k+1) cs::ss) (.sl k' rows)=.sl k' (rows.map (dK cs)):=by simp[nrmV,nrmL]
@[go_sem] theorem arj(k cs ss k' rows):nrmV (.o (k+1) cs::ss) (.osl k' rows)=.sl k' (rows.map (dK cs)):=by simp[nrmV,nrmL]
@[go_sem] theorem Un(l):dK [] l=l:=by cases l<;>simp[dK]
@[go_sem] theorem apM(l):dK l []=[]:=by cases l<;>simp[dK]
@[go_sem] theorem apN(s ss a l):dK (s::ss) (a::l)=nrmL s a::dK ss l:=by simp[dK]
@[go_sem] theorem avO(cs a):nrmL (.o 0 cs) a=a:=by simp[nrmL]
@[go_sem] theorem ark(k cs):nrmL (.o (k+1) cs) .emp=.sl k []:=by simp[nrmL]
@[go_sem] theorem atJ(k cs k' rows):nrmL (.o (k+1) cs) (.sl k' rows)=.sl k' (rows.map (dK cs)):=by simp[nrmL]
@[go_sem] theorem avP(k cs x):nrmL (.o k cs) (.v x)=.v x:=by cases k<;>simp[nrmL]
@[go_sem] theorem avQ(x):bX (.v x)=[]:=θ _
@[go_sem] theorem arl:bX .emp=[]:=θ _
@[go_sem] theorem atK(k r):bX (.sl k r)=[]:=θ _
@[go_sem] theorem arm(cs):bX (.agg cs)=cs.flatMap fE:=θ _
@[go_sem] theorem arn(a b c d e):bX (.rsl a b c d e)=[a]:=θ _
@[go_sem] theorem avR(x):fE (.v x)=[]:=θ _
@[go_sem] theorem aro:fE .emp=[]:=θ _
@[go_sem] theorem atL(k r):fE (.sl k r)=[]:=θ _
@[go_sem] theorem arp(a b c d e):fE (.rsl a b c d e)=[a]:=θ _
@[go_sem] theorem anV:kD []=true:=θ _
@[go_sem] theorem anW(a):kD [a]=true:=θ _
@[go_sem] theorem atM(args i):tW args i=(args[i]?).getD .any:=θ _
@[go_sem] theorem aaG:ap []=fun _=>.dead:=by funext i;simp[ap]
@[go_sem] theorem apO(i):bg i=decide (1000<=i/\i<2000):=θ _
def kR(h:ac)(d:Nat):Option (AV×List Ob)->Option R3
 |some (r,[])=>if cz r<=8/\cw h (2000+8*d) (cz r)=true/\iW [] r=true then some ((mat (2000+8*d) h r).1,(mat (2000+8*d) h r).2,[])else none
 |_=>none
theorem kS{c}{ids}{n}(hn:2000<=n)(hc:bk [] c=true\/(∃k lo m,c=.rsl n none k lo m)\/∃k i j,c=.ref n none k i j):jW (dA ids) c=c:=by
 have hb:dA ids n=n:=by unfold dA;rw[if_neg (by omega)]
 rcases hc with hc| ⟨k,lo,m,rfl⟩| ⟨k,i,j,rfl⟩
 ·cases c<;>simp[bk]at hc<;>rfl
 ·simp[jW,hb]
 ·simp[jW,hb]
theorem Q8{r}{n}(hn:2000<=n)(h)(ids)(hr:aEt [] r=true):dQ (dA ids) (dG n h r).1=(dG n h r).1:=by
 cases r<;>simp only[aEt]at hr<;>simp only[dG]
 case osl=>simp only[dQ];exact kS hn (.inr (.inl ⟨_,_,_,rfl⟩))
 case obx=>simp only[dQ];exact kS hn (.inr (.inr ⟨_,_,_,rfl⟩))
 case agg cs=>
  simp only[be,axj]at hr;simp only[dQ,AV.agg.injEq];exact(axy (g:=fun c=>c) fun c hc=>kS hn (.inl (hr c hc))).trans (axN cs)
 case fn f x y=>
  simp only[be,awS,axj]at hr;simp only[dQ,AV.fn.injEq,true_and];exact⟨(axy (g:=fun c=>c) fun c hc=>kS hn (.inl (hr.1 c hc))).trans (axN x),(axy (g:=fun c=>c) fun c hc=>kS hn (.inl (hr.2 c hc))).trans (axN y)⟩
 all_goals
  simp only[dQ];exact kS hn (.inl hr)
theorem Q9(ids):∀ {l} {n} {h},2000<=n->l.all (aEt [])=true->(cK n h l).1.map (dQ (dA ids))=(cK n h l).1
 |[],n,h,_,_=>rfl
 |c::l,n,h,hn,hr=>by
  simp only[axu,awS]at hr;simp only[cK,axp];rw[Q8 hn h ids hr.1,Q9 ids (by omega) hr.2]
theorem afC{r}{n}(hn:2000<=n)(h)(ids)(hr:iW [] r=true):Fe (dA ids) (mat n h r).1=(mat n h r).1:=by
 cases r with
 |tup vs=>
  simp only[iW]at hr;simp only[mat,Fe,AV.tup.injEq];exact Q9 ids hn hr
 |_=>
  simp only[iW]at hr;have:=Q8 hn h ids hr;simp only[mat];simp only[dG]at this⊢;exact this
theorem Ra:∀l,qY [] l=[]
 |[]=>rfl
 |a::l=>by simp[qY,Ra l]
theorem xX{f}{args}(d)(hm:md.m f=[])(hd:args.all dat=true):bE call md h d args (.fn f [] [])=kR h d (call f (bo (md.sh f) args) []):=by
 have hin:=by
  have:∀l,l.all dat=true->bQ h [] l=some (l,h,[]):=by
   intro l;induction l with
   |nil=>intro _;rfl
   |cons a l ih=>
    intro hd;simp only[axu,awS]at hd;have ha:dw h 0 a=some (a,h,[]):=by
     have h1:=hd.1;by_cases hagg:∃cs,a=.agg cs
     ·obtain⟨cs,rfl⟩:=hagg;simp only[dat]at h1;simp only[dw,vV];rw[me h1 h];rfl
     ·have h2:aD a=true:=by cases a<;>first|exact h1|exact absurd ⟨_,rfl⟩ hagg
      cases a<;>first| (simp[aD]at h2;done)|rfl|skip
    simp only[bQ,List.headD_nil,ha,awV,List.tail_nil,ih hd.2,axe]
  exact this args hd
 have hids:args.flatMap bX=[]:=by
  rw[List.flatMap_eq_nil_iff];exact fun c hc=>TY (List.all_eq_true.1 hd c hc)
 have hren:(bo (md.sh f) args).map (dQ (bj []))=bo (md.sh f) args/\(bo (md.sh f) args).all (be [])=true:=by
  have key:∀c∈bo (md.sh f) args,dat c=true:=by
   intro c hc;obtain⟨i,hi⟩:=List.getElem?_of_mem hc;obtain⟨c0,h1,h2⟩:=xW _ _ _ _ hi;have h0:=List.all_eq_true.1 hd c0 (List.mem_of_getElem? h1);rcases h2 with rfl| ⟨ss,rfl⟩
   ·exact h0
   ·cases c0<;>simp only[dat]at h0<;>simp only[nrmV,dat]<;>try (have:=C9 (s:=ss.headD (.o 0 [])) h0;revert this;generalize nrmL _ _=q;intro this;cases q<;>first|exact this|simp[aD]at this)
    rename_i cs;rw[axj];intro c hc;obtain⟨i,hi⟩:=List.getElem?_of_mem hc;obtain⟨c0,h1,h2⟩:=C8 _ _ _ _ hi;have h3:=List.all_eq_true.1 h0 c0 (List.mem_of_getElem? h1);rcases h2 with rfl| ⟨s,rfl⟩
    ·exact h3
    ·exact C9 h3
  refine⟨(axy (g:=fun c=>c) fun c hc=>?_).trans (axN _),?_⟩
  ·have:=key c hc;cases c<;>simp only[dat]at this<;>first|rfl|skip
   all_goals first
    | (simp[aD]at this;done)
    |skip
   ·rename_i cs;simp only[dQ,AV.agg.injEq];refine(axy (g:=fun c=>c) fun c hc=>?_).trans (axN cs);have h3:=List.all_eq_true.1 this c hc;cases c<;>simp[aD]at h3<;>rfl
   ·rename_i g x y;simp[aD]at this;obtain⟨rfl,rfl⟩:=this;rfl
  ·rw[axj];intro c hc;have:=key c hc;cases c<;>simp only[dat]at this<;>first|rfl|skip
   all_goals first
    | (simp[aD]at this;done)
    |skip
   ·rename_i cs;simp only[be,axj];intro c hc;have h3:=List.all_eq_true.1 this c hc;cases c<;>simp[aD]at h3<;>simp[bk,h3]
   ·rename_i g x y;simp[aD]at this;obtain⟨rfl,rfl⟩:=this;rfl
 unfold bE;rw[if_neg (by simp[jX,hm])];simp only[dS,axc,axe,awV,bF,QV,jK,hren.2,List.all_nil,axm,if_true,hren.1,axv,Ra, *];cases hr:call f (bo (md.sh f) args) []with
 |none=>rfl
 |some q=>
  obtain⟨r,os⟩:=q;cases os with
  |cons o os=>simp only[awV,eJ,kR];simp
  |nil=>
   simp only[awV,eJ,kR,axI,axz,true_and,cY,oj,BL,List.all_nil,awT,Bool.and_true,Eo,cU,List.range'_zero,eu,fR];by_cases hc:cz r<=8/\cw h (2000+8*d) (cz r)=true/\iW [] r=true
   ·rw[if_pos hc,if_pos hc,afC (by omega) h [] hc.2.2];simp
   ·rw[if_neg hc,if_neg hc]
def GZ(call:iG)(md:Mode)(d:Nat)(f:FuncId)(p:List AV×ac×K):Option R3:=
 jK call md p.2.1 d f (bV p.2.1 40 (bF [] (p.1.flatMap bX)) 0) (bo (md.sh f) p.1) p.2.2
theorem G0{f}{args}(d)(hm:md.m f=[]):bE call md h d args (.fn f [] [])=(bQ h [] args).bind (GZ call md d f):=by
 unfold bE;rw[if_neg (by simp[jX,hm])];simp only[dS,hm,axc,axe];rfl
@[go_sem] theorem apP{f}{zs}(d)(hm:md.m f=[])(hd:zs.all dat=true):GZ call md d f (zs,h,[])=kR h d (call f (bo (md.sh f) zs) []):=by
 rw[←xX d hm hd,G0 d hm];have hin:∀l,l.all dat=true->bQ h [] l=some (l,h,[]):=by
  intro l;induction l with
  |nil=>intro _;rfl
  |cons a l ih=>
   intro hd;simp only[axu,awS]at hd;have ha:dw h 0 a=some (a,h,[]):=by
    have h1:=hd.1;by_cases hagg:∃cs,a=.agg cs
    ·obtain⟨cs,rfl⟩:=hagg;simp only[dat]at h1;simp only[dw,vV];rw[me h1 h];rfl
    ·have h2:aD a=true:=by cases a<;>first|exact h1|exact absurd ⟨_,rfl⟩ hagg
     cases a<;>first| (simp[aD]at h2;done)|rfl|skip
   simp only[bQ,List.headD_nil,ha,awV,List.tail_nil,ih hd.2,axe]
 rw[hin zs hd];rfl
@[go_sem] theorem anX(h):bQ h [] []=some ([],h,[]):=θ _
@[go_sem] theorem am3(h a l):bQ h [] (a::l)=(dw h 0 a).bind fun p=>(bQ p.2.1 [] l).bind fun q=>some (p.1::q.1,q.2.1,p.2.2++q.2.2):=θ _
@[go_sem] theorem atN(h x):dw h 0 (.v x)=some (.v x,h,[]):=θ _
@[go_sem] theorem apQ(h):dw h 0 .emp=some (.emp,h,[]):=θ _
@[go_sem] theorem arq(h k r):dw h 0 (.sl k r)=some (.sl k r,h,[]):=θ _
@[go_sem] theorem arr(h f a b):dw h 0 (.fn f a b)=some (.fn f a b,h,[]):=θ _
@[go_sem] theorem apR(h a b c d):dw h 0 (.ref a none b c d)=some (.ref a none b c d,h,[]):=θ _
@[go_sem] theorem apS(h cs):dw h 0 (.ipt cs)=some (.ipt cs,h,[]):=θ _
@[go_sem] theorem apT(h id k lo n):dw h 0 (.rsl id none k lo n)=mJ h id k lo n (h id):=θ _
@[go_sem] theorem anY(h id p k lo n):dw h 0 (.rsl id (some p) k lo n)=Is h id p k lo n (h id):=θ _
@[go_sem] theorem apU(h cs):dw h 0 (.agg cs)=(iO h cs).bind fun p=>some (.agg p.1,p.2):=θ _
@[go_sem] theorem atO(h d x):kR h d (some (.v x,[]))=if cw h (2000+8*d) 1=true then some (.v x,h,[])else none:=by
 simp[kR,cz,iW,aEt,be,bk,mat,dG]
@[go_sem] theorem afD(h d k r):kR h d (some (.sl k r,[]))=if cw h (2000+8*d) 1=true then some (.sl k r,h,[])else none:=by
 simp[kR,cz,iW,aEt,be,bk,mat,dG]
@[go_sem] theorem apV(h d cs)(hd:cs.all aD=true):kR h d (some (.agg cs,[]))=if cw h (2000+8*d) 1=true then some (.agg cs,h,[])else none:=by
 have:cs.all (bk [])=true:=by
  rw[axj]at hd⊢;intro c hc;have:=hd c hc;cases c<;>simp[aD]at this<;>simp[bk,this]
 simp only[kR,cz,iW,aEt,be,mat,dG,this,and_true];simp
@[go_sem] theorem apW(h d vs)(h8:vs.length<=8)(hd:vs.all dat=true):kR h d (some (.tup vs,[]))=if cw h (2000+8*d) vs.length=true then some (.tup vs,h,[])else none:=by
 have h1:vs.all (aEt [])=true:=by
  rw[axj]at hd⊢;intro c hc;have:=hd c hc;cases c<;>simp only[dat]at this<;>simp only[aEt,be]<;>try (simp[aD]at this<;>simp[bk,this];done)
  rename_i cs;rw[axj]at this⊢;intro c hc;have:=this c hc;cases c<;>simp[aD]at this<;>simp[bk,this]
 have h2:∀l n g,l.all dat=true->cK n g l=(l,g):=by
  intro l;induction l with
  |nil=>intro n g _;rfl
  |cons c l ih=>
   intro n g hd;simp only[axu,awS]at hd;have hc:dG n g c=(c,g):=by
    have:=hd.1;cases c<;>simp only[dat,aD]at this<;>first|rfl| (cases this;done)
   simp only[cK,hc,ih _ _ hd.2]
 simp only[kR,cz,iW,mat,h2 vs _ _ hd,true_and,and_true, *]
@[go_sem] theorem apX(h d k r):kR h d (some (.osl k r,[]))=if cw h (2000+8*d) 1=true then some (.rsl (2000+8*d) none k 0 r.length,upd h (2000+8*d) (.ar k r),[])else none:=by
 simp[kR,cz,iW,aEt,mat,dG]
@[go_sem] theorem anZ(h n):cw h n 0=true:=θ _
@[go_sem] theorem an0(h n m):cw h n (m+1)=(bS (h n)&&cw h (n+1) m):=θ _
@[go_sem] theorem am4:bS .dead=true:=θ _
def cV(call:iG)(md:Mode)(ps:List (Nat×Nat)):List Fp->List COp->ak->ac->Option St
 |acc,[],s,h=>if ps.all (xS acc)=true then some ⟨s,h⟩else none
 |acc,o::rest,s,h=>(eE call md o s h).bind fun r=>cV call md ps (acc++[r.2]) rest r.1.s r.1.h
theorem X6(ps):∀l acc s h,cV call md ps acc l s h=(gY call md l s h).bind fun r=>if ps.all (xS (acc++r.2))=true then some r.1 else none
 |[],acc,s,h=>by simp only[cV,gY,awV,axe]
 |o::l,acc,s,h=>by
  simp only[cV,gY];cases eE call md o s h with
  |none=>rfl
  |some r=>
   simp only[awV];rw[X6 ps l];cases gY call md l r.1.s r.1.h with
   |none=>rfl
   |some q=>simp only[awV,axL,List.singleton_append]
@[go_sem] theorem apY:AW []=none:=θ _
@[go_sem] theorem an1(p g l):AW ((p,g)::l)=if 1000000<=p then some (p-1000000,g)else none:=θ _
theorem Uo(l ps):Bj call md l ps s h=cV call md ps [] l s h:=by
 rw[X6];rfl
theorem ain(ps)(l)(h0:AW ps=none):rg call md l ps s h=cV call md ps [] l s h:=by
 unfold rg;rw[h0];exact Uo l ps
def afE(call:iG)(md:Mode)(m g:Nat)(ps:List (Nat×Nat))(l:List COp)(s:ak)(h:ac):Option St:=
 bp (cV call md ps [] (l.take m) s h) fun s h=>bp (tr md.nm g s h) (aE call md (l.drop m))
@[go_sem] theorem ars(l ps):rg call md l ps s h=match AW ps with
  |some q=>afE call md q.1 q.2 ps.tail l s h
  |none=>cV call md ps [] l s h:=by
 cases hb:AW ps with
 |none=>exact ain ps l hb
 |some q=>
  unfold rg;rw[hb];simp only[afE,GG];rw[←Uo _ _,Bj];cases gY call md (l.take q.1) s h with
  |none=>rfl
  |some r=>
   simp only[awV];split<;>rfl
def iZ(call:iG)(md:Mode)(ps:List (Nat×Nat))(acc:List Fp)(rest:List COp)(s:ak)(d:Option Nat)(f:ac->Fp):Option R3->Option St
 |some (x,h,[])=>cV call md ps (acc++[f h]) rest (fL s d x) h
 |_=>none
theorem eR(ps acc)(o)(rest)(hg:o.g=none):cV call md ps acc (o::rest) s h=iZ call md ps acc rest s o.d (gj (o.d.getD 0) o.op s h) (step call md (o.d.getD 0) o.op s h):=by
 simp only[cV,eE,hg,nD];cases step call md (o.d.getD 0) o.op s h with
 |none=>rfl
 |some r=>
  obtain⟨x,h',ks⟩:=r;cases ks<;>rfl
@[go_sem] theorem art(ps acc):cV call md ps acc [] s h=if ps.all (xS acc)=true then some ⟨s,h⟩else none:=θ _
@[go_sem] theorem Kk(ps acc d op rest):cV call md ps acc (co d op::rest) s h=(gu s op).bind fun a=>cV call md ps (acc++[some ([],[])]) rest (upd s d a) h:=by
 rw[eR _ _ _ _ rfl];simp only[co,step,CZ];cases gu s op<;>rfl
@[go_sem] theorem atP(ps acc d n rest):cV call md ps acc (cm d n::rest) s h=cV call md ps (acc++[some ([],[])]) rest (upd s d (s n)) h:=Kk ps acc d (.mv (.t n)) rest
@[go_sem] theorem apZ(ps acc d k g x rest):cV call md ps acc (⟨some d,none,.load k g x⟩::rest) s h=iZ call md ps acc rest s (some d) (fun _=>tV (ev s x)) (iP h k g (ev s x)):=eR _ _ _ _ rfl
@[go_sem] theorem an2(ps acc d k x y rest):cV call md ps acc (⟨d,none,.store k x y⟩::rest) s h=iZ call md ps acc rest s d (fun _=>AU (ev s y) (ev s x)) (lG h k (ev s x) (ev s y)):=eR _ _ _ _ rfl
@[go_sem] theorem ap0(ps acc d f zas rest):cV call md ps acc (⟨some d,none,.call f zas⟩::rest) s h=iZ call md ps acc rest s (some d) (iX h d (oA (zas.map (ev s)) (ev s f))) (bE call md h d (zas.map (ev s)) (ev s f)):=eR _ _ _ _ rfl
@[go_sem] theorem an3(ps acc d z rest):cV call md ps acc (⟨some d,none,.alloc z⟩::rest) s h=iZ call md ps acc rest s (some d) (fun _=>some ([],[dx d])) (mK h d z []):=eR _ _ _ _ rfl
@[go_sem] theorem aru(ps acc d k x rest):cV call md ps acc (⟨some d,none,.box k x⟩::rest) s h=iZ call md ps acc rest s (some d) (fun _=>if dat (ev s x)=true then some ([],[dx d])else none) (CY h d k (ev s x)):=eR _ _ _ _ rfl
@[go_sem] theorem akS(ps acc d k z n qs rest):cV call md ps acc (⟨some d,none,.buildSl k z n qs⟩::rest) s h=iZ call md ps acc rest s (some d) (fun _=>if(qs.all fun p=>dat (ev s p.2))=true then some ([],[dx d])else none) ((eH k h (awO n z) (qs.map fun p=>(p.1,ev s p.2))).bind fun q=>cX q.2.1 d k q.1 n q.2.2):=eR _ _ _ _ rfl
@[go_sem] theorem atQ(ps acc d op a b rest):cV call md ps acc (b2 d op a b::rest) s h=(dP op (s a) (s b)).bind fun a=>cV call md ps (acc++[some ([],[])]) rest (upd s d a) h:=Kk ps acc d (.bin op (.t a) (.t b)) rest
@[go_sem] theorem atS(ps acc d k a rest):cV call md ps acc (fa d k a::rest) s h=(AR k (s a)).bind fun a=>cV call md ps (acc++[some ([],[])]) rest (upd s d a) h:=Kk ps acc d (.fadr k (.t a)) rest
@[go_sem] theorem atT(ps acc d a rest):cV call md ps acc (nk d a::rest) s h=(Iq (s a)).bind fun a=>cV call md ps (acc++[some ([],[])]) rest (upd s d a) h:=Kk ps acc d (.nilck (.t a)) rest
@[go_sem] theorem atU(ps acc d k a rest):cV call md ps acc (ld d k a::rest) s h=iZ call md ps acc rest s (some d) (fun _=>tV (s a)) (iP h k false (s a)):=eR _ _ _ _ rfl
@[go_sem] theorem atV(ps acc d k a rest):cV call md ps acc (la d k a::rest) s h=iZ call md ps acc rest s (some d) (fun _=>tV (s a)) (iP h k true (s a)):=eR _ _ _ _ rfl
@[go_sem] theorem atW(ps acc d f zas rest):cV call md ps acc (ca d f zas::rest) s h=iZ call md ps acc rest s (some d) (iX h d (oA (zas.map (ev s)) (.fn f [] []))) (bE call md h d (zas.map (ev s)) (.fn f [] [])):=eR _ _ _ _ rfl
@[go_sem] theorem atX(ps acc k x y rest):cV call md ps acc (sr k x y::rest) s h=iZ call md ps acc rest s none (fun _=>AU (ev s y) (ev s x)) (lG h k (ev s x) (ev s y)):=eR _ _ _ _ rfl
@[go_sem] theorem atY(ps acc d z rest):cV call md ps acc (al d z::rest) s h=iZ call md ps acc rest s (some d) (fun _=>some ([],[dx d])) (mK h d z []):=eR _ _ _ _ rfl
@[go_sem] theorem atZ(ps acc d k x rest):cV call md ps acc (bx d k x::rest) s h=iZ call md ps acc rest s (some d) (fun _=>if dat (ev s x)=true then some ([],[dx d])else none) (CY h d k (ev s x)):=eR _ _ _ _ rfl
@[go_sem] theorem ap1(ps acc rest s d f x h):iZ call md ps acc rest s (some d) f (some (x,h,[]))=cV call md ps (acc++[f h]) rest (upd s d x) h:=θ _
@[go_sem] theorem an4(ps acc rest s f x h):iZ call md ps acc rest s none f (some (x,h,[]))=cV call md ps (acc++[f h]) rest s h:=θ _
theorem akT(ps acc)(o)(j w rest)(hg:o.g=some (j,w)){b}(hb:s j=.v (.bool b)):cV call md ps acc (o::rest) s h=
  if b=w then iZ call md ps acc rest s o.d (gj (o.d.getD 0) o.op s h) (step call md (o.d.getD 0) o.op s h)else cV call md ps (acc++[some ([],[])]) rest (fL s o.d .und) h:=by
 simp only[cV,eE,re, *];split
 ·simp only[nD];cases step call md (o.d.getD 0) o.op s h with
  |none=>rfl
  |some r=>
   obtain⟨x,h',ks⟩:=r;cases ks<;>rfl
 ·rfl
def Up(call:iG)(md:Mode)(ps:List (Nat×Nat))(acc:List Fp)(rest:List COp)(s:ak)(h:ac)(d:Option Nat)(w:Bool)(op:AOp):AV->Option St
 | .v (.bool b)=>if b=w then iZ call md ps acc rest s d (gj (d.getD 0) op s h) (step call md (d.getD 0) op s h)else cV call md ps (acc++[some ([],[])]) rest (fL s d .und) h
 | .und=>cV call md ps (acc++[some ([],[])]) rest (fL s d .und) h
 |_=>none
@[go_sem] theorem aio(ps acc d j w op rest):cV call md ps acc (⟨d,some (j,w),op⟩::rest) s h=Up call md ps acc rest s h d w op (s j):=by
 by_cases hb:∃b,s j=.v (.bool b)
 ·obtain⟨b,hb⟩:=hb;rw[akT ps acc ⟨d,some (j,w),op⟩ j w rest rfl hb,hb];rfl
 ·simp only[cV,eE];cases hq:s j<;>first|rfl|skip
  rename_i x;cases x<;>first|rfl|exact absurd ⟨_,hq⟩ hb
@[go_sem] theorem at0(ps acc d j w op rest):cV call md ps acc (cg d j w op::rest) s h=Up call md ps acc rest s h (some d) w (.p op) (s j):=aio ps acc (some d) j w (.p op) rest
@[go_sem] theorem avS(ps acc rest s h d op):Up call md ps acc rest s h (some d) true op (.v (.bool true))=iZ call md ps acc rest s (some d) (gj d op s h) (step call md d op s h):=θ _
@[go_sem] theorem avT(ps acc rest s h d op):Up call md ps acc rest s h (some d) false op (.v (.bool false))=iZ call md ps acc rest s (some d) (gj d op s h) (step call md d op s h):=θ _
@[go_sem] theorem avU(ps acc rest s h d op):Up call md ps acc rest s h (some d) true op (.v (.bool false))=cV call md ps (acc++[some ([],[])]) rest (upd s d .und) h:=θ _
@[go_sem] theorem avV(ps acc rest s h d op):Up call md ps acc rest s h (some d) false op (.v (.bool true))=cV call md ps (acc++[some ([],[])]) rest (upd s d .und) h:=θ _
@[go_sem] theorem at1(ps acc rest s h d w op):Up call md ps acc rest s h (some d) w op .und=cV call md ps (acc++[some ([],[])]) rest (upd s d .und) h:=θ _
@[go_sem] theorem awH(d op h'):gj d (.p op) s h h'=some ([],[]):=θ _
@[go_sem] theorem at2(d k g x h'):gj d (.load k g x) s h h'=tV (ev s x):=θ _
@[go_sem] theorem at3(d f zas h'):gj d (.call f zas) s h h'=iX h d (oA (zas.map (ev s)) (ev s f)) h':=θ _
@[go_sem] theorem arv(d z h'):gj d (.alloc z) s h h'=some ([],[dx d]):=θ _
@[go_sem] theorem avW(d k x h'):gj d (.box k x) s h h'=if dat (ev s x)=true then some ([],[dx d])else none:=θ _
@[go_sem] theorem an5(cs):tV (.ipt cs)=some ([],[]):=θ _
@[go_sem] theorem am5(id k i j):tV (.ref id none k i j)=some ([dx id],[]):=θ _
@[go_sem] theorem am6(id p k i j):tV (.ref id (some p) k i j)=some ([dx id],[]):=θ _
@[go_sem] theorem ap2(y id sub k i j):AU y (.ref id sub k i j)=if dat y=true then some ([dx id],[dx id])else none:=θ _
@[go_sem] theorem avX(i):dx i=if i<2000 then i else i-i%8:=θ _
@[go_sem] theorem ap3(l f a b):oA l (.fn f a b)=a++l++b:=θ _
@[go_sem] theorem Bs(h d l h'):iX h d l h'=if l.all dat=true then some ([],[2000+8*d])else if l.all yx=true then some ((bV h 40 (bF [] (l.flatMap bX)) 0).map dx,(Iu h h' (bV h 40 (bF [] (l.flatMap bX)) 0)).map dx++[2000+8*d])else none:=θ _
@[go_sem] theorem an6(l i j):xS l (i,j)=(match l[i]?,l[j]? with|some a,some b=>nQ a b|_,_=>false):=θ _
@[go_sem] theorem arw(a b):nQ (some a) (some b)=(BM a.2 (b.1++b.2)&&BM b.2 a.1):=θ _
@[go_sem] theorem arx(b):nQ none (some b)=(b.1.isEmpty&&b.2.isEmpty):=θ _
@[go_sem] theorem ary(a):nQ (some a) none=(a.1.isEmpty&&a.2.isEmpty):=θ _
@[go_sem] theorem arz(b):BM [] b=true:=θ _
@[go_sem] theorem ap4(a l b):BM (a::l) b=(!b.contains a&&BM l b):=θ _
@[go_sem] theorem an7(a:Nat):[].contains a=false:=θ _
@[go_sem] theorem am7(a b)(l:List Nat):(b::l).contains a=(a==b||l.contains a):=by rw[List.contains_cons]
@[go_sem] theorem arA(s d x h p l):du false s (some d) (some (x,h,p::l))=some ⟨upd (jU (p::l) s) d x,h⟩:=θ _
@[go_sem] theorem ap5(s x h p l):du false s none (some (x,h,p::l))=some ⟨jU (p::l) s,h⟩:=θ _
@[go_sem] theorem at4(p l s)(i):jU (p::l) s i=tq (p::l) (s i):=θ _
@[go_sem] theorem awv(ks x):tq ks (.v x)=.v x:=θ _
@[go_sem] theorem at5(ks):tq ks .any=.any:=θ _
@[go_sem] theorem at6(ks):tq ks .und=.und:=θ _
@[go_sem] theorem at7(ks):tq ks .emp=.emp:=θ _
@[go_sem] theorem avY(ks k r):tq ks (.sl k r)=.sl k r:=θ _
@[go_sem] theorem at8(ks cs):tq ks (.ipt cs)=.ipt cs:=θ _
@[go_sem] theorem at9(ks f):tq ks (.fn f [] [])=.fn f [] []:=θ _
@[go_sem] theorem aua(ks id sub k lo n):tq ks (.rsl id sub k lo n)=if iV ks id sub=true then .any else .rsl id sub k lo n:=θ _
@[go_sem] theorem aub(ks id sub k lo n):tq ks (.ref id sub k lo n)=if iV ks id sub=true then .any else .ref id sub k lo n:=θ _
@[go_sem] theorem auc(ks cs):tq ks (.agg cs)=if cs.any (qV ks)=true then .any else .agg cs:=θ _
@[go_sem] theorem avZ(ks f a b):tq ks (.fn f a b)=if(a.any (qV ks)||b.any (qV ks))=true then .any else .fn f a b:=θ _
@[go_sem] theorem aud(ks vs):tq ks (.tup vs)=if vs.any (Fc ks)=true then .any else .tup vs:=θ _
@[go_sem] theorem av0(ks x):Fc ks (.v x)=false:=θ _
@[go_sem] theorem aue(ks k r):Fc ks (.sl k r)=false:=θ _
@[go_sem] theorem av1(ks x):qV ks (.v x)=false:=θ _
@[go_sem] theorem arB(ks):qV ks .emp=false:=θ _
@[go_sem] theorem auf(ks k r):qV ks (.sl k r)=false:=θ _
@[go_sem] theorem arC(ks id sub k i j):qV ks (.ref id sub k i j)=iV ks id sub:=θ _
@[go_sem] theorem arD(id sub):iV [] id sub=false:=θ _
@[go_sem] theorem arE(a)(b)(l:K)(id)(sub):iV ((a,b)::l) id sub=((a==id&& (!b||sub.isSome))||iV l id sub):=by simp[iV]
@[go_sem] theorem akU{α:Type}:(none:Option α).isSome=false:=θ _
@[go_sem] theorem akV{α:Type}(a:α):(some a).isSome=true:=θ _
@[go_sem] theorem av2(h d k b x y):LV h d k b x y=(uP h k y).bind fun ys=>match x with
 | .emp=>if ys.length*b<=140737488355328 then TA h d k ys else none
 | .rsl id none k' lo n=>Tz h d k b id k' lo n ys (h id)
 | .rsl id (some p) k' lo n=>afd h d k b id p k' lo n ys (h id)
 |_=>none:=θ _
@[go_sem] theorem ap6(h k):uP h k .emp=some []:=θ _
@[go_sem] theorem afF(h k r):uP h k (.sl k r)=some r:=by simp[uP]
@[go_sem] theorem ap7(h k id sub lo n):uP h k (.rsl id sub k lo n)=iH k lo n (yu h id sub):=by simp[uP]
@[go_sem] theorem am8(h id):yu h id none=Bh (h id):=θ _
@[go_sem] theorem ap8(k r):Bh (.ar k r)=some (k,r):=θ _
@[go_sem] theorem ap9(k r):Bh (.fz k r)=some (k,r):=θ _
@[go_sem] theorem akW(k lo n r):iH k lo n (some (k,r))=if lo+n<=r.length then some ((r.drop lo).take n)else none:=by simp[iH]
@[go_sem] theorem aug(h d k b id lo n ys r):Tz h d k b id k lo n ys (.ar k r)=if lo=0/\n=r.length/\(id<1000\/2000<=id)/\(n+ys.length)*b<=140737488355328 then
   some (.rsl id none k 0 (n+ys.length),upd h id (.ar k (r++ys)),[(id,false)])else LU h d k b id k lo n ys k r:=by simp[Tz]
@[go_sem] theorem arF(h d k):TA h d k []=some (.emp,h,[]):=θ _
@[go_sem] theorem aqa(h d k y ys):TA h d k (y::ys)=cX h d k (y::ys) (ys.length+1) []:=θ _
end
noncomputable section
def ahF:List (Nat×Nat)->Option Nat->AOp
 | (d,k)::l,x=>if x=some d then(match k with|0=>.callC (.c .any) []|1=>.take (.c .any)|_=>.slcM 0 (.c .any) none none)else ahF l x
 |[],_=>.bad
def an8(P:Program)(N:Nat)(ops:Array Oper)(h:AOp)(o:Oper):Option COp:=match o.op with
 | .build t ps=>(Nn ops o.guard).bind fun g=>(kQ P t).bind fun z=>match P.underlying t with
  |some (.struct fs)=>(C1 P (J9 P fs) ps.toList).map fun q=>⟨o.dst,g,.p (.build z q)⟩
  |_=>Ka P N ops h o
 |_=>Ka P N ops h o
def afG(P:Program)(N:Nat)(H:List (Nat×Nat))(ops:Array Oper):List Oper->Option (List COp)
 |[]=>some []
 |o::l=>(an8 P N ops (ahF H o.dst) o).bind fun a=>(afG P N H ops l).bind fun q=>some (a::q)
def prs:List Nat->List (Nat×Nat)
 |a::b::l=>(a,b)::prs l
 |_=>[]
abbrev de:=List (List Nat)
def akX(P:Program)(N:Nat)(H:List (Nat×Nat))(ops:Array Oper):Bool->de->Option (Cmd×de)
 |dr,(7777777::is)::l=>(akX P N H ops dr l).map fun r=>(.frz is r.1,r.2)
 |true,ks::ps::l=>(afG P N H ops ops.toList).map fun q=>(.dops ks q (prs ps),l)
 |false,ks::l=>(afG P N H ops ops.toList).map fun q=>(.ops ks q,l)
 |_,_=>none
def nL:Code->Nat
 | .seq a b=>nL a+nL b
 | .cond _ a b=>nL a+nL b
 | .block _ a=>nL a
 | .loop a=>nL a+1
 |_=>0
abbrev GS:=de×List (Nat×Cmd)
noncomputable def gC (P:Program) (N:Nat) (H:List (Nat×Nat)) (L:List Cmd):Nat->Code->GS->Option (Cmd×GS)
 |_,.skip,s=>some (.skip,s)
 |_,.ret,s=>some (.ret,s)
 |_,.exit i,s=>some (.exit i,s)
 |_,.refuse _,s=>some (.ops [] [⟨none,none,.bad⟩],s)
 |_,.region _ ops dr,s=>(akX P N H ops dr s.1).map fun r=>(r.1,r.2,s.2)
 |n,.seq a b,s=>(gC P N H L (n+nL b) a s).bind fun r=>(gC P N H L n b r.2).map fun q=>(.seq r.1 q.1,q.2)
 |n,.cond x a b,s=>(cA x).bind fun x=>(gC P N H L n a s).bind fun r=>(gC P N H L (n+nL a) b r.2).map fun q=>(.cond x r.1 q.1,q.2)
 |n,.block i a,(ks::l,bs)=>(gC P N H L n a (l,bs)).map fun r=>(.block i ks r.1,r.2)
 |n,.loop a,(ks::hs::l,bs)=>(gC P N H L n a (l,bs)).map fun r=>(.loop ks hs (L.getD (n+nL a) .skip),r.2.1,(n+nL a+1,r.1)::r.2.2)
 |_,_,_=>none
noncomputable def gK (P:Program) (H:List (Nat×Nat)) (f:Func) (l:de) (k:Nat) (L:List Cmd):Cmd:=
 ((f.body.bind fun c=>gC P f.ntmps H L 0 c (l,[])).bind fun r=>((0,r.1)::r.2.2).lookup k).getD .skip
section
variable (d k n a b f:Nat) (op:POp) (x y:Opd) (l:List Opd) (w:Bool) (o:BinOp) (z:List AV)
theorem arG:(⟨some d,none,.p op⟩:COp)=co d op:=rfl
theorem arH:co d (.mv (.t n))=cm d n:=rfl
theorem arI:co d (.bin o (.t a) (.t b))=b2 d o a b:=rfl
theorem arJ:co d (.fadr k (.t a))=fa d k a:=rfl
theorem arK:co d (.nilck (.t a))=nk d a:=rfl
theorem arL:(⟨some d,some (n,w),.p op⟩:COp)=cg d n w op:=rfl
theorem arM:(⟨some d,none,.load k false (.t a)⟩:COp)=ld d k a:=rfl
theorem arN:(⟨some d,none,.load k true (.t a)⟩:COp)=la d k a:=rfl
theorem arO:(⟨some d,none,.call (.c (.fn f [] [])) l⟩:COp)=ca d f l:=rfl
theorem arP:(⟨none,none,.store k x y⟩:COp)=sr k x y:=rfl
theorem arQ:(⟨some d,none,.alloc z⟩:COp)=al d z:=rfl
theorem arR:(⟨some d,none,.box k x⟩:COp)=bx d k x:=rfl
end
noncomputable def aq {α:Type} (b:α) {a:α} (_:a=b:=by conv=>rhs;reduce;(try simp only[Int.reduceOfNat,Int.reduceNegSucc,arG,arH,arI,arJ,arK,arL,arM,arN,arO,arP,arQ,arR])):α:=a
@[go_sem] theorem aww{α:Type}(b:α){a:α}(h:a=b):@aq α b a h=a:=θ _
end
end Go.Ab
