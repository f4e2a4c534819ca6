/-
  A law of ranges holds at every input that the statement speaks of, under the conditions that its card names. Part B1.
-/
import Derived.Test.YtfdhicohflnjnaaGreatDoorA1
set_option linter.all false
namespace Go.Ab
open Go
section
variable {P:Program} {w w':World} {X:Nat→Prop} {ρ ρ':bq} {h h':ac} {s:ae} {a:Act} {call:dP} {md:Mode} {N:Nat} {ops:Array Oper} {Q:Exit→Act→World→Prop} {A A':Nat→Prop} {I:Inv}
theorem Ok.undef (ok:Ok I N w X ρ h s a) {d:Option Nat} (hd:d.getD 0 < N):Ok I N w X ρ h (dN s d .und) (a.put d undef) :=
 ok.put (ks:=[]) ok.rel (.refl _ _ _) .und hd
theorem Y4 {u:Value} (hv:RV w A ρ h .und u):u=undef:=by
 cases hv with
 | und=>rfl
 | dat hd=>cases hd
theorem Wz {nm:Bool} {d:Option Nat} {r:Option R3} {t:St} (hz:cA nm s d r=some t):∃ z h' ks,r=some (z,h',ks)∧lS nm ks=true∧t=⟨dN (ir ks s) d z,h'⟩:=by
 unfold cA at hz;grind
theorem Az (hcall:iZ P I call md) (hN:N≤1000) {i:Nat} {o:Oper} {co:COp} {hint:AOp} (hget:ops[i]?=some o) (hc:Lx P N ops hint o=some co) (ok:Ok I N w X ρ h s a) {t:St} (hz:iQ call md co s h=some t)
  {K':Act→World→Prop} (hK:∀ a' w' ρ',Ok I N w' X ρ' t.h t.s a'→Far md.nm w ρ h w' ρ' t.h→K' a' w'):wpOp P ops Q i K' a w:=by
 simp only [Lx,Option.bind_eq_some_iff] at hc;obtain ⟨g,e1,op,e2,hc⟩:=hc;split at hc
 ·rename_i hcond;cases hc;simp only [Bool.and_eq_true,decide_eq_true_eq] at hcond;have hd:=hcond.2;have run:cA md.nm s o.dst (step call md (o.dst.getD 0) op s h)=some t→o.wp P a w K' Q:=by
   grind [Wz,ac7]
  have skip:some (⟨dN s o.dst .und,h⟩:St)=some t→K' (a.put o.dst undef) w:=by
   intro hf;cases hf;exact hK _ _ ρ (ok.undef hd) (.refl _ _ _ _)
  unfold wpOp;rw [hget];cases hg:o.guard with
  | none =>
   rw [hg] at e1;simp only [L7,Option.some.injEq] at e1;subst e1
   simp_all [iQ,Region.wanted,if_true]
  | some jb =>
   rw [hg] at e1;simp only [L7,Option.map_eq_some_iff] at e1;obtain ⟨d,e3,rfl⟩:=e1;simp only [iQ,ik] at hz;have hv:=ok.rs d;simp only [Region.wanted,hg,yielded,e3,Option.bind_some];have cell:∀ v,a.tmps.getD d Go.undef=v→v ≠ Go.undef→a.tmps[d]?=some v:=by
    intro v hv hne;rw [Array.getD_eq_getD_getElem?] at hv;grind
   split at hz
   ·rename_i b' hb';rw [hb'] at hv;rw [cell _ hv.v_inv.1 (by simp [Go.undef])];grind
   ·rename_i hb';rw [hb'] at hv;have hu:=Y4 hv;rw [Array.getD_eq_getD_getElem?] at hu;grind [Go.undef]
   grind
 grind
theorem J0 (hcall:iZ P I call md) (hN:N≤1000):∀ (rest:List Oper) (cl:List COp) (i:Nat) {hs:List COp} {w:World} {ρ:bq} {h:ac} {s:ae} {a:Act} {t:St},(∀ (j:Nat) (o:Oper),rest[j]?=some o→ops[i+j]?=some o)→mC P N ops hs rest=some cl→Ok I N w X ρ h s a →
  aC call md cl s h=some t→(∀ a' w' ρ',Ok I N w' X ρ' t.h t.s a'→Far md.nm w ρ h w' ρ' t.h→Q .normal a' w')→wpOps P ops Q (List.range' i rest.length) a w
 | [],cl,i,hs,w,ρ,h,s,a,t,_,hc,ok,hz,hQ=>by
  simp only [mC,Option.some.injEq] at hc;subst hc;cases hz;exact hQ _ _ ρ ok (.refl _ _ _ _)
 | o::rest,cl,i,hs,w,ρ,h,s,a,t,hg,hc,ok,hz,hQ=>by
  simp only [mC,Option.bind_eq_some_iff] at hc;obtain ⟨co,e1,q,e2,e3⟩:=hc;cases e3;simp only [aC,aT] at hz;split at hz
  ·grind
  ·rename_i t1 ht1;exact Az hcall hN (by simpa using hg 0 o rfl) e1 ok ht1 fun a' w' ρ' ok' far =>
    J0 hcall hN rest q (i+1) (fun j o' hj=>by rw [show i+1+j=i+(j+1) from by omega]; simp_all) e2 ok' hz fun a'' w'' ρ'' ok'' far'=>hQ _ _ ρ'' ok'' (far.trans far')
theorem DD {α:Type} (d:α) (f:Nat→α):∀ (l:List Nat) (i:Nat),mk d f l i=if i ∈ l then f i else d
 | [],i=>by simp [mk]
 | j::l,i=>by
  simp only [mk,upd,DD d f l i,List.mem_cons];by_cases e:i=j
  ·subst e; simp
  ·simp [e]
theorem RS.some (hs:RS w A ρ h s a.tmps) {s':ae} (he:∀ i,s' i=s i∨s' i=.any):RS w A ρ h s' a.tmps:=fun i=>by
 rcases he i with e | e
 ·rw [e]; exact hs i
 ·rw [e]; exact .anyv _
theorem Ok.some (ok:Ok I N w X ρ h s a) {s':ae} (he:∀ i,s' i=s i∨s' i=.any):Ok I N w X ρ h s' a:=⟨ok.rel,ok.rs.some he,ok.size,ok.defers,ok.inv⟩
theorem RV.knownL {l:List Nat} {c:AV} {u:Value} (hv:RV w A ρ h c u) (hA:∀ b,A b→A' b∧w'.heap[b]?=w.heap[b]?) (hk:∀ id sub,bD h id sub→l.contains id=true→bD h' id sub∧ρ' id sub=ρ id sub) (hm:knownL l c=true):RV w' A' ρ' h' c u:=by
 cases hv with
 | anyv u=>exact .anyv u
 | und=>exact .und
 | dat hd=>exact .dat (hd.mono hA)
 | ref id sub k i j hp =>
  obtain ⟨h1,h2⟩:=hk id sub hp hm;rw [← h2]; exact .ref id sub k i j h1
 | rsl id sub k lo n cap a hp hn hb ha =>
  obtain ⟨h1,h2⟩:=hk id sub hp hm;exact .rsl id sub k lo n cap a h1 hn (by grind) (by grind)
 | rsc id k lo n cap a hp hn hb ha=>grind [Ab.knownL]
 | ipt cs ad vals hA' hs hv hl hr =>
  exact .ipt cs ad vals (hA _ hA').1 hs (fun j c hc=>by rw [jY (w:=w) (w':=w') (by rw [jW]; grind)]; grind) hl (fun j c hc=>(hr j c hc).mono hA)
 | agg cs us hs h1 hr=>grind [Ab.knownL]
 | tup vs us hs hr=>grind [Ab.knownL]
 | fn f x y us ts hs ht hx hy =>
  simp [Ab.knownL] at hm;obtain ⟨rfl,rfl⟩:=hm;exact .fn f [] [] us ts hs ht (fun i c u hc=>by grind) (fun i c u hc=>by grind)
theorem RV.knownA {l:List Nat} {c:AV} {u:Value} (hv:RV w A ρ h c u) (hA:∀ b,A b→A' b∧w'.heap[b]?=w.heap[b]?) (hk:∀ id sub,bD h id sub→l.contains id=true→bD h' id sub∧ρ' id sub=ρ id sub) (hm:knownA l c=true):RV w' A' ρ' h' c u:=by
 cases c with
 | agg cs =>
  simp only [Ab.knownA,List.all_eq_true] at hm;cases hv with
  | dat hd=>exact .dat (hd.mono hA)
  | agg _ us hs h1 hr=>exact .agg cs us hs h1 fun i c u hc hu=>(hr i c u hc hu).knownL hA hk (hm c (List.mem_of_getElem? hc))
 | fn f x y =>
  simp only [Ab.knownA,Bool.and_eq_true,List.all_eq_true] at hm;cases hv with
  | dat hd=>exact .dat (hd.mono hA)
  | fn _ _ _ us ts hs ht hx hy=>exact .fn f x y us ts hs ht (fun i c u hc hu=>(hx i c u hc hu).knownL hA hk (hm.1 c (List.mem_of_getElem? hc))) (fun i c u hc hu=>(hy i c u hc hu).knownL hA hk (hm.2 c (List.mem_of_getElem? hc)))
 | _=>exact hv.knownL hA hk hm
theorem uV {l:List Nat} {c:AV} (hc:bg l c=true):knownL l c=true:=by
 cases c <;> simp [bg,knownL] at hc ⊢ <;> first | exact hc.1 | exact hc
theorem KM {l:List Nat} {c:AV} (hc:aV l c=true):knownA l c=true:=by
 cases c with
 | agg cs =>
  grind [aV,knownA,List.all_eq_true,uV]
 | fn f x y =>
  simp_all [aV,knownA,Bool.and_eq_true,List.all_eq_true,uV]
 | _ =>
  simp only [aV,knownA] at hc ⊢;exact uV hc
theorem Mf (nm:Bool) (r:Rel w X ρ h) {hs:List Nat} (hcl:∀ id,id ∈ hs→aM hs (h id)=true):Rel w X ρ (mk .dead h hs)∧Far nm w ρ h w ρ (mk .dead h hs) ∧
  ∀ {c:AV} {u:Value},RV w (aD w X h ρ) ρ h c u→knownA hs c=true→RV w (aD w X (mk .dead h hs) ρ) ρ (mk .dead h hs) c u:=by
 have at_:∀ id,id ∈ hs→mk .dead h hs id=h id:=fun id hi=>by rw [DD,if_pos hi]
 have not_:∀ id,id ∉ hs→mk .dead h hs id=.dead:=fun id hi=>by rw [DD,if_neg hi]
 have hl:∀ id sub,live (mk .dead h hs) id sub→id ∈ hs∧live h id sub:=by
  intro id sub h1;by_cases hi:id ∈ hs
  ·grind [cx]
  ·have:=not_ id hi;cases sub <;> simp [live,this] at h1
 have hA:∀ b,aD w X h ρ b→aD w X (mk .dead h hs) ρ b∧w.heap[b]?=w.heap[b]?:=fun b hb=>⟨⟨hb.1,hb.2.1,fun ⟨id,sub,h1,h2⟩=>hb.2.2 ⟨id,sub,(hl id sub h1).2,h2⟩⟩,rfl⟩;have hk:∀ id sub,bD h id sub→hs.contains id=true→bD (mk .dead h hs) id sub∧ρ id sub=ρ id sub:=fun id sub hp hi=>⟨(dJ (at_ id (by grind))).2 hp,rfl⟩;have far:Far nm w ρ h w ρ (mk .dead h hs):=by
  refine ⟨rfl,rfl,rfl,Nat.le_refl _,fun _ _ _=>rfl,fun b ⟨id,sub,h1,h2⟩=>.inl ⟨id,sub,(hl id sub h1).2,h2⟩,fun id _ hd=>⟨fun e=>?_,rfl⟩,fun _ id p _ hd hp=>⟨?_,rfl⟩⟩
  all_goals grind
 refine ⟨⟨fun a b c d h1 h2=>r.inj a b c d (hl a b h1).2 (hl c d h2).2,fun a b h1=>r.nx a b (hl a b h1).2,fun id=>?_,r.xl⟩,far,fun hv hc=>hv.knownA hA hk hc⟩;by_cases hi:id ∈ hs
 ·have ho:=r.ob id;have hc:=hcl id hi;rw [at_ id hi];cases e:h id with
  | dead=>trivial
  | bx cs =>
   rw [e] at ho hc;obtain ⟨us,t,h1,h2,h3,h4⟩:=ho;refine ⟨us,t,h1,h2,h3,fun p c hcp=>?_⟩;obtain ⟨u,h5,h6⟩:=h4 p c hcp;refine ⟨u,h5,?_⟩;simp only [aM,List.all_eq_true] at hc;have hcc:=hc c (List.mem_of_getElem? hcp);cases hO:aU c with
   | true =>
    cases c <;> simp [aU] at hO;obtain ⟨a,cap,us',t',g1,g2,g3,g4,g5,g6,g7⟩:=h6;exact ⟨a,cap,us',t',g1,g2,g3,g4,g5,g6,g7.mono hA⟩
   | false =>
    rw [oe hO] at h6 ⊢;have hca:aV hs c=true:=by grind [gI]
    refine ⟨h6.1.knownA hA hk (KM hca),h6.2.1,?_⟩;have h7:=h6.2.2;cases c <;> try exact h7
    simp_all [aV,bg,jm]
  | ar k rows =>
   rw [e] at ho;obtain ⟨us,t,h1,h2,h3,h4⟩:=ho;exact ⟨us,t,h1,h2,h3,h4.mono hA⟩
  | fz k rows =>
   rw [e] at ho;obtain ⟨h0,us,t,fr,h1,h2,h3,h4⟩:=ho;exact ⟨(hA _ h0).1,us,t,fr,h1,h2,h3,h4.mono hA⟩
 ·rw [not_ id hi];trivial
end
def Yx:Ex→Exit
 | .normal=>.normal
 | .exit id=>.exit id
 | .ret=>.ret
def J1 (P:Program) (I:Inv) (call:dP) (md:Mode) (N:Nat):Prop :=
 ∀ {id:Nat} {ops:Array Oper} {hs cl:List COp} {w:World} {X:Nat→Prop} {ρ:bq} {h:ac} {s:ae} {a:Act} {t:St} {ps:List (Nat × Nat)} {Q:Exit→Act→World→Prop},mC P N ops hs ops.toList=some cl→L9 ops.toList cl ps=true→Ok I N w X ρ h s a→lU call md cl ps s h=some t →
  (∀ a' w' ρ',Ok I N w' X ρ' t.h t.s a'→Far md.nm w ρ h w' ρ' t.h→Q .normal a' w')→(Code.region id ops true).wp P Q a w
section
variable {P:Program} {X:Nat→Prop} {call:dP} {md:Mode} {N:Nat} {I:Inv} {nm:Bool}
theorem B8 (s:ae) (ks:List Nat) (i:Nat):mk .any s ks i=s i∨mk .any s ks i=.any:=by
 grind [DD]
theorem Sj (hs:List Nat) (a:AV):(aaL hs a=a∧knownA hs a=true)∨aaL hs a=.any:=by
 grind [aaL]
theorem Uf {w:World} {ρ:bq} {h:ac} {s:ae} {a:Act} (ok:Ok I N w X ρ h s a) {ks hs:List Nat} (hcl:(hs.all fun a=>aM hs (h a))=true) :
  Ok I N w X ρ (mk .dead h hs) (mk .any (fun i=>aaL hs (s i)) ks) a∧Far nm w ρ h w ρ (mk .dead h hs):=by
 obtain ⟨h1,h2,h3⟩:=Mf nm ok.rel (hs:=hs) (fun id hi=>List.all_eq_true.1 hcl id hi);refine ⟨⟨h1,fun i=>?_,ok.size,ok.defers,ok.inv⟩,h2⟩;rcases B8 (fun i=>aaL hs (s i)) ks i with e | e
 ·rw [e];rcases Sj hs (s i) with ⟨e2,e3⟩ | e2
  ·rw [e2]; exact h3 (ok.rs i) e3
  ·rw [e2]; exact .anyv _
 ·rw [e]; exact .anyv _
def J2 (P:Program) (I:Inv) (nm:Bool) (X:Nat→Prop) (N:Nat) (f:ae→ac→Option (Ex × St)) (c:Code):Prop :=
 ∀ {s:ae} {h:ac} {e:Ex} {t:St} {w:World} {ρ:bq} {a:Act} {Q:Exit→Act→World→Prop},f s h=some (e,t)→Ok I N w X ρ h s a→(∀ a' w' ρ',Ok I N w' X ρ' t.h t.s a'→Far nm w ρ h w' ρ' t.h→Q (Yx e) a' w')→c.wp P Q a w
theorem Gs {body:ae→ac→Option (Ex × St)} {c:Code} (hb:J2 P I nm X N body c) {ks hs:List Nat}:∀ (n:Nat) {s:ae} {h:ac} {e:Ex} {t:St} {w:World} {ρ:bq} {a:Act} {Q:Exit→Act→World→Prop},
  ng body ks hs n s h=some (e,t)→Ok I N w X ρ h s a→(∀ a' w' ρ',Ok I N w' X ρ' t.h t.s a'→Far nm w ρ h w' ρ' t.h→Q (Yx e) a' w')→Code.rounds P c Q n a w
 | 0,s,h,e,t,w,ρ,a,Q,hz,_,_=>by grind [ng]
 | n+1,s,h,e,t,w,ρ,a,Q,hz,ok,hQ=>by
  simp only [ng] at hz;split at hz
  ·rename_i hcl;obtain ⟨ok1,far1⟩:=Uf ok (ks:=ks) hcl;split at hz
   ·rename_i t1 ht1;exact hb ht1 ok1 fun a' w' ρ' ok2 far2=>Gs hb n hz ok2 fun a'' w'' ρ'' ok3 far3=>hQ _ _ ρ'' ok3 (far1.trans (far2.trans far3))
   ·rename_i r hne;refine hb hz ok1 fun a' w' ρ' ok2 far2=>?_;have:=hQ a' w' ρ' ok2 (far1.trans far2);cases e with
    | normal=>exact absurd hz (hne t)
    | exit id=>exact this
    | ret=>exact this
  ·cases hz
theorem Sk {i:Nat} {w:World} {ρ:bq} {h:ac} {s:ae} {a:Act} {r:ae × ac × K} (ok:Ok I N w X ρ h s a) (hz:RE i s h (s i)=some r) (hnm:lS nm r.2.2=true) :
  Ok I N w X ρ r.2.1 r.1 a∧Far nm w ρ h w ρ r.2.1:=by
 have hv:=ok.rs i;cases hi:s i <;> rw [hi] at hz hv <;> simp only [RE] at hz <;> try (cases hz; done)
 case rsl id sub k lo n =>
  simp only [Option.map_eq_some_iff] at hz;obtain ⟨q,e1,rfl⟩:=hz;obtain ⟨x,h',ks⟩:=q;have h1:(a.tmps.getD i undef).oneCell'=true:=by
   obtain ⟨_,_,e,_⟩:=hv.rsl_inv;rw [e]; rfl
  obtain ⟨g1,g2,g3,g4⟩:=vT ok.rel hv (fun b hb=>hb) h1 e1;refine ⟨⟨g1,fun j=>?_,ok.size,ok.defers,g2.inv ok.rel ok.inv⟩,g2.far hnm⟩;show RV w (aD w X h' ρ) ρ h' (upd (ir ks s) i x j) _;rw [acj];split
  ·rename_i hj; subst hj; exact .dat g3
  ·exact g2.rs ok.rs j
 case ref id sub k j l =>
  cases sub with
  | some p=>grind
  | none =>
   simp only at hz;cases ho:h id <;> rw [ho] at hz <;> simp only at hz <;> try (cases hz; done)
   cases hz;rename_i cs;obtain ⟨g1,g2⟩:=B3 (ds:=cs.map kz) ok.rel ho (by simp) fun p c hc=>by
    grind [aU,P7]
   exact ⟨⟨g1,g2.rs ok.rs,ok.size,ok.defers,g2.inv ok.rel ok.inv⟩,g2.far hnm⟩
theorem Ps {w:World} {ρ:bq} {h:ac} {s:ae} {a:Act} (ok:Ok I N w X ρ h s a) (x:AV):Ok I N w X ρ (Dx h x) s a∧Far nm w ρ h w ρ (Dx h x):=by
 have id':Ok I N w X ρ h s a∧Far nm w ρ h w ρ h:=⟨ok,.refl _ _ _ _⟩;unfold Dx;split
 ·rename_i id k' lo n;split
  ·rename_i k rows e;obtain ⟨s1,s2⟩:=T8 (m:=lo+n) ok.rel e;exact ⟨⟨s1,s2.rs ok.rs,ok.size,ok.defers,s2.inv ok.rel ok.inv⟩,s2.far (kC _)⟩
  omega
 omega
theorem Et {g:Nat} {w:World} {ρ:bq} {h:ac} {s:ae} {a:Act} {t:St} (ok:Ok I N w X ρ h s a) (hz:nE nm g s h=some t):∃ ρ',Ok I N w X ρ' t.h t.s a∧Far nm w ρ h w ρ' t.h:=by
 cases g with
 | zero =>
  cases hz;exact ⟨ρ,ok,.refl _ _ _ _⟩
 | succ i =>
  simp only [nE,Option.bind_eq_some_iff] at hz;obtain ⟨r,e1,e2⟩:=hz;split at e2
  ·rename_i hnm;cases e2;have hv:=ok.rs i;cases hi:s i <;> rw [hi] at e1 hv <;> simp only [JT] at e1 <;> try (cases e1; done)
   ·cases e1;exact ⟨ρ,ok,.refl _ _ _ _⟩
   ·rename_i id sub k lo n;cases sub with
    | none=>grind
    | some p =>
    simp only at e1;split at e1
    ·rename_i hps;cases eo:h id <;> rw [eo] at e1 <;> simp only [P5] at e1 <;> try (cases e1; done)
     rename_i cs;cases ec:cs[p]? with
     | none=>grind [Gh]
     | some c =>
      rw [ec] at e1;cases c <;> simp only [Gh] at e1 <;> try (cases e1; done)
      split at e1
      ·rename_i hc;obtain ⟨rfl,rfl,rfl,hd⟩:=hc;have hd':h i=.dead:=by cases hh:h i <;> rw [hh] at hd <;> first | rfl | cases hd
       cases e1;obtain ⟨m1,m2⟩:=R8 ok.rel eo ec hps hd';obtain ⟨ad,cap,e4,q2,q3,q4,q5⟩:=hv.rsl_inv;refine ⟨_,⟨m1,fun j=>?_,ok.size,ok.defers,m2.inv ok.rel ok.inv⟩,m2.far hnm⟩;show RV w _ _ _ (upd (ir [(id,true)] s) i _ j) _;rw [acj];split
       ·rename_i hj;subst hj;rw [e4];refine .rsl _ none _ 0 _ cap ad (by simp [bD,au]) q3 (by grind [bk]) ?_;grind [bk]
       ·exact m2.rs ok.rs j
      grind
    grind
  grind
theorem Sl {i:Nat} {w:World} {ρ:bq} {h:ac} {s:ae} {a:Act} {r:ae × ac × K} (ok:Ok I N w X ρ h s a) (hz:Ia i s h (s i)=some r) (hnm:lS nm r.2.2=true) :
  ∃ ρ',Ok I N w X ρ' r.2.1 r.1 a∧Far nm w ρ h w ρ' r.2.1:=by
 have hv:=ok.rs i;have key:∀ {id k lo n:Nat},(∃ ad cap,a.tmps.getD i undef=.slice ad n cap∧n≤cap∧(lo+cap)*k=(ρ id none).2∧(cap=0∨ad=some ⟨(ρ id none).1,lo*k,none⟩))→BW i s h id k lo n (h id)=some r →
   ∃ ρ',Ok I N w X ρ' r.2.1 r.1 a∧Far nm w ρ h w ρ' r.2.1:=by
  intro id k lo n ⟨ad,cap,e4,q3,q4,q5⟩ e1;cases eo:h id <;> rw [eo] at e1 <;> simp only [BW] at e1 <;> try (cases e1; done)
  split at e1
  ·rename_i hc;obtain ⟨rfl,rfl,hps,hd⟩:=hc;have hd':h i=.dead:=by cases hh:h i <;> rw [hh] at hd <;> first | rfl | cases hd
   cases e1;obtain ⟨m1,m2⟩:=aaV ok.rel eo hps hd';refine ⟨_,⟨m1,fun j=>?_,ok.size,ok.defers,m2.inv ok.rel ok.inv⟩,m2.far hnm⟩;show RV w _ _ _ (upd (ir [(id,false)] s) i _ j) _;rw [acj];split
   ·rename_i hj;subst hj;rw [e4];refine .rsl _ none _ 0 _ cap ad (by simp [bD,au]) q3 (by grind [bk]) ?_;grind [bk]
   ·exact m2.rs ok.rs j
  grind
 cases hi:s i <;> rw [hi] at hz hv <;> simp only [Ia] at hz <;> try (cases hz; done)
 ·cases hz;exact ⟨ρ,ok,.refl _ _ _ _⟩
 ·rename_i id sub k lo n;cases sub with
  | some p=>grind
  | none =>
  obtain ⟨ad,cap,e4,q2,q3,q4,q5⟩:=hv.rsl_inv;exact key ⟨ad,cap,e4,q3,q4,q5⟩ hz
 ·rename_i id k lo n c;obtain ⟨ad,e4,q2,q3,q4,q5⟩:=hv.rsc_inv;exact key ⟨ad,c,e4,q3,q4,q5⟩ hz
theorem vV:∀ (is:List Nat) {w:World} {ρ:bq} {h:ac} {s:ae} {a:Act} {t:St},Ok I N w X ρ h s a→sQ nm is s h=some t→∃ ρ',Ok I N w X ρ' t.h t.s a∧Far nm w ρ h w ρ' t.h
 | [],w,ρ,h,s,a,t,ok,hz=>by cases hz; exact ⟨ρ,ok,.refl _ _ _ _⟩
 | i::l,w,ρ,h,s,a,t,ok,hz=>by
  unfold sQ at hz;split at hz
  ·simp only [Option.bind_eq_some_iff] at hz;obtain ⟨r,e1,e2⟩:=hz;split at e2
   ·rename_i hn;obtain ⟨ρ1,g1,g2⟩:=Sl ok e1 hn;obtain ⟨ρ2,f1,f2⟩:=vV l g1 e2;exact ⟨ρ2,f1,g2.trans f2⟩
   grind
  ·split at hz
   ·obtain ⟨g1,g2⟩:=Ps (nm:=nm) ok (s (i - 100000));obtain ⟨ρ2,f1,f2⟩:=vV l g1 hz;exact ⟨ρ2,f1,g2.trans f2⟩
   ·simp only [Option.bind_eq_some_iff] at hz;obtain ⟨r,e1,e2⟩:=hz;split at e2
    ·rename_i hn;obtain ⟨g1,g2⟩:=Sk ok e1 hn;obtain ⟨ρ2,f1,f2⟩:=vV l g1 e2;exact ⟨ρ2,f1,g2.trans f2⟩
    grind
theorem Sm (hcall:iZ P I call md) (hN:N≤1000) (hD:J1 P I call md N) (lf:Nat):∀ (cmd:Cmd) (c:Code),fK P N c cmd=some cmd→J2 P I md.nm X N (bF call md lf cmd) c:=by
 intro cmd;induction cmd with
 | skip =>
  intro c hc s h e t w ρ a Q hz ok hQ;cases c <;> (try simp only [fK] at hc) <;> (try (cases hc; done))
  ·obtain ⟨rfl,rfl⟩:=hz;exact wp_skip (hQ _ _ ρ ok (.refl _ _ _ _))
  all_goals (exfalso; revert hc; simp [Option.bind_eq_some_iff])
 | ops ks l =>
  intro c hc s h e t w ρ a Q hz ok hQ;by_cases hrf:∃ m,c=.refuse m
  ·have hl:l=[⟨none,none,.bad⟩]:=by
    unfold fK at hc;grind
   simp_all [bF,aC,iQ,cA,step,aT]
  cases c <;> (try (exact absurd ⟨_,rfl⟩ hrf)) <;> (try simp only [fK] at hc) <;> (try (cases hc; done));rename_i id ops dr;cases dr <;> (try simp only [fK] at hc) <;> (try (cases hc; done));simp only [Option.map_eq_some_iff] at hc;obtain ⟨l',h1,h2⟩:=hc;cases h2;simp only [bF,aT] at hz;split at hz
  ·grind
  ·rename_i t1 ht1;obtain ⟨rfl,rfl⟩:=hz;refine wp_region ?_;rw [List.range_eq_range',show ops.size=ops.toList.length from Array.length_toList.symm];exact J0 hcall hN ops.toList l 0 (fun j o hj=>by grind) h1 ok ht1 fun a' w' ρ' ok' far=>hQ _ _ ρ' (ok'.some (B8 _ _)) far
 | dops ks l ps =>
  intro c hc s h e t w ρ a Q hz ok hQ;cases c <;> (try simp only [fK] at hc) <;> (try (cases hc; done));rename_i id ops dr;cases dr <;> (try simp only [fK] at hc) <;> (try (cases hc; done));simp only [Option.bind_eq_some_iff] at hc;obtain ⟨l',h1,h2⟩:=hc;split at h2
  ·rename_i hps;cases h2;simp only [bF,aT] at hz;split at hz
   ·grind
   ·rename_i t1 ht1;obtain ⟨rfl,rfl⟩:=hz;exact hD h1 hps ok ht1 fun a' w' ρ' ok' far=>hQ _ _ ρ' (ok'.some (B8 _ _)) far
  grind
 | seq x y ihx ihy =>
  intro c hc s h e t w ρ a Q hz ok hQ;cases c <;> (try simp only [fK] at hc) <;> (try (cases hc; done));simp only [Option.bind_eq_some_iff,Option.map_eq_some_iff] at hc;obtain ⟨c1,h1,c2,h2,h3⟩:=hc;cases h3;simp only [bF,cj] at hz;refine wp_seq ?_;split at hz
  ·grind
  ·rename_i t1 ht1;exact ihx _ h1 ht1 ok fun a' w' ρ' ok1 far1=>ihy _ h2 hz ok1 fun a'' w'' ρ'' ok2 far2=>hQ _ _ ρ'' ok2 (far1.trans far2)
  ·rename_i i t1 ht1;cases hz;exact ihx _ h1 ht1 ok fun a' w' ρ' ok1 far1=>hQ a' w' ρ' ok1 far1
  ·rename_i t1 ht1;cases hz;exact ihx _ h1 ht1 ok fun a' w' ρ' ok1 far1=>hQ a' w' ρ' ok1 far1
 | cond b x y ihx ihy =>
  intro c hc s h e t w ρ a Q hz ok hQ;cases c <;> (try simp only [fK] at hc) <;> (try (cases hc; done));simp only [Option.bind_eq_some_iff,Option.map_eq_some_iff] at hc;obtain ⟨b',h0,c1,h1,c2,h2,h3⟩:=hc;cases h3;simp only [bF] at hz;have hv:=aN h0 ok.rs;unfold lV at hz;split at hz
  ·rename_i tt htt;rw [htt] at hv;refine wp_cond hv.v_inv.1 ?_;cases tt with
   | true=>exact ihx _ h1 hz ok hQ
   | false=>exact ihy _ h2 hz ok hQ
  grind
 | block id ks x ih =>
  intro c hc s h e t w ρ a Q hz ok hQ;cases c <;> (try simp only [fK] at hc) <;> (try (cases hc; done));simp only [Option.map_eq_some_iff] at hc;obtain ⟨c1,h1,h3⟩:=hc;cases h3;simp only [bF] at hz;refine wp_block ?_;unfold ap at hz;split at hz
  ·grind
  ·rename_i t1 ht1;cases hz;exact ih _ h1 ht1 ok fun a' w' ρ' ok1 far1=>hQ a' w' ρ' (ok1.some (B8 _ _)) far1
  ·rename_i i t1 ht1;refine ih _ h1 ht1 ok fun a' w' ρ' ok1 far1=>?_;split at hz
   ·rename_i hi;cases hz;have:=hQ a' w' ρ' (ok1.some (B8 _ _)) far1;grind [Yx,Exit.inBlock]
   grind [Yx,Exit.inBlock]
  ·rename_i t1 ht1;cases hz;exact ih _ h1 ht1 ok fun a' w' ρ' ok1 far1=>hQ a' w' ρ' ok1 far1
 | loop ks hs x ih =>
  intro c hc s h e t w ρ a Q hz ok hQ;cases c <;> (try simp only [fK] at hc) <;> (try (cases hc; done));simp only [Option.map_eq_some_iff] at hc;obtain ⟨c1,h1,h3⟩:=hc;cases h3;exact wp_loop_rounds lf (Gs (ih _ h1) lf hz ok hQ)
 | exit id =>
  intro c hc s h e t w ρ a Q hz ok hQ;cases c <;> (try simp only [fK] at hc) <;> (try (cases hc; done));cases hc;obtain ⟨rfl,rfl⟩:=hz;exact wp_exit (hQ _ _ ρ ok (.refl _ _ _ _))
 | ret =>
  intro c hc s h e t w ρ a Q hz ok hQ;cases c <;> (try simp only [fK] at hc) <;> (try (cases hc; done));obtain ⟨rfl,rfl⟩:=hz;exact wp_ret (hQ _ _ ρ ok (.refl _ _ _ _))
 | frz is x ih =>
  intro c hc s h e t w ρ a Q hz ok hQ;have hc':(fK P N c x).map (Cmd.frz is)=some (.frz is x):=by
   grind [fK]
  simp only [Option.map_eq_some_iff] at hc';obtain ⟨c1,h1,h3⟩:=hc';cases h3;simp only [bF,aT] at hz;split at hz
  ·grind
  ·rename_i t1 ht1;obtain ⟨ρ1,ok1,far1⟩:=vV is ok ht1;exact ih _ h1 hz ok1 fun a' w' ρ' ok2 far2=>hQ a' w' ρ' ok2 (far1.trans far2)
end
def kT (P:Program) (I:Inv) (kp:Bool) (f:FuncId) (g:List AV→List Ob→Option (AV × List Ob)):Prop :=
 ∀ {args:List AV} {obs obs':List Ob} {res:AV} {w:World} {X:Nat→Prop} {ρ:bq} {vals:Array Value} {n:Nat},g args obs=some (res,obs')→2000≤n→I.p w X→Rel w X ρ (aj obs)→vals.size=args.length →
  (∀ (i:Nat) (c:AV) (u:Value),args[i]?=some c→vals[i]?=some u→RV w (aD w X (aj obs) ρ) ρ (aj obs) c u) →
  Enters P f vals w fun v w'=>∃ ρ',Rel w' X ρ' (mat n (aj obs') res).2∧Far kp w ρ (aj obs) w' ρ' (mat n (aj obs') res).2∧RV w' (aD w' X (mat n (aj obs') res).2 ρ') ρ' (mat n (aj obs') res).2 (mat n (aj obs') res).1 v
def uv (tmps:Array Value):ResultVar→Sem Value
 | .tmp t=>pure (tmps.getD t Go.undef)
 | .cell c t=>do loadVar t (← asAddr (tmps.getD c Go.undef))
section
variable {P:Program} {w w':World} {X:Nat→Prop} {ρ ρ':bq} {h h':ac} {s:ae} {a:Act} {call:dP} {md:Mode} {N:Nat}
theorem Eu:∀ (rs:List ResultVar) (l:List Rv) {h h':ac} {s:ae} {vs:List AV} {ks:K},As P rs=some l→Rel w X ρ h→RS w (aD w X h ρ) ρ h s a.tmps→tX s h l=some (vs,h',ks) →
  ∃ us:List Value,(rs.mapM (uv a.tmps)).run P w=.ok us w∧us.length=vs.length∧Rel w X ρ h'∧Evo w ρ h w ρ h' ks ∧
   ∀ (i:Nat) (c:AV) (u:Value),vs[i]?=some c→us[i]?=some u→RV w (aD w X h' ρ) ρ h' c u
 | [],l,h,h',s,vs,ks,hc,r,hs,hz=>by
  simp only [As,Option.some.injEq] at hc;subst hc;obtain ⟨rfl,rfl,rfl⟩:=hz;exact ⟨[],rfl,rfl,r,.refl _ _ _,fun i c u hc=>by grind⟩
 | x::rs,l,h,h',s,vs,ks,hc,r,hs,hz=>by
  have step1:∃ rv l',l=rv::l'∧As P rs=some l'∧∀ {z:AV} {h1:ac} {k1:K},aaN s h rv=some (z,h1,k1)→∃ v,(uv a.tmps x).run P w=.ok v w ∧
    Rel w X ρ h1∧Evo w ρ h w ρ h1 k1∧RV w (aD w X h1 ρ) ρ h1 z v:=by
   cases x with
   | tmp t =>
    simp only [As,Option.map_eq_some_iff] at hc;obtain ⟨l',h1,rfl⟩:=hc;refine ⟨_,l',rfl,h1,fun {z h1 k1} e=>?_⟩;obtain ⟨rfl,rfl,rfl⟩:=e;exact ⟨_,rfl,r,.refl _ _ _,hs t⟩
   | cell c t =>
    simp only [As,Option.bind_eq_some_iff] at hc;obtain ⟨g,g1,k,g2,hc⟩:=hc;split at hc
    ·simp only [Option.map_eq_some_iff] at hc;obtain ⟨l',h1,rfl⟩:=hc;refine ⟨_,l',rfl,h1,fun {z h1 k1} e=>?_⟩;obtain ⟨ad,v,q1,q2,q3,q4,q5⟩:=Eo (P:=P) r g1 g2 (hs c) e;refine ⟨v,?_,q3,q4,q5⟩;simp only [uv];rw [q1];exact q2
    grind
  obtain ⟨rv,l',rfl,hc',key⟩:=step1;simp only [tX,Option.bind_eq_some_iff] at hz;obtain ⟨⟨z,h1,k1⟩,e1,⟨vs',h2,k2⟩,e2,e3⟩:=hz;cases e3;obtain ⟨v,f1,f2,f3,f4⟩:=key e1;obtain ⟨us,g1,g2,g3,g4,g5⟩:=Eu rs l' hc' f2 (f3.rs hs) e2;refine ⟨v::us,by simp_all,by grind,g3,f3.trans g4,fun i c u hc hu=>?_⟩;cases i with
  | zero =>
   simp only [List.getElem?_cons_zero,Option.some.injEq] at hc hu;subst hc hu;cases k2 with
   | nil=>exact g4.rv f4
   | cons p k2 =>
    simp only [L4,nD];split
    ·exact .anyv _
    ·exact g4.rvk f4 (.inr (by grind))
  | succ i=>grind
end
structure Emb (L:List Nat) (f g:Nat→Nat) (h' h2:ac):Prop where
 back:∀ id,L.contains id=true→g (f id)=id∧h2 (f id)=cZ f (h' id)
 obj:∀ i,h2 i ≠ .dead→h2 i=cZ f (h' (g i))∧aM L (h' (g i))=true
 inj:∀ i j,h2 i ≠ .dead→h2 j ≠ .dead→g i=g j→i=j
section
variable {w:World} {X:Nat→Prop} {ρ:bq} {h' h2:ac} {A A2:Nat→Prop} {L:List Nat} {f g:Nat→Nat}
theorem B9 {o:Ob}:cZ f o=.dead↔o=.dead:=by cases o <;> simp [cZ]
theorem P9 (o:Ob):bf (cZ f o)=bf o:=by cases o <;> rfl
theorem WA {c:AV} {k:Nat} {rows:List (List AV)}:dM f c=.osl k rows↔c=.osl k rows:=by cases c <;> simp [dM,kB]
theorem Ug (c:AV):aU (dM f c)=aU c:=by cases c <;> rfl
theorem RV.embL (em:Emb L f g h' h2) {c:AV} {u:Value} (hv:RV w A ρ h' c u) (hA:∀ b,A b→A2 b) (hm:bg L c=true):RV w A2 (fun i s=>ρ (g i) s) h2 (kB f c) u:=by
 cases hv with
 | anyv u=>exact .anyv u
 | und=>exact .und
 | dat hd =>
  have:kB f c=c:=by cases hd <;> rfl
  rw [this];exact .dat (hd.mono fun b hb=>⟨hA b hb,rfl⟩)
 | ref id sub k i j hp =>
  simp only [bg,Bool.and_eq_true] at hm;obtain ⟨h1,h3⟩:=em.back id hm.1;cases sub with
  | some p=>grind
  | none =>
   have:=RV.ref (w:=w) (A:=A2) (ρ:=fun i s=>ρ (g i) s) (h:=h2) (f id) none k i j (by simp only [bD,h3,ne_eq,B9]; exact hp);simp only [h1] at this;exact this
 | rsl id sub k lo n cap a hp hn hb ha =>
  simp only [bg,Bool.and_eq_true] at hm;obtain ⟨h1,h3⟩:=em.back id hm.1;cases sub with
  | some p=>grind
  | none=>exact .rsl (f id) none k lo n cap a (by simp only [bD,h3,ne_eq,B9]; exact hp) hn (by grind) (by grind)
 | rsc id k lo n cap a hp hn hb ha=>simp [bg] at hm
 | ipt cs ad vals hA' hs hv hl hr=>exact .ipt cs ad vals (hA _ hA') hs hv hl (fun j c hc=>(hr j c hc).mono fun b hb=>⟨hA b hb,rfl⟩)
 | agg cs us hs h1 hr=>simp [bg] at hm
 | tup vs us hs hr=>simp [bg] at hm
 | fn ff x y us ts hs ht hx hy =>
  simp [bg] at hm;obtain ⟨rfl,rfl⟩:=hm;exact .fn ff [] [] us ts hs ht (fun i c u hc=>by grind) (fun i c u hc=>by grind)
theorem RV.embA (em:Emb L f g h' h2) {c:AV} {u:Value} (hv:RV w A ρ h' c u) (hA:∀ b,A b→A2 b) (hm:aV L c=true):RV w A2 (fun i s=>ρ (g i) s) h2 (dM f c) u:=by
 cases c with
 | agg cs =>
  simp only [aV,List.all_eq_true] at hm;obtain ⟨us,rfl,hs,h1,hr⟩:=hv.agg_inv;refine .agg _ us (by grind) h1 fun i c u hc hu=>?_;simp only [List.getElem?_map,Option.map_eq_some_iff] at hc;obtain ⟨c',hc',rfl⟩:=hc;exact (hr i c' u hc' hu).embL em hA (hm c' (List.mem_of_getElem? hc'))
 | fn ff x y =>
  simp only [aV,Bool.and_eq_true,List.all_eq_true] at hm;obtain ⟨us,ts,rfl,hs,ht,hx,hy⟩:=hv.fn_inv;refine .fn ff _ _ us ts (by grind) (by grind) (fun i c u hc hu=>?_) (fun i c u hc hu=>?_)
  ·simp only [List.getElem?_map,Option.map_eq_some_iff] at hc;obtain ⟨c',hc',rfl⟩:=hc;exact (hx i c' u hc' hu).embL em hA (hm.1 c' (List.mem_of_getElem? hc'))
  ·simp only [List.getElem?_map,Option.map_eq_some_iff] at hc;obtain ⟨c',hc',rfl⟩:=hc;exact (hy i c' u hc' hu).embL em hA (hm.2 c' (List.mem_of_getElem? hc'))
 | _ =>
  exact hv.embL em hA hm
theorem Emb.live (em:Emb L f g h' h2) {i:Nat} {s:Option Nat} (hl:live h2 i s):live h' (g i) s∧h2 i ≠ .dead:=by
 have hd:h2 i ≠ .dead:=TU hl |> fun hp=>by
  cases s with
  | none=>exact hp
  | some p=>obtain ⟨_,_,_,e,_⟩:=hp; grind
 obtain ⟨e,_⟩:=em.obj i hd;refine ⟨?_,hd⟩;cases s with
 | none =>
  simp only [Ab.live,e] at hl;simp only [Ab.live];cases e2:h' (g i) <;> rw [e2] at hl <;> simp [cZ] at hl ⊢
 | some p =>
  obtain ⟨cs,k,rows,e1,e2⟩:=hl;rw [e] at e1;cases e3:h' (g i) <;> rw [e3] at e1 <;> simp only [cZ] at e1 <;> try (cases e1; done)
  rename_i cs';cases e1;simp only [List.getElem?_map,Option.map_eq_some_iff] at e2;obtain ⟨c,e4,e5⟩:=e2;exact ⟨cs',k,rows,e3,by rw [e4,WA.1 e5]⟩
theorem Rel.emb (em:Emb L f g h' h2) (r:Rel w X ρ h') {X2:Nat→Prop} (hX:∀ b,XZ X2 b→b < w.heap.size) (hnx:∀ i s,live h2 i s→¬ XZ X2 (ρ (g i) s).1) (hA:∀ b,aD w X h' ρ b→aD w X2 h2 (fun i s=>ρ (g i) s) b) :
  Rel w X2 (fun i s=>ρ (g i) s) h2:=by
 refine ⟨fun i s j t h1 h3 h4=>?_,hnx,fun i=>?_,hX⟩
 ·obtain ⟨f1,f2⟩:=em.live h1;obtain ⟨f3,f4⟩:=em.live h3;obtain ⟨e1,e2⟩:=r.inj (g i) s (g j) t f1 f3 h4;exact ⟨em.inj i j f2 f4 e1,e2⟩
 ·by_cases hd:h2 i=.dead
  ·rw [hd]; trivial
  ·obtain ⟨e,hc⟩:=em.obj i hd;have ho:=r.ob (g i);rw [e];cases e2:h' (g i) with
   | dead=>trivial
   | bx cs =>
    rw [e2] at ho hc;obtain ⟨us,t,h1,h3,h4,h5⟩:=ho;refine ⟨us,t,h1,h3,by grind,fun p c hp=>?_⟩;simp only [List.getElem?_map,Option.map_eq_some_iff] at hp;obtain ⟨c',hp',rfl⟩:=hp;obtain ⟨u,h6,h7⟩:=h5 p c' hp';refine ⟨u,h6,?_⟩;simp only [aM,List.all_eq_true] at hc;have hcc:=hc c' (List.mem_of_getElem? hp');cases hO:aU c' with
    | true =>
     cases c' <;> simp [aU] at hO;obtain ⟨a,cap,us',t',g1,g2,g3,g4,g5,g6,g7⟩:=h7;exact ⟨a,cap,us',t',g1,g2,g3,g4,g5,g6,g7.mono fun b hb=>⟨hA b hb,rfl⟩⟩
    | false =>
     have hca:aV L c'=true:=by simpa [gI,hO] using hcc
     rw [oe hO] at h7;rw [oe (by rw [Ug]; omega)];refine ⟨h7.1.embA em hA hca,h7.2.1,?_⟩;have h8:=h7.2.2;cases c' <;> first | exact h8.elim | trivial | skip
     ·rename_i id sub _ _ _;cases sub with
      | some p=>exact h8.elim
      | none =>
       simp only [aV,bg,Bool.and_eq_true] at hca;obtain ⟨_,e3⟩:=em.back id hca.1;simp only [dM,kB,jm] at h8 ⊢;rw [e3,P9];omega
     ·simp only [jm,Bool.and_eq_true,List.all_eq_true] at h8;simp only [dM,jm,Bool.and_eq_true,List.all_eq_true,List.mem_map];have key:∀ c,aB c=true→aB (kB f c)=true:=fun c hd=>by cases c <;> simp [aB,kB] at hd ⊢ <;> exact hd
      grind
   | ar k rows =>
    rw [e2] at ho;obtain ⟨us,t,h1,h3,h4,h5⟩:=ho;exact ⟨us,t,h1,h3,h4,h5.mono fun b hb=>⟨hA b hb,rfl⟩⟩
   | fz k rows =>
    rw [e2] at ho;obtain ⟨h0,us,t,fr,h1,h3,h4,h5⟩:=ho;exact ⟨hA _ h0,us,t,fr,h1,h3,h4,h5.mono fun b hb=>⟨hA b hb,rfl⟩⟩
end
theorem Y5 (c:AV):kB (fun i=>i) c=c:=by cases c <;> rfl
theorem Mg {α:Type} {f:α→α} (hf:∀ a,f a=a) (l:List α):l.map f=l:=by
 rw [show f=id from funext hf,List.map_id]
theorem Y6 (c:AV):dM (fun i=>i) c=c:=by
 cases c <;> simp [dM,kB,Mg Y5]
theorem Ig (o:Ob):cZ (fun i=>i) o=o:=by
 cases o <;> simp [cZ,Mg Y6]
section
variable {L:List Nat} {g:Nat→Nat} {h' h2:ac}
theorem Emb.add (em:Emb L (fun i=>i) g h' h2) {m id:Nat} (hm:h2 m=.dead) (hL:L.contains m=false) (hid:∀ i,h2 i ≠ .dead→g i ≠ id) (hcl:aM L (h' id)=true):Emb L (fun i=>i) (upd g m id) h' (upd h2 m (h' id)):=by
 refine ⟨fun i hi=>?_,fun i hi=>?_,fun i j hi hj hg=>?_⟩
 ·have hne:i ≠ m:=by grind
  rw [aH _ _ hne,aH _ _ hne];exact em.back i hi
 ·by_cases e:i=m
  ·subst e; rw [au,au,Ig]; grind
  ·rw [aH _ _ e] at hi ⊢;rw [aH _ _ e];exact em.obj i hi
 ·by_cases e:i=m <;> by_cases e':j=m
  ·rw [e,e']
  ·subst e;rw [au,aH _ _ e'] at hg;rw [aH _ _ e'] at hj;grind
  ·subst e';rw [au,aH _ _ e] at hg;rw [aH _ _ e] at hi;grind
  ·rw [aH _ _ e] at hi;rw [aH _ _ e'] at hj;rw [aH _ _ e,aH _ _ e'] at hg;exact em.inj i j hi hj hg
theorem sU {n i:Nat}:(cp n).contains i=true↔1000≤i∧i < 1000+n:=by
 grind [cp,List.mem_range']
theorem mV (h':ac) (n i:Nat):aj ((cp n).map h') i=if 1000≤i∧i < 1000+n then h' i else .dead:=by
 unfold aj;by_cases h1:1000≤i
 ·rw [if_pos h1];by_cases h2:i < 1000+n
  ·have:(cp n)[i - 1000]?=some i:=by
    unfold cp;grind
   grind
  ·rw [if_neg (by omega),List.getElem?_map,List.getElem?_eq_none (by grind [cp])];rfl
 grind
theorem Emb.base {n:Nat} (hcl:((cp n).all fun i=>aM (cp n) (h' i))=true):Emb (cp n) (fun i=>i) (fun i=>i) h' (aj ((cp n).map h')):=by
 refine ⟨fun i hi=>⟨rfl,?_⟩,fun i hi=>?_,fun i j _ _ hg=>hg⟩
 ·rw [mV,if_pos (sU.1 hi),Ig]
 ·rw [mV] at hi ⊢;split at hi
  ·rename_i h1;rw [if_pos h1,Ig];exact ⟨rfl,List.all_eq_true.1 hcl i (by simpa using sU.2 h1)⟩
  grind
end
section
variable {w:World} {X:Nat→Prop} {ρ:bq} {h' h2:ac} {A A2:Nat→Prop}
theorem DE {b k lo n cap:Nat} {us:Array Value} {e:TypeId} {fr:Nat × Nat} {rows:List (List AV)} {a:Option Addr} (hb:w.heap[b]?=some (.cells us e fr)) (hA2:A2 b) (hA:∀ b,A b→A2 b) (hr:bU w A k rows us)
  (hle:lo+n≤rows.length) (hn:n≤cap) (ha:cap=0∨a=some ⟨b,lo*k,none⟩):RD w A2 (m8 k lo n rows) (.slice a n cap) :=
 j1 hb hA2 (hr.mono fun b hb=>⟨hA b hb,rfl⟩) hle hn ha
def Yy (w:World) (A:Nat→Prop) (ρ:bq) (h':ac) (a b:AV) (u:Value):Prop :=
 (∃ id k rows,b=.osl k rows∧a=.rsl id none k 0 rows.length∧h' id=.ar k rows∧aR id=false) ∨
 (∃ id cs,b=.obx cs∧a=.ref id none 0 0 0∧h' id=.bx cs∧cs.all ji=true∧aR id=false) ∨
 (b=a∧∃ id k i j,a=.ref id none k i j∧aR id=true) ∨
 (b=a∧aB a=true) ∨
 (aB b=true∧∀ A2:Nat→Prop,(∀ b,A b→A2 b)→(∀ id sub,fT a=[id]→live h' id sub→A2 (ρ id sub).1)→RD w A2 b u)
theorem vW (r:Rel w X ρ h') {a b:AV} {u:Value} (hv:RV w (aD w X h' ρ) ρ h' a u) (he:jk h' a=some b):Yy w (aD w X h' ρ) ρ h' a b u:=by
 have dl:aB a=true→jk h' a=some a→Yy w (aD w X h' ρ) ρ h' a b u:=fun hd hq=>by
  rw [hq] at he;cases he;exact .inr (.inr (.inr (.inl ⟨rfl,hd⟩)))
 cases a with
 | rsl id sub k lo n =>
  obtain ⟨a,cap,rfl,hp,hn,hb,ha⟩:=hv.rsl_inv;cases sub with
  | none =>
   simp only [jk] at he;split at he
   ·grind
   ·have ho:=r.ob id;cases e:h' id with
    | dead=>rw [e] at he; cases he
    | ar k' rows =>
     rw [e] at he ho;simp only [wE] at he;split at he
     ·rename_i hc;obtain ⟨rfl,hle⟩:=hc;split at he
      ·rename_i hw;obtain ⟨rfl,rfl⟩:=hw;cases he;exact .inl ⟨id,k',rows,rfl,rfl,e,by grind⟩
      ·cases he;obtain ⟨us,t,h1,h3,h4,h5⟩:=ho;exact .inr (.inr (.inr (.inr ⟨rfl,fun A2 hA hl=>DE h1 (hl id none rfl (by grind [live])) hA h5 hle hn ha⟩)))
     grind
    | fz k' rows =>
     rw [e] at he ho;simp only [wE] at he;split at he
     ·rename_i hc;obtain ⟨rfl,hle⟩:=hc;cases he;obtain ⟨h0,us,t,fr,h1,h3,h4,h5⟩:=ho;exact .inr (.inr (.inr (.inr ⟨rfl,fun A2 hA hl=>DE h1 (hA _ h0) hA h5 hle hn ha⟩)))
     grind
    | bx cs =>
     rw [e] at he;simp only [wE] at he;split at he
     ·rename_i hc;obtain ⟨rfl,hle,hd⟩:=hc;cases he;obtain ⟨us,t,h1,h3,h4,h5⟩:=r.cell e;refine .inr (.inr (.inr (.inr ⟨rfl,fun A2 hA hl=>j1 h1 (hl id none rfl (by grind [live])) (fun i row hi=>?_) (by grind [oV]) hn ha⟩)));simp only [oV,List.getElem?_map,Option.map_eq_some_iff] at hi;obtain ⟨c,hc,rfl⟩:=hi;refine ⟨rfl,fun j d hj=>?_⟩;cases j with
      | succ j=>grind
      | zero =>
       simp at hj;subst hj;obtain ⟨u,h6,h7⟩:=h5 i c hc;have hdc:=List.all_eq_true.1 hd c (List.mem_of_getElem? hc);exact ⟨u,by grind,Fc h7 hdc hA (fun k rows ec=>by subst ec; exact hl id (some i) rfl ⟨cs,k,rows,e,hc⟩),Aw hdc⟩
     grind
  | some p =>
   simp only [jk] at he;split at he
   ·grind
   ·cases e:h' id with
    | bx cs =>
     rw [e] at he;simp only [jc] at he;cases ec:cs[p]? with
     | none=>rw [ec] at he; cases he
     | some c =>
      rw [ec] at he;cases c <;> simp only [sP,aaM] at he <;> try (cases he; done)
      split at he
      ·rename_i hc;obtain ⟨rfl,hle⟩:=hc;cases he;obtain ⟨us,t,h1,h3,h4,h5⟩:=r.cell e;obtain ⟨u,_,a',cap',us',t',_,_,_,q4,q5,q6,q7⟩:=h5 p _ ec;exact .inr (.inr (.inr (.inr ⟨rfl,fun A2 hA hl=>DE q4 (hl id (some p) rfl ⟨cs,_,_,e,ec⟩) hA q7 hle hn ha⟩)))
      grind
    | _=>rw [e] at he; cases he
 | ref id sub k i j =>
  cases sub with
  | some p=>grind [jk,aB]
  | none =>
   simp only [jk] at he;split at he
   ·rename_i hps;cases he;exact .inr (.inr (.inl ⟨rfl,id,k,i,j,rfl,hps⟩))
   ·split at he
    ·rename_i hc;obtain ⟨rfl,rfl,rfl⟩:=hc;cases e:h' id <;> rw [e] at he <;> simp only [RF] at he <;> try (cases he; done)
     split at he
     ·rename_i hd;cases he;exact .inr (.inl ⟨id,_,rfl,rfl,e,hd,by grind⟩)
     grind
    grind
 | fn f x y =>
  grind [jk]
 | any=>exact dl rfl rfl
 | v x=>exact dl rfl rfl
 | emp=>exact dl rfl rfl
 | sl k rows=>exact dl rfl rfl
 | _=>simp [jk,aB] at he
theorem Mh {b c:AV} (hdl:aB b=true) (hd:uR b=some c):c=b:=by
 unfold uR at hd;split at hd
 all_goals simp_all [aB,if_pos]
theorem Gt (r:Rel w X ρ h') {a b c:AV} {u:Value} (hv:RV w (aD w X h' ρ) ρ h' a u) (h1:u.oneCell'=true) (he:jk h' a=some b) (hd:uR b=some c) :
  aB c=true∧∀ A2:Nat→Prop,(∀ b,aD w X h' ρ b→A2 b)→(∀ id sub,fT a=[id]→live h' id sub→A2 (ρ id sub).1)→RD w A2 c u:=by
 rcases vW r hv he with ⟨id,k,rows,rfl,rfl,e,_⟩ | ⟨id,cs,rfl,_⟩ | ⟨rfl,id,k,i,j,rfl,_⟩ | ⟨rfl,hdl⟩ | ⟨hdl,hr⟩
 ·simp only [uR,Option.some.injEq] at hd;subst hd;refine ⟨rfl,fun A2 hA hl=>?_⟩;obtain ⟨a,cap,rfl,hp,hn,hb,ha⟩:=hv.rsl_inv;have ho:=r.ob id;rw [e] at ho;obtain ⟨us,t,g1,g2,g3,g4⟩:=ho;have:=DE (w:=w) (A2:=A2) (lo:=0) g1 (hl id none rfl (by grind [live])) hA g4 (by omega) hn ha;grind [m8]
 ·grind [uR,aB]
 ·grind [uR,aB]
 ·have:c=b:=Mh hdl hd;subst this;exact ⟨hdl,fun A2 hA _=>(hv.toD hdl h1).mono fun b hb=>⟨hA b hb,rfl⟩⟩
 grind [Mh]
theorem Ew (r:Rel w X ρ h'):∀ (cs ds:List AV),iR h' cs=some ds→ds.length=cs.length∧∀ (i:Nat) (a c:AV) (u:Value),cs[i]?=some a→ds[i]?=some c→RV w (aD w X h' ρ) ρ h' a u→u.oneCell'=true →
  aB c=true∧∀ A2:Nat→Prop,(∀ b,aD w X h' ρ b→A2 b)→(∀ id sub,fT a=[id]→live h' id sub→A2 (ρ id sub).1)→RD w A2 c u
 | [],ds,he=>by grind [iR]
 | a::cs,ds,he=>by
  simp only [iR,Option.bind_eq_some_iff] at he;obtain ⟨b,e1,c,e2,q,e3,e4⟩:=he;obtain ⟨g1,g2⟩:=Ew r cs q e3;refine ⟨by grind,fun i a' c' u hc hd hv h1=>?_⟩;cases i with
  | zero =>
   grind [Gt]
  | succ i=>grind
end
def wJ (f:ac→Option R3) (p:ac→ac→Fp) (h:ac) (x:AV) (h':ac) (r w:List Nat):Prop :=
 ∀ g:ac,(∀ i,cH i ∈ r∨cH i ∈ w→g i=h i)→∃ g',f g=some (x,g',[])∧p g g'=some (r,w)∧(∀ i,cH i ∈ w→g' i=h' i)∧(∀ i,cH i ∉ w→g' i=g i)
section
variable {h h' g:ac} {x:AV} {r w:List Nat}
theorem yL {f:ac→Option R3} {p:ac→ac→Fp} (hw:w=[]) (hp:∀ g g',p g g'=some (r,w)) (hf:∀ g:ac,(∀ i,cH i ∈ r→g i=h i)→f g=some (x,g,[])):wJ f p h x h' r w:=fun g hg=>by
 simp_all
theorem lY {f:ac→Option R3} {p:ac→ac→Fp} {d:Nat} {o:Ob} (hd:cH d ∈ w) (hh:h'=upd h d o) (hp:∀ g g',p g g'=some (r,w)) (hf:∀ g:ac,g d=h d→f g=some (x,upd g d o,[])):wJ f p h x h' r w:=fun g hg=>by
 refine ⟨upd g d o,hf g (hg d (.inr hd)),hp g _,fun i hi=>?_,fun i hi=>?_⟩
 ·simp_all [upd]
 grind [upd,absurd]
theorem WB {a:AV} (hd:aB a=true) (h:ac):fS h a=some (a,h,[]):=by
 cases a <;> simp [aB] at hd <;> simp [fS,aB,hd]
theorem i7:∀ {xs:List AV},xs.all aB=true→∀ h:ac,fI h xs=some (xs,h,[])
 | [],_,h=>rfl
 | a::l,hd,h=>by
  simp only [List.all_cons,Bool.and_eq_true] at hd;simp only [fI,WB hd.1 h,i7 hd.2 h,Option.bind_some,List.append_nil]
theorem vX {a:AV} {xs:List AV} (hd:dat a=true) (hc:eY a=some xs):xs.all aB=true:=by
 cases a <;> simp only [dat,aB,eY,Option.some.injEq] at hd hc <;> first | (cases hc; done) | (cases hd; done) | skip
 all_goals grind [aB]
theorem Ca {k:Nat}:∀ {ps:List (Nat × AV)} {rows rows':List (List AV)} {h h':ac} {ks:K},(ps.all fun p=>dat p.2)=true→eF k h rows ps=some (rows',h',ks)→h'=h∧ks=[]∧∀ g:ac,eF k g rows ps=some (rows',g,[])
 | [],rows,rows',h,h',ks,_,hz=>by
  grind [eF,Option.some.injEq,Prod.mk.injEq]
 | (i,a)::ps,rows,rows',h,h',ks,hd,hz=>by
  simp only [List.all_cons,Bool.and_eq_true] at hd;simp only [eF,Option.bind_eq_some_iff] at hz;obtain ⟨cs,e1,hz⟩:=hz;split at hz
  ·have hcs:=vX hd.1 e1;simp only [i7 hcs h,Option.bind_some,Option.bind_eq_some_iff] at hz;obtain ⟨⟨r1,r2,r3⟩,e2,e3⟩:=hz;obtain ⟨q1,q2,q3⟩:=Ca hd.2 e2
   simp_all [eF,Option.bind_some,if_pos,i7,List.nil_append]
  grind
theorem Cb {k k0 i j:Nat} {agg:Bool} {o:Option (Nat × List (List AV))} {ks:K} (hz:kQ h k agg k0 i j o=some (x,h',ks)):h'=h∧ks=[]∧∀ g:ac,kQ g k agg k0 i j o=some (x,g,[]):=by
 cases o with
 | none=>cases hz
 | some q =>
  simp only [kQ] at hz;split at hz
  ·simp only [Option.bind_eq_some_iff,Option.map_eq_some_iff] at hz;obtain ⟨row,e1,a,e2,e3⟩:=hz
   simp_all [kQ,if_pos,Option.bind_some,Option.map_some]
  grind
theorem Uh {k id k0 i j:Nat} {agg:Bool} {o:Ob} (hz:tU h k agg id k0 i j o=some (x,h',[])):h'=h∧∀ g:ac,tU g k agg id k0 i j o=some (x,g,[]):=by
 cases o with
 | dead=>cases hz
 | bx cs =>
  simp only [tU,Am] at hz ⊢;grind
 | ar k' rows =>
  grind [tU,Cb]
 | fz k' rows =>
  grind [tU,Cb]
theorem Sn {k:Nat} {agg:Bool} {a:AV} (hz:fJ h k agg a=some (x,h',[])) (hp:n7 a=some (r,w)):wJ (fun g=>fJ g k agg a) (fun _ _=>n7 a) h x h' r w:=by
 cases a <;> simp only [n7] at hp <;> try (cases hp; done)
 case ipt cs =>
  cases hp;refine yL rfl (fun _ _=>rfl) fun g _=>?_;grind [fJ,Option.map_eq_some_iff]
 case ref id sub k0 i j =>
  cases hp;refine yL rfl (fun _ _=>rfl) fun g hg=>?_;cases sub with
  | none =>
   grind [fJ,Uh]
  | some p =>
   grind [fJ,Cb]
theorem Pt {k:Nat} {a y:AV} (hz:iF h k a y=some (x,h',[])) (hp:tV y a=some (r,w)):wJ (fun g=>iF g k a y) (fun _ _=>tV y a) h x h' r w:=by
 cases a <;> simp only [tV] at hp <;> try (cases hp; done)
 rename_i id sub k0 i j;split at hp
 ·rename_i hd;cases hp;simp only [iF,Option.bind_eq_some_iff] at hz;obtain ⟨xs,e1,hz⟩:=hz;have hxs:=vX hd e1;split at hz
  ·cases sub with
   | none =>
    simp only at hz;cases eo:h id with
    | bx cs =>
     rw [eo] at hz;simp only [yG,H3] at hz;split at hz
     ·simp only [Option.some.injEq,Prod.mk.injEq] at hz;obtain ⟨rfl,rfl,e3⟩:=hz;refine lY (by simp) rfl (fun _ _=>by simp_all [tV,if_pos]) fun g hg=>?_
      simp_all [iF,Option.bind_some,if_pos,yG,H3,if_true]
     grind
    | ar k' rows =>
     simp only [yG,i7 hxs h,Option.bind_some,eo,H4,Option.map_eq_some_iff] at hz;obtain ⟨q,e2,e3⟩:=hz;cases e3;refine lY (by simp) rfl (fun _ _=>by simp_all [tV,if_pos]) fun g hg=>?_
     simp_all [iF,Option.bind_some,if_pos,yG,i7,H4,Option.map_some]
    | _=>rw [eo] at hz; cases hz
   | some p =>
    simp only [i7 hxs h,Option.bind_some] at hz;cases eo:h id with
    | bx cs =>
     rw [eo] at hz;simp only [An] at hz;cases ec:cs[p]? with
     | none=>rw [ec] at hz; cases hz
     | some c =>
      rw [ec] at hz;cases c <;> simp only [RA] at hz <;> try (cases hz; done)
      simp only [Option.map_eq_some_iff] at hz;obtain ⟨q,e2,e3⟩:=hz;cases e3;refine lY (by simp) rfl (fun _ _=>by simp_all [tV,if_pos]) fun g hg=>?_
      simp_all [iF,Option.bind_some,if_pos,An,i7,RA,Option.map_some]
    | _=>rw [eo] at hz; cases hz
  grind
 grind
end
theorem aaX {a b:Value} (h:LX a b=true):a=b:=by
 cases a <;> cases b <;> simp only [LX] at h <;> try (cases h; done)
 case string.string x y =>
  obtain ⟨⟨x⟩⟩:=x
  simp_all
 all_goals grind
mutual
theorem aaY:∀ {a b:AV},LY a b=true→a=b
 | a,b,h=>by
  cases a <;> cases b <;> simp only [LY] at h <;> try (first | rfl | (cases h; done))
  case v.v=>rw [aaX h]
  case sl.sl=>simp only [Bool.and_eq_true,decide_eq_true_eq] at h; rw [h.1,Cc h.2]
  case osl.osl=>simp only [Bool.and_eq_true,decide_eq_true_eq] at h; rw [h.1,Cc h.2]
  case obx.obx=>rw [rD h]
  case agg.agg=>rw [rD h]
  case ref.ref=>grind
  case rsl.rsl=>grind
  case ipt.ipt=>rw [rD h]
  case fn.fn=>simp only [Bool.and_eq_true,decide_eq_true_eq] at h; rw [h.1,rD h.2.1,rD h.2.2]
theorem rD:∀ {a b:List AV},sJ a b=true→a=b
 | [],[],_=>rfl
 | [],_::_,h=>by cases h
 | _::_,[],h=>by cases h
 | a::l,b::r,h=>by
  simp only [sJ,Bool.and_eq_true] at h;rw [aaY h.1,rD h.2]
theorem Cc:∀ {a b:List (List AV)},Bq a b=true→a=b
 | [],[],_=>rfl
 | [],_::_,h=>by cases h
 | _::_,[],h=>by cases h
 | a::l,b::r,h=>by
  simp only [Bq,Bool.and_eq_true] at h;rw [rD h.1,Cc h.2]
end
theorem WC {a b:Ob} (h:Dw a b=true):a=b:=by
 cases a <;> cases b <;> simp only [Dw] at h <;> try (first | rfl | (cases h; done))
 case bx.bx=>rw [rD h]
 case ar.ar=>grind [Cc]
 case fz.fz=>grind [Cc]
theorem Ui {g h g' h':ac} {ids:List Nat} (e:∀ i,i ∈ ids→g i=h i) (e':∀ i,i ∈ ids→g' i=h' i):BU g g' ids=BU h h' ids:=by
 grind [BU,List.filter_congr]
theorem WD {h h':ac} {ids:List Nat} {i:Nat} (hi:i ∈ ids) (hn:cH i ∉ (BU h h' ids).map cH):h' i=h i:=by
 by_cases hs:Dw (h i) (h' i)=true
 ·exact (WC hs).symm
 ·refine absurd (List.mem_map.2 ⟨i,?_,rfl⟩) hn;simp only [BU,List.mem_filter];exact ⟨hi,by simpa using hs⟩
theorem AA {a:Nat}:∀ {r l:List Nat},a ∈ l→a ∈ bJ l r
 | [],l,h=>h
 | b::r,l,h=>by
  unfold bJ;apply AA;split
  ·exact h
  ·simp [h]
theorem wK:∀ {r l:List Nat},l.Nodup→(bJ l r).Nodup
 | [],l,h=>h
 | b::r,l,h=>by
  unfold bJ;apply wK;split
  ·exact h
  ·rename_i hc;rw [List.nodup_append];refine ⟨h,by simp,fun a ha c hc'=>?_⟩;simp only [List.mem_singleton] at hc';subst hc'
   rintro rfl
   exact hc (by simpa using ha)
theorem J3 {h:ac} {a:Nat}:∀ {n:Nat} {l:List Nat} {i:Nat},a ∈ l→a ∈ cf h n l i
 | 0,l,i,hm=>hm
 | n+1,l,i,hm=>by
  unfold cf;split
  ·exact hm
  ·exact J3 (AA hm)
theorem Ey {h:ac}:∀ {n:Nat} {l:List Nat} {i:Nat},l.Nodup→(cf h n l i).Nodup
 | 0,l,i,hm=>hm
 | n+1,l,i,hm=>by
  unfold cf;split
  ·exact hm
  ·exact Ey (wK hm)
theorem yM {g h:ac}:∀ {n:Nat} {l:List Nat} {i:Nat},(∀ a,a ∈ cf h n l i→g a=h a)→cf g n l i=cf h n l i
 | 0,l,i,_=>rfl
 | n+1,l,i,hg=>by
  unfold cf at hg ⊢;split
  ·rfl
  ·rename_i a ha;rw [ha] at hg;rw [hg a (J3 (AA (List.mem_of_getElem? ha)))];exact yM hg
theorem J4 (h:ac) (n:Nat):cf h n [] 0=[]:=by cases n <;> simp [cf]
theorem Mi {a:AV} (h:aB a=true):fT a=[]:=by cases a <;> simp [aB] at h <;> rfl
theorem Mj {a:AV} (h:dat a=true):bT a=[]:=by
 cases a <;> simp only [dat] at h <;> try exact Mi h
 all_goals simp_all [bT,List.flatMap_eq_nil_iff,Mi,aB,Bool.and_eq_true,List.isEmpty_iff]
theorem J5 {a:AV} (h:dat a=true):rz a=true:=by
 have key:∀ c,aB c=true→mA c=true:=fun c hc=>by cases c <;> simp [aB] at hc <;> rfl
 cases a <;> simp only [dat] at h <;> try exact key _ h
 all_goals simp_all [aB,Bool.and_eq_true,List.isEmpty_iff,rz]
section
variable {h h' g:ac} {x:AV}
theorem Ez:∀ {cs:List AV} {q:List AV × ac × K},cs.all mA=true→fI h cs=some q→q=(cs,h,[])∧∀ g:ac,fI g cs=some (cs,g,[])
 | [],q,_,hz=>by cases hz; exact ⟨rfl,fun g=>rfl⟩
 | c::cs,q,hd,hz=>by
  simp only [List.all_cons,Bool.and_eq_true] at hd;simp only [fI,Option.bind_eq_some_iff] at hz;obtain ⟨p,e1,q',e2,e3⟩:=hz;have hc:p=(c,h,[])∧∀ g:ac,fS g c=some (c,g,[]):=by
   cases c <;> simp only [mA] at hd <;> simp only [fS] at e1 ⊢ <;> first | (cases hd.1; done) | skip
   all_goals
    split at e1
    ·rename_i hdl;simp only [if_pos hdl];cases e1;exact ⟨rfl,fun g=>by first | trivial | rfl⟩
    ·cases e1
  obtain ⟨rfl,hc2⟩:=hc;obtain ⟨rfl,q2⟩:=Ez hd.2 e2;cases e3;refine ⟨rfl,fun g=>?_⟩;simp only [fI,hc2 g,Option.bind_some,q2 g,List.append_nil]
theorem Pu {m:Nat} {a:AV} {q:R3} (hd:rz a=true) (hz:cR h m a=some q):q=(a,h,[])∧∀ g:ac,cR g m a=some (a,g,[]):=by
 have key:∀ c:AV,(∀ cs,c ≠ .agg cs)→mA c=true→sI h c=some q→q=(c,h,[])∧∀ g:ac,sI g c=some (c,g,[]):=by
  intro c hna hc hz;have e1:∀ g:ac,sI g c=if aB c then some (c,g,[]) else none:=by
   intro g;cases c <;> simp only [mA] at hc <;> first | (cases hc; done) | (exact absurd rfl (hna _)) | rfl
  grind
 cases a with
 | agg cs =>
  simp only [cR,sI,Option.bind_eq_some_iff] at hz ⊢;obtain ⟨p,e1,e2⟩:=hz;obtain ⟨rfl,q2⟩:=Ez hd e1;grind
 | rsl=>grind [rz,mA]
 | rsc=>grind [rz,mA]
 | ref id sub k i j =>
  cases sub with
  | none =>
   simp_all [cR,Option.some.injEq,trivial]
  | some p=>exact key _ (fun cs=>by simp) rfl hz
 | ipt cs =>
  simp_all [cR,Option.some.injEq,trivial]
 | fn f u v =>
  simp_all [cR,Option.some.injEq,trivial]
 | _=>exact key _ (fun cs=>by simp) rfl hz
theorem Cd:∀ {l:List AV} {ms:List Nat} {q:List AV × ac × K},l.all rz=true→bZ h ms l=some q→q=(l,h,[])∧∀ g:ac,bZ g ms l=some (l,g,[])
 | [],ms,q,_,hz=>by cases hz; exact ⟨rfl,fun g=>rfl⟩
 | a::l,ms,q,hd,hz=>by
  simp only [List.all_cons,Bool.and_eq_true] at hd;simp only [bZ,Option.bind_eq_some_iff] at hz;obtain ⟨p,e1,q',e2,e3⟩:=hz;obtain ⟨rfl,p2⟩:=Pu hd.1 e1;obtain ⟨rfl,q2⟩:=Cd hd.2 e2;cases e3;refine ⟨rfl,fun g=>?_⟩;simp only [bZ,p2 g,Option.bind_some,q2 g,List.append_nil]
theorem Mk {ids:List Nat} {i:Nat}:∀ {l:List Nat} {os:List Ob} {g h:ac},g i=h i→dS g ids l os i=dS h ids l os i
 | [],os,g,h,e=>by simp_all [dS]
 | a::l,[],g,h,e=>by simp_all [dS]
 | a::l,o::os,g,h,e=>by
  simp only [dS];apply Mk;unfold upd;split
  ·rfl
  ·exact e
theorem qV {ids:List Nat} {i:Nat}:∀ {l:List Nat} {os:List Ob} {g:ac},i ∉ l→dS g ids l os i=g i
 | [],os,g,_=>rfl
 | a::l,[],g,_=>rfl
 | a::l,o::os,g,hn=>by
  simp only [List.mem_cons,not_or] at hn;simp only [dS];rw [qV hn.2];exact aH _ _ hn.1
theorem Fd (n:Nat) (g h:ac) (c:AV):(da n g c).1=(da n h c).1:=by cases c <;> rfl
theorem Qa {n i:Nat} {g h:ac} {c:AV} (e:g i=h i):(da n g c).2 i=(da n h c).2 i:=by
 cases c <;> simp only [da] <;> first | exact e | (unfold upd; split; rfl; exact e)
theorem Ml {n i:Nat} {g:ac} {c:AV} (hn:i ≠ n):(da n g c).2 i=g i:=by
 cases c <;> simp only [da] <;> first | rfl | exact aH _ _ hn
theorem Mm:∀ (l:List AV) (n:Nat) (g h:ac),(bQ n g l).1=(bQ n h l).1
 | [],n,g,h=>rfl
 | c::l,n,g,h=>by simp only [bQ]; rw [Fd n g h,Mm l (n+1) _ (da n h c).2]
theorem Qb {i:Nat}:∀ {l:List AV} {n:Nat} {g h:ac},g i=h i→(bQ n g l).2 i=(bQ n h l).2 i
 | [],n,g,h,e=>e
 | c::l,n,g,h,e=>by simp only [bQ]; exact Qb (Qa e)
theorem Mn {i:Nat}:∀ {l:List AV} {n:Nat} {g:ac},¬ (n≤i∧i < n+l.length)→(bQ n g l).2 i=g i
 | [],n,g,hn=>rfl
 | c::l,n,g,hn=>by
  simp only [bQ];simp only [List.length_cons] at hn;rw [Mn (by omega),Ml (by omega)]
theorem Qc (n:Nat) (g h:ac) (c:AV):(mat n g c).1=(mat n h c).1:=by
 cases c <;> simp only [mat] <;> first | exact Fd _ _ _ _ | rw [Mm]
theorem Uj {n i:Nat} {g h:ac} {c:AV} (e:g i=h i):(mat n g c).2 i=(mat n h c).2 i:=by
 cases c <;> simp only [mat] <;> first | exact Qa e | exact Qb e
theorem sW {n i:Nat} {g:ac} {c:AV} (hn:¬ (n≤i∧i < n+cG c)):(mat n g c).2 i=g i:=by
 cases c <;> simp only [mat] <;> simp only [cG] at hn <;> first | exact Ml (by omega) | exact Mn hn
theorem EA {g h:ac}:∀ {m n:Nat},(∀ i,n≤i→i < n+m→g i=h i)→dp g n m=dp h n m
 | 0,n,_=>rfl
 | m+1,n,hg=>by
  simp only [dp];rw [hg n (by omega) (by omega),EA fun i h1 h2=>hg i (by omega) (by omega)]
theorem Br {g h:ac} {gv:K}:∀ {l:List Nat} {os:List Ob},(∀ a,a ∈ l→g a=h a)→dz g gv l os=dz h gv l os
 | [],os,_=>rfl
 | a::l,[],_=>rfl
 | a::l,o::os,hg=>by
  simp only [dz];rw [hg a (by simp),Br fun b hb=>hg b (by simp [hb])]
theorem xX {d i:Nat} (h1:2000+8*d≤i) (h2:i < 2000+8*d+8):cH i=2000+8*d:=by
 unfold cH;grind
theorem KN {kp:Bool} {d:Nat} {ids:List Nat} {gv:K} {r:AV × List Ob} (hz:fF kp h d ids [] gv r=some (x,h',[])) (hg:∀ i,cH i ∈ ids.map cH++[2000+8*d]→g i=h i) :
  ∃ g',fF kp g d ids [] gv r=some (x,g',[])∧(∀ i,cH i ∈ ids.map cH++[2000+8*d]→g' i=h' i)∧(∀ i,cH i ∉ ids.map cH++[2000+8*d]→g' i=g i)∧∀ i,i ∉ ids→cH i ≠ 2000+8*d→h' i=h i:=by
 unfold fF at hz ⊢;split at hz
 ·rename_i hc;simp only [Option.some.injEq,Prod.mk.injEq,List.nil_append,List.append_eq_nil_iff] at hz;obtain ⟨rfl,rfl,hk,rfl⟩:=hz;obtain ⟨c1,c0,c2,c3,c4,c5⟩:=hc;have hfr:dp g (2000+8*d) (cG r.1)=true:=by
   grind [EA,xX]
  have hst:dz g [] ids r.2=true:=by grind [Br]
  refine ⟨(mat (2000+8*d) (dS g ids ids r.2) r.1).2,?_,fun i hi=>?_,fun i hi=>?_,fun i hi hi2=>?_⟩
  ·rw [if_pos ⟨c1,c0,c2,hfr,hst,c5⟩,hk];simp only [gA,List.append_nil];rw [Qc _ (dS g ids ids r.2) (dS h ids ids r.2)]
  ·simp only [gA];grind [Uj,Mk]
  ·rw [sW (fun hh=>hi (by grind [xX])),qV (fun hh=>hi (by grind))]
  ·simp only [gA];rw [sW (fun hh=>hi2 (xX hh.1 (by omega))),qV hi]
 grind
theorem Pw {call:dP} {md:Mode} {d:Nat} {f:AV} {zas:List AV} {r w:List Nat} (hz:dU call md h d zas f=some (x,h',[])) (hp:fV h d (jV zas f) h'=some (r,w)) :
  wJ (fun g=>dU call md g d zas f) (fun g=>fV g d (jV zas f)) h x h' r w:=by
 cases f <;> simp only [dU] at hz <;> try (cases hz; done)
 rename_i fid a b;simp only [jV] at hp;simp only [Option.bind_eq_some_iff] at hz;obtain ⟨p,e1,e2⟩:=hz;have hno:(a++zas++b).all rz=true:=by
  grind [fV,List.all_eq_true,J5]
 obtain ⟨rfl,e3⟩:=Cd hno e1;generalize hI:cf h 40 (bJ [] ((a++zas++b).flatMap bT)) 0=ids at *
 have hids:(∀ i,i ∈ ids→cH i ∈ r)∧w=(BU h h' ids).map cH++[2000+8*d] ∧
   (∀ g g':ac,(∀ i,i ∈ ids→g i=h i)→(∀ i,i ∈ ids→g' i=h' i)→fV g d (a++zas++b) g'=some (r,w)):=by
  unfold fV at hp;split at hp
  ·cases hp;have:(a++zas++b).flatMap bT=[]:=by
    grind [List.flatMap_eq_nil_iff,Mj]
   rw [this] at hI;simp only [bJ,J4] at hI;subst hI;refine ⟨fun i hi=>by grind,rfl,fun g g' _ _=>?_⟩
   simp_all [fV,if_pos]
  ·rename_i hd;rw [hI] at hp;cases hp;refine ⟨fun i hi=>List.mem_map.2 ⟨i,hi,rfl⟩,rfl,fun g g' hg hg'=>?_⟩;unfold fV;have hre:cf g 40 (bJ [] ((a++zas++b).flatMap bT)) 0=ids:=by
    grind [yM]
   rw [if_neg hd,if_pos hno,hre,Ui hg hg']
 obtain ⟨hi1,hi2,hi3⟩:=hids;intro g hg;have hat:∀ i,i ∈ ids→g i=h i:=fun i hi=>hg i (.inl (hi1 i hi));have hre:cf g 40 (bJ [] ((a++zas++b).flatMap bT)) 0=ids:=by
  grind [yM]
 unfold kR at e2;split at e2
 ·simp only [Option.bind_eq_some_iff] at e2;obtain ⟨res,e4,e5⟩:=e2;have hgl:∀ i,cH i ∈ ids.map cH++[2000+8*d]→g i=h i:=fun i hi=>by
   grind
  obtain ⟨g',g1,g2,g3,g4⟩:=KN e5 (g:=g) hgl;have hat':∀ i,i ∈ ids→g' i=h' i:=fun i hi=>g2 i (List.mem_append_left _ (List.mem_map.2 ⟨i,hi,rfl⟩));refine ⟨g',?_,hi3 g g' hat hat',fun i hi=>g2 i ?_,fun i hi=>?_⟩
  ·simp only [dU,e3 g,Option.bind_some,hre];unfold kR;have hmap:ids.map (fun a=>cZ (bo ids) (g a))=ids.map fun a=>cZ (bo ids) (h a):=List.map_congr_left fun i hi=>by rw [hat i hi]
   grind
  ·rw [hi2] at hi;rcases List.mem_append.1 hi with hi | hi
   ·refine List.mem_append_left _ ?_;obtain ⟨a,ha,hae⟩:=List.mem_map.1 hi;exact List.mem_map.2 ⟨a,(List.mem_filter.1 ha).1,hae⟩
   grind
  grind [cH,WD,List.mem_append_left]
 grind
theorem Gu {call:dP} {md:Mode} {d:Nat} {f:AV} {zas:List AV} {r w:List Nat} (hz:bE call md h d zas f=some (x,h',[])) (hp:fV h d (jV zas f) h'=some (r,w)) :
  wJ (fun g=>bE call md g d zas f) (fun g=>fV g d (jV zas f)) h x h' r w:=by
 have hb:¬ pL md zas f=true:=by
  intro hb;have hno:∀ l:List AV,l.all rz=true→l.any (fun x=>!RB x)=false:=fun l hl=>by
   rw [List.any_eq_false];intro c hc;have:=List.all_eq_true.1 hl c hc;cases c <;> simp [rz,mA,RB] at this ⊢
  cases f <;> simp only [pL,Bool.and_eq_true] at hb <;> try (cases hb; done)
  simp only [jV] at hp;unfold fV at hp;split at hp
  ·rename_i hd;rw [hno _ (List.all_eq_true.2 fun c hc=>J5 (List.all_eq_true.1 hd c hc))] at hb;grind
  grind
 simp_all [bE,if_neg,Pw]
theorem EB {d:Nat} {x0 x:AV} {h0 g0 h':ac} {k0:K} (hz:ry d (x0,h0,k0)=some (x,h',[])) (hg:∀ i,cH i=2000+8*d→g0 i=h0 i) :
  k0=[]∧∃ g',ry d (x0,g0,[])=some (x,g',[])∧(∀ i,cH i=2000+8*d→g' i=h' i)∧(∀ i,cH i ≠ 2000+8*d→g' i=g0 i):=by
 unfold ry at hz ⊢;simp only at hz ⊢;split at hz
 ·rename_i id k lo n;split at hz
  ·rename_i hid;subst hid;have hgd:cH (2000+8*d)=2000+8*d:=xX (Nat.le_refl _) (by omega);have he:=hg _ hgd;simp only [fS] at hz ⊢;rw [he];cases eo:h0 (2000+8*d) <;> rw [eo] at hz <;> simp only [m9] at hz ⊢ <;> try (cases hz; done)
   ·simp_all
   ·split at hz
    ·rename_i hc;rw [if_pos hc];simp only [Option.map_some,Option.some.injEq,Prod.mk.injEq,List.append_nil] at hz;obtain ⟨rfl,rfl,rfl⟩:=hz;refine ⟨rfl,upd g0 (2000+8*d) (.fz k _),rfl,fun i hi=>?_,fun i hi=>?_⟩
     all_goals grind [upd,absurd]
    grind
   grind
  grind
 grind
theorem AB {call:dP} {md:Mode} {d:Nat} {op:AOp} {s:ae} {r w:List Nat} (hz:step call md d op s h=some (x,h',[])) (hp:fw d op s h h'=some (r,w)) :
  wJ (fun g=>step call md d op s g) (fun g=>fw d op s g) h x h' r w:=by
 cases op with
 | p op =>
  obtain ⟨rfl,rfl⟩:=hp;simp only [step,wD,Option.map_eq_some_iff] at hz;obtain ⟨a,e1,e2⟩:=hz;cases e2;exact yL rfl (fun _ _=>rfl) fun g _=>by simp only [step,wD,e1,Option.map_some]
 | alloc z =>
  obtain ⟨rfl,rfl⟩:=hp;obtain ⟨h1,rfl,rfl,_⟩:=jn hz;exact lY (by simp) rfl (fun _ _=>rfl) fun g hg=>by grind [step,jj,wB]
 | box k y =>
  simp only [fw] at hp;split at hp
  ·rename_i hd;cases hp;simp only [step,wC,Option.bind_eq_some_iff] at hz;obtain ⟨xs,e1,hz⟩:=hz;split at hz
   ·rename_i hk;simp only [vX hd e1,if_true,jj] at hz;obtain ⟨h1,rfl,rfl,_⟩:=jn hz;refine lY (by simp) rfl (fun _ _=>by simp_all [fw,if_pos]) fun g hg=>?_;simp only [step,wC,e1,Option.bind_some,if_pos hk,vX hd e1,if_true,jj,hg,h1,wB]
   grind
  grind
 | buildSl k z n ps =>
  simp only [fw] at hp;split at hp
  ·rename_i hd;cases hp;simp only [step,Option.bind_eq_some_iff] at hz;obtain ⟨q,e1,hz⟩:=hz;have hd':((ps.map fun p=>(p.1,ev s p.2)).all fun p=>dat p.2)=true:=by
    grind
   obtain ⟨e2,e3,e4⟩:=Ca hd' e1;obtain ⟨q1,q2,q3⟩:=q;simp only at e2 e3 e4 hz;subst e2 e3;obtain ⟨h1,rfl,rfl,_⟩:=jn hz;refine lY (by simp) rfl (fun _ _=>by simp only [fw,if_pos hd]) fun g hg=>?_;simp only [step,e4 g,Option.bind_some,cY,hg,h1,wB]
  grind
 | mkSl k z b l c =>
  obtain ⟨rfl,rfl⟩:=hp;simp only [step,Option.bind_eq_some_iff] at hz;obtain ⟨q,e1,hz⟩:=hz;split at hz
  ·obtain ⟨h1,rfl,rfl,_⟩:=jn hz;refine lY (by simp) rfl (fun _ _=>rfl) fun g hg=>?_
   simp_all [step,Option.bind_some,if_pos,cY,wB]
  grind
 | load k g y=>exact Sn hz hp
 | store k a y=>exact Pt hz hp
 | app k b a y=>cases hp
 | cpy k x y=>cases hp
 | slcM k x lo hi=>cases hp
 | clr k z x=>cases hp
 | appz k b z x n=>cases hp
 | take x=>cases hp
 | call f zas=>exact Gu hz hp
 | callC f zas =>
  simp only [step,Option.bind_eq_some_iff] at hz;obtain ⟨⟨x0,h0,k0⟩,e1,e2⟩:=hz;simp only [fw,BV] at hp;split at hp
  ·cases hp;obtain ⟨rfl,_⟩:=EB (g0:=h0) e2 (fun _ _=>rfl);have hp1:fV h d (jV (zas.map (ev s)) (ev s f)) h0=some ([],[2000+8*d]):=by simp_all [fV,if_pos]
   intro g hg;obtain ⟨g0,a1,a2,a3,a4⟩:=Gu e1 hp1 g hg;obtain ⟨_,g',b1,b2,b3⟩:=EB e2 (g0:=g0) (fun i hi=>a3 i (by grind))
   simp_all [bE,ev,step,fw,BV,if_pos]
  grind
 | bad=>cases hz
end
section
variable {call:dP} {md:Mode} {s:ae} {h:ac}
theorem fy {s s':ae} {o:Opd} (hs:∀ i,i ∈ eZ o→s' i=s i):ev s' o=ev s o:=by
 cases o with
 | t n=>exact hs n (by simp [eZ])
 | c a=>rfl
theorem qW {s s':ae} {o:Option Opd} (hs:∀ i,i ∈ kS o.toList→s' i=s i):evo s' o=evo s o:=by
 cases o with
 | none=>rfl
 | some o=>grind [evo,fy,kS]
theorem xY {s s':ae} {l:List Opd} (hs:∀ i,i ∈ kS l→s' i=s i):l.map (ev s')=l.map (ev s) :=
 List.map_congr_left fun o ho=>fy fun i hi=>hs i (by simp only [kS,List.mem_flatMap]; exact ⟨o,ho,hi⟩)
theorem Uk {s s':ae} {op:POp} (hs:∀ i,i ∈ Gf op→s' i=s i):eA s' op=eA s op:=by
 cases op <;> simp only [Gf,List.mem_append] at hs <;> simp only [eA]
 case build z ps =>
  have:(ps.map fun p=>(p.1,p.2.1,ev s' p.2.2))=ps.map fun p=>(p.1,p.2.1,ev s p.2.2) :=
   List.map_congr_left fun p hp=>by rw [fy fun i hi=>hs i (by rw [List.mem_flatMap]; exact ⟨p,hp,hi⟩)]
  rw [this]
 case mnx m x ys=>rw [fy fun i hi=>hs i (.inl hi),xY fun i hi=>hs i (.inr hi)]
 case mkF f a b=>rw [xY fun i hi=>hs i (.inl hi),xY fun i hi=>hs i (.inr hi)]
 case pick c a b=>rw [fy fun i hi=>hs i (.inl hi),fy fun i hi=>hs i (.inr (.inl hi)),fy fun i hi=>hs i (.inr (.inr hi))]
 case slc k x lo hi mx=>rw [fy fun i hi=>hs i (.inl hi),qW fun i hi=>hs i (.inr (.inl hi)),qW fun i hi=>hs i (.inr (.inr (.inl hi))),qW fun i hi=>hs i (.inr (.inr (.inr hi)))]
 case slcS x lo hi=>rw [fy fun i hi=>hs i (.inl hi),qW fun i hi=>hs i (.inr (.inl hi)),qW fun i hi=>hs i (.inr (.inr hi))]
 all_goals first
  | rw [fy hs]
  | rw [fy fun i hi=>hs i (.inl hi),fy fun i hi=>hs i (.inr hi)]
theorem rF {s s':ae} {d:Nat} {op:AOp} (hs:∀ i,i ∈ Gg op→s' i=s i):step call md d op s' h=step call md d op s h∧∀ h',fw d op s' h h'=fw d op s h h':=by
 cases op <;> simp only [Gg,List.mem_append] at hs <;> simp only [step,fw]
 case p op=>simp_all [Uk,trivial]
 case buildSl k z n ps =>
  have:(ps.map fun p=>(p.1,ev s' p.2))=ps.map fun p=>(p.1,ev s p.2) :=
   List.map_congr_left fun p hp=>by rw [fy fun i hi=>hs i (by rw [List.mem_flatMap]; exact ⟨p,hp,hi⟩)]
  rw [this];have h2:(ps.all fun p=>dat (ev s' p.2))=ps.all fun p=>dat (ev s p.2):=by
   rw [show (ps.all fun p=>dat (ev s' p.2))=((ps.map fun p=>(p.1,ev s' p.2)).all fun p=>dat p.2) from by rw [List.all_map]; rfl,this,List.all_map]; rfl
  rw [h2];exact ⟨rfl,fun _=>rfl⟩
 case slcM k x lo hi=>simp_all [fy,qW,trivial]
 all_goals simp_all [fy,xY,trivial]
theorem Ce {d:Option Nat} {f:ac→Fp} {f':Fp} {r:Option R3} {t:St} (hz:jI s d f r=some (t,f')):∃ x h',r=some (x,h',[])∧t=⟨dN s d x,h'⟩∧f'=f h':=by
 unfold jI at hz;grind
theorem xZ {o:COp} {t:St} {f:Fp} (hz:cU call md o s h=some (t,f)) :
  ∃ x h',t=⟨dN s o.d x,h'⟩∧((∀ s':ae,∀ g:ac,(∀ i,i ∈ iG o→s' i=s i)→cU call md o s' g=some (⟨dN s' o.d x,g⟩,some ([],[])))∧h'=h∧f=some ([],[]) ∨
   (step call md (o.d.getD 0) o.op s h=some (x,h',[])∧f=fw (o.d.getD 0) o.op s h h' ∧
    ∀ s':ae,∀ g:ac,(∀ i,i ∈ iG o→s' i=s i)→cU call md o s' g=jI s' o.d (fw (o.d.getD 0) o.op s g) (step call md (o.d.getD 0) o.op s g))):=by
 unfold cU at hz;cases hg:o.g with
 | none =>
  rw [hg] at hz;obtain ⟨x,h',e1,e2,e3⟩:=Ce hz;refine ⟨x,h',e2,.inr ⟨e1,e3,fun s' g hs=>?_⟩⟩;simp only [iG,hg,List.nil_append] at hs;unfold cU;rw [hg];rw [(rF (h:=g) hs).1,funext (rF (call:=call) (md:=md) (h:=g) hs).2]
 | some jb =>
  obtain ⟨j,b⟩:=jb;rw [hg] at hz;simp only at hz;have hj:∀ s':ae,(∀ i,i ∈ iG o→s' i=s i)→s' j=s j:=fun s' hs=>hs j (by grind [iG]);unfold lT at hz;split at hz
  ·rename_i bb hb;split at hz
   ·rename_i hbb;obtain ⟨x,h',e1,e2,e3⟩:=Ce hz;refine ⟨x,h',e2,.inr ⟨e1,e3,fun s' g hs=>?_⟩⟩;unfold cU;rw [hg];simp only;rw [hj s' hs,hb];simp only [lT,if_pos hbb];simp only [iG,hg,List.mem_append] at hs;rw [(rF (h:=g) fun i hi=>hs i (.inr hi)).1,funext (rF (call:=call) (md:=md) (h:=g) fun i hi=>hs i (.inr hi)).2]
   ·cases hz;refine ⟨.und,h,rfl,.inl ⟨fun s' g hs=>?_,rfl,rfl⟩⟩
    simp_all [cU,lT,if_neg]
  ·cases hz;refine ⟨.und,h,rfl,.inl ⟨fun s' g hs=>?_,rfl,rfl⟩⟩
   simp_all [cU,lT]
  grind
theorem DF {d:Option Nat} {x:AV} {i:Nat} (hn:∀ e,d=some e→i ≠ e):dN s d x i=s i:=by
 cases d with
 | none=>rfl
 | some e=>exact aH _ _ (hn e rfl)
theorem J6 {a b:Option Nat} (x y:AV) (hn:∀ i j,a=some i→b=some j→i ≠ j):dN (dN s a x) b y=dN (dN s b y) a x:=by
 cases a with
 | none=>rfl
 | some i =>
  cases b with
  | none=>rfl
  | some j =>
   funext k;simp only [dN,upd];grind
theorem Gv {a b:COp} (hi:vR a b=true):(∀ i d,i ∈ iG b→a.d=some d→i ≠ d)∧(∀ i d,i ∈ iG a→b.d=some d→i ≠ d)∧∀ i j,a.d=some i→b.d=some j→i ≠ j:=by
 simp only [vR,Bool.and_eq_true] at hi;grind
def oi (f g:Fp):Prop:=jP f g=true
theorem J7 {a b:List Nat} (h:uQ a b=true) {i:Nat} (ha:i ∈ a):i ∉ b:=by
 simp only [uQ,List.all_eq_true,Bool.not_eq_true',List.contains_eq_mem,decide_eq_false_iff_not] at h;exact h i ha
theorem vY {α:Type} {l:List α} (h:l.isEmpty=true):l=[]:=by cases l <;> simp at h ⊢
theorem ac8 {a b:COp} {t1 t2:St} {fa fb:Fp} (ha:cU call md a s h=some (t1,fa)) (hb:cU call md b t1.s t1.h=some (t2,fb)) (hi:vR a b=true) (hf:oi fa fb) :
  ∃ t,cU call md b s h=some (t,fb)∧cU call md a t.s t.h=some (t2,fa):=by
 obtain ⟨i1,i2,i3⟩:=Gv hi;obtain ⟨xa,ha',rfl,ca⟩:=xZ ha;obtain ⟨xb,hb',rfl,cb⟩:=xZ hb;have sb:∀ i,i ∈ iG b→s i=dN s a.d xa i:=fun i hm=>(DF fun e he=>i1 i e hm he).symm;have sa:∀ i,i ∈ iG a→dN s b.d xb i=s i:=fun i hm=>DF fun e he=>i2 i e hm he;have sc:=J6 (s:=s) xa xb i3;rcases ca with ⟨ca,rfl,rfl⟩ | ⟨ea,rfl,ca⟩
 ·
  rcases cb with ⟨cb,rfl,rfl⟩ | ⟨eb,rfl,cb⟩
  ·grind
  ·refine ⟨⟨dN s b.d xb,hb'⟩,?_,by rw [ca _ _ sa,← sc]⟩;rw [cb s _ sb,eb];rfl
 ·rcases cb with ⟨cb,rfl,rfl⟩ | ⟨eb,rfl,cb⟩
  ·grind [jI]
  ·
   unfold oi at hf;cases efa:fw (a.d.getD 0) a.op s h ha' with
   | none =>
    rw [efa] at hf;cases efb:fw (b.d.getD 0) b.op (dN s a.d xa) ha' hb' with
    | none=>rw [efb] at hf; cases hf
    | some q =>
     obtain ⟨r,w⟩:=q;rw [efb] at hf;simp only [jP,Bool.and_eq_true] at hf;have hr:=vY hf.1;have hw:=vY hf.2;subst hr hw;have fb:=AB eb efb;obtain ⟨g1,p1,p2,p3,p4⟩:=fb h (fun i hi=>by grind);obtain ⟨g2,q1,q2,q3,q4⟩:=fb ha' (fun i hi=>rfl);have e1:g1=h:=funext fun i=>p4 i (by simp);have e2:hb'=ha':=by
      grind
     grind [jI]
   | some p =>
    obtain ⟨ra,wa⟩:=p;rw [efa] at hf;have fra:=AB ea efa;cases efb:fw (b.d.getD 0) b.op (dN s a.d xa) ha' hb' with
    | none =>
     rw [efb] at hf;simp only [jP,Bool.and_eq_true] at hf;have hr:=vY hf.1;have hw:=vY hf.2;subst hr hw;obtain ⟨g1,p1,p2,p3,p4⟩:=fra h (fun i hi=>rfl);have e1:ha'=h:=by
      grind
     obtain ⟨g2,q1,q2,q3,q4⟩:=fra hb' (fun i hi=>by grind);have e2:g2=hb':=funext fun i=>q4 i (by simp);grind [jI]
    | some q =>
     obtain ⟨rb,wb⟩:=q;rw [efb] at hf;simp only [jP,Bool.and_eq_true] at hf;obtain ⟨d1,d2⟩:=hf;have frb:=AB eb efb;have hout:∀ i,cH i ∉ wa→ha' i=h i:=by
      obtain ⟨g1,p1,p2,p3,p4⟩:=fra h (fun i hi=>rfl);grind
     have hout2:∀ i,cH i ∉ wb→hb' i=ha' i:=by
      obtain ⟨g1,p1,p2,p3,p4⟩:=frb ha' (fun i hi=>rfl);grind
     have nwa:∀ i,cH i ∈ rb∨cH i ∈ wb→cH i ∉ wa:=fun i hi hw=>J7 d1 hw (by grind);obtain ⟨g1,p1,p2,p3,p4⟩:=frb h (fun i hi=>(hout i (nwa i hi)).symm);have agr:∀ i,cH i ∈ ra∨cH i ∈ wa→g1 i=h i:=fun i hi=>p4 i fun hw=>by
      grind [J7]
     obtain ⟨g2,q1,q2,q3,q4⟩:=fra g1 agr;have e2:g2=hb':=funext fun i=>by
      by_cases hwa:cH i ∈ wa
      all_goals grind
     grind [jI]
theorem Mo {o:COp} {post:List COp}:∀ {pre:List COp} {s:ae} {h:ac} {t:St} {Fs:List Fp},fg call md (pre++o::post) s h=some (t,Fs) →
  ∃ Fpre f Fpost,Fs=Fpre++f::Fpost∧Fpre.length=pre.length∧((∀ (j:Nat) (a:COp) (fa:Fp),pre[j]?=some a→Fpre[j]?=some fa→vR a o=true∧oi fa f) →
   ∃ t1,cU call md o s h=some (t1,f)∧fg call md (pre++post) t1.s t1.h=some (t,Fpre++Fpost))
 | [],s,h,t,Fs,hz=>by
  simp only [List.nil_append,fg,Option.bind_eq_some_iff] at hz;obtain ⟨⟨t1,f⟩,e1,⟨t2,F2⟩,e2,e3⟩:=hz;cases e3;exact ⟨[],f,F2,rfl,rfl,fun _=>⟨t1,e1,e2⟩⟩
 | a::pre,s,h,t,Fs,hz=>by
  simp only [List.cons_append,fg,Option.bind_eq_some_iff] at hz;obtain ⟨⟨t1,fa⟩,e1,⟨t2,F2⟩,e2,e3⟩:=hz;cases e3;obtain ⟨Fpre,f,Fpost,rfl,hl,hh⟩:=Mo e2;refine ⟨fa::Fpre,f,Fpost,rfl,by grind,fun hc=>?_⟩;obtain ⟨t3,g1,g2⟩:=hh fun j a' fa' h1 h2=>hc (j+1) a' fa' (by grind) (by grind);obtain ⟨c1,c2⟩:=hc 0 a fa rfl rfl;obtain ⟨t4,k1,k2⟩:=ac8 e1 g1 c1 c2;refine ⟨t4,k1,?_⟩;simp only [List.cons_append,fg,k2,Option.bind_some,g2]
end
section
variable {P:Program} {I:Inv} {call:dP} {md:Mode} {N:Nat} {ops:Array Oper}
theorem Px {o:COp} {s:ae} {h:ac} {t:St} {f:Fp} (hz:cU call md o s h=some (t,f)):iQ call md o s h=some t:=by
 have fin:∀ (F:ac→Fp) (r:Option R3),jI s o.d F r=some (t,f)→cA md.nm s o.d r=some t:=by
  intro F r hz;obtain ⟨x,h',e1,e2,_⟩:=Ce hz;subst e1 e2;simp only [cA,kC,if_true];rfl
 unfold cU at hz;unfold iQ;cases hg:o.g with
 | none =>
  grind
 | some jb =>
  unfold lT at hz;unfold ik;grind
theorem rG:∀ {l:List Oper} {hs cl:List COp},mC P N ops hs l=some cl→cl.length=l.length∧∀ (j:Nat) (o:Oper) (c:COp),l[j]?=some o→cl[j]?=some c→∃ hint,Lx P N ops hint o=some c
 | [],hs,cl,hc=>by grind [mC,Option.some.injEq]
 | o::l,hs,cl,hc=>by
  simp only [mC,Option.bind_eq_some_iff] at hc;obtain ⟨c,e1,q,e2,e3⟩:=hc;cases e3;obtain ⟨g1,g2⟩:=rG e2;refine ⟨by simp [g1],fun j o' c' h1 h2=>?_⟩;cases j with
  | zero=>simp at h1 h2; subst h1 h2; exact ⟨_,e1⟩
  | succ j=>exact g2 j o' c' (by simpa using h1) (by simpa using h2)
theorem Mp:∀ {l:List COp} {s:ae} {h:ac} {t:St} {Fs:List Fp},fg call md l s h=some (t,Fs)→Fs.length=l.length∧∀ (j:Nat) (a:COp) (f:Fp),l[j]?=some a→Fs[j]?=some f→∃ s' h' t',cU call md a s' h'=some (t',f)
 | [],s,h,t,Fs,hz=>by grind [fg,Option.some.injEq,Prod.mk.injEq]
 | o::l,s,h,t,Fs,hz=>by
  simp only [fg,Option.bind_eq_some_iff] at hz;obtain ⟨⟨t1,f1⟩,e1,⟨t2,F2⟩,e2,e3⟩:=hz;cases e3;obtain ⟨g1,g2⟩:=Mp e2;refine ⟨by simp [g1],fun j a f h1 h2=>?_⟩;cases j with
  | zero=>simp at h1 h2; subst h1 h2; exact ⟨s,h,t1,e1⟩
  | succ j=>exact g2 j a f (by simpa using h1) (by simpa using h2)
theorem Ih {i:Nat}:∀ {l acc:List Nat},i ∈ P6 acc l↔i ∈ acc∨i ∈ l
 | [],acc=>by simp [P6]
 | a::l,acc=>by
  unfold P6;cases h:acc.contains a with
  | true =>
   rw [Ih];have ha:a ∈ acc:=by simpa using h
   constructor
   ·rintro (h1 | h1)
    ·exact .inl h1
    ·exact .inr (List.mem_cons_of_mem _ h1)
   ·rintro (h1 | h1)
    ·exact .inl h1
    ·rcases List.mem_cons.1 h1 with rfl | h1
     ·exact .inl ha
     ·exact .inr h1
  | false =>
   rw [Ih];simp only [List.mem_cons];constructor
   ·rintro ((h1 | h1) | h1)
    ·exact .inr (.inl h1)
    ·exact .inl h1
    ·exact .inr (.inr h1)
   ·rintro (h1 | h1 | h1)
    ·exact .inl (.inr h1)
    ·exact .inl (.inl h1)
    ·exact .inr h1
theorem Fe {o:Oper} {acc:List (List Nat)} {i:Nat}:i ∈ Aq o acc↔i ∈ lX o∨∃ d ∈ lX o,i ∈ acc.getD d []:=by
 unfold Aq;rw [Ih,List.mem_append,List.mem_flatMap];simp
theorem Ff:∀ (l:List Oper) (acc:List (List Nat)),∃ r,lk l acc=acc++r∧r.length=l.length
 | [],acc=>⟨[],by simp [lk],rfl⟩
 | o::l,acc=>by
  obtain ⟨r,e1,e2⟩:=Ff l (acc++[Aq o acc]);grind [Aq,lk,List.append_assoc]
theorem Mq:∀ (l:List Oper) (acc:List (List Nat)) (j:Nat) (o:Oper),l[j]?=some o→∃ pre,(lk l acc)[acc.length+j]?=some (Aq o pre) ∧
  pre.length=acc.length+j∧∃ r,lk l acc=pre++r
 | [],acc,j,o,h=>by grind
 | o::l,acc,0,o',h=>by
  obtain ⟨r,e1,e2⟩:=Ff l (acc++[Aq o acc]);grind [lk,List.append_assoc]
 | o::l,acc,j+1,o',h=>by
  obtain ⟨pre,e1,e2,e3⟩:=Mq l (acc++[Aq o acc]) j o' (by grind);refine ⟨pre,?_,by grind,e3⟩;rw [lk,← e1];grind
theorem Cf {C:Nat→Nat→COp→COp→Bool} {j:Nat} {b:COp} {bf:List Nat}:∀ {l:List COp} {i0:Nat},DA C j b bf i0 l=true→∀ (i:Nat) (a:COp),l[i]?=some a→(i0+i) ∈ bf∨C (i0+i) j a b=true
 | [],i0,_,i,a,h=>by grind
 | c::l,i0,hd,i,a,h=>by
  simp only [DA,Bool.and_eq_true,Bool.or_eq_true] at hd;cases i with
  | zero=>grind
  | succ i =>
   have:=Cf hd.2 i a (by grind);grind
theorem uW {C:Nat→Nat→COp→COp→Bool}:∀ {l:List COp} {bs:List (List Nat)} {j0:Nat} {done:List COp},done.length=j0→Ar C j0 done l bs=true→∀ (j:Nat) (b:COp) (bf:List Nat),l[j]?=some b→bs[j]?=some bf →
  (∀ i ∈ bf,i < j0+j)∧∀ (i:Nat) (a:COp),i < j0+j→(done++l)[i]?=some a→i ∈ bf∨C i (j0+j) a b=true
 | [],bs,j0,done,hl,hd,j,b,bf,h1,h2=>by grind
 | c::l,[],j0,done,hl,hd,j,b,bf,h1,h2=>by grind
 | c::l,b0::bs,j0,done,hl,hd,j,b,bf,h1,h2=>by
  simp only [Ar,Bool.and_eq_true,List.all_eq_true,decide_eq_true_eq] at hd;cases j with
  | zero =>
   simp at h1 h2;subst h1 h2;refine ⟨hd.1,fun i a hi ha=>?_⟩;rw [List.getElem?_append_left (by omega)] at ha;simpa using Cf hd.2.1 i a ha
  | succ j =>
   obtain ⟨g1,g2⟩:=uW (by grind) hd.2.2 j b bf (by grind) (by grind);grind
theorem J8 (f:Fp):oi (some ([],[])) f:=by
 unfold oi;cases f <;> simp [jP,uQ]
theorem oi.symm {f g:Fp} (h:oi f g):oi g f:=by
 unfold oi at *
 cases f <;> cases g <;> simp only [jP] at h ⊢ <;> try exact h
 simp only [Bool.and_eq_true,uQ,List.all_eq_true,Bool.not_eq_true',List.contains_eq_mem,decide_eq_false_iff_not,List.mem_append] at h ⊢;grind
theorem Qd {o:COp} {s:ae} {h:ac} {t:St} {f:Fp} (hz:cU call md o s h=some (t,f)) (hp:isP o.op=true):f=some ([],[]):=by
 obtain ⟨x,h',e,⟨_,_,rfl⟩ | ⟨_,rfl,_⟩⟩:=xZ hz
 ·rfl
 ·cases ho:o.op <;> rw [ho] at hp <;> first | rfl | cases hp
theorem Gw {o:COp} {s:ae} {h:ac} {t:St} {f:Fp} (hz:cU call md o s h=some (t,f)) (hp:LZ o.op=true):∃ r,f=some (r,[]):=by
 obtain ⟨x,h',e,⟨_,_,rfl⟩ | ⟨e2,rfl,_⟩⟩:=xZ hz
 ·grind
 ·cases ho:o.op <;> rw [ho] at hp <;> try (cases hp; done)
  rename_i k g y;rw [ho] at e2;simp only [step] at e2;simp only [fw];cases hy:ev s y <;> rw [hy] at e2 <;> simp only [fJ] at e2 <;> first | (cases e2; done) | exact ⟨_,rfl⟩
abbrev Yz:=List (Nat × COp × Fp)
theorem Ok.draws {w:World} {X:Nat→Prop} {ρ:bq} {h:ac} {s:ae} {a:Act} (ok:Ok I N w X ρ h s a):Ok I N { w with drawn:=w.drawn+1 } X ρ h s a∧Far md.nm w ρ h { w with drawn:=w.drawn+1 } ρ h:=by
 have e:Evo w ρ h { w with drawn:=w.drawn+1 } ρ h []:=⟨rfl,rfl,rfl,Nat.le_refl _,fun _ _ _=>rfl,fun _ _ hp _=>⟨hp,rfl⟩,fun _ ho=>.inl ho,fun _ hb=>⟨hb,rfl⟩,fun _ _ hd=>⟨hd,rfl⟩⟩;exact ⟨⟨ok.rel.step e (fun _=>False) (fun _ _=>⟨rfl,fun _=>rfl,fun _ _=>rfl⟩) ok.rel.inj ok.rel.nx (fun _ hf=>hf.elim),e.rs ok.rs,ok.size,ok.defers,e.inv ok.rel ok.inv⟩,e.far (kC _)⟩
def Cg (g:Nat) (a b:COp):Prop:=∃ e n,a=⟨some e,none,.p (.mv (.t n))⟩∧vR a b=true∧(g=0∨(g ≠ e+1∧g ≠ n+1))
theorem So {g:Nat} {a b:COp} (h:RJ g a b=true):Cg g a b:=by
 unfold RJ at h;split at h
 ·rename_i e n;simp only [Bool.and_eq_true,Bool.or_eq_true,beq_iff_eq,bne_iff_ne] at h;exact ⟨e,n,rfl,h.1,h.2⟩
 grind
theorem Cg.zero {g:Nat} {a b:COp} (h:Cg g a b):Cg 0 a b:=by
 obtain ⟨e,n,h1,h2,_⟩:=h;exact ⟨e,n,h1,h2,.inl rfl⟩
theorem Mr (ks:K) (s:ae) (e n:Nat):ir ks (upd s e (s n))=upd (ir ks s) e (ir ks s n):=by
 cases ks with
 | nil=>rfl
 | cons p l =>
  grind [ir,upd]
theorem Ms {d:Option Nat} {e:Nat} {x y:AV} {s:ae} (hd:d ≠ some e):dN (upd s e y) d x=upd (dN s d x) e y:=by
 have:=J6 (s:=s) (a:=some e) (b:=d) y x fun i j h1 h2=>by
  grind
 exact this
theorem J9 {nm:Bool} {s:ae} {d:Option Nat} {e n:Nat} {r:Option R3} {t:St} (h1:d ≠ some e) (h2:d ≠ some n) (hz:cA nm (upd s e (s n)) d r=some t):∃ t2,cA nm s d r=some t2∧t=⟨upd t2.s e (t2.s n),t2.h⟩:=by
 unfold cA at hz ⊢;split at hz
 ·split at hz
  ·grind [dN,ir,DF,Mr,Ms]
  grind
 grind
theorem Sp {b:COp} {s:ae} {h:ac} {e n:Nat} {t:St} (hi:vR ⟨some e,none,.p (.mv (.t n))⟩ b=true) (hz:iQ call md b (upd s e (s n)) h=some t):∃ t2,iQ call md b s h=some t2∧t=⟨upd t2.s e (t2.s n),t2.h⟩:=by
 obtain ⟨i1,i2,i3⟩:=Gv hi;have h1:b.d ≠ some e:=fun hh=>i3 e e rfl hh rfl;have h2:b.d ≠ some n:=fun hh=>i2 n n (by simp [iG,Gg,Gf,eZ]) hh rfl;have hr:∀ i,i ∈ iG b→upd s e (s n) i=s i:=fun i hm=>aH _ _ (i1 i e hm rfl);have hs:step call md (b.d.getD 0) b.op (upd s e (s n)) h=step call md (b.d.getD 0) b.op s h:=(rF fun i hm=>hr i (by grind [iG])).1;have hu:∀ x:AV,dN (upd s e (s n)) b.d x=upd (dN s b.d x) e (dN s b.d x n):=fun x=>by
  rw [Ms h1];grind [DF]
 unfold iQ at hz ⊢;cases hg:b.g with
 | none =>
  grind [J9]
 | some jb =>
  obtain ⟨j,w⟩:=jb;rw [hg] at hz;simp only at hz ⊢;rw [hs,hr j (by grind [iG])] at hz;unfold ik at hz ⊢;split at hz
  ·split at hz
   all_goals simp_all [if_pos,J9,if_neg]
  all_goals grind
theorem WE {s:ae} {i e:Nat} {x y:AV} (hn:i ≠ e):upd (upd s e y) i x=upd (upd s i x) e y:=by
 grind [upd]
theorem Sq {nm:Bool} {g:Nat} {s:ae} {h:ac} {e n:Nat} {t:St} (hg:g=0∨(g ≠ e+1∧g ≠ n+1)) (hz:nE nm g (upd s e (s n)) h=some t):∃ t2,nE nm g s h=some t2∧t=⟨upd t2.s e (t2.s n),t2.h⟩:=by
 cases g with
 | zero=>cases hz; exact ⟨_,rfl,rfl⟩
 | succ i =>
  have h1:i ≠ e:=by omega
  simp only [nE] at hz ⊢;rw [aH _ _ h1] at hz;simp only [Option.bind_eq_some_iff] at hz;obtain ⟨r,e1,e2⟩:=hz;split at e2
  ·cases hi:s i <;> rw [hi] at e1 <;> simp only [JT] at e1 <;> try (cases e1; done)
   ·cases e1
    simp_all [JT,kC]
   ·rename_i id sub k lo m;cases sub with
    | none=>grind
    | some p =>
    simp only at e1;split at e1
    ·cases eo:h id <;> rw [eo] at e1 <;> simp only [P5] at e1 <;> try (cases e1; done)
     rename_i cs;cases ec:cs[p]? with
     | none=>grind [Gh]
     | some c =>
      rw [ec] at e1;cases c <;> simp only [Gh] at e1 <;> try (cases e1; done)
      split at e1
      ·cases e1
       simp_all [JT,if_pos,P5,Gh,Option.bind_some,Mr,WE,aH,Ne.symm]
      grind
    grind
  grind
theorem Mt {g:Nat} {y:COp}:∀ {L:List COp} {s:ae} {h:ac} {t0 t1 t2:St} {Fs:List Fp},(∀ x ∈ L,Cg g x y)→fg call md L s h=some (t0,Fs)→nE md.nm g t0.s t0.h=some t1→iQ call md y t1.s t1.h=some t2 →
  ∃ r1 r2,nE md.nm g s h=some r1∧iQ call md y r1.s r1.h=some r2∧fg call md L r2.s r2.h=some (t2,Fs)
 | [],s,h,t0,t1,t2,Fs,_,h1,h2,h3=>by
  grind [fg,Option.some.injEq,Prod.mk.injEq]
 | a::L,s,h,t0,t1,t2,Fs,hl,h1,h2,h3=>by
  obtain ⟨e,n,rfl,hi,hg⟩:=hl a (by simp);simp only [fg,Option.bind_eq_some_iff] at h1;obtain ⟨⟨t',f⟩,e1,⟨t'',F2⟩,e2,e3⟩:=h1;cases e3;have e1':t'=⟨upd s e (s n),h⟩∧f=some ([],[]):=by
   simp only [cU,step,eA,ev,wD,Option.map_some,jI,fw,Option.some.injEq,Prod.mk.injEq] at e1;exact ⟨e1.1.symm,e1.2.symm⟩
  obtain ⟨rfl,rfl⟩:=e1';obtain ⟨r1,r2,g1,g2,g3⟩:=Mt (fun x hx=>hl x (by grind)) e2 h2 h3;obtain ⟨q1,k1,rfl⟩:=Sq hg g1;obtain ⟨q2,k2,rfl⟩:=Sp hi g2
  simp_all [fg,cU,step,eA,ev,wD,Option.map_some,jI,fw,Option.bind_some,dN]
abbrev YA:=List (Nat × COp)
structure RestB (ops:Array Oper) (cl:List COp) (bf:Nat→List Nat) (listed:Array Bool) (g:Nat) (L:Yz) (T:YA):Prop where
 size:listed.size=ops.size
 op:∀ x ∈ L,cl[x.1]?=some x.2.1∧listed.getD x.1 true=false
 opT:∀ y ∈ T,cl[y.1]?=some y.2∧listed.getD y.1 true=false
 all:∀ j,j < ops.size→listed.getD j true=false→(∃ x ∈ L,x.1=j)∨∃ y ∈ T,y.1=j
 pw:L.Pairwise fun x y=>x.1 < y.1∧(x.1 ∈ bf y.1∨(vR x.2.1 y.2.1=true∧oi x.2.2 y.2.2))
 lt:∀ x ∈ L,∀ y ∈ T,x.1 < y.1∧(x.1 ∈ bf y.1∨Cg g x.2.1 y.2)
 pwT:T.Pairwise fun x y=>x.1 < y.1∧x.1 ∈ bf y.1
 cls:∀ k,k < ops.size→listed.getD k true=true→∀ i ∈ bf k,listed.getD i true=true
theorem Ch (hcall:iZ P I call md) (hN:N≤1000) {hs cl:List COp} (hc:mC P N ops hs ops.toList=some cl) {bf:Nat→List Nat}
  (hlt:∀ j,j < ops.size→∀ i ∈ bf j,i < j) (hdep:∀ (j:Nat) (o:Oper),ops[j]?=some o→(∀ d ∈ lX o,d ∈ bf j)∧∀ i ∈ bf j,i ∈ lX o∨∃ d ∈ lX o,i ∈ bf d) :
  ∀ (fuel:Nat) {g:Nat} {L:Yz} {T:YA} {listed:Array Bool} {w:World} {X:Nat→Prop} {ρ:bq} {h:ac} {s:ae} {a:Act} {t0 tg t:St} {Q:Exit→Act→World→Prop},L.length+T.length=fuel→RestB ops cl bf listed g L T →
   fg call md (L.map (·.2.1)) s h=some (t0,L.map (·.2.2))→nE md.nm g t0.s t0.h=some tg→aC call md (T.map (·.2)) tg.s tg.h=some t→Ok I N w X ρ h s a→(∀ a' w' ρ',Ok I N w' X ρ' t.h t.s a'→Far md.nm w ρ h w' ρ' t.h→Q .normal a' w')→wpAny P .any ops Q fuel listed a w
 | 0,g,L,T,listed,w,X,ρ,h,s,a,t0,tg,t,Q,hl,hr,hz,hgh,hT,ok,hQ=>by
  have:L=[]:=by simp_all
  subst this;have:T=[]:=by simp_all
  subst this;simp only [List.map_nil,fg,Option.some.injEq,Prod.mk.injEq] at hz;obtain ⟨rfl,_⟩:=hz;simp only [List.map_nil,aC,Option.some.injEq] at hT;subst hT;obtain ⟨ρ',ok',far'⟩:=Et ok hgh;refine ⟨?_,hQ _ _ ρ' ok' far'⟩;rw [List.eq_nil_iff_forall_not_mem];intro j hj;obtain ⟨h1,o,h2,_⟩:=mem_ready.1 hj;rcases hr.all j (Array.getElem?_eq_some_iff.1 h2).1 h1 with ⟨x,hx,_⟩ | ⟨x,hx,_⟩ <;> simp at hx
 | fuel+1,g,L,T,listed,w,X,ρ,h,s,a,t0,tg,t,Q,hl,hr,hz,hgh,hT,ok,hQ=>by
  have tf:∀ d,d < ops.size→listed.getD d true=listed.getD d false:=fun d hd=>by
   have:d < listed.size:=by rw [hr.size]; omega
   grind
  have lenc:=(rG hc).1;have cllt:∀ {j:Nat} {c:COp},cl[j]?=some c→j < ops.size:=fun h1=>by
   grind
  have first:∀ j,j < ops.size→listed.getD j true=false→(∀ k,k < j→listed.getD k true=true)→j ∈ Region.ready .any ops listed:=by
   intro j hj h1 h2;have hox:ops[j]?=some ops[j]:=by grind
   refine mem_ready.2 ⟨h1,ops[j],hox,fun e he hb=>?_⟩;have hd:e.on ∈ lX ops[j]:=by
    simp only [lX,List.mem_map,List.mem_filter];exact ⟨e,⟨by simpa using he,hb⟩,rfl⟩
   have hlt':=hlt j hj _ ((hdep j _ hox).1 _ hd);rw [← tf e.on (by omega)];exact h2 _ hlt'
  have isT:∀ k,listed.getD k true=true∨listed.getD k true=false:=fun k=>by cases listed.getD k true <;> simp
  refine ⟨fun hnil=>?_,fun i hi=>?_⟩
  ·exfalso;have key:∃ j,j < ops.size∧listed.getD j true=false∧∀ k,k < j→listed.getD k true=true:=by
    cases L with
    | cons x L' =>
     obtain ⟨h1,h2⟩:=hr.op x (by simp);refine ⟨x.1,cllt h1,h2,fun k hk=>?_⟩;rcases isT k with h3 | h3
     ·omega
     ·rcases hr.all k (Nat.lt_trans hk (cllt h1)) h3 with ⟨y,hy,rfl⟩ | ⟨y,hy,rfl⟩
      ·rcases List.mem_cons.1 hy with rfl | hy'
       ·omega
       ·have:=(List.pairwise_cons.1 hr.pw).1 y hy';omega
      ·have:=(hr.lt x (by simp) y hy).1;omega
    | nil =>
     cases T with
     | nil=>grind
     | cons x T' =>
      obtain ⟨h1,h2⟩:=hr.opT x (by simp);refine ⟨x.1,cllt h1,h2,fun k hk=>?_⟩;rcases isT k with h3 | h3
      ·omega
      ·rcases hr.all k (Nat.lt_trans hk (cllt h1)) h3 with ⟨y,hy,rfl⟩ | ⟨y,hy,rfl⟩
       ·grind
       ·rcases List.mem_cons.1 hy with rfl | hy'
        ·omega
        ·have:=(List.pairwise_cons.1 hr.pwT).1 y hy';omega
   grind
  ·obtain ⟨h1,o,h2,h3⟩:=mem_ready.1 hi;have hisz:i < ops.size:=(Array.getElem?_eq_some_iff.1 h2).1;have hbl:∀ k ∈ bf i,listed.getD k true=true:=by
    intro k hk;have dl:∀ d ∈ lX o,listed.getD d true=true:=by
     intro d hd;have hdl:d < ops.size:=Nat.lt_trans (hlt i hisz d ((hdep i o h2).1 d hd)) hisz;simp only [lX,List.mem_map,List.mem_filter] at hd;obtain ⟨e,⟨he,hb⟩,rfl⟩:=hd;rw [tf _ hdl];exact h3 e (by simpa using he) hb
    rcases (hdep i o h2).2 k hk with hd | ⟨d,hd,hkd⟩
    ·grind
    ·exact hr.cls d (Nat.lt_trans (hlt i hisz d ((hdep i o h2).1 d hd)) hisz) (dl d hd) k hkd
   have set_ne:∀ k,k ≠ i→(listed.setIfInBounds i true).getD k true=listed.getD k true:=fun k hk=>getD_set_ne true (Ne.symm hk);have set_same:(listed.setIfInBounds i true).getD i true=true:=by
    simp_all
   have cls':∀ k,k < ops.size→(listed.setIfInBounds i true).getD k true=true→∀ k' ∈ bf k,(listed.setIfInBounds i true).getD k' true=true:=fun k hk hkl k' hk'=>by
    have old:listed.getD k' true=true:=by
     by_cases hkx:k=i
     ·grind
     ·rw [set_ne _ hkx] at hkl;exact hr.cls k hk hkl k' hk'
    grind
   rcases hr.all i hisz h1 with ⟨x,hx,rfl⟩ | ⟨y,hy,rfl⟩
   ·obtain ⟨L1,L2,rfl⟩:=List.append_of_mem hx;have hpw:=hr.pw;rw [List.pairwise_append] at hpw;obtain ⟨pw1,pw2,pw3⟩:=hpw;rw [List.pairwise_cons] at pw2;simp only [List.map_append,List.map_cons] at hz;obtain ⟨Fpre,f,Fpost,e1,e2,e3⟩:=Mo hz;have e4:Fpre=L1.map (·.2.2)∧f=x.2.2∧Fpost=L2.map (·.2.2):=by
     grind [List.append_inj,List.cons.injEq]
    obtain ⟨rfl,rfl,rfl⟩:=e4;obtain ⟨t1,g1,g2⟩:=e3 fun j c fc hj1 hj2=>by
     simp only [List.getElem?_map,Option.map_eq_some_iff] at hj1 hj2;obtain ⟨y,hy,rfl⟩:=hj1;obtain ⟨y',hy',rfl⟩:=hj2;rw [hy] at hy';cases hy';have hyL:=List.mem_of_getElem? hy;rcases (pw3 y hyL x (by simp)).2 with hin | hh
     ·have:=hbl _ hin;rw [(hr.op y (by grind)).2] at this;grind
     omega
    obtain ⟨c1,_⟩:=hr.op x (by simp);obtain ⟨hint,hco⟩:=(rG hc).2 x.1 o x.2.1 (by simpa using h2) c1;have nx:∀ y,y ∈ L1++L2→y.1 ≠ x.1:=by
     intro y hy;rcases List.mem_append.1 hy with hy | hy
     ·have:=(pw3 y hy x (by simp)).1; omega
     ·have:=(pw2.1 y hy).1; omega
    refine Az hcall hN h2 hco ok (Px g1) fun a' w' ρ' ok' far=>?_;refine Ch hcall hN hc hlt hdep fuel (L:=L1++L2) (T:=T) (by simp at hl ⊢; omega) ⟨by simpa using hr.size,fun y hy=>?_,fun y hy=>?_,fun j hj hjl=>?_,?_,fun y hy=>hr.lt y (by rcases List.mem_append.1 hy with hy | hy <;> simp [hy]),hr.pwT,cls'⟩ (by simpa [List.map_append] using g2) hgh hT ok' fun a'' w'' ρ'' ok'' far'=>hQ _ _ ρ'' ok'' (far.trans far')
    ·obtain ⟨q1,q2⟩:=hr.op y (by rcases List.mem_append.1 hy with hy | hy <;> simp [hy]);exact ⟨q1,by rw [set_ne _ (nx y hy)]; exact q2⟩
    ·obtain ⟨q1,q2⟩:=hr.opT y hy;have:=(hr.lt x (by simp) y hy).1;exact ⟨q1,by rw [set_ne _ (by omega)]; exact q2⟩
    ·have hne:j ≠ x.1:=by rintro rfl; rw [set_same] at hjl; cases hjl
     rw [set_ne _ hne] at hjl;rcases hr.all j hj hjl with ⟨y,hy,rfl⟩ | hyT
     ·refine .inl ⟨y,?_,rfl⟩;simp only [List.mem_append,List.mem_cons] at hy ⊢;rcases hy with hy | rfl | hy
      ·exact .inl hy
      ·exact absurd rfl hne
      ·exact .inr hy
     ·exact .inr hyT
    grind
   ·
    cases T with
    | nil=>simp at hy
    | cons z T' =>
    have hzy:z=y:=by
     rcases List.mem_cons.1 hy with rfl | hy'
     ·rfl
     ·have h5:=((List.pairwise_cons.1 hr.pwT).1 y hy').2;have:=hbl _ h5;rw [(hr.opT z (by simp)).2] at this;cases this
    subst hzy;have hlate:∀ x ∈ L,Cg g x.2.1 z.2:=fun x hx=>by
     rcases (hr.lt x hx z (by simp)).2 with h5 | h5
     ·have:=hbl _ h5;rw [(hr.op x hx).2] at this;cases this
     ·exact h5
    simp only [List.map_cons,aC,aT] at hT;split at hT
    ·cases hT
    ·rename_i t2 ht2;obtain ⟨r1,r2,g1,g2,g3⟩:=Mt (L:=L.map (·.2.1)) (fun x hx=>by
      obtain ⟨q,hq,rfl⟩:=List.mem_map.1 hx;exact hlate q hq) hz hgh ht2
     obtain ⟨ρg,okg,farg⟩:=Et ok g1;obtain ⟨c1,_⟩:=hr.opT z (by simp);obtain ⟨hint,hco⟩:=(rG hc).2 z.1 o z.2 (by simpa using h2) c1;refine Az hcall hN h2 hco okg g2 fun a' w' ρ' ok' far=>?_;refine Ch hcall hN hc hlt hdep fuel (g:=0) (L:=L) (T:=T') (by simp at hl ⊢; omega) ⟨by simpa using hr.size,fun x hx=>?_,fun y hy=>?_,fun j hj hjl=>?_,hr.pw,fun x hx y hy=>?_,(List.pairwise_cons.1 hr.pwT).2,cls'⟩ g3 rfl hT ok' fun a'' w'' ρ'' ok'' far'=>hQ _ _ ρ'' ok'' ((farg.trans far).trans far')
     ·obtain ⟨q1,q2⟩:=hr.op x hx;have:=(hr.lt x hx z (by simp)).1;exact ⟨q1,by rw [set_ne _ (by omega)]; exact q2⟩
     ·obtain ⟨q1,q2⟩:=hr.opT y (by simp [hy]);have:=((List.pairwise_cons.1 hr.pwT).1 y hy).1;exact ⟨q1,by rw [set_ne _ (by omega)]; exact q2⟩
     ·have hne:j ≠ z.1:=by rintro rfl; rw [set_same] at hjl; cases hjl
      rw [set_ne _ hne] at hjl;rcases hr.all j hj hjl with hx | ⟨y,hy,rfl⟩
      ·exact .inl hx
      ·rcases List.mem_cons.1 hy with rfl | hy'
       ·exact absurd rfl hne
       ·exact .inr ⟨y,hy',rfl⟩
     ·obtain ⟨q1,q2⟩:=hr.lt x hx y (by simp [hy]);exact ⟨q1,q2.imp_right Cg.zero⟩
theorem Mu (hm:P.follows .mixedOrders=true) (hcall:iZ P I call md) (hN:N≤1000) {id:Nat} {hs0 cl:List COp} {w:World} {X:Nat→Prop} {ρ:bq} {h:ac} {s:ae} {a:Act} {t0 tg t:St} {m g:Nat} {qs:List (Nat × Nat)} {Fs:List Fp} {Q:Exit→Act→World→Prop}
  (hc:mC P N ops hs0 ops.toList=some cl)
  (hsp:∀ (j:Nat) (b:COp) (bf:List Nat),cl[j]?=some b→(lk ops.toList [])[j]?=some bf→(∀ i ∈ bf,i < j)∧∀ (i:Nat) (a:COp),i < j→cl[i]?=some a→i ∈ bf∨Dz m g qs i j a b=true)
  (ok:Ok I N w X ρ h s a) (e1:fg call md (cl.take m) s h=some (t0,Fs)) (hps:qs.all (qT Fs)=true) (hgh:nE md.nm g t0.s t0.h=some tg) (hT:aC call md (cl.drop m) tg.s tg.h=some t)
  (hQ:∀ a' w' ρ',Ok I N w' X ρ' t.h t.s a'→Far md.nm w ρ h w' ρ' t.h→Q .normal a' w'):(Code.region id ops true).wp P Q a w:=by
 refine wp_region_any hm ?_;obtain ⟨ok',far'⟩:=ok.draws (md:=md);obtain ⟨lf,gf⟩:=Mp e1;obtain ⟨lc,gc⟩:=rG hc;have lc':cl.length=ops.size:=by omega
 have ltm:(cl.take m).length=min m ops.size:=by grind
 have lb:(lk ops.toList []).length=ops.size:=by
  obtain ⟨r,q1,q2⟩:=Ff ops.toList [];grind
 have bget:∀ j,j < ops.size→(lk ops.toList [])[j]?=some ((lk ops.toList []).getD j []):=fun j hj=>by
  grind
 have hlt:∀ j,j < ops.size→∀ i ∈ (lk ops.toList []).getD j [],i < j:=fun j hj i hi=>by
  simp_all
 have hdep:∀ (j:Nat) (o:Oper),ops[j]?=some o→(∀ d ∈ lX o,d ∈ (lk ops.toList []).getD j [])∧∀ i ∈ (lk ops.toList []).getD j [],i ∈ lX o∨∃ d ∈ lX o,i ∈ (lk ops.toList []).getD d []:=fun j o hj=>by
  have hjs:j < ops.size:=(Array.getElem?_eq_some_iff.1 hj).1;obtain ⟨pre,q1,q2,r,q3⟩:=Mq ops.toList [] j o (by grind);simp only [List.length_nil,Nat.zero_add] at q1 q2;have hrow:(lk ops.toList []).getD j []=Aq o pre:=by
   grind
  have hpre:∀ d ∈ lX o,pre.getD d []=(lk ops.toList []).getD d []:=fun d hd=>by
   have hdj:d < j:=hlt j hjs d (by rw [hrow]; exact Fe.2 (.inl hd));grind
  refine ⟨fun d hd=>by rw [hrow]; exact Fe.2 (.inl hd),fun i hi=>?_⟩;rw [hrow] at hi;rcases Fe.1 hi with hi | ⟨d,hd,hid⟩
  all_goals grind
 have getL:∀ x ∈ (List.range ops.size).zip ((cl.take m).zip Fs),x.1 < m∧x.1 < ops.size∧cl[x.1]?=some x.2.1∧Fs[x.1]?=some x.2.2:=fun x hx=>by
  obtain ⟨n,hn⟩:=List.getElem?_of_mem hx;grind
 have getT:∀ y ∈ (List.range' (min m ops.size) (ops.size - m)).zip (cl.drop m),m≤y.1∧y.1 < ops.size∧cl[y.1]?=some y.2:=fun y hy=>by
  obtain ⟨n,hn⟩:=List.getElem?_of_mem hy;rw [List.getElem?_zip_eq_some] at hn;grind
 refine Ch hcall hN hc (bf:=fun j=>(lk ops.toList []).getD j []) hlt hdep ops.size (g:=g) (L:=(List.range ops.size).zip ((cl.take m).zip Fs)) (T:=(List.range' (min m ops.size) (ops.size - m)).zip (cl.drop m)) ?_ ⟨by simp,fun x hx=>?_,fun y hy=>?_,fun j hj _=>?_,?_,fun x hx y hy=>?_,?_,fun k hk hkl=>?_⟩ (t0:=t0) (tg:=tg) (t:=t) ?_ hgh ?_ ok' fun a'' w'' ρ'' ok'' far''=>hQ _ _ ρ'' ok'' (far'.trans far'')
 ·grind
 ·obtain ⟨q0,q1,q2,q3⟩:=getL x hx;exact ⟨q2,by simp [q1]⟩
 ·obtain ⟨q0,q1,q2⟩:=getT y hy;exact ⟨q2,by simp [q1]⟩
 ·by_cases hjm:j < m
  ·have hjt:j < (cl.take m).length:=by omega
   refine .inl ⟨(j,(cl.take m)[j],Fs[j]'(by omega)),?_,rfl⟩;refine List.mem_of_getElem? (i:=j) ?_;grind
  ·have hjt:j - m < (cl.drop m).length:=by rw [List.length_drop,lc']; omega
   refine .inr ⟨(j,(cl.drop m)[j - m]),?_,rfl⟩;refine List.mem_of_getElem? (i:=j - m) ?_;rw [List.getElem?_zip_eq_some];refine ⟨?_,by rw [List.getElem?_eq_getElem hjt]⟩;rw [List.getElem?_range' (by omega)];simp only [Option.some.injEq];omega
 ·rw [List.pairwise_iff_getElem];intro i j hi hj hij;have hj':j < (cl.take m).length∧j < Fs.length:=by simp only [List.length_zip,List.length_range,lf] at hj; omega
  have hjs:j < ops.size:=by omega
  have hjm:j < m:=by omega
  simp only [List.getElem_zip,List.getElem_range,List.getElem_take];refine ⟨hij,?_⟩;rcases (hsp j cl[j] _ (by simp) (bget j hjs)).2 i cl[i] (by omega) (by simp) with hb | hb
  ·grind
  ·refine .inr ?_;simp only [Dz,if_pos hjm,RI,Bool.and_eq_true,Bool.or_eq_true] at hb;obtain ⟨hb1,hb2⟩:=hb;refine ⟨hb1,?_⟩;have gi:∀ q (hq:q < (cl.take m).length) (hq':q < Fs.length),∃ s' h' t',cU call md (cl[q]'(by omega)) s' h'=some (t',Fs[q]):=fun q hq hq'=>by
    refine gf q _ _ ?_ (by rw [List.getElem?_eq_getElem hq']);rw [List.getElem?_eq_getElem hq,List.getElem_take]
   obtain ⟨s1,h1,t1,st1⟩:=gi i (by omega) (by omega);obtain ⟨s2,h2,t2,st2⟩:=gi j hj'.1 hj'.2;rcases hb2 with ((hb2 | hb2) | hb2) | hb2
   ·rw [Qd st1 hb2]; exact J8 _
   ·rw [Qd st2 hb2]; exact (J8 _).symm
   ·obtain ⟨r1,k1⟩:=Gw st1 hb2.1;obtain ⟨r2,k2⟩:=Gw st2 hb2.2;rw [k1,k2];simp [oi,jP,uQ]
   ·have:=List.all_eq_true.1 hps (i,j) (by simpa using hb2);simp only [qT] at this;rw [List.getElem?_eq_getElem (show i < Fs.length from by omega),List.getElem?_eq_getElem hj'.2] at this;exact this
 ·obtain ⟨q0,q1,q2,q3⟩:=getL x hx;obtain ⟨p0,p1,p2⟩:=getT y hy;refine ⟨by omega,?_⟩;rcases (hsp y.1 y.2 _ p2 (bget y.1 p1)).2 x.1 x.2.1 (by omega) q2 with hb | hb
  ·exact .inl hb
  ·simp only [Dz,if_neg (show ¬ y.1 < m by omega),Bool.and_eq_true] at hb;exact .inr (So hb.2)
 ·rw [List.pairwise_iff_getElem];intro i j hi hj hij;have hi':=getT _ (List.getElem_mem hi);have hj':=getT _ (List.getElem_mem hj);have hlt2:((List.range' (min m ops.size) (ops.size - m)).zip (cl.drop m))[i].1 < ((List.range' (min m ops.size) (ops.size - m)).zip (cl.drop m))[j].1:=by
   simp only [List.getElem_zip,List.getElem_range'];omega
  refine ⟨hlt2,?_⟩;rcases (hsp _ _ _ hj'.2.2 (bget _ hj'.2.1)).2 _ _ hlt2 hi'.2.2 with hb | hb
  ·omega
  ·simp only [Dz,if_neg (Nat.not_lt.2 hj'.1),Bool.and_eq_true,decide_eq_true_eq] at hb;have:=hb.1;have:=hi'.1;omega
 ·simp [hk] at hkl
 ·have m1:((List.range ops.size).zip ((cl.take m).zip Fs)).map (·.2.1)=cl.take m:=by
   rw [show (fun x:Nat × COp × Fp=>x.2.1)=Prod.fst ∘ Prod.snd from rfl,← List.map_map,List.map_snd_zip (by simp [lc',lf,List.length_take]; omega),List.map_fst_zip (by omega)]
  have m2:((List.range ops.size).zip ((cl.take m).zip Fs)).map (·.2.2)=Fs:=by
   rw [show (fun x:Nat × COp × Fp=>x.2.2)=Prod.snd ∘ Prod.snd from rfl,← List.map_map,List.map_snd_zip (by simp [lc',lf,List.length_take]; omega),List.map_snd_zip (by omega)]
  rw [m1,m2];exact e1
 grind [List.range',List.map_snd_zip]
theorem Sr (hm:P.follows .mixedOrders=true) (hcall:iZ P I call md) (hN:N≤1000):J1 P I call md N:=by
 intro id ops hs0 cl w X ρ h s a t ps Q hc hd ok hz hQ;unfold L9 Yw at hd;unfold lU at hz;cases hb:tW ps with
 | none =>
  rw [hb] at hd hz;simp only [uo,Option.bind_eq_some_iff] at hz;obtain ⟨⟨t0,Fs⟩,e1,e2⟩:=hz;split at e2
  ·rename_i hps;cases e2;have hsp:=uW (done:=[]) (j0:=0) rfl hd;refine Mu hm hcall hN (m:=cl.length) (g:=0) (qs:=ps) hc (fun j b bf h1 h2=>?_) ok (by rw [List.take_length]; omega) hps rfl (by rw [List.drop_length]; rfl) hQ;have hj:j < cl.length:=(List.getElem?_eq_some_iff.1 h1).1
   simp_all [Dz,if_pos,Nat.zero_add]
  grind
 | some q =>
  rw [hb] at hd hz;simp only [Ao,Option.bind_eq_some_iff] at hz;obtain ⟨⟨t0,Fs⟩,e1,e2⟩:=hz;split at e2
  ·rename_i hps;simp only [aT] at e2;split at e2
   ·grind
   ·rename_i tg htg;have hsp:=uW (done:=[]) (j0:=0) rfl hd;refine Mu hm hcall hN (m:=q.1) (g:=q.2) (qs:=ps.tail) hc (fun j b bf h1 h2=>?_) ok e1 hps htg e2 hQ;grind
  grind
end
theorem tZ:∀ (ss:List Sh) (l:List AV),(cX ss l).length=l.length
 | [],l=>by cases l <;> simp [cX]
 | s::ss,[]=>by simp [cX]
 | s::ss,a::l=>by simp [cX,tZ ss l]
theorem wL:∀ (ss:List Sh) (l:List AV) (j:Nat) (c:AV),(cX ss l)[j]?=some c→∃ c0,l[j]?=some c0∧(c=c0∨∃ s,c=nrmL s c0)
 | [],l,j,c,h=>⟨c,by grind [cX],.inl rfl⟩
 | s::ss,[],j,c,h=>by grind [cX]
 | s::ss,a::l,0,c,h=>by grind [cX]
 | s::ss,a::l,j+1,c,h=>by
  simpa using wL ss l j c h
theorem wM {s:Sh} {c:AV} (hd:aB c=true):aB (nrmL s c)=true:=by
 obtain ⟨k,cs⟩:=s;cases k with
 | zero=>grind [nrmL]
 | succ k=>cases c <;> simp [aB] at hd <;> simp [nrmL,aB,hd]
theorem eH (s:Sh) {c:AV} (h1:∀ k r,c ≠ .sl k r) (h2:c ≠ .emp) (h3:∀ k r,c ≠ .osl k r):nrmL s c=c:=by
 obtain ⟨k,cs⟩:=s;cases k with
 | zero=>simp [nrmL]
 | succ k=>cases c <;> first | rfl | exact absurd rfl (h1 _ _) | exact absurd rfl h2 | exact absurd rfl (h3 _ _)
section
variable {w:World} {A:Nat→Prop} {ρ:bq} {h:ac}
theorem RD.nrmL {c:AV} {u:Value} (hd:RD w A c u):∀ s:Sh,RD w A (nrmL s c) u:=by
 induction hd with
 | any u h=>intro s; rw [eH s (by simp) (by simp) (by simp)]; exact .any u h
 | v x h=>intro s; rw [eH s (by simp) (by simp) (by simp)]; exact .v x h
 | emp a =>
  intro s;obtain ⟨k,cs⟩:=s;cases k with
  | zero=>exact .emp a
  | succ k =>
   exact .sl k [] a 0 ⟨0,0,none⟩ (fun _ _=>undef) (Nat.le_refl 0) (fun h=>absurd rfl h) (fun _ h=>by grind) (fun i row j c h=>by grind) (fun _ h=>by grind) (fun i row j c h=>by grind)
 | sl k rows a cap ad vals hc ha hk hv hl hr ih =>
  intro s;obtain ⟨k',cs⟩:=s;cases k' with
  | zero=>exact .sl k rows a cap ad vals hc ha hk hv hl hr
  | succ k' =>
   simp only [Ab.nrmL];have key:∀ (i:Nat) (row:List AV) (j:Nat) (c:AV),(rows.map (cX cs))[i]?=some row→row[j]?=some c→∃ row0 c0,rows[i]?=some row0∧row0[j]?=some c0∧(c=c0∨∃ s,c=Ab.nrmL s c0):=by
    intro i row j c h1 h2;simp only [List.getElem?_map,Option.map_eq_some_iff] at h1;obtain ⟨row0,h3,rfl⟩:=h1;obtain ⟨c0,h4,h5⟩:=wL cs row0 j c h2;grind
   have:=RD.sl (w:=w) (A:=A) k (rows.map (cX cs)) a cap ad vals (by grind) (fun hne=>ha (by grind)) (fun row hm=>by
     simp only [List.mem_map] at hm;obtain ⟨row0,hm,rfl⟩:=hm;rw [tZ];grind) (fun i row j c h1 h2=>by
     grind) (fun row hm c hc=>by
     obtain ⟨i,hi⟩:=List.getElem?_of_mem hm;obtain ⟨j,hj⟩:=List.getElem?_of_mem hc;obtain ⟨row0,c0,h3,h4,h5⟩:=key i row j c hi hj;have hd:=hl row0 (List.mem_of_getElem? h3) c0 (List.mem_of_getElem? h4);rcases h5 with rfl | ⟨s,rfl⟩
     ·omega
     ·exact wM hd) (fun i row j c h1 h2=>by
     grind)
   grind
 | agg cs us hs h1 hr ih=>intro s; rw [eH s (by simp) (by simp) (by simp)]; exact .agg cs us hs h1 hr
 | fn f=>intro s; rw [eH s (by simp) (by simp) (by simp)]; exact .fn f
theorem RV.nrmL {c:AV} {u:Value} (hv:RV w A ρ h c u) (s:Sh):RV w A ρ h (nrmL s c) u:=by
 cases hv with
 | dat hd=>exact .dat (hd.nrmL s)
 | anyv u=>rw [eH s (by simp) (by simp) (by simp)]; exact .anyv u
 | und=>rw [eH s (by simp) (by simp) (by simp)]; exact .und
 | ref id sub k i j hp=>rw [eH s (by simp) (by simp) (by simp)]; exact .ref id sub k i j hp
 | rsl id sub k lo n cap a hp hn hb ha=>rw [eH s (by simp) (by simp) (by simp)]; exact .rsl id sub k lo n cap a hp hn hb ha
 | rsc id k lo n cap a hp hn hb ha=>rw [eH s (by simp) (by simp) (by simp)]; exact .rsc id k lo n cap a hp hn hb ha
 | ipt cs ad vals hA hs hv hl hr=>rw [eH s (by simp) (by simp) (by simp)]; exact .ipt cs ad vals hA hs hv hl hr
 | agg cs us hs h1 hr=>rw [eH s (by simp) (by simp) (by simp)]; exact .agg cs us hs h1 hr
 | tup vs us hs hr=>rw [eH s (by simp) (by simp) (by simp)]; exact .tup vs us hs hr
 | fn f x y us ts hs ht hx hy=>rw [eH s (by simp) (by simp) (by simp)]; exact .fn f x y us ts hs ht hx hy
theorem RV.nrmV {c:AV} {u:Value} (hv:RV w A ρ h c u) (ss:List Sh):RV w A ρ h (nrmV ss c) u:=by
 cases c with
 | agg cs =>
  obtain ⟨us,rfl,hs,h1,hr⟩:=hv.agg_inv;refine .agg _ us (by rw [tZ]; omega) h1 fun i c u hc hu=>?_;obtain ⟨c0,h2,h3⟩:=wL ss cs i c hc;rcases h3 with rfl | ⟨s,rfl⟩
  ·grind
  ·exact (hr i c0 u h2 hu).nrmL s
 | _=>exact hv.nrmL _
theorem rH:∀ (ss:List (List Sh)) (l:List AV),(br ss l).length=l.length
 | [],l=>by cases l <;> simp [br]
 | s::ss,[]=>by simp [br]
 | s::ss,a::l=>by simp [br,rH ss l]
theorem qX:∀ (ss:List (List Sh)) (l:List AV) (j:Nat) (c:AV),(br ss l)[j]?=some c→∃ c0,l[j]?=some c0∧(c=c0∨∃ s,c=Ab.nrmV s c0)
 | [],l,j,c,h=>⟨c,by grind [br],.inl rfl⟩
 | s::ss,[],j,c,h=>by grind [br]
 | s::ss,a::l,0,c,h=>by grind [br]
 | s::ss,a::l,j+1,c,h=>by
  simpa using qX ss l j c h
end
def oj:AV→Bool
 | .osl _ _ | .obx _=>true
 | _=>false
def Mv (L:List Nat) (h':ac) (a c:AV):Prop :=
 ∃ id,bT a=[id]∧aR id=false∧aM L (h' id)=true ∧
  ((∃ k rows,c=.osl k rows∧a=.rsl id none k 0 rows.length∧h' id=.ar k rows)∨(∃ xs,c=.obx xs∧a=.ref id none 0 0 0∧h' id=.bx xs))
theorem Ka {m:Nat} {h:ac} {c:AV} (hc:oj c=false):da m h c=(c,h):=by
 cases c <;> simp [oj] at hc <;> rfl
theorem Mv.mat {L:List Nat} {h':ac} {a c:AV} (hm:Mv L h' a c) (m:Nat) (h2:ac):∃ id,bT a=[id]∧aR id=false∧aM L (h' id)=true∧h' id ≠ .dead∧(da m h2 c).2=upd h2 m (h' id):=by
 obtain ⟨id,h1,h3,h4,⟨k,rows,rfl,rfl,h5⟩ | ⟨xs,rfl,rfl,h5⟩⟩:=hm
 ·exact ⟨id,h1,h3,h4,by grind,by rw [h5]; rfl⟩
 ·exact ⟨id,h1,h3,h4,by grind,by rw [h5]; rfl⟩
theorem Py {x:Nat} {l:List Nat} (h:jl (x::l)=true):x ∉ l∧jl l=true:=by
 simp_all [jl,Bool.and_eq_true,Bool.not_eq_true',List.contains_eq_mem,decide_eq_false_iff_not]
theorem Gx {l l':List Nat}:jl (l++l')=true→jl l'=true∧∀ x,x ∈ l→x ∉ l':=by
 induction l with
 | nil=>grind
 | cons y l ih =>
  intro h;obtain ⟨h1,h2⟩:=Py h
  simp_all
section
variable {h':ac} {L:List Nat}
theorem AC (hL:∀ i,2000≤i→L.contains i=false):∀ (zas cs:List AV) (m:Nat) (h2:ac) (g:Nat→Nat),2000≤m→zas.length=cs.length →
  (∀ (j:Nat) (a c:AV),zas[j]?=some a→cs[j]?=some c→oj c=true→Mv L h' a c)→jl ((zas.flatMap bT).filter fun i=>!aR i)=true→Emb L (fun i=>i) g h' h2→(∀ i,m≤i→h2 i=.dead) →
  (∀ i,h2 i ≠ .dead→∀ id,id ∈ zas.flatMap bT→aR id=false→g i ≠ id) →
  ∃ gm,Emb L (fun i=>i) gm h' (bQ m h2 cs).2∧(∀ i,i < m→(bQ m h2 cs).2 i=h2 i∧gm i=g i) ∧
   (∀ i,(bQ m h2 cs).2 i ≠ .dead→(h2 i ≠ .dead∧gm i=g i)∨∃ (j:Nat) (a c:AV),zas[j]?=some a∧cs[j]?=some c∧oj c=true∧bT a=[gm i]) ∧
   (∀ (j:Nat) (a c:AV) (id:Nat),zas[j]?=some a→cs[j]?=some c→oj c=true→bT a=[id]→gm (m+j)=id∧(bQ m h2 cs).2 (m+j)=h' id∧h' id ≠ .dead)
 | [],[],m,h2,g,hm,_,_,_,em,_,_=>⟨g,em,fun _ _=>⟨rfl,rfl⟩,fun _ hi=>.inl ⟨hi,rfl⟩,fun j a c id h1=>by grind⟩
 | [],c::cs,m,h2,g,_,hl,_,_,_,_,_=>by grind
 | a::zas,[],m,h2,g,_,hl,_,_,_,_,_=>by grind
 | a::zas,c::cs,m,h2,g,hm,hl,hmv,hnd,em,hfree,hid=>by
  simp only [List.flatMap_cons,List.filter_append] at hnd;obtain ⟨nd2,nd3⟩:=Gx hnd;have hmv':∀ (j:Nat) (a c:AV),zas[j]?=some a→cs[j]?=some c→oj c=true→Mv L h' a c:=fun j a' c' h1 h3=>hmv (j+1) a' c' (by grind) (by grind);have hl':zas.length=cs.length:=by grind
  cases hc:oj c with
  | false =>
   simp only [bQ,Ka hc];obtain ⟨gm,e1,e2,e3,e4⟩:=AC hL zas cs (m+1) h2 g (by omega) hl' hmv' nd2 em (fun i hi=>hfree i (by omega)) (fun i hi id hm'=>hid i hi id (by grind));refine ⟨gm,e1,fun i hi=>e2 i (by omega),fun i hi=>?_,fun j a' c' id h1 h3 h4 h5=>?_⟩
   ·rcases e3 i hi with hh | ⟨j,a',c',h1,h3,h4,h5⟩
    ·grind
    ·exact .inr ⟨j+1,a',c',by grind,by grind,h4,h5⟩
   ·cases j with
    | zero =>
     grind
    | succ j =>
     grind
  | true =>
   obtain ⟨id,i1,i2,i3,i4,i5⟩:=(hmv 0 a c rfl rfl hc).mat m h2;simp only [bQ,i5];have hida:id ∈ (a::zas).flatMap bT:=by grind
   have em1:=em.add (m:=m) (id:=id) (hfree m (Nat.le_refl _)) (hL m hm) (fun i hi=>hid i hi id hida i2) i3;have nin:∀ id',id' ∈ zas.flatMap bT→aR id'=false→id' ≠ id:=by
    grind
   obtain ⟨gm,e1,e2,e3,e4⟩:=AC hL zas cs (m+1) (upd h2 m (h' id)) (upd g m id) (by omega) hl' hmv' nd2 em1 (fun i hi=>by grind [aH]) (fun i hi id' hm' hp'=>by
    by_cases e:i=m
    ·subst e;rw [au];exact fun ee=>nin id' hm' hp' ee.symm
    ·rw [aH _ _ e] at hi ⊢;exact hid i hi id' (by simp only [List.flatMap_cons,List.mem_append]; exact .inr hm') hp')
   have atm:=e2 m (by omega);rw [au,au] at atm;refine ⟨gm,e1,fun i hi=>?_,fun i hi=>?_,fun j a' c' id' h1 h3 h4 h5=>?_⟩
   ·grind [aH]
   ·rcases e3 i hi with ⟨h1,h3⟩ | ⟨j,a',c',h1,h3,h4,h5⟩
    ·by_cases e:i=m
     ·subst e;exact .inr ⟨0,a,c,rfl,rfl,hc,by grind⟩
     grind [aH]
    ·exact .inr ⟨j+1,a',c',by grind,by grind,h4,h5⟩
   ·cases j with
    | zero =>
     grind
    | succ j =>
     grind
theorem Mw:∀ (l:List AV) (m:Nat) (h:ac) (j:Nat) (z:AV),(bQ m h l).1[j]?=some z→∃ c,l[j]?=some c∧z=(da (m+j) h c).1
 | [],m,h,j,z,hz=>by grind [bQ]
 | c::l,m,h,0,z,hz=>by
  grind [bQ]
 | c::l,m,h,j+1,z,hz=>by
  obtain ⟨c',h1,h2⟩:=Mw l (m+1) _ j z hz;refine ⟨c',by simpa using h1,?_⟩;rw [h2,Fd _ _ h,show m+1+j=m+(j+1) from by omega]
theorem EC:∀ (l:List AV) (m:Nat) (h:ac),(bQ m h l).1.length=l.length
 | [],m,h=>rfl
 | c::l,m,h=>by simp [bQ,EC l]
end
section
variable {w:World} {X:Nat→Prop} {ρ:bq} {h':ac} {L:List Nat}
structure Seen (w:World) (X:Nat→Prop) (ρ:bq) (h':ac) (a:AV) (A2:Nat→Prop) (ρ2:bq) (h2:ac):Prop where
 mono:∀ b,aD w X h' ρ b→A2 b
 ids:∀ id,id ∈ bT a→aR id=false→∀ sub,live h' id sub→A2 (ρ id sub).1
 pas:∀ id,aR id=true→h' id ≠ .dead→h2 id ≠ .dead∧ρ2 id none=ρ id none
def WF (w:World) (X:Nat→Prop) (ρ:bq) (h':ac) (L:List Nat) (a c:AV) (u:Value):Prop :=
 (oj c=true→Mv L h' a c)∧(oj c=false→∀ A2 ρ2 h2,Seen w X ρ h' a A2 ρ2 h2→RV w A2 ρ2 h2 c u)
theorem ED {c:AV} (hd:ji c=true):gI L c=true:=by
 simp only [ji,Bool.or_eq_true] at hd;simp only [gI,Bool.or_eq_true];rcases hd with hd | hd
 ·grind
 ·cases c <;> simp [aB] at hd <;> simp [aV,bg,hd]
theorem EE {a b:AV} (he:jk h' a=some b) (hd:aB b=true∨∃ k r,b=.osl k r) {id:Nat} (hi:fT a=[id]):aR id=false:=by
 cases a <;> simp only [fT] at hi <;> try (cases hi; done)
 case ref i sub k x y =>
  cases sub with
  | some p=>grind [jk,aB]
  | none =>
   grind [jk,aB,RF]
 case rsl i sub k x y =>
  have hi':i=id:=by grind
  subst hi';cases hp:aR i with
  | false=>rfl
  | true=>cases sub <;> simp [jk,hp] at he
theorem Y7 {b c:AV} (hd:uR b=some c):aB b=true∨∃ k r,b=.osl k r:=by
 unfold uR at hd;grind
theorem My:∀ {cs ds:List AV},iR h' cs=some ds→∀ (i:Nat) (a:AV) (id:Nat),cs[i]?=some a→fT a=[id]→aR id=false
 | [],ds,_,i,a,id,h1,_=>by grind
 | c::cs,ds,he,i,a,id,h1,h2=>by
  simp only [iR,Option.bind_eq_some_iff] at he;obtain ⟨b,e1,c',e2,q,e3,e4⟩:=he;cases i with
  | zero=>simp at h1; subst h1; exact EE e1 (Y7 e2) h2
  | succ i=>exact My e3 i a id (by simpa using h1) h2
theorem Kb {s:Sh} {b:AV} (h:oj (nrmL s b)=true):nrmL s b=b:=by
 obtain ⟨k,cs⟩:=s;cases k with
 | zero=>simp [nrmL]
 | succ k=>cases b <;> simp [nrmL,oj] at h ⊢
theorem Ul (ss:List Sh) {b:AV} (h:∀ cs,b ≠ .agg cs):nrmV ss b=nrmL (ss.headD (.o 0 [])) b:=by
 cases b <;> first | rfl | exact absurd rfl (h _)
theorem WG (r:Rel w X ρ h') {a b:AV} {u:Value} (hv:RV w (aD w X h' ρ) ρ h' a u) (he:jk h' a=some b) (s:Sh):WF w X ρ h' L a (nrmL s b) u:=by
 have data:∀ {b:AV},jk h' a=some b→aB b=true→(∀ A2:Nat→Prop,(∀ b,aD w X h' ρ b→A2 b)→(∀ id sub,fT a=[id]→live h' id sub→A2 (ρ id sub).1)→RD w A2 b u) →
   ∀ A2 ρ2 h2,Seen w X ρ h' a A2 ρ2 h2→RV w A2 ρ2 h2 (nrmL s b) u:=by
  intro b he hd hr A2 ρ2 h2 hs;exact .dat ((hr A2 hs.mono fun id sub hi hl=>hs.ids id (by
   have:bT a=fT a:=by cases a <;> first | rfl | simp [fT] at hi
   grind) (EE he (.inl hd) hi) sub hl).nrmL s)
 rcases vW r hv he with ⟨id,k,rows,rfl,rfl,e,hp⟩ | ⟨id,cs,rfl,rfl,e,hd,hp⟩ | ⟨rfl,id,k,i,j,rfl,hp⟩ | ⟨rfl,hd⟩ | ⟨hd,hr⟩
 ·refine ⟨fun hm=>?_,fun hm A2 ρ2 h2 hs=>?_⟩
  ·rw [Kb hm];exact ⟨id,rfl,hp,by rw [e]; rfl,.inl ⟨k,rows,rfl,rfl,e⟩⟩
  ·have hsl:nrmL s (.osl k rows)=nrmL s (.sl k rows):=by
    obtain ⟨k',cs⟩:=s;cases k' with
    | zero=>grind [nrmL,oj]
    | succ k'=>simp [nrmL]
   rw [hsl];obtain ⟨a',cap,rfl,_⟩:=hv.rsl_inv;exact .dat (((Gt r hv rfl he rfl).2 A2 hs.mono fun id' sub hi hl=>hs.ids id' (by
    grind [bT,fT]) (by grind [fT]) sub hl).nrmL s)
 ·refine ⟨fun hm=>?_,fun hm=>?_⟩
  ·rw [Kb hm];refine ⟨id,rfl,hp,?_,.inr ⟨cs,rfl,rfl,e⟩⟩;grind [aM,List.all_eq_true,ED]
  ·rw [eH s (by simp) (by simp) (by simp)] at hm;cases hm
 ·refine ⟨fun hm=>?_,fun hm A2 ρ2 h2 hs=>?_⟩
  ·rw [eH s (by simp) (by simp) (by simp)] at hm;cases hm
  ·rw [eH s (by simp) (by simp) (by simp)];obtain ⟨rfl,hpr⟩:=hv.ref_inv;obtain ⟨h1,h3⟩:=hs.pas id hp hpr;have:=RV.ref (w:=w) (A:=A2) (ρ:=ρ2) (h:=h2) id none k i j h1;grind
 ·refine ⟨fun hm=>?_,fun hm A2 ρ2 h2 hs=>?_⟩
  ·have:=wM (s:=s) hd;cases hq:nrmL s b <;> rw [hq] at hm this <;> simp [oj,aB] at hm this
  ·exact (hv.keepD hd fun b hb=>⟨hs.mono b hb,rfl⟩).nrmL s
 ·refine ⟨fun hm=>?_,fun hm=>data he hd hr⟩;have:=wM (s:=s) hd;cases hq:nrmL s b <;> rw [hq] at hm this <;> simp [oj,aB] at hm this
theorem Y8 (r:Rel w X ρ h') {a b:AV} {u:Value} (hv:RV w (aD w X h' ρ) ρ h' a u) (he:ni h' a=some b) {c:AV} (hc:c=b∨∃ ss,c=nrmV ss b):WF w X ρ h' L a c u:=by
 have hc':∃ ss,c=nrmV ss b:=by
  rcases hc with rfl | hc
  ·refine ⟨[],?_⟩;cases c <;> simp [nrmV,nrmL,cX]
  omega
 obtain ⟨ss,rfl⟩:=hc';by_cases hagg:∃ cs,a=.agg cs
 ·obtain ⟨cs,rfl⟩:=hagg;simp only [ni,Option.map_eq_some_iff] at he;obtain ⟨ds,e1,rfl⟩:=he;refine ⟨fun hm=>by grind [nrmV,oj],fun _ A2 ρ2 h2 hs=>?_⟩;obtain ⟨us,rfl,q1,q2,q3⟩:=hv.agg_inv;obtain ⟨l1,l2⟩:=Ew r cs ds e1;refine .agg _ us (by grind [tZ]) q2 fun i c u hc hu=>?_;obtain ⟨c0,h1,h3⟩:=wL ss ds i c hc;have hi:i < cs.length:=by grind
  have hci:cs[i]?=some cs[i]:=by grind
  obtain ⟨d1,d2⟩:=l2 i cs[i] c0 u hci h1 (q3 i _ u hci hu) (q2 i u hu);have hrd:=d2 A2 hs.mono fun id sub hii hl=>hs.ids id (by
   simp only [bT,List.mem_flatMap];exact ⟨cs[i],by simp,by rw [hii]; simp⟩) (My e1 i _ id hci hii) sub hl
  rcases h3 with rfl | ⟨s,rfl⟩
  ·exact .dat hrd
  ·exact .dat (hrd.nrmL s)
 ·have hl:ni h' a=jk h' a:=by cases a <;> first | rfl | exact absurd ⟨_,rfl⟩ hagg
  rw [hl] at he;have hb:∀ cs,b ≠ .agg cs:=by
   rcases vW r hv he with ⟨id,k,rows,h1,_⟩ | ⟨id,cs',h1,_⟩ | ⟨h1,id,k,i,j,h2,_⟩ | ⟨h1,hd⟩ | ⟨hd,hr⟩
   all_goals grind [aB]
  grind [Ul,WG]
theorem Kc:∀ {zas bs:List AV},rA h' zas=some bs→bs.length=zas.length∧∀ (j:Nat) (a b:AV),zas[j]?=some a→bs[j]?=some b→ni h' a=some b
 | [],bs,he=>by grind [rA,Option.some.injEq]
 | a::zas,bs,he=>by
  simp only [rA,Option.bind_eq_some_iff] at he;obtain ⟨b,e1,q,e2,e3⟩:=he;cases e3;obtain ⟨g1,g2⟩:=Kc e2;refine ⟨by simp [g1],fun j a' b' h1 h2=>?_⟩;cases j with
  | zero=>simp at h1 h2; subst h1 h2; exact e1
  | succ j=>exact g2 j a' b' (by simpa using h1) (by simpa using h2)
def Ly (us:Array Value):Value:=if h:us.size=1 then us[0] else .tuple us
theorem Um {l:List AV} (hl:∀ c ∈ l,∀ vs,c ≠ .tup vs) (n:Nat) (h:ac):mat n h (vS l)=(vS (bQ n h l).1,(bQ n h l).2):=by
 match l with
 | []=>rfl
 | [c] =>
  have:∀ vs,c ≠ .tup vs:=hl c (by simp);cases c <;> first | rfl | exact absurd rfl (this _)
 | a::b::l=>rfl
end
section
variable {w:World} {X:Nat→Prop} {ρ:bq} {h':ac}
theorem Qe {L:List Nat} {g:Nat→Nat} {h2:ac} (em:Emb L (fun i=>i) g h' h2) {b:Nat} (ho:mD h2 (fun i s=>ρ (g i) s) b):mD h' ρ b:=by
 obtain ⟨i,s,h1,h3⟩:=ho;exact ⟨g i,s,(em.live h1).1,h3⟩
theorem WH {ss:List Sh} {b:AV} {vs:List AV} (h:nrmV ss b=.tup vs):∃ vs',b=.tup vs':=by
 cases b with
 | tup vs'=>grind
 | agg cs=>grind [nrmV]
 | _ =>
  simp only [nrmV] at h;generalize ss.headD (.o 0 [])=s at h;obtain ⟨k,cs⟩:=s;cases k <;> simp [nrmL] at h
theorem Ss (r:Rel w X ρ h') {a:AV} {u:Value} {vs:List AV} (hv:RV w (aD w X h' ρ) ρ h' a u) (he:ni h' a=some (.tup vs)):False:=by
 by_cases hagg:∃ cs,a=.agg cs
 ·obtain ⟨cs,rfl⟩:=hagg
  simp_all [ni]
 ·have hl:ni h' a=jk h' a:=by cases a <;> first | rfl | exact absurd ⟨_,rfl⟩ hagg
  rw [hl] at he;rcases vW r hv he with ⟨id,k,rows,h1,_⟩ | ⟨id,cs',h1,_⟩ | ⟨h1,id,k,i,j,h2,_⟩ | ⟨h1,hd⟩ | ⟨hd,hr⟩
  all_goals grind [aB]
theorem Un (r:Rel w X ρ h') {n0 n:Nat} (hn0:n0≤1000) (hn:2000≤n) (hpass:∀ id,aR id=true→h' id ≠ .dead→(cp n0).contains id=true) {zas:List AV} {us:Array Value} (hs:us.size=zas.length)
  (hv:∀ (i:Nat) (c:AV) (u:Value),zas[i]?=some c→us[i]?=some u→RV w (aD w X h' ρ) ρ h' c u) {rs:List (List Sh)} {res:AV} {obs:List Ob} (hz:uS rs n0 h' zas=some (res,obs)) :
  ∃ ρ2,Rel w X ρ2 (mat n (aj obs) res).2∧(∀ nm,Far nm w ρ h' w ρ2 (mat n (aj obs) res).2)∧RV w (aD w X (mat n (aj obs) res).2 ρ2) ρ2 (mat n (aj obs) res).2 (mat n (aj obs) res).1 (Ly us):=by
 unfold uS at hz;split at hz
 ·rename_i hc;simp only [Bool.and_eq_true] at hc;obtain ⟨hc1,hc2⟩:=hc;simp only [Option.map_eq_some_iff] at hz;obtain ⟨bs,e1,e2⟩:=hz;cases e2;obtain ⟨l1,l2⟩:=Kc e1;have hLm:∀ i,(cp n0).contains i=true→aR i=true:=fun i hi=>by
   have:=sU.1 hi;simp only [aR,decide_eq_true_eq];omega
  have hL:∀ i,2000≤i→(cp n0).contains i=false:=fun i hi=>by
   grind [cp]
  have hcl:(br rs bs).length=zas.length:=by rw [rH,l1]
  have out:∀ (j:Nat) (a c:AV) (u:Value),zas[j]?=some a→(br rs bs)[j]?=some c→us[j]?=some u→WF w X ρ h' (cp n0) a c u:=fun j a c u h1 h3 h4=>by
   grind [qX,Y8]
  have uget:∀ (j:Nat) (a:AV),zas[j]?=some a→∃ u,us[j]?=some u:=fun j a h1=>by
   have:j < us.size:=by grind
   simp_all
  have em:=Emb.base (h':=h') hc2;have hlow:∀ i,aj ((cp n0).map h') i ≠ .dead→(cp n0).contains i=true:=fun i hi=>by
   rw [mV] at hi;split at hi
   ·rename_i h1; exact sU.2 h1
   grind
  obtain ⟨gm,m1,m2,m3,m4⟩:=AC hL zas (br rs bs) n (aj ((cp n0).map h')) (fun i=>i) hn hcl.symm (fun j a c h1 h3 h4=>by
    obtain ⟨u,hu⟩:=uget j a h1;exact (out j a c u h1 h3 hu).1 h4) hc1 em (fun i hi=>by
    rw [mV,if_neg (by omega)]) (fun i hi id _ hp e=>by
    grind)
  have notup:∀ c ∈ br rs bs,∀ vs,c ≠ .tup vs:=by
   rintro c hcm vs rfl
   obtain ⟨j,hj⟩:=List.getElem?_of_mem hcm;have hja:j < zas.length:=by grind
   obtain ⟨u,hu⟩:=uget j zas[j] (by grind);obtain ⟨b,h5,h6⟩:=qX rs bs j _ hj;have he:=l2 j zas[j] b (by grind) h5;grind [WH,Ss]
  rw [Um notup];simp only;have hfar:∀ b,aD w X h' ρ b→aD w X (bQ n (aj ((cp n0).map h')) (br rs bs)).2 (fun i s=>ρ (gm i) s) b:=fun b hb=>⟨hb.1,hb.2.1,fun ho=>hb.2.2 (Qe m1 ho)⟩;have hps:∀ id,aR id=true→(bQ n (aj ((cp n0).map h')) (br rs bs)).2 id=aj ((cp n0).map h') id∧gm id=id:=fun id hp=>m2 id (by
   simp only [aR,decide_eq_true_eq] at hp; omega)
  have hpd:∀ id,aR id=true→h' id ≠ .dead→(bQ n (aj ((cp n0).map h')) (br rs bs)).2 id=h' id:=fun id hp hd=>by
   rw [(hps id hp).1,mV,if_pos (sU.1 (hpass id hp hd))]
  have rel2:Rel w X (fun i s=>ρ (gm i) s) (bQ n (aj ((cp n0).map h')) (br rs bs)).2:=Rel.emb m1 r r.xl (fun i s hl=>r.nx _ _ (m1.live hl).1) hfar;refine ⟨fun i s=>ρ (gm i) s,rel2,fun nm=>⟨rfl,rfl,rfl,Nat.le_refl _,fun _ _ _=>rfl,fun b ho=>.inl (Qe m1 ho),fun id hp hd=>?_,fun _ id p hp hd hpr=>?_⟩,?_⟩
  ·grind [mV]
  ·have h1:h' id ≠ .dead:=by obtain ⟨_,_,_,e,_⟩:=hpr; grind
   grind [dJ]
  ·
   have seen:∀ (j:Nat) (a c:AV),zas[j]?=some a→(br rs bs)[j]?=some c→oj c=false →
     Seen w X ρ h' a (aD w X (bQ n (aj ((cp n0).map h')) (br rs bs)).2 (fun i s=>ρ (gm i) s)) (fun i s=>ρ (gm i) s) (bQ n (aj ((cp n0).map h')) (br rs bs)).2:=by
    intro j a c h1 h3 h4;refine ⟨hfar,fun id hid hp sub hl=>⟨?_,fun hx=>r.nx _ _ hl (.inl hx),fun ⟨i,s,ho1,ho2⟩=>?_⟩,fun id hp hd=>⟨by grind,by grind⟩⟩
    ·cases sub with
     | none =>
      have ho:=r.ob id;cases e:h' id with
      | bx cs=>rw [e] at ho; obtain ⟨us,t,g1,_⟩:=ho; grind
      | ar k rows=>rw [e] at ho; obtain ⟨us,t,g1,_⟩:=ho; grind
      | _=>simp [live,e] at hl
     | some p =>
      obtain ⟨cs,k,rows,e,ec⟩:=hl;have ho:=r.ob id;rw [e] at ho;obtain ⟨us,t,g1,g2,g3,g4⟩:=ho;obtain ⟨u,_,a',cap,us',t',_,_,_,q4,_⟩:=g4 p _ ec;grind
    ·obtain ⟨hl1,hdd⟩:=m1.live ho1;obtain ⟨e1,_⟩:=r.inj _ _ _ _ hl1 hl ho2;rcases m3 i hdd with ⟨q1,q2⟩ | ⟨j',a',c',q1,q2,q3,q4⟩
     ·grind
     ·rw [e1] at q4;have hne:j' ≠ j:=by
       grind
      exact two_names zas j' j a' a id hne q1 h1 (by grind) hid hp hc1
   have vals:∀ (j:Nat) (z:AV) (u:Value),(bQ n (aj ((cp n0).map h')) (br rs bs)).1[j]?=some z→us[j]?=some u →
     RV w (aD w X (bQ n (aj ((cp n0).map h')) (br rs bs)).2 (fun i s=>ρ (gm i) s)) (fun i s=>ρ (gm i) s) (bQ n (aj ((cp n0).map h')) (br rs bs)).2 z u:=by
    intro j z u hz hu;obtain ⟨c,h1,rfl⟩:=Mw _ _ _ _ _ hz;have hja:j < zas.length:=by grind
    have ha:zas[j]?=some zas[j]:=by grind
    have o:=out j zas[j] c u ha h1 hu;cases hm:oj c with
    | false =>
     rw [Ka hm];exact o.2 hm _ _ _ (seen j zas[j] c ha h1 hm)
    | true =>
     obtain ⟨id,i1,i2,i3,⟨k,rows,rfl,i4,i5⟩ | ⟨xs,rfl,i4,i5⟩⟩:=o.1 hm
     ·obtain ⟨q1,q2,q3⟩:=m4 j zas[j] _ id ha h1 hm i1;have hva:=hv j zas[j] u ha hu;rw [i4] at hva;obtain ⟨a',cap,rfl,hp,hnn,hb,hab⟩:=hva.rsl_inv;simp only [da];exact .rsl (n+j) none k 0 rows.length cap a' (by show _ ≠ _; grind) hnn (by grind) (by simp only [q1]; exact hab)
     ·obtain ⟨q1,q2,q3⟩:=m4 j zas[j] _ id ha h1 hm i1;have hva:=hv j zas[j] u ha hu;rw [i4] at hva;obtain ⟨rfl,hp⟩:=hva.ref_inv;simp only [da];have:=RV.ref (w:=w) (A:=aD w X (bQ n (aj ((cp n0).map h')) (br rs bs)).2 (fun i s=>ρ (gm i) s)) (ρ:=fun i s=>ρ (gm i) s) (h:=(bQ n (aj ((cp n0).map h')) (br rs bs)).2) (n+j) none 0 0 0 (by show _ ≠ _; rw [q2]; exact q3);simp only [q1] at this;exact this
   have hzl:(bQ n (aj ((cp n0).map h')) (br rs bs)).1.length=us.size:=by rw [EC,hcl,hs]
   unfold Ly;split
   ·rename_i h1
    match hq:(bQ n (aj ((cp n0).map h')) (br rs bs)).1 with
    | []=>rw [hq] at hzl; simp at hzl; omega
    | [z]=>exact vals 0 z us[0] (by rw [hq]; rfl) (by simp [h1])
    | a::b::l=>rw [hq] at hzl; simp at hzl; omega
   ·rename_i h1
    match hq:(bQ n (aj ((cp n0).map h')) (br rs bs)).1 with
    | []=>exact .tup [] us (by rw [hq] at hzl; simpa using hzl.symm) fun i c u hc=>by simp at hc
    | [z]=>rw [hq] at hzl; simp at hzl; omega
    | a::b::l =>
     rw [hq] at hzl;exact .tup _ us hzl.symm fun i c u hc hu=>vals i c u (by rw [hq]; exact hc) hu
 grind
where
 two_names:∀ (zas:List AV) (i j:Nat) (a b:AV) (id:Nat),i ≠ j→zas[i]?=some a→zas[j]?=some b→id ∈ bT a→id ∈ bT b→aR id=false→jl ((zas.flatMap bT).filter fun i=>!aR i)=true→False
 | [],i,j,a,b,id,_,h1,_,_,_,_,_=>by simp at h1
 | c::zas,i,j,a,b,id,hne,h1,h2,h3,h4,hp,hnd=>by
  simp only [List.flatMap_cons,List.filter_append] at hnd;obtain ⟨nd2,nd3⟩:=Gx hnd;have mem:∀ (j:Nat) (b:AV),zas[j]?=some b→id ∈ bT b→id ∈ (zas.flatMap bT).filter fun i=>!aR i:=fun j b hb hi =>
   List.mem_filter.2 ⟨List.mem_flatMap.2 ⟨b,List.mem_of_getElem? hb,hi⟩,by grind⟩
  cases i with
  | zero =>
   simp at h1;subst h1;cases j with
   | zero=>exact hne rfl
   | succ j=>exact nd3 id (List.mem_filter.2 ⟨h3,by simp [hp]⟩) (mem j b (by simpa using h2) h4)
  | succ i =>
   cases j with
   | zero =>
    simp at h2;subst h2;exact nd3 id (List.mem_filter.2 ⟨h4,by simp [hp]⟩) (mem i a (by simpa using h1) h3)
   | succ j=>exact two_names zas i j a b id (by omega) (by grind) (by simpa using h2) h3 h4 hp nd2
end
structure Text (P:Program) (f:FuncId) (fd:FD):Prop where
 text : ∃ fn code N, P.funcs[f]? = some fn ∧ fn.body = some code ∧ fn.ntmps = N ∧ N ≤ 1000 ∧ fK P N code fd.body = some fd.body ∧ As P fn.results.toList = some fd.res ∧ (fn.name == "runtime.NumGoroutine") = false
theorem Mz (fn:Func) (tmps:Array Value):fn.results.mapM (uv tmps)=(fun l=>l.toArray) <$> fn.results.toList.mapM (uv tmps):=by
 rw [Array.mapM_eq_mapM_toList]
theorem Pz {P:Program} {fn:Func} {tmps:Array Value} {w:World} {us:List Value} (h:(fn.results.toList.mapM (uv tmps)).run P w=.ok us w):(results fn tmps).run P w=.ok (Ly us.toArray) w:=by
 have h1:(fn.results.mapM (uv tmps)).run P w=.ok us.toArray w:=by
  simp_all [Mz,Sem.run_map]
 have h2:results fn tmps=(fn.results.mapM (uv tmps) >>= fun vs=>pure (Ly vs)):=by
  congr 1
 simp_all
section
variable {P:Program} {I:Inv} {call:dP} {md:Mode}
theorem Y9 (hm:P.follows .mixedOrders=true) (hcall:iZ P I call md) {f:FuncId} {fd:FD} {lf:Nat} (ht:Text P f fd):kT P I md.nm f (BX call md lf fd):=by
 obtain ⟨fn,code,N,t1,t2,t3,t4,t5,t6,t7⟩:=ht.text;intro args obs obs' res w X ρ vals n hz hn hi r hsz hv;unfold BX at hz;split at hz
 ·rename_i hc;obtain ⟨c1,c2⟩:=hc;have he:(callFunc f vals).run P w=.ok (.enter f vals) w:=by
   simp_all [callFunc,Sem.run_bind,Result.andThen]
  unfold Enters;rw [he];refine calls_of_wp t1 t2 ?_;have hget:∀ i,(vals++Array.replicate (fn.ntmps - vals.size) undef).getD i undef=vals.getD i undef:=fun i=>by
   simp only [Array.getD_eq_getD_getElem?,Array.getElem?_append];grind
  have ok:Ok I N w X ρ (aj obs) (n8 args) { tmps:=vals++Array.replicate (fn.ntmps - vals.size) undef,defers:=[] }:=by
   refine ⟨r,fun i=>?_,by grind,rfl,hi⟩;simp only [hget,n8];by_cases h:i < args.length
   ·rw [Array.getD_eq_getD_getElem?];grind
   ·rw [List.getElem?_eq_none (by omega)];exact .anyv _
  have fin:∀ {t:St} {a:Act} {w':World} {ρ':bq},Ok I N w' X ρ' t.h t.s a→Far md.nm w ρ (aj obs) w' ρ' t.h→wF md.nm fd.rs fd.res obs.length t.s t.h=some (res,obs') →
    a.defers=[]∧∃ v,(results fn a.tmps).run P w'=.ok v w'∧∃ ρ'',Rel w' X ρ'' (mat n (aj obs') res).2∧Far md.nm w ρ (aj obs) w' ρ'' (mat n (aj obs') res).2 ∧
     RV w' (aD w' X (mat n (aj obs') res).2 ρ'') ρ'' (mat n (aj obs') res).2 (mat n (aj obs') res).1 v:=by
   intro t a w' ρ' ok' far hf;refine ⟨ok'.defers,?_⟩;simp only [wF,Option.bind_eq_some_iff] at hf;obtain ⟨⟨vs,h',ks⟩,e1,e2⟩:=hf;split at e2
   ·rename_i hnm;obtain ⟨us,g1,g2,g3,g4,g5⟩:=Eu (a:=a) fn.results.toList fd.res t6 ok'.rel ok'.rs e1;refine ⟨_,Pz g1,?_⟩;have far2:=far.trans (g4.far hnm);obtain ⟨ρ2,q1,q2,q3⟩:=Un (us:=us.toArray) g3 c2 hn (fun id hp hd=>by
     have:=(far2.stay id hp hd).1;unfold aj at this;refine sU.2 ?_;grind) (by omega) (fun i c u hc hu=>g5 i c u hc (by grind)) e2
    exact ⟨ρ2,q1,far2.trans (q2 md.nm),q3⟩
   grind
  cases hx:bF call md lf fd.body (n8 args) (aj obs) with
  | none=>rw [hx] at hz; cases hz
  | some q =>
   obtain ⟨e,t⟩:=q;rw [hx] at hz;refine Sm (N:=N) hcall t4 (Sr hm hcall t4) lf fd.body code t5 hx ok fun a' w' ρ' ok' far=>?_;cases e with
   | normal =>
    obtain ⟨d1,v,d2,d3⟩:=fin ok' far hz;exact ⟨d1,v,d2,d3⟩
   | ret =>
    obtain ⟨d1,v,d2,d3⟩:=fin ok' far hz;exact ⟨d1,v,d2,d3⟩
   | exit id=>cases hz
 grind
end
section
variable {w:World} {X:Nat→Prop} {ρ:bq} {h h':ac}
theorem Kd {a c:AV} {ks:K} (hz:fS h a=some (c,h',ks)):∀ p ∈ ks,p.2=true:=by
 unfold fS at hz;split at hz
 ·unfold m9 at hz;grind
 ·unfold BS Wn at hz;grind
 grind
theorem Gy:∀ {l cs:List AV} {h h':ac} {ks:K},fI h l=some (cs,h',ks)→∀ p ∈ ks,p.2=true
 | [],cs,h,h',ks,hz=>by grind [fI,Option.some.injEq,Prod.mk.injEq]
 | a::l,cs,h,h',ks,hz=>by
  simp only [fI,Option.bind_eq_some_iff] at hz;obtain ⟨⟨c,h1,k1⟩,e1,⟨q,h2,k2⟩,e2,e3⟩:=hz;cases e3;intro p hp;rcases List.mem_append.1 hp with hp | hp
  ·exact Kd e1 p hp
  ·exact Gy e2 p hp
theorem WI {a c:AV} {ks:K} (hz:sI h a=some (c,h',ks)):∀ p ∈ ks,p.2=true:=by
 unfold sI at hz;split at hz
 ·simp only [Option.bind_eq_some_iff] at hz;obtain ⟨⟨q,h1,k1⟩,e1,e2⟩:=hz;cases e2;exact Gy e1
 ·exact Kd hz
theorem Uo {ks:K} (hk:∀ p ∈ ks,p.2=true) (id:Nat):fR ks id none=false:=by
 grind [fR,List.any_eq_false]
theorem RV.clo {w':World} {A A':Nat→Prop} {ρ':bq} {l:List Nat} {c:AV} {u:Value} (hv:RV w A ρ h c u) (hA:∀ b,A b→A' b∧w'.heap[b]?=w.heap[b]?) (hk:∀ id,bD h id none→bD h' id none∧ρ' id none=ρ id none) (hm:aV l c=true):RV w' A' ρ' h' c u:=by
 have leaf:∀ {c:AV} {u:Value},RV w A ρ h c u→bg l c=true→RV w' A' ρ' h' c u:=by
  intro c u hv hm;cases hv with
  | anyv u=>exact .anyv u
  | und=>exact .und
  | dat hd=>exact .dat (hd.mono hA)
  | ref id sub k i j hp =>
   cases sub with
   | some p=>simp [bg] at hm
   | none =>
    obtain ⟨h1,h2⟩:=hk id hp;rw [← h2]; exact .ref id none k i j h1
  | rsl id sub k lo n cap a hp hn hb ha =>
   cases sub with
   | some p=>simp [bg] at hm
   | none =>
    obtain ⟨h1,h2⟩:=hk id hp;exact .rsl id none k lo n cap a h1 hn (by grind) (by grind)
  | rsc id k lo n cap a hp hn hb ha=>simp [bg] at hm
  | ipt cs ad vals hA' hs hv hl hr =>
   exact .ipt cs ad vals (hA _ hA').1 hs (fun j c hc=>by rw [jY (w:=w) (w':=w') (by rw [jW]; grind)]; grind) hl (fun j c hc=>(hr j c hc).mono hA)
  | agg cs us hs h1 hr=>simp [bg] at hm
  | tup vs us hs hr=>simp [bg] at hm
  | fn f x y us ts hs ht hx hy =>
   simp [bg] at hm;obtain ⟨rfl,rfl⟩:=hm;exact .fn f [] [] us ts hs ht (fun i c u hc=>by grind) (fun i c u hc=>by grind)
 cases c with
 | agg cs =>
  simp only [aV,List.all_eq_true] at hm;obtain ⟨us,rfl,hs,h1,hr⟩:=hv.agg_inv;exact .agg cs us hs h1 fun i c u hc hu=>leaf (hr i c u hc hu) (hm c (List.mem_of_getElem? hc))
 | fn f x y =>
  simp only [aV,Bool.and_eq_true,List.all_eq_true] at hm;obtain ⟨us,ts,rfl,hs,ht,hx,hy⟩:=hv.fn_inv;exact .fn f x y us ts hs ht (fun i c u hc hu=>leaf (hx i c u hc hu) (hm.1 c (List.mem_of_getElem? hc))) (fun i c u hc hu=>leaf (hy i c u hc hu) (hm.2 c (List.mem_of_getElem? hc)))
 | _=>exact leaf hv hm
structure Way (w:World) (X:Nat→Prop) (ρ:bq) (h0 h:ac):Prop where
 evo:∃ ks:K,Evo w ρ h0 w ρ h ks∧∀ p ∈ ks,p.2=true
theorem Way.refl:Way w X ρ h h:=⟨[],.refl _ _ _,by simp⟩
theorem Way.trans {h1 h2:ac} (a:Way w X ρ h h1) (b:Way w X ρ h1 h2):Way w X ρ h h2:=by
 obtain ⟨k1,e1,f1⟩:=a.evo;obtain ⟨k2,e2,f2⟩:=b.evo;exact ⟨k1++k2,e1.trans e2,fun p hp=>by grind⟩
theorem Way.al {h0:ac} (a:Way w X ρ h0 h):∀ b,aD w X h0 ρ b→aD w X h ρ b:=by
 obtain ⟨k1,e1,_⟩:=a.evo;exact fun b hb=>(e1.al hb).1
theorem PA {h0:ac} {m:Nat} {a z:AV} {u:Value} {ks:K} (r:Rel w X ρ h) (wy:Way w X ρ h0 h) (hv:RV w (aD w X h0 ρ) ρ h0 a u) (hz:cR h m a=some (z,h',ks)) :
  Rel w X ρ h'∧Evo w ρ h w ρ h' ks∧(∀ p ∈ ks,p.2=true)∧∃ h1,Way w X ρ h1 h'∧RV w (aD w X h1 ρ) ρ h1 z u:=by
 have same:some (a,h,([]:K))=some (z,h',ks)→Rel w X ρ h'∧Evo w ρ h w ρ h' ks∧(∀ p ∈ ks,p.2=true)∧∃ h1,Way w X ρ h1 h'∧RV w (aD w X h1 ρ) ρ h1 z u:=by
  intro e;cases e;exact ⟨r,.refl _ _ _,by simp,h0,wy,hv⟩
 have data:sI h a=some (z,h',ks)→((∀ cs,a ≠ .agg cs)→u.oneCell'=true)→Rel w X ρ h'∧Evo w ρ h w ρ h' ks∧(∀ p ∈ ks,p.2=true)∧∃ h1,Way w X ρ h1 h'∧RV w (aD w X h1 ρ) ρ h1 z u:=by
  intro hz h1;obtain ⟨g1,g2,g3,g4⟩:=T4 r hv wy.al hz h1;exact ⟨g1,g2,WI hz,h',.refl,.dat g3⟩
 cases a with
 | any =>
  grind [cR,sI,fS,aB]
 | rsl id sub k lo n =>
  obtain ⟨ad,cap,rfl,_⟩:=hv.rsl_inv;cases sub with
  | none =>
   simp only [cR] at hz;split at hz
   ·exact data hz fun _=>rfl
   grind
  | some p=>exact data hz fun _=>rfl
 | ref id sub k i j =>
  cases sub with
  | none=>exact same hz
  | some p=>grind [cR,sI,fS,aB]
 | ipt cs=>exact same hz
 | fn f x y=>exact same hz
 | agg cs=>exact data hz fun hh=>absurd rfl (hh cs)
 | v x=>exact data hz fun _=>by obtain ⟨rfl,hp⟩:=hv.v_inv; exact At hp
 | emp =>
  refine data hz fun _=>?_;cases hv with
  | dat hd=>exact hd.one rfl
 | sl k rows =>
  refine data hz fun _=>?_;cases hv with
  | dat hd=>exact hd.one rfl
 | _=>simp [cR,sI,fS,aB] at hz
theorem Ci {h0:ac}:∀ (l:List AV) (ms:List Nat) (vals:List Value) {h h':ac} {zs:List AV} {ks:K},Rel w X ρ h→Way w X ρ h0 h→vals.length=l.length →
  (∀ (i:Nat) (c:AV) (u:Value),l[i]?=some c→vals[i]?=some u→RV w (aD w X h0 ρ) ρ h0 c u)→bZ h ms l=some (zs,h',ks) →
  Rel w X ρ h'∧Evo w ρ h w ρ h' ks∧(∀ p ∈ ks,p.2=true)∧zs.length=l.length∧∀ (i:Nat) (z:AV) (u:Value),zs[i]?=some z→vals[i]?=some u→∃ h1,Way w X ρ h1 h'∧RV w (aD w X h1 ρ) ρ h1 z u
 | [],ms,vals,h,h',zs,ks,r,wy,hl,hv,hz=>by
  obtain ⟨rfl,rfl,rfl⟩:=hz;exact ⟨r,.refl _ _ _,by simp,rfl,fun i z u h1=>by grind⟩
 | a::l,ms,vals,h,h',zs,ks,r,wy,hl,hv,hz=>by
  simp only [bZ,Option.bind_eq_some_iff] at hz;obtain ⟨⟨z,h1,k1⟩,e1,⟨q,h2,k2⟩,e2,e3⟩:=hz;cases e3;cases vals with
  | nil=>grind
  | cons u vals =>
   obtain ⟨g1,g2,g3,h3,g4,g5⟩:=PA r wy (hv 0 a u rfl rfl) e1;obtain ⟨f1,f2,f3,f4,f5⟩:=Ci l ms.tail vals g1 (wy.trans ⟨k1,g2,g3⟩) (by grind) (fun i c u' h4 h5=>hv (i+1) c u' (by grind) (by grind)) e2;refine ⟨f1,g2.trans f2,fun p hp=>?_,by grind,fun i z' u' h4 h5=>?_⟩
   ·grind
   ·cases i with
    | zero =>
     simp at h4 h5;subst h4 h5;exact ⟨h3,g4.trans ⟨k2,f2,f3⟩,g5⟩
    | succ i=>grind
theorem Up {L:List Nat} {h1:ac} {z:AV} {u:Value} (wy:Way w X ρ h1 h) (hv:RV w (aD w X h1 ρ) ρ h1 z u) (hc:aV L z=true):RV w (aD w X h ρ) ρ h z u:=by
 obtain ⟨ks,e,f⟩:=wy.evo;exact hv.clo (fun b hb=>e.al hb) (fun id hp=>e.keep id none hp (Uo f id)) hc
theorem Cj (r:Rel w X ρ h) {b:Nat} (ho:mD h ρ b):b < w.heap.size:=by
 obtain ⟨id,sub,hl,rfl⟩:=ho;cases sub with
 | none =>
  have ho:=r.ob id;cases e:h id with
  | bx cs=>rw [e] at ho; obtain ⟨us,t,g1,_⟩:=ho; grind
  | ar k rows=>rw [e] at ho; obtain ⟨us,t,g1,_⟩:=ho; grind
  | _=>simp [live,e] at hl
 | some p =>
  obtain ⟨cs,k,rows,e,ec⟩:=hl;have ho:=r.ob id;rw [e] at ho;obtain ⟨us,t,g1,g2,g3,g4⟩:=ho;obtain ⟨u,_,a',cap,us',t',_,_,_,q4,_⟩:=g4 p _ ec;grind
section
variable {ids:List Nat}
theorem wN {a:Nat} (ha:a ∈ ids):1000≤bo ids a∧bo ids a < 1000+ids.length:=by
 grind [bo,List.idxOf_lt_length_of_mem]
theorem uw (hl:ids.length≤1000) {a:Nat} (ha:a ∈ ids):cS ids (bo ids a)=a:=by
 have:=wN ha;unfold cS;rw [if_pos (by omega)]
 simp_all [bo,List.idxOf_lt_length_of_mem]
theorem wO (hl:ids.length≤1000) (hnd:ids.Nodup) {i:Nat} (h1:1000≤i) (h2:i < 1000+ids.length):cS ids i ∈ ids∧bo ids (cS ids i)=i:=by
 have hj:i - 1000 < ids.length:=by omega
 have e:cS ids i=ids[i - 1000]:=by
  unfold cS;grind
 grind [bo]
theorem Gz {os:List Ob} {j:Nat} {o:Ob} (h:os[j]?=some o):aj os (1000+j)=o:=by
 simp_all [aj,if_pos]
theorem rI {os:List Ob} {i:Nat} (h:i < 1000∨1000+os.length≤i):aj os i=.dead:=by
 grind [aj]
theorem Emb.enter (hl:ids.length≤1000) (hnd:ids.Nodup) (hcl:∀ a ∈ ids,aM ids (h a)=true):Emb ids (bo ids) (cS ids) h (aj (ids.map fun a=>cZ (bo ids) (h a))):=by
 have at_:∀ a ∈ ids,aj (ids.map fun a=>cZ (bo ids) (h a)) (bo ids a)=cZ (bo ids) (h a):=fun a ha=>by
  refine Gz ?_;grind
 have low:∀ i,aj (ids.map fun a=>cZ (bo ids) (h a)) i ≠ .dead→1000≤i∧i < 1000+ids.length:=fun i hi=>by
  by_cases h1:1000≤i∧i < 1000+ids.length
  ·omega
  ·exact absurd (rI (by grind)) hi
 refine ⟨fun a ha=>?_,fun i hi=>?_,fun i j hi hj e=>?_⟩
 ·have ha':a ∈ ids:=by grind
  exact ⟨uw hl ha',at_ a ha'⟩
 ·obtain ⟨h1,h2⟩:=low i hi;obtain ⟨h3,h4⟩:=wO hl hnd h1 h2;grind
 ·obtain ⟨h1,h2⟩:=low i hi;obtain ⟨h3,h4⟩:=low j hj;rw [← (wO hl hnd h1 h2).2,← (wO hl hnd h3 h4).2,e]
end
end
theorem Ke {gv:K} {id:Nat}:∀ {h:ac},(∀ p ∈ gv,p.1 ≠ id)→gA h gv id=h id:=by
 induction gv with
 | nil=>intro h _; rfl
 | cons p l ih =>
  simp_all [gA,aH,Ne.symm]
theorem MA {gv:K} {id:Nat}:∀ {h:ac},((∃ p ∈ gv,p.1=id)∨h id=.dead)→gA h gv id=.dead:=by
 induction gv with
 | nil =>
  intro h hi;rcases hi with ⟨p,hp,_⟩ | hi
  ·grind
  ·exact hi
 | cons p l ih =>
  simp only [gA];grind [au,absurd,upd]
theorem MB {ids:List Nat}:∀ {l:List Nat} {os:List Ob} {g:ac} {j a:Nat} {o:Ob},l.Nodup→l[j]?=some a→os[j]?=some o→dS g ids l os a=cZ (cS ids) o
 | [],os,g,j,a,o,_,h1,_=>by grind
 | b::l,[],g,j,a,o,_,_,h2=>by grind
 | b::l,o'::os,g,j,a,o,hnd,h1,h2=>by
  obtain ⟨n1,n2⟩:=List.nodup_cons.1 hnd;simp only [dS];cases j with
  | zero =>
   simp at h1 h2;subst h1 h2;rw [qV n1,au]
  | succ j=>exact MB n2 (by simpa using h1) (by simpa using h2)
theorem GA {h:ac}:∀ {m n:Nat},dp h n m=true→∀ i,n≤i→i < n+m→h i=.dead
 | 0,n,_,i,h1,h2=>by omega
 | m+1,n,hf,i,h1,h2=>by
  simp only [dp,Bool.and_eq_true] at hf;by_cases e:i=n
  ·grind [cM]
  ·exact GA hf.2 i (by omega) (by omega)
theorem wP {h:ac} {gv:K}:∀ {l:List Nat} {os:List Ob},dz h gv l os=true→∀ (j a:Nat) (o:Ob),l[j]?=some a→os[j]?=some o→(bf (h a)=true→bf o=true)∧((∀ p ∈ gv,p.1 ≠ a)→o ≠ .dead)
 | [],os,_,j,a,o,h1,_=>by grind
 | b::l,[],_,j,a,o,_,h2=>by grind
 | b::l,o'::os,hs,j,a,o,h1,h2=>by
  simp only [dz,Bool.and_eq_true,Bool.or_eq_true,Bool.not_eq_true'] at hs;obtain ⟨⟨s1,s2⟩,s3⟩:=hs;cases j with
  | zero =>
   refine ⟨fun hb=>?_,fun hn e=>?_⟩
   ·grind
   ·grind [cM]
  | succ j=>exact wP s3 j a o (by simpa using h1) (by simpa using h2)
theorem wQ {l l':List Nat} {c:AV} (hl:∀ i,l.contains i=true→l'.contains i=true) (hc:bg l c=true):bg l' c=true:=by
 cases c <;> simp only [bg] at hc ⊢ <;> first | exact hc | skip
 all_goals grind
theorem Ck {l l':List Nat} {c:AV} (hl:∀ i,l.contains i=true→l'.contains i=true) (hc:aV l c=true):aV l' c=true:=by
 cases c with
 | agg cs =>
  grind [aV,List.all_eq_true,wQ]
 | fn f x y =>
  simp only [aV,Bool.and_eq_true,List.all_eq_true] at hc ⊢;grind [wQ]
 | _ =>
  simp only [aV] at hc ⊢;exact wQ hl hc
theorem MC {l l':List Nat} {o:Ob} (hl:∀ i,l.contains i=true→l'.contains i=true) (hc:aM l o=true):aM l' o=true:=by
 cases o <;> simp only [aM] at hc ⊢;simp only [List.all_eq_true,gI,Bool.or_eq_true] at hc ⊢;grind [Ck]
theorem MD {f:Nat→Nat} {c:AV} (hd:ji c=true):dM f c=c:=by
 cases c <;> simp [ji,aU,aB] at hd <;> first | rfl | skip
 obtain ⟨rfl,rfl⟩:=hd;rfl
theorem ME {l:List Nat} {n:Nat} {g:ac} {c:AV} (hr:fE l c=true) {i:Nat} (h:(da n g c).2 i ≠ g i):(∃ k rows,(da n g c).2 i=.ar k rows)∨∃ cs,(da n g c).2 i=.bx cs∧cs.all ji=true:=by
 cases c <;> simp only [da] at h ⊢ <;> first | exact absurd rfl h | skip
 case osl k rows =>
  simp_all [upd,if_neg,absurd]
 case obx cs =>
  unfold upd at h ⊢;split
  ·exact .inr ⟨_,rfl,hr⟩
  grind
theorem MF {l:List Nat} {i:Nat}:∀ {vs:List AV} {n:Nat} {g:ac},vs.all (fE l)=true→(bQ n g vs).2 i ≠ g i→(∃ k rows,(bQ n g vs).2 i=.ar k rows)∨∃ cs,(bQ n g vs).2 i=.bx cs∧cs.all ji=true
 | [],n,g,_,h=>absurd rfl h
 | c::vs,n,g,hr,h=>by
  simp only [List.all_cons,Bool.and_eq_true] at hr;simp only [bQ] at h ⊢;by_cases e:(bQ (n+1) (da n g c).2 vs).2 i=(da n g c).2 i
  ·rw [e] at h ⊢;exact ME hr.1 h
  ·exact MF hr.2 e
theorem Za {l:List Nat} {n:Nat} {g:ac} {c:AV} (hr:jH l c=true) {i:Nat} (h:(mat n g c).2 i ≠ g i):(∃ k rows,(mat n g c).2 i=.ar k rows)∨∃ cs,(mat n g c).2 i=.bx cs∧cs.all ji=true:=by
 cases c <;> simp only [mat] at h ⊢ <;> simp only [jH] at hr <;> first | exact MF hr h | exact ME hr h
theorem EF {l l':List Nat} {n:Nat} {g:ac} {c:AV} (hr:fE l c=true) (hl:∀ i,l.contains i=true→l'.contains i=true) (hn:l'.contains n=true):aV l' (da n g c).1=true:=by
 cases c <;> simp only [da] <;> simp only [fE] at hr <;> first | exact Ck hl hr | (simp only [aV,bg,hn]; rfl)
theorem EG {l l':List Nat} (hl:∀ i,l.contains i=true→l'.contains i=true):∀ {vs:List AV} {n:Nat} {g:ac},vs.all (fE l)=true→(∀ i,n≤i→i < n+vs.length→l'.contains i=true)→∀ z ∈ (bQ n g vs).1,aV l' z=true
 | [],n,g,_,_,z,hz=>by grind [bQ]
 | c::vs,n,g,hr,hn,z,hz=>by
  simp only [List.all_cons,Bool.and_eq_true] at hr;simp only [bQ,List.mem_cons] at hz;rcases hz with rfl | hz
  ·exact EF hr.1 hl (hn n (Nat.le_refl _) (by simp))
  ·exact EG hl hr.2 (fun i h1 h2=>hn i (by omega) (by simp at h2 ⊢; omega)) z hz
def Su (l:List Nat):AV→Prop
 | .tup vs=>∀ c ∈ vs,aV l c=true
 | c=>aV l c=true
theorem Sv {l l':List Nat} {n:Nat} {g:ac} {c:AV} (hr:fE l c=true) (hl:∀ i,l.contains i=true→l'.contains i=true) (hn:l'.contains n=true):Su l' (da n g c).1:=by
 have:=EF (n:=n) (g:=g) hr hl hn;cases hq:(da n g c).1 <;> rw [hq] at this <;> first | exact this | simp [aV,bg] at this
theorem Uq {l l':List Nat} {n:Nat} {g:ac} {c:AV} (hr:jH l c=true) (hl:∀ i,l.contains i=true→l'.contains i=true) (hn:∀ i,n≤i→i < n+cG c→l'.contains i=true):Su l' (mat n g c).1:=by
 cases c with
 | tup vs =>
  exact EG hl hr hn
 | _=>exact Sv hr hl (hn n (Nat.le_refl _) (by simp [cG]))
section
variable {w:World} {X:Nat→Prop} {ρ:bq} {hc:ac} {ids:List Nat}
def EH (X:Nat→Prop) (hc:ac) (ρ:bq) (ids:List Nat) (b:Nat):Prop :=
 X b∨(mD hc ρ b∧¬ mD (aj (ids.map fun a=>cZ (bo ids) (hc a))) (fun i s=>ρ (cS ids i) s) b)
theorem Ur (r:Rel w X ρ hc) (hl:ids.length≤1000) (hnd:ids.Nodup) (hcl:∀ a ∈ ids,aM ids (hc a)=true) :
  Rel w (EH X hc ρ ids) (fun i s=>ρ (cS ids i) s) (aj (ids.map fun a=>cZ (bo ids) (hc a))) ∧
  (∀ b,aD w X hc ρ b→aD w (EH X hc ρ ids) (aj (ids.map fun a=>cZ (bo ids) (hc a))) (fun i s=>ρ (cS ids i) s) b):=by
 have em:=Emb.enter (h:=hc) hl hnd hcl;have hA:∀ b,aD w X hc ρ b→aD w (EH X hc ρ ids) (aj (ids.map fun a=>cZ (bo ids) (hc a))) (fun i s=>ρ (cS ids i) s) b:=fun b hb =>
  ⟨hb.1,fun hx=>by rcases hx with hx | ⟨hx,_⟩; exact hb.2.1 hx; exact hb.2.2 hx,fun ⟨i,s,h1,h2⟩=>hb.2.2 ⟨_,s,(em.live h1).1,h2⟩⟩
 exact ⟨Rel.emb em r (fun b hb=>by rcases hb with (hb | ⟨hb,_⟩) | hb; exact r.xl b (.inl hb); exact Cj r hb; exact r.xl b (.inr hb)) (fun i s hl hx=>by
  rcases hx with (hx | ⟨_,hx⟩) | hx
  ·exact r.nx _ _ (em.live hl).1 (.inl hx)
  ·exact hx ⟨i,s,hl,rfl⟩
  ·exact r.nx _ _ (em.live hl).1 (.inr hx)) hA,hA⟩
theorem Cm (hl:ids.length≤1000) (hnd:ids.Nodup) (hcl:∀ a ∈ ids,aM ids (hc a)=true) {b:Nat} (ho:mD (aj (ids.map fun a=>cZ (bo ids) (hc a))) (fun i s=>ρ (cS ids i) s) b) :
  ∃ id sub,id ∈ ids∧live hc id sub∧(ρ id sub).1=b:=by
 obtain ⟨i,s,h1,h2⟩:=ho;obtain ⟨h3,h4⟩:=(Emb.enter (h:=hc) hl hnd hcl).live h1;grind [absurd,rI,wO]
theorem Sw {w':World} {ρ':bq} {kp:Bool} {d:Nat} {gv ks0 ks:K} {res:AV} {os:List Ob} {z:AV} {h':ac} {v:Value} (r:Rel w X ρ hc) (hnd:ids.Nodup) (hcl:∀ a ∈ ids,aM ids (hc a)=true) (hdead:∀ a ∈ ids,hc a ≠ .dead) (gvflag:∀ p ∈ gv,p.2=false)
  (hz:fF kp hc d ids ks0 gv (res,os)=some (z,h',ks)) (r':Rel w' (EH X hc ρ ids) ρ' (mat (2000+8*d) (aj os) res).2)
  (far:Far kp w (fun i s=>ρ (cS ids i) s) (aj (ids.map fun a=>cZ (bo ids) (hc a))) w' ρ' (mat (2000+8*d) (aj os) res).2)
  (hv:RV w' (aD w' (EH X hc ρ ids) (mat (2000+8*d) (aj os) res).2 ρ') ρ' (mat (2000+8*d) (aj os) res).2 (mat (2000+8*d) (aj os) res).1 v) :
  ∃ ρ3 k1,ks=ks0++k1∧Rel w' X ρ3 h'∧Evo w ρ hc w' ρ3 h' k1∧RV w' (aD w' X h' ρ3) ρ3 h' z v:=by
 unfold fF at hz;split at hz
 ·rename_i hcond;obtain ⟨c1,hl,c2,c3,c4,c5⟩:=hcond;simp only at c1 c2 c4;simp only [Option.some.injEq,Prod.mk.injEq] at hz;obtain ⟨rfl,rfl,rfl⟩:=hz;simp only [vQ,Bool.and_eq_true] at c5;obtain ⟨c5,c6,c7⟩:=c5;generalize hn:2000+8*d=n at *
  have n2:2000≤n:=by omega
  have em:=Emb.enter (h:=hc) hl hnd hcl;have gdead:∀ i,n≤i→i < n+cG res→hc i=.dead:=GA c3;have gids:∀ i,n≤i→i < n+cG res→i ∉ ids:=fun i h1 h2 hi=>hdead i hi (gdead i h1 h2);have oget:∀ a ∈ ids,os[ids.idxOf a]?=some (aj os (bo ids a)):=fun a ha=>by
   simp_all [List.idxOf_lt_length_of_mem,bo,congrArg,Gz]
  have hm_ids:∀ a ∈ ids,(mat n (aj os) res).2 (bo ids a)=aj os (bo ids a):=fun a ha=>sW (by grind [wN]);have hm_out:∀ i,¬ (1000≤i∧i < 1000+ids.length)→¬ (n≤i∧i < n+cG res)→(mat n (aj os) res).2 i=.dead:=fun i h1 h2=>by
   grind [sW,rI]
  have w_ids:∀ a ∈ ids,dS hc ids ids os a=cZ (cS ids) (aj os (bo ids a)):=fun a ha=>MB hnd (by
   grind) (oget a ha)
  have h_grp:∀ i,n≤i→i < n+cG res→(mat n (gA (dS hc ids ids os) gv) res).2 i=(mat n (aj os) res).2 i:=fun i h1 h2=>Uj (by
   grind [MA,qV,rI])
  have h_ids:∀ a ∈ ids,(∀ p ∈ gv,p.1 ≠ a)→(mat n (gA (dS hc ids ids os) gv) res).2 a=cZ (cS ids) ((mat n (aj os) res).2 (bo ids a)):=fun a ha hg=>by
   rw [sW (fun hh=>gids a hh.1 hh.2 ha),Ke hg,w_ids a ha,hm_ids a ha]
  have h_gv:∀ a,¬ (n≤a∧a < n+cG res)→(∃ p ∈ gv,p.1=a)→(mat n (gA (dS hc ids ids os) gv) res).2 a=.dead:=fun a h1 hg=>by
   rw [sW (by omega),MA (.inl hg)]
  have h_out:∀ a,a ∉ ids→¬ (n≤a∧a < n+cG res)→(∀ p ∈ gv,p.1 ≠ a)→(mat n (gA (dS hc ids ids os) gv) res).2 a=hc a:=fun a h1 h2 hg=>by
   rw [sW (by omega),Ke hg,qV h1]
  generalize hh':(mat n (gA (dS hc ids ids os) gv) res).2=h' at *
  have hzr':(mat n (aj os) res).1=(mat n (gA (dS hc ids ids os) gv) res).1:=Qc _ _ _ _;generalize (mat n (gA (dS hc ids ids os) gv) res).1=zr at *
  have grp_obj:∀ i,n≤i→i < n+cG res→(mat n (aj os) res).2 i ≠ .dead→(∃ k rows,(mat n (aj os) res).2 i=.ar k rows)∨∃ cs,(mat n (aj os) res).2 i=.bx cs∧cs.all ji=true:=fun i h1 h2 hd =>
   Za c6 (by grind [rI])
  rw [hzr'] at hv;have zcl:∀ {l':List Nat},(∀ i,(Em ids gv).contains i=true→l'.contains i=true)→(∀ i,n≤i→i < n+cG res→l'.contains i=true)→Su l' zr:=fun {l'} hl1 hl2=>hzr' ▸ Uq c6 hl1 hl2;generalize hhm:(mat n (aj os) res).2=hm at *
  have ok_spec:∀ i,(Em ids gv).contains i=true→1000≤i∧i < 1000+ids.length∧∀ p ∈ gv,p.1 ≠ cS ids i:=fun i hi=>by
   unfold Em at hi;split at hi
   all_goals simp_all [List.contains_eq_mem,List.mem_filter,decide_eq_true_eq,Bool.not_eq_true',List.any_eq_false,beq_iff_eq,cp]
  let L3:List Nat:=Em ids gv++List.range' n (cG res)
  have l3a:∀ i,(Em ids gv).contains i=true→L3.contains i=true:=fun i hi=>by
   grind
  have l3b:∀ i,n≤i→i < n+cG res→L3.contains i=true:=fun i h1 h2=>by
   grind
  let Cal:Nat→Prop:=fun i=>(i ∈ ids∧∀ p ∈ gv,p.1 ≠ i)∨(n≤i∧i < n+cG res)
  let nm:Nat→Nat:=fun i=>if i ∈ ids then bo ids i else i
  let h3:ac:=fun i=>open Classical in if Cal i then h' i else .dead
  have h3c:∀ i,Cal i→h3 i=h' i:=fun i hi=>by grind
  have h3n:∀ i,h3 i ≠ .dead→Cal i:=fun i hi=>by
   grind
  have nmi:∀ i ∈ ids,nm i=bo ids i:=fun i hi=>by grind
  have nmg:∀ i,n≤i→i < n+cG res→nm i=i:=fun i h1 h2=>by grind
  have em3:Emb L3 (cS ids) nm hm h3:=by
   refine ⟨fun i hi=>?_,fun i hi=>?_,fun i j hi hj e=>?_⟩
   ·simp only [L3,List.contains_eq_mem,List.mem_append,decide_eq_true_eq,List.mem_range'_1] at hi;rcases hi with hi | hi
    ·grind [wO]
    ·have e1:cS ids i=i:=by unfold cS; rw [if_neg (by omega)]
     rw [e1];refine ⟨nmg i hi.1 hi.2,?_⟩;rw [h3c _ (.inr hi),h_grp i hi.1 hi.2];by_cases hd:hm i=.dead
     ·rw [hd]; rfl
     ·rcases grp_obj i hi.1 hi.2 hd with ⟨k,rows,e2⟩ | ⟨cs,e2,e3⟩
      ·rw [e2]; rfl
      ·rw [e2];simp only [cZ,Ob.bx.injEq];exact ((List.map_congr_left (g:=fun c=>c) fun c hc=>MD (List.all_eq_true.1 e3 c hc)).trans (List.map_id' cs)).symm
   ·rcases h3n i hi with ⟨q1,q2⟩ | ⟨q1,q2⟩
    ·rw [h3c _ (.inl ⟨q1,q2⟩),nmi i q1];refine ⟨h_ids i q1 q2,?_⟩;rw [hm_ids i q1];exact MC l3a (List.all_eq_true.1 c7 _ (List.mem_of_getElem? (oget i q1)))
    ·rw [nmg i q1 q2];have hd:hm i ≠ .dead:=by rw [h3c _ (.inr ⟨q1,q2⟩),h_grp i q1 q2] at hi; exact hi
     rw [h3c _ (.inr ⟨q1,q2⟩),h_grp i q1 q2];rcases grp_obj i q1 q2 hd with ⟨k,rows,e2⟩ | ⟨cs,e2,e3⟩
     ·rw [e2]; exact ⟨rfl,rfl⟩
     ·rw [e2];refine ⟨?_,?_⟩
      ·simp only [cZ,Ob.bx.injEq];exact ((List.map_congr_left (g:=fun c=>c) fun c hc=>MD (List.all_eq_true.1 e3 c hc)).trans (List.map_id' cs)).symm
      ·simp only [aM,List.all_eq_true];exact fun c hc=>ED (List.all_eq_true.1 e3 c hc)
   ·rcases h3n i hi with ⟨q1,q2⟩ | ⟨q1,q2⟩ <;> rcases h3n j hj with ⟨q3,q4⟩ | ⟨q3,q4⟩
    ·rw [nmi i q1,nmi j q3] at e;rw [← uw hl q1,← uw hl q3,e]
    ·rw [nmi i q1,nmg j q3 q4] at e;have:=wN q1;omega
    ·rw [nmg i q1 q2,nmi j q3] at e;have:=wN q3;omega
    ·rwa [nmg i q1 q2,nmg j q3 q4] at e
  have own3:∀ {b},mD h3 (fun i s=>ρ' (nm i) s) b→mD hm ρ' b:=fun ⟨i,s,h1,h2⟩=>⟨nm i,s,(em3.live h1).1,h2⟩;have r3:Rel w' (EH X hc ρ ids) (fun i s=>ρ' (nm i) s) h3:=Rel.emb em3 r' r'.xl (fun i s hl=>r'.nx _ _ (em3.live hl).1) fun b hb=>⟨hb.1,hb.2.1,fun ho=>hb.2.2 (own3 ho)⟩
  let ρ3:bq:=fun i s=>open Classical in if Cal i then ρ' (nm i) s else ρ i s
  have r3c:∀ i,Cal i→∀ s,ρ3 i s=ρ' (nm i) s:=fun i hi s=>by simp only [ρ3,if_pos hi]
  have r3n:∀ i,¬ Cal i→∀ s,ρ3 i s=ρ i s:=fun i hi s=>by simp only [ρ3,if_neg hi]
  have rest:∀ i,¬ Cal i→h' i ≠ .dead→i ∉ ids∧h' i=hc i:=fun i hi hd=>by
   have h1:¬ (n≤i∧i < n+cG res):=fun hh=>hi (.inr hh);have h2:∀ p ∈ gv,p.1 ≠ i:=fun p hp e=>hd (h_gv i h1 ⟨p,hp,e⟩);have h4:i ∉ ids:=fun hh=>hi (.inl ⟨hh,h2⟩);exact ⟨h4,h_out i h4 h1 h2⟩
  have xin:∀ {i s},i ∉ ids→live hc i s→¬ mD (aj (ids.map fun a=>cZ (bo ids) (hc a))) (fun i s=>ρ (cS ids i) s) (ρ i s).1:=fun {i s} hi hl' ho=>by
   obtain ⟨id,sub,q1,q2,q3⟩:=Cm hl hnd hcl ho;obtain ⟨e,_⟩:=r.inj _ _ _ _ q2 hl' q3;exact hi (e ▸ q1)
  have lcal:∀ {i s},live h' i s→Cal i→live h3 i s:=fun {i s} hl' hC=>(cx (h3c i hC)).2 hl';have lrest:∀ {i s},live h' i s→¬ Cal i→i ∉ ids∧live hc i s:=fun {i s} hl' hC=>by
   have hd:h' i ≠ .dead:=by
    cases s with
    | none=>intro e; simp [live,e] at hl'
    | some p=>obtain ⟨_,_,_,e,_⟩:=hl'; rw [e]; simp
   obtain ⟨h1,h2⟩:=rest i hC hd;exact ⟨h1,(cx h2).1 hl'⟩
  have fr3:∀ {b},mD hm ρ' b→mD (aj (ids.map fun a=>cZ (bo ids) (hc a))) (fun i s=>ρ (cS ids i) s) b∨w.heap.size≤b:=fun ho=>far.fresh _ ho;have parts:∀ {i s j t},live h3 i s→j ∉ ids→live hc j t→(ρ' (nm i) s).1 ≠ (ρ j t).1:=fun {i s j t} h1 h2 h4 e=>by
   rcases fr3 ⟨nm i,s,(em3.live h1).1,e⟩ with ho | ho
   ·exact xin h2 h4 ho
   ·have:=Cj r ⟨j,t,h4,rfl⟩;omega
  have ownc:∀ {b},mD h' ρ3 b→mD h3 (fun i s=>ρ' (nm i) s) b∨∃ id sub,id ∉ ids∧live hc id sub∧(ρ id sub).1=b:=fun {b} ⟨i,s,h1,h2⟩=>by
   by_cases hC:Cal i
   ·exact .inl ⟨i,s,lcal h1 hC,by rw [← h2,r3c i hC]⟩
   ·obtain ⟨h4,h5⟩:=lrest h1 hC;exact .inr ⟨i,s,h4,h5,by rw [← h2,r3n i hC]⟩
  have hA3:∀ b,aD w' (EH X hc ρ ids) h3 (fun i s=>ρ' (nm i) s) b→aD w' X h' ρ3 b:=fun b hb=>⟨hb.1,fun hx=>hb.2.1 (.inl hx),fun ho=>by
   rcases ownc ho with ho | ⟨i,s,h1,h2,rfl⟩
   ·exact hb.2.2 ho
   ·exact hb.2.1 (.inr ⟨⟨i,s,h2,rfl⟩,xin h1 h2⟩)⟩
  have noE:∀ {b},¬ mD hc ρ b→¬ mD (aj (ids.map fun a=>cZ (bo ids) (hc a))) (fun i s=>ρ (cS ids i) s) b:=fun {b} hb ho=>by
   obtain ⟨id,sub,_,q2,q3⟩:=Cm hl hnd hcl ho;exact hb ⟨id,sub,q2,q3⟩
  have hAc:∀ b,aD w X hc ρ b→aD w' X h' ρ3 b∧w'.heap[b]?=w.heap[b]?:=fun b hb=>by
   refine ⟨⟨Nat.lt_of_lt_of_le hb.1 far.size,hb.2.1,fun ho=>?_⟩,far.old b hb.1 (noE hb.2.2)⟩;rcases ownc ho with ho | ⟨i,s,h1,h2,rfl⟩
   ·rcases fr3 (own3 ho) with ho | ho
    ·exact noE hb.2.2 ho
    ·have:=hb.1; omega
   ·exact hb.2.2 ⟨i,s,h2,rfl⟩
  have pas:∀ a ∈ ids,aR (bo ids a)=true:=fun a ha=>by
   have:=wN ha;simp only [aR,decide_eq_true_eq];omega
  have stayI:∀ a ∈ ids,(∀ p ∈ gv,p.1 ≠ a)→h' a ≠ .dead∧ρ3 a none=ρ a none∧hm (bo ids a) ≠ .dead:=fun a ha hg=>by
   have h1:=(wP c4 _ a _ (by have h1:=List.idxOf_lt_length_of_mem ha; rw [List.getElem?_eq_getElem h1]; simp) (oget a ha)).2 hg;have h2:hm (bo ids a) ≠ .dead:=by rw [hm_ids a ha]; exact h1
   refine ⟨by rw [h_ids a ha hg,ne_eq,B9]; exact h2,?_,h2⟩;rw [r3c a (.inl ⟨ha,hg⟩),nmi a ha,(far.stay _ (pas a ha) h2).2,uw hl ha]
  have bfB:∀ id,bf (hc id)=true→bf (h' id)=true∧ρ3 id none=ρ id none:=fun id hb=>by
   have h1:¬ (n≤id∧id < n+cG res):=fun hh=>by rw [gdead id hh.1 hh.2] at hb; cases hb
   have h2:∀ p ∈ gv,p.1 ≠ id:=fun p hp e=>by
    have:=List.all_eq_true.1 c5 p hp;rw [e,hb] at this;cases this
   by_cases hi:id ∈ ids
   ·have h4:=(wP c4 _ id _ (by have h1:=List.idxOf_lt_length_of_mem hi; rw [List.getElem?_eq_getElem h1]; simp) (oget id hi)).1 hb;exact ⟨by rw [h_ids id hi h2,P9,hm_ids id hi]; exact h4,(stayI id hi h2).2.1⟩
   ·exact ⟨by rw [h_out id hi h1 h2]; exact hb,r3n id (fun hC=>by rcases hC with hC | hC; exact hi hC.1; exact h1 hC) none⟩
  have rel:Rel w' X ρ3 h':=by
   refine ⟨fun i s j t h1 h2 e=>?_,fun i s h1 hx=>?_,fun id=>?_,fun b hb=>Nat.lt_of_lt_of_le (r.xl b hb) far.size⟩
   ·by_cases hi:Cal i <;> by_cases hj:Cal j
    ·rw [r3c i hi,r3c j hj] at e;exact r3.inj _ _ _ _ (lcal h1 hi) (lcal h2 hj) e
    ·rw [r3c i hi,r3n j hj] at e;obtain ⟨q1,q2⟩:=lrest h2 hj;exact absurd e (parts (lcal h1 hi) q1 q2)
    ·rw [r3n i hi,r3c j hj] at e;obtain ⟨q1,q2⟩:=lrest h1 hi;exact absurd e.symm (parts (lcal h2 hj) q1 q2)
    ·rw [r3n i hi,r3n j hj] at e;exact r.inj _ _ _ _ (lrest h1 hi).2 (lrest h2 hj).2 e
   ·by_cases hi:Cal i
    ·rw [r3c i hi] at hx;exact r3.nx _ _ (lcal h1 hi) (hx.imp .inl id)
    ·rw [r3n i hi] at hx;exact r.nx _ _ (lrest h1 hi).2 hx
   ·by_cases hi:Cal id
    ·have:=(r3.ob id).keep (w':=w') (A':=aD w' X h' ρ3) (ρ':=ρ3) (h':=h') (fun b hb=>⟨hA3 b hb,rfl⟩) (fun i hb=>by
      have hC:=h3n i (fun e=>by rw [e] at hb; cases hb);rw [h3c i hC] at hb;exact ⟨hb,r3c i hC none⟩) (fun s=>r3c id hi s) (fun _ _=>rfl)
     rwa [h3c id hi] at this
    ·by_cases hd:h' id=.dead
     ·rw [hd]; trivial
     ·obtain ⟨q1,q2⟩:=rest id hi hd;have:=(r.ob id).keep (w':=w') (A':=aD w' X h' ρ3) (ρ':=ρ3) (h':=h') hAc bfB (fun s=>r3n id hi s) (fun s hl'=>far.old _ (Cj r ⟨id,s,hl',rfl⟩) (xin q1 hl'));rwa [← q2] at this
  have evo:Evo w ρ hc w' ρ3 h' ((if kp then [] else ids.map (·,true))++gv):=by
   refine ⟨far.os,far.tape,far.output,far.size,fun b hb ho=>far.old b hb (noE ho),fun id sub hp hk=>?_,fun b ho=>?_,bfB,fun id hp hd=>?_⟩
   ·rw [Au,Bool.or_eq_false_iff] at hk;have h2:∀ p ∈ gv,p.1 ≠ id:=fun p hp' e=>by
     have hk2:=hk.2;simp only [fR,List.any_eq_false,Bool.and_eq_true,beq_iff_eq,Bool.or_eq_true,Bool.not_eq_true',not_and] at hk2;exact hk2 p hp' e (.inl (gvflag p hp'))
    have hnd':hc id ≠ .dead:=by
     cases sub with
     | none=>exact hp
     | some p=>obtain ⟨_,_,_,e,_⟩:=hp; rw [e]; simp
    have h1:¬ (n≤id∧id < n+cG res):=fun hh=>hnd' (gdead id hh.1 hh.2);by_cases hi:id ∈ ids
    ·cases sub with
     | none=>exact ⟨(stayI id hi h2).1,(stayI id hi h2).2.1⟩
     | some p =>
      cases kp with
      | false =>
       have hk1:=hk.1;simp only [Bool.false_eq_true,if_false,fR,List.any_map,List.any_eq_false,Function.comp,Bool.and_eq_true,beq_iff_eq] at hk1;exact absurd ⟨rfl,rfl⟩ (hk1 id hi)
      | true =>
       have hpe:bD (aj (ids.map fun a=>cZ (bo ids) (hc a))) (bo ids id) (some p):=by
        obtain ⟨cs,k,rows,e1,e2⟩:=hp;have:=(em.back id (by simpa using hi)).2;rw [e1] at this;refine ⟨cs.map (dM (bo ids)),k,rows,this,?_⟩;rw [List.getElem?_map,e2];rfl
       obtain ⟨q1,q2⟩:=far.keep rfl (bo ids id) p (pas id hi) (stayI id hi h2).2.2 hpe;refine ⟨?_,?_⟩
       ·obtain ⟨cs,k,rows,e1,e2⟩:=q1;refine ⟨cs.map (dM (cS ids)),k,rows,?_,?_⟩
        ·rw [h_ids id hi h2,e1]; rfl
        ·rw [List.getElem?_map,e2]; rfl
       ·rw [r3c id (.inl ⟨hi,h2⟩),nmi id hi,q2,uw hl hi]
    ·have hC:¬ Cal id:=fun hC=>by rcases hC with hC | hC; exact hi hC.1; exact h1 hC
     exact ⟨(dJ (h_out id hi h1 h2)).2 hp,r3n id hC sub⟩
   ·rcases ownc ho with ho | ⟨i,s,h1,h2,rfl⟩
    ·rcases fr3 (own3 ho) with ho | ho
     ·obtain ⟨id,sub,_,q2,q3⟩:=Cm hl hnd hcl ho;exact .inl ⟨id,sub,q2,q3⟩
     ·exact .inr ho
    ·exact .inl ⟨i,s,h2,rfl⟩
   ·simp only [aR,decide_eq_true_eq] at hp;by_cases hi:id ∈ ids
    ·refine ⟨hdead id hi,?_⟩;by_cases hg:∀ p ∈ gv,p.1 ≠ id
     ·exact (stayI id hi hg).2.1
     ·exfalso;refine hd (h_gv id (by omega) ?_);have:=Classical.not_forall.1 hg;obtain ⟨p,hp'⟩:=this;obtain ⟨hp1,hp2⟩:=Classical.not_imp.1 hp';exact ⟨p,hp1,Classical.not_not.1 hp2⟩
    ·have hC:¬ Cal id:=fun hC=>by rcases hC with hC | hC; exact hi hC.1; omega
     obtain ⟨_,q2⟩:=rest id hC hd;exact ⟨q2 ▸ hd,r3n id hC none⟩
  refine ⟨ρ3,_,rfl,rel,evo,?_⟩;have toV:∀ {c:AV} {u:Value},RV w' (aD w' (EH X hc ρ ids) hm ρ') ρ' hm c u→aV L3 c=true→RV w' (aD w' X h' ρ3) ρ3 h' (dM (cS ids) c) u:=fun {c u} hv hcl'=>by
   have h1:=hv.embA (A2:=aD w' (EH X hc ρ ids) h3 (fun i s=>ρ' (nm i) s)) em3 (fun b hb=>⟨hb.1,hb.2.1,fun ho=>hb.2.2 (own3 ho)⟩) hcl';exact h1.keep (fun b hb=>⟨hA3 b hb,rfl⟩) fun i s hp=>by
    have hC:=h3n i (by
     cases s with
     | none=>exact hp
     | some p=>obtain ⟨_,_,_,e,_⟩:=hp; rw [e]; simp)
    exact ⟨(dJ (h3c i hC)).1 hp,r3c i hC s⟩
  have zc:=zcl l3a l3b;cases zr with
  | tup vs =>
   cases hv with
   | dat hd=>cases hd
   | tup _ us hs hr =>
    refine .tup _ us (by simpa using hs) fun i c u hc' hu=>?_;simp only [List.getElem?_map,Option.map_eq_some_iff] at hc';obtain ⟨c0,h1,rfl⟩:=hc';exact toV (hr i c0 u h1 hu) (zc c0 (List.mem_of_getElem? h1))
  | _=>exact toV hv zc
 grind
end
theorem GB:∀ {l:List AV} {ms:List Nat},∀ p ∈ ru ms l,p.2=false
 | [],ms,p,hp=>by grind [ru]
 | a::l,ms,p,hp=>by
  simp only [ru,List.mem_append] at hp;rcases hp with hp | hp
  ·split at hp
   ·simp only [List.mem_map] at hp;obtain ⟨i,_,rfl⟩:=hp;rfl
   ·simp at hp
  ·exact GB p hp
section
variable {P:Program} {I:Inv} {call:dP} {md:Mode}
def Sx (P:Program) (I:Inv) (call:dP) (md:Mode):Prop :=
 ∀ {w:World} {X:Nat→Prop} {ρ:bq} {h h':ac} {d:Nat} {f z:AV} {zas:List AV} {ks:K} {uf:Value} {us:Array Value},d < 1000→I.p w X→Rel w X ρ h→RV w (aD w X h ρ) ρ h f uf→us.size=zas.length →
  (∀ (i:Nat) (c:AV) (u:Value),zas[i]?=some c→us[i]?=some u→RV w (aD w X h ρ) ρ h c u)→dU call md h d zas f=some (z,h',ks) →
  ∃ g first cap,uf=.func (.func g) first cap∧Enters P g (first++us++cap) w fun v w'=>Got w X ρ h w' h' ks z v
theorem PB (hf:∀ f,kT P I (md.keep f) f (call f)):Sx P I call md:=by
 intro w X ρ h h' d f z zas ks uf us hd hi r hvf hus hva hz;cases f <;> simp only [dU] at hz <;> try (cases hz; done)
 rename_i fid a b;obtain ⟨first,cap,rfl,s1,s2,va,vb⟩:=hvf.fn_inv;refine ⟨fid,first,cap,rfl,?_⟩;simp only [Option.bind_eq_some_iff] at hz;obtain ⟨⟨zs,hc,ks0⟩,e1,e2⟩:=hz;obtain ⟨r1,ev1,fl1,ln1,vv⟩:=Ci (h0:=h) (a++zas++b) (md.m fid) (first++us++cap).toList r .refl (by grind) (fun i c u h1 h2=>by
  grind) e1
 have hnd:(cf hc 40 (bJ [] (zs.flatMap bT)) 0).Nodup:=Ey (wK List.nodup_nil);generalize cf hc 40 (bJ [] (zs.flatMap bT)) 0=ids at *
 unfold kR at e2;split at e2
 ·rename_i hck;simp only [Bool.and_eq_true,List.all_eq_true,Bool.not_eq_true'] at hck;obtain ⟨k1,k2⟩:=hck;simp only [Option.bind_eq_some_iff] at e2;obtain ⟨⟨res,os⟩,e3,e4⟩:=e2;have hl:ids.length≤1000:=by
   grind [fF]
  have hcl:∀ a ∈ ids,aM ids (hc a)=true:=fun a ha=>(k2 a ha).1;have hdead:∀ a ∈ ids,hc a ≠ .dead:=fun a ha e=>by
   have:=(k2 a ha).2;rw [e] at this;cases this
  have em:=Emb.enter (h:=hc) hl hnd hcl;obtain ⟨rE,hA⟩:=Ur r1 hl hnd hcl;have hi1:I.p w (EH X hc ρ ids):=I.more hi fun b hb=>.inl hb;refine (hf fid e3 (n:=2000+8*d) (by omega) hi1 rE (by grind [List.length_map,rH]) fun i c u hc' hu=>?_).mono fun v w' ⟨ρ',q1,q2,q3⟩=>?_
  ·simp only [List.getElem?_map,Option.map_eq_some_iff] at hc';obtain ⟨c0,h1,rfl⟩:=hc';obtain ⟨c1,h2,h3⟩:=qX _ _ _ _ h1;obtain ⟨h4,wy,hv⟩:=vv i c1 u h2 (by grind);have hv':RV w (aD w X h4 ρ) ρ h4 c0 u:=by
    rcases h3 with rfl | ⟨ss,rfl⟩
    ·omega
    ·exact hv.nrmV ss
   have hcc:=k1 c0 (List.mem_of_getElem? h1);exact (Up wy hv' hcc).embA em hA hcc
  ·obtain ⟨ρ3,k3,rfl,g1,g2,g3⟩:=Sw r1 hnd hcl hdead GB e4 q1 q2 q3;exact ⟨ρ3,g1,ev1.trans g2,g3⟩
 grind
theorem Cn {w:World} {X:Nat→Prop} {ρ:bq} {h:ac} {b:Nat} (hb:aD w X h ρ b):aD w X (aj []) ρ b:=⟨hb.1,hb.2.1,fun ⟨id,sub,hl,_⟩=>by
 have hd:aj [] id=.dead:=by grind [aj]
 cases sub with
 | none=>grind [live]
 | some p=>grind [live]⟩
theorem Qf {w:World} {X:Nat→Prop} {ρ:bq} {h:ac} (r:Rel w X ρ h) {id:Nat} {sub:Option Nat} (hl:live h id sub):aD w X (aj []) ρ (ρ id sub).1 :=
 ⟨Cj r ⟨id,sub,hl,rfl⟩,fun hx=>r.nx id sub hl (.inl hx),fun ⟨id',sub',hl',_⟩=>by
  have hd:aj [] id'=.dead:=by grind [aj]
  cases sub' with
  | none=>grind [live]
  | some p=>grind [live]⟩
theorem Sy {w:World} {X:Nat→Prop} {ρ:bq} {h:ac} (r:Rel w X ρ h) {a c:AV} {u:Value} (hv:RV w (aD w X h ρ) ρ h a u) (hz:Wp h a=some c):RV w (aD w X (aj []) ρ) ρ (aj []) c u:=by
 have dd:∀ {a:AV},RD w (aD w X h ρ) a u→RV w (aD w X (aj []) ρ) ρ (aj []) a u:=fun hd=>.dat (hd.mono fun b hb=>⟨Cn hb,rfl⟩);cases a <;> simp only [Wp] at hz <;> try (cases hz; done)
 case v x=>cases hz; exact .dat (by obtain ⟨rfl,hp⟩:=hv.v_inv; exact .v _ hp)
 case emp=>cases hz; obtain ⟨a,rfl⟩:=hv.emp_inv; exact .dat (.emp a)
 case sl k rows=>cases hz; exact dd hv.sl_inv
 case rsl id sub k lo n =>
  simp only [Option.map_eq_some_iff] at hz;obtain ⟨rs,h1,rfl⟩:=hz;obtain ⟨a,cap,rfl,hp,hn,hb,ha⟩:=hv.rsl_inv;cases sub with
  | none =>
   simp only [uk] at h1;have ho:=r.ob id;cases eo:h id with
   | dead=>grind [uj,gj]
   | bx cs=>grind [uj,gj]
   | ar k' rows =>
    rw [eo] at h1 ho;simp only [uj,gj] at h1;split at h1
    ·rename_i hc;obtain ⟨rfl,hle⟩:=hc;cases h1;obtain ⟨us,t0,g1,g2,g3,g4⟩:=ho;exact .dat (j1 g1 (Qf r (by grind [live])) (g4.mono fun b hb=>⟨Cn hb,rfl⟩) hle hn ha)
    grind
   | fz k' rows =>
    rw [eo] at h1 ho;simp only [uj,gj] at h1;split at h1
    ·rename_i hc;obtain ⟨rfl,hle⟩:=hc;cases h1;obtain ⟨ga,us,t0,fr,g1,g2,g3,g4⟩:=ho;exact .dat (j1 g1 (Cn ga) (g4.mono fun b hb=>⟨Cn hb,rfl⟩) hle hn ha)
    grind
  | some p =>
   simp only [uk] at h1;cases eo:h id with
   | bx cs =>
    rw [eo] at h1;simp only [jc] at h1;cases ec:cs[p]? with
    | none=>grind [sP,gj]
    | some c =>
     rw [ec] at h1;cases c <;> simp [sP,gj] at h1;rename_i k' rows;obtain ⟨⟨rfl,hle⟩,rfl⟩:=h1;obtain ⟨us,t0,g1,g2,g3,g4⟩:=r.cell eo;obtain ⟨u,f1,a',cap',us1,t1,q1,q2,q3,q4,q5,q6,q7⟩:=g4 p _ ec;exact .dat (j1 q4 (Qf r ⟨cs,_,rows,eo,ec⟩) (q7.mono fun b hb=>⟨Cn hb,rfl⟩) hle hn ha)
   | dead=>grind [jc,gj]
   | ar k' rows=>grind [jc,gj]
   | fz k' rows=>grind [jc,gj]
 case fn f x y =>
  cases x with
  | cons a l=>grind
  | nil =>
   cases y with
   | cons a l=>grind
   | nil =>
    simp only [Option.some.injEq] at hz;subst hz;obtain ⟨us,ts,rfl,s1,s2,_,_⟩:=hv.fn_inv;exact .fn f [] [] us ts s1 s2 (fun i c u hc=>by grind) (fun i c u hc=>by grind)
theorem GC {w:World} {X:Nat→Prop} {ρ:bq} {h:ac} (r:Rel w X ρ h):∀ (l:List AV) (vals:List Value) {cs:List AV},vals.length=l.length→(∀ (i:Nat) (c:AV) (u:Value),l[i]?=some c→vals[i]?=some u→RV w (aD w X h ρ) ρ h c u)→LW h l=some cs →
  cs.length=l.length∧∀ (i:Nat) (c:AV) (u:Value),cs[i]?=some c→vals[i]?=some u→RV w (aD w X (aj []) ρ) ρ (aj []) c u
 | [],vals,cs,hl,hv,hz=>by
  grind [LW,Option.some.injEq]
 | a::l,[],cs,hl,hv,hz=>by grind
 | a::l,v::vals,cs,hl,hv,hz=>by
  simp only [LW,Option.bind_eq_some_iff] at hz;obtain ⟨b,e1,q,e2,e3⟩:=hz;cases e3;obtain ⟨g1,g2⟩:=GC r l vals (by grind) (fun i c u hc hu=>hv (i+1) c u (by grind) (by grind)) e2;refine ⟨by grind,fun i c u hc hu=>?_⟩;cases i with
  | zero=>simp at hc hu; subst hc hu; exact Sy r (hv 0 a v rfl rfl) e1
  | succ i=>grind
theorem Sz {kp:Bool} {w w':World} {X:Nat→Prop} {ρ ρ':bq} {h:ac} (r:Rel w X ρ h) (far:Far kp w ρ (aj []) w' ρ' (aj [])):Rel w' X ρ h∧Evo w ρ h w' ρ h []:=by
 have no:∀ b,¬ mD (aj []) ρ b:=fun b ⟨id',sub',hl',_⟩=>by
  have hd:aj [] id'=.dead:=by grind [aj]
  cases sub' with
  | none=>grind [live]
  | some p=>grind [live]
 have e:Evo w ρ h w' ρ h []:=⟨far.os,far.tape,far.output,far.size,fun b hb _=>far.old b hb (no b),fun _ _ hp _=>⟨hp,rfl⟩,fun _ ho=>.inl ho,fun _ hb=>⟨hb,rfl⟩,fun _ _ hd=>⟨hd,rfl⟩⟩;exact ⟨r.step e (fun _=>False) (fun _ _=>⟨rfl,fun _=>rfl,fun sub hl=>far.old _ (Cj r ⟨_,sub,hl,rfl⟩) (no _)⟩) r.inj r.nx (fun _ hf=>hf.elim),e⟩
theorem SA {c:AV} (hp:rx c=true) (n:Nat) (h:ac):da n h c=(c,h):=by
 cases c <;> simp [rx] at hp;rfl
theorem GD:∀ {vs:List AV} (n:Nat) (h:ac),vs.all rx=true→bQ n h vs=(vs,h)
 | [],n,h,_=>rfl
 | a::l,n,h,hp=>by
  simp only [List.all_cons,Bool.and_eq_true] at hp;simp only [bQ,SA hp.1,GD (n+1) h hp.2]
theorem Us {c:AV} (hp:BT c=true) (n:Nat) (h:ac):mat n h c=(c,h):=by
 cases c <;> simp only [BT] at hp <;> try (simp [rx] at hp; done)
 case v x=>rfl
 grind [mat,GD]
theorem Kf {w w':World} {A A':Nat→Prop} {ρ ρ':bq} {h h':ac} {c:AV} {u:Value} (hp:rx c=true) (hv:RV w A ρ h c u):RV w' A' ρ' h' c u:=by
 cases c <;> simp [rx] at hp;obtain ⟨rfl,hp⟩:=hv.v_inv;exact .dat (.v _ hp)
theorem WJ {w w':World} {A A':Nat→Prop} {ρ ρ':bq} {h h':ac} {c:AV} {u:Value} (hp:BT c=true) (hv:RV w A ρ h c u):RV w' A' ρ' h' c u:=by
 cases c <;> simp only [BT] at hp <;> try (simp [rx] at hp; done)
 case v x=>grind [Kf]
 case tup vs =>
  cases hv with
  | dat hd=>cases hd
  | tup _ us hs hr=>exact .tup vs us hs fun i c u hc hu=>Kf (List.all_eq_true.1 hp c (List.mem_of_getElem? hc)) (hr i c u hc hu)
theorem SB (hf:∀ f,kT P I (md.keep f) f (call f)):iZ P I call md:=by
 intro w X ρ h h' d f z zas ks uf us hd hi r hvf hus hva hz;unfold bE at hz;split at hz
 ·cases f <;> simp only [Ls] at hz <;> try (cases hz; done)
  rename_i fid a b _;obtain ⟨first,cap,rfl,s1,s2,va,vb⟩:=hvf.fn_inv;refine ⟨fid,first,cap,rfl,?_⟩;simp only [Option.bind_eq_some_iff] at hz;obtain ⟨cs,e1,⟨res,os⟩,e2,e3⟩:=hz;obtain ⟨l1,l2⟩:=GC r (a++zas++b) (first++us++cap).toList (by grind) (fun i c u h1 h2=>by
   grind) e1
  cases os with
  | cons o os=>grind [Wq]
  | nil =>
   simp only [Wq] at e3;split at e3
   ·rename_i hp;cases e3;have rE:Rel w X ρ (aj []):=by
     have hd:∀ id,aj [] id=.dead:=fun id=>by grind [aj]
     have no:∀ id sub,¬ live (aj []) id sub:=fun id sub hl=>by
      cases sub with
      | none=>grind [live]
      | some p=>grind [live]
     exact ⟨fun id sub _ _ h=>(no id sub h).elim,fun id sub h=>(no id sub h).elim,fun id=>by rw [hd]; trivial,r.xl⟩
    refine (hf fid e2 (n:=2000) (Nat.le_refl _) hi rE (by grind [rH]) fun i c u hc' hu=>?_).mono fun v w' ⟨ρ',q1,q2,q3⟩=>?_
    ·obtain ⟨c1,h2,h3⟩:=qX _ _ _ _ hc';have hv:=l2 i c1 u h2 (by grind);rcases h3 with rfl | ⟨ss,rfl⟩
     ·omega
     ·exact hv.nrmV ss
    ·rw [Us hp] at q1 q2 q3;obtain ⟨g1,g2⟩:=Sz r q2;exact ⟨ρ,g1,g2,WJ hp q3⟩
   grind
 ·exact PB hf hd hi r hvf hus hva hz
end
section
variable {P:Program} {I:Inv} {call:dP} {md:Mode}
structure EnvOK (P:Program) (I:Inv) (e:Env):Prop where
 mixed:P.follows .mixedOrders=true
 ext:∀ f g,e.E f=some g→kT P I (e.md.keep f) f g
 text:∀ f fd,e.E f=none→e.C f=some fd→Text P f fd
theorem SC (kp:Bool) (f:FuncId):kT P I kp f (fun _ _=>none):=by
 intro args obs obs' res w X ρ vals n hz;grind
theorem Ut {e:Env} (he:EnvOK P I e):∀ (n:Nat) (f:FuncId),kT P I (e.md.keep f) f (it e n f)
 | 0,f=>SC _ f
 | n+1,f=>by
  cases hE:e.E f with
  | some g =>
   have:it e (n+1) f=g:=by grind [it]
   rw [this];exact he.ext f g hE
  | none =>
   cases hC:e.C f with
   | none =>
    have:it e (n+1) f=fun _ _=>none:=by grind [it]
    grind
   | some fd =>
    have:it e (n+1) f=BX (it e n) { e.md with nm:=e.md.keep f } n fd:=by grind [it]
    rw [this];exact Y9 (md:={ e.md with nm:=e.md.keep f }) he.mixed (SB (md:={ e.md with nm:=e.md.keep f }) fun g=>Ut he n g) (he.text f fd hE hC)
end
def Ev (p:Nat→Prop):Prop:=∃ n,∀ k,n≤k→p k
theorem Ev.and {p q:Nat→Prop} (a:Ev p) (b:Ev q):Ev fun k=>p k∧q k:=by
 obtain ⟨n,hn⟩:=a;obtain ⟨m,hm⟩:=b;exact ⟨max n m,fun k hk=>⟨hn k (by omega),hm k (by omega)⟩⟩
theorem Ev.mono {p q:Nat→Prop} (a:Ev p) (h:∀ k,p k→q k):Ev q:=by
 obtain ⟨n,hn⟩:=a;exact ⟨n,fun k hk=>h k (hn k hk)⟩
theorem Ev.all {p:Nat→Prop} (h:∀ k,p k):Ev p:=⟨0,fun k _=>h k⟩
open Classical in
noncomputable def x5 {α:Type} (f:Nat→Option α):Option α:=if h:∃ a,Ev fun k=>f k=some a then some (Classical.choose h) else none
theorem kD {α:Type} {f:Nat→Option α} {a:α}:x5 f=some a↔Ev fun k=>f k=some a:=by
 unfold x5;constructor
 ·intro h;split at h
  all_goals grind
 ·intro h;have hh:∃ a,Ev fun k=>f k=some a:=⟨a,h⟩;obtain ⟨n,hn⟩:=Classical.choose_spec hh;obtain ⟨m,hm⟩:=h;have h1:=hn (max n m) (by omega);grind
theorem Zb {α:Type} {f g:Nat→Option α} (h:∀ a,x5 f=some a↔x5 g=some a):x5 f=x5 g:=by
 cases hf:x5 f with
 | none =>
  cases hg:x5 g with
  | none=>rfl
  | some a=>grind
 | some a=>grind
theorem uz {α:Type} (a:Option α):x5 (fun _=>a)=a:=by
 cases a with
 | none =>
  cases h:x5 (fun _:Nat=>(none:Option α)) with
  | none=>rfl
  | some a =>
   obtain ⟨n,hn⟩:=kD.1 h;exact absurd (hn n (Nat.le_refl _)) (by simp)
 | some a=>exact kD.2 (Ev.all fun _=>rfl)
theorem MG {α:Type} (f:Nat→Option α):x5 (fun n=>f (n+1))=x5 f:=Zb fun a=>by
 rw [kD,kD];constructor
 ·rintro ⟨n,hn⟩
  refine ⟨n+1,fun k hk=>?_⟩;have:f (k - 1+1)=some a:=hn (k - 1) (by omega);grind
 ·rintro ⟨n,hn⟩
  exact ⟨n,fun k hk=>hn (k+1) (by omega)⟩
noncomputable def aq (body:ae→ac→Option (Ex × St)) (ks hs:List Nat) (s:ae) (h:ac):Option (Ex × St):=x5 fun n=>ng body ks hs n s h
def Lz (g:ae→ac→Option (Ex × St)):Option (Ex × St)→Option (Ex × St)
 | some (.normal,t)=>g t.s t.h
 | r=>r
theorem ai (body:ae→ac→Option (Ex × St)) (ks hs:List Nat) (s:ae) (h:ac) :
  aq body ks hs s h=if (hs.all fun a=>aM hs (h a))=true then Lz (aq body ks hs) (body (mk .any (fun i=>aaL hs (s i)) ks) (mk .dead h hs)) else none:=by
 unfold aq;rw [← MG];simp only [ng];split
 ·cases hb:body (mk .any (fun i=>aaL hs (s i)) ks) (mk .dead h hs) with
  | none=>exact uz _
  | some r =>
   obtain ⟨e,t⟩:=r;cases e with
   | normal=>rfl
   | exit id=>exact uz _
   | ret=>exact uz _
 ·exact uz _
noncomputable def ak (call:dP) (md:Mode):Cmd→ae→ac→Option (Ex × St)
 | .skip,s,h=>some (.normal,⟨s,h⟩)
 | .ops ks l,s,h=>aT (aC call md l s h) fun s h=>some (.normal,⟨mk .any s ks,h⟩)
 | .dops ks l ps,s,h=>aT (lU call md l ps s h) fun s h=>some (.normal,⟨mk .any s ks,h⟩)
 | .seq a b,s,h=>cj (ak call md a s h) (ak call md b)
 | .cond c a b,s,h=>lV (ak call md a s h) (ak call md b s h) (ev s c)
 | .block id ks a,s,h=>ap id ks (ak call md a s h)
 | .loop ks hs a,s,h=>aq (ak call md a) ks hs s h
 | .exit id,s,h=>some (.exit id,⟨s,h⟩)
 | .ret,s,h=>some (.ret,⟨s,h⟩)
 | .frz is a,s,h=>aT (sQ md.nm is s h) (ak call md a)
noncomputable def dO (e:Env):dP:=fun f args hs=>x5 fun n=>it e n f args hs
noncomputable def MH (call:dP) (md:Mode) (fd:FD) (args:List AV) (hs:List Ob):Option (AV × List Ob) :=
 if args.length=fd.np∧hs.length≤1000 then gx md.nm fd.rs fd.res hs.length (ak call md fd.body (n8 args) (aj hs)) else none
section
variable {e:Env} {md:Mode}
theorem Uu {h:ac} {d:Nat} {zas:List AV} {f:AV} {r:R3} (hz:dU (dO e) md h d zas f=some r):Ev fun k=>dU (it e k) md h d zas f=some r:=by
 cases f <;> simp only [dU] at hz ⊢ <;> try (cases hz; done)
 simp only [Option.bind_eq_some_iff] at hz ⊢;obtain ⟨p,e1,e2⟩:=hz;unfold kR at e2 ⊢;split at e2
 ·simp only [Option.bind_eq_some_iff] at e2;obtain ⟨q,e3,e4⟩:=e2;refine (kD.1 e3).mono fun k hk=>⟨p,e1,?_⟩;grind
 grind
theorem MI {h:ac} {d:Nat} {zas:List AV} {f:AV} {r:R3} (hz:bE (dO e) md h d zas f=some r):Ev fun k=>bE (it e k) md h d zas f=some r:=by
 unfold bE at hz ⊢;by_cases hb:pL md zas f=true
 ·rw [if_pos hb] at hz;simp only [if_pos hb];cases f <;> simp only [Ls] at hz ⊢ <;> try (cases hz; done)
  simp only [Option.bind_eq_some_iff] at hz ⊢;obtain ⟨p,e1,q,e3,e4⟩:=hz;exact (kD.1 e3).mono fun k hk=>⟨p,e1,q,hk,e4⟩
 simp_all [if_neg,Uu]
theorem Qg {d:Nat} {op:AOp} {s:ae} {h:ac} {r:R3} (hz:step (dO e) md d op s h=some r):Ev fun k=>step (it e k) md d op s h=some r:=by
 cases op with
 | call f zas=>exact MI hz
 | callC f zas =>
  simp only [step,Option.bind_eq_some_iff] at hz ⊢;obtain ⟨q,e1,e2⟩:=hz;exact (MI e1).mono fun k hk=>⟨q,hk,e2⟩
 | _=>exact Ev.all fun k=>hz
theorem Qh {d:Option Nat} {op:AOp} {s:ae} {h:ac} {t:St} (hz:cA md.nm s d (step (dO e) md (d.getD 0) op s h)=some t):Ev fun k=>cA md.nm s d (step (it e k) md (d.getD 0) op s h)=some t:=by
 cases hs:step (dO e) md (d.getD 0) op s h with
 | none=>rw [hs] at hz; cases hz
 | some r =>
  exact (Qg hs).mono fun k hk=>by grind
theorem WK {o:COp} {s:ae} {h:ac} {t:St} (hz:iQ (dO e) md o s h=some t):Ev fun k=>iQ (it e k) md o s h=some t:=by
 unfold iQ at hz ⊢;cases hg:o.g with
 | none=>grind [Qh]
 | some g =>
  rw [hg] at hz;simp only at hz ⊢;unfold ik at hz ⊢;split at hz
  ·split at hz
   all_goals simp_all [if_pos,Qh,if_neg,Ev.all]
  all_goals grind [Ev.all]
theorem AD:∀ {l:List COp} {s:ae} {h:ac} {t:St},aC (dO e) md l s h=some t→Ev fun k=>aC (it e k) md l s h=some t
 | [],s,h,t,hz=>Ev.all fun k=>hz
 | o::l,s,h,t,hz=>by
  simp only [aC,aT] at hz;split at hz
  ·grind
  ·rename_i t1 ht1;refine ((WK ht1).and (AD hz)).mono fun k hk=>?_;grind [aC,aT]
theorem MJ {d:Option Nat} {op:AOp} {s:ae} {h:ac} {f:ac→Fp} {t:St × Fp} (hz:jI s d f (step (dO e) md (d.getD 0) op s h)=some t):Ev fun k=>jI s d f (step (it e k) md (d.getD 0) op s h)=some t:=by
 cases hs:step (dO e) md (d.getD 0) op s h with
 | none=>rw [hs] at hz; cases hz
 | some r =>
  exact (Qg hs).mono fun k hk=>by grind
theorem WL {o:COp} {s:ae} {h:ac} {t:St × Fp} (hz:cU (dO e) md o s h=some t):Ev fun k=>cU (it e k) md o s h=some t:=by
 unfold cU at hz ⊢;cases hg:o.g with
 | none=>grind [MJ]
 | some g =>
  rw [hg] at hz;simp only at hz ⊢;unfold lT at hz ⊢;split at hz
  ·split at hz
   all_goals simp_all [if_pos,MJ,if_neg,Ev.all]
  all_goals grind [Ev.all]
theorem Ii:∀ {l:List COp} {s:ae} {h:ac} {t:St × List Fp},fg (dO e) md l s h=some t→Ev fun k=>fg (it e k) md l s h=some t
 | [],s,h,t,hz=>Ev.all fun k=>hz
 | o::l,s,h,t,hz=>by
  simp only [fg,Option.bind_eq_some_iff] at hz;obtain ⟨r,e1,q,e2,e3⟩:=hz;refine ((WL e1).and (Ii e2)).mono fun k hk=>?_;simp only [fg,hk.1,hk.2,Option.bind_some,e3]
theorem WM {l:List COp} {ps:List (Nat × Nat)} {s:ae} {h:ac} {t:St} (hz:lU (dO e) md l ps s h=some t):Ev fun k=>lU (it e k) md l ps s h=some t:=by
 unfold lU at hz ⊢;cases hb:tW ps with
 | none =>
  rw [hb] at hz;simp only [uo,Option.bind_eq_some_iff] at hz;obtain ⟨q,e1,e2⟩:=hz;exact (Ii e1).mono fun k hk=>by simp only [uo,hk,Option.bind_some,e2]
 | some b =>
  rw [hb] at hz;simp only [Ao,Option.bind_eq_some_iff] at hz;obtain ⟨q,e1,e2⟩:=hz;split at e2
  ·simp only [aT] at e2;split at e2
   ·grind
   ·exact ((Ii e1).and (AD e2)).mono fun k hk=>by simp_all [Ao,Option.bind_some,if_pos,aT]
  grind
theorem Qi {c:Cmd} {ks hs:List Nat} (ih:∀ {s:ae} {h:ac} {r:Ex × St},ak (dO e) md c s h=some r→Ev fun k=>bF (it e k) md k c s h=some r) :
  ∀ (m:Nat) {s:ae} {h:ac} {r:Ex × St},ng (ak (dO e) md c) ks hs m s h=some r→∃ n,∀ k,n≤k→∀ j,n≤j→ng (bF (it e k) md k c) ks hs j s h=some r
 | 0,s,h,r,hz=>by grind [ng]
 | m+1,s,h,r,hz=>by
  simp only [ng] at hz;split at hz
  ·rename_i hc;cases hb:ak (dO e) md c (mk .any (fun i=>aaL hs (s i)) ks) (mk .dead h hs) with
   | none=>grind
   | some q =>
    rw [hb] at hz;obtain ⟨n1,h1⟩:=ih hb;obtain ⟨ex,t⟩:=q;cases ex with
    | normal =>
     obtain ⟨n2,h2⟩:=Qi ih m hz;refine ⟨max n1 n2+1,fun k hk j hj=>?_⟩;obtain ⟨j,rfl⟩:∃ j',j=j'+1:=⟨j - 1,by omega⟩;simp only [ng,if_pos hc,h1 k (by omega)];grind
    | exit id =>
     refine ⟨n1+1,fun k hk j hj=>?_⟩;obtain ⟨j,rfl⟩:∃ j',j=j'+1:=⟨j - 1,by omega⟩;simp only [ng,if_pos hc,h1 k (by omega)];omega
    | ret =>
     refine ⟨n1+1,fun k hk j hj=>?_⟩;obtain ⟨j,rfl⟩:∃ j',j=j'+1:=⟨j - 1,by omega⟩;simp only [ng,if_pos hc,h1 k (by omega)];omega
  grind
theorem iu:∀ (c:Cmd) {s:ae} {h:ac} {r:Ex × St},ak (dO e) md c s h=some r→Ev fun k=>bF (it e k) md k c s h=some r
 | .skip,s,h,r,hz=>Ev.all fun k=>hz
 | .ops ks l,s,h,r,hz=>by
  simp only [ak,aT] at hz;split at hz
  ·grind
  ·rename_i t1 ht1;exact (AD ht1).mono fun k hk=>by grind [bF,aT]
 | .dops ks l ps,s,h,r,hz=>by
  simp only [ak,aT] at hz;split at hz
  ·grind
  ·rename_i t1 ht1;exact (WM ht1).mono fun k hk=>by grind [bF,aT]
 | .seq a b,s,h,r,hz=>by
  simp only [ak,cj] at hz;split at hz
  ·grind
  ·rename_i t1 ht1;exact ((iu a ht1).and (iu b hz)).mono fun k hk=>by grind [bF,cj]
  ·rename_i i t1 ht1;exact (iu a ht1).mono fun k hk=>by grind [bF,cj]
  ·rename_i t1 ht1;exact (iu a ht1).mono fun k hk=>by grind [bF,cj]
 | .cond c a b,s,h,r,hz=>by
  simp only [ak,lV] at hz;split at hz
  ·rename_i t ht;cases t with
   | true=>simp_all [iu,bF,lV,if_true]
   | false=>simp_all [iu,bF,lV,Bool.false_eq_true,if_false]
  grind
 | .block id ks a,s,h,r,hz=>by
  simp only [ak,ap] at hz;split at hz
  ·grind
  ·rename_i t1 ht1;exact (iu a ht1).mono fun k hk=>by grind [bF,ap]
  ·rename_i i t1 ht1;exact (iu a ht1).mono fun k hk=>by grind [bF,ap]
  ·rename_i t1 ht1;exact (iu a ht1).mono fun k hk=>by grind [bF,ap]
 | .loop ks hs a,s,h,r,hz=>by
  obtain ⟨m,hm⟩:=kD.1 hz;obtain ⟨n,hn⟩:=Qi (fun hh=>iu a hh) m (hm m (Nat.le_refl _));exact ⟨n,fun k hk=>by grind [bF]⟩
 | .exit id,s,h,r,hz=>Ev.all fun k=>hz
 | .ret,s,h,r,hz=>Ev.all fun k=>hz
 | .frz is a,s,h,r,hz=>by
  simp only [ak,aT] at hz;split at hz
  ·cases hz
  ·rename_i t1 ht1;exact (iu a hz).mono fun k hk=>by simp only [bF,aT,ht1,hk]
theorem Co {f:FuncId} {fd:FD} {args:List AV} {hs:List Ob} {r:AV × List Ob} (hE:e.E f=none) (hC:e.C f=some fd) (hz:MH (dO e) { e.md with nm:=e.md.keep f } fd args hs=some r):dO e f args hs=some r:=by
 unfold dO;rw [kD];unfold MH at hz;split at hz
 ·cases hx:ak (dO e) { e.md with nm:=e.md.keep f } fd.body (n8 args) (aj hs) with
  | none=>rw [hx] at hz; cases hz
  | some q =>
   obtain ⟨n,hn⟩:=iu fd.body hx;refine ⟨n+1,fun k hk=>?_⟩;obtain ⟨k,rfl⟩:∃ k',k=k'+1:=⟨k - 1,by omega⟩
   simp_all [it,Option.bind_some,BX,if_pos]
 grind
theorem Fg {f:FuncId} {g:List AV→List Ob→Option (AV × List Ob)} {args:List AV} {hs:List Ob} (hE:e.E f=some g):dO e f args hs=g args hs:=by
 unfold dO;rw [← MG]
 simp_all [it,funext,uz]
theorem Qj {P:Program} {I:Inv} (he:EnvOK P I e) (f:FuncId):kT P I (e.md.keep f) f (dO e f):=by
 intro args obs obs' res w X ρ vals n hz;obtain ⟨m,hm⟩:=kD.1 hz;exact Ut he m f (hm m (Nat.le_refl _))
end
section
variable {call:dP} {md:Mode} {s:ae} {h:ac}
@[go_sem] theorem ali:ak call md .skip s h=some (.normal,⟨s,h⟩):=_root_.id rfl
@[go_sem] theorem amB (ks l):ak call md (.ops ks l) s h=aT (aC call md l s h) fun s h=>some (.normal,⟨mk .any s ks,h⟩):=_root_.id rfl
@[go_sem] theorem amC (is a):ak call md (.frz is a) s h=aT (sQ md.nm is s h) (ak call md a):=_root_.id rfl
@[go_sem] theorem alj (ks l ps):ak call md (.dops ks l ps) s h=aT (lU call md l ps s h) fun s h=>some (.normal,⟨mk .any s ks,h⟩):=_root_.id rfl
@[go_sem] theorem ac9 (a b):ak call md (.seq a b) s h=cj (ak call md a s h) (ak call md b):=_root_.id rfl
@[go_sem] theorem alk (c a b):ak call md (.cond c a b) s h=lV (ak call md a s h) (ak call md b s h) (ev s c):=_root_.id rfl
@[go_sem] theorem ai1 (id ks a):ak call md (.block id ks a) s h=ap id ks (ak call md a s h):=_root_.id rfl
@[go_sem] theorem alm (ks hs a):ak call md (.loop ks hs a) s h=aq (ak call md a) ks hs s h:=_root_.id rfl
@[go_sem] theorem aln (i):ak call md (.exit i) s h=some (.exit i,⟨s,h⟩):=_root_.id rfl
@[go_sem] theorem amD:ak call md .ret s h=some (.ret,⟨s,h⟩):=_root_.id rfl
@[go_sem] theorem aaZ (s h f):cj (some (.normal,⟨s,h⟩)) f=f s h:=_root_.id rfl
@[go_sem] theorem ada (i t f):cj (some (.exit i,t)) f=some (.exit i,t):=_root_.id rfl
@[go_sem] theorem aeQ (t f):cj (some (.ret,t)) f=some (.ret,t):=_root_.id rfl
@[go_sem] theorem acK (id ks i t):ap id ks (some (.exit i,t))=if i=id then some (.normal,⟨mk .any t.s ks,t.h⟩) else some (.exit i,t):=_root_.id rfl
@[go_sem] theorem aaG (id ks t):ap id ks (some (.normal,t))=some (.normal,⟨mk .any t.s ks,t.h⟩):=_root_.id rfl
@[go_sem] theorem adb (id ks t):ap id ks (some (.ret,t))=some (.ret,t):=_root_.id rfl
@[go_sem] theorem adc (a b):lV a b (.v (.bool true))=a:=_root_.id rfl
@[go_sem] theorem acL (a b):lV a b (.v (.bool false))=b:=_root_.id rfl
@[go_sem] theorem aa0 (g t):Lz g (some (.normal,t))=g t.s t.h:=_root_.id rfl
@[go_sem] theorem ade (g i t):Lz g (some (.exit i,t))=some (.exit i,t):=_root_.id rfl
@[go_sem] theorem aeR (g t):Lz g (some (.ret,t))=some (.ret,t):=_root_.id rfl
@[go_sem] theorem adf {β:Type} (s h) (f:ae→ac→Option β):aT (some ⟨s,h⟩) f=f s h:=_root_.id rfl
@[go_sem] theorem aeS {β:Type} (c:Prop) [Decidable c] (x y:Option St) (f:ae→ac→Option β):aT (if c then x else y) f=if c then aT x f else aT y f:=by split <;> rfl
@[go_sem] theorem aeT (c:Prop) [Decidable c] (x y:Option (Ex × St)) (f:ae→ac→Option (Ex × St)):cj (if c then x else y) f=if c then cj x f else cj y f:=by split <;> rfl
@[go_sem] theorem ai2:aC call md [] s h=some ⟨s,h⟩:=_root_.id rfl
@[go_sem] theorem GE (d op rest):aC call md (⟨some d,none,.p op⟩::rest) s h=(eA s op).bind fun a=>aC call md rest (upd s d a) h:=by
 simp only [aC,iQ,step,wD];cases eA s op with
 | none=>rfl
 | some a=>simp only [Option.map_some,cA,kC,if_true]; rfl
def cm (d n:Nat):COp:=⟨some d,none,.p (.mv (.t n))⟩
def co (d:Nat) (op:POp):COp:=⟨some d,none,.p op⟩
def cg (d j:Nat) (w:Bool) (op:POp):COp:=⟨some d,some (j,w),.p op⟩
@[go_sem] theorem alo (d n rest):aC call md (cm d n::rest) s h=aC call md rest (upd s d (s n)) h:=GE d (.mv (.t n)) rest
@[go_sem] theorem alp (d op rest):aC call md (co d op::rest) s h=(eA s op).bind fun a=>aC call md rest (upd s d a) h:=GE d op rest
@[go_sem] theorem alq (d j w op rest):aC call md (cg d j w op::rest) s h=aT (ik (some d) w ((eA s op).map fun a=>⟨upd s d a,h⟩) s h (s j)) (aC call md rest):=by
 have:cA md.nm s (some d) (step call md d (.p op) s h)=(eA s op).map fun a=>⟨upd s d a,h⟩:=by
  simp only [step,wD];cases eA s op with
  | none=>rfl
  | some a=>simp only [Option.map_some,cA,kC,if_true]; rfl
 show aT (ik (some d) w (cA md.nm s (some d) (step call md d (.p op) s h)) s h (s j)) _=_;rw [this]
def b2 (d:Nat) (op:BinOp) (a b:Nat):COp:=⟨some d,none,.p (.bin op (.t a) (.t b))⟩
def fa (d k a:Nat):COp:=⟨some d,none,.p (.fadr k (.t a))⟩
def nk (d a:Nat):COp:=⟨some d,none,.p (.nilck (.t a))⟩
def ld (d k a:Nat):COp:=⟨some d,none,.load k false (.t a)⟩
def la (d k a:Nat):COp:=⟨some d,none,.load k true (.t a)⟩
def ca (d f:Nat) (zas:List Opd):COp:=⟨some d,none,.call (.c (.fn f [] [])) zas⟩
def sr (k:Nat) (x y:Opd):COp:=⟨none,none,.store k x y⟩
def al (d:Nat) (z:List AV):COp:=⟨some d,none,.alloc z⟩
def bx (d k:Nat) (x:Opd):COp:=⟨some d,none,.box k x⟩
@[go_sem] theorem alr (d op a b rest):aC call md (b2 d op a b::rest) s h=(cK op (s a) (s b)).bind fun a=>aC call md rest (upd s d a) h:=GE d (.bin op (.t a) (.t b)) rest
@[go_sem] theorem als (d k a rest):aC call md (fa d k a::rest) s h=(tQ k (s a)).bind fun a=>aC call md rest (upd s d a) h:=GE d (.fadr k (.t a)) rest
@[go_sem] theorem alt (d a rest):aC call md (nk d a::rest) s h=(BQ (s a)).bind fun a=>aC call md rest (upd s d a) h:=GE d (.nilck (.t a)) rest
@[go_sem] theorem alu (d k a rest):aC call md (ld d k a::rest) s h=aT (cA md.nm s (some d) (fJ h k false (s a))) (aC call md rest):=_root_.id rfl
@[go_sem] theorem alv (d k a rest):aC call md (la d k a::rest) s h=aT (cA md.nm s (some d) (fJ h k true (s a))) (aC call md rest):=_root_.id rfl
@[go_sem] theorem alx (d f zas rest):aC call md (ca d f zas::rest) s h=aT (cA md.nm s (some d) (bE call md h d (zas.map (ev s)) (.fn f [] []))) (aC call md rest):=_root_.id rfl
@[go_sem] theorem aly (k x y rest):aC call md (sr k x y::rest) s h=aT (cA md.nm s none (iF h k (ev s x) (ev s y))) (aC call md rest):=_root_.id rfl
@[go_sem] theorem alz (d z rest):aC call md (al d z::rest) s h=aT (cA md.nm s (some d) (jj h d z [])) (aC call md rest):=_root_.id rfl
@[go_sem] theorem alA (d k x rest):aC call md (bx d k x::rest) s h=aT (cA md.nm s (some d) (wC h d k (ev s x))) (aC call md rest):=_root_.id rfl
@[go_sem] theorem amE (d j w op rest):aC call md (⟨d,some (j,w),op⟩::rest) s h=aT (ik d w (cA md.nm s d (step call md (d.getD 0) op s h)) s h (s j)) (aC call md rest):=_root_.id rfl
@[go_sem] theorem aeU (d z rest):aC call md (⟨some d,none,.alloc z⟩::rest) s h=aT (cA md.nm s (some d) (jj h d z [])) (aC call md rest):=_root_.id rfl
@[go_sem] theorem ai3 (d k x rest):aC call md (⟨some d,none,.box k x⟩::rest) s h=aT (cA md.nm s (some d) (wC h d k (ev s x))) (aC call md rest):=_root_.id rfl
@[go_sem] theorem acM (d k z n ps rest):aC call md (⟨some d,none,.buildSl k z n ps⟩::rest) s h=aT (cA md.nm s (some d) ((eF k h (List.replicate n z) (ps.map fun p=>(p.1,ev s p.2))).bind fun q=>cY q.2.1 d k q.1 n q.2.2)) (aC call md rest):=_root_.id rfl
@[go_sem] theorem ags (d k z b l c rest):aC call md (⟨some d,none,.mkSl k z b l c⟩::rest) s h=aT (cA md.nm s (some d) ((oW (ev s l) (ev s c)).bind fun p=>if p.2*b≤140737488355328 then cY h d k (List.replicate p.1 z) p.1 [] else none)) (aC call md rest):=_root_.id rfl
@[go_sem] theorem agt (d k g x rest):aC call md (⟨some d,none,.load k g x⟩::rest) s h=aT (cA md.nm s (some d) (fJ h k g (ev s x))) (aC call md rest):=_root_.id rfl
@[go_sem] theorem aeV (d k x y rest):aC call md (⟨d,none,.store k x y⟩::rest) s h=aT (cA md.nm s d (iF h k (ev s x) (ev s y))) (aC call md rest):=_root_.id rfl
@[go_sem] theorem ai4 (d k b x y rest):aC call md (⟨some d,none,.app k b x y⟩::rest) s h=aT (cA md.nm s (some d) (H5 h d k b (ev s x) (ev s y))) (aC call md rest):=_root_.id rfl
@[go_sem] theorem agu (d f zas rest):aC call md (⟨some d,none,.call f zas⟩::rest) s h=aT (cA md.nm s (some d) (bE call md h d (zas.map (ev s)) (ev s f))) (aC call md rest):=_root_.id rfl
@[go_sem] theorem aeW (f zas rest):aC call md (⟨none,none,.call f zas⟩::rest) s h=aT (cA md.nm s none (bE call md h 0 (zas.map (ev s)) (ev s f))) (aC call md rest):=_root_.id rfl
@[go_sem] theorem agv (nm:Bool) (s d x h):cA nm s (some d) (some (x,h,[]))=some ⟨upd s d x,h⟩:=by simp only [cA,kC,if_true]; rfl
@[go_sem] theorem aeX (nm:Bool) (s x h):cA nm s none (some (x,h,[]))=some ⟨s,h⟩:=by simp only [cA,kC,if_true]; rfl
@[go_sem] theorem alB (d op):step call md d (.p op) s h=wD h (eA s op):=_root_.id rfl
@[go_sem] theorem aeY (d k g x):step call md d (.load k g x) s h=fJ h k g (ev s x):=_root_.id rfl
@[go_sem] theorem aeZ (d f zas):step call md d (.call f zas) s h=bE call md h d (zas.map (ev s)) (ev s f):=_root_.id rfl
@[go_sem] theorem adg (d k x y):step call md d (.store k x y) s h=iF h k (ev s x) (ev s y):=_root_.id rfl
@[go_sem] theorem adh (d z):step call md d (.alloc z) s h=jj h d z []:=_root_.id rfl
@[go_sem] theorem agw (d k x):step call md d (.box k x) s h=wC h d k (ev s x):=_root_.id rfl
@[go_sem] theorem aa1 (d k z n ps):step call md d (.buildSl k z n ps) s h=(eF k h (List.replicate n z) (ps.map fun p=>(p.1,ev s p.2))).bind fun q=>cY q.2.1 d k q.1 n q.2.2:=_root_.id rfl
@[go_sem] theorem ae0 (d k z b l c):step call md d (.mkSl k z b l c) s h=(oW (ev s l) (ev s c)).bind fun p=>if p.2*b≤140737488355328 then cY h d k (List.replicate p.1 z) p.1 [] else none:=_root_.id rfl
@[go_sem] theorem ae1 (h a):wD h (some a)=some (a,h,[]):=_root_.id rfl
@[go_sem] theorem adi (d st s h):ik d true st s h (.v (.bool true))=st:=_root_.id rfl
@[go_sem] theorem adj (d st s h):ik d false st s h (.v (.bool false))=st:=_root_.id rfl
@[go_sem] theorem adk (d st s h):ik (some d) true st s h (.v (.bool false))=some ⟨upd s d .und,h⟩:=_root_.id rfl
@[go_sem] theorem adl (d st s h):ik (some d) false st s h (.v (.bool true))=some ⟨upd s d .und,h⟩:=_root_.id rfl
@[go_sem] theorem acN (d w st s h):ik (some d) w st s h .und=some ⟨upd s d .und,h⟩:=_root_.id rfl
@[go_sem] theorem amU (s n):ev s (.t n)=s n:=_root_.id rfl
@[go_sem] theorem amV (s a):ev s (.c a)=a:=_root_.id rfl
@[go_sem] theorem agx (s):evo s none=none:=_root_.id rfl
@[go_sem] theorem agy (s x):evo s (some x)=some (ev s x):=_root_.id rfl
@[go_sem] theorem alC {α:Type} (s:Nat→α) (d:Nat) (x:α) (i:Nat):upd s d x i=if i=d then x else s i:=_root_.id rfl
@[go_sem] theorem alD {α:Type} (d:α) (f:Nat→α):mk d f []=fun _=>d:=_root_.id rfl
@[go_sem] theorem ai5 {α:Type} (d:α) (f:Nat→α) (i l):mk d f (i::l)=upd (mk d f l) i (f i):=_root_.id rfl
@[go_sem] theorem amW (x):eA s (.mv x)=some (ev s x):=_root_.id rfl
@[go_sem] theorem alE (c a b):eA s (.pick c a b)=Dp (ev s c) (ev s a) (ev s b):=_root_.id rfl
@[go_sem] theorem ai6 (x):eA s (.nilck x)=BQ (ev s x):=_root_.id rfl
@[go_sem] theorem alF (n x):eA s (.nilq n x)=Dq n (ev s x):=_root_.id rfl
@[go_sem] theorem amF (op x y):eA s (.bin op x y)=cK op (ev s x) (ev s y):=_root_.id rfl
@[go_sem] theorem amX (op x):eA s (.un op x)=LK op (ev s x):=_root_.id rfl
@[go_sem] theorem amY (k x):eA s (.cv k x)=TS k (ev s x):=_root_.id rfl
@[go_sem] theorem amG (x):eA s (.cv0 x)=Rz (ev s x):=_root_.id rfl
@[go_sem] theorem amH (k x lo hi mx):eA s (.slc k x lo hi mx)=eu k (ev s x) (evo s lo) (evo s hi) (evo s mx):=_root_.id rfl
@[go_sem] theorem alG (x lo hi):eA s (.slcS x lo hi)=Lq (ev s x) (evo s lo) (evo s hi):=_root_.id rfl
@[go_sem] theorem alH (o x):eA s (.fadr o x)=tQ o (ev s x):=_root_.id rfl
@[go_sem] theorem amI (o k g x):eA s (.fld o k g x)=LM o k g (ev s x):=_root_.id rfl
@[go_sem] theorem ai7 (k x i):eA s (.iadrS k x i)=p8 k (ev s x) (ev s i):=_root_.id rfl
@[go_sem] theorem ai8 (n k x i):eA s (.iadrA n k x i)=zg n k (ev s x) (ev s i):=_root_.id rfl
@[go_sem] theorem alI (x i):eA s (.idxS x i)=Dr (ev s x) (ev s i):=_root_.id rfl
@[go_sem] theorem alJ (n k g x i):eA s (.idxA n k g x i)=Ds n k g (ev s x) (ev s i):=_root_.id rfl
@[go_sem] theorem amJ (i x):eA s (.ext i x)=LN i (ev s x):=_root_.id rfl
@[go_sem] theorem amK (m x):eA s (.len m x)=lh m (ev s x):=_root_.id rfl
@[go_sem] theorem amL (m t x y):eA s (.eqc m t x y)=LJ m t (ev s x) (ev s y):=_root_.id rfl
@[go_sem] theorem alK (x):eA s (.capp x)=LO (ev s x):=_root_.id rfl
@[go_sem] theorem amM (m x ys):eA s (.mnx m x ys)=yE m (ev s x) (ys.map (ev s)):=_root_.id rfl
@[go_sem] theorem ai9 (z ps):eA s (.build z ps)=(rq z (ps.map fun p=>(p.1,p.2.1,ev s p.2.2))).map .agg:=_root_.id rfl
@[go_sem] theorem amN (f a b):eA s (.mkF f a b)=some (.fn f (a.map (ev s)) (b.map (ev s))):=_root_.id rfl
@[go_sem] theorem ae2 (a b):Dp (.v (.bool true)) a b=some a:=_root_.id rfl
@[go_sem] theorem adm (a b):Dp (.v (.bool false)) a b=some b:=_root_.id rfl
@[go_sem] theorem agz (id sub k i j):BQ (.ref id sub k i j)=some (.ref id sub k i j):=_root_.id rfl
@[go_sem] theorem agA (cs):BQ (.ipt cs)=some (.ipt cs):=_root_.id rfl
@[go_sem] theorem aja (f a b):BQ (.fn f a b)=some (.fn f a b):=_root_.id rfl
theorem kU (op a b):cK op (.v a) (.v b)=(hF op a b).map .v:=_root_.id rfl
@[go_sem] theorem ajb (k a b):cK .add (.v (.int k a)) (.v (.int k b))=some (.v (.int k (k.wrap (a+b)))):=by simp [kU,hF,nZ]
@[go_sem] theorem ajc (k a b):cK .sub (.v (.int k a)) (.v (.int k b))=some (.v (.int k (k.wrap (a - b)))):=by simp [kU,hF,nZ]
@[go_sem] theorem ajd (k a b):cK .mul (.v (.int k a)) (.v (.int k b))=some (.v (.int k (k.wrap (a*b)))):=by simp [kU,hF,nZ]
@[go_sem] theorem Ij (k a b):cK .quo (.v (.int k a)) (.v (.int k b))=if b=0 then none else some (.v (.int k (k.wrap (a.tdiv b)))):=by simp only [kU,hF,nZ,if_true]; split <;> rfl
@[go_sem] theorem DG (k a b):cK .rem (.v (.int k a)) (.v (.int k b))=if b=0 then none else some (.v (.int k (a.tmod b))):=by simp only [kU,hF,nZ,if_true]; split <;> rfl
@[go_sem] theorem Ik (k a b):cK .and (.v (.int k a)) (.v (.int k b))=some (.v (.int k (k.wrap ((BitVec.ofInt k.bits a &&& BitVec.ofInt k.bits b).toNat)))):=by simp [kU,hF,nZ]
@[go_sem] theorem GF (k a b):cK .or (.v (.int k a)) (.v (.int k b))=some (.v (.int k (k.wrap ((BitVec.ofInt k.bits a ||| BitVec.ofInt k.bits b).toNat)))):=by simp [kU,hF,nZ]
@[go_sem] theorem DH (k k' a b):cK .shl (.v (.int k a)) (.v (.int k' b))=if b < 0 then none else some (.v (.int k (k.wrap (a*2 ^ (min b.toNat k.bits))))):=by simp only [kU,hF,Wl]; split <;> rfl
@[go_sem] theorem zu (k k' a b):cK .shr (.v (.int k a)) (.v (.int k' b))=if b < 0 then none else some (.v (.int k (a.fdiv (2 ^ (min b.toNat k.bits))))):=by simp only [kU,hF,Wm]; split <;> rfl
@[go_sem] theorem aje (k a b):cK .lss (.v (.int k a)) (.v (.int k b))=some (B (decide (a < b))):=by simp [kU,hF,nZ]
@[go_sem] theorem ajf (k a b):cK .leq (.v (.int k a)) (.v (.int k b))=some (B (decide (a≤b))):=by simp [kU,hF,nZ]
@[go_sem] theorem ajg (k a b):cK .gtr (.v (.int k a)) (.v (.int k b))=some (B (decide (b < a))):=by simp [kU,hF,nZ]
@[go_sem] theorem ajh (k a b):cK .geq (.v (.int k a)) (.v (.int k b))=some (B (decide (b≤a))):=by simp [kU,hF,nZ]
@[go_sem] theorem aji (k a b):cK .eql (.v (.int k a)) (.v (.int k b))=some (B (decide (a=b))):=by simp [kU,hF,nZ]; rfl
@[go_sem] theorem ajj (k a b):cK .neq (.v (.int k a)) (.v (.int k b))=some (B (!decide (a=b))):=by simp [kU,hF,nZ,bne]; rfl
@[go_sem] theorem alL (k a):LK .neg (.v (.int k a))=some (.v (.int k (k.wrap (0 - a)))):=_root_.id rfl
@[go_sem] theorem alM (k a):LK .xor (.v (.int k a))=some (.v (.int k (k.wrap ((BitVec.ofInt k.bits (if k.signed then -1 else k.max) ^^^ BitVec.ofInt k.bits a).toNat)))):=_root_.id rfl
@[go_sem] theorem ajk (k a b):cK .xor (.v (.int k a)) (.v (.int k b))=some (.v (.int k (k.wrap ((BitVec.ofInt k.bits a ^^^ BitVec.ofInt k.bits b).toNat)))):=by simp [kU,hF,nZ]
@[go_sem] theorem alN (b):LK .not (.v (.bool b))=some (B (!b)):=_root_.id rfl
@[go_sem] theorem alO (k k' n):TS k (.v (.int k' n))=some (.v (.int k (k.wrap n))):=_root_.id rfl
@[go_sem] theorem agB (o id sub k i j):tQ o (.ref id sub k i j)=some (.ref id sub k i (j+o)):=_root_.id rfl
@[go_sem] theorem agC (o cs):tQ o (.ipt cs)=some (.ipt (cs.drop o)):=_root_.id rfl
@[go_sem] theorem ajl (o k g cs):LM o k g (.agg cs)=jG k g cs o:=_root_.id rfl
@[go_sem] theorem ae3 (k cs o):jG k false cs o=cs[o]?:=_root_.id rfl
@[go_sem] theorem agD (k cs o):jG k true cs o=if o+k≤cs.length then some (.agg ((cs.drop o).take k)) else none:=_root_.id rfl
@[go_sem] theorem ajm (k rows k' i):p8 k (.sl k rows) (.v (.int k' i))=aZ rows i:=by simp [p8]
@[go_sem] theorem agE (k id sub lo n k' i):p8 k (.rsl id sub k lo n) (.v (.int k' i))=if 0≤i∧i < n then some (.ref id sub k (lo+i.toNat) 0) else none:=by simp [p8]
@[go_sem] theorem ae4 (n k id sub k' a j kk i):zg n k (.ref id sub k' a j) (.v (.int kk i))=if 0≤i∧i < n then some (.ref id sub k' a (j+i.toNat*k)) else none:=_root_.id rfl
@[go_sem] theorem ae5 (n k cs kk i):zg n k (.ipt cs) (.v (.int kk i))=if 0≤i∧i < n then some (.ipt (cs.drop (i.toNat*k))) else none:=_root_.id rfl
@[go_sem] theorem ajn (i vs):LN i (.tup vs)=vs[i]?:=_root_.id rfl
@[go_sem] theorem alP (k rows):lh false (.sl k rows)=some (I rows.length):=_root_.id rfl
@[go_sem] theorem ajo:lh false .emp=some (I 0):=_root_.id rfl
@[go_sem] theorem ajp (a b c d n):lh false (.rsl a b c d n)=some (I n):=_root_.id rfl
@[go_sem] theorem ajq (x):lh true (.v (.string x))=some (I x.size):=_root_.id rfl
@[go_sem] theorem agF (m a):yE m a []=some a:=_root_.id rfl
@[go_sem] theorem ae6 (m a b l):yE m a (b::l)=(H2 m a b).bind fun c=>yE m c l:=_root_.id rfl
@[go_sem] theorem ajr (k k' x y):H2 true (.v (.int k x)) (.v (.int k' y))=some (.v (.int k (if y < x then y else x))):=_root_.id rfl
@[go_sem] theorem ajs (k k' x y):H2 false (.v (.int k x)) (.v (.int k' y))=some (.v (.int k (if x < y then y else x))):=_root_.id rfl
@[go_sem] theorem agG (m a b):LJ m 0 (.v (.bool a)) (.v (.bool b))=some (B (m != (a == b))):=_root_.id rfl
@[go_sem] theorem ae7 (z):rq z []=some z:=_root_.id rfl
@[go_sem] theorem adn (z o k a ps):rq z ((o,k,a)::ps)=(eY a).bind fun cs=>if cs.length=k∧o+k≤z.length then rq (setRow z o cs) ps else none:=_root_.id rfl
@[go_sem] theorem ae8 (cs):eY (.agg cs)=some cs:=_root_.id rfl
@[go_sem] theorem ajt (x):eY (.v x)=some [.v x]:=_root_.id rfl
@[go_sem] theorem ae9:eY .emp=some [.emp]:=_root_.id rfl
@[go_sem] theorem agH (k r):eY (.sl k r)=some [.sl k r]:=_root_.id rfl
@[go_sem] theorem afa (a b c d e):eY (.rsl a b c d e)=some [.rsl a b c d e]:=_root_.id rfl
@[go_sem] theorem afb (a b c d e):eY (.ref a b c d e)=some [.ref a b c d e]:=_root_.id rfl
@[go_sem] theorem agI (f a b):eY (.fn f a b)=some [.fn f a b]:=_root_.id rfl
@[go_sem] theorem ado (r j):setRow r j []=r:=_root_.id rfl
@[go_sem] theorem acO (r j c cs):setRow r j (c::cs)=setRow (r.set j c) (j+1) cs:=_root_.id rfl
@[go_sem] theorem agJ (h k g cs):fJ h k g (.ipt cs)=(jG k g cs 0).map fun a=>(a,h,[]):=_root_.id rfl
@[go_sem] theorem agK (h k g id k0 i j):fJ h k g (.ref id none k0 i j)=tU h k g id k0 i j (h id):=_root_.id rfl
@[go_sem] theorem agL (h k g id p k0 i j):fJ h k g (.ref id (some p) k0 i j)=kQ h k g k0 i j (jc p (h id)):=_root_.id rfl
@[go_sem] theorem agM (h k g id k0 i j cs):tU h k g id k0 i j (.bx cs)=Am h id (i*k0+j) k g cs:=_root_.id rfl
@[go_sem] theorem agN (h k g id k0 i j k' rows):tU h k g id k0 i j (.ar k' rows)=kQ h k g k0 i j (some (k',rows)):=_root_.id rfl
@[go_sem] theorem agO (h k g id k0 i j k' rows):tU h k g id k0 i j (.fz k' rows)=kQ h k g k0 i j (some (k',rows)):=_root_.id rfl
@[go_sem] theorem adp (h id p k cs):Am h id p k false cs=(cs[p]?).map fun c=>(tT id p c,h,[]):=_root_.id rfl
@[go_sem] theorem afc (h id p k cs):Am h id p k true cs=if p+k≤cs.length then (if ((cs.drop p).take k).any aU then some (.agg (((cs.map kz).drop p).take k),upd h id (.bx (cs.map kz)),[(id,true)]) else some (.agg ((cs.drop p).take k),h,[])) else none:=_root_.id rfl
@[go_sem] theorem aju (id p x):tT id p (.v x)=.v x:=_root_.id rfl
@[go_sem] theorem afd (id p):tT id p .emp=.emp:=_root_.id rfl
@[go_sem] theorem agP (id p k r):tT id p (.sl k r)=.sl k r:=_root_.id rfl
@[go_sem] theorem afe (id p a b c d e):tT id p (.ref a b c d e)=.ref a b c d e:=_root_.id rfl
@[go_sem] theorem agQ (id p f a b):tT id p (.fn f a b)=.fn f a b:=_root_.id rfl
@[go_sem] theorem aff (id p k r):tT id p (.osl k r)=.rsl id (some p) k 0 r.length:=_root_.id rfl
@[go_sem] theorem adq (h k g i j k' rows):kQ h k g k' i j (some (k',rows))=(rows[i]?).bind fun row=>(jG k g row j).map fun a=>(a,h,[]):=by simp [kQ]
@[go_sem] theorem ajv (x):aU (.v x)=false:=_root_.id rfl
@[go_sem] theorem afg:aU .emp=false:=_root_.id rfl
@[go_sem] theorem agR (k r):aU (.sl k r)=false:=_root_.id rfl
@[go_sem] theorem afh (k r):aU (.osl k r)=true:=_root_.id rfl
@[go_sem] theorem afi (a b c d e):aU (.ref a b c d e)=false:=_root_.id rfl
@[go_sem] theorem agS (f a b):aU (.fn f a b)=false:=_root_.id rfl
@[go_sem] theorem alQ (x):aB (.v x)=true:=_root_.id rfl
@[go_sem] theorem agT:aB .emp=true:=_root_.id rfl
@[go_sem] theorem ajw (k r):aB (.sl k r)=true:=_root_.id rfl
@[go_sem] theorem agU (a b c d e):aB (.rsl a b c d e)=false:=_root_.id rfl
@[go_sem] theorem agV (a b c d e):aB (.ref a b c d e)=false:=_root_.id rfl
@[go_sem] theorem agW (f):aB (.fn f [] [])=true:=_root_.id rfl
@[go_sem] theorem ajx (cs):dat (.agg cs)=cs.all aB:=_root_.id rfl
@[go_sem] theorem amO (x):dat (.v x)=true:=_root_.id rfl
@[go_sem] theorem ajy:dat .emp=true:=_root_.id rfl
@[go_sem] theorem alR (k r):dat (.sl k r)=true:=_root_.id rfl
@[go_sem] theorem ajz (a b c d e):dat (.rsl a b c d e)=false:=_root_.id rfl
@[go_sem] theorem ajA (a b c d e):dat (.ref a b c d e)=false:=_root_.id rfl
@[go_sem] theorem ajB (f):dat (.fn f [] [])=true:=_root_.id rfl
@[go_sem] theorem agX (h d cs ks):jj h d cs ks=wB h d (.ref d none 0 0 0) (.bx cs) ks (h d):=_root_.id rfl
@[go_sem] theorem afj (h d a o ks):wB h d a o ks .dead=some (a,upd h d o,ks):=_root_.id rfl
@[go_sem] theorem adr (h d k rows n ks):cY h d k rows n ks=wB h d (.rsl d none k 0 n) (.ar k rows) ks (h d):=_root_.id rfl
@[go_sem] theorem alS (h d k x):wC h d k x=(eY x).bind fun xs=>if xs.length=k then (if xs.all aB then jj h d xs [] else (jj h d (List.replicate k .any) []).bind (Fa d 0 xs)) else none:=_root_.id rfl
@[go_sem] theorem aa2 (k h rows):eF k h rows []=some (rows,h,[]):=_root_.id rfl
@[go_sem] theorem aaH (k h rows i a ps):eF k h rows ((i,a)::ps)=(eY a).bind fun cs=>if cs.length=k∧i < rows.length then (fI h cs).bind fun q=>(eF k q.2.1 (rows.set i q.1) ps).bind fun r=>some (r.1,r.2.1,q.2.2++r.2.2) else none:=_root_.id rfl
@[go_sem] theorem afk (h):fI h []=some ([],h,[]):=_root_.id rfl
@[go_sem] theorem ads (h a l):fI h (a::l)=(fS h a).bind fun p=>(fI p.2.1 l).bind fun q=>some (p.1::q.1,q.2.1,p.2.2++q.2.2):=_root_.id rfl
@[go_sem] theorem alT (h x):fS h (.v x)=some (.v x,h,[]):=_root_.id rfl
@[go_sem] theorem agY (h):fS h .emp=some (.emp,h,[]):=_root_.id rfl
@[go_sem] theorem ajC (h k r):fS h (.sl k r)=some (.sl k r,h,[]):=_root_.id rfl
@[go_sem] theorem ajD (h f):fS h (.fn f [] [])=some (.fn f [] [],h,[]):=_root_.id rfl
@[go_sem] theorem agZ (h id k lo n):fS h (.rsl id none k lo n)=m9 h id k lo n (h id):=_root_.id rfl
@[go_sem] theorem afl (h id p k lo n):fS h (.rsl id (some p) k lo n)=BS h id p k lo n (h id):=_root_.id rfl
@[go_sem] theorem ajE (h id k lo n rows):m9 h id k lo n (.ar k rows)=if lo+n≤rows.length then some (m8 k lo n rows,upd h id (.fz k rows),[]) else none:=by simp [m9]
@[go_sem] theorem ajF (h id k lo n rows):m9 h id k lo n (.fz k rows)=if lo+n≤rows.length then some (m8 k lo n rows,h,[]) else none:=by simp [m9]
@[go_sem] theorem ajG (k lo n rows):m8 k lo n rows=.sl k ((rows.drop lo).take n):=_root_.id rfl
@[go_sem] theorem afm (h k id k0 i j x):iF h k (.ref id none k0 i j) x=(eY x).bind fun xs=>if xs.length=k then yG h k id k0 i j xs (h id) else none:=_root_.id rfl
@[go_sem] theorem afn (h k id p k0 i j x):iF h k (.ref id (some p) k0 i j) x=(eY x).bind fun xs=>if xs.length=k then (fI h xs).bind fun q=>An q.2.1 k id p k0 i j q.1 q.2.2 (q.2.1 id) else none:=_root_.id rfl
@[go_sem] theorem ajH (h k id k0 i j xs cs):yG h k id k0 i j xs (.bx cs)=H3 h id (i*k0+j) k xs cs:=_root_.id rfl
@[go_sem] theorem ajI (h k id k0 i j xs k' rows):yG h k id k0 i j xs (.ar k' rows)=(fI h xs).bind fun q=>H4 q.2.1 id k k0 i j q.1 q.2.2 (q.2.1 id):=_root_.id rfl
@[go_sem] theorem ajJ (h id k k0 i j xs ks k' rows):H4 h id k k0 i j xs ks (.ar k' rows)=(nc k k0 i j xs k' rows).map fun q=>(.und,upd h id (.ar k' q),ks):=_root_.id rfl
@[go_sem] theorem ajK (k k0 i j cs rows):nc k k0 i j cs k0 rows=(rows[i]?).bind fun row=>if j+k≤row.length then some (rows.set i (setRow row j cs)) else none:=by simp [nc]
@[go_sem] theorem ajL (h id p k xs cs):H3 h id p k xs cs=if p+k≤cs.length then (if xs.all aB then some (.und,upd h id (.bx (setRow cs p xs)),if ((cs.drop p).take k).any aU then [(id,true)] else []) else (mz h id p xs.length xs).map fun q=>(.und,q.1,q.2)) else none:=_root_.id rfl
@[go_sem] theorem ajM (hs x):aaL hs (.v x)=.v x:=_root_.id rfl
@[go_sem] theorem afo (hs):aaL hs .emp=.emp:=_root_.id rfl
@[go_sem] theorem ag0 (hs k r):aaL hs (.sl k r)=.sl k r:=_root_.id rfl
@[go_sem] theorem afp (hs):aaL hs .any=.any:=_root_.id rfl
@[go_sem] theorem afq (hs cs):aaL hs (.ipt cs)=.ipt cs:=_root_.id rfl
@[go_sem] theorem afr (hs id sub k lo n):aaL hs (.rsl id sub k lo n)=if hs.contains id then .rsl id sub k lo n else .any:=_root_.id rfl
@[go_sem] theorem afs (hs id sub k lo n):aaL hs (.ref id sub k lo n)=if hs.contains id then .ref id sub k lo n else .any:=_root_.id rfl
@[go_sem] theorem aft (hs cs):aaL hs (.agg cs)=if cs.all (knownL hs) then .agg cs else .any:=_root_.id rfl
@[go_sem] theorem afu (hs f):aaL hs (.fn f [] [])=.fn f [] []:=_root_.id rfl
@[go_sem] theorem ag1 (hs f a b):aaL hs (.fn f a b)=if a.all (knownL hs) && b.all (knownL hs) then .fn f a b else .any:=_root_.id rfl
@[go_sem] theorem ag2 (hs x):knownL hs (.v x)=true:=_root_.id rfl
@[go_sem] theorem adt (hs):knownL hs .emp=true:=_root_.id rfl
@[go_sem] theorem afv (hs k r):knownL hs (.sl k r)=true:=_root_.id rfl
@[go_sem] theorem adu (hs id a b c d):knownL hs (.ref id a b c d)=hs.contains id:=_root_.id rfl
@[go_sem] theorem aa3 (hs):aM hs .dead=true:=_root_.id rfl
@[go_sem] theorem adv (hs k r):aM hs (.ar k r)=true:=_root_.id rfl
@[go_sem] theorem adw (hs k r):aM hs (.fz k r)=true:=_root_.id rfl
@[go_sem] theorem adx (hs cs):aM hs (.bx cs)=cs.all (gI hs):=_root_.id rfl
@[go_sem] theorem afw (hs x):gI hs (.v x)=true:=_root_.id rfl
@[go_sem] theorem acP (hs):gI hs .emp=true:=_root_.id rfl
@[go_sem] theorem ady (hs k r):gI hs (.sl k r)=true:=_root_.id rfl
@[go_sem] theorem acQ (hs k r):gI hs (.osl k r)=true:=_root_.id rfl
@[go_sem] theorem acR (hs id a b c):gI hs (.ref id none a b c)=hs.contains id:=by simp [gI,aU,aV,bg]
@[go_sem] theorem acS (hs f):gI hs (.fn f [] [])=true:=_root_.id rfl
@[go_sem] theorem adz {α β:Type} (f:α→β) (a):Option.map f (some a)=some (f a):=_root_.id rfl
@[go_sem] theorem adA {α β:Type} (f:α→β):Option.map f none=none:=_root_.id rfl
@[go_sem] theorem acT {α β:Type} (f:α→Option β) (a):(some a).bind f=f a:=_root_.id rfl
@[go_sem] theorem acU {α β:Type} (f:α→Option β):(none:Option α).bind f=none:=_root_.id rfl
@[go_sem] theorem acV {α:Type} (a b:α):(some a).getD b=a:=_root_.id rfl
@[go_sem] theorem afx {α:Type} (p:α→Bool):[].all p=true:=_root_.id rfl
@[go_sem] theorem adB {α:Type} (p:α→Bool) (a l):(a::l).all p=(p a && l.all p):=_root_.id rfl
@[go_sem] theorem afy {α:Type} (p:α→Bool):[].any p=false:=_root_.id rfl
@[go_sem] theorem adC {α:Type} (p:α→Bool) (a l):(a::l).any p=(p a || l.any p):=_root_.id rfl
@[go_sem] theorem adD {α:Type} (a:α) (l):(a::l)[0]?=some a:=_root_.id rfl
@[go_sem] theorem adE {α:Type} (a:α) (l) (n:Nat):(a::l)[n+1]?=l[n]?:=_root_.id rfl
@[go_sem] theorem afz {α β:Type} (f:α→β):[].map f=[]:=_root_.id rfl
@[go_sem] theorem adF {α β:Type} (f:α→β) (a l):(a::l).map f=f a::l.map f:=_root_.id rfl
@[go_sem] theorem ag3 {α β:Type} (f:α→List β):[].flatMap f=[]:=_root_.id rfl
@[go_sem] theorem afA {α β:Type} (f:α→List β) (a l):(a::l).flatMap f=f a++l.flatMap f:=_root_.id rfl
@[go_sem] theorem afB {α:Type} (l:List α):l++[]=l:=List.append_nil l
@[go_sem] theorem afC {α:Type} (l:List α):[]++l=l:=_root_.id rfl
@[go_sem] theorem adG {α:Type} (a:α) (l r):(a::l)++r=a::(l++r):=_root_.id rfl
@[go_sem] theorem afD {α:Type}:([]:List α).length=0:=_root_.id rfl
@[go_sem] theorem adH {α:Type} (a:α) (l):(a::l).length=l.length+1:=_root_.id rfl
@[go_sem] theorem acW {α:Type} (l:List α):l.drop 0=l:=_root_.id rfl
@[go_sem] theorem acX {α:Type} (a:α) (l) (n:Nat):(a::l).drop (n+1)=l.drop n:=_root_.id rfl
@[go_sem] theorem acY {α:Type} (l:List α):l.take 0=[]:=_root_.id rfl
@[go_sem] theorem acZ {α:Type} (a:α) (l) (n:Nat):(a::l).take (n+1)=a::l.take n:=_root_.id rfl
@[go_sem] theorem aa4 {α:Type} (p:α→Bool):[].filter p=[]:=_root_.id rfl
@[go_sem] theorem adI {α:Type} (a b:α) (l):(a::l).set 0 b=b::l:=_root_.id rfl
@[go_sem] theorem adJ {α:Type} (a b:α) (l) (n:Nat):(a::l).set (n+1) b=a::l.set n b:=_root_.id rfl
@[go_sem] theorem alU {α:Type} (a:α):List.replicate 0 a=[]:=_root_.id rfl
@[go_sem] theorem alV {α:Type} (a:α):List.replicate 1 a=[a]:=_root_.id rfl
@[go_sem] theorem alW {α:Type} (a:α):List.replicate 2 a=[a,a]:=_root_.id rfl
@[go_sem] theorem alX {α:Type} (a:α):List.replicate 3 a=[a,a,a]:=_root_.id rfl
@[go_sem] theorem alY {α:Type} (a:α):List.replicate 4 a=[a,a,a,a]:=_root_.id rfl
@[go_sem] theorem alZ {α:Type} (a:α):List.replicate 5 a=[a,a,a,a,a]:=_root_.id rfl
@[go_sem] theorem amZ:decide True=true:=_root_.id rfl
@[go_sem] theorem am0:decide False=false:=_root_.id rfl
@[go_sem] theorem ajN (b:Bool):(true && b)=b:=_root_.id rfl
@[go_sem] theorem ajO (b:Bool):(false && b)=false:=_root_.id rfl
@[go_sem] theorem al0 (b:Bool):(true || b)=true:=_root_.id rfl
@[go_sem] theorem al1 (b:Bool):(false || b)=b:=_root_.id rfl
@[go_sem] theorem ajP:(!true)=false:=_root_.id rfl
@[go_sem] theorem ajQ:(!false)=true:=_root_.id rfl
@[go_sem] theorem ajR (b:Bool):(b && true)=b:=Bool.and_true b
@[go_sem] theorem am1:(false=true)=False:=by simp
@[go_sem] theorem amP {α:Type} (a:α):(a=a)=True:=by simp
@[go_sem] theorem al2 (p:Prop):(True∧p)=p:=by simp
@[go_sem] theorem ajS (p:Prop):(p∧True)=p:=by simp
@[go_sem] theorem al3 (p:Prop):(False∧p)=False:=by simp
@[go_sem] theorem al4:(¬ False)=True:=by simp
@[go_sem] theorem al5:(¬ True)=False:=by simp
@[go_sem] theorem ag4 (nm rs res n t):gx nm rs res n (some (.ret,t))=wF nm rs res n t.s t.h:=_root_.id rfl
@[go_sem] theorem ac0 (nm rs res n t):gx nm rs res n (some (.normal,t))=wF nm rs res n t.s t.h:=_root_.id rfl
@[go_sem] theorem afE (nm rs res n s h):wF nm rs res n s h=(tX s h res).bind fun q=>if lS nm q.2.2 then uS rs n q.2.1 q.1 else none:=_root_.id rfl
@[go_sem] theorem al6 (nm:Bool):lS nm []=true:=kC nm
@[go_sem] theorem afF (s h):tX s h []=some ([],h,[]):=_root_.id rfl
@[go_sem] theorem ajT (s h n l):tX s h (.t n::l)=(tX s h l).bind fun q=>some (L4 q.2.2 (s n)::q.1,q.2.1,q.2.2):=_root_.id rfl
@[go_sem] theorem adK (s h n k g l):tX s h (.cell n k g::l)=(fJ h k g (s n)).bind fun p=>(tX (ir p.2.2 s) p.2.1 l).bind fun q=>some (L4 q.2.2 p.1::q.1,q.2.1,p.2.2++q.2.2):=_root_.id rfl
@[go_sem] theorem ag5 (a):L4 [] a=a:=_root_.id rfl
@[go_sem] theorem afG (s):ir [] s=s:=_root_.id rfl
@[go_sem] theorem al7 (rs h vs):uS rs 0 h vs=if jl ((vs.flatMap bT).filter fun i=>!aR i) then (rA h vs).map fun us=>(vS (br rs us),[]) else none:=by simp [uS,cp]
@[go_sem] theorem afH (h):rA h []=some []:=_root_.id rfl
@[go_sem] theorem adL (h a l):rA h (a::l)=(ni h a).bind fun b=>(rA h l).bind fun q=>some (b::q):=_root_.id rfl
@[go_sem] theorem al8 (h x):ni h (.v x)=some (.v x):=_root_.id rfl
@[go_sem] theorem ag6 (h):ni h .emp=some .emp:=_root_.id rfl
@[go_sem] theorem ajU (h k r):ni h (.sl k r)=some (.sl k r):=_root_.id rfl
@[go_sem] theorem ag7 (h cs):ni h (.agg cs)=(iR h cs).map .agg:=_root_.id rfl
@[go_sem] theorem ag8 (h id k lo n):ni h (.rsl id none k lo n)=if aR id then none else wE k lo n (h id):=_root_.id rfl
@[go_sem] theorem ajV (k lo n rows):wE k lo n (.ar k rows)=if lo+n≤rows.length then (if lo=0∧n=rows.length then some (.osl k rows) else some (m8 k lo n rows)) else none:=by simp [wE]
@[go_sem] theorem ajW (k lo n rows):wE k lo n (.fz k rows)=if lo+n≤rows.length then some (m8 k lo n rows) else none:=by simp [wE]
@[go_sem] theorem afI (h):iR h []=some []:=_root_.id rfl
@[go_sem] theorem ajX (h x l):iR h (.v x::l)=(iR h l).bind fun q=>some (.v x::q):=_root_.id rfl
@[go_sem] theorem afJ (h l):iR h (.emp::l)=(iR h l).bind fun q=>some (.emp::q):=_root_.id rfl
@[go_sem] theorem ag9 (h k r l):iR h (.sl k r::l)=(iR h l).bind fun q=>some (.sl k r::q):=_root_.id rfl
@[go_sem] theorem afK (h id k lo n l):iR h (.rsl id none k lo n::l)=(jk h (.rsl id none k lo n)).bind fun b=>(uR b).bind fun c=>(iR h l).bind fun q=>some (c::q):=_root_.id rfl
@[go_sem] theorem aha (h id k lo n):jk h (.rsl id none k lo n)=if aR id then none else wE k lo n (h id):=_root_.id rfl
@[go_sem] theorem ahb (k r):uR (.osl k r)=some (.sl k r):=_root_.id rfl
@[go_sem] theorem ajY (k r):uR (.sl k r)=some (.sl k r):=_root_.id rfl
@[go_sem] theorem ajZ (a):vS [a]=a:=_root_.id rfl
@[go_sem] theorem aj0 (a b l):vS (a::b::l)=.tup (a::b::l):=_root_.id rfl
@[go_sem] theorem aj1:vS []=.tup []:=_root_.id rfl
@[go_sem] theorem afL (l):br [] l=l:=by cases l <;> simp [br]
@[go_sem] theorem adM (s):br s []=[]:=by cases s <;> simp [br]
@[go_sem] theorem adN (s ss a l):br (s::ss) (a::l)=nrmV s a::br ss l:=_root_.id rfl
@[go_sem] theorem WN (a):nrmV [] a=a:=by cases a <;> simp [nrmV,nrmL,cX]
@[go_sem] theorem ahc (ss cs):nrmV ss (.agg cs)=.agg (cX ss cs):=_root_.id rfl
@[go_sem] theorem al9 (ss x):nrmV ss (.v x)=.v x:=by
 show nrmL _ _=_;generalize ss.headD (.o 0 [])=s;obtain ⟨k,cs⟩:=s;cases k <;> simp [nrmL]
@[go_sem] theorem ahd (k cs ss):nrmV (.o (k+1) cs::ss) .emp=.sl k []:=by simp [nrmV,nrmL]
@[go_sem] theorem aj2 (k cs ss k' rows):nrmV (.o (k+1) cs::ss) (.sl k' rows)=.sl k' (rows.map (cX cs)):=by simp [nrmV,nrmL]
@[go_sem] theorem ahe (k cs ss k' rows):nrmV (.o (k+1) cs::ss) (.osl k' rows)=.sl k' (rows.map (cX cs)):=by simp [nrmV,nrmL]
@[go_sem] theorem WO (l):cX [] l=l:=by cases l <;> simp [cX]
@[go_sem] theorem afM (l):cX l []=[]:=by cases l <;> simp [cX]
@[go_sem] theorem afN (s ss a l):cX (s::ss) (a::l)=nrmL s a::cX ss l:=by simp [cX]
@[go_sem] theorem ama (cs a):nrmL (.o 0 cs) a=a:=by simp [nrmL]
@[go_sem] theorem ahf (k cs):nrmL (.o (k+1) cs) .emp=.sl k []:=by simp [nrmL]
@[go_sem] theorem aj3 (k cs k' rows):nrmL (.o (k+1) cs) (.sl k' rows)=.sl k' (rows.map (cX cs)):=by simp [nrmL]
@[go_sem] theorem amb (k cs x):nrmL (.o k cs) (.v x)=.v x:=by cases k <;> simp [nrmL]
@[go_sem] theorem amc (x):bT (.v x)=[]:=_root_.id rfl
@[go_sem] theorem ahg:bT .emp=[]:=_root_.id rfl
@[go_sem] theorem aj4 (k r):bT (.sl k r)=[]:=_root_.id rfl
@[go_sem] theorem ahh (cs):bT (.agg cs)=cs.flatMap fT:=_root_.id rfl
@[go_sem] theorem ahi (a b c d e):bT (.rsl a b c d e)=[a]:=_root_.id rfl
@[go_sem] theorem amd (x):fT (.v x)=[]:=_root_.id rfl
@[go_sem] theorem ahj:fT .emp=[]:=_root_.id rfl
@[go_sem] theorem aj5 (k r):fT (.sl k r)=[]:=_root_.id rfl
@[go_sem] theorem ahk (a b c d e):fT (.rsl a b c d e)=[a]:=_root_.id rfl
@[go_sem] theorem adO:jl []=true:=_root_.id rfl
@[go_sem] theorem adP (a):jl [a]=true:=_root_.id rfl
@[go_sem] theorem aj6 (args i):n8 args i=(args[i]?).getD .any:=_root_.id rfl
@[go_sem] theorem SD:aj []=fun _=>.dead:=by funext i; simp [aj]
@[go_sem] theorem afO (i):aR i=decide (1000≤i∧i < 2000):=_root_.id rfl
def j6 (h:ac) (d:Nat):Option (AV × List Ob)→Option R3
 | some (r,[])=>if cG r≤8∧dp h (2000+8*d) (cG r)=true∧jH [] r=true then some ((mat (2000+8*d) h r).1,(mat (2000+8*d) h r).2,[]) else none
 | _=>none
theorem il {c:AV} {ids:List Nat} {n:Nat} (hn:2000≤n) (hc:bg [] c=true∨(∃ k lo m,c=.rsl n none k lo m)∨∃ k i j,c=.ref n none k i j):kB (cS ids) c=c:=by
 have hb:cS ids n=n:=by unfold cS; rw [if_neg (by omega)]
 rcases hc with hc | ⟨k,lo,m,rfl⟩ | ⟨k,i,j,rfl⟩
 ·cases c <;> simp [bg] at hc <;> rfl
 ·simp [kB,hb]
 ·simp [kB,hb]
theorem Kg {r:AV} {n:Nat} (hn:2000≤n) (h:ac) (ids:List Nat) (hr:fE [] r=true):dM (cS ids) (da n h r).1=(da n h r).1:=by
 cases r <;> simp only [fE] at hr <;> simp only [da]
 case osl=>simp only [dM]; exact il hn (.inr (.inl ⟨_,_,_,rfl⟩))
 case obx=>simp only [dM]; exact il hn (.inr (.inr ⟨_,_,_,rfl⟩))
 case agg cs =>
  simp only [aV,List.all_eq_true] at hr;simp only [dM,AV.agg.injEq];exact (List.map_congr_left (g:=fun c=>c) fun c hc=>il hn (.inl (hr c hc))).trans (List.map_id' cs)
 case fn f x y =>
  simp only [aV,Bool.and_eq_true,List.all_eq_true] at hr;simp only [dM,AV.fn.injEq,true_and];exact ⟨(List.map_congr_left (g:=fun c=>c) fun c hc=>il hn (.inl (hr.1 c hc))).trans (List.map_id' x),(List.map_congr_left (g:=fun c=>c) fun c hc=>il hn (.inl (hr.2 c hc))).trans (List.map_id' y)⟩
 all_goals
  simp only [dM];exact il hn (.inl hr)
theorem Kh (ids:List Nat):∀ {l:List AV} {n:Nat} {h:ac},2000≤n→l.all (fE [])=true→(bQ n h l).1.map (dM (cS ids))=(bQ n h l).1
 | [],n,h,_,_=>rfl
 | c::l,n,h,hn,hr=>by
  simp only [List.all_cons,Bool.and_eq_true] at hr;simp only [bQ,List.map_cons];rw [Kg hn h ids hr.1,Kh ids (by omega) hr.2]
theorem WP {r:AV} {n:Nat} (hn:2000≤n) (h:ac) (ids:List Nat) (hr:jH [] r=true):H8 (cS ids) (mat n h r).1=(mat n h r).1:=by
 cases r with
 | tup vs =>
  simp only [jH] at hr;simp only [mat,H8,AV.tup.injEq];exact Kh ids hn hr
 | _ =>
  simp only [jH] at hr;have:=Kg hn h ids hr;simp only [mat];simp only [da] at this ⊢;exact this
theorem Ki:∀ l:List AV,ru [] l=[]
 | []=>rfl
 | a::l=>by simp [ru,Ki l]
theorem x7 {f:FuncId} {args:List AV} (d:Nat) (hm:md.m f=[]) (hd:args.all dat=true):bE call md h d args (.fn f [] [])=j6 h d (call f (br (md.sh f) args) []):=by
 have hin:bZ h [] args=some (args,h,[]):=by
  have:∀ (l:List AV),l.all dat=true→bZ h [] l=some (l,h,[]):=by
   intro l;induction l with
   | nil=>intro _; rfl
   | cons a l ih =>
    intro hd;simp only [List.all_cons,Bool.and_eq_true] at hd;have ha:cR h 0 a=some (a,h,[]):=by
     have h1:=hd.1;by_cases hagg:∃ cs,a=.agg cs
     ·obtain ⟨cs,rfl⟩:=hagg;simp only [dat] at h1;simp only [cR,sI];rw [i7 h1 h];rfl
     ·have h2:aB a=true:=by cases a <;> first | exact h1 | exact absurd ⟨_,rfl⟩ hagg
      cases a <;> first | (simp [aB] at h2; done) | rfl | skip
    simp only [bZ,List.headD_nil,ha,Option.bind_some,List.tail_nil,ih hd.2,List.append_nil]
  exact this args hd
 have hids:args.flatMap bT=[]:=by
  rw [List.flatMap_eq_nil_iff];exact fun c hc=>Mj (List.all_eq_true.1 hd c hc)
 have hren:(br (md.sh f) args).map (dM (bo []))=br (md.sh f) args∧(br (md.sh f) args).all (aV [])=true:=by
  have key:∀ c ∈ br (md.sh f) args,dat c=true:=by
   intro c hc;obtain ⟨i,hi⟩:=List.getElem?_of_mem hc;obtain ⟨c0,h1,h2⟩:=qX _ _ _ _ hi;have h0:=List.all_eq_true.1 hd c0 (List.mem_of_getElem? h1);rcases h2 with rfl | ⟨ss,rfl⟩
   ·exact h0
   ·cases c0 <;> simp only [dat] at h0 <;> simp only [nrmV,dat] <;> try (have:=wM (s:=ss.headD (.o 0 [])) h0; revert this; generalize nrmL _ _=q; intro this; cases q <;> first | exact this | simp [aB] at this)
    rename_i cs;rw [List.all_eq_true];intro c hc;obtain ⟨i,hi⟩:=List.getElem?_of_mem hc;obtain ⟨c0,h1,h2⟩:=wL _ _ _ _ hi;have h3:=List.all_eq_true.1 h0 c0 (List.mem_of_getElem? h1);rcases h2 with rfl | ⟨s,rfl⟩
    ·exact h3
    ·exact wM h3
  refine ⟨(List.map_congr_left (g:=fun c=>c) fun c hc=>?_).trans (List.map_id' _),?_⟩
  ·have:=key c hc;cases c <;> simp only [dat] at this <;> first | rfl | skip
   all_goals first
    | (simp [aB] at this; done)
    | skip
   ·rename_i cs;simp only [dM,AV.agg.injEq];refine (List.map_congr_left (g:=fun c=>c) fun c hc=>?_).trans (List.map_id' cs);have h3:=List.all_eq_true.1 this c hc;cases c <;> simp [aB] at h3 <;> rfl
   ·rename_i g x y;simp [aB] at this;obtain ⟨rfl,rfl⟩:=this;rfl
  ·rw [List.all_eq_true];intro c hc;have:=key c hc;cases c <;> simp only [dat] at this <;> first | rfl | skip
   all_goals first
    | (simp [aB] at this; done)
    | skip
   ·rename_i cs;simp only [aV,List.all_eq_true];intro c hc;have h3:=List.all_eq_true.1 this c hc;cases c <;> simp [aB] at h3 <;> simp [bg,h3]
   ·rename_i g x y;simp [aB] at this;obtain ⟨rfl,rfl⟩:=this;rfl
 unfold bE;rw [if_neg (by simp [pL,hm])];simp only [dU,hm,List.nil_append,List.append_nil,hin,Option.bind_some,hids,bJ,J4,kR,hren.2,List.all_nil,Bool.and_self,if_true,hren.1,List.map_nil,Ki];cases hr:call f (br (md.sh f) args) [] with
 | none=>rfl
 | some q =>
  obtain ⟨r,os⟩:=q;cases os with
  | cons o os=>simp only [Option.bind_some,fF,j6]; simp
  | nil =>
   simp only [Option.bind_some,fF,j6,List.length_nil,Nat.zero_le,true_and,dz,vQ,H9,List.all_nil,Bool.true_and,Bool.and_true,Em,cp,List.range'_zero,dS,gA];by_cases hc:cG r≤8∧dp h (2000+8*d) (cG r)=true∧jH [] r=true
   ·rw [if_pos hc,if_pos hc,WP (by omega) h [] hc.2.2];simp
   ·rw [if_neg hc,if_neg hc]
def AE (call:dP) (md:Mode) (d:Nat) (f:FuncId) (p:List AV × ac × K):Option R3 :=
 kR call md p.2.1 d f (cf p.2.1 40 (bJ [] (p.1.flatMap bT)) 0) (br (md.sh f) p.1) p.2.2
theorem AF {f:FuncId} {args:List AV} (d:Nat) (hm:md.m f=[]):bE call md h d args (.fn f [] [])=(bZ h [] args).bind (AE call md d f):=by
 unfold bE;rw [if_neg (by simp [pL,hm])];simp only [dU,hm,List.nil_append,List.append_nil];rfl
@[go_sem] theorem afP {f:FuncId} {zs:List AV} (d:Nat) (hm:md.m f=[]) (hd:zs.all dat=true):AE call md d f (zs,h,[])=j6 h d (call f (br (md.sh f) zs) []):=by
 rw [← x7 d hm hd,AF d hm];have hin:∀ (l:List AV),l.all dat=true→bZ h [] l=some (l,h,[]):=by
  intro l;induction l with
  | nil=>intro _; rfl
  | cons a l ih =>
   intro hd;simp only [List.all_cons,Bool.and_eq_true] at hd;have ha:cR h 0 a=some (a,h,[]):=by
    have h1:=hd.1;by_cases hagg:∃ cs,a=.agg cs
    ·obtain ⟨cs,rfl⟩:=hagg;simp only [dat] at h1;simp only [cR,sI];rw [i7 h1 h];rfl
    ·have h2:aB a=true:=by cases a <;> first | exact h1 | exact absurd ⟨_,rfl⟩ hagg
     cases a <;> first | (simp [aB] at h2; done) | rfl | skip
   simp only [bZ,List.headD_nil,ha,Option.bind_some,List.tail_nil,ih hd.2,List.append_nil]
 rw [hin zs hd];rfl
@[go_sem] theorem adQ (h):bZ h [] []=some ([],h,[]):=_root_.id rfl
@[go_sem] theorem ac1 (h a l):bZ h [] (a::l)=(cR h 0 a).bind fun p=>(bZ p.2.1 [] l).bind fun q=>some (p.1::q.1,q.2.1,p.2.2++q.2.2):=_root_.id rfl
@[go_sem] theorem aj7 (h x):cR h 0 (.v x)=some (.v x,h,[]):=_root_.id rfl
@[go_sem] theorem afQ (h):cR h 0 .emp=some (.emp,h,[]):=_root_.id rfl
@[go_sem] theorem ahl (h k r):cR h 0 (.sl k r)=some (.sl k r,h,[]):=_root_.id rfl
@[go_sem] theorem ahm (h f a b):cR h 0 (.fn f a b)=some (.fn f a b,h,[]):=_root_.id rfl
@[go_sem] theorem afR (h a b c d):cR h 0 (.ref a none b c d)=some (.ref a none b c d,h,[]):=_root_.id rfl
@[go_sem] theorem afS (h cs):cR h 0 (.ipt cs)=some (.ipt cs,h,[]):=_root_.id rfl
@[go_sem] theorem afT (h id k lo n):cR h 0 (.rsl id none k lo n)=m9 h id k lo n (h id):=_root_.id rfl
@[go_sem] theorem adR (h id p k lo n):cR h 0 (.rsl id (some p) k lo n)=BS h id p k lo n (h id):=_root_.id rfl
@[go_sem] theorem afU (h cs):cR h 0 (.agg cs)=(fI h cs).bind fun p=>some (.agg p.1,p.2):=_root_.id rfl
@[go_sem] theorem aj8 (h d x):j6 h d (some (.v x,[]))=if dp h (2000+8*d) 1=true then some (.v x,h,[]) else none:=by
 simp [j6,cG,jH,fE,aV,bg,mat,da]
@[go_sem] theorem WQ (h d k r):j6 h d (some (.sl k r,[]))=if dp h (2000+8*d) 1=true then some (.sl k r,h,[]) else none:=by
 simp [j6,cG,jH,fE,aV,bg,mat,da]
@[go_sem] theorem afV (h d cs) (hd:cs.all aB=true):j6 h d (some (.agg cs,[]))=if dp h (2000+8*d) 1=true then some (.agg cs,h,[]) else none:=by
 have:cs.all (bg [])=true:=by
  rw [List.all_eq_true] at hd ⊢;intro c hc;have:=hd c hc;cases c <;> simp [aB] at this <;> simp [bg,this]
 simp only [j6,cG,jH,fE,aV,mat,da,this,and_true];simp
@[go_sem] theorem afW (h d vs) (h8:vs.length≤8) (hd:vs.all dat=true):j6 h d (some (.tup vs,[]))=if dp h (2000+8*d) vs.length=true then some (.tup vs,h,[]) else none:=by
 have h1:vs.all (fE [])=true:=by
  rw [List.all_eq_true] at hd ⊢;intro c hc;have:=hd c hc;cases c <;> simp only [dat] at this <;> simp only [fE,aV] <;> try (simp [aB] at this <;> simp [bg,this]; done)
  rename_i cs;rw [List.all_eq_true] at this ⊢;intro c hc;have:=this c hc;cases c <;> simp [aB] at this <;> simp [bg,this]
 have h2:∀ (l:List AV) (n:Nat) (g:ac),l.all dat=true→bQ n g l=(l,g):=by
  intro l;induction l with
  | nil=>intro n g _; rfl
  | cons c l ih =>
   intro n g hd;simp only [List.all_cons,Bool.and_eq_true] at hd;have hc:da n g c=(c,g):=by
    have:=hd.1;cases c <;> simp only [dat,aB] at this <;> first | rfl | (cases this; done)
   simp only [bQ,hc,ih _ _ hd.2]
 simp only [j6,cG,jH,h1,mat,h2 vs _ _ hd,h8,true_and,and_true]
@[go_sem] theorem afX (h d k r):j6 h d (some (.osl k r,[]))=if dp h (2000+8*d) 1=true then some (.rsl (2000+8*d) none k 0 r.length,upd h (2000+8*d) (.ar k r),[]) else none:=by
 simp [j6,cG,jH,fE,mat,da]
@[go_sem] theorem adS (h n):dp h n 0=true:=_root_.id rfl
@[go_sem] theorem adT (h n m):dp h n (m+1)=(cM (h n) && dp h (n+1) m):=_root_.id rfl
@[go_sem] theorem ac2:cM .dead=true:=_root_.id rfl
def cq (call:dP) (md:Mode) (ps:List (Nat × Nat)):List Fp→List COp→ae→ac→Option St
 | acc,[],s,h=>if ps.all (qT acc)=true then some ⟨s,h⟩ else none
 | acc,o::rest,s,h=>(cU call md o s h).bind fun r=>cq call md ps (acc++[r.2]) rest r.1.s r.1.h
theorem Qk (ps:List (Nat × Nat)):∀ (l:List COp) (acc:List Fp) (s:ae) (h:ac),cq call md ps acc l s h=(fg call md l s h).bind fun r=>if ps.all (qT (acc++r.2))=true then some r.1 else none
 | [],acc,s,h=>by simp only [cq,fg,Option.bind_some,List.append_nil]
 | o::l,acc,s,h=>by
  simp only [cq,fg];cases cU call md o s h with
  | none=>rfl
  | some r =>
   simp only [Option.bind_some];rw [Qk ps l];cases fg call md l r.1.s r.1.h with
   | none=>rfl
   | some q=>simp only [Option.bind_some,List.append_assoc,List.singleton_append]
@[go_sem] theorem afY:tW []=none:=_root_.id rfl
@[go_sem] theorem adU (p g l):tW ((p,g)::l)=if 1000000≤p then some (p - 1000000,g) else none:=_root_.id rfl
theorem MK (l ps):uo call md l ps s h=cq call md ps [] l s h:=by
 rw [Qk];rfl
theorem Zc (ps) (l:List COp) (h0:tW ps=none):lU call md l ps s h=cq call md ps [] l s h:=by
 unfold lU;rw [h0];exact MK l ps
def WR (call:dP) (md:Mode) (m g:Nat) (ps:List (Nat × Nat)) (l:List COp) (s:ae) (h:ac):Option St :=
 aT (cq call md ps [] (l.take m) s h) fun s h=>aT (nE md.nm g s h) (aC call md (l.drop m))
@[go_sem] theorem ahn (l ps):lU call md l ps s h=match tW ps with
  | some q=>WR call md q.1 q.2 ps.tail l s h
  | none=>cq call md ps [] l s h:=by
 cases hb:tW ps with
 | none=>exact Zc ps l hb
 | some q =>
  unfold lU;rw [hb];simp only [WR,Ao];rw [← MK _ _,uo];cases fg call md (l.take q.1) s h with
  | none=>rfl
  | some r =>
   simp only [Option.bind_some];split <;> rfl
def gB (call:dP) (md:Mode) (ps:List (Nat × Nat)) (acc:List Fp) (rest:List COp) (s:ae) (d:Option Nat) (f:ac→Fp):Option R3→Option St
 | some (x,h,[])=>cq call md ps (acc++[f h]) rest (dN s d x) h
 | _=>none
theorem dE (ps acc) (o:COp) (rest) (hg:o.g=none):cq call md ps acc (o::rest) s h=gB call md ps acc rest s o.d (fw (o.d.getD 0) o.op s h) (step call md (o.d.getD 0) o.op s h):=by
 simp only [cq,cU,hg,jI];cases step call md (o.d.getD 0) o.op s h with
 | none=>rfl
 | some r =>
  obtain ⟨x,h',ks⟩:=r;cases ks <;> rfl
@[go_sem] theorem aho (ps acc):cq call md ps acc [] s h=if ps.all (qT acc)=true then some ⟨s,h⟩ else none:=_root_.id rfl
@[go_sem] theorem DI (ps acc d op rest):cq call md ps acc (co d op::rest) s h=(eA s op).bind fun a=>cq call md ps (acc++[some ([],[])]) rest (upd s d a) h:=by
 rw [dE _ _ _ _ rfl];simp only [co,step,wD];cases eA s op <;> rfl
@[go_sem] theorem aj9 (ps acc d n rest):cq call md ps acc (cm d n::rest) s h=cq call md ps (acc++[some ([],[])]) rest (upd s d (s n)) h:=DI ps acc d (.mv (.t n)) rest
@[go_sem] theorem afZ (ps acc d k g x rest):cq call md ps acc (⟨some d,none,.load k g x⟩::rest) s h=gB call md ps acc rest s (some d) (fun _=>n7 (ev s x)) (fJ h k g (ev s x)):=dE _ _ _ _ rfl
@[go_sem] theorem adV (ps acc d k x y rest):cq call md ps acc (⟨d,none,.store k x y⟩::rest) s h=gB call md ps acc rest s d (fun _=>tV (ev s y) (ev s x)) (iF h k (ev s x) (ev s y)):=dE _ _ _ _ rfl
@[go_sem] theorem af0 (ps acc d f zas rest):cq call md ps acc (⟨some d,none,.call f zas⟩::rest) s h=gB call md ps acc rest s (some d) (fV h d (jV (zas.map (ev s)) (ev s f))) (bE call md h d (zas.map (ev s)) (ev s f)):=dE _ _ _ _ rfl
@[go_sem] theorem adW (ps acc d z rest):cq call md ps acc (⟨some d,none,.alloc z⟩::rest) s h=gB call md ps acc rest s (some d) (fun _=>some ([],[cH d])) (jj h d z []):=dE _ _ _ _ rfl
@[go_sem] theorem ahp (ps acc d k x rest):cq call md ps acc (⟨some d,none,.box k x⟩::rest) s h=gB call md ps acc rest s (some d) (fun _=>if dat (ev s x)=true then some ([],[cH d]) else none) (wC h d k (ev s x)):=dE _ _ _ _ rfl
@[go_sem] theorem aa5 (ps acc d k z n qs rest):cq call md ps acc (⟨some d,none,.buildSl k z n qs⟩::rest) s h=gB call md ps acc rest s (some d) (fun _=>if (qs.all fun p=>dat (ev s p.2))=true then some ([],[cH d]) else none) ((eF k h (List.replicate n z) (qs.map fun p=>(p.1,ev s p.2))).bind fun q=>cY q.2.1 d k q.1 n q.2.2):=dE _ _ _ _ rfl
@[go_sem] theorem aka (ps acc d op a b rest):cq call md ps acc (b2 d op a b::rest) s h=(cK op (s a) (s b)).bind fun a=>cq call md ps (acc++[some ([],[])]) rest (upd s d a) h:=DI ps acc d (.bin op (.t a) (.t b)) rest
@[go_sem] theorem akb (ps acc d k a rest):cq call md ps acc (fa d k a::rest) s h=(tQ k (s a)).bind fun a=>cq call md ps (acc++[some ([],[])]) rest (upd s d a) h:=DI ps acc d (.fadr k (.t a)) rest
@[go_sem] theorem akc (ps acc d a rest):cq call md ps acc (nk d a::rest) s h=(BQ (s a)).bind fun a=>cq call md ps (acc++[some ([],[])]) rest (upd s d a) h:=DI ps acc d (.nilck (.t a)) rest
@[go_sem] theorem akd (ps acc d k a rest):cq call md ps acc (ld d k a::rest) s h=gB call md ps acc rest s (some d) (fun _=>n7 (s a)) (fJ h k false (s a)):=dE _ _ _ _ rfl
@[go_sem] theorem ake (ps acc d k a rest):cq call md ps acc (la d k a::rest) s h=gB call md ps acc rest s (some d) (fun _=>n7 (s a)) (fJ h k true (s a)):=dE _ _ _ _ rfl
@[go_sem] theorem akf (ps acc d f zas rest):cq call md ps acc (ca d f zas::rest) s h=gB call md ps acc rest s (some d) (fV h d (jV (zas.map (ev s)) (.fn f [] []))) (bE call md h d (zas.map (ev s)) (.fn f [] [])):=dE _ _ _ _ rfl
@[go_sem] theorem akg (ps acc k x y rest):cq call md ps acc (sr k x y::rest) s h=gB call md ps acc rest s none (fun _=>tV (ev s y) (ev s x)) (iF h k (ev s x) (ev s y)):=dE _ _ _ _ rfl
@[go_sem] theorem akh (ps acc d z rest):cq call md ps acc (al d z::rest) s h=gB call md ps acc rest s (some d) (fun _=>some ([],[cH d])) (jj h d z []):=dE _ _ _ _ rfl
@[go_sem] theorem aki (ps acc d k x rest):cq call md ps acc (bx d k x::rest) s h=gB call md ps acc rest s (some d) (fun _=>if dat (ev s x)=true then some ([],[cH d]) else none) (wC h d k (ev s x)):=dE _ _ _ _ rfl
@[go_sem] theorem af1 (ps acc rest s d f x h):gB call md ps acc rest s (some d) f (some (x,h,[]))=cq call md ps (acc++[f h]) rest (upd s d x) h:=_root_.id rfl
@[go_sem] theorem adX (ps acc rest s f x h):gB call md ps acc rest s none f (some (x,h,[]))=cq call md ps (acc++[f h]) rest s h:=_root_.id rfl
theorem aa6 (ps acc) (o:COp) (j w rest) (hg:o.g=some (j,w)) {b:Bool} (hb:s j=.v (.bool b)):cq call md ps acc (o::rest) s h =
  if b=w then gB call md ps acc rest s o.d (fw (o.d.getD 0) o.op s h) (step call md (o.d.getD 0) o.op s h) else cq call md ps (acc++[some ([],[])]) rest (dN s o.d .und) h:=by
 simp only [cq,cU,hg,hb,lT];split
 ·simp only [jI];cases step call md (o.d.getD 0) o.op s h with
  | none=>rfl
  | some r =>
   obtain ⟨x,h',ks⟩:=r;cases ks <;> rfl
 ·rfl
def ML (call:dP) (md:Mode) (ps:List (Nat × Nat)) (acc:List Fp) (rest:List COp) (s:ae) (h:ac) (d:Option Nat) (w:Bool) (op:AOp):AV→Option St
 | .v (.bool b)=>if b=w then gB call md ps acc rest s d (fw (d.getD 0) op s h) (step call md (d.getD 0) op s h) else cq call md ps (acc++[some ([],[])]) rest (dN s d .und) h
 | .und=>cq call md ps (acc++[some ([],[])]) rest (dN s d .und) h
 | _=>none
@[go_sem] theorem Zd (ps acc d j w op rest):cq call md ps acc (⟨d,some (j,w),op⟩::rest) s h=ML call md ps acc rest s h d w op (s j):=by
 by_cases hb:∃ b,s j=.v (.bool b)
 ·obtain ⟨b,hb⟩:=hb;rw [aa6 ps acc ⟨d,some (j,w),op⟩ j w rest rfl hb,hb];rfl
 ·simp only [cq,cU];cases hq:s j <;> first | rfl | skip
  rename_i x;cases x <;> first | rfl | exact absurd ⟨_,hq⟩ hb
@[go_sem] theorem akj (ps acc d j w op rest):cq call md ps acc (cg d j w op::rest) s h=ML call md ps acc rest s h (some d) w (.p op) (s j):=Zd ps acc (some d) j w (.p op) rest
@[go_sem] theorem ame (ps acc rest s h d op):ML call md ps acc rest s h (some d) true op (.v (.bool true))=gB call md ps acc rest s (some d) (fw d op s h) (step call md d op s h):=_root_.id rfl
@[go_sem] theorem amf (ps acc rest s h d op):ML call md ps acc rest s h (some d) false op (.v (.bool false))=gB call md ps acc rest s (some d) (fw d op s h) (step call md d op s h):=_root_.id rfl
@[go_sem] theorem amg (ps acc rest s h d op):ML call md ps acc rest s h (some d) true op (.v (.bool false))=cq call md ps (acc++[some ([],[])]) rest (upd s d .und) h:=_root_.id rfl
@[go_sem] theorem amh (ps acc rest s h d op):ML call md ps acc rest s h (some d) false op (.v (.bool true))=cq call md ps (acc++[some ([],[])]) rest (upd s d .und) h:=_root_.id rfl
@[go_sem] theorem akk (ps acc rest s h d w op):ML call md ps acc rest s h (some d) w op .und=cq call md ps (acc++[some ([],[])]) rest (upd s d .und) h:=_root_.id rfl
@[go_sem] theorem am2 (d op h'):fw d (.p op) s h h'=some ([],[]):=_root_.id rfl
@[go_sem] theorem akl (d k g x h'):fw d (.load k g x) s h h'=n7 (ev s x):=_root_.id rfl
@[go_sem] theorem akm (d f zas h'):fw d (.call f zas) s h h'=fV h d (jV (zas.map (ev s)) (ev s f)) h':=_root_.id rfl
@[go_sem] theorem ahq (d z h'):fw d (.alloc z) s h h'=some ([],[cH d]):=_root_.id rfl
@[go_sem] theorem ami (d k x h'):fw d (.box k x) s h h'=if dat (ev s x)=true then some ([],[cH d]) else none:=_root_.id rfl
@[go_sem] theorem adY (cs):n7 (.ipt cs)=some ([],[]):=_root_.id rfl
@[go_sem] theorem ac3 (id k i j):n7 (.ref id none k i j)=some ([cH id],[]):=_root_.id rfl
@[go_sem] theorem ac4 (id p k i j):n7 (.ref id (some p) k i j)=some ([cH id],[]):=_root_.id rfl
@[go_sem] theorem af2 (y id sub k i j):tV y (.ref id sub k i j)=if dat y=true then some ([cH id],[cH id]) else none:=_root_.id rfl
@[go_sem] theorem amj (i):cH i=if i < 2000 then i else i - i % 8:=_root_.id rfl
@[go_sem] theorem af3 (l f a b):jV l (.fn f a b)=a++l++b:=_root_.id rfl
@[go_sem] theorem uA (h d l h'):fV h d l h'=if l.all dat=true then some ([],[2000+8*d]) else if l.all rz=true then some ((cf h 40 (bJ [] (l.flatMap bT)) 0).map cH,(BU h h' (cf h 40 (bJ [] (l.flatMap bT)) 0)).map cH++[2000+8*d]) else none:=_root_.id rfl
@[go_sem] theorem adZ (l i j):qT l (i,j)=(match l[i]?,l[j]? with | some a,some b=>jP a b | _,_=>false):=_root_.id rfl
@[go_sem] theorem ahr (a b):jP (some a) (some b)=(uQ a.2 (b.1++b.2) && uQ b.2 a.1):=_root_.id rfl
@[go_sem] theorem ahs (b):jP none (some b)=(b.1.isEmpty && b.2.isEmpty):=_root_.id rfl
@[go_sem] theorem aht (a):jP (some a) none=(a.1.isEmpty && a.2.isEmpty):=_root_.id rfl
@[go_sem] theorem ahu (b):uQ [] b=true:=_root_.id rfl
@[go_sem] theorem af4 (a l b):uQ (a::l) b=(!b.contains a && uQ l b):=_root_.id rfl
@[go_sem] theorem ad0 (a:Nat):[].contains a=false:=_root_.id rfl
@[go_sem] theorem ac5 (a b:Nat) (l:List Nat):(b::l).contains a=(a == b || l.contains a):=by rw [List.contains_cons]
@[go_sem] theorem ahv (s d x h p l):cA false s (some d) (some (x,h,p::l))=some ⟨upd (ir (p::l) s) d x,h⟩:=_root_.id rfl
@[go_sem] theorem af5 (s x h p l):cA false s none (some (x,h,p::l))=some ⟨ir (p::l) s,h⟩:=_root_.id rfl
@[go_sem] theorem akn (p l s) (i:Nat):ir (p::l) s i=nD (p::l) (s i):=_root_.id rfl
@[go_sem] theorem amQ (ks x):nD ks (.v x)=.v x:=_root_.id rfl
@[go_sem] theorem ako (ks):nD ks .any=.any:=_root_.id rfl
@[go_sem] theorem akp (ks):nD ks .und=.und:=_root_.id rfl
@[go_sem] theorem akq (ks):nD ks .emp=.emp:=_root_.id rfl
@[go_sem] theorem amk (ks k r):nD ks (.sl k r)=.sl k r:=_root_.id rfl
@[go_sem] theorem akr (ks cs):nD ks (.ipt cs)=.ipt cs:=_root_.id rfl
@[go_sem] theorem aks (ks f):nD ks (.fn f [] [])=.fn f [] []:=_root_.id rfl
@[go_sem] theorem akt (ks id sub k lo n):nD ks (.rsl id sub k lo n)=if fR ks id sub=true then .any else .rsl id sub k lo n:=_root_.id rfl
@[go_sem] theorem aku (ks id sub k lo n):nD ks (.ref id sub k lo n)=if fR ks id sub=true then .any else .ref id sub k lo n:=_root_.id rfl
@[go_sem] theorem akv (ks cs):nD ks (.agg cs)=if cs.any (lR ks)=true then .any else .agg cs:=_root_.id rfl
@[go_sem] theorem aml (ks f a b):nD ks (.fn f a b)=if (a.any (lR ks) || b.any (lR ks))=true then .any else .fn f a b:=_root_.id rfl
@[go_sem] theorem akw (ks vs):nD ks (.tup vs)=if vs.any (yF ks)=true then .any else .tup vs:=_root_.id rfl
@[go_sem] theorem amm (ks x):yF ks (.v x)=false:=_root_.id rfl
@[go_sem] theorem akx (ks k r):yF ks (.sl k r)=false:=_root_.id rfl
@[go_sem] theorem amn (ks x):lR ks (.v x)=false:=_root_.id rfl
@[go_sem] theorem ahw (ks):lR ks .emp=false:=_root_.id rfl
@[go_sem] theorem aky (ks k r):lR ks (.sl k r)=false:=_root_.id rfl
@[go_sem] theorem ahx (ks id sub k i j):lR ks (.ref id sub k i j)=fR ks id sub:=_root_.id rfl
@[go_sem] theorem ahy (id sub):fR [] id sub=false:=_root_.id rfl
@[go_sem] theorem ahz (a:Nat) (b:Bool) (l:K) (id:Nat) (sub:Option Nat):fR ((a,b)::l) id sub=((a == id && (!b || sub.isSome)) || fR l id sub):=by simp [fR]
@[go_sem] theorem aa7 {α:Type}:(none:Option α).isSome=false:=_root_.id rfl
@[go_sem] theorem aa8 {α:Type} (a:α):(some a).isSome=true:=_root_.id rfl
@[go_sem] theorem amo (h d k b x y):H5 h d k b x y=(oZ h k y).bind fun ys=>match x with
 | .emp=>if ys.length*b≤140737488355328 then LR h d k ys else none
 | .rsl id none k' lo n=>LQ h d k b id k' lo n ys (h id)
 | .rsl id (some p) k' lo n=>Wo h d k b id p k' lo n ys (h id)
 | _=>none:=_root_.id rfl
@[go_sem] theorem af6 (h k):oZ h k .emp=some []:=_root_.id rfl
@[go_sem] theorem WS (h k r):oZ h k (.sl k r)=some r:=by simp [oZ]
@[go_sem] theorem af7 (h k id sub lo n):oZ h k (.rsl id sub k lo n)=gj k lo n (uk h id sub):=by simp [oZ]
@[go_sem] theorem ac6 (h id):uk h id none=uj (h id):=_root_.id rfl
@[go_sem] theorem af8 (k r):uj (.ar k r)=some (k,r):=_root_.id rfl
@[go_sem] theorem af9 (k r):uj (.fz k r)=some (k,r):=_root_.id rfl
@[go_sem] theorem aa9 (k lo n r):gj k lo n (some (k,r))=if lo+n≤r.length then some ((r.drop lo).take n) else none:=by simp [gj]
@[go_sem] theorem akz (h d k b id lo n ys r):LQ h d k b id k lo n ys (.ar k r)=if lo=0∧n=r.length∧(id < 1000∨2000≤id)∧(n+ys.length)*b≤140737488355328 then
   some (.rsl id none k 0 (n+ys.length),upd h id (.ar k (r++ys)),[(id,false)]) else LP h d k b id k lo n ys k r:=by simp [LQ]
@[go_sem] theorem ahA (h d k):LR h d k []=some (.emp,h,[]):=_root_.id rfl
@[go_sem] theorem aga (h d k y ys):LR h d k (y::ys)=cY h d k (y::ys) (ys.length+1) []:=_root_.id rfl
end
noncomputable section
def abg:List (Nat × Nat)→Option Nat→AOp
 | (d,k)::l,x=>if x=some d then (match k with | 0=>.callC (.c .any) [] | 1=>.take (.c .any) | _=>.slcM 0 (.c .any) none none) else abg l x
 | [],_=>.bad
def agn (P:Program) (N:Nat) (ops:Array Oper) (h:AOp) (o:Oper):Option COp:=match o.op with
 | .build t ps=>(L7 ops o.guard).bind fun g=>(iS P t).bind fun z=>match P.underlying t with
  | some (.struct fs)=>(zj P (Ib P fs) ps.toList).map fun q=>⟨o.dst,g,.p (.build z q)⟩
  | _=>Lx P N ops h o
 | _=>Lx P N ops h o
def abc (P:Program) (N:Nat) (H:List (Nat × Nat)) (ops:Array Oper):List Oper→Option (List COp)
 | []=>some []
 | o::l=>(agn P N ops (abg H o.dst) o).bind fun a=>(abc P N H ops l).bind fun q=>some (a::q)
def prs:List Nat→List (Nat × Nat)
 | a::b::l=>(a,b)::prs l
 | _=>[]
abbrev dF:=List (List Nat)
def ack (P:Program) (N:Nat) (H:List (Nat × Nat)) (ops:Array Oper):Bool→dF→Option (Cmd × dF)
 | dr,(7777777::is)::l=>(ack P N H ops dr l).map fun r=>(.frz is r.1,r.2)
 | true,ks::ps::l=>(abc P N H ops ops.toList).map fun q=>(.dops ks q (prs ps),l)
 | false,ks::l=>(abc P N H ops ops.toList).map fun q=>(.ops ks q,l)
 | _,_=>none
def nL:Code→Nat
 | .seq a b=>nL a+nL b
 | .cond _ a b=>nL a+nL b
 | .block _ a=>nL a
 | .loop a=>nL a+1
 | _=>0
abbrev GS:=dF × List (Nat × Cmd)
noncomputable def gC (P:Program) (N:Nat) (H:List (Nat × Nat)) (L:List Cmd):Nat→Code→GS→Option (Cmd × GS)
 | _,.skip,s=>some (.skip,s)
 | _,.ret,s=>some (.ret,s)
 | _,.exit i,s=>some (.exit i,s)
 | _,.refuse _,s=>some (.ops [] [⟨none,none,.bad⟩],s)
 | _,.region _ ops dr,s=>(ack P N H ops dr s.1).map fun r=>(r.1,r.2,s.2)
 | n,.seq a b,s=>(gC P N H L (n+nL b) a s).bind fun r=>(gC P N H L n b r.2).map fun q=>(.seq r.1 q.1,q.2)
 | n,.cond x a b,s=>(bN x).bind fun x=>(gC P N H L n a s).bind fun r=>(gC P N H L (n+nL a) b r.2).map fun q=>(.cond x r.1 q.1,q.2)
 | n,.block i a,(ks::l,bs)=>(gC P N H L n a (l,bs)).map fun r=>(.block i ks r.1,r.2)
 | n,.loop a,(ks::hs::l,bs)=>(gC P N H L n a (l,bs)).map fun r=>(.loop ks hs (L.getD (n+nL a) .skip),r.2.1,(n+nL a+1,r.1)::r.2.2)
 | _,_,_=>none
noncomputable def gK (P:Program) (H:List (Nat × Nat)) (f:Func) (l:dF) (k:Nat) (L:List Cmd):Cmd :=
 ((f.body.bind fun c=>gC P f.ntmps H L 0 c (l,[])).bind fun r=>((0,r.1)::r.2.2).lookup k).getD .skip
section
variable (d k n a b f:Nat) (op:POp) (x y:Opd) (l:List Opd) (w:Bool) (o:BinOp) (z:List AV)
theorem alg:(⟨some d,none,.p op⟩:COp)=co d op:=rfl
theorem alh:co d (.mv (.t n))=cm d n:=rfl
theorem amp:co d (.bin o (.t a) (.t b))=b2 d o a b:=rfl
theorem amq:co d (.fadr k (.t a))=fa d k a:=rfl
theorem amx:co d (.nilck (.t a))=nk d a:=rfl
theorem amy:(⟨some d,some (n,w),.p op⟩:COp)=cg d n w op:=rfl
theorem amA:(⟨some d,none,.load k false (.t a)⟩:COp)=ld d k a:=rfl
theorem anf:(⟨some d,none,.load k true (.t a)⟩:COp)=la d k a:=rfl
theorem ang:(⟨some d,none,.call (.c (.fn f [] [])) l⟩:COp)=ca d f l:=rfl
theorem anh:(⟨none,none,.store k x y⟩:COp)=sr k x y:=rfl
theorem ani:(⟨some d,none,.alloc z⟩:COp)=al d z:=rfl
theorem anj:(⟨some d,none,.box k x⟩:COp)=bx d k x:=rfl
end
noncomputable def av {α:Type} (b:α) {a:α} (_:a=b:=by conv=>rhs; reduce; (try simp only [Int.reduceOfNat,Int.reduceNegSucc,alg,alh,amp,amq,amx,amy,amA,anf,ang,anh,ani,anj])):α:=a
@[go_sem] theorem amR {α:Type} (b:α) {a:α} (h:a=b):@av α b a h=a:=_root_.id rfl
end
end Go.Ab
