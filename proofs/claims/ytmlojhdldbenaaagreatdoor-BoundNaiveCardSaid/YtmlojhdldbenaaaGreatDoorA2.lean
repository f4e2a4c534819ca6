/-
  The statement BoundNaive holds of the given program: its card, with the tied table of bits.TrailingZeros32; no further conditions. Part A2.
-/
import Derived.Orders
import Derived.LoopN
import Derived.Test.YtmlojhdldbenaaaGreatDoorA1
namespace Go.Ab
open Go
structure Inv where
 p:World→(Nat→Prop)→Prop
 stab:∀ {w w':World} {X:Nat→Prop},p w X→(∀ b,X b→w'.heap[b]?=w.heap[b]?)→p w' X
 more:∀ {w:World} {X X':Nat→Prop},p w X→(∀ b,X b→X' b)→p w X'
structure Far (nm:Bool) (w:World) (ρ:bj) (h:ac) (w':World) (ρ':bj) (h':ac):Prop where
 os:w'.os=w.os
 tape:w'.tape=w.tape
 output:w'.output=w.output
 size:w.heap.size≤w'.heap.size
 old:∀ b,b < w.heap.size → ¬ kD h ρ b→w'.heap[b]?=w.heap[b]?
 fresh:∀ b,kD h' ρ' b→kD h ρ b∨w.heap.size≤b
 stay:∀ id,aS id=true→h' id ≠ .dead→h id ≠ .dead∧ρ' id none=ρ id none
 keep:nm=true→∀ id p,aS id=true→h' id ≠ .dead→bA h id (some p)→bA h' id (some p)∧ρ' id (some p)=ρ id (some p)
theorem TG {nm:Bool} {ks:K} (h:qB nm ks=true) (hn:nm=true) {id:Nat} (hp:aS id=true) (s:Option Nat):fu ks id s=false:=by
 subst hn
 simp only [qB,Bool.not_true,Bool.false_or,List.all_eq_true,Bool.not_eq_true'] at h
 simp only [fu,List.any_eq_false,Bool.and_eq_true,beq_iff_eq,not_and]
 intro p hm e
 subst e
 rw [h p hm] at hp
 cases hp
theorem Evo.far {nm:Bool} {w w':World} {ρ ρ':bj} {h h':ac} {ks:K} (e:Evo w ρ h w' ρ' h' ks) (hn:qB nm ks=true):Far nm w ρ h w' ρ' h' :=
 ⟨e.os,e.tape,e.output,e.size,e.old,e.fresh,e.stay,fun h1 id p hp _ h2=>e.keep id (some p) h2 (TG hn h1 hp _)⟩
theorem kZ (nm:Bool):qB nm []=true:=by cases nm <;> rfl
theorem Far.refl (nm:Bool) (w:World) (ρ:bj) (h:ac):Far nm w ρ h w ρ h:=(Evo.refl w ρ h).far (kZ nm)
theorem Far.trans {nm:Bool} {w w' w'':World} {ρ ρ' ρ'':bj} {h h' h'':ac} (a:Far nm w ρ h w' ρ' h') (b:Far nm w' ρ' h' w'' ρ'' h''):Far nm w ρ h w'' ρ'' h'' :=
 ⟨b.os.trans a.os,b.tape.trans a.tape,b.output.trans a.output,Nat.le_trans a.size b.size,
  fun x hx ho=>(b.old x (Nat.lt_of_lt_of_le hx a.size) (fun o=>by rcases a.fresh x o with o | o; exact ho o; omega)).trans (a.old x hx ho),
  fun x o=>by
   rcases b.fresh x o with o | o
   ·exact a.fresh x o
   ·exact .inr (Nat.le_trans a.size o),
  fun id hp hd=>by
   obtain ⟨h1,h2⟩:=b.stay id hp hd
   obtain ⟨h3,h4⟩:=a.stay id hp h1
   exact ⟨h3,h2.trans h4⟩,
  fun hn id p hp hd h1=>by
   obtain ⟨h2,h3⟩:=a.keep hn id p hp (b.stay id hp hd).1 h1
   obtain ⟨h4,h5⟩:=b.keep hn id p hp hd h2
   exact ⟨h4,h5.trans h3⟩⟩
theorem Far.inv {I:Inv} {nm:Bool} {w w':World} {X:Nat→Prop} {ρ ρ':bj} {h h':ac} (f:Far nm w ρ h w' ρ' h') (r:Rel w X ρ h) (hi:I.p w X):I.p w' X :=
 I.stab hi fun b hb=>f.old b (r.xl b hb) fun ⟨id,sub,hl,e⟩=>r.nx id sub hl (e ▸ hb)
theorem Evo.inv {I:Inv} {w w':World} {X:Nat→Prop} {ρ ρ':bj} {h h':ac} {ks:K} (f:Evo w ρ h w' ρ' h' ks) (r:Rel w X ρ h) (hi:I.p w X):I.p w' X:=(f.far (nm:=false) rfl).inv r hi
def Enters (P:Program) (f:FuncId) (vals:Array Value) (w:World) (R:Value→World→Prop):Prop :=
 match (callFunc f vals).run P w with
 | .ok (.value v) w'=>R v w'
 | .ok (.enter g args) w'=>Calls P g args w' fun e w''=>match e with | .returned v=>R v w'' | _=>False
 | .ok (.row row args) w'=>Rows P row args w' R
 | _=>False
theorem Enters.mono {P:Program} {f:FuncId} {vals:Array Value} {w:World} {R R':Value→World→Prop} (h:Enters P f vals w R) (hr:∀ v w',R v w'→R' v w'):Enters P f vals w R':=by
 unfold Enters at *
 split at h
 ·exact hr _ _ h
 ·exact Calls.mono h fun e w' he=>by cases e <;> first | exact hr _ _ he | exact he
 ·exact Rows.mono h hr
 ·exact h.elim
def jn (P:Program) (I:Inv) (call:eH) (md:Mode):Prop :=
 ∀ {w:World} {X:Nat→Prop} {ρ:bj} {h h':ac} {d:Nat} {f z:AV} {as:List AV} {ks:K} {uf:Value} {us:Array Value},d < 1000→I.p w X→Rel w X ρ h→RV w (aG w X h ρ) ρ h f uf→us.size=as.length →
  (∀ (i:Nat) (c:AV) (u:Value),as[i]?=some c→us[i]?=some u→RV w (aG w X h ρ) ρ h c u)→d7 call md h d as f=some (z,h',ks) →
  ∃ g first cap,uf = .func (.func g) first cap∧Enters P g (first++us++cap) w fun v w'=>Got w X ρ h w' h' ks z v
section
variable {P:Program} {w:World} {X:Nat→Prop} {ρ:bj} {h:ac} {s:am} {a:Act} {call:eH} {md:Mode} {N:Nat} {ops:Array Oper} {Q:Exit→Act→World→Prop} {I:Inv}
structure Ok (I:Inv) (N:Nat) (w:World) (X:Nat→Prop) (ρ:bj) (h:ac) (s:am) (a:Act):Prop where
 rel:Rel w X ρ h
 rs:RS w (aG w X h ρ) ρ h s a.tmps
 size:N≤a.tmps.size
 defers:a.defers=[]
 inv:I.p w X
theorem Ok.put {w':World} {ρ':bj} {h':ac} {ks:K} {z:AV} {v:Value} (ok:Ok I N w X ρ h s a) (r:Rel w' X ρ' h') (e:Evo w ρ h w' ρ' h' ks) (hv:RV w' (aG w' X h' ρ') ρ' h' z v) {d:Option Nat} (hd:d.getD 0 < N) :
  Ok I N w' X ρ' h' (dF (ng ks s) d z) (a.put d v):=by
 have h1:=e.rs (X:=X) ok.rs
 cases d with
 | none=>exact ⟨r,h1,ok.size,ok.defers,e.inv ok.rel ok.inv⟩
 | some d=>exact ⟨r,h1.upd (Nat.lt_of_lt_of_le hd ok.size) hv,by simpa [Act.put] using ok.size,ok.defers,e.inv ok.rel ok.inv⟩
theorem QV {d:Nat} (hd:d < 1000):aS d=false:=by simp only [aS,decide_eq_false_iff_not]; omega
theorem aai (hcall:jn P I call md) (hN:N≤1000) {o:Oper} {aop:AOp} (hc:XO P o.op=some aop) (hd:o.dst.getD 0 < N) (ok:Ok I N w X ρ h s a) {z:AV} {h':ac} {ks:K} (hz:step call md (o.dst.getD 0) aop s h=some (z,h',ks)) (hnm:qB md.nm ks=true)
  {K':Act→World→Prop} (hK:∀ a' w' ρ',Ok I N w' X ρ' h' (dF (ng ks s) o.dst z) a'→Far md.nm w ρ h w' ρ' h'→K' a' w'):o.wp P a w K' Q:=by
 have hdp:aS (o.dst.getD 0)=false:=QV (Nat.lt_of_lt_of_le hd hN)
 replace hc:xz P o.op=some aop:=by
  simp only [XO,Option.some.injEq] at hc
  cases h0:xz P o.op with
  | none=>rw [h0] at hc; simp only [Option.getD_none] at hc; subst hc; cases hz
  | some q=>rw [h0] at hc; simp only [Option.getD_some] at hc; rw [hc]
 by_cases hcl:∃ f as,aop = .call f as
 ·obtain ⟨f,as,rfl⟩:=hcl
  have hop:∃ c fo,o.op = .call c∧c.callee = .value fo∧bD fo=some f∧mW c.args.toList=some as:=by
   cases ho:o.op <;> rw [ho] at hc <;> simp only [xz] at hc
   case call c =>
    unfold Iz at hc
    split at hc
    ·exfalso
     unfold vu at hc
     split at hc
     ·obtain ⟨p,hp⟩:=bG (fun _ h=>iR h) hc; cases hp
     ·obtain ⟨p,hp⟩:=bG (fun _ h=>iR h) hc; cases hp
     ·obtain ⟨p,hp⟩:=bG (fun _ h=>iR h) hc; cases hp
     ·obtain ⟨p,hp⟩:=bG (fun _ h=>iR h) hc; cases hp
     ·unfold Om at hc
      split at hc
      ·simp only [Option.bind_eq_some_iff] at hc
       obtain ⟨_,_,_,_,_,_,_,_,_,_,_,_,hc⟩:=hc
       split at hc <;> cases hc
      ·cases hc
     ·unfold Iy at hc
      split at hc
      ·simp only [Option.bind_eq_some_iff] at hc
       obtain ⟨_,_,_,_,_,_,_,_,hc⟩:=hc
       split at hc <;> cases hc
      ·cases hc
     ·cases hc
    ·rename_i fo hfo
     simp only [Option.bind_eq_some_iff,Option.map_eq_some_iff] at hc
     obtain ⟨f',h1,l,h2,h3⟩:=hc
     cases h3
     exact ⟨c,fo,rfl,hfo,h1,h2⟩
    ·cases hc
   case makeFunc fn _ _ =>
    cases fn
    ·obtain ⟨p,hp⟩:=bG (fun _ h=>iR h) hc; cases hp
    all_goals cases hc
   case alloc=>simp [Option.map_eq_some_iff] at hc
   case box=>simp [Option.bind_eq_some_iff] at hc
   case buildSlice =>
    simp only [y8,Option.bind_eq_some_iff] at hc
    obtain ⟨_,_,_,_,hc⟩:=hc
    split at hc
    ·simp [Option.bind_eq_some_iff] at hc
    ·cases hc
   case makeSlice =>
    simp only [Ix,Option.bind_eq_some_iff] at hc
    obtain ⟨_,_,_,_,_,_,_,_,_,_,hc⟩:=hc
    split at hc
    ·simp at hc
    ·cases hc
   case load =>
    simp only [Option.bind_eq_some_iff] at hc
    obtain ⟨_,_,_,_,_,_,hc⟩:=hc
    split at hc <;> cases hc
   case store=>simp [Option.bind_eq_some_iff] at hc
   all_goals first
    | (cases hc; done)
    | (obtain ⟨p,hp⟩:=iR hc; cases hp; done)
    | (obtain ⟨p,hp⟩:=bG (fun _ h=>iR h) hc; cases hp; done)
    | (obtain ⟨p,hp⟩:=bG (fun _ h=>bG (fun _ h=>iR h) h) hc; cases hp; done)
    | (obtain ⟨p,hp⟩:=bG (fun _ h=>bG (fun _ h=>bG (fun _ h=>iR h) h) h) hc; cases hp; done)
    | (obtain ⟨p,hp⟩:=bG (fun _ h=>bG (fun _ h=>bG (fun _ h=>bG (fun _ h=>iR h) h) h) h) hc; cases hp; done)
    | (obtain ⟨p,hp⟩:=bG (fun _ h=>bG (fun _ h=>bG (fun _ h=>XR h) h) h) hc; cases hp; done)
  obtain ⟨c,fo,ho,hfo,h1,h2⟩:=hop
  obtain ⟨l1,l2⟩:=nG ok.rs h2
  obtain ⟨g,first,cap,e1,e2⟩:=hcall (us:=c.args.map a.eval) (Nat.lt_of_lt_of_le hd hN) ok.inv ok.rel (aN h1 ok.rs) (by simp [l1]) (fun i c' u hc' hu=>by
   simp only [List.getElem?_map,Option.map_eq_some_iff] at hc'
   obtain ⟨p,hp,rfl⟩:=hc'
   simp only [Array.getElem?_map,Option.map_eq_some_iff] at hu
   obtain ⟨q,hq,rfl⟩:=hu
   exact l2 i q p (by simpa using hq) hp) hz
  have hrun:(execOp a.eval o).run P w=(callFunc g (first++c.args.map a.eval++cap)).run P w:=by
   simp only [execOp,ho,resolve,hfo,e1,Deferred.ofValue,invoke,Sem.run_bind,Sem.run_pure,Result.andThen]
  unfold Oper.wp
  rw [hrun]
  have fin:∀ v w',Got w X ρ h w' h' ks z v→K' (a.put o.dst v) w':=fun v w' ⟨ρ',g1,g2,g3⟩=>hK _ _ ρ' (ok.put g1 g2 g3 hd) (g2.far hnm)
  unfold Enters at e2
  generalize (callFunc g (first++c.args.map a.eval++cap)).run P w=res at e2
  cases res with
  | ok n w' =>
   cases n <;> simp only at e2
   case value v=>exact fin _ _ e2
   case enter g' args' =>
    show Calls P g' args' w' _
    exact Calls.mono e2 fun e w'' he=>by cases e <;> first | exact fin _ _ he | exact he.elim
   case row row args'=>exact Rows.mono e2 fin
  | halt x w'=>cases e2
 ·obtain ⟨nx,v,w',g1,g2,ρ',g3,g4,g5⟩:=TF hc (fun f as e=>hcl ⟨f,as,e⟩) ok.rel ok.rs hdp hz o rfl
  unfold Oper.wp
  rw [g1]
  rcases g2 with rfl | ⟨rfl,rfl⟩
  ·exact hK _ _ ρ' (ok.put g3 g4 g5 hd) (g4.far hnm)
  ·exact hK _ _ ρ' (ok.put g3 g4 g5 hd) (g4.far hnm)
end
section
variable {P:Program} {w w':World} {X:Nat→Prop} {ρ ρ':bj} {h h':ac} {s:am} {a:Act} {call:eH} {md:Mode} {N:Nat} {ops:Array Oper} {Q:Exit→Act→World→Prop} {A A':Nat→Prop} {I:Inv}
theorem adK (s:am):ng [] s=s:=rfl
theorem Ok.undef (ok:Ok I N w X ρ h s a) {d:Option Nat} (hd:d.getD 0 < N):Ok I N w X ρ h (dF s d .und) (a.put d undef) :=
 ok.put (ks:=[]) ok.rel (.refl _ _ _) .und hd
theorem VO {u:Value} (hv:RV w A ρ h .und u):u=undef:=by
 cases hv with
 | und=>rfl
 | dat hd=>cases hd
theorem TH {nm:Bool} {d:Option Nat} {r:Option R3} {t:St} (hz:cq nm s d r=some t):∃ z h' ks,r=some (z,h',ks)∧qB nm ks=true∧t=⟨dF (ng ks s) d z,h'⟩:=by
 unfold cq at hz
 split at hz
 ·split at hz
  ·cases hz; exact ⟨_,_,_,rfl,by assumption,rfl⟩
  ·cases hz
 ·cases hz
theorem CC (hcall:jn P I call md) (hN:N≤1000) {i:Nat} {o:Oper} {co:COp} (hget:ops[i]?=some o) (hc:Cs P N ops o=some co) (ok:Ok I N w X ρ h s a) {t:St} (hz:lK call md co s h=some t)
  {K':Act→World→Prop} (hK:∀ a' w' ρ',Ok I N w' X ρ' t.h t.s a'→Far md.nm w ρ h w' ρ' t.h→K' a' w'):wpOp P ops Q i K' a w:=by
 simp only [Cs,Option.bind_eq_some_iff] at hc
 obtain ⟨g,e1,op,e2,hc⟩:=hc
 split at hc
 ·rename_i hcond
  cases hc
  simp only [Bool.and_eq_true,decide_eq_true_eq] at hcond
  have hd:=hcond.2
  have run:cq md.nm s o.dst (step call md (o.dst.getD 0) op s h)=some t→o.wp P a w K' Q:=by
   intro hf
   obtain ⟨z,h',ks,f1,f2,rfl⟩:=TH hf
   exact aai hcall hN e2 hd ok f1 f2 hK
  have skip:some (⟨dF s o.dst .und,h⟩:St)=some t→K' (a.put o.dst undef) w:=by
   intro hf
   cases hf
   exact hK _ _ ρ (ok.undef hd) (.refl _ _ _ _)
  unfold wpOp
  rw [hget]
  cases hg:o.guard with
  | none =>
   rw [hg] at e1
   simp only [IW,Option.some.injEq] at e1
   subst e1
   simp only [lK] at hz
   simp only [Region.wanted,hg,if_true]
   exact .inl (run hz)
  | some jb =>
   obtain ⟨j,b⟩:=jb
   rw [hg] at e1
   simp only [IW,Option.map_eq_some_iff] at e1
   obtain ⟨d,e3,rfl⟩:=e1
   simp only [lK,gu] at hz
   have hv:=ok.rs d
   simp only [Region.wanted,hg,yielded,e3,Option.bind_some]
   have cell:∀ v,a.tmps.getD d Go.undef=v→v ≠ Go.undef→a.tmps[d]?=some v:=by
    intro v hv hne
    rw [Array.getD_eq_getD_getElem?] at hv
    cases hq:a.tmps[d]? with
    | none=>rw [hq] at hv; exact absurd hv.symm hne
    | some v'=>rw [hq] at hv; simp at hv; rw [hv]
   split at hz
   ·rename_i b' hb'
    rw [hb'] at hv
    rw [cell _ hv.v_inv.1 (by simp [Go.undef])]
    split at hz
    ·rename_i hbb
     subst hbb
     simp only [beq_self_eq_true,if_true]
     exact .inl (run hz)
    ·rename_i hbb
     simp only [beq_iff_eq,Option.some.injEq,hbb,if_false]
     exact skip hz
   ·rename_i hb'
    rw [hb'] at hv
    have hu:=VO hv
    rw [Array.getD_eq_getD_getElem?] at hu
    cases hq:a.tmps[d]? with
    | none=>simpa using skip hz
    | some v'=>rw [hq] at hu; simp at hu; subst hu; simpa [Go.undef] using skip hz
   ·cases hz
 ·cases hc
theorem Gs (hcall:jn P I call md) (hN:N≤1000):∀ (rest:List Oper) (cl:List COp) (i:Nat) {w:World} {ρ:bj} {h:ac} {s:am} {a:Act} {t:St},(∀ (j:Nat) (o:Oper),rest[j]?=some o→ops[i+j]?=some o)→kY P N ops rest=some cl→Ok I N w X ρ h s a →
  aH call md cl s h=some t→(∀ a' w' ρ',Ok I N w' X ρ' t.h t.s a'→Far md.nm w ρ h w' ρ' t.h→Q .normal a' w')→wpOps P ops Q (List.range' i rest.length) a w
 | [],cl,i,w,ρ,h,s,a,t,_,hc,ok,hz,hQ=>by
  simp only [kY,Option.some.injEq] at hc
  subst hc
  cases hz
  exact hQ _ _ ρ ok (.refl _ _ _ _)
 | o::rest,cl,i,w,ρ,h,s,a,t,hg,hc,ok,hz,hQ=>by
  simp only [kY,Option.bind_eq_some_iff] at hc
  obtain ⟨co,e1,q,e2,e3⟩:=hc
  cases e3
  simp only [aH,bc] at hz
  rw [List.length_cons,List.range'_succ,wpOps_cons]
  split at hz
  ·cases hz
  ·rename_i t1 ht1
   exact CC hcall hN (by simpa using hg 0 o rfl) e1 ok ht1 fun a' w' ρ' ok' far =>
    Gs hcall hN rest q (i+1) (fun j o' hj=>by rw [show i+1+j=i+(j+1) from by omega]; exact hg (j+1) o' (by simpa using hj)) e2 ok' hz fun a'' w'' ρ'' ok'' far'=>hQ _ _ ρ'' ok'' (far.trans far')
theorem zf {α:Type} (d:α) (f:Nat→α):∀ (l:List Nat) (i:Nat),mk d f l i=if i ∈ l then f i else d
 | [],i=>by simp [mk]
 | j::l,i=>by
  simp only [mk,upd,zf d f l i,List.mem_cons]
  by_cases e:i=j
  ·subst e; simp
  ·simp [e]
theorem RS.some (hs:RS w A ρ h s a.tmps) {s':am} (he:∀ i,s' i=s i∨s' i = .any):RS w A ρ h s' a.tmps:=fun i=>by
 rcases he i with e | e
 ·rw [e]; exact hs i
 ·rw [e]; exact .anyv _
theorem Ok.some (ok:Ok I N w X ρ h s a) {s':am} (he:∀ i,s' i=s i∨s' i = .any):Ok I N w X ρ h s' a:=⟨ok.rel,ok.rs.some he,ok.size,ok.defers,ok.inv⟩
theorem RV.knownL {l:List Nat} {c:AV} {u:Value} (hv:RV w A ρ h c u) (hA:∀ b,A b→A' b∧w'.heap[b]?=w.heap[b]?) (hk:∀ id sub,bA h id sub→l.contains id=true→bA h' id sub∧ρ' id sub=ρ id sub) (hm:knownL l c=true):RV w' A' ρ' h' c u:=by
 cases hv with
 | anyv u=>exact .anyv u
 | und=>exact .und
 | dat hd=>exact .dat (hd.mono hA)
 | ref id sub k i j hp =>
  obtain ⟨h1,h2⟩:=hk id sub hp hm
  rw [← h2]; exact .ref id sub k i j h1
 | rsl id sub k lo n cap a hp hn hb ha =>
  obtain ⟨h1,h2⟩:=hk id sub hp hm
  exact .rsl id sub k lo n cap a h1 hn (by rw [h2]; exact hb) (by rw [h2]; exact ha)
 | ipt cs ad vals hA' hs hv hl hr =>
  exact .ipt cs ad vals (hA _ hA').1 hs (fun j c hc=>by rw [ie (w:=w) (w':=w') (by rw [jm]; exact (hA _ hA').2)]; exact hv j c hc) hl (fun j c hc=>(hr j c hc).mono hA)
 | agg cs us hs h1 hr=>simp [Ab.knownL] at hm
 | tup vs us hs hr=>simp [Ab.knownL] at hm
 | fn f x y us ts hs ht hx hy =>
  simp [Ab.knownL] at hm
  obtain ⟨rfl,rfl⟩:=hm
  exact .fn f [] [] us ts hs ht (fun i c u hc=>by simp at hc) (fun i c u hc=>by simp at hc)
theorem RV.knownA {l:List Nat} {c:AV} {u:Value} (hv:RV w A ρ h c u) (hA:∀ b,A b→A' b∧w'.heap[b]?=w.heap[b]?) (hk:∀ id sub,bA h id sub→l.contains id=true→bA h' id sub∧ρ' id sub=ρ id sub) (hm:knownA l c=true):RV w' A' ρ' h' c u:=by
 cases c with
 | agg cs =>
  simp only [Ab.knownA,List.all_eq_true] at hm
  cases hv with
  | dat hd=>exact .dat (hd.mono hA)
  | agg _ us hs h1 hr=>exact .agg cs us hs h1 fun i c u hc hu=>(hr i c u hc hu).knownL hA hk (hm c (List.mem_of_getElem? hc))
 | fn f x y =>
  simp only [Ab.knownA,Bool.and_eq_true,List.all_eq_true] at hm
  cases hv with
  | dat hd=>exact .dat (hd.mono hA)
  | fn _ _ _ us ts hs ht hx hy=>exact .fn f x y us ts hs ht (fun i c u hc hu=>(hx i c u hc hu).knownL hA hk (hm.1 c (List.mem_of_getElem? hc))) (fun i c u hc hu=>(hy i c u hc hu).knownL hA hk (hm.2 c (List.mem_of_getElem? hc)))
 | _=>exact hv.knownL hA hk hm
theorem mX {l:List Nat} {c:AV} (hc:bg l c=true):knownL l c=true:=by
 cases c <;> simp [bg,knownL] at hc ⊢ <;> first | exact hc.1 | exact hc
theorem He {l:List Nat} {c:AV} (hc:aW l c=true):knownA l c=true:=by
 cases c with
 | agg cs =>
  simp only [aW,knownA,List.all_eq_true] at hc ⊢
  exact fun c h=>mX (hc c h)
 | fn f x y =>
  simp only [aW,knownA,Bool.and_eq_true,List.all_eq_true] at hc ⊢
  exact ⟨fun c h=>mX (hc.1 c h),fun c h=>mX (hc.2 c h)⟩
 | _ =>
  simp only [aW,knownA] at hc ⊢
  exact mX hc
theorem I2 (nm:Bool) (r:Rel w X ρ h) {hs:List Nat} (hcl:∀ id,id ∈ hs→bh hs (h id)=true):Rel w X ρ (mk .dead h hs)∧Far nm w ρ h w ρ (mk .dead h hs) ∧
  ∀ {c:AV} {u:Value},RV w (aG w X h ρ) ρ h c u→knownA hs c=true→RV w (aG w X (mk .dead h hs) ρ) ρ (mk .dead h hs) c u:=by
 have at_:∀ id,id ∈ hs→mk .dead h hs id=h id:=fun id hi=>by rw [zf,if_pos hi]
 have not_:∀ id,id ∉ hs→mk .dead h hs id = .dead:=fun id hi=>by rw [zf,if_neg hi]
 have hl:∀ id sub,live (mk .dead h hs) id sub→id ∈ hs∧live h id sub:=by
  intro id sub h1
  by_cases hi:id ∈ hs
  ·exact ⟨hi,(bJ (at_ id hi)).1 h1⟩
  ·exfalso
   have:=not_ id hi
   cases sub <;> simp [live,this] at h1
 have hA:∀ b,aG w X h ρ b→aG w X (mk .dead h hs) ρ b∧w.heap[b]?=w.heap[b]?:=fun b hb=>⟨⟨hb.1,hb.2.1,fun ⟨id,sub,h1,h2⟩=>hb.2.2 ⟨id,sub,(hl id sub h1).2,h2⟩⟩,rfl⟩
 have hk:∀ id sub,bA h id sub→hs.contains id=true→bA (mk .dead h hs) id sub∧ρ id sub=ρ id sub:=fun id sub hp hi=>⟨(df (at_ id (by simpa using hi))).2 hp,rfl⟩
 have far:Far nm w ρ h w ρ (mk .dead h hs):=by
  refine ⟨rfl,rfl,rfl,Nat.le_refl _,fun _ _ _=>rfl,fun b ⟨id,sub,h1,h2⟩ => .inl ⟨id,sub,(hl id sub h1).2,h2⟩,fun id _ hd=>⟨fun e => ?_,rfl⟩,fun _ id p _ hd hp=>⟨?_,rfl⟩⟩
  ·by_cases hi:id ∈ hs
   ·rw [at_ id hi] at hd; exact hd e
   ·exact hd (not_ id hi)
  ·by_cases hi:id ∈ hs
   ·exact (df (at_ id hi)).2 hp
   ·exact absurd (not_ id hi) hd
 refine ⟨⟨fun a b c d h1 h2=>r.inj a b c d (hl a b h1).2 (hl c d h2).2,fun a b h1=>r.nx a b (hl a b h1).2,fun id => ?_,r.xl⟩,far,fun hv hc=>hv.knownA hA hk hc⟩
 by_cases hi:id ∈ hs
 ·have ho:=r.ob id
  have hc:=hcl id hi
  rw [at_ id hi]
  cases e:h id with
  | dead=>trivial
  | bx cs =>
   rw [e] at ho hc
   obtain ⟨us,t,h1,h2,h3,h4⟩:=ho
   refine ⟨us,t,h1,h2,h3,fun p c hcp => ?_⟩
   obtain ⟨u,h5,h6⟩:=h4 p c hcp
   refine ⟨u,h5,?_⟩
   simp only [bh,List.all_eq_true] at hc
   have hcc:=hc c (List.mem_of_getElem? hcp)
   cases hO:aR c with
   | true =>
    cases c <;> simp [aR] at hO
    obtain ⟨a,cap,us',t',g1,g2,g3,g4,g5,g6,g7⟩:=h6
    exact ⟨a,cap,us',t',g1,g2,g3,g4,g5,g6,g7.mono hA⟩
   | false =>
    rw [kX hO] at h6 ⊢
    have hca:aW hs c=true:=by simpa [eK,hO] using hcc
    refine ⟨h6.1.knownA hA hk (He hca),h6.2.1,?_⟩
    have h7:=h6.2.2
    cases c <;> try exact h7
    rename_i id' sub' _ _ _
    cases sub' with
    | none =>
     have hm:id' ∈ hs:=by simpa [aW,bg] using hca
     simp only [gD] at h7 ⊢
     rw [at_ id' hm]; exact h7
    | some p=>exact h7
  | ar k rows =>
   rw [e] at ho
   obtain ⟨us,t,h1,h2,h3,h4⟩:=ho
   exact ⟨us,t,h1,h2,h3,h4.mono hA⟩
  | fz k rows =>
   rw [e] at ho
   obtain ⟨h0,us,t,fr,h1,h2,h3,h4⟩:=ho
   exact ⟨(hA _ h0).1,us,t,fr,h1,h2,h3,h4.mono hA⟩
 ·rw [not_ id hi]
  trivial
end
def Vh:Ex→Exit
 | .normal => .normal
 | .exit id => .exit id
 | .ret => .ret
def Gt (P:Program) (I:Inv) (call:eH) (md:Mode) (N:Nat):Prop :=
 ∀ {id:Nat} {ops:Array Oper} {cl:List COp} {w:World} {X:Nat→Prop} {ρ:bj} {h:ac} {s:am} {a:Act} {t:St} {ps:List (Nat × Nat)} {Q:Exit→Act→World→Prop},kY P N ops ops.toList=some cl→QE ops.toList cl ps=true→Ok I N w X ρ h s a→pL call md cl ps s h=some t →
  (∀ a' w' ρ',Ok I N w' X ρ' t.h t.s a'→Far md.nm w ρ h w' ρ' t.h→Q .normal a' w')→(Code.region id ops true).wp P Q a w
section
variable {P:Program} {X:Nat→Prop} {call:eH} {md:Mode} {N:Nat} {I:Inv} {nm:Bool}
theorem xG (s:am) (ks:List Nat) (i:Nat):mk .any s ks i=s i∨mk .any s ks i = .any:=by
 rw [zf]
 split
 ·exact .inl rfl
 ·exact .inr rfl
theorem OM (hs:List Nat) (a:AV):(dJ hs a=a∧knownA hs a=true)∨dJ hs a = .any:=by
 unfold dJ
 split
 ·exact .inl ⟨rfl,by assumption⟩
 ·exact .inr rfl
theorem QW {w:World} {ρ:bj} {h:ac} {s:am} {a:Act} (ok:Ok I N w X ρ h s a) {ks hs:List Nat} (hcl:(hs.all fun a=>bh hs (h a))=true) :
  Ok I N w X ρ (mk .dead h hs) (mk .any (fun i=>dJ hs (s i)) ks) a∧Far nm w ρ h w ρ (mk .dead h hs):=by
 obtain ⟨h1,h2,h3⟩:=I2 nm ok.rel (hs:=hs) (fun id hi=>List.all_eq_true.1 hcl id hi)
 refine ⟨⟨h1,fun i => ?_,ok.size,ok.defers,ok.inv⟩,h2⟩
 rcases xG (fun i=>dJ hs (s i)) ks i with e | e
 ·rw [e]
  rcases OM hs (s i) with ⟨e2,e3⟩ | e2
  ·rw [e2]; exact h3 (ok.rs i) e3
  ·rw [e2]; exact .anyv _
 ·rw [e]; exact .anyv _
def Gu (P:Program) (I:Inv) (nm:Bool) (X:Nat→Prop) (N:Nat) (f:am→ac→Option (Ex × St)) (c:Code):Prop :=
 ∀ {s:am} {h:ac} {e:Ex} {t:St} {w:World} {ρ:bj} {a:Act} {Q:Exit→Act→World→Prop},f s h=some (e,t)→Ok I N w X ρ h s a→(∀ a' w' ρ',Ok I N w' X ρ' t.h t.s a'→Far nm w ρ h w' ρ' t.h→Q (Vh e) a' w')→c.wp P Q a w
theorem CD {body:am→ac→Option (Ex × St)} {c:Code} (hb:Gu P I nm X N body c) {ks hs:List Nat}:∀ (n:Nat) {s:am} {h:ac} {e:Ex} {t:St} {w:World} {ρ:bj} {a:Act} {Q:Exit→Act→World→Prop},
  kt body ks hs n s h=some (e,t)→Ok I N w X ρ h s a→(∀ a' w' ρ',Ok I N w' X ρ' t.h t.s a'→Far nm w ρ h w' ρ' t.h→Q (Vh e) a' w')→Code.rounds P c Q n a w
 | 0,s,h,e,t,w,ρ,a,Q,hz,_,_=>by simp [kt] at hz
 | n+1,s,h,e,t,w,ρ,a,Q,hz,ok,hQ=>by
  simp only [kt] at hz
  split at hz
  ·rename_i hcl
   obtain ⟨ok1,far1⟩:=QW ok (ks:=ks) hcl
   rw [rounds_succ]
   split at hz
   ·rename_i t1 ht1
    exact hb ht1 ok1 fun a' w' ρ' ok2 far2=>CD hb n hz ok2 fun a'' w'' ρ'' ok3 far3=>hQ _ _ ρ'' ok3 (far1.trans (far2.trans far3))
   ·rename_i r hne
    refine hb hz ok1 fun a' w' ρ' ok2 far2 => ?_
    have:=hQ a' w' ρ' ok2 (far1.trans far2)
    cases e with
    | normal=>exact absurd hz (hne t)
    | exit id=>exact this
    | ret=>exact this
  ·cases hz
theorem ON {i:Nat} {w:World} {ρ:bj} {h:ac} {s:am} {a:Act} {r:am × ac × K} (ok:Ok I N w X ρ h s a) (hz:Tx i s h (s i)=some r) (hnm:qB nm r.2.2=true) :
  Ok I N w X ρ r.2.1 r.1 a∧Far nm w ρ h w ρ r.2.1:=by
 have hv:=ok.rs i
 cases hi:s i <;> rw [hi] at hz hv <;> simp only [Tx] at hz <;> try (cases hz; done)
 case rsl id sub k lo n =>
  simp only [Option.map_eq_some_iff] at hz
  obtain ⟨q,e1,rfl⟩:=hz
  obtain ⟨x,h',ks⟩:=q
  have h1:(a.tmps.getD i undef).oneCell'=true:=by
   obtain ⟨_,_,e,_⟩:=hv.rsl_inv
   rw [e]; rfl
  obtain ⟨g1,g2,g3,g4⟩:=vA ok.rel hv (fun b hb=>hb) h1 e1
  refine ⟨⟨g1,fun j => ?_,ok.size,ok.defers,g2.inv ok.rel ok.inv⟩,g2.far hnm⟩
  show RV w (aG w X h' ρ) ρ h' (upd (ng ks s) i x j) _
  rw [bX]
  split
  ·rename_i hj; subst hj; exact .dat g3
  ·exact g2.rs ok.rs j
 case ref id sub k j l =>
  cases sub with
  | some p=>cases hz
  | none =>
   simp only at hz
   cases ho:h id <;> rw [ho] at hz <;> simp only at hz <;> try (cases hz; done)
   cases hz
   rename_i cs
   obtain ⟨g1,g2⟩:=xB (ds:=cs.map iz) ok.rel ho (by simp) fun p c hc=>by
    cases hq:aR c with
    | true=>exact .inr ⟨rfl,by simp [hc]⟩
    | false=>exact .inl (by simp [hc,Nk hq])
   exact ⟨⟨g1,g2.rs ok.rs,ok.size,ok.defers,g2.inv ok.rel ok.inv⟩,g2.far hnm⟩
theorem CE:∀ (is:List Nat) {w:World} {ρ:bj} {h:ac} {s:am} {a:Act} {t:St},Ok I N w X ρ h s a→Er nm is s h=some t→Ok I N w X ρ t.h t.s a∧Far nm w ρ h w ρ t.h
 | [],w,ρ,h,s,a,t,ok,hz=>by cases hz; exact ⟨ok,.refl _ _ _ _⟩
 | i::l,w,ρ,h,s,a,t,ok,hz=>by
  simp only [Er,Option.bind_eq_some_iff] at hz
  obtain ⟨r,e1,e2⟩:=hz
  split at e2
  ·rename_i hn
   obtain ⟨g1,g2⟩:=ON ok e1 hn
   obtain ⟨f1,f2⟩:=CE l g1 e2
   exact ⟨f1,g2.trans f2⟩
  ·cases e2
theorem OO (hcall:jn P I call md) (hN:N≤1000) (hD:Gt P I call md N) (lf:Nat):∀ (cmd:Cmd) (c:Code),eg P N c cmd=some cmd→Gu P I md.nm X N (bi call md lf cmd) c:=by
 intro cmd
 induction cmd with
 | skip =>
  intro c hc s h e t w ρ a Q hz ok hQ
  cases c <;> (try simp only [eg] at hc) <;> (try (cases hc; done))
  ·simp only [bi,Option.some.injEq,Prod.mk.injEq] at hz
   obtain ⟨rfl,rfl⟩:=hz
   exact wp_skip (hQ _ _ ρ ok (.refl _ _ _ _))
  all_goals (exfalso; revert hc; simp [Option.bind_eq_some_iff])
 | ops ks l =>
  intro c hc s h e t w ρ a Q hz ok hQ
  cases c <;> (try simp only [eg] at hc) <;> (try (cases hc; done))
  rename_i id ops dr
  cases dr <;> (try simp only [eg] at hc) <;> (try (cases hc; done))
  simp only [Option.map_eq_some_iff] at hc
  obtain ⟨l',h1,h2⟩:=hc
  cases h2
  simp only [bi,bc] at hz
  split at hz
  ·cases hz
  ·rename_i t1 ht1
   simp only [Option.some.injEq,Prod.mk.injEq] at hz
   obtain ⟨rfl,rfl⟩:=hz
   refine wp_region ?_
   rw [List.range_eq_range',show ops.size=ops.toList.length from Array.length_toList.symm]
   exact Gs hcall hN ops.toList l 0 (fun j o hj=>by simpa using hj) h1 ok ht1 fun a' w' ρ' ok' far=>hQ _ _ ρ' (ok'.some (xG _ _)) far
 | dops ks l ps =>
  intro c hc s h e t w ρ a Q hz ok hQ
  cases c <;> (try simp only [eg] at hc) <;> (try (cases hc; done))
  rename_i id ops dr
  cases dr <;> (try simp only [eg] at hc) <;> (try (cases hc; done))
  simp only [Option.bind_eq_some_iff] at hc
  obtain ⟨l',h1,h2⟩:=hc
  split at h2
  ·rename_i hps
   cases h2
   simp only [bi,bc] at hz
   split at hz
   ·cases hz
   ·rename_i t1 ht1
    simp only [Option.some.injEq,Prod.mk.injEq] at hz
    obtain ⟨rfl,rfl⟩:=hz
    exact hD h1 hps ok ht1 fun a' w' ρ' ok' far=>hQ _ _ ρ' (ok'.some (xG _ _)) far
  ·cases h2
 | seq x y ihx ihy =>
  intro c hc s h e t w ρ a Q hz ok hQ
  cases c <;> (try simp only [eg] at hc) <;> (try (cases hc; done))
  simp only [Option.bind_eq_some_iff,Option.map_eq_some_iff] at hc
  obtain ⟨c1,h1,c2,h2,h3⟩:=hc
  cases h3
  simp only [bi,bo] at hz
  refine wp_seq ?_
  split at hz
  ·cases hz
  ·rename_i t1 ht1
   exact ihx _ h1 ht1 ok fun a' w' ρ' ok1 far1=>ihy _ h2 hz ok1 fun a'' w'' ρ'' ok2 far2=>hQ _ _ ρ'' ok2 (far1.trans far2)
  ·rename_i i t1 ht1
   cases hz
   exact ihx _ h1 ht1 ok fun a' w' ρ' ok1 far1=>hQ a' w' ρ' ok1 far1
  ·rename_i t1 ht1
   cases hz
   exact ihx _ h1 ht1 ok fun a' w' ρ' ok1 far1=>hQ a' w' ρ' ok1 far1
 | cond b x y ihx ihy =>
  intro c hc s h e t w ρ a Q hz ok hQ
  cases c <;> (try simp only [eg] at hc) <;> (try (cases hc; done))
  simp only [Option.bind_eq_some_iff,Option.map_eq_some_iff] at hc
  obtain ⟨b',h0,c1,h1,c2,h2,h3⟩:=hc
  cases h3
  simp only [bi] at hz
  have hv:=aN h0 ok.rs
  unfold ju at hz
  split at hz
  ·rename_i tt htt
   rw [htt] at hv
   refine wp_cond hv.v_inv.1 ?_
   cases tt with
   | true=>exact ihx _ h1 hz ok hQ
   | false=>exact ihy _ h2 hz ok hQ
  ·cases hz
 | block id ks x ih =>
  intro c hc s h e t w ρ a Q hz ok hQ
  cases c <;> (try simp only [eg] at hc) <;> (try (cases hc; done))
  simp only [Option.map_eq_some_iff] at hc
  obtain ⟨c1,h1,h3⟩:=hc
  cases h3
  simp only [bi] at hz
  refine wp_block ?_
  unfold au at hz
  split at hz
  ·cases hz
  ·rename_i t1 ht1
   cases hz
   exact ih _ h1 ht1 ok fun a' w' ρ' ok1 far1=>hQ a' w' ρ' (ok1.some (xG _ _)) far1
  ·rename_i i t1 ht1
   refine ih _ h1 ht1 ok fun a' w' ρ' ok1 far1 => ?_
   split at hz
   ·rename_i hi
    cases hz
    have:=hQ a' w' ρ' (ok1.some (xG _ _)) far1
    simpa [Vh,Exit.inBlock,hi] using this
   ·rename_i hi
    cases hz
    have:=hQ a' w' ρ' ok1 far1
    simpa [Vh,Exit.inBlock,hi] using this
  ·rename_i t1 ht1
   cases hz
   exact ih _ h1 ht1 ok fun a' w' ρ' ok1 far1=>hQ a' w' ρ' ok1 far1
 | loop ks hs x ih =>
  intro c hc s h e t w ρ a Q hz ok hQ
  cases c <;> (try simp only [eg] at hc) <;> (try (cases hc; done))
  simp only [Option.map_eq_some_iff] at hc
  obtain ⟨c1,h1,h3⟩:=hc
  cases h3
  simp only [bi] at hz
  exact wp_loop_rounds lf (CD (ih _ h1) lf hz ok hQ)
 | exit id =>
  intro c hc s h e t w ρ a Q hz ok hQ
  cases c <;> (try simp only [eg] at hc) <;> (try (cases hc; done))
  cases hc
  simp only [bi,Option.some.injEq,Prod.mk.injEq] at hz
  obtain ⟨rfl,rfl⟩:=hz
  exact wp_exit (hQ _ _ ρ ok (.refl _ _ _ _))
 | ret =>
  intro c hc s h e t w ρ a Q hz ok hQ
  cases c <;> (try simp only [eg] at hc) <;> (try (cases hc; done))
  simp only [bi,Option.some.injEq,Prod.mk.injEq] at hz
  obtain ⟨rfl,rfl⟩:=hz
  exact wp_ret (hQ _ _ ρ ok (.refl _ _ _ _))
 | frz is x ih =>
  intro c hc s h e t w ρ a Q hz ok hQ
  have hc':(eg P N c x).map (Cmd.frz is)=some (.frz is x):=by
   cases c <;> simpa only [eg] using hc
  simp only [Option.map_eq_some_iff] at hc'
  obtain ⟨c1,h1,h3⟩:=hc'
  cases h3
  simp only [bi,bc] at hz
  split at hz
  ·cases hz
  ·rename_i t1 ht1
   obtain ⟨ok1,far1⟩:=CE is ok ht1
   exact ih _ h1 hz ok1 fun a' w' ρ' ok2 far2=>hQ a' w' ρ' ok2 (far1.trans far2)
end
def vC (P:Program) (I:Inv) (kp:Bool) (f:FuncId) (g:List AV→List Ob→Option (AV × List Ob)):Prop :=
 ∀ {args:List AV} {obs obs':List Ob} {res:AV} {w:World} {X:Nat→Prop} {ρ:bj} {vals:Array Value} {n:Nat},g args obs=some (res,obs')→2000≤n→I.p w X→Rel w X ρ (aB obs)→vals.size=args.length →
  (∀ (i:Nat) (c:AV) (u:Value),args[i]?=some c→vals[i]?=some u→RV w (aG w X (aB obs) ρ) ρ (aB obs) c u) →
  Enters P f vals w fun v w'=>∃ ρ',Rel w' X ρ' (mat n (aB obs') res).2∧Far kp w ρ (aB obs) w' ρ' (mat n (aB obs') res).2∧RV w' (aG w' X (mat n (aB obs') res).2 ρ') ρ' (mat n (aB obs') res).2 (mat n (aB obs') res).1 v
def p7 (tmps:Array Value):ResultVar→Sem Value
 | .tmp t=>pure (tmps.getD t Go.undef)
 | .cell c t=>do loadVar t (← asAddr (tmps.getD c Go.undef))
section
variable {P:Program} {w w':World} {X:Nat→Prop} {ρ ρ':bj} {h h':ac} {s:am} {a:Act} {call:eH} {md:Mode} {N:Nat}
theorem Ah:∀ (rs:List ResultVar) (l:List Rv) {h h':ac} {s:am} {vs:List AV} {ks:K},vx P rs=some l→Rel w X ρ h→RS w (aG w X h ρ) ρ h s a.tmps→nX s h l=some (vs,h',ks) →
  ∃ us:List Value,(rs.mapM (p7 a.tmps)).run P w = .ok us w∧us.length=vs.length∧Rel w X ρ h'∧Evo w ρ h w ρ h' ks ∧
   ∀ (i:Nat) (c:AV) (u:Value),vs[i]?=some c→us[i]?=some u→RV w (aG w X h' ρ) ρ h' c u
 | [],l,h,h',s,vs,ks,hc,r,hs,hz=>by
  simp only [vx,Option.some.injEq] at hc
  subst hc
  simp only [nX,Option.some.injEq,Prod.mk.injEq] at hz
  obtain ⟨rfl,rfl,rfl⟩:=hz
  exact ⟨[],rfl,rfl,r,.refl _ _ _,fun i c u hc=>by simp at hc⟩
 | x::rs,l,h,h',s,vs,ks,hc,r,hs,hz=>by
  have step1:∃ rv l',l=rv::l'∧vx P rs=some l'∧∀ {z:AV} {h1:ac} {k1:K},Tz s h rv=some (z,h1,k1)→∃ v,(p7 a.tmps x).run P w = .ok v w ∧
    Rel w X ρ h1∧Evo w ρ h w ρ h1 k1∧RV w (aG w X h1 ρ) ρ h1 z v:=by
   cases x with
   | tmp t =>
    simp only [vx,Option.map_eq_some_iff] at hc
    obtain ⟨l',h1,rfl⟩:=hc
    refine ⟨_,l',rfl,h1,fun {z h1 k1} e => ?_⟩
    simp only [Tz,Option.some.injEq,Prod.mk.injEq] at e
    obtain ⟨rfl,rfl,rfl⟩:=e
    exact ⟨_,rfl,r,.refl _ _ _,hs t⟩
   | cell c t =>
    simp only [vx,Option.bind_eq_some_iff] at hc
    obtain ⟨g,g1,k,g2,hc⟩:=hc
    split at hc
    ·simp only [Option.map_eq_some_iff] at hc
     obtain ⟨l',h1,rfl⟩:=hc
     refine ⟨_,l',rfl,h1,fun {z h1 k1} e => ?_⟩
     obtain ⟨ad,v,q1,q2,q3,q4,q5⟩:=Ad (P:=P) r g1 g2 (hs c) e
     refine ⟨v,?_,q3,q4,q5⟩
     simp only [p7]
     rw [q1]
     exact q2
    ·cases hc
  obtain ⟨rv,l',rfl,hc',key⟩:=step1
  simp only [nX,Option.bind_eq_some_iff] at hz
  obtain ⟨⟨z,h1,k1⟩,e1,⟨vs',h2,k2⟩,e2,e3⟩:=hz
  cases e3
  obtain ⟨v,f1,f2,f3,f4⟩:=key e1
  obtain ⟨us,g1,g2,g3,g4,g5⟩:=Ah rs l' hc' f2 (f3.rs hs) e2
  refine ⟨v::us,by rw [List.mapM_cons,Sem.run_bind,f1]; simp only [Result.andThen]; rw [Sem.run_bind,g1]; rfl,by simp [g2],g3,f3.trans g4,fun i c u hc hu => ?_⟩
  cases i with
  | zero =>
   simp only [List.getElem?_cons_zero,Option.some.injEq] at hc hu
   subst hc hu
   cases k2 with
   | nil=>exact g4.rv f4
   | cons p k2 =>
    simp only [IT,mG]
    split
    ·exact .anyv _
    ·rename_i hm
     exact g4.rvk f4 (.inr (by simpa using hm))
  | succ i=>exact g5 i c u (by simpa using hc) (by simpa using hu)
end
structure Emb (L:List Nat) (f g:Nat→Nat) (h' h2:ac):Prop where
 back:∀ id,L.contains id=true→g (f id)=id∧h2 (f id)=dE f (h' id)
 obj:∀ i,h2 i ≠ .dead→h2 i=dE f (h' (g i))∧bh L (h' (g i))=true
 inj:∀ i j,h2 i ≠ .dead→h2 j ≠ .dead→g i=g j→i=j
section
variable {w:World} {X:Nat→Prop} {ρ:bj} {h' h2:ac} {A A2:Nat→Prop} {L:List Nat} {f g:Nat→Nat}
theorem xH {o:Ob}:dE f o = .dead↔o = .dead:=by cases o <;> simp [dE]
theorem Nm (o:Ob):bf (dE f o)=bf o:=by cases o <;> rfl
theorem TI {c:AV} {k:Nat} {rows:List (List AV)}:fw f c = .osl k rows↔c = .osl k rows:=by cases c <;> simp [fw,ni]
theorem QX (c:AV):aR (fw f c)=aR c:=by cases c <;> rfl
theorem RV.embL (em:Emb L f g h' h2) {c:AV} {u:Value} (hv:RV w A ρ h' c u) (hA:∀ b,A b→A2 b) (hm:bg L c=true):RV w A2 (fun i s=>ρ (g i) s) h2 (ni f c) u:=by
 cases hv with
 | anyv u=>exact .anyv u
 | und=>exact .und
 | dat hd =>
  have:ni f c=c:=by cases hd <;> rfl
  rw [this]
  exact .dat (hd.mono fun b hb=>⟨hA b hb,rfl⟩)
 | ref id sub k i j hp =>
  simp only [bg,Bool.and_eq_true] at hm
  obtain ⟨h1,h3⟩:=em.back id hm.1
  cases sub with
  | some p=>simp at hm
  | none =>
   have:=RV.ref (w:=w) (A:=A2) (ρ:=fun i s=>ρ (g i) s) (h:=h2) (f id) none k i j (by simp only [bA,h3,ne_eq,xH]; exact hp)
   simp only [h1] at this
   exact this
 | rsl id sub k lo n cap a hp hn hb ha =>
  simp only [bg,Bool.and_eq_true] at hm
  obtain ⟨h1,h3⟩:=em.back id hm.1
  cases sub with
  | some p=>simp at hm
  | none=>exact .rsl (f id) none k lo n cap a (by simp only [bA,h3,ne_eq,xH]; exact hp) hn (by simp only [h1]; exact hb) (by simp only [h1]; exact ha)
 | ipt cs ad vals hA' hs hv hl hr=>exact .ipt cs ad vals (hA _ hA') hs hv hl (fun j c hc=>(hr j c hc).mono fun b hb=>⟨hA b hb,rfl⟩)
 | agg cs us hs h1 hr=>simp [bg] at hm
 | tup vs us hs hr=>simp [bg] at hm
 | fn ff x y us ts hs ht hx hy =>
  simp [bg] at hm
  obtain ⟨rfl,rfl⟩:=hm
  exact .fn ff [] [] us ts hs ht (fun i c u hc=>by simp at hc) (fun i c u hc=>by simp at hc)
theorem RV.embA (em:Emb L f g h' h2) {c:AV} {u:Value} (hv:RV w A ρ h' c u) (hA:∀ b,A b→A2 b) (hm:aW L c=true):RV w A2 (fun i s=>ρ (g i) s) h2 (fw f c) u:=by
 cases c with
 | agg cs =>
  simp only [aW,List.all_eq_true] at hm
  obtain ⟨us,rfl,hs,h1,hr⟩:=hv.agg_inv
  refine .agg _ us (by simpa using hs) h1 fun i c u hc hu => ?_
  simp only [List.getElem?_map,Option.map_eq_some_iff] at hc
  obtain ⟨c',hc',rfl⟩:=hc
  exact (hr i c' u hc' hu).embL em hA (hm c' (List.mem_of_getElem? hc'))
 | fn ff x y =>
  simp only [aW,Bool.and_eq_true,List.all_eq_true] at hm
  obtain ⟨us,ts,rfl,hs,ht,hx,hy⟩:=hv.fn_inv
  refine .fn ff _ _ us ts (by simpa using hs) (by simpa using ht) (fun i c u hc hu => ?_) (fun i c u hc hu => ?_)
  ·simp only [List.getElem?_map,Option.map_eq_some_iff] at hc
   obtain ⟨c',hc',rfl⟩:=hc
   exact (hx i c' u hc' hu).embL em hA (hm.1 c' (List.mem_of_getElem? hc'))
  ·simp only [List.getElem?_map,Option.map_eq_some_iff] at hc
   obtain ⟨c',hc',rfl⟩:=hc
   exact (hy i c' u hc' hu).embL em hA (hm.2 c' (List.mem_of_getElem? hc'))
 | _ =>
  simp only [aW,fw] at hm ⊢
  exact hv.embL em hA hm
theorem Emb.live (em:Emb L f g h' h2) {i:Nat} {s:Option Nat} (hl:live h2 i s):live h' (g i) s∧h2 i ≠ .dead:=by
 have hd:h2 i ≠ .dead:=QC hl |> fun hp=>by
  cases s with
  | none=>exact hp
  | some p=>obtain ⟨_,_,_,e,_⟩:=hp; rw [e]; exact fun e=>by cases e
 obtain ⟨e,_⟩:=em.obj i hd
 refine ⟨?_,hd⟩
 cases s with
 | none =>
  simp only [Ab.live,e] at hl
  simp only [Ab.live]
  cases e2:h' (g i) <;> rw [e2] at hl <;> simp [dE] at hl ⊢
 | some p =>
  obtain ⟨cs,k,rows,e1,e2⟩:=hl
  rw [e] at e1
  cases e3:h' (g i) <;> rw [e3] at e1 <;> simp only [dE] at e1 <;> try (cases e1; done)
  rename_i cs'
  cases e1
  simp only [List.getElem?_map,Option.map_eq_some_iff] at e2
  obtain ⟨c,e4,e5⟩:=e2
  exact ⟨cs',k,rows,e3,by rw [e4,TI.1 e5]⟩
theorem Rel.emb (em:Emb L f g h' h2) (r:Rel w X ρ h') {X2:Nat→Prop} (hX:∀ b,X2 b→b < w.heap.size) (hnx:∀ i s,live h2 i s → ¬ X2 (ρ (g i) s).1) (hA:∀ b,aG w X h' ρ b→aG w X2 h2 (fun i s=>ρ (g i) s) b) :
  Rel w X2 (fun i s=>ρ (g i) s) h2:=by
 refine ⟨fun i s j t h1 h3 h4 => ?_,hnx,fun i => ?_,hX⟩
 ·obtain ⟨f1,f2⟩:=em.live h1
  obtain ⟨f3,f4⟩:=em.live h3
  obtain ⟨e1,e2⟩:=r.inj (g i) s (g j) t f1 f3 h4
  exact ⟨em.inj i j f2 f4 e1,e2⟩
 ·by_cases hd:h2 i = .dead
  ·rw [hd]; trivial
  ·obtain ⟨e,hc⟩:=em.obj i hd
   have ho:=r.ob (g i)
   rw [e]
   cases e2:h' (g i) with
   | dead=>trivial
   | bx cs =>
    rw [e2] at ho hc
    obtain ⟨us,t,h1,h3,h4,h5⟩:=ho
    refine ⟨us,t,h1,h3,by rw [List.length_map]; exact h4,fun p c hp => ?_⟩
    simp only [List.getElem?_map,Option.map_eq_some_iff] at hp
    obtain ⟨c',hp',rfl⟩:=hp
    obtain ⟨u,h6,h7⟩:=h5 p c' hp'
    refine ⟨u,h6,?_⟩
    simp only [bh,List.all_eq_true] at hc
    have hcc:=hc c' (List.mem_of_getElem? hp')
    cases hO:aR c' with
    | true =>
     cases c' <;> simp [aR] at hO
     obtain ⟨a,cap,us',t',g1,g2,g3,g4,g5,g6,g7⟩:=h7
     exact ⟨a,cap,us',t',g1,g2,g3,g4,g5,g6,g7.mono fun b hb=>⟨hA b hb,rfl⟩⟩
    | false =>
     have hca:aW L c'=true:=by simpa [eK,hO] using hcc
     rw [kX hO] at h7
     rw [kX (by rw [QX]; exact hO)]
     refine ⟨h7.1.embA em hA hca,h7.2.1,?_⟩
     have h8:=h7.2.2
     cases c' <;> first | exact h8.elim | trivial | skip
     ·rename_i id sub _ _ _
      cases sub with
      | some p=>exact h8.elim
      | none =>
       simp only [aW,bg,Bool.and_eq_true] at hca
       obtain ⟨_,e3⟩:=em.back id hca.1
       simp only [fw,ni,gD] at h8 ⊢
       rw [e3,Nm]
       exact h8
     ·rename_i ff x y
      simp only [gD,Bool.and_eq_true,List.all_eq_true] at h8
      simp only [fw,gD,Bool.and_eq_true,List.all_eq_true,List.mem_map]
      have key:∀ c,aD c=true→aD (ni f c)=true:=fun c hd=>by cases c <;> simp [aD,ni] at hd ⊢ <;> exact hd
      exact ⟨fun c ⟨c0,h9,h10⟩=>h10 ▸ key c0 (h8.1 c0 h9),fun c ⟨c0,h9,h10⟩=>h10 ▸ key c0 (h8.2 c0 h9)⟩
   | ar k rows =>
    rw [e2] at ho
    obtain ⟨us,t,h1,h3,h4,h5⟩:=ho
    exact ⟨us,t,h1,h3,h4,h5.mono fun b hb=>⟨hA b hb,rfl⟩⟩
   | fz k rows =>
    rw [e2] at ho
    obtain ⟨h0,us,t,fr,h1,h3,h4,h5⟩:=ho
    exact ⟨hA _ h0,us,t,fr,h1,h3,h4,h5.mono fun b hb=>⟨hA b hb,rfl⟩⟩
end
theorem VP (c:AV):ni (fun i=>i) c=c:=by cases c <;> rfl
theorem I3 {α:Type} {f:α→α} (hf:∀ a,f a=a) (l:List α):l.map f=l:=by
 rw [show f=id from funext hf,List.map_id]
theorem VQ (c:AV):fw (fun i=>i) c=c:=by
 cases c <;> simp [fw,ni,I3 VP]
theorem Ew (o:Ob):dE (fun i=>i) o=o:=by
 cases o <;> simp [dE,I3 VQ]
section
variable {L:List Nat} {g:Nat→Nat} {h' h2:ac}
theorem Emb.add (em:Emb L (fun i=>i) g h' h2) {m id:Nat} (hm:h2 m = .dead) (hL:L.contains m=false) (hid:∀ i,h2 i ≠ .dead→g i ≠ id) (hcl:bh L (h' id)=true):Emb L (fun i=>i) (upd g m id) h' (upd h2 m (h' id)):=by
 refine ⟨fun i hi => ?_,fun i hi => ?_,fun i j hi hj hg => ?_⟩
 ·have hne:i ≠ m:=by rintro rfl; rw [hL] at hi; cases hi
  rw [aI _ _ hne,aI _ _ hne]
  exact em.back i hi
 ·by_cases e:i=m
  ·subst e; rw [aA,aA,Ew]; exact ⟨rfl,hcl⟩
  ·rw [aI _ _ e] at hi ⊢
   rw [aI _ _ e]
   exact em.obj i hi
 ·by_cases e:i=m <;> by_cases e':j=m
  ·rw [e,e']
  ·subst e
   rw [aA,aI _ _ e'] at hg
   rw [aI _ _ e'] at hj
   exact absurd hg.symm (hid j hj)
  ·subst e'
   rw [aA,aI _ _ e] at hg
   rw [aI _ _ e] at hi
   exact absurd hg (hid i hi)
  ·rw [aI _ _ e] at hi
   rw [aI _ _ e'] at hj
   rw [aI _ _ e,aI _ _ e'] at hg
   exact em.inj i j hi hj hg
theorem gE {n i:Nat}:(bY n).contains i=true↔1000≤i∧i < 1000+n:=by
 simp [bY,List.mem_range']
 exact ⟨fun ⟨j,h1,h2⟩=>by omega,fun ⟨h1,h2⟩=>⟨i - 1000,by omega,by omega⟩⟩
theorem j9 (h':ac) (n i:Nat):aB ((bY n).map h') i=if 1000≤i∧i < 1000+n then h' i else .dead:=by
 unfold aB
 by_cases h1:1000≤i
 ·rw [if_pos h1]
  by_cases h2:i < 1000+n
  ·rw [if_pos ⟨h1,h2⟩]
   have:(bY n)[i - 1000]?=some i:=by
    unfold bY
    rw [List.getElem?_range' (show i - 1000 < n from by omega)]
    exact congrArg some (by omega)
   rw [List.getElem?_map,this]
   rfl
  ·rw [if_neg (by omega),List.getElem?_map,List.getElem?_eq_none (by simp [bY]; omega)]
   rfl
 ·rw [if_neg h1,if_neg (by omega)]
theorem Emb.base {n:Nat} (hcl:((bY n).all fun i=>bh (bY n) (h' i))=true):Emb (bY n) (fun i=>i) (fun i=>i) h' (aB ((bY n).map h')):=by
 refine ⟨fun i hi=>⟨rfl,?_⟩,fun i hi => ?_,fun i j _ _ hg=>hg⟩
 ·rw [j9,if_pos (gE.1 hi),Ew]
 ·rw [j9] at hi ⊢
  split at hi
  ·rename_i h1
   rw [if_pos h1,Ew]
   exact ⟨rfl,List.all_eq_true.1 hcl i (by simpa using gE.2 h1)⟩
  ·exact absurd rfl hi
end
section
variable {w:World} {X:Nat→Prop} {ρ:bj} {h' h2:ac} {A A2:Nat→Prop}
theorem zg {b k lo n cap:Nat} {us:Array Value} {e:TypeId} {fr:Nat × Nat} {rows:List (List AV)} {a:Option Addr} (hb:w.heap[b]?=some (.cells us e fr)) (hA2:A2 b) (hA:∀ b,A b→A2 b) (hr:bF w A k rows us)
  (hle:lo+n≤rows.length) (hn:n≤cap) (ha:cap=0∨a=some ⟨b,lo*k,none⟩):RD w A2 (kr k lo n rows) (.slice a n cap) :=
 n5 hb hA2 (hr.mono fun b hb=>⟨hA b hb,rfl⟩) hle hn ha
def Vi (w:World) (A:Nat→Prop) (ρ:bj) (h':ac) (a b:AV) (u:Value):Prop :=
 (∃ id k rows,b = .osl k rows∧a = .rsl id none k 0 rows.length∧h' id = .ar k rows∧aS id=false) ∨
 (∃ id cs,b = .obx cs∧a = .ref id none 0 0 0∧h' id = .bx cs∧cs.all gX=true∧aS id=false) ∨
 (b=a∧∃ id k i j,a = .ref id none k i j∧aS id=true) ∨
 (b=a∧aD a=true) ∨
 (aD b=true∧∀ A2:Nat→Prop,(∀ b,A b→A2 b)→(∀ id sub,gh a=[id]→live h' id sub→A2 (ρ id sub).1)→RD w A2 b u)
theorem re (r:Rel w X ρ h') {a b:AV} {u:Value} (hv:RV w (aG w X h' ρ) ρ h' a u) (he:gY h' a=some b):Vi w (aG w X h' ρ) ρ h' a b u:=by
 have dl:aD a=true→gY h' a=some a→Vi w (aG w X h' ρ) ρ h' a b u:=fun hd hq=>by
  rw [hq] at he
  cases he
  exact .inr (.inr (.inr (.inl ⟨rfl,hd⟩)))
 cases a with
 | rsl id sub k lo n =>
  obtain ⟨a,cap,rfl,hp,hn,hb,ha⟩:=hv.rsl_inv
  cases sub with
  | none =>
   simp only [gY] at he
   split at he
   ·cases he
   ·rename_i hps
    have ho:=r.ob id
    cases e:h' id with
    | dead=>rw [e] at he; cases he
    | ar k' rows =>
     rw [e] at he ho
     simp only [tG] at he
     split at he
     ·rename_i hc
      obtain ⟨rfl,hle⟩:=hc
      split at he
      ·rename_i hw
       obtain ⟨rfl,rfl⟩:=hw
       cases he
       exact .inl ⟨id,k',rows,rfl,rfl,e,by simpa using hps⟩
      ·cases he
       obtain ⟨us,t,h1,h3,h4,h5⟩:=ho
       exact .inr (.inr (.inr (.inr ⟨rfl,fun A2 hA hl=>zg h1 (hl id none rfl (by simp [live,e])) hA h5 hle hn ha⟩)))
     ·cases he
    | fz k' rows =>
     rw [e] at he ho
     simp only [tG] at he
     split at he
     ·rename_i hc
      obtain ⟨rfl,hle⟩:=hc
      cases he
      obtain ⟨h0,us,t,fr,h1,h3,h4,h5⟩:=ho
      exact .inr (.inr (.inr (.inr ⟨rfl,fun A2 hA hl=>zg h1 (hA _ h0) hA h5 hle hn ha⟩)))
     ·cases he
    | bx cs =>
     rw [e] at he
     simp only [tG] at he
     split at he
     ·rename_i hc
      obtain ⟨rfl,hle,hd⟩:=hc
      cases he
      obtain ⟨us,t,h1,h3,h4,h5⟩:=r.cell e
      refine .inr (.inr (.inr (.inr ⟨rfl,fun A2 hA hl=>n5 h1 (hl id none rfl (by simp [live,e])) (fun i row hi => ?_) (by simpa [lH] using hle) hn ha⟩)))
      simp only [lH,List.getElem?_map,Option.map_eq_some_iff] at hi
      obtain ⟨c,hc,rfl⟩:=hi
      refine ⟨rfl,fun j d hj => ?_⟩
      cases j with
      | succ j=>simp at hj
      | zero =>
       simp at hj
       subst hj
       obtain ⟨u,h6,h7⟩:=h5 i c hc
       have hdc:=List.all_eq_true.1 hd c (List.mem_of_getElem? hc)
       exact ⟨u,by simpa using h6,AO h7 hdc hA (fun k rows ec=>by subst ec; exact hl id (some i) rfl ⟨cs,k,rows,e,hc⟩),vz hdc⟩
     ·cases he
  | some p =>
   simp only [gY] at he
   split at he
   ·cases he
   ·cases e:h' id with
    | bx cs =>
     rw [e] at he
     simp only [pd] at he
     cases ec:cs[p]? with
     | none=>rw [ec] at he; cases he
     | some c =>
      rw [ec] at he
      cases c <;> simp only [vk,XJ] at he <;> try (cases he; done)
      split at he
      ·rename_i hc
       obtain ⟨rfl,hle⟩:=hc
       cases he
       obtain ⟨us,t,h1,h3,h4,h5⟩:=r.cell e
       obtain ⟨u,_,a',cap',us',t',_,_,_,q4,q5,q6,q7⟩:=h5 p _ ec
       exact .inr (.inr (.inr (.inr ⟨rfl,fun A2 hA hl=>zg q4 (hl id (some p) rfl ⟨cs,_,_,e,ec⟩) hA q7 hle hn ha⟩)))
      ·cases he
    | _=>rw [e] at he; cases he
 | ref id sub k i j =>
  cases sub with
  | some p=>simp [gY,aD] at he
  | none =>
   simp only [gY] at he
   split at he
   ·rename_i hps
    cases he
    exact .inr (.inr (.inl ⟨rfl,id,k,i,j,rfl,hps⟩))
   ·rename_i hps
    split at he
    ·rename_i hc
     obtain ⟨rfl,rfl,rfl⟩:=hc
     cases e:h' id <;> rw [e] at he <;> simp only [Ty] at he <;> try (cases he; done)
     split at he
     ·rename_i hd
      cases he
      exact .inr (.inl ⟨id,_,rfl,rfl,e,hd,by simpa using hps⟩)
     ·cases he
    ·cases he
 | fn f x y =>
  simp only [gY] at he
  split at he
  ·rename_i hd; exact dl hd (by simp [gY,hd])
  ·cases he
 | any=>exact dl rfl rfl
 | v x=>exact dl rfl rfl
 | emp=>exact dl rfl rfl
 | sl k rows=>exact dl rfl rfl
 | _=>simp [gY,aD] at he
theorem I4 {b c:AV} (hdl:aD b=true) (hd:qD b=some c):c=b:=by
 unfold qD at hd
 split at hd
 ·simp [aD] at hdl
 ·rw [if_pos hdl] at hd
  cases hd
  rfl
theorem CF (r:Rel w X ρ h') {a b c:AV} {u:Value} (hv:RV w (aG w X h' ρ) ρ h' a u) (h1:u.oneCell'=true) (he:gY h' a=some b) (hd:qD b=some c) :
  aD c=true∧∀ A2:Nat→Prop,(∀ b,aG w X h' ρ b→A2 b)→(∀ id sub,gh a=[id]→live h' id sub→A2 (ρ id sub).1)→RD w A2 c u:=by
 rcases re r hv he with ⟨id,k,rows,rfl,rfl,e,_⟩ | ⟨id,cs,rfl,_⟩ | ⟨rfl,id,k,i,j,rfl,_⟩ | ⟨rfl,hdl⟩ | ⟨hdl,hr⟩
 ·simp only [qD,Option.some.injEq] at hd
  subst hd
  refine ⟨rfl,fun A2 hA hl => ?_⟩
  obtain ⟨a,cap,rfl,hp,hn,hb,ha⟩:=hv.rsl_inv
  have ho:=r.ob id
  rw [e] at ho
  obtain ⟨us,t,g1,g2,g3,g4⟩:=ho
  have:=zg (w:=w) (A2:=A2) (lo:=0) g1 (hl id none rfl (by simp [live,e])) hA g4 (by omega) hn ha
  simpa [kr] using this
 ·simp [qD,aD] at hd
 ·simp [qD,aD] at hd
 ·have:c=b:=I4 hdl hd
  subst this
  exact ⟨hdl,fun A2 hA _=>(hv.toD hdl h1).mono fun b hb=>⟨hA b hb,rfl⟩⟩
 ·have:c=b:=I4 hdl hd
  subst this
  exact ⟨hdl,hr⟩
theorem Ai (r:Rel w X ρ h'):∀ (cs ds:List AV),gl h' cs=some ds→ds.length=cs.length∧∀ (i:Nat) (a c:AV) (u:Value),cs[i]?=some a→ds[i]?=some c→RV w (aG w X h' ρ) ρ h' a u→u.oneCell'=true →
  aD c=true∧∀ A2:Nat→Prop,(∀ b,aG w X h' ρ b→A2 b)→(∀ id sub,gh a=[id]→live h' id sub→A2 (ρ id sub).1)→RD w A2 c u
 | [],ds,he=>by simp [gl] at he; subst he; exact ⟨rfl,fun i a c u hc=>by simp at hc⟩
 | a::cs,ds,he=>by
  simp only [gl,Option.bind_eq_some_iff] at he
  obtain ⟨b,e1,c,e2,q,e3,e4⟩:=he
  cases e4
  obtain ⟨g1,g2⟩:=Ai r cs q e3
  refine ⟨by simp [g1],fun i a' c' u hc hd hv h1 => ?_⟩
  cases i with
  | zero =>
   simp only [List.getElem?_cons_zero,Option.some.injEq] at hc hd
   subst hc hd
   exact CF r hv h1 e1 e2
  | succ i=>exact g2 i a' c' u (by simpa using hc) (by simpa using hd) hv h1
end
def uC (f:ac→Option R3) (p:ac→ac→Fp) (h:ac) (x:AV) (h':ac) (r w:List Nat):Prop :=
 ∀ g:ac,(∀ i,bO i ∈ r∨bO i ∈ w→g i=h i)→∃ g',f g=some (x,g',[])∧p g g'=some (r,w)∧(∀ i,bO i ∈ w→g' i=h' i)∧(∀ i,bO i ∉ w→g' i=g i)
section
variable {h h' g:ac} {x:AV} {r w:List Nat}
theorem tK {f:ac→Option R3} {p:ac→ac→Fp} (hw:w=[]) (hp:∀ g g',p g g'=some (r,w)) (hf:∀ g:ac,(∀ i,bO i ∈ r→g i=h i)→f g=some (x,g,[])):uC f p h x h' r w:=fun g hg=>by
 subst hw
 exact ⟨g,hf g fun i hi=>hg i (.inl hi),hp g g,fun i hi=>by simp at hi,fun _ _=>rfl⟩
theorem jy {f:ac→Option R3} {p:ac→ac→Fp} {d:Nat} {o:Ob} (hd:bO d ∈ w) (hh:h'=upd h d o) (hp:∀ g g',p g g'=some (r,w)) (hf:∀ g:ac,g d=h d→f g=some (x,upd g d o,[])):uC f p h x h' r w:=fun g hg=>by
 refine ⟨upd g d o,hf g (hg d (.inr hd)),hp g _,fun i hi => ?_,fun i hi => ?_⟩
 ·subst hh
  unfold upd
  split
  ·rfl
  ·exact hg i (.inr hi)
 ·unfold upd
  split
  ·rename_i e; subst e; exact absurd hd hi
  ·rfl
theorem TJ {a:AV} (hd:aD a=true) (h:ac):fv h a=some (a,h,[]):=by
 cases a <;> simp [aD] at hd <;> simp [fv,aD,hd]
theorem ii:∀ {xs:List AV},xs.all aD=true→∀ h:ac,dI h xs=some (xs,h,[])
 | [],_,h=>rfl
 | a::l,hd,h=>by
  simp only [List.all_cons,Bool.and_eq_true] at hd
  simp only [dI,TJ hd.1 h,ii hd.2 h,Option.bind_some,List.append_nil]
theorem rf {a:AV} {xs:List AV} (hd:dat a=true) (hc:dB a=some xs):xs.all aD=true:=by
 cases a <;> simp only [dat,aD,dB,Option.some.injEq] at hd hc <;> first | (cases hc; done) | (cases hd; done) | skip
 all_goals subst hc
 all_goals first | exact hd | simp [aD] | skip
 simp [] at hd ⊢
 exact hd
theorem xI {k:Nat}:∀ {ps:List (Nat × AV)} {rows rows':List (List AV)} {h h':ac} {ks:K},(ps.all fun p=>dat p.2)=true→cV k h rows ps=some (rows',h',ks)→h'=h∧ks=[]∧∀ g:ac,cV k g rows ps=some (rows',g,[])
 | [],rows,rows',h,h',ks,_,hz=>by
  simp only [cV,Option.some.injEq,Prod.mk.injEq] at hz
  obtain ⟨rfl,rfl,rfl⟩:=hz
  exact ⟨rfl,rfl,fun g=>rfl⟩
 | (i,a)::ps,rows,rows',h,h',ks,hd,hz=>by
  simp only [List.all_cons,Bool.and_eq_true] at hd
  simp only [cV,Option.bind_eq_some_iff] at hz
  obtain ⟨cs,e1,hz⟩:=hz
  split at hz
  ·rename_i hc
   have hcs:=rf hd.1 e1
   simp only [ii hcs h,Option.bind_some,Option.bind_eq_some_iff] at hz
   obtain ⟨⟨r1,r2,r3⟩,e2,e3⟩:=hz
   simp only [List.nil_append,Option.some.injEq,Prod.mk.injEq] at e3
   obtain ⟨rfl,rfl,rfl⟩:=e3
   obtain ⟨q1,q2,q3⟩:=xI hd.2 e2
   refine ⟨q1,q2,fun g => ?_⟩
   simp only [cV,e1,Option.bind_some,if_pos hc,ii hcs g,q3 g,List.nil_append]
  ·cases hz
theorem p8 {k k0 i j:Nat} {agg:Bool} {o:Option (Nat × List (List AV))} {ks:K} (hz:kC h k agg k0 i j o=some (x,h',ks)):h'=h∧ks=[]∧∀ g:ac,kC g k agg k0 i j o=some (x,g,[]):=by
 cases o with
 | none=>cases hz
 | some q =>
  obtain ⟨k',rows⟩:=q
  simp only [kC] at hz
  split at hz
  ·rename_i hk
   simp only [Option.bind_eq_some_iff,Option.map_eq_some_iff] at hz
   obtain ⟨row,e1,a,e2,e3⟩:=hz
   cases e3
   refine ⟨rfl,rfl,fun g => ?_⟩
   simp only [kC,if_pos hk,e1,Option.bind_some,e2,Option.map_some]
  ·cases hz
theorem QY {k id k0 i j:Nat} {agg:Bool} {o:Ob} (hz:pI h k agg id k0 i j o=some (x,h',[])):h'=h∧∀ g:ac,pI g k agg id k0 i j o=some (x,g,[]):=by
 cases o with
 | dead=>cases hz
 | bx cs =>
  simp only [pI,vm] at hz ⊢
  cases agg with
  | true =>
   simp only [if_true] at hz ⊢
   split at hz
   ·rename_i hc
    simp only [if_pos hc]
    split at hz
    ·cases hz
    ·rename_i hn
     simp only [if_neg hn]
     cases hz
     exact ⟨rfl,fun g=>rfl⟩
   ·cases hz
  | false =>
   simp only [Bool.false_eq_true,if_false,Option.map_eq_some_iff] at hz ⊢
   obtain ⟨c,e1,e2⟩:=hz
   cases e2
   exact ⟨rfl,fun g=>⟨c,e1,rfl⟩⟩
 | ar k' rows =>
  simp only [pI] at hz ⊢
  exact ⟨(p8 hz).1,(p8 hz).2.2⟩
 | fz k' rows =>
  simp only [pI] at hz ⊢
  exact ⟨(p8 hz).1,(p8 hz).2.2⟩
theorem OP {k:Nat} {agg:Bool} {a:AV} (hz:dZ h k agg a=some (x,h',[])) (hp:kV a=some (r,w)):uC (fun g=>dZ g k agg a) (fun _ _=>kV a) h x h' r w:=by
 cases a <;> simp only [kV] at hp <;> try (cases hp; done)
 case ipt cs =>
  cases hp
  refine tK rfl (fun _ _=>rfl) fun g _ => ?_
  simp only [dZ,Option.map_eq_some_iff] at hz ⊢
  obtain ⟨_,e1,e2⟩:=hz
  cases e2
  exact ⟨_,e1,rfl⟩
 case ref id sub k0 i j =>
  cases hp
  refine tK rfl (fun _ _=>rfl) fun g hg => ?_
  have hid:g id=h id:=hg id (by simp)
  cases sub with
  | none =>
   simp only [dZ] at hz ⊢
   rw [hid]
   exact (QY hz).2 g
  | some p =>
   simp only [dZ] at hz ⊢
   rw [hid]
   exact (p8 hz).2.2 g
theorem Mb {k:Nat} {a y:AV} (hz:fX h k a y=some (x,h',[])) (hp:pK y a=some (r,w)):uC (fun g=>fX g k a y) (fun _ _=>pK y a) h x h' r w:=by
 cases a <;> simp only [pK] at hp <;> try (cases hp; done)
 rename_i id sub k0 i j
 split at hp
 ·rename_i hd
  cases hp
  simp only [fX,Option.bind_eq_some_iff] at hz
  obtain ⟨xs,e1,hz⟩:=hz
  have hxs:=rf hd e1
  split at hz
  ·rename_i hk
   cases sub with
   | none =>
    simp only at hz
    cases eo:h id with
    | bx cs =>
     rw [eo] at hz
     simp only [tF,En] at hz
     split at hz
     ·rename_i hc
      simp only [Option.some.injEq,Prod.mk.injEq] at hz
      obtain ⟨rfl,rfl,e3⟩:=hz
      refine jy (by simp) rfl (fun _ _=>by simp only [pK,if_pos hd]) fun g hg => ?_
      simp only [fX,e1,Option.bind_some,if_pos hk,hg,eo,tF,En,if_pos hc,hxs,if_true,e3]
     ·cases hz
    | ar k' rows =>
     rw [eo] at hz
     simp only [tF,ii hxs h,Option.bind_some,eo,Eo,Option.map_eq_some_iff] at hz
     obtain ⟨q,e2,e3⟩:=hz
     cases e3
     refine jy (by simp) rfl (fun _ _=>by simp only [pK,if_pos hd]) fun g hg => ?_
     simp only [fX,e1,Option.bind_some,if_pos hk,hg,eo,tF,ii hxs g,Eo,e2,Option.map_some]
    | _=>rw [eo] at hz; cases hz
   | some p =>
    simp only [ii hxs h,Option.bind_some] at hz
    cases eo:h id with
    | bx cs =>
     rw [eo] at hz
     simp only [Cr] at hz
     cases ec:cs[p]? with
     | none=>rw [ec] at hz; cases hz
     | some c =>
      rw [ec] at hz
      cases c <;> simp only [Oj] at hz <;> try (cases hz; done)
      simp only [Option.map_eq_some_iff] at hz
      obtain ⟨q,e2,e3⟩:=hz
      cases e3
      refine jy (by simp) rfl (fun _ _=>by simp only [pK,if_pos hd]) fun g hg => ?_
      simp only [fX,e1,Option.bind_some,if_pos hk,hg,eo,Cr,ii hxs g,Oj,ec,e2,Option.map_some]
    | _=>rw [eo] at hz; cases hz
  ·cases hz
 ·cases hp
end
theorem XS {a b:Value} (h:XG a b=true):a=b:=by
 cases a <;> cases b <;> simp only [XG] at h <;> try (cases h; done)
 case int.int=>simp only [Bool.and_eq_true,decide_eq_true_eq] at h; rw [h.1,h.2]
 case bool.bool=>simp at h; rw [h]
 case string.string x y =>
  simp only [decide_eq_true_eq] at h
  obtain ⟨⟨x⟩⟩:=x
  obtain ⟨⟨y⟩⟩:=y
  simp at h
  rw [h]
 case pointer.pointer x y=>cases x <;> cases y <;> first | rfl | cases h
 case nilFunc.nilFunc=>rfl
mutual
theorem XT:∀ {a b:AV},XH a b=true→a=b
 | a,b,h=>by
  cases a <;> cases b <;> simp only [XH] at h <;> try (first | rfl | (cases h; done))
  case v.v=>rw [XS h]
  case sl.sl=>simp only [Bool.and_eq_true,decide_eq_true_eq] at h; rw [h.1,xJ h.2]
  case osl.osl=>simp only [Bool.and_eq_true,decide_eq_true_eq] at h; rw [h.1,xJ h.2]
  case obx.obx=>rw [n8 h]
  case agg.agg=>rw [n8 h]
  case ref.ref=>simp only [decide_eq_true_eq] at h; obtain ⟨rfl,rfl,rfl,rfl,rfl⟩:=h; rfl
  case rsl.rsl=>simp only [decide_eq_true_eq] at h; obtain ⟨rfl,rfl,rfl,rfl,rfl⟩:=h; rfl
  case ipt.ipt=>rw [n8 h]
  case fn.fn=>simp only [Bool.and_eq_true,decide_eq_true_eq] at h; rw [h.1,n8 h.2.1,n8 h.2.2]
theorem n8:∀ {a b:List AV},xw a b=true→a=b
 | [],[],_=>rfl
 | [],_::_,h=>by cases h
 | _::_,[],h=>by cases h
 | a::l,b::r,h=>by
  simp only [xw,Bool.and_eq_true] at h
  rw [XT h.1,n8 h.2]
theorem xJ:∀ {a b:List (List AV)},IR a b=true→a=b
 | [],[],_=>rfl
 | [],_::_,h=>by cases h
 | _::_,[],h=>by cases h
 | a::l,b::r,h=>by
  simp only [IR,Bool.and_eq_true] at h
  rw [n8 h.1,xJ h.2]
end
theorem TK {a b:Ob} (h:Iw a b=true):a=b:=by
 cases a <;> cases b <;> simp only [Iw] at h <;> try (first | rfl | (cases h; done))
 case bx.bx=>rw [n8 h]
 case ar.ar=>simp only [Bool.and_eq_true,decide_eq_true_eq] at h; rw [h.1,xJ h.2]
 case fz.fz=>simp only [Bool.and_eq_true,decide_eq_true_eq] at h; rw [h.1,xJ h.2]
theorem QZ {g h g' h':ac} {ids:List Nat} (e:∀ i,i ∈ ids→g i=h i) (e':∀ i,i ∈ ids→g' i=h' i):Gj g g' ids=Gj h h' ids:=by
 unfold Gj
 refine List.filter_congr fun i hi => ?_
 rw [e i hi,e' i hi]
theorem TL {h h':ac} {ids:List Nat} {i:Nat} (hi:i ∈ ids) (hn:bO i ∉ (Gj h h' ids).map bO):h' i=h i:=by
 by_cases hs:Iw (h i) (h' i)=true
 ·exact (TK hs).symm
 ·refine absurd (List.mem_map.2 ⟨i,?_,rfl⟩) hn
  simp only [Gj,List.mem_filter]
  exact ⟨hi,by simpa using hs⟩
theorem rg {a:Nat}:∀ {r l:List Nat},a ∈ l→a ∈ dD l r
 | [],l,h=>h
 | b::r,l,h=>by
  unfold dD
  apply rg
  split
  ·exact h
  ·simp [h]
theorem OQ {a:Nat}:∀ {r l:List Nat},a ∈ r→a ∈ dD l r
 | [],l,h=>by simp at h
 | b::r,l,h=>by
  unfold dD
  rcases List.mem_cons.1 h with e | e
  ·subst e
   apply rg
   split
   ·rename_i hc; simpa using hc
   ·simp
  ·exact OQ e
theorem rW:∀ {r l:List Nat},l.Nodup→(dD l r).Nodup
 | [],l,h=>h
 | b::r,l,h=>by
  unfold dD
  apply rW
  split
  ·exact h
  ·rename_i hc
   rw [List.nodup_append]
   refine ⟨h,by simp,fun a ha c hc' => ?_⟩
   simp only [List.mem_singleton] at hc'
   subst hc'
   rintro rfl
   exact hc (by simpa using ha)
theorem Gv {h:ac} {a:Nat}:∀ {n:Nat} {l:List Nat} {i:Nat},a ∈ l→a ∈ eF h n l i
 | 0,l,i,hm=>hm
 | n+1,l,i,hm=>by
  unfold eF
  split
  ·exact hm
  ·exact Gv (rg hm)
theorem Aj {h:ac}:∀ {n:Nat} {l:List Nat} {i:Nat},l.Nodup→(eF h n l i).Nodup
 | 0,l,i,hm=>hm
 | n+1,l,i,hm=>by
  unfold eF
  split
  ·exact hm
  ·exact Aj (rW hm)
theorem tL {g h:ac}:∀ {n:Nat} {l:List Nat} {i:Nat},(∀ a,a ∈ eF h n l i→g a=h a)→eF g n l i=eF h n l i
 | 0,l,i,_=>rfl
 | n+1,l,i,hg=>by
  unfold eF at hg ⊢
  split
  ·rfl
  ·rename_i a ha
   rw [ha] at hg
   simp only at hg
   rw [hg a (Gv (rg (List.mem_of_getElem? ha)))]
   exact tL hg
theorem Gw (h:ac) (n:Nat):eF h n [] 0=[]:=by cases n <;> simp [eF]
theorem I5 {a:AV} (h:aD a=true):gh a=[]:=by cases a <;> simp [aD] at h <;> rfl
theorem I6 {a:AV} (h:dat a=true):bT a=[]:=by
 cases a <;> simp only [dat] at h <;> try exact I5 h
 case agg cs =>
  simp only [bT,List.flatMap_eq_nil_iff]
  exact fun c hc=>I5 (List.all_eq_true.1 h c hc)
 case fn f x y =>
  simp only [aD,Bool.and_eq_true,List.isEmpty_iff] at h
  simp [bT,h.1,h.2]
theorem Q0 {a:AV} (h:dat a=true):pJ a=true:=by
 have key:∀ c,aD c=true→mH c=true:=fun c hc=>by cases c <;> simp [aD] at hc <;> rfl
 cases a <;> simp only [dat] at h <;> try exact key _ h
 case agg cs =>
  simp only [pJ,List.all_eq_true] at h ⊢
  exact fun c hc=>key c (h c hc)
 case fn f x y =>
  simp only [aD,Bool.and_eq_true,List.isEmpty_iff] at h
  simp [pJ,h.1,h.2]
section
variable {h h' g:ac} {x:AV}
theorem Ak:∀ {cs:List AV} {q:List AV × ac × K},cs.all mH=true→dI h cs=some q→q=(cs,h,[])∧∀ g:ac,dI g cs=some (cs,g,[])
 | [],q,_,hz=>by cases hz; exact ⟨rfl,fun g=>rfl⟩
 | c::cs,q,hd,hz=>by
  simp only [List.all_cons,Bool.and_eq_true] at hd
  simp only [dI,Option.bind_eq_some_iff] at hz
  obtain ⟨p,e1,q',e2,e3⟩:=hz
  have hc:p=(c,h,[])∧∀ g:ac,fv g c=some (c,g,[]):=by
   cases c <;> simp only [mH] at hd <;> simp only [fv] at e1 ⊢ <;> first | (cases hd.1; done) | skip
   all_goals
    split at e1
    ·rename_i hdl
     simp only [if_pos hdl]
     cases e1
     exact ⟨rfl,fun g=>by first | trivial | rfl⟩
    ·cases e1
  obtain ⟨rfl,hc2⟩:=hc
  obtain ⟨rfl,q2⟩:=Ak hd.2 e2
  cases e3
  refine ⟨rfl,fun g => ?_⟩
  simp only [dI,hc2 g,Option.bind_some,q2 g,List.append_nil]
theorem Mc {m:Nat} {a:AV} {q:R3} (hd:pJ a=true) (hz:cR h m a=some q):q=(a,h,[])∧∀ g:ac,cR g m a=some (a,g,[]):=by
 have key:∀ c:AV,(∀ cs,c ≠ .agg cs)→mH c=true→rN h c=some q→q=(c,h,[])∧∀ g:ac,rN g c=some (c,g,[]):=by
  intro c hna hc hz
  have e1:∀ g:ac,rN g c=if aD c then some (c,g,[]) else none:=by
   intro g
   cases c <;> simp only [mH] at hc <;> first | (cases hc; done) | (exact absurd rfl (hna _)) | rfl
  rw [e1] at hz
  split at hz
  ·rename_i hdl
   cases hz
   exact ⟨rfl,fun g=>by rw [e1,if_pos hdl]⟩
  ·cases hz
 cases a with
 | agg cs =>
  simp only [pJ] at hd
  simp only [cR,rN,Option.bind_eq_some_iff] at hz ⊢
  obtain ⟨p,e1,e2⟩:=hz
  obtain ⟨rfl,q2⟩:=Ak hd e1
  cases e2
  exact ⟨rfl,fun g=>⟨_,q2 g,rfl⟩⟩
 | rsl=>simp [pJ,mH] at hd
 | ref id sub k i j =>
  cases sub with
  | none =>
   simp only [cR,Option.some.injEq] at hz ⊢
   subst hz
   exact ⟨rfl,fun g=>by first | trivial | rfl⟩
  | some p=>exact key _ (fun cs=>by simp) rfl hz
 | ipt cs =>
  simp only [cR,Option.some.injEq] at hz ⊢
  subst hz
  exact ⟨rfl,fun g=>by first | trivial | rfl⟩
 | fn f u v =>
  simp only [cR,Option.some.injEq] at hz ⊢
  subst hz
  exact ⟨rfl,fun g=>by first | trivial | rfl⟩
 | _=>exact key _ (fun cs=>by simp) rfl hz
theorem xK:∀ {l:List AV} {ms:List Nat} {q:List AV × ac × K},l.all pJ=true→ef h ms l=some q→q=(l,h,[])∧∀ g:ac,ef g ms l=some (l,g,[])
 | [],ms,q,_,hz=>by cases hz; exact ⟨rfl,fun g=>rfl⟩
 | a::l,ms,q,hd,hz=>by
  simp only [List.all_cons,Bool.and_eq_true] at hd
  simp only [ef,Option.bind_eq_some_iff] at hz
  obtain ⟨p,e1,q',e2,e3⟩:=hz
  obtain ⟨rfl,p2⟩:=Mc hd.1 e1
  obtain ⟨rfl,q2⟩:=xK hd.2 e2
  cases e3
  refine ⟨rfl,fun g => ?_⟩
  simp only [ef,p2 g,Option.bind_some,q2 g,List.append_nil]
theorem I7 {ids:List Nat} {i:Nat}:∀ {l:List Nat} {os:List Ob} {g h:ac},g i=h i→d6 g ids l os i=d6 h ids l os i
 | [],os,g,h,e=>by simpa [d6] using e
 | a::l,[],g,h,e=>by simpa [d6] using e
 | a::l,o::os,g,h,e=>by
  simp only [d6]
  apply I7
  unfold upd
  split
  ·rfl
  ·exact e
theorem nJ {ids:List Nat} {i:Nat}:∀ {l:List Nat} {os:List Ob} {g:ac},i ∉ l→d6 g ids l os i=g i
 | [],os,g,_=>rfl
 | a::l,[],g,_=>rfl
 | a::l,o::os,g,hn=>by
  simp only [List.mem_cons,not_or] at hn
  simp only [d6]
  rw [nJ hn.2]
  exact aI _ _ hn.1
theorem AP (n:Nat) (g h:ac) (c:AV):(cJ n g c).1=(cJ n h c).1:=by cases c <;> rfl
theorem Nn {n i:Nat} {g h:ac} {c:AV} (e:g i=h i):(cJ n g c).2 i=(cJ n h c).2 i:=by
 cases c <;> simp only [cJ] <;> first | exact e | (unfold upd; split; rfl; exact e)
theorem I8 {n i:Nat} {g:ac} {c:AV} (hn:i ≠ n):(cJ n g c).2 i=g i:=by
 cases c <;> simp only [cJ] <;> first | rfl | exact aI _ _ hn
theorem I9:∀ (l:List AV) (n:Nat) (g h:ac),(bu n g l).1=(bu n h l).1
 | [],n,g,h=>rfl
 | c::l,n,g,h=>by simp only [bu]; rw [AP n g h,I9 l (n+1) _ (cJ n h c).2]
theorem No {i:Nat}:∀ {l:List AV} {n:Nat} {g h:ac},g i=h i→(bu n g l).2 i=(bu n h l).2 i
 | [],n,g,h,e=>e
 | c::l,n,g,h,e=>by simp only [bu]; exact No (Nn e)
theorem Ja {i:Nat}:∀ {l:List AV} {n:Nat} {g:ac},¬ (n≤i∧i < n+l.length)→(bu n g l).2 i=g i
 | [],n,g,hn=>rfl
 | c::l,n,g,hn=>by
  simp only [bu]
  simp only [List.length_cons] at hn
  rw [Ja (by omega),I8 (by omega)]
theorem Np (n:Nat) (g h:ac) (c:AV):(mat n g c).1=(mat n h c).1:=by
 cases c <;> simp only [mat] <;> first | exact AP _ _ _ _ | rw [I9]
theorem Q1 {n i:Nat} {g h:ac} {c:AV} (e:g i=h i):(mat n g c).2 i=(mat n h c).2 i:=by
 cases c <;> simp only [mat] <;> first | exact Nn e | exact No e
theorem pg {n i:Nat} {g:ac} {c:AV} (hn : ¬ (n≤i∧i < n+dP c)):(mat n g c).2 i=g i:=by
 cases c <;> simp only [mat] <;> simp only [dP] at hn <;> first | exact I8 (by omega) | exact Ja hn
theorem Al {g h:ac}:∀ {m n:Nat},(∀ i,n≤i→i < n+m→g i=h i)→gi g n m=gi h n m
 | 0,n,_=>rfl
 | m+1,n,hg=>by
  simp only [gi]
  rw [hg n (by omega) (by omega),Al fun i h1 h2=>hg i (by omega) (by omega)]
theorem wu {g h:ac} {gv:K}:∀ {l:List Nat} {os:List Ob},(∀ a,a ∈ l→g a=h a)→lI g gv l os=lI h gv l os
 | [],os,_=>rfl
 | a::l,[],_=>rfl
 | a::l,o::os,hg=>by
  simp only [lI]
  rw [hg a (by simp),wu fun b hb=>hg b (by simp [hb])]
theorem xL {d i:Nat} (h1:2000+8*d≤i) (h2:i < 2000+8*d+8):bO i=2000+8*d:=by
 unfold bO
 rw [if_neg (by omega)]
 omega
theorem ahL {i:Nat} (h:i < 2000):bO i=i:=by simp [bO,h]
theorem Hf {kp:Bool} {d:Nat} {ids:List Nat} {gv:K} {r:AV × List Ob} (hz:lJ kp h d ids [] gv r=some (x,h',[])) (hg:∀ i,bO i ∈ ids.map bO++[2000+8*d]→g i=h i) :
  ∃ g',lJ kp g d ids [] gv r=some (x,g',[])∧(∀ i,bO i ∈ ids.map bO++[2000+8*d]→g' i=h' i)∧(∀ i,bO i ∉ ids.map bO++[2000+8*d]→g' i=g i)∧∀ i,i ∉ ids→bO i ≠ 2000+8*d→h' i=h i:=by
 unfold lJ at hz ⊢
 split at hz
 ·rename_i hc
  simp only [Option.some.injEq,Prod.mk.injEq,List.nil_append,List.append_eq_nil_iff] at hz
  obtain ⟨rfl,rfl,hk,rfl⟩:=hz
  obtain ⟨c1,c0,c2,c3,c4,c5⟩:=hc
  have hid:∀ a,a ∈ ids→g a=h a:=fun a ha=>hg a (by simp; exact .inl ⟨a,ha,rfl⟩)
  have hfr:gi g (2000+8*d) (dP r.1)=true:=by
   rw [Al (h:=h) fun i h1 h2=>hg i (by rw [xL h1 (by omega)]; simp)]; exact c3
  have hst:lI g [] ids r.2=true:=by rw [wu (h:=h) hid]; exact c4
  refine ⟨(mat (2000+8*d) (d6 g ids ids r.2) r.1).2,?_,fun i hi => ?_,fun i hi => ?_,fun i hi hi2 => ?_⟩
  ·rw [if_pos ⟨c1,c0,c2,hfr,hst,c5⟩,hk]
   simp only [gV,List.append_nil]
   rw [Np _ (d6 g ids ids r.2) (d6 h ids ids r.2)]
  ·simp only [gV]
   exact Q1 (I7 (hg i hi))
  ·rw [pg (fun hh=>hi (by rw [xL hh.1 (by omega)]; simp)),nJ (fun hh=>hi (by simp; exact .inl ⟨i,hh,rfl⟩))]
  ·simp only [gV]
   rw [pg (fun hh=>hi2 (xL hh.1 (by omega))),nJ hi]
 ·cases hz
theorem OR {call:eH} {md:Mode} {d:Nat} {f:AV} {as:List AV} {r w:List Nat} (hz:d7 call md h d as f=some (x,h',[])) (hp:jV h d (pY as f) h'=some (r,w)) :
  uC (fun g=>d7 call md g d as f) (fun g=>jV g d (pY as f)) h x h' r w:=by
 cases f <;> simp only [d7] at hz <;> try (cases hz; done)
 rename_i fid a b
 simp only [pY] at hp
 simp only [Option.bind_eq_some_iff] at hz
 obtain ⟨p,e1,e2⟩:=hz
 have hno:(a++as++b).all pJ=true:=by
  unfold jV at hp
  split at hp
  ·rename_i hd
   rw [List.all_eq_true] at hd ⊢
   exact fun c hc=>Q0 (hd c hc)
  ·split at hp
   ·assumption
   ·cases hp
 obtain ⟨rfl,e3⟩:=xK hno e1
 simp only at e2
 generalize hI:eF h 40 (dD [] ((a++as++b).flatMap bT)) 0=ids at *
 have hids:(∀ i,i ∈ ids→bO i ∈ r)∧w=(Gj h h' ids).map bO++[2000+8*d] ∧
   (∀ g g':ac,(∀ i,i ∈ ids→g i=h i)→(∀ i,i ∈ ids→g' i=h' i)→jV g d (a++as++b) g'=some (r,w)):=by
  unfold jV at hp
  split at hp
  ·rename_i hd
   cases hp
   have:(a++as++b).flatMap bT=[]:=by
    rw [List.flatMap_eq_nil_iff]
    exact fun c hc=>I6 (List.all_eq_true.1 hd c hc)
   rw [this] at hI
   simp only [dD,Gw] at hI
   subst hI
   refine ⟨fun i hi=>by simp at hi,rfl,fun g g' _ _ => ?_⟩
   unfold jV
   rw [if_pos hd]
  ·rename_i hd
   rw [hI] at hp
   cases hp
   refine ⟨fun i hi=>List.mem_map.2 ⟨i,hi,rfl⟩,rfl,fun g g' hg hg' => ?_⟩
   unfold jV
   have hre:eF g 40 (dD [] ((a++as++b).flatMap bT)) 0=ids:=by
    rw [← hI]
    exact tL fun i hi=>hg i (by rw [← hI]; exact hi)
   rw [if_neg hd,if_pos hno,hre,QZ hg hg']
 obtain ⟨hi1,hi2,hi3⟩:=hids
 intro g hg
 have hat:∀ i,i ∈ ids→g i=h i:=fun i hi=>hg i (.inl (hi1 i hi))
 have hre:eF g 40 (dD [] ((a++as++b).flatMap bT)) 0=ids:=by
  rw [← hI]
  exact tL fun i hi=>hat i (by rw [← hI]; exact hi)
 unfold s4 at e2
 split at e2
 ·rename_i hc
  simp only [Option.bind_eq_some_iff] at e2
  obtain ⟨res,e4,e5⟩:=e2
  have hgl:∀ i,bO i ∈ ids.map bO++[2000+8*d]→g i=h i:=fun i hi=>by
   rcases List.mem_append.1 hi with hi | hi
   ·obtain ⟨a,ha,hae⟩:=List.mem_map.1 hi
    exact hg i (.inl (by rw [← hae]; exact hi1 a ha))
   ·exact hg i (.inr (by rw [hi2]; exact List.mem_append_right _ hi))
  obtain ⟨g',g1,g2,g3,g4⟩:=Hf e5 (g:=g) hgl
  have hat':∀ i,i ∈ ids→g' i=h' i:=fun i hi=>g2 i (List.mem_append_left _ (List.mem_map.2 ⟨i,hi,rfl⟩))
  refine ⟨g',?_,hi3 g g' hat hat',fun i hi=>g2 i ?_,fun i hi => ?_⟩
  ·simp only [d7,e3 g,Option.bind_some,hre]
   unfold s4
   have hmap:ids.map (fun a=>dE (bt ids) (g a))=ids.map fun a=>dE (bt ids) (h a):=List.map_congr_left fun i hi=>by rw [hat i hi]
   have hall:(ids.all fun a=>bh ids (g a) && !nW (g a))=ids.all fun a=>bh ids (h a) && !nW (h a):=by
    rw [Bool.eq_iff_iff,List.all_eq_true,List.all_eq_true]
    exact ⟨fun hh i hi=>by rw [← hat i hi]; exact hh i hi,fun hh i hi=>by rw [hat i hi]; exact hh i hi⟩
   rw [hall,if_pos hc,hmap,e4]
   exact g1
  ·rw [hi2] at hi
   rcases List.mem_append.1 hi with hi | hi
   ·refine List.mem_append_left _ ?_
    obtain ⟨a,ha,hae⟩:=List.mem_map.1 hi
    exact List.mem_map.2 ⟨a,(List.mem_filter.1 ha).1,hae⟩
   ·exact List.mem_append_right _ hi
  ·by_cases hin:bO i ∈ ids.map bO++[2000+8*d]
   ·have hn2:bO i ≠ 2000+8*d:=fun e=>hi (by rw [hi2,e]; simp)
    rw [g2 i hin,hgl i hin]
    by_cases hii:i ∈ ids
    ·exact TL hii fun hh=>hi (by rw [hi2]; exact List.mem_append_left _ hh)
    ·exact g4 i hii hn2
   ·exact g3 i hin
 ·cases e2
theorem vD {call:eH} {md:Mode} {d:Nat} {op:AOp} {s:am} {r w:List Nat} (hz:step call md d op s h=some (x,h',[])) (hp:d8 d op s h h'=some (r,w)) :
  uC (fun g=>step call md d op s g) (fun g=>d8 d op s g) h x h' r w:=by
 cases op with
 | p op =>
  simp only [d8,Option.some.injEq,Prod.mk.injEq] at hp
  obtain ⟨rfl,rfl⟩:=hp
  simp only [step,vq,Option.map_eq_some_iff] at hz
  obtain ⟨a,e1,e2⟩:=hz
  cases e2
  exact tK rfl (fun _ _=>rfl) fun g _=>by simp only [step,vq,e1,Option.map_some]
 | alloc z =>
  simp only [d8,Option.some.injEq,Prod.mk.injEq] at hp
  obtain ⟨rfl,rfl⟩:=hp
  simp only [step,fY] at hz
  obtain ⟨h1,rfl,rfl,_⟩:=jx hz
  exact jy (by simp) rfl (fun _ _=>rfl) fun g hg=>by simp only [step,fY,hg,h1,rO]
 | box k y =>
  simp only [d8] at hp
  split at hp
  ·rename_i hd
   cases hp
   simp only [step,rP,Option.bind_eq_some_iff] at hz
   obtain ⟨xs,e1,hz⟩:=hz
   split at hz
   ·rename_i hk
    simp only [rf hd e1,if_true,fY] at hz
    obtain ⟨h1,rfl,rfl,_⟩:=jx hz
    refine jy (by simp) rfl (fun _ _=>by simp only [d8,if_pos hd]) fun g hg => ?_
    simp only [step,rP,e1,Option.bind_some,if_pos hk,rf hd e1,if_true,fY,hg,h1,rO]
   ·cases hz
  ·cases hp
 | buildSl k z n ps =>
  simp only [d8] at hp
  split at hp
  ·rename_i hd
   cases hp
   simp only [step,Option.bind_eq_some_iff] at hz
   obtain ⟨q,e1,hz⟩:=hz
   have hd':((ps.map fun p=>(p.1,ev s p.2)).all fun p=>dat p.2)=true:=by
    rw [List.all_map]; exact hd
   obtain ⟨e2,e3,e4⟩:=xI hd' e1
   obtain ⟨q1,q2,q3⟩:=q
   simp only at e2 e3 e4 hz
   subst e2 e3
   simp only [dy] at hz
   obtain ⟨h1,rfl,rfl,_⟩:=jx hz
   refine jy (by simp) rfl (fun _ _=>by simp only [d8,if_pos hd]) fun g hg => ?_
   simp only [step,e4 g,Option.bind_some,dy,hg,h1,rO]
  ·cases hp
 | mkSl k z b l c =>
  simp only [d8,Option.some.injEq,Prod.mk.injEq] at hp
  obtain ⟨rfl,rfl⟩:=hp
  simp only [step,Option.bind_eq_some_iff] at hz
  obtain ⟨q,e1,hz⟩:=hz
  split at hz
  ·rename_i hb
   simp only [dy] at hz
   obtain ⟨h1,rfl,rfl,_⟩:=jx hz
   refine jy (by simp) rfl (fun _ _=>rfl) fun g hg => ?_
   simp only [step,e1,Option.bind_some,if_pos hb,dy,hg,h1,rO]
  ·cases hz
 | load k g y=>exact OP hz hp
 | store k a y=>exact Mb hz hp
 | app k b a y=>cases hp
 | cpy k x y=>cases hp
 | call f as=>exact OR hz hp
 | bad=>cases hz
end
section
variable {call:eH} {md:Mode} {s:am} {h:ac}
theorem bB {s s':am} {o:Opd} (hs:∀ i,i ∈ fQ o→s' i=s i):ev s' o=ev s o:=by
 cases o with
 | t n=>exact hs n (by simp [fQ])
 | c a=>rfl
theorem p9 {s s':am} {o:Option Opd} (hs:∀ i,i ∈ lL o.toList→s' i=s i):evo s' o=evo s o:=by
 cases o with
 | none=>rfl
 | some o=>simp only [evo]; rw [bB fun i hi=>hs i (by simpa [lL] using hi)]
theorem s7 {s s':am} {l:List Opd} (hs:∀ i,i ∈ lL l→s' i=s i):l.map (ev s')=l.map (ev s) :=
 List.map_congr_left fun o ho=>bB fun i hi=>hs i (by simp only [lL,List.mem_flatMap]; exact ⟨o,ho,hi⟩)
theorem Q2 {s s':am} {op:POp} (hs:∀ i,i ∈ IP op→s' i=s i):dC s' op=dC s op:=by
 cases op <;> simp only [IP,List.mem_append] at hs <;> simp only [dC]
 case build z ps =>
  have:(ps.map fun p=>(p.1,p.2.1,ev s' p.2.2))=ps.map fun p=>(p.1,p.2.1,ev s p.2.2) :=
   List.map_congr_left fun p hp=>by rw [bB fun i hi=>hs i (by rw [List.mem_flatMap]; exact ⟨p,hp,hi⟩)]
  rw [this]
 case mnx m x ys=>rw [bB fun i hi=>hs i (.inl hi),s7 fun i hi=>hs i (.inr hi)]
 case mkF f a b=>rw [s7 fun i hi=>hs i (.inl hi),s7 fun i hi=>hs i (.inr hi)]
 case pick c a b=>rw [bB fun i hi=>hs i (.inl hi),bB fun i hi=>hs i (.inr (.inl hi)),bB fun i hi=>hs i (.inr (.inr hi))]
 case slc k x lo hi mx=>rw [bB fun i hi=>hs i (.inl hi),p9 fun i hi=>hs i (.inr (.inl hi)),p9 fun i hi=>hs i (.inr (.inr (.inl hi))),p9 fun i hi=>hs i (.inr (.inr (.inr hi)))]
 case slcS x lo hi=>rw [bB fun i hi=>hs i (.inl hi),p9 fun i hi=>hs i (.inr (.inl hi)),p9 fun i hi=>hs i (.inr (.inr hi))]
 all_goals first
  | rw [bB hs]
  | rw [bB fun i hi=>hs i (.inl hi),bB fun i hi=>hs i (.inr hi)]
theorem rh {s s':am} {d:Nat} {op:AOp} (hs:∀ i,i ∈ IQ op→s' i=s i):step call md d op s' h=step call md d op s h∧∀ h',d8 d op s' h h'=d8 d op s h h':=by
 cases op <;> simp only [IQ,List.mem_append] at hs <;> simp only [step,d8]
 case p op=>rw [Q2 hs]; exact ⟨rfl,fun _=>trivial⟩
 case alloc z=>exact ⟨trivial,fun _=>trivial⟩
 case box k x=>rw [bB hs]; exact ⟨rfl,fun _=>rfl⟩
 case buildSl k z n ps =>
  have:(ps.map fun p=>(p.1,ev s' p.2))=ps.map fun p=>(p.1,ev s p.2) :=
   List.map_congr_left fun p hp=>by rw [bB fun i hi=>hs i (by rw [List.mem_flatMap]; exact ⟨p,hp,hi⟩)]
  rw [this]
  have h2:(ps.all fun p=>dat (ev s' p.2))=ps.all fun p=>dat (ev s p.2):=by
   rw [show (ps.all fun p=>dat (ev s' p.2))=((ps.map fun p=>(p.1,ev s' p.2)).all fun p=>dat p.2) from by rw [List.all_map]; rfl,this,List.all_map]; rfl
  rw [h2]
  exact ⟨rfl,fun _=>rfl⟩
 case mkSl k z b l c=>rw [bB fun i hi=>hs i (.inl hi),bB fun i hi=>hs i (.inr hi)]; exact ⟨rfl,fun _=>trivial⟩
 case load k g x=>rw [bB hs]; exact ⟨rfl,fun _=>rfl⟩
 case store k x y=>rw [bB fun i hi=>hs i (.inl hi),bB fun i hi=>hs i (.inr hi)]; exact ⟨rfl,fun _=>rfl⟩
 case app k b x y=>rw [bB fun i hi=>hs i (.inl hi),bB fun i hi=>hs i (.inr hi)]; exact ⟨rfl,fun _=>trivial⟩
 case cpy k x y=>rw [bB fun i hi=>hs i (.inl hi),bB fun i hi=>hs i (.inr hi)]; exact ⟨rfl,fun _=>trivial⟩
 case call f as=>rw [bB fun i hi=>hs i (.inl hi),s7 fun i hi=>hs i (.inr hi)]; exact ⟨rfl,fun _=>rfl⟩
 case bad=>exact ⟨trivial,fun _=>trivial⟩
theorem xM {d:Option Nat} {f:ac→Fp} {f':Fp} {r:Option R3} {t:St} (hz:gj s d f r=some (t,f')):∃ x h',r=some (x,h',[])∧t=⟨dF s d x,h'⟩∧f'=f h':=by
 unfold gj at hz
 split at hz
 ·cases hz; exact ⟨_,_,rfl,rfl,rfl⟩
 ·cases hz
theorem s9 {o:COp} {t:St} {f:Fp} (hz:cA call md o s h=some (t,f)) :
  ∃ x h',t=⟨dF s o.d x,h'⟩∧((∀ s':am,∀ g:ac,(∀ i,i ∈ jU o→s' i=s i)→cA call md o s' g=some (⟨dF s' o.d x,g⟩,some ([],[])))∧h'=h∧f=some ([],[]) ∨
   (step call md (o.d.getD 0) o.op s h=some (x,h',[])∧f=d8 (o.d.getD 0) o.op s h h' ∧
    ∀ s':am,∀ g:ac,(∀ i,i ∈ jU o→s' i=s i)→cA call md o s' g=gj s' o.d (d8 (o.d.getD 0) o.op s g) (step call md (o.d.getD 0) o.op s g))):=by
 unfold cA at hz
 cases hg:o.g with
 | none =>
  rw [hg] at hz
  simp only at hz
  obtain ⟨x,h',e1,e2,e3⟩:=xM hz
  refine ⟨x,h',e2,.inr ⟨e1,e3,fun s' g hs => ?_⟩⟩
  simp only [jU,hg,List.nil_append] at hs
  unfold cA
  rw [hg]
  simp only
  rw [(rh (h:=g) hs).1,funext (rh (call:=call) (md:=md) (h:=g) hs).2]
 | some jb =>
  obtain ⟨j,b⟩:=jb
  rw [hg] at hz
  simp only at hz
  have hj:∀ s':am,(∀ i,i ∈ jU o→s' i=s i)→s' j=s j:=fun s' hs=>hs j (by simp [jU,hg])
  unfold jt at hz
  split at hz
  ·rename_i bb hb
   split at hz
   ·rename_i hbb
    obtain ⟨x,h',e1,e2,e3⟩:=xM hz
    refine ⟨x,h',e2,.inr ⟨e1,e3,fun s' g hs => ?_⟩⟩
    unfold cA
    rw [hg]
    simp only
    rw [hj s' hs,hb]
    simp only [jt,if_pos hbb]
    simp only [jU,hg,List.mem_append] at hs
    rw [(rh (h:=g) fun i hi=>hs i (.inr hi)).1,funext (rh (call:=call) (md:=md) (h:=g) fun i hi=>hs i (.inr hi)).2]
   ·rename_i hbb
    cases hz
    refine ⟨.und,h,rfl,.inl ⟨fun s' g hs => ?_,rfl,rfl⟩⟩
    unfold cA
    rw [hg]
    simp only
    rw [hj s' hs,hb]
    simp only [jt,if_neg hbb]
  ·rename_i hb
   cases hz
   refine ⟨.und,h,rfl,.inl ⟨fun s' g hs => ?_,rfl,rfl⟩⟩
   unfold cA
   rw [hg]
   simp only
   rw [hj s' hs,hb]
   simp only [jt]
  ·cases hz
theorem Nq {d:Option Nat} {x:AV} {i:Nat} (hn:∀ e,d=some e→i ≠ e):dF s d x i=s i:=by
 cases d with
 | none=>rfl
 | some e=>exact aI _ _ (hn e rfl)
theorem Q3 {a b:Option Nat} (x y:AV) (hn:∀ i j,a=some i→b=some j→i ≠ j):dF (dF s a x) b y=dF (dF s b y) a x:=by
 cases a with
 | none=>rfl
 | some i =>
  cases b with
  | none=>rfl
  | some j =>
   have:=hn i j rfl rfl
   funext k
   simp only [dF,upd]
   by_cases h1:k=j <;> by_cases h2:k=i
   ·omega
   ·subst h1; simp [h2]
   ·subst h2; simp [h1]
   ·simp [h1,h2]
theorem OS {a b:COp} (hi:y6 a b=true):(∀ i d,i ∈ jU b→a.d=some d→i ≠ d)∧(∀ i d,i ∈ jU a→b.d=some d→i ≠ d)∧∀ i j,a.d=some i→b.d=some j→i ≠ j:=by
 simp only [y6,Bool.and_eq_true] at hi
 obtain ⟨⟨h1,h2⟩,h3⟩:=hi
 refine ⟨fun i d hm hd => ?_,fun i d hm hd => ?_,fun i j e1 e2 => ?_⟩
 ·rw [hd] at h1
  rintro rfl
  simp at h1
  exact h1 hm
 ·rw [hd] at h2
  rintro rfl
  simp at h2
  exact h2 hm
 ·rw [e1,e2] at h3
  simpa using h3
def lg (f g:Fp):Prop:=gZ f g=true
theorem Gx {a b:List Nat} (h:qC a b=true) {i:Nat} (ha:i ∈ a):i ∉ b:=by
 simp only [qC,List.all_eq_true,Bool.not_eq_true',List.contains_eq_mem,decide_eq_false_iff_not] at h
 exact h i ha
theorem ri {α:Type} {l:List α} (h:l.isEmpty=true):l=[]:=by cases l <;> simp at h ⊢
theorem aaj {a b:COp} {t1 t2:St} {fa fb:Fp} (ha:cA call md a s h=some (t1,fa)) (hb:cA call md b t1.s t1.h=some (t2,fb)) (hi:y6 a b=true) (hf:lg fa fb) :
  ∃ t,cA call md b s h=some (t,fb)∧cA call md a t.s t.h=some (t2,fa):=by
 obtain ⟨i1,i2,i3⟩:=OS hi
 obtain ⟨xa,ha',rfl,ca⟩:=s9 ha
 simp only at hb
 obtain ⟨xb,hb',rfl,cb⟩:=s9 hb
 have sb:∀ i,i ∈ jU b→s i=dF s a.d xa i:=fun i hm=>(Nq fun e he=>i1 i e hm he).symm
 have sa:∀ i,i ∈ jU a→dF s b.d xb i=s i:=fun i hm=>Nq fun e he=>i2 i e hm he
 have sc:=Q3 (s:=s) xa xb i3
 rcases ca with ⟨ca,rfl,rfl⟩ | ⟨ea,rfl,ca⟩
 ·
  rcases cb with ⟨cb,rfl,rfl⟩ | ⟨eb,rfl,cb⟩
  ·exact ⟨_,cb s _ sb,by rw [ca _ _ sa,← sc]⟩
  ·refine ⟨⟨dF s b.d xb,hb'⟩,?_,by rw [ca _ _ sa,← sc]⟩
   rw [cb s _ sb,eb]
   rfl
 ·rcases cb with ⟨cb,rfl,rfl⟩ | ⟨eb,rfl,cb⟩
  ·refine ⟨_,cb s _ sb,?_⟩
   rw [ca _ _ sa,ea]
   simp only [gj,← sc]
  ·
   unfold lg at hf
   cases efa:d8 (a.d.getD 0) a.op s h ha' with
   | none =>
    rw [efa] at hf
    cases efb:d8 (b.d.getD 0) b.op (dF s a.d xa) ha' hb' with
    | none=>rw [efb] at hf; cases hf
    | some q =>
     obtain ⟨r,w⟩:=q
     rw [efb] at hf
     simp only [gZ,Bool.and_eq_true] at hf
     have hr:=ri hf.1
     have hw:=ri hf.2
     subst hr hw
     have fb:=vD eb efb
     obtain ⟨g1,p1,p2,p3,p4⟩:=fb h (fun i hi=>by simp at hi)
     obtain ⟨g2,q1,q2,q3,q4⟩:=fb ha' (fun i hi=>rfl)
     have e1:g1=h:=funext fun i=>p4 i (by simp)
     have e2:hb'=ha':=by
      have:g2=hb':=by dsimp only at q1; rw [eb] at q1; simpa using q1.symm
      rw [← this]
      exact funext fun i=>q4 i (by simp)
     subst e1 e2
     refine ⟨⟨dF s b.d xb,g1⟩,?_,?_⟩
     ·rw [cb s _ sb]
      dsimp only at p1 p2
      rw [p1]
      simp only [gj,p2]
     ·rw [ca _ _ sa,ea]
      simp only [gj,efa,← sc]
   | some p =>
    obtain ⟨ra,wa⟩:=p
    rw [efa] at hf
    have fra:=vD ea efa
    cases efb:d8 (b.d.getD 0) b.op (dF s a.d xa) ha' hb' with
    | none =>
     rw [efb] at hf
     simp only [gZ,Bool.and_eq_true] at hf
     have hr:=ri hf.1
     have hw:=ri hf.2
     subst hr hw
     obtain ⟨g1,p1,p2,p3,p4⟩:=fra h (fun i hi=>rfl)
     have e1:ha'=h:=by
      have:g1=ha':=by dsimp only at p1; rw [ea] at p1; simpa using p1.symm
      rw [← this]
      exact funext fun i=>p4 i (by simp)
     subst e1
     obtain ⟨g2,q1,q2,q3,q4⟩:=fra hb' (fun i hi=>by simp at hi)
     have e2:g2=hb':=funext fun i=>q4 i (by simp)
     subst e2
     refine ⟨⟨dF s b.d xb,g2⟩,?_,?_⟩
     ·rw [cb s _ sb,eb]
      simp only [gj,efb]
     ·rw [ca _ _ sa]
      dsimp only at q1 q2
      rw [q1]
      simp only [gj,q2,← sc]
    | some q =>
     obtain ⟨rb,wb⟩:=q
     rw [efb] at hf
     simp only [gZ,Bool.and_eq_true] at hf
     obtain ⟨d1,d2⟩:=hf
     have frb:=vD eb efb
     have hout:∀ i,bO i ∉ wa→ha' i=h i:=by
      obtain ⟨g1,p1,p2,p3,p4⟩:=fra h (fun i hi=>rfl)
      have:g1=ha':=by dsimp only at p1; rw [ea] at p1; simpa using p1.symm
      subst this
      exact p4
     have hout2:∀ i,bO i ∉ wb→hb' i=ha' i:=by
      obtain ⟨g1,p1,p2,p3,p4⟩:=frb ha' (fun i hi=>rfl)
      have:g1=hb':=by dsimp only at p1; rw [eb] at p1; simpa using p1.symm
      subst this
      exact p4
     have nwa:∀ i,bO i ∈ rb∨bO i ∈ wb→bO i ∉ wa:=fun i hi hw=>Gx d1 hw (by simpa using hi)
     obtain ⟨g1,p1,p2,p3,p4⟩:=frb h (fun i hi=>(hout i (nwa i hi)).symm)
     have agr:∀ i,bO i ∈ ra∨bO i ∈ wa→g1 i=h i:=fun i hi=>p4 i fun hw=>by
      rcases hi with hi | hi
      ·exact Gx d2 hw hi
      ·exact nwa i (.inr hw) hi
     obtain ⟨g2,q1,q2,q3,q4⟩:=fra g1 agr
     have e2:g2=hb':=funext fun i=>by
      by_cases hwa:bO i ∈ wa
      ·rw [q3 i hwa]
       exact (hout2 i fun hw=>nwa i (.inr hw) hwa).symm
      ·rw [q4 i hwa]
       by_cases hwb:bO i ∈ wb
       ·exact p3 i hwb
       ·rw [p4 i hwb,hout2 i hwb,hout i hwa]
     subst e2
     refine ⟨⟨dF s b.d xb,g1⟩,?_,?_⟩
     ·rw [cb s _ sb]
      dsimp only at p1 p2
      rw [p1]
      simp only [gj,p2]
     ·rw [ca _ _ sa]
      dsimp only at q1 q2
      rw [q1]
      simp only [gj,q2,← sc]
theorem Jb {o:COp} {post:List COp}:∀ {pre:List COp} {s:am} {h:ac} {t:St} {Fs:List Fp},gk call md (pre++o::post) s h=some (t,Fs) →
  ∃ Fpre f Fpost,Fs=Fpre++f::Fpost∧Fpre.length=pre.length∧((∀ (j:Nat) (a:COp) (fa:Fp),pre[j]?=some a→Fpre[j]?=some fa→y6 a o=true∧lg fa f) →
   ∃ t1,cA call md o s h=some (t1,f)∧gk call md (pre++post) t1.s t1.h=some (t,Fpre++Fpost))
 | [],s,h,t,Fs,hz=>by
  simp only [List.nil_append,gk,Option.bind_eq_some_iff] at hz
  obtain ⟨⟨t1,f⟩,e1,⟨t2,F2⟩,e2,e3⟩:=hz
  cases e3
  exact ⟨[],f,F2,rfl,rfl,fun _=>⟨t1,e1,e2⟩⟩
 | a::pre,s,h,t,Fs,hz=>by
  simp only [List.cons_append,gk,Option.bind_eq_some_iff] at hz
  obtain ⟨⟨t1,fa⟩,e1,⟨t2,F2⟩,e2,e3⟩:=hz
  cases e3
  obtain ⟨Fpre,f,Fpost,rfl,hl,hh⟩:=Jb e2
  refine ⟨fa::Fpre,f,Fpost,rfl,by simp [hl],fun hc => ?_⟩
  obtain ⟨t3,g1,g2⟩:=hh fun j a' fa' h1 h2=>hc (j+1) a' fa' (by simpa using h1) (by simpa using h2)
  obtain ⟨c1,c2⟩:=hc 0 a fa rfl rfl
  obtain ⟨t4,k1,k2⟩:=aaj e1 g1 c1 c2
  refine ⟨t4,k1,?_⟩
  simp only [List.cons_append,gk,k2,Option.bind_some,g2]
end
section
variable {P:Program} {I:Inv} {call:eH} {md:Mode} {N:Nat} {ops:Array Oper}
theorem Md {o:COp} {s:am} {h:ac} {t:St} {f:Fp} (hz:cA call md o s h=some (t,f)):lK call md o s h=some t:=by
 have fin:∀ (F:ac→Fp) (r:Option R3),gj s o.d F r=some (t,f)→cq md.nm s o.d r=some t:=by
  intro F r hz
  obtain ⟨x,h',e1,e2,_⟩:=xM hz
  subst e1 e2
  simp only [cq,kZ,if_true]
  rfl
 unfold cA at hz
 unfold lK
 cases hg:o.g with
 | none =>
  rw [hg] at hz
  exact fin _ _ hz
 | some jb =>
  obtain ⟨j,b⟩:=jb
  rw [hg] at hz
  simp only at hz ⊢
  unfold jt at hz
  unfold gu
  split at hz
  ·rename_i bb hb
   split at hz
   ·rename_i hbb
    rw [if_pos hbb]
    exact fin _ _ hz
   ·rename_i hbb
    rw [if_neg hbb]
    cases hz
    rfl
  ·cases hz
   simp only
  ·cases hz
theorem rj:∀ {l:List Oper} {cl:List COp},kY P N ops l=some cl→cl.length=l.length∧∀ (j:Nat) (o:Oper) (c:COp),l[j]?=some o→cl[j]?=some c→Cs P N ops o=some c
 | [],cl,hc=>by simp only [kY,Option.some.injEq] at hc; subst hc; exact ⟨rfl,fun j o c h1=>by simp at h1⟩
 | o::l,cl,hc=>by
  simp only [kY,Option.bind_eq_some_iff] at hc
  obtain ⟨c,e1,q,e2,e3⟩:=hc
  cases e3
  obtain ⟨g1,g2⟩:=rj e2
  refine ⟨by simp [g1],fun j o' c' h1 h2 => ?_⟩
  cases j with
  | zero=>simp at h1 h2; subst h1 h2; exact e1
  | succ j=>exact g2 j o' c' (by simpa using h1) (by simpa using h2)
theorem Jc:∀ {l:List COp} {s:am} {h:ac} {t:St} {Fs:List Fp},gk call md l s h=some (t,Fs)→Fs.length=l.length∧∀ (j:Nat) (a:COp) (f:Fp),l[j]?=some a→Fs[j]?=some f→∃ s' h' t',cA call md a s' h'=some (t',f)
 | [],s,h,t,Fs,hz=>by simp only [gk,Option.some.injEq,Prod.mk.injEq] at hz; obtain ⟨_,rfl⟩:=hz; exact ⟨rfl,fun j a f h1=>by simp at h1⟩
 | o::l,s,h,t,Fs,hz=>by
  simp only [gk,Option.bind_eq_some_iff] at hz
  obtain ⟨⟨t1,f1⟩,e1,⟨t2,F2⟩,e2,e3⟩:=hz
  cases e3
  obtain ⟨g1,g2⟩:=Jc e2
  refine ⟨by simp [g1],fun j a f h1 h2 => ?_⟩
  cases j with
  | zero=>simp at h1 h2; subst h1 h2; exact ⟨s,h,t1,e1⟩
  | succ j=>exact g2 j a f (by simpa using h1) (by simpa using h2)
theorem AQ:∀ (l:List Oper) (acc:List (List Nat)),∃ r,ku l acc=acc++r∧r.length=l.length
 | [],acc=>⟨[],by simp [ku],rfl⟩
 | o::l,acc=>by
  obtain ⟨r,e1,e2⟩:=AQ l (acc++[eG o++(eG o).flatMap fun d=>acc.getD d []])
  exact ⟨(eG o++(eG o).flatMap fun d=>acc.getD d [])::r,by rw [ku,e1,List.append_assoc]; rfl,by simp [e2]⟩
theorem Jd:∀ (l:List Oper) (acc:List (List Nat)) (j:Nat) (o:Oper),l[j]?=some o→∃ pre,(ku l acc)[acc.length+j]?=some (eG o++(eG o).flatMap fun d=>pre.getD d []) ∧
  pre.length=acc.length+j∧∃ r,ku l acc=pre++r
 | [],acc,j,o,h=>by simp at h
 | o::l,acc,0,o',h=>by
  simp at h
  subst h
  obtain ⟨r,e1,e2⟩:=AQ l (acc++[eG o++(eG o).flatMap fun d=>acc.getD d []])
  refine ⟨acc,?_,rfl,⟨_,by rw [ku,e1,List.append_assoc]⟩⟩
  rw [ku,e1,List.append_assoc]
  simp
 | o::l,acc,j+1,o',h=>by
  obtain ⟨pre,e1,e2,e3⟩:=Jd l (acc++[eG o++(eG o).flatMap fun d=>acc.getD d []]) j o' (by simpa using h)
  refine ⟨pre,?_,by simp [e2]; omega,e3⟩
  rw [ku,← e1]
  congr 1
  simp
  omega
theorem xN {ps:List (Nat × Nat)} {j:Nat} {b:COp} {bf:List Nat}:∀ {l:List COp} {i0:Nat},y9 ps j b bf i0 l=true→∀ (i:Nat) (a:COp),l[i]?=some a→(i0+i) ∈ bf∨IA ps (i0+i) j a b=true
 | [],i0,_,i,a,h=>by simp at h
 | c::l,i0,hd,i,a,h=>by
  simp only [y9,Bool.and_eq_true,Bool.or_eq_true] at hd
  cases i with
  | zero=>simp at h; subst h; simpa using hd.1
  | succ i =>
   have:=xN hd.2 i a (by simpa using h)
   rwa [show i0+1+i=i0+(i+1) from by omega] at this
theorem wv {ps:List (Nat × Nat)}:∀ {l:List COp} {bs:List (List Nat)} {j0:Nat} {done:List COp},done.length=j0→vw ps j0 done l bs=true→∀ (j:Nat) (b:COp) (bf:List Nat),l[j]?=some b→bs[j]?=some bf →
  (∀ i ∈ bf,i < j0+j)∧∀ (i:Nat) (a:COp),i < j0+j→(done++l)[i]?=some a→i ∈ bf∨IA ps i (j0+j) a b=true
 | [],bs,j0,done,hl,hd,j,b,bf,h1,h2=>by simp at h1
 | c::l,[],j0,done,hl,hd,j,b,bf,h1,h2=>by simp at h2
 | c::l,b0::bs,j0,done,hl,hd,j,b,bf,h1,h2=>by
  simp only [vw,Bool.and_eq_true,List.all_eq_true,decide_eq_true_eq] at hd
  cases j with
  | zero =>
   simp at h1 h2
   subst h1 h2
   refine ⟨hd.1,fun i a hi ha => ?_⟩
   rw [List.getElem?_append_left (by omega)] at ha
   simpa using xN hd.2.1 i a ha
  | succ j =>
   obtain ⟨g1,g2⟩:=wv (by simp [hl]) hd.2.2 j b bf (by simpa using h1) (by simpa using h2)
   refine ⟨fun i hi=>by have:=g1 i hi; omega,fun i a hi ha => ?_⟩
   have:=g2 i a (by omega) (by rw [List.append_assoc]; exact ha)
   rwa [show j0+1+j=j0+(j+1) from by omega] at this
theorem Gy (f:Fp):lg (some ([],[])) f:=by
 unfold lg
 cases f <;> simp [gZ,qC]
theorem lg.symm {f g:Fp} (h:lg f g):lg g f:=by
 unfold lg at *
 cases f <;> cases g <;> simp only [gZ] at h ⊢ <;> try exact h
 rename_i p q
 simp only [Bool.and_eq_true,qC,List.all_eq_true,Bool.not_eq_true',List.contains_eq_mem,decide_eq_false_iff_not,List.mem_append] at h ⊢
 exact ⟨fun x hx hy=>by
  rcases hy with hy | hy
  ·exact h.2 x hx hy
  ·exact h.1 x hy (.inr hx),fun x hx hy=>h.1 x hx (.inl hy)⟩
theorem Nr {o:COp} {s:am} {h:ac} {t:St} {f:Fp} (hz:cA call md o s h=some (t,f)) (hp:XI o.op=true):f=some ([],[]):=by
 obtain ⟨x,h',e,⟨_,_,rfl⟩ | ⟨_,rfl,_⟩⟩:=s9 hz
 ·rfl
 ·cases ho:o.op <;> rw [ho] at hp <;> first | rfl | cases hp
theorem CG {o:COp} {s:am} {h:ac} {t:St} {f:Fp} (hz:cA call md o s h=some (t,f)) (hp:IS o.op=true):∃ r,f=some (r,[]):=by
 obtain ⟨x,h',e,⟨_,_,rfl⟩ | ⟨e2,rfl,_⟩⟩:=s9 hz
 ·exact ⟨[],rfl⟩
 ·cases ho:o.op <;> rw [ho] at hp <;> try (cases hp; done)
  rename_i k g y
  rw [ho] at e2
  simp only [step] at e2
  simp only [d8]
  cases hy:ev s y <;> rw [hy] at e2 <;> simp only [dZ] at e2 <;> first | (cases e2; done) | exact ⟨_,rfl⟩
abbrev Vj:=List (Nat × COp × Fp)
structure Rest (ops:Array Oper) (cl:List COp) (bf:Nat→List Nat) (listed:Array Bool) (L:Vj):Prop where
 size:listed.size=ops.size
 op:∀ x ∈ L,cl[x.1]?=some x.2.1∧listed.getD x.1 true=false
 all:∀ j,j < ops.size→listed.getD j true=false→∃ x ∈ L,x.1=j
 pw:L.Pairwise fun x y=>x.1 < y.1∧(x.1 ∈ bf y.1∨(y6 x.2.1 y.2.1=true∧lg x.2.2 y.2.2))
 cls:∀ k,k < ops.size→listed.getD k true=true→∀ i ∈ bf k,listed.getD i true=true
theorem Gz (hcall:jn P I call md) (hN:N≤1000) {cl:List COp} (hc:kY P N ops ops.toList=some cl) {bf:Nat→List Nat}
  (hlt:∀ j,j < ops.size→∀ i ∈ bf j,i < j) (hdep:∀ (j:Nat) (o:Oper),ops[j]?=some o→(∀ d ∈ eG o,d ∈ bf j)∧∀ i ∈ bf j,i ∈ eG o∨∃ d ∈ eG o,i ∈ bf d) :
  ∀ (fuel:Nat) {L:Vj} {listed:Array Bool} {w:World} {X:Nat→Prop} {ρ:bj} {h:ac} {s:am} {a:Act} {t:St} {Q:Exit→Act→World→Prop},L.length=fuel→Rest ops cl bf listed L →
   gk call md (L.map (·.2.1)) s h=some (t,L.map (·.2.2))→Ok I N w X ρ h s a→(∀ a' w' ρ',Ok I N w' X ρ' t.h t.s a'→Far md.nm w ρ h w' ρ' t.h→Q .normal a' w')→wpAny P .any ops Q fuel listed a w
 | 0,L,listed,w,X,ρ,h,s,a,t,Q,hl,hr,hz,ok,hQ=>by
  have:L=[]:=by simpa using hl
  subst this
  simp only [List.map_nil,gk,Option.some.injEq,Prod.mk.injEq] at hz
  obtain ⟨rfl,_⟩:=hz
  refine ⟨?_,hQ _ _ ρ ok (.refl _ _ _ _)⟩
  rw [List.eq_nil_iff_forall_not_mem]
  intro j hj
  obtain ⟨h1,o,h2,_⟩:=mem_ready.1 hj
  obtain ⟨x,hx,_⟩:=hr.all j (Array.getElem?_eq_some_iff.1 h2).1 h1
  simp at hx
 | fuel+1,L,listed,w,X,ρ,h,s,a,t,Q,hl,hr,hz,ok,hQ=>by
  have tf:∀ d,d < ops.size→listed.getD d true=listed.getD d false:=fun d hd=>by
   have:d < listed.size:=by rw [hr.size]; exact hd
   simp [this]
  have lenc:=(rj hc).1
  refine ⟨fun hnil => ?_,fun i hi => ?_⟩
  ·exfalso
   cases L with
   | nil=>simp at hl
   | cons x L' =>
    obtain ⟨h1,h2⟩:=hr.op x (by simp)
    have hx:x.1 < ops.size:=by
     have:=(List.getElem?_eq_some_iff.1 h1).1
     rw [lenc] at this
     simpa using this
    have hox:ops[x.1]?=some ops[x.1]:=by simp [hx]
    have:x.1 ∈ Region.ready .any ops listed:=by
     refine mem_ready.2 ⟨h2,ops[x.1],hox,fun e he hb => ?_⟩
     have hd:e.on ∈ eG ops[x.1]:=by
      simp only [eG,List.mem_map,List.mem_filter]
      exact ⟨e,⟨by simpa using he,hb⟩,rfl⟩
     have hlt':=hlt x.1 hx _ ((hdep x.1 _ hox).1 _ hd)
     rw [← tf e.on (by omega)]
     cases hq:listed.getD e.on true with
     | true=>rfl
     | false =>
      obtain ⟨y,hy,hye⟩:=hr.all e.on (by omega) hq
      rcases List.mem_cons.1 hy with rfl | hy'
      ·omega
      ·have:=(List.pairwise_cons.1 hr.pw).1 y hy'
       omega
    rw [hnil] at this
    cases this
  ·obtain ⟨h1,o,h2,h3⟩:=mem_ready.1 hi
   have hisz:i < ops.size:=(Array.getElem?_eq_some_iff.1 h2).1
   obtain ⟨x,hx,rfl⟩:=hr.all i hisz h1
   obtain ⟨L1,L2,rfl⟩:=List.append_of_mem hx
   have hbl:∀ k ∈ bf x.1,listed.getD k true=true:=by
    intro k hk
    have dl:∀ d ∈ eG o,listed.getD d true=true:=by
     intro d hd
     have hdl:d < ops.size:=Nat.lt_trans (hlt x.1 hisz d ((hdep x.1 o h2).1 d hd)) hisz
     simp only [eG,List.mem_map,List.mem_filter] at hd
     obtain ⟨e,⟨he,hb⟩,rfl⟩:=hd
     rw [tf _ hdl]
     exact h3 e (by simpa using he) hb
    rcases (hdep x.1 o h2).2 k hk with hd | ⟨d,hd,hkd⟩
    ·exact dl k hd
    ·exact hr.cls d (Nat.lt_trans (hlt x.1 hisz d ((hdep x.1 o h2).1 d hd)) hisz) (dl d hd) k hkd
   have hpw:=hr.pw
   rw [List.pairwise_append] at hpw
   obtain ⟨pw1,pw2,pw3⟩:=hpw
   rw [List.pairwise_cons] at pw2
   simp only [List.map_append,List.map_cons] at hz
   obtain ⟨Fpre,f,Fpost,e1,e2,e3⟩:=Jb hz
   have e4:Fpre=L1.map (·.2.2)∧f=x.2.2∧Fpost=L2.map (·.2.2):=by
    have:=List.append_inj e1.symm (by simpa using e2)
    simp only [List.cons.injEq] at this
    exact ⟨this.1,this.2.1,this.2.2⟩
   obtain ⟨rfl,rfl,rfl⟩:=e4
   obtain ⟨t1,g1,g2⟩:=e3 fun j c fc hj1 hj2=>by
    simp only [List.getElem?_map,Option.map_eq_some_iff] at hj1 hj2
    obtain ⟨y,hy,rfl⟩:=hj1
    obtain ⟨y',hy',rfl⟩:=hj2
    rw [hy] at hy'
    cases hy'
    have hyL:=List.mem_of_getElem? hy
    rcases (pw3 y hyL x (by simp)).2 with hin | hh
    ·have:=hbl _ hin
     rw [(hr.op y (by simp [hyL])).2] at this
     cases this
    ·exact hh
   obtain ⟨c1,_⟩:=hr.op x (by simp)
   have hco:Cs P N ops o=some x.2.1:=(rj hc).2 x.1 o x.2.1 (by simpa using h2) c1
   have nx:∀ y,y ∈ L1++L2→y.1 ≠ x.1:=by
    intro y hy
    rcases List.mem_append.1 hy with hy | hy
    ·have:=(pw3 y hy x (by simp)).1; omega
    ·have:=(pw2.1 y hy).1; omega
   refine CC hcall hN h2 hco ok (Md g1) fun a' w' ρ' ok' far => ?_
   have set_ne:∀ k,k ≠ x.1→(listed.setIfInBounds x.1 true).getD k true=listed.getD k true:=fun k hk=>getD_set_ne true (Ne.symm hk)
   have set_same:(listed.setIfInBounds x.1 true).getD x.1 true=true:=by
    have:x.1 < listed.size:=by rw [hr.size]; exact hisz
    simp [this]
   refine Gz hcall hN hc hlt hdep fuel (L:=L1++L2) (by simp at hl ⊢; omega) ⟨by simpa using hr.size,fun y hy => ?_,fun j hj hjl => ?_,?_,fun k hk hkl k' hk' => ?_⟩ (by simpa [List.map_append] using g2) ok' fun a'' w'' ρ'' ok'' far'=>hQ _ _ ρ'' ok'' (far.trans far')
   ·obtain ⟨q1,q2⟩:=hr.op y (by rcases List.mem_append.1 hy with hy | hy <;> simp [hy])
    exact ⟨q1,by rw [set_ne _ (nx y hy)]; exact q2⟩
   ·have hne:j ≠ x.1:=by rintro rfl; rw [set_same] at hjl; cases hjl
    rw [set_ne _ hne] at hjl
    obtain ⟨y,hy,rfl⟩:=hr.all j hj hjl
    refine ⟨y,?_,rfl⟩
    simp only [List.mem_append,List.mem_cons] at hy ⊢
    rcases hy with hy | rfl | hy
    ·exact .inl hy
    ·exact absurd rfl hne
    ·exact .inr hy
   ·rw [List.pairwise_append]
    exact ⟨pw1,pw2.2,fun y hy z hz=>pw3 y hy z (by simp [hz])⟩
   ·have old:listed.getD k' true=true:=by
     by_cases hkx:k=x.1
     ·subst hkx; exact hbl k' hk'
     ·rw [set_ne _ hkx] at hkl
      exact hr.cls k hk hkl k' hk'
    by_cases hk'x:k'=x.1
    ·rw [hk'x]; exact set_same
    ·rw [set_ne _ hk'x]; exact old
theorem Ok.draws {w:World} {X:Nat→Prop} {ρ:bj} {h:ac} {s:am} {a:Act} (ok:Ok I N w X ρ h s a):Ok I N { w with drawn:=w.drawn+1 } X ρ h s a∧Far md.nm w ρ h { w with drawn:=w.drawn+1 } ρ h:=by
 have e:Evo w ρ h { w with drawn:=w.drawn+1 } ρ h []:=⟨rfl,rfl,rfl,Nat.le_refl _,fun _ _ _=>rfl,fun _ _ hp _=>⟨hp,rfl⟩,fun _ ho => .inl ho,fun _ hb=>⟨hb,rfl⟩,fun _ _ hd=>⟨hd,rfl⟩⟩
 exact ⟨⟨ok.rel.step e (fun _=>False) (fun _ _=>⟨rfl,fun _=>rfl,fun _ _=>rfl⟩) ok.rel.inj ok.rel.nx (fun _ hf=>hf.elim),e.rs ok.rs,ok.size,ok.defers,e.inv ok.rel ok.inv⟩,e.far (kZ _)⟩
theorem OT (hm:P.follows .mixedOrders=true) (hcall:jn P I call md) (hN:N≤1000):Gt P I call md N:=by
 intro id ops cl w X ρ h s a t ps Q hc hd ok hz hQ
 simp only [pL,Option.bind_eq_some_iff] at hz
 obtain ⟨⟨t',Fs⟩,e1,e2⟩:=hz
 split at e2
 ·rename_i hps
  cases e2
  refine wp_region_any hm ?_
  obtain ⟨ok',far'⟩:=ok.draws (md:=md)
  obtain ⟨lf,gf⟩:=Jc e1
  obtain ⟨lc,gc⟩:=rj hc
  have lc':cl.length=ops.size:=by simpa using lc
  have hsp:=wv (done:=[]) (j0:=0) rfl hd
  have lb:(ku ops.toList []).length=ops.size:=by
   obtain ⟨r,q1,q2⟩:=AQ ops.toList []
   rw [q1]
   simpa using q2
  have bget:∀ j,j < ops.size→(ku ops.toList [])[j]?=some ((ku ops.toList []).getD j []):=fun j hj=>by
   rw [List.getD_eq_getElem?_getD]
   simp [List.getElem?_eq_getElem (show j < (ku ops.toList []).length from by omega)]
  have hlt:∀ j,j < ops.size→∀ i ∈ (ku ops.toList []).getD j [],i < j:=fun j hj i hi=>by
   have:=(hsp j cl[j] _ (by simp) (bget j hj)).1 i hi
   omega
  refine Gz hcall hN hc (bf:=fun j=>(ku ops.toList []).getD j []) hlt (fun j o hj => ?_) ops.size (L:=(List.range ops.size).zip (cl.zip Fs)) (by simp [lc',lf]) ⟨by simp,fun x hx => ?_,fun j hj _ => ?_,?_,fun k hk hkl => ?_⟩ ?_ ok' fun a'' w'' ρ'' ok'' far''=>hQ _ _ ρ'' ok'' (far'.trans far'')
  ·have hjs:j < ops.size:=(Array.getElem?_eq_some_iff.1 hj).1
   obtain ⟨pre,q1,q2,r,q3⟩:=Jd ops.toList [] j o (by simpa using hj)
   simp only [List.length_nil,Nat.zero_add] at q1 q2
   have hrow:(ku ops.toList []).getD j []=eG o++(eG o).flatMap fun d=>pre.getD d []:=by
    rw [List.getD_eq_getElem?_getD,q1]; rfl
   have hpre:∀ d ∈ eG o,pre.getD d []=(ku ops.toList []).getD d []:=fun d hd=>by
    have hdj:d < j:=hlt j hjs d (by rw [hrow]; simp [hd])
    rw [List.getD_eq_getElem?_getD,List.getD_eq_getElem?_getD,q3,List.getElem?_append_left (by omega)]
   refine ⟨fun d hd=>by rw [hrow]; simp [hd],fun i hi => ?_⟩
   rw [hrow] at hi
   rcases List.mem_append.1 hi with hi | hi
   ·exact .inl hi
   ·obtain ⟨d,hd,hid⟩:=List.mem_flatMap.1 hi
    rw [hpre d hd] at hid
    exact .inr ⟨d,hd,hid⟩
  ·obtain ⟨n,hn⟩:=List.getElem?_of_mem hx
   rw [List.getElem?_zip_eq_some,List.getElem?_zip_eq_some] at hn
   obtain ⟨q1,q2,q3⟩:=hn
   have:n < ops.size:=by
    have:=(List.getElem?_eq_some_iff.1 q1).1
    simpa using this
   rw [List.getElem?_range this] at q1
   cases q1
   exact ⟨q2,by simp [*]⟩
  ·refine ⟨(j,cl[j],Fs[j]),?_,rfl⟩
   refine List.mem_of_getElem? (i:=j) ?_
   rw [List.getElem?_zip_eq_some,List.getElem?_zip_eq_some]
   exact ⟨List.getElem?_range hj,by simp,by simp⟩
  ·rw [List.pairwise_iff_getElem]
   intro i j hi hj hij
   have hjs:j < ops.size:=by simp [lc',lf] at hj; exact hj
   simp only [List.getElem_zip,List.getElem_range]
   refine ⟨hij,?_⟩
   rcases (hsp j cl[j] _ (by simp) (bget j hjs)).2 i cl[i] (by omega) (by simp) with hb | hb
   ·exact .inl hb
   ·refine .inr ?_
    simp only [IA,Bool.and_eq_true,Bool.or_eq_true,Nat.zero_add] at hb
    obtain ⟨hb1,hb2⟩:=hb
    refine ⟨hb1,?_⟩
    obtain ⟨s1,h1,t1,st1⟩:=gf i cl[i] Fs[i] (by simp) (by simp)
    obtain ⟨s2,h2,t2,st2⟩:=gf j cl[j] Fs[j] (by simp) (by simp)
    rcases hb2 with ((hb2 | hb2) | hb2) | hb2
    ·rw [Nr st1 hb2]; exact Gy _
    ·rw [Nr st2 hb2]; exact (Gy _).symm
    ·obtain ⟨r1,k1⟩:=CG st1 hb2.1
     obtain ⟨r2,k2⟩:=CG st2 hb2.2
     rw [k1,k2]
     simp [lg,gZ,qC]
    ·have:=List.all_eq_true.1 hps (i,j) (by simpa using hb2)
     simp only [rF] at this
     rw [List.getElem?_eq_getElem (show i < Fs.length from by omega),List.getElem?_eq_getElem (show j < Fs.length from by omega)] at this
     exact this
  ·simp [hk] at hkl
  ·have m1:((List.range ops.size).zip (cl.zip Fs)).map (·.2.1)=cl:=by
    rw [show (fun x:Nat × COp × Fp=>x.2.1)=Prod.fst ∘ Prod.snd from rfl,← List.map_map,List.map_snd_zip (by simp [lc',lf]),List.map_fst_zip (by omega)]
   have m2:((List.range ops.size).zip (cl.zip Fs)).map (·.2.2)=Fs:=by
    rw [show (fun x:Nat × COp × Fp=>x.2.2)=Prod.snd ∘ Prod.snd from rfl,← List.map_map,List.map_snd_zip (by simp [lc',lf]),List.map_snd_zip (by omega)]
   rw [m1,m2]
   exact e1
 ·cases e2
end
theorem pN:∀ (ss:List Sh) (l:List AV),(cp ss l).length=l.length
 | [],l=>by cases l <;> simp [cp]
 | s::ss,[]=>by simp [cp]
 | s::ss,a::l=>by simp [cp,pN ss l]
theorem rX:∀ (ss:List Sh) (l:List AV) (j:Nat) (c:AV),(cp ss l)[j]?=some c→∃ c0,l[j]?=some c0∧(c=c0∨∃ s,c=nrmL s c0)
 | [],l,j,c,h=>⟨c,by simpa [cp] using h,.inl rfl⟩
 | s::ss,[],j,c,h=>by simp [cp] at h
 | s::ss,a::l,0,c,h=>by simp [cp] at h; exact ⟨a,rfl,.inr ⟨s,h.symm⟩⟩
 | s::ss,a::l,j+1,c,h=>by
  simp [cp] at h
  simpa using rX ss l j c h
theorem rY {s:Sh} {c:AV} (hd:aD c=true):aD (nrmL s c)=true:=by
 obtain ⟨k,cs⟩:=s
 cases k with
 | zero=>simpa [nrmL] using hd
 | succ k=>cases c <;> simp [aD] at hd <;> simp [nrmL,aD,hd]
theorem dQ (s:Sh) {c:AV} (h1:∀ k r,c ≠ .sl k r) (h2:c ≠ .emp) (h3:∀ k r,c ≠ .osl k r):nrmL s c=c:=by
 obtain ⟨k,cs⟩:=s
 cases k with
 | zero=>simp [nrmL]
 | succ k=>cases c <;> first | rfl | exact absurd rfl (h1 _ _) | exact absurd rfl h2 | exact absurd rfl (h3 _ _)
section
variable {w:World} {A:Nat→Prop} {ρ:bj} {h:ac}
theorem RD.nrmL {c:AV} {u:Value} (hd:RD w A c u):∀ s:Sh,RD w A (nrmL s c) u:=by
 induction hd with
 | any u h=>intro s; rw [dQ s (by simp) (by simp) (by simp)]; exact .any u h
 | v x h=>intro s; rw [dQ s (by simp) (by simp) (by simp)]; exact .v x h
 | emp a =>
  intro s
  obtain ⟨k,cs⟩:=s
  cases k with
  | zero=>simp only [Ab.nrmL]; exact .emp a
  | succ k =>
   simp only [Ab.nrmL]
   exact .sl k [] a 0 ⟨0,0,none⟩ (fun _ _=>undef) (Nat.le_refl 0) (fun h=>absurd rfl h) (fun _ h=>by simp at h) (fun i row j c h=>by simp at h) (fun _ h=>by simp at h) (fun i row j c h=>by simp at h)
 | sl k rows a cap ad vals hc ha hk hv hl hr ih =>
  intro s
  obtain ⟨k',cs⟩:=s
  cases k' with
  | zero=>simp only [Ab.nrmL]; exact .sl k rows a cap ad vals hc ha hk hv hl hr
  | succ k' =>
   simp only [Ab.nrmL]
   have key:∀ (i:Nat) (row:List AV) (j:Nat) (c:AV),(rows.map (cp cs))[i]?=some row→row[j]?=some c→∃ row0 c0,rows[i]?=some row0∧row0[j]?=some c0∧(c=c0∨∃ s,c=Ab.nrmL s c0):=by
    intro i row j c h1 h2
    simp only [List.getElem?_map,Option.map_eq_some_iff] at h1
    obtain ⟨row0,h3,rfl⟩:=h1
    obtain ⟨c0,h4,h5⟩:=rX cs row0 j c h2
    exact ⟨row0,c0,h3,h4,h5⟩
   have:=RD.sl (w:=w) (A:=A) k (rows.map (cp cs)) a cap ad vals (by simpa using hc) (fun hne=>ha (by simpa using hne)) (fun row hm=>by
     simp only [List.mem_map] at hm
     obtain ⟨row0,hm,rfl⟩:=hm
     rw [pN]
     exact hk row0 hm) (fun i row j c h1 h2=>by
     obtain ⟨row0,c0,h3,h4,_⟩:=key i row j c h1 h2
     exact hv i row0 j c0 h3 h4) (fun row hm c hc=>by
     obtain ⟨i,hi⟩:=List.getElem?_of_mem hm
     obtain ⟨j,hj⟩:=List.getElem?_of_mem hc
     obtain ⟨row0,c0,h3,h4,h5⟩:=key i row j c hi hj
     have hd:=hl row0 (List.mem_of_getElem? h3) c0 (List.mem_of_getElem? h4)
     rcases h5 with rfl | ⟨s,rfl⟩
     ·exact hd
     ·exact rY hd) (fun i row j c h1 h2=>by
     obtain ⟨row0,c0,h3,h4,h5⟩:=key i row j c h1 h2
     rcases h5 with rfl | ⟨s,rfl⟩
     ·exact hr i row0 j _ h3 h4
     ·exact ih i row0 j c0 h3 h4 s)
   simpa using this
 | agg cs us hs h1 hr ih=>intro s; rw [dQ s (by simp) (by simp) (by simp)]; exact .agg cs us hs h1 hr
 | fn f=>intro s; rw [dQ s (by simp) (by simp) (by simp)]; exact .fn f
theorem RV.nrmL {c:AV} {u:Value} (hv:RV w A ρ h c u) (s:Sh):RV w A ρ h (nrmL s c) u:=by
 cases hv with
 | dat hd=>exact .dat (hd.nrmL s)
 | anyv u=>rw [dQ s (by simp) (by simp) (by simp)]; exact .anyv u
 | und=>rw [dQ s (by simp) (by simp) (by simp)]; exact .und
 | ref id sub k i j hp=>rw [dQ s (by simp) (by simp) (by simp)]; exact .ref id sub k i j hp
 | rsl id sub k lo n cap a hp hn hb ha=>rw [dQ s (by simp) (by simp) (by simp)]; exact .rsl id sub k lo n cap a hp hn hb ha
 | ipt cs ad vals hA hs hv hl hr=>rw [dQ s (by simp) (by simp) (by simp)]; exact .ipt cs ad vals hA hs hv hl hr
 | agg cs us hs h1 hr=>rw [dQ s (by simp) (by simp) (by simp)]; exact .agg cs us hs h1 hr
 | tup vs us hs hr=>rw [dQ s (by simp) (by simp) (by simp)]; exact .tup vs us hs hr
 | fn f x y us ts hs ht hx hy=>rw [dQ s (by simp) (by simp) (by simp)]; exact .fn f x y us ts hs ht hx hy
theorem RV.nrmV {c:AV} {u:Value} (hv:RV w A ρ h c u) (ss:List Sh):RV w A ρ h (nrmV ss c) u:=by
 cases c with
 | agg cs =>
  simp only [Ab.nrmV]
  obtain ⟨us,rfl,hs,h1,hr⟩:=hv.agg_inv
  refine .agg _ us (by rw [pN]; exact hs) h1 fun i c u hc hu => ?_
  obtain ⟨c0,h2,h3⟩:=rX ss cs i c hc
  rcases h3 with rfl | ⟨s,rfl⟩
  ·exact hr i _ u h2 hu
  ·exact (hr i c0 u h2 hu).nrmL s
 | _=>exact hv.nrmL _
theorem rZ:∀ (ss:List (List Sh)) (l:List AV),(bm ss l).length=l.length
 | [],l=>by cases l <;> simp [bm]
 | s::ss,[]=>by simp [bm]
 | s::ss,a::l=>by simp [bm,rZ ss l]
theorem qc:∀ (ss:List (List Sh)) (l:List AV) (j:Nat) (c:AV),(bm ss l)[j]?=some c→∃ c0,l[j]?=some c0∧(c=c0∨∃ s,c=Ab.nrmV s c0)
 | [],l,j,c,h=>⟨c,by simpa [bm] using h,.inl rfl⟩
 | s::ss,[],j,c,h=>by simp [bm] at h
 | s::ss,a::l,0,c,h=>by simp [bm] at h; exact ⟨a,rfl,.inr ⟨s,h.symm⟩⟩
 | s::ss,a::l,j+1,c,h=>by
  simp [bm] at h
  simpa using qc ss l j c h
end
def lh:AV→Bool
 | .osl _ _ | .obx _=>true
 | _=>false
def Je (L:List Nat) (h':ac) (a c:AV):Prop :=
 ∃ id,bT a=[id]∧aS id=false∧bh L (h' id)=true ∧
  ((∃ k rows,c = .osl k rows∧a = .rsl id none k 0 rows.length∧h' id = .ar k rows)∨(∃ xs,c = .obx xs∧a = .ref id none 0 0 0∧h' id = .bx xs))
theorem GA {m:Nat} {h:ac} {c:AV} (hc:lh c=false):cJ m h c=(c,h):=by
 cases c <;> simp [lh] at hc <;> rfl
theorem Je.mat {L:List Nat} {h':ac} {a c:AV} (hm:Je L h' a c) (m:Nat) (h2:ac):∃ id,bT a=[id]∧aS id=false∧bh L (h' id)=true∧h' id ≠ .dead∧(cJ m h2 c).2=upd h2 m (h' id):=by
 obtain ⟨id,h1,h3,h4,⟨k,rows,rfl,rfl,h5⟩ | ⟨xs,rfl,rfl,h5⟩⟩:=hm
 ·exact ⟨id,h1,h3,h4,by rw [h5]; simp,by rw [h5]; rfl⟩
 ·exact ⟨id,h1,h3,h4,by rw [h5]; simp,by rw [h5]; rfl⟩
theorem Me {x:Nat} {l:List Nat} (h:iQ (x::l)=true):x ∉ l∧iQ l=true:=by
 simp only [iQ,Bool.and_eq_true,Bool.not_eq_true',List.contains_eq_mem,decide_eq_false_iff_not] at h
 exact h
theorem CH {l l':List Nat}:iQ (l++l')=true→iQ l'=true∧∀ x,x ∈ l→x ∉ l':=by
 induction l with
 | nil=>intro h; exact ⟨h,fun x hx=>by simp at hx⟩
 | cons y l ih =>
  intro h
  obtain ⟨h1,h2⟩:=Me h
  obtain ⟨h3,h4⟩:=ih h2
  refine ⟨h3,fun x hx => ?_⟩
  rcases List.mem_cons.1 hx with rfl | hx
  ·exact fun hh=>h1 (by simp [hh])
  ·exact h4 x hx
section
variable {h':ac} {L:List Nat}
theorem vE (hL:∀ i,2000≤i→L.contains i=false):∀ (as cs:List AV) (m:Nat) (h2:ac) (g:Nat→Nat),2000≤m→as.length=cs.length →
  (∀ (j:Nat) (a c:AV),as[j]?=some a→cs[j]?=some c→lh c=true→Je L h' a c)→iQ ((as.flatMap bT).filter fun i => !aS i)=true→Emb L (fun i=>i) g h' h2→(∀ i,m≤i→h2 i = .dead) →
  (∀ i,h2 i ≠ .dead→∀ id,id ∈ as.flatMap bT→aS id=false→g i ≠ id) →
  ∃ gm,Emb L (fun i=>i) gm h' (bu m h2 cs).2∧(∀ i,i < m→(bu m h2 cs).2 i=h2 i∧gm i=g i) ∧
   (∀ i,(bu m h2 cs).2 i ≠ .dead→(h2 i ≠ .dead∧gm i=g i)∨∃ (j:Nat) (a c:AV),as[j]?=some a∧cs[j]?=some c∧lh c=true∧bT a=[gm i]) ∧
   (∀ (j:Nat) (a c:AV) (id:Nat),as[j]?=some a→cs[j]?=some c→lh c=true→bT a=[id]→gm (m+j)=id∧(bu m h2 cs).2 (m+j)=h' id∧h' id ≠ .dead)
 | [],[],m,h2,g,hm,_,_,_,em,_,_=>⟨g,em,fun _ _=>⟨rfl,rfl⟩,fun _ hi => .inl ⟨hi,rfl⟩,fun j a c id h1=>by simp at h1⟩
 | [],c::cs,m,h2,g,_,hl,_,_,_,_,_=>by simp at hl
 | a::as,[],m,h2,g,_,hl,_,_,_,_,_=>by simp at hl
 | a::as,c::cs,m,h2,g,hm,hl,hmv,hnd,em,hfree,hid=>by
  simp only [List.flatMap_cons,List.filter_append] at hnd
  obtain ⟨nd2,nd3⟩:=CH hnd
  have hmv':∀ (j:Nat) (a c:AV),as[j]?=some a→cs[j]?=some c→lh c=true→Je L h' a c:=fun j a' c' h1 h3=>hmv (j+1) a' c' (by simpa using h1) (by simpa using h3)
  have hl':as.length=cs.length:=by simpa using hl
  cases hc:lh c with
  | false =>
   simp only [bu,GA hc]
   obtain ⟨gm,e1,e2,e3,e4⟩:=vE hL as cs (m+1) h2 g (by omega) hl' hmv' nd2 em (fun i hi=>hfree i (by omega)) (fun i hi id hm'=>hid i hi id (by simp only [List.flatMap_cons,List.mem_append]; exact .inr hm'))
   refine ⟨gm,e1,fun i hi=>e2 i (by omega),fun i hi => ?_,fun j a' c' id h1 h3 h4 h5 => ?_⟩
   ·rcases e3 i hi with hh | ⟨j,a',c',h1,h3,h4,h5⟩
    ·exact .inl hh
    ·exact .inr ⟨j+1,a',c',by simpa using h1,by simpa using h3,h4,h5⟩
   ·cases j with
    | zero =>
     simp at h3
     subst h3
     rw [hc] at h4
     cases h4
    | succ j =>
     have:=e4 j a' c' id (by simpa using h1) (by simpa using h3) h4 h5
     rwa [show m+(j+1)=m+1+j from by omega]
  | true =>
   obtain ⟨id,i1,i2,i3,i4,i5⟩:=(hmv 0 a c rfl rfl hc).mat m h2
   simp only [bu,i5]
   have hida:id ∈ (a::as).flatMap bT:=by simp [i1]
   have em1:=em.add (m:=m) (id:=id) (hfree m (Nat.le_refl _)) (hL m hm) (fun i hi=>hid i hi id hida i2) i3
   have nin:∀ id',id' ∈ as.flatMap bT→aS id'=false→id' ≠ id:=by
    rintro id' h1 h3 rfl
    exact nd3 id' (by simp [i1,i2]) (List.mem_filter.2 ⟨h1,by simp [h3]⟩)
   obtain ⟨gm,e1,e2,e3,e4⟩:=vE hL as cs (m+1) (upd h2 m (h' id)) (upd g m id) (by omega) hl' hmv' nd2 em1 (fun i hi=>by rw [aI _ _ (by omega)]; exact hfree i (by omega)) (fun i hi id' hm' hp'=>by
    by_cases e:i=m
    ·subst e
     rw [aA]
     exact fun ee=>nin id' hm' hp' ee.symm
    ·rw [aI _ _ e] at hi ⊢
     exact hid i hi id' (by simp only [List.flatMap_cons,List.mem_append]; exact .inr hm') hp')
   have atm:=e2 m (by omega)
   rw [aA,aA] at atm
   refine ⟨gm,e1,fun i hi => ?_,fun i hi => ?_,fun j a' c' id' h1 h3 h4 h5 => ?_⟩
   ·have:=e2 i (by omega)
    rwa [aI _ _ (by omega),aI _ _ (by omega)] at this
   ·rcases e3 i hi with ⟨h1,h3⟩ | ⟨j,a',c',h1,h3,h4,h5⟩
    ·by_cases e:i=m
     ·subst e
      exact .inr ⟨0,a,c,rfl,rfl,hc,by rw [atm.2]; exact i1⟩
     ·rw [aI _ _ e] at h1 h3
      exact .inl ⟨h1,h3⟩
    ·exact .inr ⟨j+1,a',c',by simpa using h1,by simpa using h3,h4,h5⟩
   ·cases j with
    | zero =>
     simp at h1
     subst h1
     rw [i1] at h5
     cases h5
     exact ⟨atm.2,atm.1,i4⟩
    | succ j =>
     have:=e4 j a' c' id' (by simpa using h1) (by simpa using h3) h4 h5
     rwa [show m+(j+1)=m+1+j from by omega]
theorem Jf:∀ (l:List AV) (m:Nat) (h:ac) (j:Nat) (z:AV),(bu m h l).1[j]?=some z→∃ c,l[j]?=some c∧z=(cJ (m+j) h c).1
 | [],m,h,j,z,hz=>by simp [bu] at hz
 | c::l,m,h,0,z,hz=>by
  simp [bu] at hz
  exact ⟨c,rfl,hz.symm⟩
 | c::l,m,h,j+1,z,hz=>by
  simp only [bu,List.getElem?_cons_succ] at hz
  obtain ⟨c',h1,h2⟩:=Jf l (m+1) _ j z hz
  refine ⟨c',by simpa using h1,?_⟩
  rw [h2,AP _ _ h,show m+1+j=m+(j+1) from by omega]
theorem Am:∀ (l:List AV) (m:Nat) (h:ac),(bu m h l).1.length=l.length
 | [],m,h=>rfl
 | c::l,m,h=>by simp [bu,Am l]
end
section
variable {w:World} {X:Nat→Prop} {ρ:bj} {h':ac} {L:List Nat}
structure Seen (w:World) (X:Nat→Prop) (ρ:bj) (h':ac) (a:AV) (A2:Nat→Prop) (ρ2:bj) (h2:ac):Prop where
 mono:∀ b,aG w X h' ρ b→A2 b
 ids:∀ id,id ∈ bT a→aS id=false→∀ sub,live h' id sub→A2 (ρ id sub).1
 pas:∀ id,aS id=true→h' id ≠ .dead→h2 id ≠ .dead∧ρ2 id none=ρ id none
def TM (w:World) (X:Nat→Prop) (ρ:bj) (h':ac) (L:List Nat) (a c:AV) (u:Value):Prop :=
 (lh c=true→Je L h' a c)∧(lh c=false→∀ A2 ρ2 h2,Seen w X ρ h' a A2 ρ2 h2→RV w A2 ρ2 h2 c u)
theorem An {c:AV} (hd:gX c=true):eK L c=true:=by
 simp only [gX,Bool.or_eq_true] at hd
 simp only [eK,Bool.or_eq_true]
 rcases hd with hd | hd
 ·exact .inl hd
 ·right
  cases c <;> simp [aD] at hd <;> simp [aW,bg,hd]
theorem Ao {a b:AV} (he:gY h' a=some b) (hd:aD b=true∨∃ k r,b = .osl k r) {id:Nat} (hi:gh a=[id]):aS id=false:=by
 cases a <;> simp only [gh] at hi <;> try (cases hi; done)
 case ref i sub k x y =>
  cases sub with
  | some p=>simp [gY,aD] at he
  | none =>
   simp only [gY] at he
   split at he
   ·cases he; rcases hd with hd | ⟨_,_,hd⟩ <;> simp [aD] at hd
   ·split at he
    ·cases e:h' i <;> rw [e] at he <;> simp only [Ty] at he <;> try (cases he; done)
     split at he
     ·cases he; rcases hd with hd | ⟨_,_,hd⟩ <;> simp [aD] at hd
     ·cases he
    ·cases he
 case rsl i sub k x y =>
  have hi':i=id:=by simpa using hi
  subst hi'
  cases hp:aS i with
  | false=>rfl
  | true=>cases sub <;> simp [gY,hp] at he
theorem VR {b c:AV} (hd:qD b=some c):aD b=true∨∃ k r,b = .osl k r:=by
 unfold qD at hd
 split at hd
 ·exact .inr ⟨_,_,rfl⟩
 ·split at hd
  ·exact .inl (by assumption)
  ·cases hd
theorem Jg:∀ {cs ds:List AV},gl h' cs=some ds→∀ (i:Nat) (a:AV) (id:Nat),cs[i]?=some a→gh a=[id]→aS id=false
 | [],ds,_,i,a,id,h1,_=>by simp at h1
 | c::cs,ds,he,i,a,id,h1,h2=>by
  simp only [gl,Option.bind_eq_some_iff] at he
  obtain ⟨b,e1,c',e2,q,e3,e4⟩:=he
  cases i with
  | zero=>simp at h1; subst h1; exact Ao e1 (VR e2) h2
  | succ i=>exact Jg e3 i a id (by simpa using h1) h2
theorem GB {s:Sh} {b:AV} (h:lh (nrmL s b)=true):nrmL s b=b:=by
 obtain ⟨k,cs⟩:=s
 cases k with
 | zero=>simp [nrmL]
 | succ k=>cases b <;> simp [nrmL,lh] at h ⊢
theorem Q4 (ss:List Sh) {b:AV} (h:∀ cs,b ≠ .agg cs):nrmV ss b=nrmL (ss.headD (.o 0 [])) b:=by
 cases b <;> first | rfl | exact absurd rfl (h _)
theorem TN (r:Rel w X ρ h') {a b:AV} {u:Value} (hv:RV w (aG w X h' ρ) ρ h' a u) (he:gY h' a=some b) (s:Sh):TM w X ρ h' L a (nrmL s b) u:=by
 have data:∀ {b:AV},gY h' a=some b→aD b=true→(∀ A2:Nat→Prop,(∀ b,aG w X h' ρ b→A2 b)→(∀ id sub,gh a=[id]→live h' id sub→A2 (ρ id sub).1)→RD w A2 b u) →
   ∀ A2 ρ2 h2,Seen w X ρ h' a A2 ρ2 h2→RV w A2 ρ2 h2 (nrmL s b) u:=by
  intro b he hd hr A2 ρ2 h2 hs
  exact .dat ((hr A2 hs.mono fun id sub hi hl=>hs.ids id (by
   have:bT a=gh a:=by cases a <;> first | rfl | simp [gh] at hi
   rw [this,hi]; simp) (Ao he (.inl hd) hi) sub hl).nrmL s)
 rcases re r hv he with ⟨id,k,rows,rfl,rfl,e,hp⟩ | ⟨id,cs,rfl,rfl,e,hd,hp⟩ | ⟨rfl,id,k,i,j,rfl,hp⟩ | ⟨rfl,hd⟩ | ⟨hd,hr⟩
 ·refine ⟨fun hm => ?_,fun hm A2 ρ2 h2 hs => ?_⟩
  ·rw [GB hm]
   exact ⟨id,rfl,hp,by rw [e]; rfl,.inl ⟨k,rows,rfl,rfl,e⟩⟩
  ·have hsl:nrmL s (.osl k rows)=nrmL s (.sl k rows):=by
    obtain ⟨k',cs⟩:=s
    cases k' with
    | zero=>simp [nrmL,lh] at hm
    | succ k'=>simp [nrmL]
   rw [hsl]
   obtain ⟨a',cap,rfl,_⟩:=hv.rsl_inv
   exact .dat (((CF r hv rfl he rfl).2 A2 hs.mono fun id' sub hi hl=>hs.ids id' (by
    simp only [gh] at hi; simp only [bT,gh]; rw [hi]; simp) (by simp only [gh] at hi; cases hi; exact hp) sub hl).nrmL s)
 ·refine ⟨fun hm => ?_,fun hm => ?_⟩
  ·rw [GB hm]
   refine ⟨id,rfl,hp,?_,.inr ⟨cs,rfl,rfl,e⟩⟩
   rw [e]
   simp only [bh,List.all_eq_true] at hd ⊢
   exact fun c hc=>An (hd c hc)
  ·rw [dQ s (by simp) (by simp) (by simp)] at hm
   cases hm
 ·refine ⟨fun hm => ?_,fun hm A2 ρ2 h2 hs => ?_⟩
  ·rw [dQ s (by simp) (by simp) (by simp)] at hm
   cases hm
  ·rw [dQ s (by simp) (by simp) (by simp)]
   obtain ⟨rfl,hpr⟩:=hv.ref_inv
   obtain ⟨h1,h3⟩:=hs.pas id hp hpr
   have:=RV.ref (w:=w) (A:=A2) (ρ:=ρ2) (h:=h2) id none k i j h1
   rwa [h3] at this
 ·refine ⟨fun hm => ?_,fun hm A2 ρ2 h2 hs => ?_⟩
  ·have:=rY (s:=s) hd
   cases hq:nrmL s b <;> rw [hq] at hm this <;> simp [lh,aD] at hm this
  ·exact (hv.keepD hd fun b hb=>⟨hs.mono b hb,rfl⟩).nrmL s
 ·refine ⟨fun hm => ?_,fun hm=>data he hd hr⟩
  have:=rY (s:=s) hd
  cases hq:nrmL s b <;> rw [hq] at hm this <;> simp [lh,aD] at hm this
theorem VS (r:Rel w X ρ h') {a b:AV} {u:Value} (hv:RV w (aG w X h' ρ) ρ h' a u) (he:nj h' a=some b) {c:AV} (hc:c=b∨∃ ss,c=nrmV ss b):TM w X ρ h' L a c u:=by
 have hc':∃ ss,c=nrmV ss b:=by
  rcases hc with rfl | hc
  ·refine ⟨[],?_⟩
   cases c <;> simp [nrmV,nrmL,cp]
  ·exact hc
 obtain ⟨ss,rfl⟩:=hc'
 by_cases hagg:∃ cs,a = .agg cs
 ·obtain ⟨cs,rfl⟩:=hagg
  simp only [nj,Option.map_eq_some_iff] at he
  obtain ⟨ds,e1,rfl⟩:=he
  refine ⟨fun hm=>by simp [nrmV,lh] at hm,fun _ A2 ρ2 h2 hs => ?_⟩
  obtain ⟨us,rfl,q1,q2,q3⟩:=hv.agg_inv
  obtain ⟨l1,l2⟩:=Ai r cs ds e1
  refine .agg _ us (by rw [pN,l1]; exact q1) q2 fun i c u hc hu => ?_
  obtain ⟨c0,h1,h3⟩:=rX ss ds i c hc
  have hi:i < cs.length:=by rw [← l1]; exact (List.getElem?_eq_some_iff.1 h1).1
  have hci:cs[i]?=some cs[i]:=by simp [hi]
  obtain ⟨d1,d2⟩:=l2 i cs[i] c0 u hci h1 (q3 i _ u hci hu) (q2 i u hu)
  have hrd:=d2 A2 hs.mono fun id sub hii hl=>hs.ids id (by
   simp only [bT,List.mem_flatMap]
   exact ⟨cs[i],by simp,by rw [hii]; simp⟩) (Jg e1 i _ id hci hii) sub hl
  rcases h3 with rfl | ⟨s,rfl⟩
  ·exact .dat hrd
  ·exact .dat (hrd.nrmL s)
 ·have hl:nj h' a=gY h' a:=by cases a <;> first | rfl | exact absurd ⟨_,rfl⟩ hagg
  rw [hl] at he
  have hb:∀ cs,b ≠ .agg cs:=by
   rintro cs rfl
   rcases re r hv he with ⟨id,k,rows,h1,_⟩ | ⟨id,cs',h1,_⟩ | ⟨h1,id,k,i,j,h2,_⟩ | ⟨h1,hd⟩ | ⟨hd,hr⟩
   ·cases h1
   ·cases h1
   ·rw [h2] at h1; cases h1
   ·exact absurd ⟨_,h1.symm⟩ hagg
   ·simp [aD] at hd
  rw [Q4 ss hb]
  exact TN r hv he _
theorem GC:∀ {as bs:List AV},qX h' as=some bs→bs.length=as.length∧∀ (j:Nat) (a b:AV),as[j]?=some a→bs[j]?=some b→nj h' a=some b
 | [],bs,he=>by simp only [qX,Option.some.injEq] at he; subst he; exact ⟨rfl,fun j a b h1=>by simp at h1⟩
 | a::as,bs,he=>by
  simp only [qX,Option.bind_eq_some_iff] at he
  obtain ⟨b,e1,q,e2,e3⟩:=he
  cases e3
  obtain ⟨g1,g2⟩:=GC e2
  refine ⟨by simp [g1],fun j a' b' h1 h2 => ?_⟩
  cases j with
  | zero=>simp at h1 h2; subst h1 h2; exact e1
  | succ j=>exact g2 j a' b' (by simpa using h1) (by simpa using h2)
def CI (us:Array Value):Value:=if h:us.size=1 then us[0] else .tuple us
theorem Q5 {l:List AV} (hl:∀ c ∈ l,∀ vs,c ≠ .tup vs) (n:Nat) (h:ac):mat n h (vr l)=(vr (bu n h l).1,(bu n h l).2):=by
 match l with
 | []=>rfl
 | [c] =>
  have:∀ vs,c ≠ .tup vs:=hl c (by simp)
  cases c <;> first | rfl | exact absurd rfl (this _)
 | a::b::l=>rfl
end
section
variable {w:World} {X:Nat→Prop} {ρ:bj} {h':ac}
theorem Ns {L:List Nat} {g:Nat→Nat} {h2:ac} (em:Emb L (fun i=>i) g h' h2) {b:Nat} (ho:kD h2 (fun i s=>ρ (g i) s) b):kD h' ρ b:=by
 obtain ⟨i,s,h1,h3⟩:=ho
 exact ⟨g i,s,(em.live h1).1,h3⟩
theorem TO {ss:List Sh} {b:AV} {vs:List AV} (h:nrmV ss b = .tup vs):∃ vs',b = .tup vs':=by
 cases b with
 | tup vs'=>exact ⟨vs',rfl⟩
 | agg cs=>simp [nrmV] at h
 | _ =>
  simp only [nrmV] at h
  generalize ss.headD (.o 0 [])=s at h
  obtain ⟨k,cs⟩:=s
  cases k <;> simp [nrmL] at h
theorem OU (r:Rel w X ρ h') {a:AV} {u:Value} {vs:List AV} (hv:RV w (aG w X h' ρ) ρ h' a u) (he:nj h' a=some (.tup vs)):False:=by
 by_cases hagg:∃ cs,a = .agg cs
 ·obtain ⟨cs,rfl⟩:=hagg
  simp [nj] at he
 ·have hl:nj h' a=gY h' a:=by cases a <;> first | rfl | exact absurd ⟨_,rfl⟩ hagg
  rw [hl] at he
  rcases re r hv he with ⟨id,k,rows,h1,_⟩ | ⟨id,cs',h1,_⟩ | ⟨h1,id,k,i,j,h2,_⟩ | ⟨h1,hd⟩ | ⟨hd,hr⟩
  ·cases h1
  ·cases h1
  ·rw [h2] at h1; cases h1
  ·simp only [← h1] at hd; simp [aD] at hd
  ·simp [aD] at hd
theorem Q6 (r:Rel w X ρ h') {n0 n:Nat} (hn0:n0≤1000) (hn:2000≤n) (hpass:∀ id,aS id=true→h' id ≠ .dead→(bY n0).contains id=true) {as:List AV} {us:Array Value} (hs:us.size=as.length)
  (hv:∀ (i:Nat) (c:AV) (u:Value),as[i]?=some c→us[i]?=some u→RV w (aG w X h' ρ) ρ h' c u) {rs:List (List Sh)} {res:AV} {obs:List Ob} (hz:Es rs n0 h' as=some (res,obs)) :
  ∃ ρ2,Rel w X ρ2 (mat n (aB obs) res).2∧(∀ nm,Far nm w ρ h' w ρ2 (mat n (aB obs) res).2)∧RV w (aG w X (mat n (aB obs) res).2 ρ2) ρ2 (mat n (aB obs) res).2 (mat n (aB obs) res).1 (CI us):=by
 unfold Es at hz
 split at hz
 ·rename_i hc
  simp only [Bool.and_eq_true] at hc
  obtain ⟨hc1,hc2⟩:=hc
  simp only [Option.map_eq_some_iff] at hz
  obtain ⟨bs,e1,e2⟩:=hz
  cases e2
  obtain ⟨l1,l2⟩:=GC e1
  have hLm:∀ i,(bY n0).contains i=true→aS i=true:=fun i hi=>by
   have:=gE.1 hi
   simp only [aS,decide_eq_true_eq]
   omega
  have hL:∀ i,2000≤i→(bY n0).contains i=false:=fun i hi=>by
   cases hq:(bY n0).contains i with
   | false=>rfl
   | true=>have:=gE.1 hq; omega
  have hcl:(bm rs bs).length=as.length:=by rw [rZ,l1]
  have out:∀ (j:Nat) (a c:AV) (u:Value),as[j]?=some a→(bm rs bs)[j]?=some c→us[j]?=some u→TM w X ρ h' (bY n0) a c u:=fun j a c u h1 h3 h4=>by
   obtain ⟨b,h5,h6⟩:=qc rs bs j c h3
   exact VS r (hv j a u h1 h4) (l2 j a b h1 h5) h6
  have uget:∀ (j:Nat) (a:AV),as[j]?=some a→∃ u,us[j]?=some u:=fun j a h1=>by
   have:j < us.size:=by rw [hs]; exact (List.getElem?_eq_some_iff.1 h1).1
   exact ⟨us[j],by simp [this]⟩
  have em:=Emb.base (h':=h') hc2
  have hlow:∀ i,aB ((bY n0).map h') i ≠ .dead→(bY n0).contains i=true:=fun i hi=>by
   rw [j9] at hi
   split at hi
   ·rename_i h1; exact gE.2 h1
   ·exact absurd rfl hi
  obtain ⟨gm,m1,m2,m3,m4⟩:=vE hL as (bm rs bs) n (aB ((bY n0).map h')) (fun i=>i) hn hcl.symm (fun j a c h1 h3 h4=>by
    obtain ⟨u,hu⟩:=uget j a h1
    exact (out j a c u h1 h3 hu).1 h4) hc1 em (fun i hi=>by
    rw [j9,if_neg (by omega)]) (fun i hi id _ hp e=>by
    have:=hLm i (hlow i hi)
    rw [e] at this
    rw [this] at hp
    cases hp)
  have notup:∀ c ∈ bm rs bs,∀ vs,c ≠ .tup vs:=by
   rintro c hcm vs rfl
   obtain ⟨j,hj⟩:=List.getElem?_of_mem hcm
   have hja:j < as.length:=by rw [← hcl]; exact (List.getElem?_eq_some_iff.1 hj).1
   obtain ⟨u,hu⟩:=uget j as[j] (by simp [hja])
   obtain ⟨b,h5,h6⟩:=qc rs bs j _ hj
   have he:=l2 j as[j] b (by simp [hja]) h5
   obtain ⟨vs',rfl⟩:∃ vs',b = .tup vs':=by
    rcases h6 with h6 | ⟨ss,h6⟩
    ·exact ⟨vs,h6.symm⟩
    ·exact TO h6.symm
   exact OU r (hv j as[j] u (by simp [hja]) hu) he
  rw [Q5 notup]
  simp only
  have hfar:∀ b,aG w X h' ρ b→aG w X (bu n (aB ((bY n0).map h')) (bm rs bs)).2 (fun i s=>ρ (gm i) s) b:=fun b hb=>⟨hb.1,hb.2.1,fun ho=>hb.2.2 (Ns m1 ho)⟩
  have hps:∀ id,aS id=true→(bu n (aB ((bY n0).map h')) (bm rs bs)).2 id=aB ((bY n0).map h') id∧gm id=id:=fun id hp=>m2 id (by
   simp only [aS,decide_eq_true_eq] at hp; omega)
  have hpd:∀ id,aS id=true→h' id ≠ .dead→(bu n (aB ((bY n0).map h')) (bm rs bs)).2 id=h' id:=fun id hp hd=>by
   rw [(hps id hp).1,j9,if_pos (gE.1 (hpass id hp hd))]
  have rel2:Rel w X (fun i s=>ρ (gm i) s) (bu n (aB ((bY n0).map h')) (bm rs bs)).2:=Rel.emb m1 r r.xl (fun i s hl=>r.nx _ _ (m1.live hl).1) hfar
  refine ⟨fun i s=>ρ (gm i) s,rel2,fun nm=>⟨rfl,rfl,rfl,Nat.le_refl _,fun _ _ _=>rfl,fun b ho => .inl (Ns m1 ho),fun id hp hd => ?_,fun _ id p hp hd hpr => ?_⟩,?_⟩
  ·have:=hps id hp
   refine ⟨fun e=>hd ?_,by simp only [this.2]⟩
   rw [this.1,j9]
   split
   ·exact e
   ·rfl
  ·have h1:h' id ≠ .dead:=by obtain ⟨_,_,_,e,_⟩:=hpr; rw [e]; simp
   refine ⟨(df (hpd id hp h1)).2 hpr,by simp only [(hps id hp).2]⟩
  ·
   have seen:∀ (j:Nat) (a c:AV),as[j]?=some a→(bm rs bs)[j]?=some c→lh c=false →
     Seen w X ρ h' a (aG w X (bu n (aB ((bY n0).map h')) (bm rs bs)).2 (fun i s=>ρ (gm i) s)) (fun i s=>ρ (gm i) s) (bu n (aB ((bY n0).map h')) (bm rs bs)).2:=by
    intro j a c h1 h3 h4
    refine ⟨hfar,fun id hid hp sub hl=>⟨?_,r.nx _ _ hl,fun ⟨i,s,ho1,ho2⟩ => ?_⟩,fun id hp hd=>⟨by rw [hpd id hp hd]; exact hd,by simp only [(hps id hp).2]⟩⟩
    ·cases sub with
     | none =>
      have ho:=r.ob id
      cases e:h' id with
      | bx cs=>rw [e] at ho; obtain ⟨us,t,g1,_⟩:=ho; exact (Array.getElem?_eq_some_iff.1 g1).1
      | ar k rows=>rw [e] at ho; obtain ⟨us,t,g1,_⟩:=ho; exact (Array.getElem?_eq_some_iff.1 g1).1
      | _=>simp [live,e] at hl
     | some p =>
      obtain ⟨cs,k,rows,e,ec⟩:=hl
      have ho:=r.ob id
      rw [e] at ho
      obtain ⟨us,t,g1,g2,g3,g4⟩:=ho
      obtain ⟨u,_,a',cap,us',t',_,_,_,q4,_⟩:=g4 p _ ec
      exact (Array.getElem?_eq_some_iff.1 q4).1
    ·obtain ⟨hl1,hdd⟩:=m1.live ho1
     obtain ⟨e1,_⟩:=r.inj _ _ _ _ hl1 hl ho2
     rcases m3 i hdd with ⟨q1,q2⟩ | ⟨j',a',c',q1,q2,q3,q4⟩
     ·have:=hLm i (hlow i q1)
      rw [← q2,e1] at this
      rw [this] at hp
      cases hp
     ·rw [e1] at q4
      have hne:j' ≠ j:=by
       rintro rfl
       rw [h3] at q2
       cases q2
       rw [h4] at q3
       cases q3
      exact two_names as j' j a' a id hne q1 h1 (by rw [q4]; simp) hid hp hc1
   have vals:∀ (j:Nat) (z:AV) (u:Value),(bu n (aB ((bY n0).map h')) (bm rs bs)).1[j]?=some z→us[j]?=some u →
     RV w (aG w X (bu n (aB ((bY n0).map h')) (bm rs bs)).2 (fun i s=>ρ (gm i) s)) (fun i s=>ρ (gm i) s) (bu n (aB ((bY n0).map h')) (bm rs bs)).2 z u:=by
    intro j z u hz hu
    obtain ⟨c,h1,rfl⟩:=Jf _ _ _ _ _ hz
    have hja:j < as.length:=by rw [← hcl]; exact (List.getElem?_eq_some_iff.1 h1).1
    have ha:as[j]?=some as[j]:=by simp [hja]
    have o:=out j as[j] c u ha h1 hu
    cases hm:lh c with
    | false =>
     rw [GA hm]
     exact o.2 hm _ _ _ (seen j as[j] c ha h1 hm)
    | true =>
     obtain ⟨id,i1,i2,i3,⟨k,rows,rfl,i4,i5⟩ | ⟨xs,rfl,i4,i5⟩⟩:=o.1 hm
     ·obtain ⟨q1,q2,q3⟩:=m4 j as[j] _ id ha h1 hm i1
      have hva:=hv j as[j] u ha hu
      rw [i4] at hva
      obtain ⟨a',cap,rfl,hp,hnn,hb,hab⟩:=hva.rsl_inv
      simp only [cJ]
      exact .rsl (n+j) none k 0 rows.length cap a' (by show _ ≠ _; rw [q2]; exact q3) hnn (by simp only [q1]; exact hb) (by simp only [q1]; exact hab)
     ·obtain ⟨q1,q2,q3⟩:=m4 j as[j] _ id ha h1 hm i1
      have hva:=hv j as[j] u ha hu
      rw [i4] at hva
      obtain ⟨rfl,hp⟩:=hva.ref_inv
      simp only [cJ]
      have:=RV.ref (w:=w) (A:=aG w X (bu n (aB ((bY n0).map h')) (bm rs bs)).2 (fun i s=>ρ (gm i) s)) (ρ:=fun i s=>ρ (gm i) s) (h:=(bu n (aB ((bY n0).map h')) (bm rs bs)).2) (n+j) none 0 0 0 (by show _ ≠ _; rw [q2]; exact q3)
      simp only [q1] at this
      exact this
   have hzl:(bu n (aB ((bY n0).map h')) (bm rs bs)).1.length=us.size:=by rw [Am,hcl,hs]
   unfold CI
   split
   ·rename_i h1
    match hq:(bu n (aB ((bY n0).map h')) (bm rs bs)).1 with
    | []=>rw [hq] at hzl; simp at hzl; omega
    | [z]=>exact vals 0 z us[0] (by rw [hq]; rfl) (by simp [h1])
    | a::b::l=>rw [hq] at hzl; simp at hzl; omega
   ·rename_i h1
    match hq:(bu n (aB ((bY n0).map h')) (bm rs bs)).1 with
    | []=>exact .tup [] us (by rw [hq] at hzl; simpa using hzl.symm) fun i c u hc=>by simp at hc
    | [z]=>rw [hq] at hzl; simp at hzl; omega
    | a::b::l =>
     rw [hq] at hzl
     exact .tup _ us hzl.symm fun i c u hc hu=>vals i c u (by rw [hq]; exact hc) hu
 ·cases hz
where
 two_names:∀ (as:List AV) (i j:Nat) (a b:AV) (id:Nat),i ≠ j→as[i]?=some a→as[j]?=some b→id ∈ bT a→id ∈ bT b→aS id=false→iQ ((as.flatMap bT).filter fun i => !aS i)=true→False
 | [],i,j,a,b,id,_,h1,_,_,_,_,_=>by simp at h1
 | c::as,i,j,a,b,id,hne,h1,h2,h3,h4,hp,hnd=>by
  simp only [List.flatMap_cons,List.filter_append] at hnd
  obtain ⟨nd2,nd3⟩:=CH hnd
  have mem:∀ (j:Nat) (b:AV),as[j]?=some b→id ∈ bT b→id ∈ (as.flatMap bT).filter fun i => !aS i:=fun j b hb hi =>
   List.mem_filter.2 ⟨List.mem_flatMap.2 ⟨b,List.mem_of_getElem? hb,hi⟩,by simp [hp]⟩
  cases i with
  | zero =>
   simp at h1
   subst h1
   cases j with
   | zero=>exact hne rfl
   | succ j=>exact nd3 id (List.mem_filter.2 ⟨h3,by simp [hp]⟩) (mem j b (by simpa using h2) h4)
  | succ i =>
   cases j with
   | zero =>
    simp at h2
    subst h2
    exact nd3 id (List.mem_filter.2 ⟨h4,by simp [hp]⟩) (mem i a (by simpa using h1) h3)
   | succ j=>exact two_names as i j a b id (by omega) (by simpa using h1) (by simpa using h2) h3 h4 hp nd2
end
structure Text (P:Program) (f:FuncId) (fd:FD):Prop where
 text : ∃ fn code N, P.funcs[f]? = some fn ∧ fn.body = some code ∧ fn.ntmps = N ∧ N ≤ 1000 ∧ eg P N code fd.body = some fd.body ∧ vx P fn.results.toList = some fd.res ∧ (fn.name == "runtime.NumGoroutine") = false
theorem Jh (fn:Func) (tmps:Array Value):fn.results.mapM (p7 tmps)=(fun l=>l.toArray) <$> fn.results.toList.mapM (p7 tmps):=by
 rw [Array.mapM_eq_mapM_toList]
theorem Mf {P:Program} {fn:Func} {tmps:Array Value} {w:World} {us:List Value} (h:(fn.results.toList.mapM (p7 tmps)).run P w = .ok us w):(results fn tmps).run P w = .ok (CI us.toArray) w:=by
 have h1:(fn.results.mapM (p7 tmps)).run P w = .ok us.toArray w:=by
  rw [Jh,Sem.run_map,h]
  rfl
 have h2:results fn tmps=(fn.results.mapM (p7 tmps) >>= fun vs=>pure (CI vs)):=by
  unfold results CI
  congr 1
 rw [h2,Sem.run_bind,h1]
 rfl
section
variable {P:Program} {I:Inv} {call:eH} {md:Mode}
theorem VT (hm:P.follows .mixedOrders=true) (hcall:jn P I call md) {f:FuncId} {fd:FD} {lf:Nat} (ht:Text P f fd):vC P I md.nm f (pe call md lf fd):=by
 obtain ⟨fn,code,N,t1,t2,t3,t4,t5,t6,t7⟩:=ht.text
 intro args obs obs' res w X ρ vals n hz hn hi r hsz hv
 unfold pe at hz
 split at hz
 ·rename_i hc
  obtain ⟨c1,c2⟩:=hc
  have he:(callFunc f vals).run P w = .ok (.enter f vals) w:=by
   unfold callFunc
   rw [Sem.run_bind,show program.run P w = .ok P w from rfl]
   simp only [Result.andThen,t1,t7,t2]
   rfl
  unfold Enters
  rw [he]
  simp only
  refine calls_of_wp t1 t2 ?_
  have hget:∀ i,(vals++Array.replicate (fn.ntmps - vals.size) undef).getD i undef=vals.getD i undef:=fun i=>by
   simp only [Array.getD_eq_getD_getElem?,Array.getElem?_append]
   split
   ·rfl
   ·rename_i hlt
    rw [Array.getElem?_eq_none (by omega:vals.size≤i)]
    simp only [Array.getElem?_replicate]
    split <;> rfl
  have ok:Ok I N w X ρ (aB obs) (rR args) { tmps:=vals++Array.replicate (fn.ntmps - vals.size) undef,defers:=[] }:=by
   refine ⟨r,fun i => ?_,by simp; omega,rfl,hi⟩
   simp only [hget,rR]
   by_cases h:i < args.length
   ·have:i < vals.size:=by omega
    rw [Array.getD_eq_getD_getElem?]
    simp only [this,Array.getElem?_eq_getElem,Option.getD_some,List.getElem?_eq_getElem h]
    exact hv i _ _ (by simp [h]) (by simp [this])
   ·rw [List.getElem?_eq_none (by omega)]
    exact .anyv _
  have fin:∀ {t:St} {a:Act} {w':World} {ρ':bj},Ok I N w' X ρ' t.h t.s a→Far md.nm w ρ (aB obs) w' ρ' t.h→rQ md.nm fd.rs fd.res obs.length t.s t.h=some (res,obs') →
    a.defers=[]∧∃ v,(results fn a.tmps).run P w' = .ok v w'∧∃ ρ'',Rel w' X ρ'' (mat n (aB obs') res).2∧Far md.nm w ρ (aB obs) w' ρ'' (mat n (aB obs') res).2 ∧
     RV w' (aG w' X (mat n (aB obs') res).2 ρ'') ρ'' (mat n (aB obs') res).2 (mat n (aB obs') res).1 v:=by
   intro t a w' ρ' ok' far hf
   refine ⟨ok'.defers,?_⟩
   simp only [rQ,Option.bind_eq_some_iff] at hf
   obtain ⟨⟨vs,h',ks⟩,e1,e2⟩:=hf
   split at e2
   ·rename_i hnm
    obtain ⟨us,g1,g2,g3,g4,g5⟩:=Ah (a:=a) fn.results.toList fd.res t6 ok'.rel ok'.rs e1
    refine ⟨_,Mf g1,?_⟩
    have far2:=far.trans (g4.far hnm)
    obtain ⟨ρ2,q1,q2,q3⟩:=Q6 (us:=us.toArray) g3 c2 hn (fun id hp hd=>by
     have:=(far2.stay id hp hd).1
     unfold aB at this
     refine gE.2 ?_
     simp only [aS,decide_eq_true_eq] at hp
     refine ⟨hp.1,?_⟩
     rw [if_pos hp.1] at this
     by_cases hlt:id < 1000+obs.length
     ·exact hlt
     ·rw [List.getElem?_eq_none (by omega)] at this
      exact absurd rfl this) (by simpa using g2) (fun i c u hc hu=>g5 i c u hc (by simpa using hu)) e2
    exact ⟨ρ2,q1,far2.trans (q2 md.nm),q3⟩
   ·cases e2
  cases hx:bi call md lf fd.body (rR args) (aB obs) with
  | none=>rw [hx] at hz; cases hz
  | some q =>
   obtain ⟨e,t⟩:=q
   rw [hx] at hz
   refine OO (N:=N) hcall t4 (OT hm hcall t4) lf fd.body code t5 hx ok fun a' w' ρ' ok' far => ?_
   cases e with
   | normal =>
    obtain ⟨d1,v,d2,d3⟩:=fin ok' far hz
    exact ⟨d1,v,d2,d3⟩
   | ret =>
    obtain ⟨d1,v,d2,d3⟩:=fin ok' far hz
    exact ⟨d1,v,d2,d3⟩
   | exit id=>cases hz
 ·cases hz
end
section
variable {w:World} {X:Nat→Prop} {ρ:bj} {h h':ac}
theorem GD {a c:AV} {ks:K} (hz:fv h a=some (c,h',ks)):∀ p ∈ ks,p.2=true:=by
 intro p hp
 unfold fv at hz
 split at hz
 ·unfold my at hz
  repeat' split at hz
  all_goals first
   | (cases hz; done)
   | (simp only [Option.some.injEq,Prod.mk.injEq] at hz; obtain ⟨_,_,rfl⟩:=hz; simp at hp; done)
   | (simp only [Option.some.injEq,Prod.mk.injEq] at hz; obtain ⟨_,_,rfl⟩:=hz; simp only [List.mem_singleton] at hp; subst hp; rfl)
 ·unfold xu Ts at hz
  repeat' split at hz
  all_goals first
   | (cases hz; done)
   | (simp only [Option.some.injEq,Prod.mk.injEq] at hz; obtain ⟨_,_,rfl⟩:=hz; simp only [List.mem_singleton] at hp; subst hp; rfl)
 ·split at hz
  ·cases hz; simp at hp
  ·cases hz
theorem CJ:∀ {l cs:List AV} {h h':ac} {ks:K},dI h l=some (cs,h',ks)→∀ p ∈ ks,p.2=true
 | [],cs,h,h',ks,hz=>by simp only [dI,Option.some.injEq,Prod.mk.injEq] at hz; obtain ⟨_,_,rfl⟩:=hz; simp
 | a::l,cs,h,h',ks,hz=>by
  simp only [dI,Option.bind_eq_some_iff] at hz
  obtain ⟨⟨c,h1,k1⟩,e1,⟨q,h2,k2⟩,e2,e3⟩:=hz
  cases e3
  intro p hp
  rcases List.mem_append.1 hp with hp | hp
  ·exact GD e1 p hp
  ·exact CJ e2 p hp
theorem TP {a c:AV} {ks:K} (hz:rN h a=some (c,h',ks)):∀ p ∈ ks,p.2=true:=by
 unfold rN at hz
 split at hz
 ·simp only [Option.bind_eq_some_iff] at hz
  obtain ⟨⟨q,h1,k1⟩,e1,e2⟩:=hz
  cases e2
  exact CJ e1
 ·exact GD hz
theorem Q7 {ks:K} (hk:∀ p ∈ ks,p.2=true) (id:Nat):fu ks id none=false:=by
 simp only [fu,List.any_eq_false]
 intro p hp
 simp [hk p hp]
theorem RV.clo {w':World} {A A':Nat→Prop} {ρ':bj} {l:List Nat} {c:AV} {u:Value} (hv:RV w A ρ h c u) (hA:∀ b,A b→A' b∧w'.heap[b]?=w.heap[b]?) (hk:∀ id,bA h id none→bA h' id none∧ρ' id none=ρ id none) (hm:aW l c=true):RV w' A' ρ' h' c u:=by
 have leaf:∀ {c:AV} {u:Value},RV w A ρ h c u→bg l c=true→RV w' A' ρ' h' c u:=by
  intro c u hv hm
  cases hv with
  | anyv u=>exact .anyv u
  | und=>exact .und
  | dat hd=>exact .dat (hd.mono hA)
  | ref id sub k i j hp =>
   cases sub with
   | some p=>simp [bg] at hm
   | none =>
    obtain ⟨h1,h2⟩:=hk id hp
    rw [← h2]; exact .ref id none k i j h1
  | rsl id sub k lo n cap a hp hn hb ha =>
   cases sub with
   | some p=>simp [bg] at hm
   | none =>
    obtain ⟨h1,h2⟩:=hk id hp
    exact .rsl id none k lo n cap a h1 hn (by rw [h2]; exact hb) (by rw [h2]; exact ha)
  | ipt cs ad vals hA' hs hv hl hr =>
   exact .ipt cs ad vals (hA _ hA').1 hs (fun j c hc=>by rw [ie (w:=w) (w':=w') (by rw [jm]; exact (hA _ hA').2)]; exact hv j c hc) hl (fun j c hc=>(hr j c hc).mono hA)
  | agg cs us hs h1 hr=>simp [bg] at hm
  | tup vs us hs hr=>simp [bg] at hm
  | fn f x y us ts hs ht hx hy =>
   simp [bg] at hm
   obtain ⟨rfl,rfl⟩:=hm
   exact .fn f [] [] us ts hs ht (fun i c u hc=>by simp at hc) (fun i c u hc=>by simp at hc)
 cases c with
 | agg cs =>
  simp only [aW,List.all_eq_true] at hm
  obtain ⟨us,rfl,hs,h1,hr⟩:=hv.agg_inv
  exact .agg cs us hs h1 fun i c u hc hu=>leaf (hr i c u hc hu) (hm c (List.mem_of_getElem? hc))
 | fn f x y =>
  simp only [aW,Bool.and_eq_true,List.all_eq_true] at hm
  obtain ⟨us,ts,rfl,hs,ht,hx,hy⟩:=hv.fn_inv
  exact .fn f x y us ts hs ht (fun i c u hc hu=>leaf (hx i c u hc hu) (hm.1 c (List.mem_of_getElem? hc))) (fun i c u hc hu=>leaf (hy i c u hc hu) (hm.2 c (List.mem_of_getElem? hc)))
 | _=>exact leaf hv hm
structure Way (w:World) (X:Nat→Prop) (ρ:bj) (h0 h:ac):Prop where
 evo:∃ ks:K,Evo w ρ h0 w ρ h ks∧∀ p ∈ ks,p.2=true
theorem Way.refl:Way w X ρ h h:=⟨[],.refl _ _ _,by simp⟩
theorem Way.trans {h1 h2:ac} (a:Way w X ρ h h1) (b:Way w X ρ h1 h2):Way w X ρ h h2:=by
 obtain ⟨k1,e1,f1⟩:=a.evo
 obtain ⟨k2,e2,f2⟩:=b.evo
 exact ⟨k1++k2,e1.trans e2,fun p hp=>by rcases List.mem_append.1 hp with hp | hp; exact f1 p hp; exact f2 p hp⟩
theorem Way.al {h0:ac} (a:Way w X ρ h0 h):∀ b,aG w X h0 ρ b→aG w X h ρ b:=by
 obtain ⟨k1,e1,_⟩:=a.evo
 exact fun b hb=>(e1.al hb).1
theorem Mg {h0:ac} {m:Nat} {a z:AV} {u:Value} {ks:K} (r:Rel w X ρ h) (wy:Way w X ρ h0 h) (hv:RV w (aG w X h0 ρ) ρ h0 a u) (hz:cR h m a=some (z,h',ks)) :
  Rel w X ρ h'∧Evo w ρ h w ρ h' ks∧(∀ p ∈ ks,p.2=true)∧∃ h1,Way w X ρ h1 h'∧RV w (aG w X h1 ρ) ρ h1 z u:=by
 have same:some (a,h,([]:K))=some (z,h',ks)→Rel w X ρ h'∧Evo w ρ h w ρ h' ks∧(∀ p ∈ ks,p.2=true)∧∃ h1,Way w X ρ h1 h'∧RV w (aG w X h1 ρ) ρ h1 z u:=by
  intro e
  cases e
  exact ⟨r,.refl _ _ _,by simp,h0,wy,hv⟩
 have data:rN h a=some (z,h',ks)→((∀ cs,a ≠ .agg cs)→u.oneCell'=true)→Rel w X ρ h'∧Evo w ρ h w ρ h' ks∧(∀ p ∈ ks,p.2=true)∧∃ h1,Way w X ρ h1 h'∧RV w (aG w X h1 ρ) ρ h1 z u:=by
  intro hz h1
  obtain ⟨g1,g2,g3,g4⟩:=QN r hv wy.al hz h1
  exact ⟨g1,g2,TP hz,h',.refl,.dat g3⟩
 cases a with
 | any =>
  have:cR h m .any=some (.any,h,[]):=by simp [cR,rN,fv,aD]
  rw [this] at hz
  exact same hz
 | rsl id sub k lo n =>
  obtain ⟨ad,cap,rfl,_⟩:=hv.rsl_inv
  cases sub with
  | none =>
   simp only [cR] at hz
   split at hz
   ·exact data hz fun _=>rfl
   ·split at hz
    ·exact same hz
    ·cases hz
  | some p=>exact data hz fun _=>rfl
 | ref id sub k i j =>
  cases sub with
  | none=>exact same hz
  | some p=>simp [cR,rN,fv,aD] at hz
 | ipt cs=>exact same hz
 | fn f x y=>exact same hz
 | agg cs=>exact data hz fun hh=>absurd rfl (hh cs)
 | v x=>exact data hz fun _=>by obtain ⟨rfl,hp⟩:=hv.v_inv; exact vt hp
 | emp =>
  refine data hz fun _ => ?_
  cases hv with
  | dat hd=>exact hd.one rfl
 | sl k rows =>
  refine data hz fun _ => ?_
  cases hv with
  | dat hd=>exact hd.one rfl
 | _=>simp [cR,rN,fv,aD] at hz
theorem xO {h0:ac}:∀ (l:List AV) (ms:List Nat) (vals:List Value) {h h':ac} {zs:List AV} {ks:K},Rel w X ρ h→Way w X ρ h0 h→vals.length=l.length →
  (∀ (i:Nat) (c:AV) (u:Value),l[i]?=some c→vals[i]?=some u→RV w (aG w X h0 ρ) ρ h0 c u)→ef h ms l=some (zs,h',ks) →
  Rel w X ρ h'∧Evo w ρ h w ρ h' ks∧(∀ p ∈ ks,p.2=true)∧zs.length=l.length∧∀ (i:Nat) (z:AV) (u:Value),zs[i]?=some z→vals[i]?=some u→∃ h1,Way w X ρ h1 h'∧RV w (aG w X h1 ρ) ρ h1 z u
 | [],ms,vals,h,h',zs,ks,r,wy,hl,hv,hz=>by
  simp only [ef,Option.some.injEq,Prod.mk.injEq] at hz
  obtain ⟨rfl,rfl,rfl⟩:=hz
  exact ⟨r,.refl _ _ _,by simp,rfl,fun i z u h1=>by simp at h1⟩
 | a::l,ms,vals,h,h',zs,ks,r,wy,hl,hv,hz=>by
  simp only [ef,Option.bind_eq_some_iff] at hz
  obtain ⟨⟨z,h1,k1⟩,e1,⟨q,h2,k2⟩,e2,e3⟩:=hz
  cases e3
  cases vals with
  | nil=>simp at hl
  | cons u vals =>
   obtain ⟨g1,g2,g3,h3,g4,g5⟩:=Mg r wy (hv 0 a u rfl rfl) e1
   obtain ⟨f1,f2,f3,f4,f5⟩:=xO l ms.tail vals g1 (wy.trans ⟨k1,g2,g3⟩) (by simpa using hl) (fun i c u' h4 h5=>hv (i+1) c u' (by simpa using h4) (by simpa using h5)) e2
   refine ⟨f1,g2.trans f2,fun p hp => ?_,by simp [f4],fun i z' u' h4 h5 => ?_⟩
   ·rcases List.mem_append.1 hp with hp | hp
    ·exact g3 p hp
    ·exact f3 p hp
   ·cases i with
    | zero =>
     simp at h4 h5
     subst h4 h5
     exact ⟨h3,g4.trans ⟨k2,f2,f3⟩,g5⟩
    | succ i=>exact f5 i z' u' (by simpa using h4) (by simpa using h5)
theorem Q8 {L:List Nat} {h1:ac} {z:AV} {u:Value} (wy:Way w X ρ h1 h) (hv:RV w (aG w X h1 ρ) ρ h1 z u) (hc:aW L z=true):RV w (aG w X h ρ) ρ h z u:=by
 obtain ⟨ks,e,f⟩:=wy.evo
 exact hv.clo (fun b hb=>e.al hb) (fun id hp=>e.keep id none hp (Q7 f id)) hc
theorem Ji (r:Rel w X ρ h) {b:Nat} (ho:kD h ρ b):b < w.heap.size:=by
 obtain ⟨id,sub,hl,rfl⟩:=ho
 cases sub with
 | none =>
  have ho:=r.ob id
  cases e:h id with
  | bx cs=>rw [e] at ho; obtain ⟨us,t,g1,_⟩:=ho; exact (Array.getElem?_eq_some_iff.1 g1).1
  | ar k rows=>rw [e] at ho; obtain ⟨us,t,g1,_⟩:=ho; exact (Array.getElem?_eq_some_iff.1 g1).1
  | _=>simp [live,e] at hl
 | some p =>
  obtain ⟨cs,k,rows,e,ec⟩:=hl
  have ho:=r.ob id
  rw [e] at ho
  obtain ⟨us,t,g1,g2,g3,g4⟩:=ho
  obtain ⟨u,_,a',cap,us',t',_,_,_,q4,_⟩:=g4 p _ ec
  exact (Array.getElem?_eq_some_iff.1 q4).1
section
variable {ids:List Nat}
theorem ph {a:Nat} (ha:a ∈ ids):1000≤bt ids a∧bt ids a < 1000+ids.length:=by
 unfold bt
 have:=List.idxOf_lt_length_of_mem ha
 omega
theorem nK (hl:ids.length≤1000) {a:Nat} (ha:a ∈ ids):bR ids (bt ids a)=a:=by
 have:=ph ha
 unfold bR
 rw [if_pos (by omega)]
 unfold bt
 have hlt:=List.idxOf_lt_length_of_mem ha
 rw [List.getD_eq_getElem?_getD,show 1000+ids.idxOf a - 1000=ids.idxOf a from by omega,List.getElem?_eq_getElem hlt]
 simp
theorem r0 (hl:ids.length≤1000) (hnd:ids.Nodup) {i:Nat} (h1:1000≤i) (h2:i < 1000+ids.length):bR ids i ∈ ids∧bt ids (bR ids i)=i:=by
 have hj:i - 1000 < ids.length:=by omega
 have e:bR ids i=ids[i - 1000]:=by
  unfold bR
  rw [if_pos (by omega),List.getD_eq_getElem?_getD,List.getElem?_eq_getElem hj]
  rfl
 refine ⟨by rw [e]; simp,?_⟩
 rw [e]
 unfold bt
 rw [hnd.idxOf_getElem (i - 1000) hj]
 omega
theorem CK {os:List Ob} {j:Nat} {o:Ob} (h:os[j]?=some o):aB os (1000+j)=o:=by
 unfold aB
 rw [if_pos (by omega),show 1000+j - 1000=j from by omega,h]
 rfl
theorem n9 {os:List Ob} {i:Nat} (h:i < 1000∨1000+os.length≤i):aB os i = .dead:=by
 unfold aB
 split
 ·rw [List.getElem?_eq_none (by omega)]
  rfl
 ·rfl
theorem Emb.enter (hl:ids.length≤1000) (hnd:ids.Nodup) (hcl:∀ a ∈ ids,bh ids (h a)=true):Emb ids (bt ids) (bR ids) h (aB (ids.map fun a=>dE (bt ids) (h a))):=by
 have at_:∀ a ∈ ids,aB (ids.map fun a=>dE (bt ids) (h a)) (bt ids a)=dE (bt ids) (h a):=fun a ha=>by
  unfold bt
  refine CK ?_
  have hlt:=List.idxOf_lt_length_of_mem ha
  rw [List.getElem?_map,List.getElem?_eq_getElem hlt]
  simp
 have low:∀ i,aB (ids.map fun a=>dE (bt ids) (h a)) i ≠ .dead→1000≤i∧i < 1000+ids.length:=fun i hi=>by
  by_cases h1:1000≤i∧i < 1000+ids.length
  ·exact h1
  ·exact absurd (n9 (by simp; omega)) hi
 refine ⟨fun a ha => ?_,fun i hi => ?_,fun i j hi hj e => ?_⟩
 ·have ha':a ∈ ids:=by simpa using ha
  exact ⟨nK hl ha',at_ a ha'⟩
 ·obtain ⟨h1,h2⟩:=low i hi
  obtain ⟨h3,h4⟩:=r0 hl hnd h1 h2
  have:=at_ _ h3
  rw [h4] at this
  exact ⟨this,hcl _ h3⟩
 ·obtain ⟨h1,h2⟩:=low i hi
  obtain ⟨h3,h4⟩:=low j hj
  rw [← (r0 hl hnd h1 h2).2,← (r0 hl hnd h3 h4).2,e]
end
end
theorem GE {gv:K} {id:Nat}:∀ {h:ac},(∀ p ∈ gv,p.1 ≠ id)→gV h gv id=h id:=by
 induction gv with
 | nil=>intro h _; rfl
 | cons p l ih =>
  intro h hn
  simp only [gV]
  rw [ih fun q hq=>hn q (by simp [hq])]
  exact aI _ _ (Ne.symm (hn p (by simp)))
theorem Jj {gv:K} {id:Nat}:∀ {h:ac},((∃ p ∈ gv,p.1=id)∨h id = .dead)→gV h gv id = .dead:=by
 induction gv with
 | nil =>
  intro h hi
  rcases hi with ⟨p,hp,_⟩ | hi
  ·simp at hp
  ·exact hi
 | cons p l ih =>
  intro h hi
  simp only [gV]
  by_cases hl:∃ q ∈ l,q.1=id
  ·exact ih (.inl hl)
  ·refine ih (.inr ?_)
   rcases hi with ⟨q,hq,rfl⟩ | hi
   ·rcases List.mem_cons.1 hq with rfl | hq
    ·exact aA _ _ _
    ·exact absurd ⟨q,hq,rfl⟩ hl
   ·unfold upd
    split
    ·rfl
    ·exact hi
theorem Jk {ids:List Nat}:∀ {l:List Nat} {os:List Ob} {g:ac} {j a:Nat} {o:Ob},l.Nodup→l[j]?=some a→os[j]?=some o→d6 g ids l os a=dE (bR ids) o
 | [],os,g,j,a,o,_,h1,_=>by simp at h1
 | b::l,[],g,j,a,o,_,_,h2=>by simp at h2
 | b::l,o'::os,g,j,a,o,hnd,h1,h2=>by
  obtain ⟨n1,n2⟩:=List.nodup_cons.1 hnd
  simp only [d6]
  cases j with
  | zero =>
   simp at h1 h2
   subst h1 h2
   rw [nJ n1,aA]
  | succ j=>exact Jk n2 (by simpa using h1) (by simpa using h2)
theorem CL {h:ac}:∀ {m n:Nat},gi h n m=true→∀ i,n≤i→i < n+m→h i = .dead
 | 0,n,_,i,h1,h2=>by omega
 | m+1,n,hf,i,h1,h2=>by
  simp only [gi,Bool.and_eq_true] at hf
  by_cases e:i=n
  ·subst e
   cases q:h i <;> rw [q] at hf <;> simp [nW] at hf ⊢
  ·exact CL hf.2 i (by omega) (by omega)
theorem r5 {h:ac} {gv:K}:∀ {l:List Nat} {os:List Ob},lI h gv l os=true→∀ (j a:Nat) (o:Ob),l[j]?=some a→os[j]?=some o→(bf (h a)=true→bf o=true)∧((∀ p ∈ gv,p.1 ≠ a)→o ≠ .dead)
 | [],os,_,j,a,o,h1,_=>by simp at h1
 | b::l,[],_,j,a,o,_,h2=>by simp at h2
 | b::l,o'::os,hs,j,a,o,h1,h2=>by
  simp only [lI,Bool.and_eq_true,Bool.or_eq_true,Bool.not_eq_true'] at hs
  obtain ⟨⟨s1,s2⟩,s3⟩:=hs
  cases j with
  | zero =>
   simp at h1 h2
   subst h1 h2
   refine ⟨fun hb => ?_,fun hn e => ?_⟩
   ·rcases s1 with s1 | s1
    ·rw [hb] at s1; cases s1
    ·exact s1
   ·rcases s2 with s2 | s2
    ·simp only [List.any_eq_true,beq_iff_eq] at s2
     obtain ⟨p,hp,e2⟩:=s2
     exact hn p hp e2
    ·subst e; simp [nW] at s2
  | succ j=>exact r5 s3 j a o (by simpa using h1) (by simpa using h2)
theorem oe {l l':List Nat} {c:AV} (hl:∀ i,l.contains i=true→l'.contains i=true) (hc:bg l c=true):bg l' c=true:=by
 cases c <;> simp only [bg] at hc ⊢ <;> first | exact hc | skip
 all_goals
  simp only [Bool.and_eq_true] at hc ⊢
  exact ⟨hl _ hc.1,hc.2⟩
theorem r6 {l l':List Nat} {c:AV} (hl:∀ i,l.contains i=true→l'.contains i=true) (hc:aW l c=true):aW l' c=true:=by
 cases c with
 | agg cs =>
  simp only [aW,List.all_eq_true] at hc ⊢
  exact fun c h=>oe hl (hc c h)
 | fn f x y =>
  simp only [aW,Bool.and_eq_true,List.all_eq_true] at hc ⊢
  exact ⟨fun c h=>oe hl (hc.1 c h),fun c h=>oe hl (hc.2 c h)⟩
 | _ =>
  simp only [aW] at hc ⊢
  exact oe hl hc
theorem Jl {l l':List Nat} {o:Ob} (hl:∀ i,l.contains i=true→l'.contains i=true) (hc:bh l o=true):bh l' o=true:=by
 cases o <;> simp only [bh] at hc ⊢
 simp only [List.all_eq_true,eK,Bool.or_eq_true] at hc ⊢
 exact fun c h=>(hc c h).imp id (r6 hl)
theorem VU {l:List Nat} {c:AV} (hc:aW l c=true):∀ {l':List Nat},(∀ i,l.contains i=true→l'.contains i=true)→aW l' c=true:=fun hl=>r6 hl hc
theorem Jm {f:Nat→Nat} {c:AV} (hd:gX c=true):fw f c=c:=by
 cases c <;> simp [gX,aR,aD] at hd <;> first | rfl | skip
 obtain ⟨rfl,rfl⟩:=hd
 rfl
theorem Jn {l:List Nat} {n:Nat} {g:ac} {c:AV} (hr:fx l c=true) {i:Nat} (h:(cJ n g c).2 i ≠ g i):(∃ k rows,(cJ n g c).2 i = .ar k rows)∨∃ cs,(cJ n g c).2 i = .bx cs∧cs.all gX=true:=by
 cases c <;> simp only [cJ] at h ⊢ <;> first | exact absurd rfl h | skip
 case osl k rows =>
  unfold upd at h ⊢
  split
  ·exact .inl ⟨_,_,rfl⟩
  ·rename_i hn; rw [if_neg hn] at h; exact absurd rfl h
 case obx cs =>
  unfold upd at h ⊢
  split
  ·exact .inr ⟨_,rfl,hr⟩
  ·rename_i hn; rw [if_neg hn] at h; exact absurd rfl h
theorem Jo {l:List Nat} {i:Nat}:∀ {vs:List AV} {n:Nat} {g:ac},vs.all (fx l)=true→(bu n g vs).2 i ≠ g i→(∃ k rows,(bu n g vs).2 i = .ar k rows)∨∃ cs,(bu n g vs).2 i = .bx cs∧cs.all gX=true
 | [],n,g,_,h=>absurd rfl h
 | c::vs,n,g,hr,h=>by
  simp only [List.all_cons,Bool.and_eq_true] at hr
  simp only [bu] at h ⊢
  by_cases e:(bu (n+1) (cJ n g c).2 vs).2 i=(cJ n g c).2 i
  ·rw [e] at h ⊢
   exact Jn hr.1 h
  ·exact Jo hr.2 e
theorem VV {l:List Nat} {n:Nat} {g:ac} {c:AV} (hr:js l c=true) {i:Nat} (h:(mat n g c).2 i ≠ g i):(∃ k rows,(mat n g c).2 i = .ar k rows)∨∃ cs,(mat n g c).2 i = .bx cs∧cs.all gX=true:=by
 cases c <;> simp only [mat] at h ⊢ <;> simp only [js] at hr <;> first | exact Jo hr h | exact Jn hr h
theorem Ap {l l':List Nat} {n:Nat} {g:ac} {c:AV} (hr:fx l c=true) (hl:∀ i,l.contains i=true→l'.contains i=true) (hn:l'.contains n=true):aW l' (cJ n g c).1=true:=by
 cases c <;> simp only [cJ] <;> simp only [fx] at hr <;> first | exact r6 hl hr | (simp only [aW,bg,hn]; rfl)
theorem Aq {l l':List Nat} (hl:∀ i,l.contains i=true→l'.contains i=true):∀ {vs:List AV} {n:Nat} {g:ac},vs.all (fx l)=true→(∀ i,n≤i→i < n+vs.length→l'.contains i=true)→∀ z ∈ (bu n g vs).1,aW l' z=true
 | [],n,g,_,_,z,hz=>by simp [bu] at hz
 | c::vs,n,g,hr,hn,z,hz=>by
  simp only [List.all_cons,Bool.and_eq_true] at hr
  simp only [bu,List.mem_cons] at hz
  rcases hz with rfl | hz
  ·exact Ap hr.1 hl (hn n (Nat.le_refl _) (by simp))
  ·exact Aq hl hr.2 (fun i h1 h2=>hn i (by omega) (by simp at h2 ⊢; omega)) z hz
def OV (l:List Nat):AV→Prop
 | .tup vs=>∀ c ∈ vs,aW l c=true
 | c=>aW l c=true
theorem OW {l l':List Nat} {n:Nat} {g:ac} {c:AV} (hr:fx l c=true) (hl:∀ i,l.contains i=true→l'.contains i=true) (hn:l'.contains n=true):OV l' (cJ n g c).1:=by
 have:=Ap (n:=n) (g:=g) hr hl hn
 cases hq:(cJ n g c).1 <;> rw [hq] at this <;> first | exact this | simp [aW,bg] at this
theorem Q9 {l l':List Nat} {n:Nat} {g:ac} {c:AV} (hr:js l c=true) (hl:∀ i,l.contains i=true→l'.contains i=true) (hn:∀ i,n≤i→i < n+dP c→l'.contains i=true):OV l' (mat n g c).1:=by
 cases c with
 | tup vs =>
  simp only [mat]
  simp only [js] at hr
  exact Aq hl hr hn
 | _=>exact OW hr hl (hn n (Nat.le_refl _) (by simp [dP]))
section
variable {w:World} {X:Nat→Prop} {ρ:bj} {hc:ac} {ids:List Nat}
def Ar (X:Nat→Prop) (hc:ac) (ρ:bj) (ids:List Nat) (b:Nat):Prop :=
 X b∨(kD hc ρ b ∧ ¬ kD (aB (ids.map fun a=>dE (bt ids) (hc a))) (fun i s=>ρ (bR ids i) s) b)
theorem Ra (r:Rel w X ρ hc) (hl:ids.length≤1000) (hnd:ids.Nodup) (hcl:∀ a ∈ ids,bh ids (hc a)=true) :
  Rel w (Ar X hc ρ ids) (fun i s=>ρ (bR ids i) s) (aB (ids.map fun a=>dE (bt ids) (hc a))) ∧
  (∀ b,aG w X hc ρ b→aG w (Ar X hc ρ ids) (aB (ids.map fun a=>dE (bt ids) (hc a))) (fun i s=>ρ (bR ids i) s) b):=by
 have em:=Emb.enter (h:=hc) hl hnd hcl
 have hA:∀ b,aG w X hc ρ b→aG w (Ar X hc ρ ids) (aB (ids.map fun a=>dE (bt ids) (hc a))) (fun i s=>ρ (bR ids i) s) b:=fun b hb =>
  ⟨hb.1,fun hx=>by rcases hx with hx | ⟨hx,_⟩; exact hb.2.1 hx; exact hb.2.2 hx,fun ⟨i,s,h1,h2⟩=>hb.2.2 ⟨_,s,(em.live h1).1,h2⟩⟩
 exact ⟨Rel.emb em r (fun b hb=>by rcases hb with hb | ⟨hb,_⟩; exact r.xl b hb; exact Ji r hb) (fun i s hl hx=>by
  rcases hx with hx | ⟨_,hx⟩
  ·exact r.nx _ _ (em.live hl).1 hx
  ·exact hx ⟨i,s,hl,rfl⟩) hA,hA⟩
theorem xP (hl:ids.length≤1000) (hnd:ids.Nodup) (hcl:∀ a ∈ ids,bh ids (hc a)=true) {b:Nat} (ho:kD (aB (ids.map fun a=>dE (bt ids) (hc a))) (fun i s=>ρ (bR ids i) s) b) :
  ∃ id sub,id ∈ ids∧live hc id sub∧(ρ id sub).1=b:=by
 obtain ⟨i,s,h1,h2⟩:=ho
 obtain ⟨h3,h4⟩:=(Emb.enter (h:=hc) hl hnd hcl).live h1
 have hi:1000≤i∧i < 1000+ids.length:=by
  by_cases hh:1000≤i∧i < 1000+ids.length
  ·exact hh
  ·exact absurd (n9 (by simp; omega)) h4
 exact ⟨_,s,(r0 hl hnd hi.1 hi.2).1,h3,h2⟩
theorem OX {w':World} {ρ':bj} {kp:Bool} {d:Nat} {gv ks0 ks:K} {res:AV} {os:List Ob} {z:AV} {h':ac} {v:Value} (r:Rel w X ρ hc) (hnd:ids.Nodup) (hcl:∀ a ∈ ids,bh ids (hc a)=true) (hdead:∀ a ∈ ids,hc a ≠ .dead) (gvflag:∀ p ∈ gv,p.2=false)
  (hz:lJ kp hc d ids ks0 gv (res,os)=some (z,h',ks)) (r':Rel w' (Ar X hc ρ ids) ρ' (mat (2000+8*d) (aB os) res).2)
  (far:Far kp w (fun i s=>ρ (bR ids i) s) (aB (ids.map fun a=>dE (bt ids) (hc a))) w' ρ' (mat (2000+8*d) (aB os) res).2)
  (hv:RV w' (aG w' (Ar X hc ρ ids) (mat (2000+8*d) (aB os) res).2 ρ') ρ' (mat (2000+8*d) (aB os) res).2 (mat (2000+8*d) (aB os) res).1 v) :
  ∃ ρ3 k1,ks=ks0++k1∧Rel w' X ρ3 h'∧Evo w ρ hc w' ρ3 h' k1∧RV w' (aG w' X h' ρ3) ρ3 h' z v:=by
 unfold lJ at hz
 split at hz
 ·rename_i hcond
  obtain ⟨c1,hl,c2,c3,c4,c5⟩:=hcond
  simp only at c1 c2 c4
  simp only [Option.some.injEq,Prod.mk.injEq] at hz
  obtain ⟨rfl,rfl,rfl⟩:=hz
  simp only [Ol,Bool.and_eq_true] at c5
  obtain ⟨c5,c6,c7⟩:=c5
  generalize hn:2000+8*d=n at *
  have n2:2000≤n:=by omega
  have em:=Emb.enter (h:=hc) hl hnd hcl
  have gdead:∀ i,n≤i→i < n+dP res→hc i = .dead:=CL c3
  have gids:∀ i,n≤i→i < n+dP res→i ∉ ids:=fun i h1 h2 hi=>hdead i hi (gdead i h1 h2)
  have oget:∀ a ∈ ids,os[ids.idxOf a]?=some (aB os (bt ids a)):=fun a ha=>by
   have h1:=List.idxOf_lt_length_of_mem ha
   have h2:ids.idxOf a < os.length:=by omega
   unfold bt
   rw [List.getElem?_eq_getElem h2]
   exact congrArg some (CK (by rw [List.getElem?_eq_getElem h2])).symm
  have hm_ids:∀ a ∈ ids,(mat n (aB os) res).2 (bt ids a)=aB os (bt ids a):=fun a ha=>pg (by have:=ph ha; omega)
  have hm_out:∀ i,¬ (1000≤i∧i < 1000+ids.length) → ¬ (n≤i∧i < n+dP res)→(mat n (aB os) res).2 i = .dead:=fun i h1 h2=>by
   rw [pg (by omega)]
   exact n9 (by omega)
  have w_ids:∀ a ∈ ids,d6 hc ids ids os a=dE (bR ids) (aB os (bt ids a)):=fun a ha=>Jk hnd (by
   have h1:=List.idxOf_lt_length_of_mem ha
   rw [List.getElem?_eq_getElem h1]; simp) (oget a ha)
  have h_grp:∀ i,n≤i→i < n+dP res→(mat n (gV (d6 hc ids ids os) gv) res).2 i=(mat n (aB os) res).2 i:=fun i h1 h2=>Q1 (by
   rw [Jj (.inr (by rw [nJ (gids i h1 h2)]; exact gdead i h1 h2))]
   exact (n9 (by omega)).symm)
  have h_ids:∀ a ∈ ids,(∀ p ∈ gv,p.1 ≠ a)→(mat n (gV (d6 hc ids ids os) gv) res).2 a=dE (bR ids) ((mat n (aB os) res).2 (bt ids a)):=fun a ha hg=>by
   rw [pg (fun hh=>gids a hh.1 hh.2 ha),GE hg,w_ids a ha,hm_ids a ha]
  have h_gv:∀ a,¬ (n≤a∧a < n+dP res)→(∃ p ∈ gv,p.1=a)→(mat n (gV (d6 hc ids ids os) gv) res).2 a = .dead:=fun a h1 hg=>by
   rw [pg (by omega),Jj (.inl hg)]
  have h_out:∀ a,a ∉ ids → ¬ (n≤a∧a < n+dP res)→(∀ p ∈ gv,p.1 ≠ a)→(mat n (gV (d6 hc ids ids os) gv) res).2 a=hc a:=fun a h1 h2 hg=>by
   rw [pg (by omega),GE hg,nJ h1]
  generalize hh':(mat n (gV (d6 hc ids ids os) gv) res).2=h' at *
  have hzr':(mat n (aB os) res).1=(mat n (gV (d6 hc ids ids os) gv) res).1:=Np _ _ _ _
  generalize (mat n (gV (d6 hc ids ids os) gv) res).1=zr at *
  have grp_obj:∀ i,n≤i→i < n+dP res→(mat n (aB os) res).2 i ≠ .dead→(∃ k rows,(mat n (aB os) res).2 i = .ar k rows)∨∃ cs,(mat n (aB os) res).2 i = .bx cs∧cs.all gX=true:=fun i h1 h2 hd =>
   VV c6 (by rw [n9 (show i < 1000∨1000+os.length≤i from by omega)]; exact hd)
  rw [hzr'] at hv
  have zcl:∀ {l':List Nat},(∀ i,(z9 ids gv).contains i=true→l'.contains i=true)→(∀ i,n≤i→i < n+dP res→l'.contains i=true)→OV l' zr:=fun {l'} hl1 hl2=>hzr' ▸ Q9 c6 hl1 hl2
  generalize hhm:(mat n (aB os) res).2=hm at *
  have ok_spec:∀ i,(z9 ids gv).contains i=true→1000≤i∧i < 1000+ids.length∧∀ p ∈ gv,p.1 ≠ bR ids i:=fun i hi=>by
   unfold z9 at hi
   split at hi
   ·have:=gE.1 hi
    exact ⟨this.1,this.2,by simp⟩
   ·simp only [List.contains_eq_mem,List.mem_filter,decide_eq_true_eq,Bool.not_eq_true',List.any_eq_false,beq_iff_eq] at hi
    have:=gE.1 (show (bY ids.length).contains i=true from by simpa using hi.1)
    exact ⟨this.1,this.2,fun p hp=>hi.2 p hp⟩
  have ok_mk:∀ a ∈ ids,(∀ p ∈ gv,p.1 ≠ a)→(z9 ids gv).contains (bt ids a)=true:=fun a ha hg=>by
   have h1:=ph ha
   unfold z9
   split
   ·exact gE.2 h1
   ·simp only [List.contains_eq_mem,List.mem_filter,decide_eq_true_eq,Bool.not_eq_true',List.any_eq_false,beq_iff_eq]
    exact ⟨by simpa using gE.2 h1,fun p hp=>by rw [nK hl ha]; exact hg p hp⟩
  let L3:List Nat:=z9 ids gv++List.range' n (dP res)
  have l3a:∀ i,(z9 ids gv).contains i=true→L3.contains i=true:=fun i hi=>by
   simp only [L3,List.contains_eq_mem,List.mem_append,decide_eq_true_eq] at hi ⊢; exact .inl hi
  have l3b:∀ i,n≤i→i < n+dP res→L3.contains i=true:=fun i h1 h2=>by
   simp only [L3,List.contains_eq_mem,List.mem_append,decide_eq_true_eq,List.mem_range'_1]; exact .inr ⟨h1,h2⟩
  let Cal:Nat→Prop:=fun i=>(i ∈ ids∧∀ p ∈ gv,p.1 ≠ i)∨(n≤i∧i < n+dP res)
  let nm:Nat→Nat:=fun i=>if i ∈ ids then bt ids i else i
  let h3:ac:=fun i=>open Classical in if Cal i then h' i else .dead
  have h3c:∀ i,Cal i→h3 i=h' i:=fun i hi=>by simp only [h3,if_pos hi]
  have h3n:∀ i,h3 i ≠ .dead→Cal i:=fun i hi=>by
   by_cases hC:Cal i
   ·exact hC
   ·simp only [h3,if_neg hC] at hi; exact absurd rfl hi
  have nmi:∀ i ∈ ids,nm i=bt ids i:=fun i hi=>by simp only [nm,if_pos hi]
  have nmg:∀ i,n≤i→i < n+dP res→nm i=i:=fun i h1 h2=>by simp only [nm,if_neg (gids i h1 h2)]
  have em3:Emb L3 (bR ids) nm hm h3:=by
   refine ⟨fun i hi => ?_,fun i hi => ?_,fun i j hi hj e => ?_⟩
   ·simp only [L3,List.contains_eq_mem,List.mem_append,decide_eq_true_eq,List.mem_range'_1] at hi
    rcases hi with hi | hi
    ·obtain ⟨q1,q2,q3⟩:=ok_spec i (by simpa using hi)
     obtain ⟨q4,q5⟩:=r0 hl hnd q1 q2
     refine ⟨by rw [nmi _ q4,q5],?_⟩
     rw [h3c _ (.inl ⟨q4,q3⟩),h_ids _ q4 q3,q5]
    ·have e1:bR ids i=i:=by unfold bR; rw [if_neg (by omega)]
     rw [e1]
     refine ⟨nmg i hi.1 hi.2,?_⟩
     rw [h3c _ (.inr hi),h_grp i hi.1 hi.2]
     by_cases hd:hm i = .dead
     ·rw [hd]; rfl
     ·rcases grp_obj i hi.1 hi.2 hd with ⟨k,rows,e2⟩ | ⟨cs,e2,e3⟩
      ·rw [e2]; rfl
      ·rw [e2]
       simp only [dE,Ob.bx.injEq]
       exact ((List.map_congr_left (g:=fun c=>c) fun c hc=>Jm (List.all_eq_true.1 e3 c hc)).trans (List.map_id' cs)).symm
   ·rcases h3n i hi with ⟨q1,q2⟩ | ⟨q1,q2⟩
    ·rw [h3c _ (.inl ⟨q1,q2⟩),nmi i q1]
     refine ⟨h_ids i q1 q2,?_⟩
     rw [hm_ids i q1]
     exact Jl l3a (List.all_eq_true.1 c7 _ (List.mem_of_getElem? (oget i q1)))
    ·rw [nmg i q1 q2]
     have hd:hm i ≠ .dead:=by rw [h3c _ (.inr ⟨q1,q2⟩),h_grp i q1 q2] at hi; exact hi
     rw [h3c _ (.inr ⟨q1,q2⟩),h_grp i q1 q2]
     rcases grp_obj i q1 q2 hd with ⟨k,rows,e2⟩ | ⟨cs,e2,e3⟩
     ·rw [e2]; exact ⟨rfl,rfl⟩
     ·rw [e2]
      refine ⟨?_,?_⟩
      ·simp only [dE,Ob.bx.injEq]
       exact ((List.map_congr_left (g:=fun c=>c) fun c hc=>Jm (List.all_eq_true.1 e3 c hc)).trans (List.map_id' cs)).symm
      ·simp only [bh,List.all_eq_true]
       exact fun c hc=>An (List.all_eq_true.1 e3 c hc)
   ·rcases h3n i hi with ⟨q1,q2⟩ | ⟨q1,q2⟩ <;> rcases h3n j hj with ⟨q3,q4⟩ | ⟨q3,q4⟩
    ·rw [nmi i q1,nmi j q3] at e
     rw [← nK hl q1,← nK hl q3,e]
    ·rw [nmi i q1,nmg j q3 q4] at e
     have:=ph q1
     omega
    ·rw [nmg i q1 q2,nmi j q3] at e
     have:=ph q3
     omega
    ·rwa [nmg i q1 q2,nmg j q3 q4] at e
  have own3:∀ {b},kD h3 (fun i s=>ρ' (nm i) s) b→kD hm ρ' b:=fun ⟨i,s,h1,h2⟩=>⟨nm i,s,(em3.live h1).1,h2⟩
  have r3:Rel w' (Ar X hc ρ ids) (fun i s=>ρ' (nm i) s) h3:=Rel.emb em3 r' r'.xl (fun i s hl=>r'.nx _ _ (em3.live hl).1) fun b hb=>⟨hb.1,hb.2.1,fun ho=>hb.2.2 (own3 ho)⟩
  let ρ3:bj:=fun i s=>open Classical in if Cal i then ρ' (nm i) s else ρ i s
  have r3c:∀ i,Cal i→∀ s,ρ3 i s=ρ' (nm i) s:=fun i hi s=>by simp only [ρ3,if_pos hi]
  have r3n:∀ i,¬ Cal i→∀ s,ρ3 i s=ρ i s:=fun i hi s=>by simp only [ρ3,if_neg hi]
  have rest:∀ i,¬ Cal i→h' i ≠ .dead→i ∉ ids∧h' i=hc i:=fun i hi hd=>by
   have h1 : ¬ (n≤i∧i < n+dP res):=fun hh=>hi (.inr hh)
   have h2:∀ p ∈ gv,p.1 ≠ i:=fun p hp e=>hd (h_gv i h1 ⟨p,hp,e⟩)
   have h4:i ∉ ids:=fun hh=>hi (.inl ⟨hh,h2⟩)
   exact ⟨h4,h_out i h4 h1 h2⟩
  have xin:∀ {i s},i ∉ ids→live hc i s → ¬ kD (aB (ids.map fun a=>dE (bt ids) (hc a))) (fun i s=>ρ (bR ids i) s) (ρ i s).1:=fun {i s} hi hl' ho=>by
   obtain ⟨id,sub,q1,q2,q3⟩:=xP hl hnd hcl ho
   obtain ⟨e,_⟩:=r.inj _ _ _ _ q2 hl' q3
   exact hi (e ▸ q1)
  have lcal:∀ {i s},live h' i s→Cal i→live h3 i s:=fun {i s} hl' hC=>(bJ (h3c i hC)).2 hl'
  have lrest:∀ {i s},live h' i s → ¬ Cal i→i ∉ ids∧live hc i s:=fun {i s} hl' hC=>by
   have hd:h' i ≠ .dead:=by
    cases s with
    | none=>intro e; simp [live,e] at hl'
    | some p=>obtain ⟨_,_,_,e,_⟩:=hl'; rw [e]; simp
   obtain ⟨h1,h2⟩:=rest i hC hd
   exact ⟨h1,(bJ h2).1 hl'⟩
  have fr3:∀ {b},kD hm ρ' b→kD (aB (ids.map fun a=>dE (bt ids) (hc a))) (fun i s=>ρ (bR ids i) s) b∨w.heap.size≤b:=fun ho=>far.fresh _ ho
  have parts:∀ {i s j t},live h3 i s→j ∉ ids→live hc j t→(ρ' (nm i) s).1 ≠ (ρ j t).1:=fun {i s j t} h1 h2 h4 e=>by
   rcases fr3 ⟨nm i,s,(em3.live h1).1,e⟩ with ho | ho
   ·exact xin h2 h4 ho
   ·have:=Ji r ⟨j,t,h4,rfl⟩
    omega
  have ownc:∀ {b},kD h' ρ3 b→kD h3 (fun i s=>ρ' (nm i) s) b∨∃ id sub,id ∉ ids∧live hc id sub∧(ρ id sub).1=b:=fun {b} ⟨i,s,h1,h2⟩=>by
   by_cases hC:Cal i
   ·exact .inl ⟨i,s,lcal h1 hC,by rw [← h2,r3c i hC]⟩
   ·obtain ⟨h4,h5⟩:=lrest h1 hC
    exact .inr ⟨i,s,h4,h5,by rw [← h2,r3n i hC]⟩
  have hA3:∀ b,aG w' (Ar X hc ρ ids) h3 (fun i s=>ρ' (nm i) s) b→aG w' X h' ρ3 b:=fun b hb=>⟨hb.1,fun hx=>hb.2.1 (.inl hx),fun ho=>by
   rcases ownc ho with ho | ⟨i,s,h1,h2,rfl⟩
   ·exact hb.2.2 ho
   ·exact hb.2.1 (.inr ⟨⟨i,s,h2,rfl⟩,xin h1 h2⟩)⟩
  have noE:∀ {b},¬ kD hc ρ b → ¬ kD (aB (ids.map fun a=>dE (bt ids) (hc a))) (fun i s=>ρ (bR ids i) s) b:=fun {b} hb ho=>by
   obtain ⟨id,sub,_,q2,q3⟩:=xP hl hnd hcl ho
   exact hb ⟨id,sub,q2,q3⟩
  have hAc:∀ b,aG w X hc ρ b→aG w' X h' ρ3 b∧w'.heap[b]?=w.heap[b]?:=fun b hb=>by
   refine ⟨⟨Nat.lt_of_lt_of_le hb.1 far.size,hb.2.1,fun ho => ?_⟩,far.old b hb.1 (noE hb.2.2)⟩
   rcases ownc ho with ho | ⟨i,s,h1,h2,rfl⟩
   ·rcases fr3 (own3 ho) with ho | ho
    ·exact noE hb.2.2 ho
    ·have:=hb.1; omega
   ·exact hb.2.2 ⟨i,s,h2,rfl⟩
  have pas:∀ a ∈ ids,aS (bt ids a)=true:=fun a ha=>by
   have:=ph ha
   simp only [aS,decide_eq_true_eq]
   omega
  have stayI:∀ a ∈ ids,(∀ p ∈ gv,p.1 ≠ a)→h' a ≠ .dead∧ρ3 a none=ρ a none∧hm (bt ids a) ≠ .dead:=fun a ha hg=>by
   have h1:=(r5 c4 _ a _ (by have h1:=List.idxOf_lt_length_of_mem ha; rw [List.getElem?_eq_getElem h1]; simp) (oget a ha)).2 hg
   have h2:hm (bt ids a) ≠ .dead:=by rw [hm_ids a ha]; exact h1
   refine ⟨by rw [h_ids a ha hg,ne_eq,xH]; exact h2,?_,h2⟩
   rw [r3c a (.inl ⟨ha,hg⟩),nmi a ha,(far.stay _ (pas a ha) h2).2,nK hl ha]
  have bfB:∀ id,bf (hc id)=true→bf (h' id)=true∧ρ3 id none=ρ id none:=fun id hb=>by
   have h1 : ¬ (n≤id∧id < n+dP res):=fun hh=>by rw [gdead id hh.1 hh.2] at hb; cases hb
   have h2:∀ p ∈ gv,p.1 ≠ id:=fun p hp e=>by
    have:=List.all_eq_true.1 c5 p hp
    rw [e,hb] at this
    cases this
   by_cases hi:id ∈ ids
   ·have h4:=(r5 c4 _ id _ (by have h1:=List.idxOf_lt_length_of_mem hi; rw [List.getElem?_eq_getElem h1]; simp) (oget id hi)).1 hb
    exact ⟨by rw [h_ids id hi h2,Nm,hm_ids id hi]; exact h4,(stayI id hi h2).2.1⟩
   ·exact ⟨by rw [h_out id hi h1 h2]; exact hb,r3n id (fun hC=>by rcases hC with hC | hC; exact hi hC.1; exact h1 hC) none⟩
  have rel:Rel w' X ρ3 h':=by
   refine ⟨fun i s j t h1 h2 e => ?_,fun i s h1 hx => ?_,fun id => ?_,fun b hb=>Nat.lt_of_lt_of_le (r.xl b hb) far.size⟩
   ·by_cases hi:Cal i <;> by_cases hj:Cal j
    ·rw [r3c i hi,r3c j hj] at e
     exact r3.inj _ _ _ _ (lcal h1 hi) (lcal h2 hj) e
    ·rw [r3c i hi,r3n j hj] at e
     obtain ⟨q1,q2⟩:=lrest h2 hj
     exact absurd e (parts (lcal h1 hi) q1 q2)
    ·rw [r3n i hi,r3c j hj] at e
     obtain ⟨q1,q2⟩:=lrest h1 hi
     exact absurd e.symm (parts (lcal h2 hj) q1 q2)
    ·rw [r3n i hi,r3n j hj] at e
     exact r.inj _ _ _ _ (lrest h1 hi).2 (lrest h2 hj).2 e
   ·by_cases hi:Cal i
    ·rw [r3c i hi] at hx
     exact r3.nx _ _ (lcal h1 hi) (.inl hx)
    ·rw [r3n i hi] at hx
     exact r.nx _ _ (lrest h1 hi).2 hx
   ·by_cases hi:Cal id
    ·have:=(r3.ob id).keep (w':=w') (A':=aG w' X h' ρ3) (ρ':=ρ3) (h':=h') (fun b hb=>⟨hA3 b hb,rfl⟩) (fun i hb=>by
      have hC:=h3n i (fun e=>by rw [e] at hb; cases hb)
      rw [h3c i hC] at hb
      exact ⟨hb,r3c i hC none⟩) (fun s=>r3c id hi s) (fun _ _=>rfl)
     rwa [h3c id hi] at this
    ·by_cases hd:h' id = .dead
     ·rw [hd]; trivial
     ·obtain ⟨q1,q2⟩:=rest id hi hd
      have:=(r.ob id).keep (w':=w') (A':=aG w' X h' ρ3) (ρ':=ρ3) (h':=h') hAc bfB (fun s=>r3n id hi s) (fun s hl'=>far.old _ (Ji r ⟨id,s,hl',rfl⟩) (xin q1 hl'))
      rwa [← q2] at this
  have evo:Evo w ρ hc w' ρ3 h' ((if kp then [] else ids.map (·,true))++gv):=by
   refine ⟨far.os,far.tape,far.output,far.size,fun b hb ho=>far.old b hb (noE ho),fun id sub hp hk => ?_,fun b ho => ?_,bfB,fun id hp hd => ?_⟩
   ·rw [qY,Bool.or_eq_false_iff] at hk
    have h2:∀ p ∈ gv,p.1 ≠ id:=fun p hp' e=>by
     have hk2:=hk.2
     simp only [fu,List.any_eq_false,Bool.and_eq_true,beq_iff_eq,Bool.or_eq_true,Bool.not_eq_true',not_and] at hk2
     exact hk2 p hp' e (.inl (gvflag p hp'))
    have hnd':hc id ≠ .dead:=by
     cases sub with
     | none=>exact hp
     | some p=>obtain ⟨_,_,_,e,_⟩:=hp; rw [e]; simp
    have h1 : ¬ (n≤id∧id < n+dP res):=fun hh=>hnd' (gdead id hh.1 hh.2)
    by_cases hi:id ∈ ids
    ·cases sub with
     | none=>exact ⟨(stayI id hi h2).1,(stayI id hi h2).2.1⟩
     | some p =>
      cases kp with
      | false =>
       have hk1:=hk.1
       simp only [Bool.false_eq_true,if_false,fu,List.any_map,List.any_eq_false,Function.comp,Bool.and_eq_true,beq_iff_eq] at hk1
       exact absurd ⟨rfl,rfl⟩ (hk1 id hi)
      | true =>
       have hpe:bA (aB (ids.map fun a=>dE (bt ids) (hc a))) (bt ids id) (some p):=by
        obtain ⟨cs,k,rows,e1,e2⟩:=hp
        have:=(em.back id (by simpa using hi)).2
        rw [e1] at this
        refine ⟨cs.map (fw (bt ids)),k,rows,this,?_⟩
        rw [List.getElem?_map,e2]
        rfl
       obtain ⟨q1,q2⟩:=far.keep rfl (bt ids id) p (pas id hi) (stayI id hi h2).2.2 hpe
       refine ⟨?_,?_⟩
       ·obtain ⟨cs,k,rows,e1,e2⟩:=q1
        refine ⟨cs.map (fw (bR ids)),k,rows,?_,?_⟩
        ·rw [h_ids id hi h2,e1]; rfl
        ·rw [List.getElem?_map,e2]; rfl
       ·rw [r3c id (.inl ⟨hi,h2⟩),nmi id hi,q2,nK hl hi]
    ·have hC : ¬ Cal id:=fun hC=>by rcases hC with hC | hC; exact hi hC.1; exact h1 hC
     exact ⟨(df (h_out id hi h1 h2)).2 hp,r3n id hC sub⟩
   ·rcases ownc ho with ho | ⟨i,s,h1,h2,rfl⟩
    ·rcases fr3 (own3 ho) with ho | ho
     ·obtain ⟨id,sub,_,q2,q3⟩:=xP hl hnd hcl ho
      exact .inl ⟨id,sub,q2,q3⟩
     ·exact .inr ho
    ·exact .inl ⟨i,s,h2,rfl⟩
   ·simp only [aS,decide_eq_true_eq] at hp
    by_cases hi:id ∈ ids
    ·refine ⟨hdead id hi,?_⟩
     by_cases hg:∀ p ∈ gv,p.1 ≠ id
     ·exact (stayI id hi hg).2.1
     ·exfalso
      refine hd (h_gv id (by omega) ?_)
      have:=Classical.not_forall.1 hg
      obtain ⟨p,hp'⟩:=this
      obtain ⟨hp1,hp2⟩:=Classical.not_imp.1 hp'
      exact ⟨p,hp1,Classical.not_not.1 hp2⟩
    ·have hC : ¬ Cal id:=fun hC=>by rcases hC with hC | hC; exact hi hC.1; omega
     obtain ⟨_,q2⟩:=rest id hC hd
     exact ⟨q2 ▸ hd,r3n id hC none⟩
  refine ⟨ρ3,_,rfl,rel,evo,?_⟩
  have toV:∀ {c:AV} {u:Value},RV w' (aG w' (Ar X hc ρ ids) hm ρ') ρ' hm c u→aW L3 c=true→RV w' (aG w' X h' ρ3) ρ3 h' (fw (bR ids) c) u:=fun {c u} hv hcl'=>by
   have h1:=hv.embA (A2:=aG w' (Ar X hc ρ ids) h3 (fun i s=>ρ' (nm i) s)) em3 (fun b hb=>⟨hb.1,hb.2.1,fun ho=>hb.2.2 (own3 ho)⟩) hcl'
   exact h1.keep (fun b hb=>⟨hA3 b hb,rfl⟩) fun i s hp=>by
    have hC:=h3n i (by
     cases s with
     | none=>exact hp
     | some p=>obtain ⟨_,_,_,e,_⟩:=hp; rw [e]; simp)
    exact ⟨(df (h3c i hC)).1 hp,r3c i hC s⟩
  have zc:=zcl l3a l3b
  cases zr with
  | tup vs =>
   cases hv with
   | dat hd=>cases hd
   | tup _ us hs hr =>
    refine .tup _ us (by simpa using hs) fun i c u hc' hu => ?_
    simp only [List.getElem?_map,Option.map_eq_some_iff] at hc'
    obtain ⟨c0,h1,rfl⟩:=hc'
    exact toV (hr i c0 u h1 hu) (zc c0 (List.mem_of_getElem? h1))
  | _=>exact toV hv zc
 ·cases hz
end
theorem CM {R:AV→Value→Prop} {l1 l2:List AV} {v1 v2:List Value} (hl:v1.length=l1.length) (h1:∀ (i:Nat) (c:AV) (u:Value),l1[i]?=some c→v1[i]?=some u→R c u)
  (h2:∀ (i:Nat) (c:AV) (u:Value),l2[i]?=some c→v2[i]?=some u→R c u) (i:Nat) (c:AV) (u:Value) (hc:(l1++l2)[i]?=some c) (hu:(v1++v2)[i]?=some u):R c u:=by
 by_cases h:i < l1.length
 ·rw [List.getElem?_append_left h] at hc
  rw [List.getElem?_append_left (by omega)] at hu
  exact h1 i c u hc hu
 ·rw [List.getElem?_append_right (by omega)] at hc
  rw [List.getElem?_append_right (by omega),hl] at hu
  exact h2 _ c u hc hu
theorem CN:∀ {l:List AV} {ms:List Nat},∀ p ∈ vo ms l,p.2=false
 | [],ms,p,hp=>by simp [vo] at hp
 | a::l,ms,p,hp=>by
  simp only [vo,List.mem_append] at hp
  rcases hp with hp | hp
  ·split at hp
   ·simp only [List.mem_map] at hp
    obtain ⟨i,_,rfl⟩:=hp
    rfl
   ·simp at hp
  ·exact CN p hp
section
variable {P:Program} {I:Inv} {call:eH} {md:Mode}
theorem OY (hf:∀ f,vC P I (md.keep f) f (call f)):jn P I call md:=by
 intro w X ρ h h' d f z as ks uf us hd hi r hvf hus hva hz
 cases f <;> simp only [d7] at hz <;> try (cases hz; done)
 rename_i fid a b
 obtain ⟨first,cap,rfl,s1,s2,va,vb⟩:=hvf.fn_inv
 refine ⟨fid,first,cap,rfl,?_⟩
 simp only [Option.bind_eq_some_iff] at hz
 obtain ⟨⟨zs,hc,ks0⟩,e1,e2⟩:=hz
 simp only at e2
 have hvals:(first++us++cap).toList=first.toList++us.toList++cap.toList:=by simp
 obtain ⟨r1,ev1,fl1,ln1,vv⟩:=xO (h0:=h) (a++as++b) (md.m fid) (first++us++cap).toList r .refl (by simp [s1,s2,hus]) (fun i c u h1 h2=>by
  rw [hvals] at h2
  refine CM (by simp [s1,hus]) (fun i c u h1 h2=>CM (by simp [s1]) (fun i c u h1 h2=>va i c u h1 (by simpa using h2)) (fun i c u h1 h2=>hva i c u h1 (by simpa using h2)) i c u h1 h2) (fun i c u h1 h2=>vb i c u h1 (by simpa using h2)) i c u h1 h2) e1
 have hnd:(eF hc 40 (dD [] (zs.flatMap bT)) 0).Nodup:=Aj (rW List.nodup_nil)
 generalize eF hc 40 (dD [] (zs.flatMap bT)) 0=ids at *
 unfold s4 at e2
 split at e2
 ·rename_i hck
  simp only [Bool.and_eq_true,List.all_eq_true,Bool.not_eq_true'] at hck
  obtain ⟨k1,k2⟩:=hck
  simp only [Option.bind_eq_some_iff] at e2
  obtain ⟨⟨res,os⟩,e3,e4⟩:=e2
  have hl:ids.length≤1000:=by
   unfold lJ at e4
   split at e4
   ·rename_i hh; exact hh.2.1
   ·cases e4
  have hcl:∀ a ∈ ids,bh ids (hc a)=true:=fun a ha=>(k2 a ha).1
  have hdead:∀ a ∈ ids,hc a ≠ .dead:=fun a ha e=>by
   have:=(k2 a ha).2
   rw [e] at this
   cases this
  have em:=Emb.enter (h:=hc) hl hnd hcl
  obtain ⟨rE,hA⟩:=Ra r1 hl hnd hcl
  have hi1:I.p w (Ar X hc ρ ids):=I.more hi fun b hb => .inl hb
  have hlen:(first++us++cap).size=zs.length:=by rw [ln1]; simp [s1,s2,hus]
  refine (hf fid e3 (n:=2000+8*d) (by omega) hi1 rE (by rw [List.length_map,rZ]; exact hlen) fun i c u hc' hu => ?_).mono fun v w' ⟨ρ',q1,q2,q3⟩ => ?_
  ·simp only [List.getElem?_map,Option.map_eq_some_iff] at hc'
   obtain ⟨c0,h1,rfl⟩:=hc'
   obtain ⟨c1,h2,h3⟩:=qc _ _ _ _ h1
   obtain ⟨h4,wy,hv⟩:=vv i c1 u h2 (by rw [Array.getElem?_toList]; exact hu)
   have hv':RV w (aG w X h4 ρ) ρ h4 c0 u:=by
    rcases h3 with rfl | ⟨ss,rfl⟩
    ·exact hv
    ·exact hv.nrmV ss
   have hcc:=k1 c0 (List.mem_of_getElem? h1)
   exact (Q8 wy hv' hcc).embA em hA hcc
  ·obtain ⟨ρ3,k3,rfl,g1,g2,g3⟩:=OX r1 hnd hcl hdead CN e4 q1 q2 q3
   exact ⟨ρ3,g1,ev1.trans g2,g3⟩
 ·cases e2
structure EnvOK (P:Program) (I:Inv) (e:Env):Prop where
 mixed:P.follows .mixedOrders=true
 ext:∀ f g,e.E f=some g→vC P I (e.md.keep f) f g
 text:∀ f fd,e.E f=none→e.C f=some fd→Text P f fd
theorem CO (kp:Bool) (f:FuncId):vC P I kp f (fun _ _=>none):=by
 intro args obs obs' res w X ρ vals n hz
 cases hz
theorem Rb {e:Env} (he:EnvOK P I e):∀ (n:Nat) (f:FuncId),vC P I (e.md.keep f) f (cr e n f)
 | 0,f=>CO _ f
 | n+1,f=>by
  cases hE:e.E f with
  | some g =>
   have:cr e (n+1) f=g:=by funext args hs; simp only [cr,hE]
   rw [this]
   exact he.ext f g hE
  | none =>
   cases hC:e.C f with
   | none =>
    have:cr e (n+1) f=fun _ _=>none:=by funext args hs; simp only [cr,hE,hC]; rfl
    rw [this]
    exact CO _ f
   | some fd =>
    have:cr e (n+1) f=pe (cr e n) { e.md with nm:=e.md.keep f } n fd:=by funext args hs; simp only [cr,hE,hC]; rfl
    rw [this]
    exact VT (md:={ e.md with nm:=e.md.keep f }) he.mixed (OY (md:={ e.md with nm:=e.md.keep f }) fun g=>Rb he n g) (he.text f fd hE hC)
end
def Ev (p:Nat→Prop):Prop:=∃ n,∀ k,n≤k→p k
theorem Ev.and {p q:Nat→Prop} (a:Ev p) (b:Ev q):Ev fun k=>p k∧q k:=by
 obtain ⟨n,hn⟩:=a
 obtain ⟨m,hm⟩:=b
 exact ⟨max n m,fun k hk=>⟨hn k (by omega),hm k (by omega)⟩⟩
theorem Ev.mono {p q:Nat→Prop} (a:Ev p) (h:∀ k,p k→q k):Ev q:=by
 obtain ⟨n,hn⟩:=a
 exact ⟨n,fun k hk=>h k (hn k hk)⟩
theorem Ev.all {p:Nat→Prop} (h:∀ k,p k):Ev p:=⟨0,fun k _=>h k⟩
open Classical in
noncomputable def td {α:Type} (f:Nat→Option α):Option α:=if h:∃ a,Ev fun k=>f k=some a then some (Classical.choose h) else none
theorem iA {α:Type} {f:Nat→Option α} {a:α}:td f=some a↔Ev fun k=>f k=some a:=by
 unfold td
 constructor
 ·intro h
  split at h
  ·rename_i hh
   have:=Classical.choose_spec hh
   cases h
   exact this
  ·cases h
 ·intro h
  have hh:∃ a,Ev fun k=>f k=some a:=⟨a,h⟩
  rw [dif_pos hh]
  obtain ⟨n,hn⟩:=Classical.choose_spec hh
  obtain ⟨m,hm⟩:=h
  have h1:=hn (max n m) (by omega)
  have h2:=hm (max n m) (by omega)
  exact h1.symm.trans h2
theorem VW {α:Type} {f g:Nat→Option α} (h:∀ a,td f=some a↔td g=some a):td f=td g:=by
 cases hf:td f with
 | none =>
  cases hg:td g with
  | none=>rfl
  | some a=>rw [(h a).2 hg] at hf; cases hf
 | some a=>exact ((h a).1 hf).symm
theorem qd {α:Type} (a:Option α):td (fun _=>a)=a:=by
 cases a with
 | none =>
  cases h:td (fun _:Nat=>(none:Option α)) with
  | none=>rfl
  | some a =>
   obtain ⟨n,hn⟩:=iA.1 h
   exact absurd (hn n (Nat.le_refl _)) (by simp)
 | some a=>exact iA.2 (Ev.all fun _=>rfl)
theorem Jp {α:Type} (f:Nat→Option α):td (fun n=>f (n+1))=td f:=VW fun a=>by
 rw [iA,iA]
 constructor
 ·rintro ⟨n,hn⟩
  refine ⟨n+1,fun k hk => ?_⟩
  have:f (k - 1+1)=some a:=hn (k - 1) (by omega)
  rwa [show k - 1+1=k from by omega] at this
 ·rintro ⟨n,hn⟩
  exact ⟨n,fun k hk=>hn (k+1) (by omega)⟩
noncomputable def aq (body:am→ac→Option (Ex × St)) (ks hs:List Nat) (s:am) (h:ac):Option (Ex × St):=td fun n=>kt body ks hs n s h
def IB (g:am→ac→Option (Ex × St)):Option (Ex × St)→Option (Ex × St)
 | some (.normal,t)=>g t.s t.h
 | r=>r
theorem ao (body:am→ac→Option (Ex × St)) (ks hs:List Nat) (s:am) (h:ac) :
  aq body ks hs s h=if (hs.all fun a=>bh hs (h a))=true then IB (aq body ks hs) (body (mk .any (fun i=>dJ hs (s i)) ks) (mk .dead h hs)) else none:=by
 unfold aq
 rw [← Jp]
 simp only [kt]
 split
 ·cases hb:body (mk .any (fun i=>dJ hs (s i)) ks) (mk .dead h hs) with
  | none=>exact qd _
  | some r =>
   obtain ⟨e,t⟩:=r
   cases e with
   | normal=>rfl
   | exit id=>exact qd _
   | ret=>exact qd _
 ·exact qd _
noncomputable def ak (call:eH) (md:Mode):Cmd→am→ac→Option (Ex × St)
 | .skip,s,h=>some (.normal,⟨s,h⟩)
 | .ops ks l,s,h=>bc (aH call md l s h) fun s h=>some (.normal,⟨mk .any s ks,h⟩)
 | .dops ks l ps,s,h=>bc (pL call md l ps s h) fun s h=>some (.normal,⟨mk .any s ks,h⟩)
 | .seq a b,s,h=>bo (ak call md a s h) (ak call md b)
 | .cond c a b,s,h=>ju (ak call md a s h) (ak call md b s h) (ev s c)
 | .block id ks a,s,h=>au id ks (ak call md a s h)
 | .loop ks hs a,s,h=>aq (ak call md a) ks hs s h
 | .exit id,s,h=>some (.exit id,⟨s,h⟩)
 | .ret,s,h=>some (.ret,⟨s,h⟩)
 | .frz is a,s,h=>bc (Er md.nm is s h) (ak call md a)
noncomputable def cW (e:Env):eH:=fun f args hs=>td fun n=>cr e n f args hs
noncomputable def OZ (call:eH) (md:Mode) (fd:FD) (args:List AV) (hs:List Ob):Option (AV × List Ob) :=
 if args.length=fd.np∧hs.length≤1000 then eE md.nm fd.rs fd.res hs.length (ak call md fd.body (rR args) (aB hs)) else none
section
variable {e:Env} {md:Mode}
theorem TQ {h:ac} {d:Nat} {as:List AV} {f:AV} {r:R3} (hz:d7 (cW e) md h d as f=some r):Ev fun k=>d7 (cr e k) md h d as f=some r:=by
 cases f <;> simp only [d7] at hz ⊢ <;> try (cases hz; done)
 simp only [Option.bind_eq_some_iff] at hz ⊢
 obtain ⟨p,e1,e2⟩:=hz
 unfold s4 at e2 ⊢
 split at e2
 ·rename_i hc
  simp only [Option.bind_eq_some_iff] at e2
  obtain ⟨q,e3,e4⟩:=e2
  refine (iA.1 e3).mono fun k hk=>⟨p,e1,?_⟩
  rw [if_pos hc]
  simp only [Option.bind_eq_some_iff]
  exact ⟨q,hk,e4⟩
 ·cases e2
theorem Nt {d:Nat} {op:AOp} {s:am} {h:ac} {r:R3} (hz:step (cW e) md d op s h=some r):Ev fun k=>step (cr e k) md d op s h=some r:=by
 cases op with
 | call f as=>exact TQ hz
 | _=>exact Ev.all fun k=>hz
theorem Nu {d:Option Nat} {op:AOp} {s:am} {h:ac} {t:St} (hz:cq md.nm s d (step (cW e) md (d.getD 0) op s h)=some t):Ev fun k=>cq md.nm s d (step (cr e k) md (d.getD 0) op s h)=some t:=by
 cases hs:step (cW e) md (d.getD 0) op s h with
 | none=>rw [hs] at hz; cases hz
 | some r =>
  rw [hs] at hz
  exact (Nt hs).mono fun k hk=>by rw [hk]; exact hz
theorem TR {o:COp} {s:am} {h:ac} {t:St} (hz:lK (cW e) md o s h=some t):Ev fun k=>lK (cr e k) md o s h=some t:=by
 unfold lK at hz ⊢
 cases hg:o.g with
 | none=>rw [hg] at hz; exact Nu hz
 | some g =>
  rw [hg] at hz
  simp only at hz ⊢
  unfold gu at hz ⊢
  split at hz
  ·split at hz
   ·rename_i hb
    simp only [if_pos hb]
    exact Nu hz
   ·rename_i hb
    simp only [if_neg hb]
    exact Ev.all fun k=>hz
  ·exact Ev.all fun k=>hz
  ·cases hz
theorem CP:∀ {l:List COp} {s:am} {h:ac} {t:St},aH (cW e) md l s h=some t→Ev fun k=>aH (cr e k) md l s h=some t
 | [],s,h,t,hz=>Ev.all fun k=>hz
 | o::l,s,h,t,hz=>by
  simp only [aH,bc] at hz
  split at hz
  ·cases hz
  ·rename_i t1 ht1
   refine ((TR ht1).and (CP hz)).mono fun k hk => ?_
   simp only [aH,bc,hk.1,hk.2]
theorem Jq {d:Option Nat} {op:AOp} {s:am} {h:ac} {f:ac→Fp} {t:St × Fp} (hz:gj s d f (step (cW e) md (d.getD 0) op s h)=some t):Ev fun k=>gj s d f (step (cr e k) md (d.getD 0) op s h)=some t:=by
 cases hs:step (cW e) md (d.getD 0) op s h with
 | none=>rw [hs] at hz; cases hz
 | some r =>
  rw [hs] at hz
  exact (Nt hs).mono fun k hk=>by rw [hk]; exact hz
theorem TS {o:COp} {s:am} {h:ac} {t:St × Fp} (hz:cA (cW e) md o s h=some t):Ev fun k=>cA (cr e k) md o s h=some t:=by
 unfold cA at hz ⊢
 cases hg:o.g with
 | none=>rw [hg] at hz; exact Jq hz
 | some g =>
  rw [hg] at hz
  simp only at hz ⊢
  unfold jt at hz ⊢
  split at hz
  ·split at hz
   ·rename_i hb
    simp only [if_pos hb]
    exact Jq hz
   ·rename_i hb
    simp only [if_neg hb]
    exact Ev.all fun k=>hz
  ·exact Ev.all fun k=>hz
  ·cases hz
theorem Nv:∀ {l:List COp} {s:am} {h:ac} {t:St × List Fp},gk (cW e) md l s h=some t→Ev fun k=>gk (cr e k) md l s h=some t
 | [],s,h,t,hz=>Ev.all fun k=>hz
 | o::l,s,h,t,hz=>by
  simp only [gk,Option.bind_eq_some_iff] at hz
  obtain ⟨r,e1,q,e2,e3⟩:=hz
  refine ((TS e1).and (Nv e2)).mono fun k hk => ?_
  simp only [gk,hk.1,hk.2,Option.bind_some,e3]
theorem Nw {c:Cmd} {ks hs:List Nat} (ih:∀ {s:am} {h:ac} {r:Ex × St},ak (cW e) md c s h=some r→Ev fun k=>bi (cr e k) md k c s h=some r) :
  ∀ (m:Nat) {s:am} {h:ac} {r:Ex × St},kt (ak (cW e) md c) ks hs m s h=some r→∃ n,∀ k,n≤k→∀ j,n≤j→kt (bi (cr e k) md k c) ks hs j s h=some r
 | 0,s,h,r,hz=>by simp [kt] at hz
 | m+1,s,h,r,hz=>by
  simp only [kt] at hz
  split at hz
  ·rename_i hc
   cases hb:ak (cW e) md c (mk .any (fun i=>dJ hs (s i)) ks) (mk .dead h hs) with
   | none=>rw [hb] at hz; cases hz
   | some q =>
    rw [hb] at hz
    obtain ⟨n1,h1⟩:=ih hb
    obtain ⟨ex,t⟩:=q
    cases ex with
    | normal =>
     obtain ⟨n2,h2⟩:=Nw ih m hz
     refine ⟨max n1 n2+1,fun k hk j hj => ?_⟩
     obtain ⟨j,rfl⟩:∃ j',j=j'+1:=⟨j - 1,by omega⟩
     simp only [kt,if_pos hc,h1 k (by omega)]
     exact h2 k (by omega) j (by omega)
    | exit id =>
     refine ⟨n1+1,fun k hk j hj => ?_⟩
     obtain ⟨j,rfl⟩:∃ j',j=j'+1:=⟨j - 1,by omega⟩
     simp only [kt,if_pos hc,h1 k (by omega)]
     exact hz
    | ret =>
     refine ⟨n1+1,fun k hk j hj => ?_⟩
     obtain ⟨j,rfl⟩:∃ j',j=j'+1:=⟨j - 1,by omega⟩
     simp only [kt,if_pos hc,h1 k (by omega)]
     exact hz
  ·cases hz
theorem fR:∀ (c:Cmd) {s:am} {h:ac} {r:Ex × St},ak (cW e) md c s h=some r→Ev fun k=>bi (cr e k) md k c s h=some r
 | .skip,s,h,r,hz=>Ev.all fun k=>hz
 | .ops ks l,s,h,r,hz=>by
  simp only [ak,bc] at hz
  split at hz
  ·cases hz
  ·rename_i t1 ht1
   exact (CP ht1).mono fun k hk=>by simp only [bi,hk,bc]; exact hz
 | .dops ks l ps,s,h,r,hz=>by
  simp only [ak,bc] at hz
  split at hz
  ·cases hz
  ·rename_i t1 ht1
   simp only [pL,Option.bind_eq_some_iff] at ht1
   obtain ⟨q,e1,e2⟩:=ht1
   refine (Nv e1).mono fun k hk => ?_
   simp only [bi,pL,hk,Option.bind_some,e2,bc]
   exact hz
 | .seq a b,s,h,r,hz=>by
  simp only [ak,bo] at hz
  split at hz
  ·cases hz
  ·rename_i t1 ht1
   exact ((fR a ht1).and (fR b hz)).mono fun k hk=>by simp only [bi,bo,hk.1,hk.2]
  ·rename_i i t1 ht1
   exact (fR a ht1).mono fun k hk=>by simp only [bi,bo,hk]; exact hz
  ·rename_i t1 ht1
   exact (fR a ht1).mono fun k hk=>by simp only [bi,bo,hk]; exact hz
 | .cond c a b,s,h,r,hz=>by
  simp only [ak,ju] at hz
  split at hz
  ·rename_i t ht
   cases t with
   | true=>exact (fR a hz).mono fun k hk=>by simp only [bi,ju,ht,if_true,hk]
   | false=>exact (fR b hz).mono fun k hk=>by simp only [bi,ju,ht,Bool.false_eq_true,if_false,hk]
  ·cases hz
 | .block id ks a,s,h,r,hz=>by
  simp only [ak,au] at hz
  split at hz
  ·cases hz
  ·rename_i t1 ht1
   exact (fR a ht1).mono fun k hk=>by simp only [bi,au,hk]; exact hz
  ·rename_i i t1 ht1
   exact (fR a ht1).mono fun k hk=>by simp only [bi,au,hk]; exact hz
  ·rename_i t1 ht1
   exact (fR a ht1).mono fun k hk=>by simp only [bi,au,hk]; exact hz
 | .loop ks hs a,s,h,r,hz=>by
  simp only [ak,aq] at hz
  obtain ⟨m,hm⟩:=iA.1 hz
  obtain ⟨n,hn⟩:=Nw (fun hh=>fR a hh) m (hm m (Nat.le_refl _))
  exact ⟨n,fun k hk=>by simp only [bi]; exact hn k hk k hk⟩
 | .exit id,s,h,r,hz=>Ev.all fun k=>hz
 | .ret,s,h,r,hz=>Ev.all fun k=>hz
 | .frz is a,s,h,r,hz=>by
  simp only [ak,bc] at hz
  split at hz
  ·cases hz
  ·rename_i t1 ht1
   exact (fR a hz).mono fun k hk=>by simp only [bi,bc,ht1,hk]
theorem GF {f:FuncId} {fd:FD} {args:List AV} {hs:List Ob} {r:AV × List Ob} (hE:e.E f=none) (hC:e.C f=some fd) (hz:OZ (cW e) { e.md with nm:=e.md.keep f } fd args hs=some r):cW e f args hs=some r:=by
 unfold cW
 rw [iA]
 unfold OZ at hz
 split at hz
 ·rename_i hc
  cases hx:ak (cW e) { e.md with nm:=e.md.keep f } fd.body (rR args) (aB hs) with
  | none=>rw [hx] at hz; cases hz
  | some q =>
   rw [hx] at hz
   obtain ⟨n,hn⟩:=fR fd.body hx
   refine ⟨n+1,fun k hk => ?_⟩
   obtain ⟨k,rfl⟩:∃ k',k=k'+1:=⟨k - 1,by omega⟩
   simp only [cr,hE,hC,Option.bind_some,pe,if_pos hc,hn k (by omega)]
   exact hz
 ·cases hz
theorem Jr {f:FuncId} {g:List AV→List Ob→Option (AV × List Ob)} {args:List AV} {hs:List Ob} (hE:e.E f=some g):cW e f args hs=g args hs:=by
 unfold cW
 rw [← Jp]
 have:(fun n=>cr e (n+1) f args hs)=fun _=>g args hs:=by funext n; simp only [cr,hE]
 rw [this,qd]
theorem VX {P:Program} {I:Inv} (he:EnvOK P I e) (f:FuncId):vC P I (e.md.keep f) f (cW e f):=by
 intro args obs obs' res w X ρ vals n hz
 obtain ⟨m,hm⟩:=iA.1 hz
 exact Rb he m f (hm m (Nat.le_refl _))
end
section
variable {call:eH} {md:Mode} {s:am} {h:ac}
@[go_sem] theorem ajE:ak call md .skip s h=some (.normal,⟨s,h⟩):=_root_.id rfl
@[go_sem] theorem amm (ks l):ak call md (.ops ks l) s h=bc (aH call md l s h) fun s h=>some (.normal,⟨mk .any s ks,h⟩):=_root_.id rfl
@[go_sem] theorem amn (is a):ak call md (.frz is a) s h=bc (Er md.nm is s h) (ak call md a):=_root_.id rfl
@[go_sem] theorem ajF (ks l ps):ak call md (.dops ks l ps) s h=bc (pL call md l ps s h) fun s h=>some (.normal,⟨mk .any s ks,h⟩):=_root_.id rfl
@[go_sem] theorem aak (a b):ak call md (.seq a b) s h=bo (ak call md a s h) (ak call md b):=_root_.id rfl
@[go_sem] theorem ajG (c a b):ak call md (.cond c a b) s h=ju (ak call md a s h) (ak call md b s h) (ev s c):=_root_.id rfl
@[go_sem] theorem ahM (id ks a):ak call md (.block id ks a) s h=au id ks (ak call md a s h):=_root_.id rfl
@[go_sem] theorem ajH (ks hs a):ak call md (.loop ks hs a) s h=aq (ak call md a) ks hs s h:=_root_.id rfl
@[go_sem] theorem ajI (i):ak call md (.exit i) s h=some (.exit i,⟨s,h⟩):=_root_.id rfl
@[go_sem] theorem amo:ak call md .ret s h=some (.ret,⟨s,h⟩):=_root_.id rfl
@[go_sem] theorem XU (s h f):bo (some (.normal,⟨s,h⟩)) f=f s h:=_root_.id rfl
@[go_sem] theorem aal (i t f):bo (some (.exit i,t)) f=some (.exit i,t):=_root_.id rfl
@[go_sem] theorem ab8 (t f):bo (some (.ret,t)) f=some (.ret,t):=_root_.id rfl
@[go_sem] theorem ZA (id ks i t):au id ks (some (.exit i,t))=if i=id then some (.normal,⟨mk .any t.s ks,t.h⟩) else some (.exit i,t):=_root_.id rfl
@[go_sem] theorem Xi (id ks t):au id ks (some (.normal,t))=some (.normal,⟨mk .any t.s ks,t.h⟩):=_root_.id rfl
@[go_sem] theorem aam (id ks t):au id ks (some (.ret,t))=some (.ret,t):=_root_.id rfl
@[go_sem] theorem aan (a b):ju a b (.v (.bool true))=a:=_root_.id rfl
@[go_sem] theorem ZB (a b):ju a b (.v (.bool false))=b:=_root_.id rfl
@[go_sem] theorem XV (g t):IB g (some (.normal,t))=g t.s t.h:=_root_.id rfl
@[go_sem] theorem aao (g i t):IB g (some (.exit i,t))=some (.exit i,t):=_root_.id rfl
@[go_sem] theorem ab9 (g t):IB g (some (.ret,t))=some (.ret,t):=_root_.id rfl
@[go_sem] theorem aap {β:Type} (s h) (f:am→ac→Option β):bc (some ⟨s,h⟩) f=f s h:=_root_.id rfl
@[go_sem] theorem aca {β:Type} (c:Prop) [Decidable c] (x y:Option St) (f:am→ac→Option β):bc (if c then x else y) f=if c then bc x f else bc y f:=by split <;> rfl
@[go_sem] theorem acb (c:Prop) [Decidable c] (x y:Option (Ex × St)) (f:am→ac→Option (Ex × St)):bo (if c then x else y) f=if c then bo x f else bo y f:=by split <;> rfl
@[go_sem] theorem ahN:aH call md [] s h=some ⟨s,h⟩:=_root_.id rfl
@[go_sem] theorem CQ (d op rest):aH call md (⟨some d,none,.p op⟩::rest) s h=(dC s op).bind fun a=>aH call md rest (upd s d a) h:=by
 simp only [aH,lK,step,vq]
 cases dC s op with
 | none=>rfl
 | some a=>simp only [Option.map_some,cq,kZ,if_true]; rfl
def cm (d n:Nat):COp:=⟨some d,none,.p (.mv (.t n))⟩
def co (d:Nat) (op:POp):COp:=⟨some d,none,.p op⟩
def cg (d j:Nat) (w:Bool) (op:POp):COp:=⟨some d,some (j,w),.p op⟩
@[go_sem] theorem ajJ (d n rest):aH call md (cm d n::rest) s h=aH call md rest (upd s d (s n)) h:=CQ d (.mv (.t n)) rest
@[go_sem] theorem ajK (d op rest):aH call md (co d op::rest) s h=(dC s op).bind fun a=>aH call md rest (upd s d a) h:=CQ d op rest
@[go_sem] theorem ajL (d j w op rest):aH call md (cg d j w op::rest) s h=bc (gu (some d) w ((dC s op).map fun a=>⟨upd s d a,h⟩) s h (s j)) (aH call md rest):=by
 have:cq md.nm s (some d) (step call md d (.p op) s h)=(dC s op).map fun a=>⟨upd s d a,h⟩:=by
  simp only [step,vq]
  cases dC s op with
  | none=>rfl
  | some a=>simp only [Option.map_some,cq,kZ,if_true]; rfl
 show bc (gu (some d) w (cq md.nm s (some d) (step call md d (.p op) s h)) s h (s j)) _=_
 rw [this]
def b2 (d:Nat) (op:BinOp) (a b:Nat):COp:=⟨some d,none,.p (.bin op (.t a) (.t b))⟩
def fa (d k a:Nat):COp:=⟨some d,none,.p (.fadr k (.t a))⟩
def nk (d a:Nat):COp:=⟨some d,none,.p (.nilck (.t a))⟩
def ld (d k a:Nat):COp:=⟨some d,none,.load k false (.t a)⟩
def la (d k a:Nat):COp:=⟨some d,none,.load k true (.t a)⟩
def ca (d f:Nat) (as:List Opd):COp:=⟨some d,none,.call (.c (.fn f [] [])) as⟩
def sr (k:Nat) (x y:Opd):COp:=⟨none,none,.store k x y⟩
def al (d:Nat) (z:List AV):COp:=⟨some d,none,.alloc z⟩
def bx (d k:Nat) (x:Opd):COp:=⟨some d,none,.box k x⟩
@[go_sem] theorem ajM (d op a b rest):aH call md (b2 d op a b::rest) s h=(cU op (s a) (s b)).bind fun a=>aH call md rest (upd s d a) h:=CQ d (.bin op (.t a) (.t b)) rest
@[go_sem] theorem ajN (d k a rest):aH call md (fa d k a::rest) s h=(pG k (s a)).bind fun a=>aH call md rest (upd s d a) h:=CQ d (.fadr k (.t a)) rest
@[go_sem] theorem ajO (d a rest):aH call md (nk d a::rest) s h=(xr (s a)).bind fun a=>aH call md rest (upd s d a) h:=CQ d (.nilck (.t a)) rest
@[go_sem] theorem ajP (d k a rest):aH call md (ld d k a::rest) s h=bc (cq md.nm s (some d) (dZ h k false (s a))) (aH call md rest):=_root_.id rfl
@[go_sem] theorem ajQ (d k a rest):aH call md (la d k a::rest) s h=bc (cq md.nm s (some d) (dZ h k true (s a))) (aH call md rest):=_root_.id rfl
@[go_sem] theorem ajR (d f as rest):aH call md (ca d f as::rest) s h=bc (cq md.nm s (some d) (d7 call md h d (as.map (ev s)) (.fn f [] []))) (aH call md rest):=_root_.id rfl
@[go_sem] theorem ajS (k x y rest):aH call md (sr k x y::rest) s h=bc (cq md.nm s none (fX h k (ev s x) (ev s y))) (aH call md rest):=_root_.id rfl
@[go_sem] theorem ajT (d z rest):aH call md (al d z::rest) s h=bc (cq md.nm s (some d) (fY h d z [])) (aH call md rest):=_root_.id rfl
@[go_sem] theorem ajU (d k x rest):aH call md (bx d k x::rest) s h=bc (cq md.nm s (some d) (rP h d k (ev s x))) (aH call md rest):=_root_.id rfl
theorem amp (d op rest):aH call md (⟨d,none,op⟩::rest) s h=bc (cq md.nm s d (step call md (d.getD 0) op s h)) (aH call md rest):=_root_.id rfl
@[go_sem] theorem amq (d j w op rest):aH call md (⟨d,some (j,w),op⟩::rest) s h=bc (gu d w (cq md.nm s d (step call md (d.getD 0) op s h)) s h (s j)) (aH call md rest):=_root_.id rfl
@[go_sem] theorem acd (d z rest):aH call md (⟨some d,none,.alloc z⟩::rest) s h=bc (cq md.nm s (some d) (fY h d z [])) (aH call md rest):=_root_.id rfl
@[go_sem] theorem ahO (d k x rest):aH call md (⟨some d,none,.box k x⟩::rest) s h=bc (cq md.nm s (some d) (rP h d k (ev s x))) (aH call md rest):=_root_.id rfl
@[go_sem] theorem ZC (d k z n ps rest):aH call md (⟨some d,none,.buildSl k z n ps⟩::rest) s h=bc (cq md.nm s (some d) ((cV k h (List.replicate n z) (ps.map fun p=>(p.1,ev s p.2))).bind fun q=>dy q.2.1 d k q.1 n q.2.2)) (aH call md rest):=_root_.id rfl
@[go_sem] theorem adL (d k z b l c rest):aH call md (⟨some d,none,.mkSl k z b l c⟩::rest) s h=bc (cq md.nm s (some d) ((vn (ev s l) (ev s c)).bind fun p=>if p.2*b≤140737488355328 then dy h d k (List.replicate p.1 z) p.1 [] else none)) (aH call md rest):=_root_.id rfl
@[go_sem] theorem adM (d k g x rest):aH call md (⟨some d,none,.load k g x⟩::rest) s h=bc (cq md.nm s (some d) (dZ h k g (ev s x))) (aH call md rest):=_root_.id rfl
@[go_sem] theorem ace (d k x y rest):aH call md (⟨d,none,.store k x y⟩::rest) s h=bc (cq md.nm s d (fX h k (ev s x) (ev s y))) (aH call md rest):=_root_.id rfl
@[go_sem] theorem ahP (d k b x y rest):aH call md (⟨some d,none,.app k b x y⟩::rest) s h=bc (cq md.nm s (some d) (IN h d k b (ev s x) (ev s y))) (aH call md rest):=_root_.id rfl
@[go_sem] theorem adN (d f as rest):aH call md (⟨some d,none,.call f as⟩::rest) s h=bc (cq md.nm s (some d) (d7 call md h d (as.map (ev s)) (ev s f))) (aH call md rest):=_root_.id rfl
@[go_sem] theorem acf (f as rest):aH call md (⟨none,none,.call f as⟩::rest) s h=bc (cq md.nm s none (d7 call md h 0 (as.map (ev s)) (ev s f))) (aH call md rest):=_root_.id rfl
@[go_sem] theorem adO (nm:Bool) (s d x h):cq nm s (some d) (some (x,h,[]))=some ⟨upd s d x,h⟩:=by simp only [cq,kZ,if_true]; rfl
@[go_sem] theorem acg (nm:Bool) (s x h):cq nm s none (some (x,h,[]))=some ⟨s,h⟩:=by simp only [cq,kZ,if_true]; rfl
@[go_sem] theorem ajV (d op):step call md d (.p op) s h=vq h (dC s op):=_root_.id rfl
@[go_sem] theorem ach (d k g x):step call md d (.load k g x) s h=dZ h k g (ev s x):=_root_.id rfl
@[go_sem] theorem aci (d f as):step call md d (.call f as) s h=d7 call md h d (as.map (ev s)) (ev s f):=_root_.id rfl
@[go_sem] theorem aaq (d k x y):step call md d (.store k x y) s h=fX h k (ev s x) (ev s y):=_root_.id rfl
@[go_sem] theorem aar (d z):step call md d (.alloc z) s h=fY h d z []:=_root_.id rfl
@[go_sem] theorem adP (d k x):step call md d (.box k x) s h=rP h d k (ev s x):=_root_.id rfl
@[go_sem] theorem XW (d k z n ps):step call md d (.buildSl k z n ps) s h=(cV k h (List.replicate n z) (ps.map fun p=>(p.1,ev s p.2))).bind fun q=>dy q.2.1 d k q.1 n q.2.2:=_root_.id rfl
@[go_sem] theorem acj (d k z b l c):step call md d (.mkSl k z b l c) s h=(vn (ev s l) (ev s c)).bind fun p=>if p.2*b≤140737488355328 then dy h d k (List.replicate p.1 z) p.1 [] else none:=_root_.id rfl
@[go_sem] theorem ack (h a):vq h (some a)=some (a,h,[]):=_root_.id rfl
@[go_sem] theorem aas (d st s h):gu d true st s h (.v (.bool true))=st:=_root_.id rfl
@[go_sem] theorem aat (d st s h):gu d false st s h (.v (.bool false))=st:=_root_.id rfl
@[go_sem] theorem aau (d st s h):gu (some d) true st s h (.v (.bool false))=some ⟨upd s d .und,h⟩:=_root_.id rfl
@[go_sem] theorem aav (d st s h):gu (some d) false st s h (.v (.bool true))=some ⟨upd s d .und,h⟩:=_root_.id rfl
@[go_sem] theorem ZD (d w st s h):gu (some d) w st s h .und=some ⟨upd s d .und,h⟩:=_root_.id rfl
@[go_sem] theorem amF (s n):ev s (.t n)=s n:=_root_.id rfl
@[go_sem] theorem amG (s a):ev s (.c a)=a:=_root_.id rfl
@[go_sem] theorem adQ (s):evo s none=none:=_root_.id rfl
@[go_sem] theorem adR (s x):evo s (some x)=some (ev s x):=_root_.id rfl
@[go_sem] theorem ajW {α:Type} (s:Nat→α) (d:Nat) (x:α) (i:Nat):upd s d x i=if i=d then x else s i:=_root_.id rfl
@[go_sem] theorem ajX {α:Type} (d:α) (f:Nat→α):mk d f []=fun _=>d:=_root_.id rfl
@[go_sem] theorem ahQ {α:Type} (d:α) (f:Nat→α) (i l):mk d f (i::l)=upd (mk d f l) i (f i):=_root_.id rfl
@[go_sem] theorem amH (x):dC s (.mv x)=some (ev s x):=_root_.id rfl
@[go_sem] theorem ajY (c a b):dC s (.pick c a b)=yY (ev s c) (ev s a) (ev s b):=_root_.id rfl
@[go_sem] theorem ahR (x):dC s (.nilck x)=xr (ev s x):=_root_.id rfl
@[go_sem] theorem ajZ (n x):dC s (.nilq n x)=Cp n (ev s x):=_root_.id rfl
@[go_sem] theorem amr (op x y):dC s (.bin op x y)=cU op (ev s x) (ev s y):=_root_.id rfl
@[go_sem] theorem amI (op x):dC s (.un op x)=IJ op (ev s x):=_root_.id rfl
@[go_sem] theorem amJ (k x):dC s (.cv k x)=QA k (ev s x):=_root_.id rfl
@[go_sem] theorem ams (x):dC s (.cv0 x)=Og (ev s x):=_root_.id rfl
@[go_sem] theorem amt (k x lo hi mx):dC s (.slc k x lo hi mx)=kU k (ev s x) (evo s lo) (evo s hi) (evo s mx):=_root_.id rfl
@[go_sem] theorem aj0 (x lo hi):dC s (.slcS x lo hi)=Iv (ev s x) (evo s lo) (evo s hi):=_root_.id rfl
@[go_sem] theorem aj1 (o x):dC s (.fadr o x)=pG o (ev s x):=_root_.id rfl
@[go_sem] theorem amu (o k g x):dC s (.fld o k g x)=IK o k g (ev s x):=_root_.id rfl
@[go_sem] theorem ahS (k x i):dC s (.iadrS k x i)=mF k (ev s x) (ev s i):=_root_.id rfl
@[go_sem] theorem ahT (n k x i):dC s (.iadrA n k x i)=uk n k (ev s x) (ev s i):=_root_.id rfl
@[go_sem] theorem aj2 (x i):dC s (.idxS x i)=y3 (ev s x) (ev s i):=_root_.id rfl
@[go_sem] theorem aj3 (n k g x i):dC s (.idxA n k g x i)=y4 n k g (ev s x) (ev s i):=_root_.id rfl
@[go_sem] theorem amv (i x):dC s (.ext i x)=IL i (ev s x):=_root_.id rfl
@[go_sem] theorem amw (m x):dC s (.len m x)=ko m (ev s x):=_root_.id rfl
@[go_sem] theorem amx (m t x y):dC s (.eqc m t x y)=II m t (ev s x) (ev s y):=_root_.id rfl
@[go_sem] theorem aj4 (x):dC s (.capp x)=Oh (ev s x):=_root_.id rfl
@[go_sem] theorem amy (m x ys):dC s (.mnx m x ys)=tD m (ev s x) (ys.map (ev s)):=_root_.id rfl
@[go_sem] theorem ahU (z ps):dC s (.build z ps)=(nV z (ps.map fun p=>(p.1,p.2.1,ev s p.2.2))).map .agg:=_root_.id rfl
@[go_sem] theorem amz (f a b):dC s (.mkF f a b)=some (.fn f (a.map (ev s)) (b.map (ev s))):=_root_.id rfl
@[go_sem] theorem acl (a b):yY (.v (.bool true)) a b=some a:=_root_.id rfl
@[go_sem] theorem aaw (a b):yY (.v (.bool false)) a b=some b:=_root_.id rfl
@[go_sem] theorem adS (id sub k i j):xr (.ref id sub k i j)=some (.ref id sub k i j):=_root_.id rfl
@[go_sem] theorem adT (cs):xr (.ipt cs)=some (.ipt cs):=_root_.id rfl
@[go_sem] theorem ahV (f a b):xr (.fn f a b)=some (.fn f a b):=_root_.id rfl
theorem iJ (op a b):cU op (.v a) (.v b)=(ft op a b).map .v:=_root_.id rfl
@[go_sem] theorem ahW (k a b):cU .add (.v (.int k a)) (.v (.int k b))=some (.v (.int k (k.wrap (a+b)))):=by simp [iJ,ft,kT]
@[go_sem] theorem ahX (k a b):cU .sub (.v (.int k a)) (.v (.int k b))=some (.v (.int k (k.wrap (a - b)))):=by simp [iJ,ft,kT]
@[go_sem] theorem ahY (k a b):cU .mul (.v (.int k a)) (.v (.int k b))=some (.v (.int k (k.wrap (a*b)))):=by simp [iJ,ft,kT]
@[go_sem] theorem VY (k a b):cU .quo (.v (.int k a)) (.v (.int k b))=if b=0 then none else some (.v (.int k (k.wrap (a.tdiv b)))):=by simp only [iJ,ft,kT,if_true]; split <;> rfl
@[go_sem] theorem Nx (k a b):cU .rem (.v (.int k a)) (.v (.int k b))=if b=0 then none else some (.v (.int k (a.tmod b))):=by simp only [iJ,ft,kT,if_true]; split <;> rfl
@[go_sem] theorem Ny (k a b):cU .and (.v (.int k a)) (.v (.int k b))=some (.v (.int k (k.wrap ((BitVec.ofInt k.bits a &&& BitVec.ofInt k.bits b).toNat)))):=by simp [iJ,ft,kT]
@[go_sem] theorem Rc (k a b):cU .or (.v (.int k a)) (.v (.int k b))=some (.v (.int k (k.wrap ((BitVec.ofInt k.bits a ||| BitVec.ofInt k.bits b).toNat)))):=by simp [iJ,ft,kT]
@[go_sem] theorem VZ (k k' a b):cU .shl (.v (.int k a)) (.v (.int k' b))=if b < 0 then none else some (.v (.int k (k.wrap (a*2 ^ (min b.toNat k.bits))))):=by simp only [iJ,ft,Tp]; split <;> rfl
@[go_sem] theorem Ey (k k' a b):cU .shr (.v (.int k a)) (.v (.int k' b))=if b < 0 then none else some (.v (.int k (a.fdiv (2 ^ (min b.toNat k.bits))))):=by simp only [iJ,ft,Tq]; split <;> rfl
@[go_sem] theorem ahZ (k a b):cU .lss (.v (.int k a)) (.v (.int k b))=some (B (decide (a < b))):=by simp [iJ,ft,kT]
@[go_sem] theorem ah0 (k a b):cU .leq (.v (.int k a)) (.v (.int k b))=some (B (decide (a≤b))):=by simp [iJ,ft,kT]
@[go_sem] theorem ah1 (k a b):cU .gtr (.v (.int k a)) (.v (.int k b))=some (B (decide (b < a))):=by simp [iJ,ft,kT]
@[go_sem] theorem ah2 (k a b):cU .geq (.v (.int k a)) (.v (.int k b))=some (B (decide (b≤a))):=by simp [iJ,ft,kT]
@[go_sem] theorem ah3 (k a b):cU .eql (.v (.int k a)) (.v (.int k b))=some (B (decide (a=b))):=by simp [iJ,ft,kT]; rfl
@[go_sem] theorem ah4 (k a b):cU .neq (.v (.int k a)) (.v (.int k b))=some (B (!decide (a=b))):=by simp [iJ,ft,kT,bne]; rfl
@[go_sem] theorem aj5 (k a):IJ .neg (.v (.int k a))=some (.v (.int k (k.wrap (0 - a)))):=_root_.id rfl
@[go_sem] theorem aj6 (k a):IJ .xor (.v (.int k a))=some (.v (.int k (k.wrap ((BitVec.ofInt k.bits (if k.signed then -1 else k.max) ^^^ BitVec.ofInt k.bits a).toNat)))):=_root_.id rfl
@[go_sem] theorem ah5 (k a b):cU .xor (.v (.int k a)) (.v (.int k b))=some (.v (.int k (k.wrap ((BitVec.ofInt k.bits a ^^^ BitVec.ofInt k.bits b).toNat)))):=by simp [iJ,ft,kT]
@[go_sem] theorem aj7 (b):IJ .not (.v (.bool b))=some (B (!b)):=_root_.id rfl
@[go_sem] theorem aj8 (k k' n):QA k (.v (.int k' n))=some (.v (.int k (k.wrap n))):=_root_.id rfl
@[go_sem] theorem adU (o id sub k i j):pG o (.ref id sub k i j)=some (.ref id sub k i (j+o)):=_root_.id rfl
@[go_sem] theorem adV (o cs):pG o (.ipt cs)=some (.ipt (cs.drop o)):=_root_.id rfl
@[go_sem] theorem ah6 (o k g cs):IK o k g (.agg cs)=iI k g cs o:=_root_.id rfl
@[go_sem] theorem acm (k cs o):iI k false cs o=cs[o]?:=_root_.id rfl
@[go_sem] theorem adW (k cs o):iI k true cs o=if o+k≤cs.length then some (.agg ((cs.drop o).take k)) else none:=_root_.id rfl
@[go_sem] theorem ah7 (k rows k' i):mF k (.sl k rows) (.v (.int k' i))=aV rows i:=by simp [mF]
@[go_sem] theorem adX (k id sub lo n k' i):mF k (.rsl id sub k lo n) (.v (.int k' i))=if 0≤i∧i < n then some (.ref id sub k (lo+i.toNat) 0) else none:=by simp [mF]
@[go_sem] theorem acn (n k id sub k' a j kk i):uk n k (.ref id sub k' a j) (.v (.int kk i))=if 0≤i∧i < n then some (.ref id sub k' a (j+i.toNat*k)) else none:=_root_.id rfl
@[go_sem] theorem aco (n k cs kk i):uk n k (.ipt cs) (.v (.int kk i))=if 0≤i∧i < n then some (.ipt (cs.drop (i.toNat*k))) else none:=_root_.id rfl
@[go_sem] theorem ah8 (i vs):IL i (.tup vs)=vs[i]?:=_root_.id rfl
@[go_sem] theorem aj9 (k rows):ko false (.sl k rows)=some (I rows.length):=_root_.id rfl
@[go_sem] theorem ah9:ko false .emp=some (I 0):=_root_.id rfl
@[go_sem] theorem aia (a b c d n):ko false (.rsl a b c d n)=some (I n):=_root_.id rfl
@[go_sem] theorem aib (x):ko true (.v (.string x))=some (I x.size):=_root_.id rfl
@[go_sem] theorem adY (m a):tD m a []=some a:=_root_.id rfl
@[go_sem] theorem acp (m a b l):tD m a (b::l)=(Em m a b).bind fun c=>tD m c l:=_root_.id rfl
@[go_sem] theorem aic (k k' x y):Em true (.v (.int k x)) (.v (.int k' y))=some (.v (.int k (if y < x then y else x))):=_root_.id rfl
@[go_sem] theorem aid (k k' x y):Em false (.v (.int k x)) (.v (.int k' y))=some (.v (.int k (if x < y then y else x))):=_root_.id rfl
@[go_sem] theorem adZ (m a b):II m 0 (.v (.bool a)) (.v (.bool b))=some (B (m != (a == b))):=_root_.id rfl
@[go_sem] theorem acq (z):nV z []=some z:=_root_.id rfl
@[go_sem] theorem aax (z o k a ps):nV z ((o,k,a)::ps)=(dB a).bind fun cs=>if cs.length=k∧o+k≤z.length then nV (setRow z o cs) ps else none:=_root_.id rfl
@[go_sem] theorem acr (cs):dB (.agg cs)=some cs:=_root_.id rfl
@[go_sem] theorem aie (x):dB (.v x)=some [.v x]:=_root_.id rfl
@[go_sem] theorem acs:dB .emp=some [.emp]:=_root_.id rfl
@[go_sem] theorem ad0 (k r):dB (.sl k r)=some [.sl k r]:=_root_.id rfl
@[go_sem] theorem act (a b c d e):dB (.rsl a b c d e)=some [.rsl a b c d e]:=_root_.id rfl
@[go_sem] theorem acu (a b c d e):dB (.ref a b c d e)=some [.ref a b c d e]:=_root_.id rfl
@[go_sem] theorem ad1 (f a b):dB (.fn f a b)=some [.fn f a b]:=_root_.id rfl
@[go_sem] theorem aay (r j):setRow r j []=r:=_root_.id rfl
@[go_sem] theorem ZE (r j c cs):setRow r j (c::cs)=setRow (r.set j c) (j+1) cs:=_root_.id rfl
@[go_sem] theorem ad2 (h k g cs):dZ h k g (.ipt cs)=(iI k g cs 0).map fun a=>(a,h,[]):=_root_.id rfl
@[go_sem] theorem ad3 (h k g id k0 i j):dZ h k g (.ref id none k0 i j)=pI h k g id k0 i j (h id):=_root_.id rfl
@[go_sem] theorem ad4 (h k g id p k0 i j):dZ h k g (.ref id (some p) k0 i j)=kC h k g k0 i j (pd p (h id)):=_root_.id rfl
@[go_sem] theorem ad5 (h k g id k0 i j cs):pI h k g id k0 i j (.bx cs)=vm h id (i*k0+j) k g cs:=_root_.id rfl
@[go_sem] theorem ad6 (h k g id k0 i j k' rows):pI h k g id k0 i j (.ar k' rows)=kC h k g k0 i j (some (k',rows)):=_root_.id rfl
@[go_sem] theorem ad7 (h k g id k0 i j k' rows):pI h k g id k0 i j (.fz k' rows)=kC h k g k0 i j (some (k',rows)):=_root_.id rfl
@[go_sem] theorem aaz (h id p k cs):vm h id p k false cs=(cs[p]?).map fun c=>(pH id p c,h,[]):=_root_.id rfl
@[go_sem] theorem acv (h id p k cs):vm h id p k true cs=if p+k≤cs.length then (if ((cs.drop p).take k).any aR then some (.agg (((cs.map iz).drop p).take k),upd h id (.bx (cs.map iz)),[(id,true)]) else some (.agg ((cs.drop p).take k),h,[])) else none:=_root_.id rfl
@[go_sem] theorem aif (id p x):pH id p (.v x) = .v x:=_root_.id rfl
@[go_sem] theorem acw (id p):pH id p .emp = .emp:=_root_.id rfl
@[go_sem] theorem ad8 (id p k r):pH id p (.sl k r) = .sl k r:=_root_.id rfl
@[go_sem] theorem acx (id p a b c d e):pH id p (.ref a b c d e) = .ref a b c d e:=_root_.id rfl
@[go_sem] theorem ad9 (id p f a b):pH id p (.fn f a b) = .fn f a b:=_root_.id rfl
@[go_sem] theorem acy (id p k r):pH id p (.osl k r) = .rsl id (some p) k 0 r.length:=_root_.id rfl
@[go_sem] theorem aaA (h k g i j k' rows):kC h k g k' i j (some (k',rows))=(rows[i]?).bind fun row=>(iI k g row j).map fun a=>(a,h,[]):=by simp [kC]
@[go_sem] theorem aig (x):aR (.v x)=false:=_root_.id rfl
@[go_sem] theorem acz:aR .emp=false:=_root_.id rfl
@[go_sem] theorem aea (k r):aR (.sl k r)=false:=_root_.id rfl
@[go_sem] theorem acA (k r):aR (.osl k r)=true:=_root_.id rfl
@[go_sem] theorem acB (a b c d e):aR (.ref a b c d e)=false:=_root_.id rfl
@[go_sem] theorem aeb (f a b):aR (.fn f a b)=false:=_root_.id rfl
@[go_sem] theorem aka (x):aD (.v x)=true:=_root_.id rfl
@[go_sem] theorem aec:aD .emp=true:=_root_.id rfl
@[go_sem] theorem aih (k r):aD (.sl k r)=true:=_root_.id rfl
@[go_sem] theorem aed (a b c d e):aD (.rsl a b c d e)=false:=_root_.id rfl
@[go_sem] theorem aee (a b c d e):aD (.ref a b c d e)=false:=_root_.id rfl
@[go_sem] theorem aef (f):aD (.fn f [] [])=true:=_root_.id rfl
@[go_sem] theorem aii (cs):dat (.agg cs)=cs.all aD:=_root_.id rfl
@[go_sem] theorem amA (x):dat (.v x)=true:=_root_.id rfl
@[go_sem] theorem aij:dat .emp=true:=_root_.id rfl
@[go_sem] theorem akb (k r):dat (.sl k r)=true:=_root_.id rfl
@[go_sem] theorem aik (a b c d e):dat (.rsl a b c d e)=false:=_root_.id rfl
@[go_sem] theorem ail (a b c d e):dat (.ref a b c d e)=false:=_root_.id rfl
@[go_sem] theorem aim (f):dat (.fn f [] [])=true:=_root_.id rfl
@[go_sem] theorem aeg (h d cs ks):fY h d cs ks=rO h d (.ref d none 0 0 0) (.bx cs) ks (h d):=_root_.id rfl
@[go_sem] theorem acC (h d a o ks):rO h d a o ks .dead=some (a,upd h d o,ks):=_root_.id rfl
@[go_sem] theorem aaB (h d k rows n ks):dy h d k rows n ks=rO h d (.rsl d none k 0 n) (.ar k rows) ks (h d):=_root_.id rfl
@[go_sem] theorem akc (h d k x):rP h d k x=(dB x).bind fun xs=>if xs.length=k then (if xs.all aD then fY h d xs [] else (fY h d (List.replicate k .any) []).bind (Tt d 0 xs)) else none:=_root_.id rfl
@[go_sem] theorem XX (k h rows):cV k h rows []=some (rows,h,[]):=_root_.id rfl
@[go_sem] theorem Xj (k h rows i a ps):cV k h rows ((i,a)::ps)=(dB a).bind fun cs=>if cs.length=k∧i < rows.length then (dI h cs).bind fun q=>(cV k q.2.1 (rows.set i q.1) ps).bind fun r=>some (r.1,r.2.1,q.2.2++r.2.2) else none:=_root_.id rfl
@[go_sem] theorem acD (h):dI h []=some ([],h,[]):=_root_.id rfl
@[go_sem] theorem aaC (h a l):dI h (a::l)=(fv h a).bind fun p=>(dI p.2.1 l).bind fun q=>some (p.1::q.1,q.2.1,p.2.2++q.2.2):=_root_.id rfl
@[go_sem] theorem akd (h x):fv h (.v x)=some (.v x,h,[]):=_root_.id rfl
@[go_sem] theorem aeh (h):fv h .emp=some (.emp,h,[]):=_root_.id rfl
@[go_sem] theorem ain (h k r):fv h (.sl k r)=some (.sl k r,h,[]):=_root_.id rfl
@[go_sem] theorem aio (h f):fv h (.fn f [] [])=some (.fn f [] [],h,[]):=_root_.id rfl
@[go_sem] theorem aei (h id k lo n):fv h (.rsl id none k lo n)=my h id k lo n (h id):=_root_.id rfl
@[go_sem] theorem acE (h id p k lo n):fv h (.rsl id (some p) k lo n)=xu h id p k lo n (h id):=_root_.id rfl
@[go_sem] theorem aip (h id k lo n rows):my h id k lo n (.ar k rows)=if lo+n≤rows.length then some (kr k lo n rows,upd h id (.fz k rows),[]) else none:=by simp [my]
@[go_sem] theorem aiq (h id k lo n rows):my h id k lo n (.fz k rows)=if lo+n≤rows.length then some (kr k lo n rows,h,[]) else none:=by simp [my]
@[go_sem] theorem air (k lo n rows):kr k lo n rows = .sl k ((rows.drop lo).take n):=_root_.id rfl
@[go_sem] theorem acF (h k id k0 i j x):fX h k (.ref id none k0 i j) x=(dB x).bind fun xs=>if xs.length=k then tF h k id k0 i j xs (h id) else none:=_root_.id rfl
@[go_sem] theorem acG (h k id p k0 i j x):fX h k (.ref id (some p) k0 i j) x=(dB x).bind fun xs=>if xs.length=k then (dI h xs).bind fun q=>Cr q.2.1 k id p k0 i j q.1 q.2.2 (q.2.1 id) else none:=_root_.id rfl
@[go_sem] theorem ais (h k id k0 i j xs cs):tF h k id k0 i j xs (.bx cs)=En h id (i*k0+j) k xs cs:=_root_.id rfl
@[go_sem] theorem ait (h k id k0 i j xs k' rows):tF h k id k0 i j xs (.ar k' rows)=(dI h xs).bind fun q=>Eo q.2.1 id k k0 i j q.1 q.2.2 (q.2.1 id):=_root_.id rfl
@[go_sem] theorem aiu (h id k k0 i j xs ks k' rows):Eo h id k k0 i j xs ks (.ar k' rows)=(AM k k0 i j xs k' rows).map fun q=>(.und,upd h id (.ar k' q),ks):=_root_.id rfl
@[go_sem] theorem aiv (k k0 i j cs rows):AM k k0 i j cs k0 rows=(rows[i]?).bind fun row=>if j+k≤row.length then some (rows.set i (setRow row j cs)) else none:=by simp [AM]
@[go_sem] theorem aiw (h id p k xs cs):En h id p k xs cs=if p+k≤cs.length then (if xs.all aD then some (.und,upd h id (.bx (setRow cs p xs)),if ((cs.drop p).take k).any aR then [(id,true)] else []) else (pX h id p xs.length xs).map fun q=>(.und,q.1,q.2)) else none:=_root_.id rfl
@[go_sem] theorem aix (hs x):dJ hs (.v x) = .v x:=_root_.id rfl
@[go_sem] theorem acH (hs):dJ hs .emp = .emp:=_root_.id rfl
@[go_sem] theorem aej (hs k r):dJ hs (.sl k r) = .sl k r:=_root_.id rfl
@[go_sem] theorem acI (hs):dJ hs .any = .any:=_root_.id rfl
@[go_sem] theorem acJ (hs cs):dJ hs (.ipt cs) = .ipt cs:=_root_.id rfl
@[go_sem] theorem acK (hs id sub k lo n):dJ hs (.rsl id sub k lo n)=if hs.contains id then .rsl id sub k lo n else .any:=_root_.id rfl
@[go_sem] theorem acL (hs id sub k lo n):dJ hs (.ref id sub k lo n)=if hs.contains id then .ref id sub k lo n else .any:=_root_.id rfl
@[go_sem] theorem acM (hs cs):dJ hs (.agg cs)=if cs.all (knownL hs) then .agg cs else .any:=_root_.id rfl
@[go_sem] theorem acN (hs f):dJ hs (.fn f [] []) = .fn f [] []:=_root_.id rfl
@[go_sem] theorem aek (hs f a b):dJ hs (.fn f a b)=if a.all (knownL hs) && b.all (knownL hs) then .fn f a b else .any:=_root_.id rfl
@[go_sem] theorem ael (hs x):knownL hs (.v x)=true:=_root_.id rfl
@[go_sem] theorem aaD (hs):knownL hs .emp=true:=_root_.id rfl
@[go_sem] theorem acO (hs k r):knownL hs (.sl k r)=true:=_root_.id rfl
@[go_sem] theorem aaE (hs id a b c d):knownL hs (.ref id a b c d)=hs.contains id:=_root_.id rfl
@[go_sem] theorem XY (hs):bh hs .dead=true:=_root_.id rfl
@[go_sem] theorem aaF (hs k r):bh hs (.ar k r)=true:=_root_.id rfl
@[go_sem] theorem aaG (hs k r):bh hs (.fz k r)=true:=_root_.id rfl
@[go_sem] theorem aaH (hs cs):bh hs (.bx cs)=cs.all (eK hs):=_root_.id rfl
@[go_sem] theorem acP (hs x):eK hs (.v x)=true:=_root_.id rfl
@[go_sem] theorem ZF (hs):eK hs .emp=true:=_root_.id rfl
@[go_sem] theorem aaI (hs k r):eK hs (.sl k r)=true:=_root_.id rfl
@[go_sem] theorem ZG (hs k r):eK hs (.osl k r)=true:=_root_.id rfl
@[go_sem] theorem ZH (hs id a b c):eK hs (.ref id none a b c)=hs.contains id:=by simp [eK,aR,aW,bg]
@[go_sem] theorem ZI (hs f):eK hs (.fn f [] [])=true:=_root_.id rfl
@[go_sem] theorem aaJ {α β:Type} (f:α→β) (a):Option.map f (some a)=some (f a):=_root_.id rfl
@[go_sem] theorem aaK {α β:Type} (f:α→β):Option.map f none=none:=_root_.id rfl
@[go_sem] theorem ZJ {α β:Type} (f:α→Option β) (a):(some a).bind f=f a:=_root_.id rfl
@[go_sem] theorem ZK {α β:Type} (f:α→Option β):(none:Option α).bind f=none:=_root_.id rfl
@[go_sem] theorem ZL {α:Type} (a b:α):(some a).getD b=a:=_root_.id rfl
@[go_sem] theorem acQ {α:Type} (p:α→Bool):[].all p=true:=_root_.id rfl
@[go_sem] theorem aaL {α:Type} (p:α→Bool) (a l):(a::l).all p=(p a && l.all p):=_root_.id rfl
@[go_sem] theorem acR {α:Type} (p:α→Bool):[].any p=false:=_root_.id rfl
@[go_sem] theorem aaM {α:Type} (p:α→Bool) (a l):(a::l).any p=(p a || l.any p):=_root_.id rfl
@[go_sem] theorem aaN {α:Type} (a:α) (l):(a::l)[0]?=some a:=_root_.id rfl
@[go_sem] theorem aaO {α:Type} (a:α) (l) (n:Nat):(a::l)[n+1]?=l[n]?:=_root_.id rfl
@[go_sem] theorem acS {α β:Type} (f:α→β):[].map f=[]:=_root_.id rfl
@[go_sem] theorem aaP {α β:Type} (f:α→β) (a l):(a::l).map f=f a::l.map f:=_root_.id rfl
@[go_sem] theorem aem {α β:Type} (f:α→List β):[].flatMap f=[]:=_root_.id rfl
@[go_sem] theorem acT {α β:Type} (f:α→List β) (a l):(a::l).flatMap f=f a++l.flatMap f:=_root_.id rfl
@[go_sem] theorem acU {α:Type} (l:List α):l++[]=l:=List.append_nil l
@[go_sem] theorem acV {α:Type} (l:List α):[]++l=l:=_root_.id rfl
@[go_sem] theorem aaQ {α:Type} (a:α) (l r):(a::l)++r=a::(l++r):=_root_.id rfl
@[go_sem] theorem acW {α:Type}:([]:List α).length=0:=_root_.id rfl
@[go_sem] theorem aaR {α:Type} (a:α) (l):(a::l).length=l.length+1:=_root_.id rfl
@[go_sem] theorem ZM {α:Type} (l:List α):l.drop 0=l:=_root_.id rfl
@[go_sem] theorem ZN {α:Type} (a:α) (l) (n:Nat):(a::l).drop (n+1)=l.drop n:=_root_.id rfl
@[go_sem] theorem ZO {α:Type} (l:List α):l.take 0=[]:=_root_.id rfl
@[go_sem] theorem ZP {α:Type} (a:α) (l) (n:Nat):(a::l).take (n+1)=a::l.take n:=_root_.id rfl
@[go_sem] theorem XZ {α:Type} (p:α→Bool):[].filter p=[]:=_root_.id rfl
@[go_sem] theorem aaS {α:Type} (a b:α) (l):(a::l).set 0 b=b::l:=_root_.id rfl
@[go_sem] theorem aaT {α:Type} (a b:α) (l) (n:Nat):(a::l).set (n+1) b=a::l.set n b:=_root_.id rfl
@[go_sem] theorem ake {α:Type} (a:α):List.replicate 0 a=[]:=_root_.id rfl
@[go_sem] theorem akf {α:Type} (a:α):List.replicate 1 a=[a]:=_root_.id rfl
@[go_sem] theorem akg {α:Type} (a:α):List.replicate 2 a=[a,a]:=_root_.id rfl
@[go_sem] theorem akh {α:Type} (a:α):List.replicate 3 a=[a,a,a]:=_root_.id rfl
@[go_sem] theorem aki {α:Type} (a:α):List.replicate 4 a=[a,a,a,a]:=_root_.id rfl
@[go_sem] theorem akj {α:Type} (a:α):List.replicate 5 a=[a,a,a,a,a]:=_root_.id rfl
@[go_sem] theorem amK:decide True=true:=_root_.id rfl
@[go_sem] theorem amL:decide False=false:=_root_.id rfl
@[go_sem] theorem aiy (b:Bool):(true && b)=b:=_root_.id rfl
@[go_sem] theorem aiz (b:Bool):(false && b)=false:=_root_.id rfl
@[go_sem] theorem akk (b:Bool):(true || b)=true:=_root_.id rfl
@[go_sem] theorem akl (b:Bool):(false || b)=b:=_root_.id rfl
@[go_sem] theorem aiA:(!true)=false:=_root_.id rfl
@[go_sem] theorem aiB:(!false)=true:=_root_.id rfl
@[go_sem] theorem aiC (b:Bool):(b && true)=b:=Bool.and_true b
@[go_sem] theorem amM:(false=true)=False:=by simp
@[go_sem] theorem amB {α:Type} (a:α):(a=a)=True:=by simp
@[go_sem] theorem akm (p:Prop):(True∧p)=p:=by simp
@[go_sem] theorem aiD (p:Prop):(p∧True)=p:=by simp
@[go_sem] theorem akn (p:Prop):(False∧p)=False:=by simp
@[go_sem] theorem ako:(¬ False)=True:=by simp
@[go_sem] theorem akp:(¬ True)=False:=by simp
@[go_sem] theorem aen (nm rs res n t):eE nm rs res n (some (.ret,t))=rQ nm rs res n t.s t.h:=_root_.id rfl
@[go_sem] theorem ZQ (nm rs res n t):eE nm rs res n (some (.normal,t))=rQ nm rs res n t.s t.h:=_root_.id rfl
@[go_sem] theorem acX (nm rs res n s h):rQ nm rs res n s h=(nX s h res).bind fun q=>if qB nm q.2.2 then Es rs n q.2.1 q.1 else none:=_root_.id rfl
@[go_sem] theorem akq (nm:Bool):qB nm []=true:=kZ nm
@[go_sem] theorem acY (s h):nX s h []=some ([],h,[]):=_root_.id rfl
@[go_sem] theorem aiE (s h n l):nX s h (.t n::l)=(nX s h l).bind fun q=>some (IT q.2.2 (s n)::q.1,q.2.1,q.2.2):=_root_.id rfl
@[go_sem] theorem aaU (s h n k g l):nX s h (.cell n k g::l)=(dZ h k g (s n)).bind fun p=>(nX (ng p.2.2 s) p.2.1 l).bind fun q=>some (IT q.2.2 p.1::q.1,q.2.1,p.2.2++q.2.2):=_root_.id rfl
@[go_sem] theorem aeo (a):IT [] a=a:=_root_.id rfl
@[go_sem] theorem acZ (s):ng [] s=s:=_root_.id rfl
@[go_sem] theorem akr (rs h vs):Es rs 0 h vs=if iQ ((vs.flatMap bT).filter fun i => !aS i) then (qX h vs).map fun us=>(vr (bm rs us),[]) else none:=by simp [Es,bY]
@[go_sem] theorem ac0 (h):qX h []=some []:=_root_.id rfl
@[go_sem] theorem aaV (h a l):qX h (a::l)=(nj h a).bind fun b=>(qX h l).bind fun q=>some (b::q):=_root_.id rfl
@[go_sem] theorem aks (h x):nj h (.v x)=some (.v x):=_root_.id rfl
@[go_sem] theorem aep (h):nj h .emp=some .emp:=_root_.id rfl
@[go_sem] theorem aiF (h k r):nj h (.sl k r)=some (.sl k r):=_root_.id rfl
@[go_sem] theorem aeq (h cs):nj h (.agg cs)=(gl h cs).map .agg:=_root_.id rfl
@[go_sem] theorem aer (h id k lo n):nj h (.rsl id none k lo n)=if aS id then none else tG k lo n (h id):=_root_.id rfl
@[go_sem] theorem aiG (k lo n rows):tG k lo n (.ar k rows)=if lo+n≤rows.length then (if lo=0∧n=rows.length then some (.osl k rows) else some (kr k lo n rows)) else none:=by simp [tG]
@[go_sem] theorem aiH (k lo n rows):tG k lo n (.fz k rows)=if lo+n≤rows.length then some (kr k lo n rows) else none:=by simp [tG]
@[go_sem] theorem ac1 (h):gl h []=some []:=_root_.id rfl
@[go_sem] theorem aiI (h x l):gl h (.v x::l)=(gl h l).bind fun q=>some (.v x::q):=_root_.id rfl
@[go_sem] theorem ac2 (h l):gl h (.emp::l)=(gl h l).bind fun q=>some (.emp::q):=_root_.id rfl
@[go_sem] theorem aes (h k r l):gl h (.sl k r::l)=(gl h l).bind fun q=>some (.sl k r::q):=_root_.id rfl
@[go_sem] theorem ac3 (h id k lo n l):gl h (.rsl id none k lo n::l)=(gY h (.rsl id none k lo n)).bind fun b=>(qD b).bind fun c=>(gl h l).bind fun q=>some (c::q):=_root_.id rfl
@[go_sem] theorem aet (h id k lo n):gY h (.rsl id none k lo n)=if aS id then none else tG k lo n (h id):=_root_.id rfl
@[go_sem] theorem aeu (k r):qD (.osl k r)=some (.sl k r):=_root_.id rfl
@[go_sem] theorem aiJ (k r):qD (.sl k r)=some (.sl k r):=_root_.id rfl
@[go_sem] theorem aiK (a):vr [a]=a:=_root_.id rfl
@[go_sem] theorem aiL (a b l):vr (a::b::l) = .tup (a::b::l):=_root_.id rfl
@[go_sem] theorem aiM:vr [] = .tup []:=_root_.id rfl
@[go_sem] theorem ac4 (l):bm [] l=l:=by cases l <;> simp [bm]
@[go_sem] theorem aaW (s):bm s []=[]:=by cases s <;> simp [bm]
@[go_sem] theorem aaX (s ss a l):bm (s::ss) (a::l)=nrmV s a::bm ss l:=_root_.id rfl
@[go_sem] theorem TT (a):nrmV [] a=a:=by cases a <;> simp [nrmV,nrmL,cp]
@[go_sem] theorem aev (ss cs):nrmV ss (.agg cs) = .agg (cp ss cs):=_root_.id rfl
@[go_sem] theorem akt (ss x):nrmV ss (.v x) = .v x:=by
 show nrmL _ _=_
 generalize ss.headD (.o 0 [])=s
 obtain ⟨k,cs⟩:=s
 cases k <;> simp [nrmL]
@[go_sem] theorem aew (k cs ss):nrmV (.o (k+1) cs::ss) .emp = .sl k []:=by simp [nrmV,nrmL]
@[go_sem] theorem aiN (k cs ss k' rows):nrmV (.o (k+1) cs::ss) (.sl k' rows) = .sl k' (rows.map (cp cs)):=by simp [nrmV,nrmL]
@[go_sem] theorem aex (k cs ss k' rows):nrmV (.o (k+1) cs::ss) (.osl k' rows) = .sl k' (rows.map (cp cs)):=by simp [nrmV,nrmL]
@[go_sem] theorem TU (l):cp [] l=l:=by cases l <;> simp [cp]
@[go_sem] theorem ac5 (l):cp l []=[]:=by cases l <;> simp [cp]
@[go_sem] theorem ac6 (s ss a l):cp (s::ss) (a::l)=nrmL s a::cp ss l:=by simp [cp]
@[go_sem] theorem aku (cs a):nrmL (.o 0 cs) a=a:=by simp [nrmL]
@[go_sem] theorem aey (k cs):nrmL (.o (k+1) cs) .emp = .sl k []:=by simp [nrmL]
@[go_sem] theorem aiO (k cs k' rows):nrmL (.o (k+1) cs) (.sl k' rows) = .sl k' (rows.map (cp cs)):=by simp [nrmL]
@[go_sem] theorem akv (k cs x):nrmL (.o k cs) (.v x) = .v x:=by cases k <;> simp [nrmL]
@[go_sem] theorem akw (x):bT (.v x)=[]:=_root_.id rfl
@[go_sem] theorem aez:bT .emp=[]:=_root_.id rfl
@[go_sem] theorem aiP (k r):bT (.sl k r)=[]:=_root_.id rfl
@[go_sem] theorem aeA (cs):bT (.agg cs)=cs.flatMap gh:=_root_.id rfl
@[go_sem] theorem aeB (a b c d e):bT (.rsl a b c d e)=[a]:=_root_.id rfl
@[go_sem] theorem akx (x):gh (.v x)=[]:=_root_.id rfl
@[go_sem] theorem aeC:gh .emp=[]:=_root_.id rfl
@[go_sem] theorem aiQ (k r):gh (.sl k r)=[]:=_root_.id rfl
@[go_sem] theorem aeD (a b c d e):gh (.rsl a b c d e)=[a]:=_root_.id rfl
@[go_sem] theorem aaY:iQ []=true:=_root_.id rfl
@[go_sem] theorem aaZ (a):iQ [a]=true:=_root_.id rfl
@[go_sem] theorem aiR (args i):rR args i=(args[i]?).getD .any:=_root_.id rfl
@[go_sem] theorem O0:aB []=fun _ => .dead:=by funext i; simp [aB]
@[go_sem] theorem ac7 (i):aS i=decide (1000≤i∧i < 2000):=_root_.id rfl
def jz (h:ac) (d:Nat):Option (AV × List Ob)→Option R3
 | some (r,[])=>if dP r≤8∧gi h (2000+8*d) (dP r)=true∧js [] r=true then some ((mat (2000+8*d) h r).1,(mat (2000+8*d) h r).2,[]) else none
 | _=>none
theorem fI {c:AV} {ids:List Nat} {n:Nat} (hn:2000≤n) (hc:bg [] c=true∨(∃ k lo m,c = .rsl n none k lo m)∨∃ k i j,c = .ref n none k i j):ni (bR ids) c=c:=by
 have hb:bR ids n=n:=by unfold bR; rw [if_neg (by omega)]
 rcases hc with hc | ⟨k,lo,m,rfl⟩ | ⟨k,i,j,rfl⟩
 ·cases c <;> simp [bg] at hc <;> rfl
 ·simp [ni,hb]
 ·simp [ni,hb]
theorem GG {r:AV} {n:Nat} (hn:2000≤n) (h:ac) (ids:List Nat) (hr:fx [] r=true):fw (bR ids) (cJ n h r).1=(cJ n h r).1:=by
 cases r <;> simp only [fx] at hr <;> simp only [cJ]
 case osl=>simp only [fw]; exact fI hn (.inr (.inl ⟨_,_,_,rfl⟩))
 case obx=>simp only [fw]; exact fI hn (.inr (.inr ⟨_,_,_,rfl⟩))
 case agg cs =>
  simp only [aW,List.all_eq_true] at hr
  simp only [fw,AV.agg.injEq]
  exact (List.map_congr_left (g:=fun c=>c) fun c hc=>fI hn (.inl (hr c hc))).trans (List.map_id' cs)
 case fn f x y =>
  simp only [aW,Bool.and_eq_true,List.all_eq_true] at hr
  simp only [fw,AV.fn.injEq,true_and]
  exact ⟨(List.map_congr_left (g:=fun c=>c) fun c hc=>fI hn (.inl (hr.1 c hc))).trans (List.map_id' x),(List.map_congr_left (g:=fun c=>c) fun c hc=>fI hn (.inl (hr.2 c hc))).trans (List.map_id' y)⟩
 all_goals
  simp only [fw]
  exact fI hn (.inl hr)
theorem GH (ids:List Nat):∀ {l:List AV} {n:Nat} {h:ac},2000≤n→l.all (fx [])=true→(bu n h l).1.map (fw (bR ids))=(bu n h l).1
 | [],n,h,_,_=>rfl
 | c::l,n,h,hn,hr=>by
  simp only [List.all_cons,Bool.and_eq_true] at hr
  simp only [bu,List.map_cons]
  rw [GG hn h ids hr.1,GH ids (by omega) hr.2]
theorem TV {r:AV} {n:Nat} (hn:2000≤n) (h:ac) (ids:List Nat) (hr:js [] r=true):Tw (bR ids) (mat n h r).1=(mat n h r).1:=by
 cases r with
 | tup vs =>
  simp only [js] at hr
  simp only [mat,Tw,AV.tup.injEq]
  exact GH ids hn hr
 | _ =>
  simp only [js] at hr
  have:=GG hn h ids hr
  simp only [mat]
  simp only [cJ] at this ⊢
  exact this
theorem GI:∀ l:List AV,vo [] l=[]
 | []=>rfl
 | a::l=>by simp [vo,GI l]
theorem te {f:FuncId} {args:List AV} (d:Nat) (hm:md.m f=[]) (hd:args.all dat=true):d7 call md h d args (.fn f [] [])=jz h d (call f (bm (md.sh f) args) []):=by
 have hin:ef h [] args=some (args,h,[]):=by
  have:∀ (l:List AV),l.all dat=true→ef h [] l=some (l,h,[]):=by
   intro l
   induction l with
   | nil=>intro _; rfl
   | cons a l ih =>
    intro hd
    simp only [List.all_cons,Bool.and_eq_true] at hd
    have ha:cR h 0 a=some (a,h,[]):=by
     have h1:=hd.1
     by_cases hagg:∃ cs,a = .agg cs
     ·obtain ⟨cs,rfl⟩:=hagg
      simp only [dat] at h1
      simp only [cR,rN]
      rw [ii h1 h]
      rfl
     ·have h2:aD a=true:=by cases a <;> first | exact h1 | exact absurd ⟨_,rfl⟩ hagg
      cases a <;> first | (simp [aD] at h2; done) | rfl | skip
    simp only [ef,List.headD_nil,ha,Option.bind_some,List.tail_nil,ih hd.2,List.append_nil]
  exact this args hd
 have hids:args.flatMap bT=[]:=by
  rw [List.flatMap_eq_nil_iff]
  exact fun c hc=>I6 (List.all_eq_true.1 hd c hc)
 have hren:(bm (md.sh f) args).map (fw (bt []))=bm (md.sh f) args∧(bm (md.sh f) args).all (aW [])=true:=by
  have key:∀ c ∈ bm (md.sh f) args,dat c=true:=by
   intro c hc
   obtain ⟨i,hi⟩:=List.getElem?_of_mem hc
   obtain ⟨c0,h1,h2⟩:=qc _ _ _ _ hi
   have h0:=List.all_eq_true.1 hd c0 (List.mem_of_getElem? h1)
   rcases h2 with rfl | ⟨ss,rfl⟩
   ·exact h0
   ·cases c0 <;> simp only [dat] at h0 <;> simp only [nrmV,dat] <;> try (have:=rY (s:=ss.headD (.o 0 [])) h0; revert this; generalize nrmL _ _=q; intro this; cases q <;> first | exact this | simp [aD] at this)
    rename_i cs
    rw [List.all_eq_true]
    intro c hc
    obtain ⟨i,hi⟩:=List.getElem?_of_mem hc
    obtain ⟨c0,h1,h2⟩:=rX _ _ _ _ hi
    have h3:=List.all_eq_true.1 h0 c0 (List.mem_of_getElem? h1)
    rcases h2 with rfl | ⟨s,rfl⟩
    ·exact h3
    ·exact rY h3
  refine ⟨(List.map_congr_left (g:=fun c=>c) fun c hc => ?_).trans (List.map_id' _),?_⟩
  ·have:=key c hc
   cases c <;> simp only [dat] at this <;> first | rfl | skip
   all_goals first
    | (simp [aD] at this; done)
    | skip
   ·rename_i cs
    simp only [fw,AV.agg.injEq]
    refine (List.map_congr_left (g:=fun c=>c) fun c hc => ?_).trans (List.map_id' cs)
    have h3:=List.all_eq_true.1 this c hc
    cases c <;> simp [aD] at h3 <;> rfl
   ·rename_i g x y
    simp [aD] at this
    obtain ⟨rfl,rfl⟩:=this
    rfl
  ·rw [List.all_eq_true]
   intro c hc
   have:=key c hc
   cases c <;> simp only [dat] at this <;> first | rfl | skip
   all_goals first
    | (simp [aD] at this; done)
    | skip
   ·rename_i cs
    simp only [aW,List.all_eq_true]
    intro c hc
    have h3:=List.all_eq_true.1 this c hc
    cases c <;> simp [aD] at h3 <;> simp [bg,h3]
   ·rename_i g x y
    simp [aD] at this
    obtain ⟨rfl,rfl⟩:=this
    rfl
 simp only [d7,hm,List.nil_append,List.append_nil,hin,Option.bind_some,hids,dD,Gw,s4,hren.2,List.all_nil,Bool.and_self,if_true,hren.1,List.map_nil,GI]
 cases hr:call f (bm (md.sh f) args) [] with
 | none=>rfl
 | some q =>
  obtain ⟨r,os⟩:=q
  cases os with
  | cons o os=>simp only [Option.bind_some,lJ,jz]; simp
  | nil =>
   simp only [Option.bind_some,lJ,jz,List.length_nil,Nat.zero_le,true_and,lI,Ol,XF,List.all_nil,Bool.true_and,Bool.and_true,z9,bY,List.range'_zero,d6,gV]
   by_cases hc:dP r≤8∧gi h (2000+8*d) (dP r)=true∧js [] r=true
   ·rw [if_pos hc,if_pos hc,TV (by omega) h [] hc.2.2]
    simp
   ·rw [if_neg hc,if_neg hc]
def O1 (call:eH) (md:Mode) (d:Nat) (f:FuncId) (p:List AV × ac × K):Option R3 :=
 s4 call md p.2.1 d f (eF p.2.1 40 (dD [] (p.1.flatMap bT)) 0) (bm (md.sh f) p.1) p.2.2
theorem Js {f:FuncId} {args:List AV} (d:Nat) (hm:md.m f=[]):d7 call md h d args (.fn f [] [])=(ef h [] args).bind (O1 call md d f):=by
 simp only [d7,hm,List.nil_append,List.append_nil]
 rfl
@[go_sem] theorem ac8 {f:FuncId} {zs:List AV} (d:Nat) (hm:md.m f=[]) (hd:zs.all dat=true):O1 call md d f (zs,h,[])=jz h d (call f (bm (md.sh f) zs) []):=by
 rw [← te d hm hd,Js d hm]
 have hin:∀ (l:List AV),l.all dat=true→ef h [] l=some (l,h,[]):=by
  intro l
  induction l with
  | nil=>intro _; rfl
  | cons a l ih =>
   intro hd
   simp only [List.all_cons,Bool.and_eq_true] at hd
   have ha:cR h 0 a=some (a,h,[]):=by
    have h1:=hd.1
    by_cases hagg:∃ cs,a = .agg cs
    ·obtain ⟨cs,rfl⟩:=hagg
     simp only [dat] at h1
     simp only [cR,rN]
     rw [ii h1 h]
     rfl
    ·have h2:aD a=true:=by cases a <;> first | exact h1 | exact absurd ⟨_,rfl⟩ hagg
     cases a <;> first | (simp [aD] at h2; done) | rfl | skip
   simp only [ef,List.headD_nil,ha,Option.bind_some,List.tail_nil,ih hd.2,List.append_nil]
 rw [hin zs hd]
 rfl
@[go_sem] theorem aa0 (h):ef h [] []=some ([],h,[]):=_root_.id rfl
@[go_sem] theorem ZR (h a l):ef h [] (a::l)=(cR h 0 a).bind fun p=>(ef p.2.1 [] l).bind fun q=>some (p.1::q.1,q.2.1,p.2.2++q.2.2):=_root_.id rfl
@[go_sem] theorem aiS (h x):cR h 0 (.v x)=some (.v x,h,[]):=_root_.id rfl
@[go_sem] theorem ac9 (h):cR h 0 .emp=some (.emp,h,[]):=_root_.id rfl
@[go_sem] theorem aeE (h k r):cR h 0 (.sl k r)=some (.sl k r,h,[]):=_root_.id rfl
@[go_sem] theorem aeF (h f a b):cR h 0 (.fn f a b)=some (.fn f a b,h,[]):=_root_.id rfl
@[go_sem] theorem ada (h a b c d):cR h 0 (.ref a none b c d)=some (.ref a none b c d,h,[]):=_root_.id rfl
@[go_sem] theorem adb (h cs):cR h 0 (.ipt cs)=some (.ipt cs,h,[]):=_root_.id rfl
@[go_sem] theorem adc (h id k lo n):cR h 0 (.rsl id none k lo n)=my h id k lo n (h id):=_root_.id rfl
@[go_sem] theorem aa1 (h id p k lo n):cR h 0 (.rsl id (some p) k lo n)=xu h id p k lo n (h id):=_root_.id rfl
@[go_sem] theorem ade (h cs):cR h 0 (.agg cs)=(dI h cs).bind fun p=>some (.agg p.1,p.2):=_root_.id rfl
@[go_sem] theorem aiT (h d x):jz h d (some (.v x,[]))=if gi h (2000+8*d) 1=true then some (.v x,h,[]) else none:=by
 simp [jz,dP,js,fx,aW,bg,mat,cJ]
@[go_sem] theorem TW (h d k r):jz h d (some (.sl k r,[]))=if gi h (2000+8*d) 1=true then some (.sl k r,h,[]) else none:=by
 simp [jz,dP,js,fx,aW,bg,mat,cJ]
@[go_sem] theorem adf (h d cs) (hd:cs.all aD=true):jz h d (some (.agg cs,[]))=if gi h (2000+8*d) 1=true then some (.agg cs,h,[]) else none:=by
 have:cs.all (bg [])=true:=by
  rw [List.all_eq_true] at hd ⊢
  intro c hc
  have:=hd c hc
  cases c <;> simp [aD] at this <;> simp [bg,this]
 simp only [jz,dP,js,fx,aW,mat,cJ,this,and_true]
 simp
@[go_sem] theorem adg (h d vs) (h8:vs.length≤8) (hd:vs.all dat=true):jz h d (some (.tup vs,[]))=if gi h (2000+8*d) vs.length=true then some (.tup vs,h,[]) else none:=by
 have h1:vs.all (fx [])=true:=by
  rw [List.all_eq_true] at hd ⊢
  intro c hc
  have:=hd c hc
  cases c <;> simp only [dat] at this <;> simp only [fx,aW] <;> try (simp [aD] at this <;> simp [bg,this]; done)
  rename_i cs
  rw [List.all_eq_true] at this ⊢
  intro c hc
  have:=this c hc
  cases c <;> simp [aD] at this <;> simp [bg,this]
 have h2:∀ (l:List AV) (n:Nat) (g:ac),l.all dat=true→bu n g l=(l,g):=by
  intro l
  induction l with
  | nil=>intro n g _; rfl
  | cons c l ih =>
   intro n g hd
   simp only [List.all_cons,Bool.and_eq_true] at hd
   have hc:cJ n g c=(c,g):=by
    have:=hd.1
    cases c <;> simp only [dat,aD] at this <;> first | rfl | (cases this; done)
   simp only [bu,hc,ih _ _ hd.2]
 simp only [jz,dP,js,h1,mat,h2 vs _ _ hd,h8,true_and,and_true]
@[go_sem] theorem adh (h d k r):jz h d (some (.osl k r,[]))=if gi h (2000+8*d) 1=true then some (.rsl (2000+8*d) none k 0 r.length,upd h (2000+8*d) (.ar k r),[]) else none:=by
 simp [jz,dP,js,fx,mat,cJ]
@[go_sem] theorem aa2 (h n):gi h n 0=true:=_root_.id rfl
@[go_sem] theorem aa3 (h n m):gi h n (m+1)=(nW (h n) && gi h (n+1) m):=_root_.id rfl
@[go_sem] theorem ZS:nW .dead=true:=_root_.id rfl
def bL (call:eH) (md:Mode) (ps:List (Nat × Nat)):List Fp→List COp→am→ac→Option St
 | acc,[],s,h=>if ps.all (rF acc)=true then some ⟨s,h⟩ else none
 | acc,o::rest,s,h=>(cA call md o s h).bind fun r=>bL call md ps (acc++[r.2]) rest r.1.s r.1.h
theorem Nz (ps:List (Nat × Nat)):∀ (l:List COp) (acc:List Fp) (s:am) (h:ac),bL call md ps acc l s h=(gk call md l s h).bind fun r=>if ps.all (rF (acc++r.2))=true then some r.1 else none
 | [],acc,s,h=>by simp only [bL,gk,Option.bind_some,List.append_nil]
 | o::l,acc,s,h=>by
  simp only [bL,gk]
  cases cA call md o s h with
  | none=>rfl
  | some r =>
   simp only [Option.bind_some]
   rw [Nz ps l]
   cases gk call md l r.1.s r.1.h with
   | none=>rfl
   | some q=>simp only [Option.bind_some,List.append_assoc,List.singleton_append]
@[go_sem] theorem aeG (l ps):pL call md l ps s h=bL call md ps [] l s h:=by
 rw [Nz]
 rfl
def gn (call:eH) (md:Mode) (ps:List (Nat × Nat)) (acc:List Fp) (rest:List COp) (s:am) (d:Option Nat) (f:ac→Fp):Option R3→Option St
 | some (x,h,[])=>bL call md ps (acc++[f h]) rest (dF s d x) h
 | _=>none
theorem dU (ps acc) (o:COp) (rest) (hg:o.g=none):bL call md ps acc (o::rest) s h=gn call md ps acc rest s o.d (d8 (o.d.getD 0) o.op s h) (step call md (o.d.getD 0) o.op s h):=by
 simp only [bL,cA,hg,gj]
 cases step call md (o.d.getD 0) o.op s h with
 | none=>rfl
 | some r =>
  obtain ⟨x,h',ks⟩:=r
  cases ks <;> rfl
@[go_sem] theorem aeH (ps acc):bL call md ps acc [] s h=if ps.all (rF acc)=true then some ⟨s,h⟩ else none:=_root_.id rfl
@[go_sem] theorem zi (ps acc d op rest):bL call md ps acc (co d op::rest) s h=(dC s op).bind fun a=>bL call md ps (acc++[some ([],[])]) rest (upd s d a) h:=by
 rw [dU _ _ _ _ rfl]
 simp only [co,step,vq]
 cases dC s op <;> rfl
@[go_sem] theorem aiU (ps acc d n rest):bL call md ps acc (cm d n::rest) s h=bL call md ps (acc++[some ([],[])]) rest (upd s d (s n)) h:=zi ps acc d (.mv (.t n)) rest
@[go_sem] theorem adi (ps acc d k g x rest):bL call md ps acc (⟨some d,none,.load k g x⟩::rest) s h=gn call md ps acc rest s (some d) (fun _=>kV (ev s x)) (dZ h k g (ev s x)):=dU _ _ _ _ rfl
@[go_sem] theorem aa4 (ps acc d k x y rest):bL call md ps acc (⟨d,none,.store k x y⟩::rest) s h=gn call md ps acc rest s d (fun _=>pK (ev s y) (ev s x)) (fX h k (ev s x) (ev s y)):=dU _ _ _ _ rfl
@[go_sem] theorem adj (ps acc d f as rest):bL call md ps acc (⟨some d,none,.call f as⟩::rest) s h=gn call md ps acc rest s (some d) (jV h d (pY (as.map (ev s)) (ev s f))) (d7 call md h d (as.map (ev s)) (ev s f)):=dU _ _ _ _ rfl
@[go_sem] theorem aa5 (ps acc d z rest):bL call md ps acc (⟨some d,none,.alloc z⟩::rest) s h=gn call md ps acc rest s (some d) (fun _=>some ([],[bO d])) (fY h d z []):=dU _ _ _ _ rfl
@[go_sem] theorem aeI (ps acc d k x rest):bL call md ps acc (⟨some d,none,.box k x⟩::rest) s h=gn call md ps acc rest s (some d) (fun _=>if dat (ev s x)=true then some ([],[bO d]) else none) (rP h d k (ev s x)):=dU _ _ _ _ rfl
@[go_sem] theorem X1 (ps acc d k z n qs rest):bL call md ps acc (⟨some d,none,.buildSl k z n qs⟩::rest) s h=gn call md ps acc rest s (some d) (fun _=>if (qs.all fun p=>dat (ev s p.2))=true then some ([],[bO d]) else none) ((cV k h (List.replicate n z) (qs.map fun p=>(p.1,ev s p.2))).bind fun q=>dy q.2.1 d k q.1 n q.2.2):=dU _ _ _ _ rfl
@[go_sem] theorem aiV (ps acc d op a b rest):bL call md ps acc (b2 d op a b::rest) s h=(cU op (s a) (s b)).bind fun a=>bL call md ps (acc++[some ([],[])]) rest (upd s d a) h:=zi ps acc d (.bin op (.t a) (.t b)) rest
@[go_sem] theorem aiW (ps acc d k a rest):bL call md ps acc (fa d k a::rest) s h=(pG k (s a)).bind fun a=>bL call md ps (acc++[some ([],[])]) rest (upd s d a) h:=zi ps acc d (.fadr k (.t a)) rest
@[go_sem] theorem aiX (ps acc d a rest):bL call md ps acc (nk d a::rest) s h=(xr (s a)).bind fun a=>bL call md ps (acc++[some ([],[])]) rest (upd s d a) h:=zi ps acc d (.nilck (.t a)) rest
@[go_sem] theorem aiY (ps acc d k a rest):bL call md ps acc (ld d k a::rest) s h=gn call md ps acc rest s (some d) (fun _=>kV (s a)) (dZ h k false (s a)):=dU _ _ _ _ rfl
@[go_sem] theorem aiZ (ps acc d k a rest):bL call md ps acc (la d k a::rest) s h=gn call md ps acc rest s (some d) (fun _=>kV (s a)) (dZ h k true (s a)):=dU _ _ _ _ rfl
@[go_sem] theorem ai0 (ps acc d f as rest):bL call md ps acc (ca d f as::rest) s h=gn call md ps acc rest s (some d) (jV h d (pY (as.map (ev s)) (.fn f [] []))) (d7 call md h d (as.map (ev s)) (.fn f [] [])):=dU _ _ _ _ rfl
@[go_sem] theorem ai1 (ps acc k x y rest):bL call md ps acc (sr k x y::rest) s h=gn call md ps acc rest s none (fun _=>pK (ev s y) (ev s x)) (fX h k (ev s x) (ev s y)):=dU _ _ _ _ rfl
@[go_sem] theorem ai2 (ps acc d z rest):bL call md ps acc (al d z::rest) s h=gn call md ps acc rest s (some d) (fun _=>some ([],[bO d])) (fY h d z []):=dU _ _ _ _ rfl
@[go_sem] theorem ai3 (ps acc d k x rest):bL call md ps acc (bx d k x::rest) s h=gn call md ps acc rest s (some d) (fun _=>if dat (ev s x)=true then some ([],[bO d]) else none) (rP h d k (ev s x)):=dU _ _ _ _ rfl
@[go_sem] theorem adk (ps acc rest s d f x h):gn call md ps acc rest s (some d) f (some (x,h,[]))=bL call md ps (acc++[f h]) rest (upd s d x) h:=_root_.id rfl
@[go_sem] theorem aa6 (ps acc rest s f x h):gn call md ps acc rest s none f (some (x,h,[]))=bL call md ps (acc++[f h]) rest s h:=_root_.id rfl
theorem X3 (ps acc) (o:COp) (j w rest) (hg:o.g=some (j,w)) {b:Bool} (hb:s j = .v (.bool b)):bL call md ps acc (o::rest) s h =
  if b=w then gn call md ps acc rest s o.d (d8 (o.d.getD 0) o.op s h) (step call md (o.d.getD 0) o.op s h) else bL call md ps (acc++[some ([],[])]) rest (dF s o.d .und) h:=by
 simp only [bL,cA,hg,hb,jt]
 split
 ·simp only [gj]
  cases step call md (o.d.getD 0) o.op s h with
  | none=>rfl
  | some r =>
   obtain ⟨x,h',ks⟩:=r
   cases ks <;> rfl
 ·rfl
def Jt (call:eH) (md:Mode) (ps:List (Nat × Nat)) (acc:List Fp) (rest:List COp) (s:am) (h:ac) (d:Option Nat) (w:Bool) (op:AOp):AV→Option St
 | .v (.bool b)=>if b=w then gn call md ps acc rest s d (d8 (d.getD 0) op s h) (step call md (d.getD 0) op s h) else bL call md ps (acc++[some ([],[])]) rest (dF s d .und) h
 | .und=>bL call md ps (acc++[some ([],[])]) rest (dF s d .und) h
 | _=>none
@[go_sem] theorem V0 (ps acc d j w op rest):bL call md ps acc (⟨d,some (j,w),op⟩::rest) s h=Jt call md ps acc rest s h d w op (s j):=by
 by_cases hb:∃ b,s j = .v (.bool b)
 ·obtain ⟨b,hb⟩:=hb
  rw [X3 ps acc ⟨d,some (j,w),op⟩ j w rest rfl hb,hb]
  rfl
 ·simp only [bL,cA]
  cases hq:s j <;> first | rfl | skip
  rename_i x
  cases x <;> first | rfl | exact absurd ⟨_,hq⟩ hb
@[go_sem] theorem ai4 (ps acc d j w op rest):bL call md ps acc (cg d j w op::rest) s h=Jt call md ps acc rest s h (some d) w (.p op) (s j):=V0 ps acc (some d) j w (.p op) rest
@[go_sem] theorem aky (ps acc rest s h d op):Jt call md ps acc rest s h (some d) true op (.v (.bool true))=gn call md ps acc rest s (some d) (d8 d op s h) (step call md d op s h):=_root_.id rfl
@[go_sem] theorem akz (ps acc rest s h d op):Jt call md ps acc rest s h (some d) false op (.v (.bool false))=gn call md ps acc rest s (some d) (d8 d op s h) (step call md d op s h):=_root_.id rfl
@[go_sem] theorem akA (ps acc rest s h d op):Jt call md ps acc rest s h (some d) true op (.v (.bool false))=bL call md ps (acc++[some ([],[])]) rest (upd s d .und) h:=_root_.id rfl
@[go_sem] theorem akB (ps acc rest s h d op):Jt call md ps acc rest s h (some d) false op (.v (.bool true))=bL call md ps (acc++[some ([],[])]) rest (upd s d .und) h:=_root_.id rfl
@[go_sem] theorem ai5 (ps acc rest s h d w op):Jt call md ps acc rest s h (some d) w op .und=bL call md ps (acc++[some ([],[])]) rest (upd s d .und) h:=_root_.id rfl
@[go_sem] theorem amN (d op h'):d8 d (.p op) s h h'=some ([],[]):=_root_.id rfl
@[go_sem] theorem ai6 (d k g x h'):d8 d (.load k g x) s h h'=kV (ev s x):=_root_.id rfl
@[go_sem] theorem ai7 (d f as h'):d8 d (.call f as) s h h'=jV h d (pY (as.map (ev s)) (ev s f)) h':=_root_.id rfl
@[go_sem] theorem aeJ (d z h'):d8 d (.alloc z) s h h'=some ([],[bO d]):=_root_.id rfl
@[go_sem] theorem akC (d k x h'):d8 d (.box k x) s h h'=if dat (ev s x)=true then some ([],[bO d]) else none:=_root_.id rfl
@[go_sem] theorem aa7 (cs):kV (.ipt cs)=some ([],[]):=_root_.id rfl
@[go_sem] theorem ZT (id k i j):kV (.ref id none k i j)=some ([bO id],[]):=_root_.id rfl
@[go_sem] theorem ZU (id p k i j):kV (.ref id (some p) k i j)=some ([bO id],[]):=_root_.id rfl
@[go_sem] theorem adl (y id sub k i j):pK y (.ref id sub k i j)=if dat y=true then some ([bO id],[bO id]) else none:=_root_.id rfl
@[go_sem] theorem akD (i):bO i=if i < 2000 then i else i - i % 8:=_root_.id rfl
@[go_sem] theorem adm (l f a b):pY l (.fn f a b)=a++l++b:=_root_.id rfl
@[go_sem] theorem adn (h d l h'):jV h d l h'=if l.all dat=true then some ([],[2000+8*d]) else if l.all pJ=true then some ((eF h 40 (dD [] (l.flatMap bT)) 0).map bO,(Gj h h' (eF h 40 (dD [] (l.flatMap bT)) 0)).map bO++[2000+8*d]) else none:=_root_.id rfl
@[go_sem] theorem aa8 (l i j):rF l (i,j)=(match l[i]?,l[j]? with | some a,some b=>gZ a b | _,_=>false):=_root_.id rfl
@[go_sem] theorem aeK (a b):gZ (some a) (some b)=(qC a.2 (b.1++b.2) && qC b.2 a.1):=_root_.id rfl
@[go_sem] theorem aeL (b):gZ none (some b)=(b.1.isEmpty && b.2.isEmpty):=_root_.id rfl
@[go_sem] theorem aeM (a):gZ (some a) none=(a.1.isEmpty && a.2.isEmpty):=_root_.id rfl
@[go_sem] theorem aeN (b):qC [] b=true:=_root_.id rfl
@[go_sem] theorem ado (a l b):qC (a::l) b=(!b.contains a && qC l b):=_root_.id rfl
@[go_sem] theorem aa9 (a:Nat):[].contains a=false:=_root_.id rfl
@[go_sem] theorem ZV (a b:Nat) (l:List Nat):(b::l).contains a=(a == b || l.contains a):=by rw [List.contains_cons]
@[go_sem] theorem aeO (s d x h p l):cq false s (some d) (some (x,h,p::l))=some ⟨upd (ng (p::l) s) d x,h⟩:=_root_.id rfl
@[go_sem] theorem adp (s x h p l):cq false s none (some (x,h,p::l))=some ⟨ng (p::l) s,h⟩:=_root_.id rfl
@[go_sem] theorem ai8 (p l s) (i:Nat):ng (p::l) s i=mG (p::l) (s i):=_root_.id rfl
@[go_sem] theorem amC (ks x):mG ks (.v x) = .v x:=_root_.id rfl
@[go_sem] theorem ai9 (ks):mG ks .any = .any:=_root_.id rfl
@[go_sem] theorem aja (ks):mG ks .und = .und:=_root_.id rfl
@[go_sem] theorem ajb (ks):mG ks .emp = .emp:=_root_.id rfl
@[go_sem] theorem akE (ks k r):mG ks (.sl k r) = .sl k r:=_root_.id rfl
@[go_sem] theorem ajc (ks cs):mG ks (.ipt cs) = .ipt cs:=_root_.id rfl
@[go_sem] theorem ajd (ks f):mG ks (.fn f [] []) = .fn f [] []:=_root_.id rfl
@[go_sem] theorem aje (ks id sub k lo n):mG ks (.rsl id sub k lo n)=if fu ks id sub=true then .any else .rsl id sub k lo n:=_root_.id rfl
@[go_sem] theorem ajf (ks id sub k lo n):mG ks (.ref id sub k lo n)=if fu ks id sub=true then .any else .ref id sub k lo n:=_root_.id rfl
@[go_sem] theorem ajg (ks cs):mG ks (.agg cs)=if cs.any (kq ks)=true then .any else .agg cs:=_root_.id rfl
@[go_sem] theorem akF (ks f a b):mG ks (.fn f a b)=if (a.any (kq ks) || b.any (kq ks))=true then .any else .fn f a b:=_root_.id rfl
@[go_sem] theorem ajh (ks vs):mG ks (.tup vs)=if vs.any (tE ks)=true then .any else .tup vs:=_root_.id rfl
@[go_sem] theorem akG (ks x):tE ks (.v x)=false:=_root_.id rfl
@[go_sem] theorem aji (ks k r):tE ks (.sl k r)=false:=_root_.id rfl
@[go_sem] theorem akH (ks x):kq ks (.v x)=false:=_root_.id rfl
@[go_sem] theorem aeP (ks):kq ks .emp=false:=_root_.id rfl
@[go_sem] theorem ajj (ks k r):kq ks (.sl k r)=false:=_root_.id rfl
@[go_sem] theorem aeQ (ks id sub k i j):kq ks (.ref id sub k i j)=fu ks id sub:=_root_.id rfl
@[go_sem] theorem aeR (id sub):fu [] id sub=false:=_root_.id rfl
@[go_sem] theorem aeS (a:Nat) (b:Bool) (l:K) (id:Nat) (sub:Option Nat):fu ((a,b)::l) id sub=((a == id && (!b || sub.isSome)) || fu l id sub):=by simp [fu]
@[go_sem] theorem X4 {α:Type}:(none:Option α).isSome=false:=_root_.id rfl
@[go_sem] theorem X5 {α:Type} (a:α):(some a).isSome=true:=_root_.id rfl
@[go_sem] theorem akI (h d k b x y):IN h d k b x y=(mV h k y).bind fun ys=>match x with
 | .emp=>if ys.length*b≤140737488355328 then Ep h d k ys else none
 | .rsl id none k' lo n=>IM h k b id k' lo n ys (h id)
 | .rsl id (some p) k' lo n=>Tu h d k b id p k' lo n ys (h id)
 | _=>none:=_root_.id rfl
@[go_sem] theorem adq (h k):mV h k .emp=some []:=_root_.id rfl
@[go_sem] theorem TY (h k r):mV h k (.sl k r)=some r:=by simp [mV]
@[go_sem] theorem adr (h k id sub lo n):mV h k (.rsl id sub k lo n)=rD k lo n (xv h id sub):=by simp [mV]
@[go_sem] theorem ZW (h id):xv h id none=uo (h id):=_root_.id rfl
@[go_sem] theorem ads (k r):uo (.ar k r)=some (k,r):=_root_.id rfl
@[go_sem] theorem adt (k r):uo (.fz k r)=some (k,r):=_root_.id rfl
@[go_sem] theorem X6 (k lo n r):rD k lo n (some (k,r))=if lo+n≤r.length then some ((r.drop lo).take n) else none:=by simp [rD]
@[go_sem] theorem ajk (h k b id lo n ys r):IM h k b id k lo n ys (.ar k r)=if lo=0∧n=r.length∧(id < 1000∨2000≤id)∧(n+ys.length)*b≤140737488355328 then
   some (.rsl id none k 0 (n+ys.length),upd h id (.ar k (r++ys)),[(id,false)]) else none:=by simp [IM]
@[go_sem] theorem aeT (h d k):Ep h d k []=some (.emp,h,[]):=_root_.id rfl
@[go_sem] theorem adu (h d k y ys):Ep h d k (y::ys)=dy h d k (y::ys) (ys.length+1) []:=_root_.id rfl
end
def ww (c1 c2:eH):Prop:=∀ f a hs r,c1 f a hs=some r→c2 f a hs=some r
section
variable {c1 c2:eH} {md:Mode}
theorem O2 (hc:ww c1 c2) {h:ac} {d:Nat} {as:List AV} {f:AV} {r:R3} (hz:d7 c1 md h d as f=some r):d7 c2 md h d as f=some r:=by
 cases f <;> simp only [d7] at hz ⊢ <;> try (cases hz; done)
 simp only [Option.bind_eq_some_iff] at hz ⊢
 obtain ⟨p,e1,e2⟩:=hz
 unfold s4 at e2 ⊢
 split at e2
 ·rename_i hcc
  simp only [Option.bind_eq_some_iff] at e2
  obtain ⟨q,e3,e4⟩:=e2
  refine ⟨p,e1,?_⟩
  rw [if_pos hcc]
  simp only [Option.bind_eq_some_iff]
  exact ⟨q,hc _ _ _ _ e3,e4⟩
 ·cases e2
theorem GJ (hc:ww c1 c2) {d:Nat} {op:AOp} {s:am} {h:ac} {r:R3} (hz:step c1 md d op s h=some r):step c2 md d op s h=some r:=by
 cases op with
 | call f as=>exact O2 hc hz
 | _=>exact hz
theorem GK (hc:ww c1 c2) {d:Option Nat} {op:AOp} {s:am} {h:ac} {t:St} (hz:cq md.nm s d (step c1 md (d.getD 0) op s h)=some t):cq md.nm s d (step c2 md (d.getD 0) op s h)=some t:=by
 cases hs:step c1 md (d.getD 0) op s h with
 | none=>rw [hs] at hz; cases hz
 | some r =>
  rw [hs] at hz
  rw [GJ hc hs]
  exact hz
theorem O3 (hc:ww c1 c2) {o:COp} {s:am} {h:ac} {t:St} (hz:lK c1 md o s h=some t):lK c2 md o s h=some t:=by
 unfold lK at hz ⊢
 cases hg:o.g with
 | none=>rw [hg] at hz; exact GK hc hz
 | some g =>
  rw [hg] at hz
  simp only at hz ⊢
  unfold gu at hz ⊢
  split at hz
  ·split at hz
   ·rename_i hb
    simp only [if_pos hb]
    exact GK hc hz
   ·rename_i hb
    simp only [if_neg hb]
    exact hz
  ·exact hz
  ·cases hz
theorem xQ (hc:ww c1 c2):∀ {l:List COp} {s:am} {h:ac} {t:St},aH c1 md l s h=some t→aH c2 md l s h=some t
 | [],s,h,t,hz=>hz
 | o::l,s,h,t,hz=>by
  simp only [aH,bc] at hz
  split at hz
  ·cases hz
  ·rename_i t1 ht1
   simp only [aH,bc,O3 hc ht1,xQ hc hz]
theorem CR (hc:ww c1 c2) {d:Option Nat} {op:AOp} {s:am} {h:ac} {f:ac→Fp} {t:St × Fp} (hz:gj s d f (step c1 md (d.getD 0) op s h)=some t):gj s d f (step c2 md (d.getD 0) op s h)=some t:=by
 cases hs:step c1 md (d.getD 0) op s h with
 | none=>rw [hs] at hz; cases hz
 | some r =>
  rw [hs] at hz
  rw [GJ hc hs]
  exact hz
theorem O4 (hc:ww c1 c2) {o:COp} {s:am} {h:ac} {t:St × Fp} (hz:cA c1 md o s h=some t):cA c2 md o s h=some t:=by
 unfold cA at hz ⊢
 cases hg:o.g with
 | none=>rw [hg] at hz; exact CR hc hz
 | some g =>
  rw [hg] at hz
  simp only at hz ⊢
  unfold jt at hz ⊢
  split at hz
  ·split at hz
   ·rename_i hb
    simp only [if_pos hb]
    exact CR hc hz
   ·rename_i hb
    simp only [if_neg hb]
    exact hz
  ·exact hz
  ·cases hz
theorem GL (hc:ww c1 c2):∀ {l:List COp} {s:am} {h:ac} {t:St × List Fp},gk c1 md l s h=some t→gk c2 md l s h=some t
 | [],s,h,t,hz=>hz
 | o::l,s,h,t,hz=>by
  simp only [gk,Option.bind_eq_some_iff] at hz
  obtain ⟨r,e1,q,e2,e3⟩:=hz
  simp only [gk,O4 hc e1,GL hc e2,Option.bind_some,e3]
theorem xR {b1 b2:am→ac→Option (Ex × St)} {ks hs:List Nat} (ih:∀ {s:am} {h:ac} {r:Ex × St},b1 s h=some r→b2 s h=some r) :
  ∀ (m:Nat) {j:Nat},m≤j→∀ {s:am} {h:ac} {r:Ex × St},kt b1 ks hs m s h=some r→kt b2 ks hs j s h=some r
 | 0,j,hj,s,h,r,hz=>by simp [kt] at hz
 | m+1,j,hj,s,h,r,hz=>by
  obtain ⟨j,rfl⟩:∃ j',j=j'+1:=⟨j - 1,by omega⟩
  simp only [kt] at hz ⊢
  split at hz
  ·rename_i hc
   rw [if_pos hc]
   cases hb:b1 (mk .any (fun i=>dJ hs (s i)) ks) (mk .dead h hs) with
   | none=>rw [hb] at hz; cases hz
   | some q =>
    rw [hb] at hz
    rw [ih hb]
    obtain ⟨ex,t⟩:=q
    cases ex with
    | normal=>exact xR ih m (by omega) hz
    | exit id=>exact hz
    | ret=>exact hz
  ·cases hz
theorem dV (hc:ww c1 c2) {lf lf':Nat} (hl:lf≤lf'):∀ (c:Cmd) {s:am} {h:ac} {r:Ex × St},bi c1 md lf c s h=some r→bi c2 md lf' c s h=some r
 | .skip,s,h,r,hz=>hz
 | .ops ks l,s,h,r,hz=>by
  simp only [bi,bc] at hz
  split at hz
  ·cases hz
  ·rename_i t1 ht1
   simp only [bi,xQ hc ht1,bc]
   exact hz
 | .dops ks l ps,s,h,r,hz=>by
  simp only [bi,bc] at hz
  split at hz
  ·cases hz
  ·rename_i t1 ht1
   simp only [pL,Option.bind_eq_some_iff] at ht1
   obtain ⟨q,e1,e2⟩:=ht1
   simp only [bi,pL,GL hc e1,Option.bind_some,e2,bc]
   exact hz
 | .seq a b,s,h,r,hz=>by
  simp only [bi,bo] at hz
  split at hz
  ·cases hz
  ·rename_i t1 ht1
   simp only [bi,bo,dV hc hl a ht1,dV hc hl b hz]
  ·rename_i i t1 ht1
   simp only [bi,bo,dV hc hl a ht1]
   exact hz
  ·rename_i t1 ht1
   simp only [bi,bo,dV hc hl a ht1]
   exact hz
 | .cond c a b,s,h,r,hz=>by
  simp only [bi,ju] at hz
  split at hz
  ·rename_i t ht
   cases t with
   | true=>simp only [bi,ju,ht,if_true]; exact dV hc hl a hz
   | false=>simp only [bi,ju,ht,Bool.false_eq_true,if_false]; exact dV hc hl b hz
  ·cases hz
 | .block id ks a,s,h,r,hz=>by
  simp only [bi,au] at hz
  split at hz
  ·cases hz
  ·rename_i t1 ht1
   simp only [bi,au,dV hc hl a ht1]
   exact hz
  ·rename_i i t1 ht1
   simp only [bi,au,dV hc hl a ht1]
   exact hz
  ·rename_i t1 ht1
   simp only [bi,au,dV hc hl a ht1]
   exact hz
 | .loop ks hs a,s,h,r,hz=>by
  simp only [bi] at hz ⊢
  exact xR (fun hh=>dV hc hl a hh) lf hl hz
 | .exit id,s,h,r,hz=>hz
 | .ret,s,h,r,hz=>hz
 | .frz is a,s,h,r,hz=>by
  simp only [bi,bc] at hz
  split at hz
  ·cases hz
  ·rename_i t1 ht1
   simp only [bi,bc,ht1]
   exact dV hc hl a hz
end
theorem GM (e:Env):∀ (n:Nat),ww (cr e n) (cr e (n+1))
 | 0,f,a,hs,r,hz=>by cases hz
 | n+1,f,a,hs,r,hz=>by
  cases hE:e.E f with
  | some g =>
   simp only [cr,hE] at hz ⊢
   exact hz
  | none =>
   cases hC:e.C f with
   | none =>
    simp only [cr,hE,hC,Option.bind_none] at hz
    cases hz
   | some fd =>
    have h1:pe (cr e n) { e.md with nm:=e.md.keep f } n fd a hs=some r:=by
     simpa only [cr,hE,hC,Option.bind_some] using hz
    have h2:pe (cr e (n+1)) { e.md with nm:=e.md.keep f } (n+1) fd a hs=some r:=by
     unfold pe at h1 ⊢
     split at h1
     ·rename_i hcc
      rw [if_pos hcc]
      cases hx:bi (cr e n) { e.md with nm:=e.md.keep f } n fd.body (rR a) (aB hs) with
      | none=>rw [hx] at h1; cases h1
      | some q =>
       rw [hx] at h1
       rw [dV (GM e n) (Nat.le_succ n) fd.body hx]
       exact h1
     ·cases h1
    show cr e (n+1+1) f a hs=some r
    show (match e.E f with
     | some g=>g a hs
     | none=>(e.C f).bind fun fd=>pe (cr e (n+1)) { e.md with nm:=e.md.keep f } (n+1) fd a hs)=some r
    rw [hE]
    show (e.C f).bind (fun fd=>pe (cr e (n+1)) { e.md with nm:=e.md.keep f } (n+1) fd a hs)=some r
    rw [hC]
    exact h2
theorem V1 (e:Env) {n k:Nat} (h:n≤k):ww (cr e n) (cr e k):=by
 induction h with
 | refl=>exact fun f a hs r hz=>hz
 | step _ ih=>exact fun f a hs r hz=>GM e _ f a hs r (ih f a hs r hz)
theorem ajl {e:Env} {n:Nat} {f:FuncId} {a:List AV} {hs:List Ob} {r:AV × List Ob} (h:cr e n f a hs=some r):cW e f a hs=some r:=by
 unfold cW
 rw [iA]
 exact ⟨n,fun k hk=>V1 e hk f a hs r h⟩
abbrev AR:=List (Nat × List AV × AV)
def Ju:AR→FuncId→List AV→Option AV
 | [],_,_=>none
 | x::l,f,args=>if x.1=f then (if xw x.2.1 args=true then some x.2.2 else Ju l f args) else Ju l f args
def NA (a:Option AV) (hs:List Ob) (b:Option (AV × List Ob)):Option (AV × List Ob):=match a,hs with
 | some r,[]=>some (r,[])
 | _,_=>b
def Ez (e:Env) (T:AR):Nat→eH
 | 0=>fun _ _ _=>none
 | n+1=>fun f args hs=>NA (Ju T f args) hs (match e.E f with
  | some g=>g args hs
  | none=>(e.C f).bind fun fd=>pe (Ez e T n) { e.md with nm:=e.md.keep f } n fd args hs)
theorem EA {e:Env}:∀ {T:AR} {f:FuncId} {args:List AV} {r:AV},(∀ x ∈ T,cW e x.1 x.2.1 []=some (x.2.2,[]))→Ju T f args=some r→cW e f args []=some (r,[])
 | [],f,args,r,_,h=>by cases h
 | x::l,f,args,r,ht,h=>by
  unfold Ju at h
  split at h
  ·rename_i h1
   split at h
   ·rename_i h2
    cases h
    have:=ht x (by simp)
    rw [h1,n8 h2] at this
    exact this
   ·exact EA (fun y hy=>ht y (by simp [hy])) h
  ·exact EA (fun y hy=>ht y (by simp [hy])) h
theorem jW {call:eH} {md:Mode} {lf:Nat}:∀ (c:Cmd) {s:am} {h:ac} {r:Ex × St},bi call md lf c s h=some r→ak call md c s h=some r
 | .skip,s,h,r,hz=>hz
 | .ops ks l,s,h,r,hz=>hz
 | .dops ks l ps,s,h,r,hz=>hz
 | .seq a b,s,h,r,hz=>by
  simp only [bi,bo] at hz
  split at hz
  ·cases hz
  ·rename_i t1 ht1
   simp only [ak,bo,jW a ht1,jW b hz]
  ·rename_i i t1 ht1
   simp only [ak,bo,jW a ht1]
   exact hz
  ·rename_i t1 ht1
   simp only [ak,bo,jW a ht1]
   exact hz
 | .cond c a b,s,h,r,hz=>by
  simp only [bi,ju] at hz
  split at hz
  ·rename_i t ht
   cases t with
   | true=>simp only [ak,ju,ht,if_true]; exact jW a hz
   | false=>simp only [ak,ju,ht,Bool.false_eq_true,if_false]; exact jW b hz
  ·cases hz
 | .block id ks a,s,h,r,hz=>by
  simp only [bi,au] at hz
  split at hz
  ·cases hz
  ·rename_i t1 ht1
   simp only [ak,au,jW a ht1]
   exact hz
  ·rename_i i t1 ht1
   simp only [ak,au,jW a ht1]
   exact hz
  ·rename_i t1 ht1
   simp only [ak,au,jW a ht1]
   exact hz
 | .loop ks hs a,s,h,r,hz=>by
  simp only [bi] at hz
  simp only [ak,aq]
  rw [iA]
  exact ⟨lf,fun k hk=>xR (fun hh=>jW a hh) lf hk hz⟩
 | .exit id,s,h,r,hz=>hz
 | .ret,s,h,r,hz=>hz
 | .frz is a,s,h,r,hz=>by
  simp only [bi,bc] at hz
  split at hz
  ·cases hz
  ·rename_i t1 ht1
   simp only [ak,bc,ht1]
   exact jW a hz
theorem NB {e:Env} {T:AR} (ht:∀ x ∈ T,cW e x.1 x.2.1 []=some (x.2.2,[])):∀ n,ww (Ez e T n) (cW e)
 | 0=>fun f a hs r hz=>by cases hz
 | n+1=>fun f a hs r hz=>by
  have old:(match e.E f with | some g=>g a hs | none=>(e.C f).bind fun fd=>pe (Ez e T n) { e.md with nm:=e.md.keep f } n fd a hs)=some r→cW e f a hs=some r:=by
   intro hz
   split at hz
   ·rename_i g hE
    rw [Jr hE]
    exact hz
   ·rename_i hE
    simp only [Option.bind_eq_some_iff] at hz
    obtain ⟨fd,hC,hz⟩:=hz
    refine GF hE hC ?_
    unfold pe at hz
    unfold OZ
    split at hz
    ·rename_i hcc
     rw [if_pos hcc]
     cases hx:bi (Ez e T n) { e.md with nm:=e.md.keep f } n fd.body (rR a) (aB hs) with
     | none=>rw [hx] at hz; cases hz
     | some q =>
      rw [hx] at hz
      rw [jW fd.body (dV (NB ht n) (Nat.le_refl n) fd.body hx)]
      exact hz
    ·cases hz
  unfold Ez at hz
  unfold NA at hz
  split at hz
  ·rename_i r' hl
   cases hz
   exact EA ht hl
  ·exact old hz
theorem ag {e:Env}:∀ x ∈ ([]:AR),cW e x.1 x.2.1 []=some (x.2.2,[]):=fun _ h=>by cases h
theorem aa {e:Env} {x:Nat × List AV × AV} {T:AR} (h1:cW e x.1 x.2.1 []=some (x.2.2,[])) (h2:∀ x ∈ T,cW e x.1 x.2.1 []=some (x.2.2,[])):∀ y ∈ x::T,cW e y.1 y.2.1 []=some (y.2.2,[]):=fun y hy=>by
 rcases List.mem_cons.1 hy with rfl | hy
 ·exact h1
 ·exact h2 y hy
theorem aC {e:Env} (T:AR) (n:Nat) (x:Nat × List AV × AV) (ht:∀ x ∈ T,cW e x.1 x.2.1 []=some (x.2.2,[])) (h:Ez e T n x.1 x.2.1 []=some (x.2.2,[])):cW e x.1 x.2.1 []=some (x.2.2,[]):=NB ht n _ _ _ _ h
end Go.Ab
